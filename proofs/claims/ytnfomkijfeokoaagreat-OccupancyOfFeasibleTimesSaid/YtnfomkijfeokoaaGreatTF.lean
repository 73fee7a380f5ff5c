/- Part of a proof. No conditions of their own. -/
import Derived.Test.YtnfomkijfeokoaaGreatTE
import Derived.Test.YtnfomkijfeokoaaGreatTD
import Derived.Test.YtnfomkijfeokoaaGreatTB
import Derived.Test.YtnfomkijfeokoaaGreatTA
set_option linter.unusedVariables false
set_option linter.unusedSimpArgs false
set_option linter.unusedSectionVars false
noncomputable section
abbrev QqD:=@List.mem_of_getElem?
abbrev QqE:=@List.getElem?_cons_zero
abbrev QqF:=@cond_false
abbrev QqG:=@Int.toNat_natCast
abbrev QqH:=@cond_true
abbrev QqI:=@List.getElem?_eq_getElem
abbrev QqJ:=@List.getD_eq_getElem?_getD
abbrev QqK:=@List.getElem?_cons_succ
abbrev QqL:=@List.length_map
abbrev QqM:=@List.getElem?_eq_some_iff
abbrev QqN:=@List.append_assoc
abbrev QqO:=@List.mem_append
abbrev QqP:=@Nat.le_refl
abbrev QqQ:=@List.mem_cons_self
abbrev QqR:=@List.map_append
abbrev QqS:=@List.mem_cons_of_mem
abbrev QqT:=@Int.emod_nonneg
abbrev QqU:=@decide_eq_false
abbrev QqV:=@List.all_eq_true
abbrev QqW:=@List.mem_append_right
abbrev QqX:=@Int.emod_lt_of_pos
abbrev QqY:=@List.mem_singleton
abbrev QqZ:=@Bool.not_true
abbrev Qr0:=@Bool.and_eq_true
abbrev Qr1:=@List.take_length
abbrev Qr2:=@List.length_append
abbrev Qr3:=@List.getElem?_set_self
abbrev Qr4:=@List.mem_append_left
abbrev Qr5:=@Int.le_refl
abbrev Qr6:=@List.getElem?_set_ne
abbrev Qr7:=@List.set_cons_zero
abbrev Qr8:=@Bool.not_false
abbrev Qr9:=@List.append_nil
abbrev Qra:=@decide_eq_true
abbrev Qrb:=@List.any_eq_true
abbrev Qrc:=@List.getElem?_map
abbrev Qrd:=@List.mem_map
abbrev Qre:=@if_pos
abbrev Qrf:=@if_neg
abbrev Qrg:=@Int.emod_eq_of_lt
abbrev Qrh:=@List.length_set
abbrev Qri:=@List.mem_filter
abbrev Qrj:=@List.getElem?_append_right
abbrev Qrk:=@Int.mul_ediv_add_emod
abbrev Qrl:=@Nat.eq_of_beq_eq_true
abbrev Qrm:=@Nat.le_of_ble_eq_true
abbrev Qrn:=@decide_eq_true_eq
abbrev Qro:=@Int.eq_ofNat_of_zero_le
abbrev Qrp:=@List.length_cons
abbrev Qrq:=@Int.sub_emod
abbrev Qrr:=@List.foldl_cons
abbrev Qrs:=@Nat.zero_le
abbrev Qrt:=@Bool.not_eq_true'
namespace Go.Vx
def FB (t:Int) (A B:List Occ) (y:Int):Prop:=∃ x a b c d,(x,a,b)∈A/\(x,c,d)∈B/\(y-(a-d+1)) % t<b-a+d-c-1
theorem Qbs {t:Int} {q:Occ} {A B:List Occ} {y:Int} (h:∀ p∈B,p.1≠q.1):FB t (q::A) B y↔FB t A B y:=by
 constructor
 ·rintro ⟨x,a,b,c,d,e,h2,f⟩;cases e with
  |head=>grind
  |tail _ e=>exact ⟨x,a,b,c,d,e,h2,f⟩
 ·rintro ⟨x,a,b,c,d,e,h2,f⟩;exact ⟨x,a,b,c,d,.tail _ e,h2,f⟩
theorem QbD {t:Int} {q:Occ} {A B:List Occ} {y:Int} (h:∀ p∈A,p.1≠q.1):FB t A (q::B) y↔FB t A B y:=by
 constructor
 ·rintro ⟨x,a,b,c,d,e,h2,f⟩;cases h2 with
  |head=>grind
  |tail _ h2=>exact ⟨x,a,b,c,d,e,h2,f⟩
 ·rintro ⟨x,a,b,c,d,e,h2,f⟩;exact ⟨x,a,b,c,d,e,.tail _ h2,f⟩
theorem QeD {t x a b c d:Int} {A B:List Occ} {y:Int} (hA:∀ p∈A,p.1≠x) (hB:∀ p∈B,p.1≠x):FB t ((x,a,b)::A) ((x,c,d)::B) y↔(y-(a-d+1)) % t<b-a+d-c-1\/FB t A B y:=by
 constructor
 ·rintro ⟨x',a',b',c',d',e,h2,f⟩;cases e with
  |head=>
   grind
  |tail _ e=>
   cases h2 with
   |head=>exact (hA (x,a',b') e rfl).elim
   |tail _ h2=>exact .inr ⟨x',a',b',c',d',e,h2,f⟩
 ·rintro (h | ⟨x',a',b',c',d',e,h2,f⟩)
  ·exact ⟨x,a,b,c,d,.head _,.head _,h⟩
  ·exact ⟨x',a',b',c',d',.tail _ e,.tail _ h2,f⟩
theorem Qh8 (y f t:Int):(y-f % t) % t=(y-f) % t:=by
 rw [Qrq,Int.emod_emod,<- Qrq]
section
variable {R:Type} {n:Nat} {t:Int}
theorem NS (q:Occ):(enc q)[0]? = some (Q4 q.1):=rfl
theorem Ly (q:Occ):(enc q)[1]? = some (Q4 q.2.1):=rfl
theorem FO (q:Occ):(enc q)[2]? = some (Q4 q.2.2):=rfl
theorem Q3H {O:List Occ} (hl:O.length<=1000) {k0:oP R} {k1:Int->Int->Bool->oP R} {E:oP R} (hk:∀ a b c,k1 a b c=E):∀ (ac:List Occ) (i m:Nat) (last:Int),O.drop i=ac->ac.length<m->OL last ac->U3 n (O.map enc) (O.length:Int) k0 k1 m last (i:Int)=E
 |[],i,m+1,last,hd,_,_=>by
  have:=UL hd;rw [U3,show decide ((i:Int)<(O.length:Int))=false by simpa using this,QqF,hk]
 |(x,a,b)::ac,i,m+1,last,hd,hm,⟨f,h2,g,h,j,d⟩=>by
  obtain ⟨e,aj,hi⟩:=YB hd;rw [U3,Qc hi,QqH,QK e];simp -implicitDefEqProofs only [Q0,NS,Ly,FO,Q2,Qp3 (x<=last),Qp3 (a>=b),Qp3 (a < -65536),Qp3 (b>65536),QqF,Qr (show i<=1000 by omega)];exact Q3H hl hk ac (i+1) m x aj (by simpa using hm) d
theorem Q4P {O:List Occ} (hl:O.length<=300) (h:OL (-1) O):Jg 400 (O.map enc) (some:Bool->oP Bool)=some true:=by
 unfold Jg;rw [QqL];exact Q3H QoW (fun _ _ _=>rfl) O 0 400 (-1) rfl QoW h
theorem Qjg {α:Type} (q:α) (l:List α):slB (q::l).length (some (1:Int)) none=some (1,l.length+1)/\cut (q::l) (1,l.length+1)=l:=by
 grind [slB,cut]
theorem LV (e:1<=t) (j:t<=7200) {K:LL->oP R} {k0:LL->LL->Bool->LL->oP R} (hk:∀ a b c w,k0 a b c w=K w):∀ (m:Nat) (A B:List Occ) (acc:List Sp2) (lA lB:Int),A.length+B.length<m->OL lA A->OL lB B->VS t (-1) acc->acc.length+2*A.length<=12 ->
  ∃ ac:List Sp2,Qo 400 t k0 m (A.map enc) (B.map enc) (acc.map Y6)=K (ac.map Y6)/\VS t (-1) ac/\ac.length<=12/\∀ y,0<=y->y<t->(InS y ac↔InS y acc\/FB t A B y)
 |m+1,[],B,acc,lA,lB,_,_,_,hv,hl=>by
  refine ⟨acc,?_,hv,QoW,fun y _ _=>⟨.inl,?_⟩⟩
  ·rw [Qo,show decide (((([]:List Occ).map enc).length:Int)>0)=false from rfl,QqF,QqF,hk]
  ·rintro (h | ⟨x,a,b,c,d,h,_⟩)
   all_goals grind
 |m+1,q::A,[],acc,lA,lB,_,_,_,hv,hl=>by
  refine ⟨acc,?_,hv,by simp at hl;omega,fun y _ _=>⟨.inl,?_⟩⟩
  ·rw [Qo,show decide (((([]:List Occ).map enc).length:Int)>0)=false from rfl,show decide ((((q::A).map enc).length:Int)>0)=true from Qra QoY,QqH,QqF,hk]
  ·rintro (h | ⟨x,a,b,c,d,_,h,_⟩)
   ·exact h
   ·nomatch h
 |m+1,(x,a,b)::A,(x',c,d)::B,acc,lA,lB,hm,hA,hB,hv,hl=>by
  obtain ⟨a1,a2,a3,a4,a5,v⟩:=id hA;obtain ⟨b1,b2,b3,b4,b5,z⟩:=id hB;have ax:A.length+B.length+2<m+1:=by simp at hm;omega
  have a8:acc.length+2*A.length+2<=12:=by simp at hl;omega
  have cA:=Qjg (enc (x,a,b)) (A.map enc);have cB:=Qjg (enc (x',c,d)) (B.map enc);have an:∀ p∈A,x<p.1:=fun p hp=>(v.mem p hp).1
  have ak:∀ p∈B,x'<p.1:=fun p hp=>(z.mem p hp).1
  rw [Qo];simp -implicitDefEqProofs only [List.map_cons,show decide ((((enc (x,a,b)::A.map enc).length:Nat):Int)>0)=true from Qra QoY,show decide ((((enc (x',c,d)::B.map enc).length:Nat):Int)>0)=true from Qra QoY,QqH,show ∀ (r:List D) (l:LL),Q1 (r::l) 0=some r from fun _ _=>rfl,Q0,NS,Ly,FO,Q2,cA,cB];rcases Int.lt_trichotomy x x' with hx | hx | hx
  ·rw [show (x == x')=false by simp;omega,Qp4 (x<=x'),Qp3 (x>=x')];simp -implicitDefEqProofs only [QqH,QqF];obtain ⟨ac,g1,n,o,s⟩:=LV e j hk m A ((x',c,d)::B) acc x lB QoZ v hB hv QoW;refine ⟨ac,g1,n,o,fun y g i=>?_⟩;rw [s y g i,Qbs (fun p hp=>?_)];cases hp with
   |head=>dsimp only;omega
   |tail _ hp=>have:=ak p hp;dsimp only;omega
  ·subst hx;have f0:wJ (wJ (a-d)+1)=a-d+1:=by rw [Q6 (x:=a-d) QoW QoW,Q6 QoW QoW]
   have f1:wJ (wJ (wJ (wJ (b-c)-1)-(a-d+1))+1)=b-a+d-c-1:=by
    rw [Q6 (x:=b-c) QoW QoW,Q6 (x:=b-c-1) QoW QoW,Q6 (x:=b-c-1-(a-d+1)) QoW QoW,Q6 QoW QoW];omega
   have e0:=QqT (a-d+1) (show t≠0 by omega);have e1:=QqX (a-d+1) (show 0<t by omega);have aq:=QhL (t:=t) (f:=a-d+1) (k:=b-a+d-c-1) e j QoW QoW QoW QoW;have a9:=Q9u (t:=t) (x:=(a-d+1) % t) (k:=b-a+d-c-1);obtain ⟨u,u1,u2,u3,u4⟩:=QgL e j hv (Qbu (k:=b-a+d-c-1) e e0 e1) QoW;rw [show (x == x)=true by simp,Qp4 (x<=x)];simp -implicitDefEqProofs only [QqH];unfold Z1;rw [f0,f1,aq,Q0,u1,Q0,Qfq,Q0];obtain ⟨ac,g1,n,o,s⟩:=LV e j hk m A B u x x QoW v z u2 QoW;refine ⟨ac,g1,n,o,fun y g i=>?_⟩;rw [s y g i,u4,Qc4 e0 e1 g i,Qh8,QeD (fun p hp=>by have:=an p hp;omega) (fun p hp=>by have:=ak p hp;omega),or_assoc]
  ·rw [show (x == x')=false by simp;omega,Qp3 (x<=x'),Qp4 (x>=x')];simp -implicitDefEqProofs only [QqH,QqF];obtain ⟨ac,g1,n,o,s⟩:=LV e j hk m ((x,a,b)::A) B acc lA x' QoZ hA z hv hl;refine ⟨ac,g1,n,o,fun y g i=>?_⟩;rw [s y g i,QbD (fun p hp=>?_)];cases hp with
   |head=>dsimp only;omega
   |tail _ hp=>have:=an p hp;dsimp only;omega
theorem QhN {A B:List Occ} (a:1<=t) (b:t<=7200) (hA:OL (-1) A) (hB:OL (-1) B) (lA:A.length<=6) (lB:B.length<=6):∃ F:List Sp2,Je 400 t (A.map enc) (B.map enc) Tu2=some (F.map Y6,(0:Int))/\VS t (-1) F/\F.length<=12/\∀ y,0<=y->y<t->(InS y F↔FB t A B y):=by
 obtain ⟨F,g1,e,f,g⟩:=LV a b (K:=fun w=>(some w:oP LL)) (k0:=fun _ _ _ w=>some w) (fun _ _ _ _=>rfl) 400 A B [] (-1) (-1) QoW hA hB trivial QoZ;refine ⟨F,?_,e,f,fun y i j=>?_⟩
 ·unfold Je;dsimp only [jn];rw [Q4P QoW hA,Q4P QoW hB,Qp3 (t<1),Qp3 (t>7200)];simp -implicitDefEqProofs only [QqF,Q0,QqZ];unfold KC;rw [show Qo 400 t (fun l m n k=>(some k:oP LL)) 400 (A.map enc) (B.map enc) []=_ from g1,Q0]
 ·rw [g y i j];exact ⟨fun h=>h.elim (fun h=>absurd h Lx) id,.inr⟩
def CJ (t:Int) (q:Sp2):Sp2:=(q.2,q.1+t-1)
theorem Qcu (c:t<=7200) (d:1<=t) {K:LL->oP R} {k0:Int->Bool->LL->oP R} (hk:∀ a b w,k0 a b w=K w) {l:List Sp2} (hl:l.length<=1000):∀ (ac:List Sp2) (i m:Nat),l.drop i=ac->ac.length<m->(∀ q∈l,-1<q.1/\q.1<=t)->Zp n t (l.map Y6) (l.length:Int) k0 m (i:Int) (((l.take i).map (CJ t)).map Y6)=K ((l.map (CJ t)).map Y6)
 |[],i,m+1,hd,_,_=>by
  have:=UL hd;rw [Zp,show decide ((i:Int)<(l.length:Int))=false by simpa using this,QqF,hk,List.take_of_length_le this]
 |(a,b)::ac,i,m+1,hd,hm,hr=>by
  obtain ⟨e,aj,hi⟩:=YB hd;have ha:=hr (a,b) (QqD e);rw [Zp,Qc hi,QqH,QK e];simp -implicitDefEqProofs only [Q0,QbC,Qb8,Q2,Qr (show i<=1000 by omega),Q6 (x:=a+t) QoW QoW,Q6 (x:=a+t-1) QoW QoW,XE (show ((((l.take i).map (CJ t)).map Y6).length+[[D.int .i64 b,D.int .i64 (a+t-1)]].length)*16<=100000 by simp;omega)];have:=Qcu c d hk hl ac (i+1) m aj (by simpa using hm) hr;rw [YA e,QqR,QqR] at this;exact this
theorem Qck (c:t<=7200) (d:1<=t) {K:LL->oP R} {k0:Int->Bool->LL->oP R} (hk:∀ a b w,k0 a b w=K w) {l:List Sp2} (hl:l.length<=1000):∀ (ac:List Sp2) (i m:Nat),l.drop i=ac->ac.length<m->(∀ q∈l,-1<q.1/\q.1<=t)->YC n t (l.length:Int) (l.map Y6) k0 m (i:Int) (((l.take i).map (CJ t)).map Y6)=K ((l.map (CJ t)).map Y6)
 |[],i,m+1,hd,_,_=>by
  have:=UL hd;rw [YC,show decide ((i:Int)<(l.length:Int))=false by simp_all,QqF,hk,List.take_of_length_le this]
 |(a,b)::ac,i,m+1,hd,hm,hr=>by
  obtain ⟨e,aj,hi⟩:=YB hd;have ha:=hr (a,b) (QqD e);have f:(l.map Y6)[i]? = some (Y6 (a,b)):=by rw [Qrc,e];rfl
  rw [YC,Qc hi,QqH,QqL,XR QoW QoW,QqG,f];simp -implicitDefEqProofs only [Q0,QbC,Qb8,Q2,Qr (show i<=1000 by omega),Q6 (x:=a+t) QoW QoW,Q6 (x:=a+t-1) QoW QoW,XE (show ((((l.take i).map (CJ t)).map Y6).length+[[D.int .i64 b,D.int .i64 (a+t-1)]].length)*16<=100000 by simp;omega)];have:=Qck c d hk hl ac (i+1) m aj (by simpa using hm) hr;rw [YA e,QqR,QqR] at this;exact this
def WR (t:Int) (F G:List Sp2):Prop:=(G=F/\∀ b M c,F≠(0,b)::(M++[(c,t)]))\/∃ b M c,F=(0,b)::(M++[(c,t)])/\G=M++[(c,t+b)]
theorem Q6U {A B:List Occ} (r:2<=t) (f:t<=7200) (hA:OL (-1) A) (hB:OL (-1) B) (lA:A.length<=6) (lB:B.length<=6):∃ F G:List Sp2,VS t (-1) F/\F.length<=12/\(∀ y,0<=y->y<t->(InS y F↔FB t A B y))/\WR t F G /\
  WB 400 t (A.map enc) (B.map enc) Tu2=some (if cnt F=t then ([],(13:Int)) else ((G.map (CJ t)).map Y6,(0:Int))):=by
 obtain ⟨F,g1,j,k,m⟩:=QhN (t:=t) QoW f hA hB lA lB;have hr:=j.rng;suffices h:∃ G,WR t F G/\WB 400 t (A.map enc) (B.map enc) Tu2=some (if cnt F=t then ([],(13:Int)) else ((G.map (CJ t)).map Y6,(0:Int))) by
  obtain ⟨G,h⟩:=h;exact ⟨F,G,j,k,m,h⟩
 unfold WB;rw [g1,Q0,Q8 (by rfl)];dsimp only;rw [Qhg QoW f QoW j,Q0];have ac:YC 400 t (F.length:Int) (F.map Y6) (fun s u o=>(some (o,(0:Int)):oP (LL×Int))) 400 0 []=some ((F.map (CJ t)).map Y6,(0:Int)):=Qck f QoW (K:=fun w=>some (w,(0:Int))) (k0:=fun _ _ w=>some (w,(0:Int))) (fun _ _ _=>rfl) QoW F 0 400 rfl QoW (fun q hq=>by have:=hr q hq;omega);by_cases aj:cnt F=t
 ·simp only [Qre aj];rw [QR (by simpa using aj)];by_cases hw:∃ b M c,F=(0,b)::(M++[(c,t)])
  ·obtain ⟨b,M,c,e⟩:=hw;exact ⟨_,.inr ⟨b,M,c,e,rfl⟩,rfl⟩
  ·exact ⟨F,.inl ⟨rfl,fun b M c e=>hw ⟨b,M,c,e⟩⟩,rfl⟩
 simp only [Qrf aj];rw [Q8 (by simpa using aj),QqL];rcases F with _ | ⟨⟨a,b⟩,F⟩
 ·refine ⟨[],.inl ⟨rfl,fun b M c e=>(nomatch e)⟩,?_⟩;rw [show decide (((([]:List Sp2).length:Nat):Int)>1)=false from rfl];simp -implicitDefEqProofs only [gbF,QqF];exact ac
 rcases List.eq_nil_or_concat F with rfl | ⟨M,⟨c,d⟩,rfl⟩
 ·refine ⟨[(a,b)],.inl ⟨rfl,fun b M c e=>by have:=congrArg List.length e;simp at this⟩,?_⟩;rw [show decide ((((([(a,b)]:List Sp2)).length:Nat):Int)>1)=false from rfl];simp -implicitDefEqProofs only [gbF,QqF];exact ac
 have hM:M.length<=10:=by simp at k;omega
 have ak:((a,b)::(M++[(c,d)])).length=M.length+1+1:=by simp
 have az:=hr (c,d) QoY;have aq:=hr (a,b) QoY;have e1:((a,b)::(M++[(c,d)])).map Y6=(Y6 (a,b)::M.map Y6)++Y6 (c,d)::[]:=by simp
 have gl:(((a,b)::(M++[(c,d)])).map Y6)[M.length+1]? = some (Y6 (c,d)):=by rw [e1];exact Qh7 QoY
 have sl:∀ v,(((a,b)::(M++[(c,d)])).map Y6).set (M.length+1) (Y6 (c,v))=((a,b)::(M++[(c,v)])).map Y6:=fun v=>by rw [e1,Qho QoY];simp
 rw [List.concat_eq_append] at *
 rw [ak,Qp4 (((M.length+1+1:Nat):Int)>1),Ju (show M.length+1+1<=1000 by omega) QoW,Nat.add_sub_cancel,XR QoW QoW,XR QoW QoW];simp -implicitDefEqProofs only [Q0,QqG,gl,QqH,show (((a,b)::(M++[(c,d)])).map Y6)[Int.toNat 0]? = some (Y6 (a,b)) from rfl,QbC,Qb8,Q2,Qjt];by_cases ao:a=0/\d=t
 ·obtain ⟨rfl,rfl⟩:=ao;refine ⟨M++[(c,d+b)],.inr ⟨b,M,c,rfl,rfl⟩,?_⟩;rw [show ((0:Int) == 0)=true from rfl,show (d == d)=true by simp,QqH,QqH,Q6 (x:=d+b) QoW QoW,sl];have an:=Qjg (Y6 (0,b)) ((M++[(c,d+b)]).map Y6);rw [List.map_cons,an.1,Q0,an.2,QqL];exact Qcu (n:=400) f QoW (K:=fun w=>(some (w,(0:Int)):oP (LL×Int))) (k0:=fun _ _ w=>some (w,(0:Int))) (fun _ _ _=>rfl) (l:=M++[(c,d+b)]) QoZ (M++[(c,d+b)]) 0 400 rfl QoZ (fun q hq=>by
   rcases QqO.1 hq with h | h
   ·have:=hr q (.tail _ (Qr4 _ h));omega
   ·obtain rfl:=QqY.1 h;dsimp only at *
    omega)
 ·have hz:(bif (a == (0:Int)) then (d == t) else false)=false:=by
   by_cases ha:a=0
   ·rw [ha,show ((0:Int) == 0)=true from rfl,QqH];simp only [beq_eq_false_iff_ne];exact fun h=>ao ⟨ha,h⟩
   ·rw [show (a == (0:Int))=false by simpa using ha,QqF]
  refine ⟨_,.inl ⟨rfl,fun b' M' c' e=>ao ?_⟩,?_⟩
  ·have e2:=List.cons.inj e;have p:=List.append_inj_right' e2.2 rfl;have:=(Prod.mk.inj e2.1).1;have:=(Prod.mk.inj (List.cons.inj p).1).2;exact ⟨QoW,QoW⟩
  rw [hz,QqF];rw [ak] at ac;exact ac
end
theorem Ty {α β:Type} {r:Nat->Int->β} {l:List α} {p:α->Bool} {E0 E1:β} (a:∀ m i q,l[i]? = some q->i<l.length->r (m+1) (i:Int)=bif p q then r m ((i+1:Nat):Int) else E0) (b:∀ m,r (m+1) (l.length:Int)=E1) {fuel:Nat} (hf:l.length<fuel):r fuel 0=bif l.all p then E1 else E0:=by
 have go:∀ (ac:List α) (i m:Nat),l.drop i=ac->ac.length<m->i<=l.length->r m (i:Int)=bif ac.all p then E1 else E0:=by
  intro ac;induction ac with
  |nil=>
   intro i m hd hm hi;obtain ⟨m,rfl⟩:∃ k,m=k+1:=⟨m-1,QoW⟩
   grind
  |cons q ac ih=>
   intro i m hd hm hi;obtain ⟨m,rfl⟩:∃ k,m=k+1:=⟨m-1,QoW⟩
   grind [YB]
 exact go l 0 fuel rfl hf (Qrs _)
theorem Fa {α β S:Type} {r:Nat->Int->S->β} {l:List α} {f:S->α->S} {E:S->β} (a:∀ m i q s,l[i]? = some q->i<l.length->r (m+1) (i:Int) s=r m ((i+1:Nat):Int) (f s q)) (b:∀ m s,r (m+1) (l.length:Int) s=E s) {fuel:Nat} (hf:l.length<fuel) (s:S):r fuel 0 s=E (l.foldl f s):=by
 have go:∀ (ac:List α) (i m:Nat) (s:S),l.drop i=ac->ac.length<m->i<=l.length->r m (i:Int) s=E (ac.foldl f s):=by
  intro ac;induction ac with
  |nil=>
   intro i m s hd hm hi;obtain ⟨m,rfl⟩:∃ k,m=k+1:=⟨m-1,QoW⟩
   grind
  |cons q ac ih=>
   intro i m s hd hm hi;obtain ⟨m,rfl⟩:∃ k,m=k+1:=⟨m-1,QoW⟩;obtain ⟨e,ak,aj⟩:=YB hd;rw [a m i q s e aj,Qrr,ih (i+1) m _ ak Qp2 aj]
 exact go l 0 fuel s rfl hf (Qrs _)
theorem FE {α:Type} {p:α->Bool}:∀ {l:List α} {c:Bool},l.foldl (fun c q=>c||p q) c=(c||l.any p)
 |[],c=>(Bool.or_false c).symm
 |q::l,c=>by rw [Qrr,FE,List.any_cons,Bool.or_assoc]
def RU (t:Int) (q:Occ):Bool:=!decide (q.2.2-q.2.1>t)
theorem Qjo {l:Int} {O:List Occ} (hO:OL l O) {q:Occ} (hq:q∈O):wJ (q.2.2-q.2.1)=q.2.2-q.2.1:=by
 have:=hO.mem q hq
 grind [Q6]
theorem QgB {t:Int} {O:List Occ} (a:1<=t) (b:t<=7200) (hO:OL (-1) O) (hl:O.length<=300):HO 400 t (O.map enc) (some:Bool->oP Bool)=some (O.all (RU t)):=by
 unfold HO;rw [Qp3 (t<1),Qp3 (t>7200),Q4P hl hO];simp -implicitDefEqProofs only [QqF,Q0,QqZ,Qr8,QqL];refine (Ty (r:=fun m i=>U7 400 t (O.map enc) (O.length:Int) (some false) (fun _ _=>some true) m i) (l:=O) (p:=RU t) (E0:=some false) (E1:=some true) (fun m i q e hi=>?_) (fun m=>?_) QoW).trans (by cases O.all (RU t) <;> rfl)
 ·rw [U7,Qc hi,QqH,QK e];simp -implicitDefEqProofs only [Q0,NS,Ly,FO,Q2,Qr (show i<=1000 by omega),Qjo hO (QqD e)];unfold RU;cases decide (q.2.2-q.2.1>t) <;> rfl
 ·rw [U7,Qi,QqF]
def tie (la:Int) (x y:Occ):Bool:=bif x.1 == y.1 then decide (la+y.2.1<=x.2.2) else false
def B2 (per la mo:Int) (x y:Occ):Bool:=decide ((if x.2.2<mo+y.2.2 then mo+y.2.2 else x.2.2)-(if la+y.2.1<x.2.1 then la+y.2.1 else x.2.1)>per)
def Q8o (per la mo:Int) (A B:List Occ):Bool:=A.any fun x=>B.any fun y=>bif tie la x y then B2 per la mo x y else false
def Q12 (la:Int) (A B:List Occ) (r:Int):Bool:=A.any fun x=>B.any fun y=>bif tie la x y then x.1 == r else false
namespace Cx
variable {R:Type} {n:Nat} {X:Cx}
theorem QhS {per la mo:Int} {O:List Occ} (hO:OL (-1) O) (hl:O.length<=300) {x:Occ} (hx : -1000<=x.2.1/\x.2.1<x.2.2/\x.2.2<=20000) (d:0<=la) (f:la<=20000) (h2:0<=mo) (g:mo<=20000) {k0:Int->Bool->Bool->oP R} {Kc:Bool->oP R} (hk:∀ a b c,k0 a b c=Kc c) (c:Bool) :
  QH n (O.map enc) (O.length:Int) la (Q4 x.1) (Q4 x.2.1) (Q4 x.2.2) per la mo k0 400 0 c=Kc (c||O.any fun y=>bif tie la x y then B2 per la mo x y else false):=by
 rw [<- FE];refine Fa (r:=fun m i c=>QH n (O.map enc) (O.length:Int) la (Q4 x.1) (Q4 x.2.1) (Q4 x.2.2) per la mo k0 m i c) (E:=Kc) (fun m i q c e hi=>?_) (fun m c=>?_) QoW c
 ·have:=hO.mem q (QqD e);rw [QH,Qc hi,QqH,QK e];simp -implicitDefEqProofs only [Q0,NS,Ly,FO,Q2,Qr (show i<=1000 by omega),Q6 (x:=la+q.2.1) QoW QoW];unfold Y0;simp -implicitDefEqProofs only [Q0,Q6 (x:=la+q.2.1) QoW QoW,Q6 (x:=mo+q.2.2) QoW QoW];rw [Q6 (x:=(if x.2.2<mo+q.2.2 then mo+q.2.2 else x.2.2)-(if la+q.2.1<x.2.1 then la+q.2.1 else x.2.1)) (by split <;> split <;> omega) (by split <;> split <;> omega)];show (bif tie la x q then QH n (O.map enc) (O.length:Int) la (Q4 x.1) (Q4 x.2.1) (Q4 x.2.2) per la mo k0 m ((i+1:Nat):Int) (bif c then true else B2 per la mo x q) else _)=_;cases tie la x q <;> cases c <;> rfl
 ·rw [QH,Qi,QqF,hk]
theorem map1 {la:Int} {O:List Occ} (hO:OL (-1) O) (hl:O.length<=300) {x:Occ} (d:0<=la) (f:la<=20000) {k0:Int->Bool->(Int->Bool)->oP R} {Kc:(Int->Bool)->oP R} (hk:∀ a b c,k0 a b c=Kc c) (c:Int->Bool) :
  QW n (O.map enc) (O.length:Int) la (Q4 x.1) (Q4 x.2.1) (Q4 x.2.2) k0 400 0 c=Kc (O.foldl (fun c y=>bif tie la x y then Q7r c x.1 true else c) c):=by
 refine Fa (r:=fun m i c=>QW n (O.map enc) (O.length:Int) la (Q4 x.1) (Q4 x.2.1) (Q4 x.2.2) k0 m i c) (E:=Kc) (fun m i q c e hi=>?_) (fun m c=>?_) QoW c
 ·have:=hO.mem q (QqD e);rw [QW,Qc hi,QqH,QK e];simp -implicitDefEqProofs only [Q0,NS,Ly,FO,Q2,Qr (show i<=1000 by omega),Q6 (x:=la+q.2.1) QoW QoW];unfold Xr;simp -implicitDefEqProofs only [Q0];show (bif tie la x q then _ else _)=_;cases tie la x q <;> rfl
 ·rw [QW,Qi,QqF,hk]
theorem Qg1 {q:Int->Bool} {x r:Int}:Q7r q x true r=(q r||(x == r)):=by
 grind [Q7r]
theorem Qgd {la:Int} {x:Occ} {r:Int}:∀ {O:List Occ} {c:Int->Bool},O.foldl (fun c y=>bif tie la x y then Q7r c x.1 true else c) c r=(c r||O.any fun y=>bif tie la x y then x.1 == r else false)
 |[],c=>(Bool.or_false _).symm
 |y::O,c=>by
  rw [Qrr,Qgd,List.any_cons];cases tie la x y
  ·rfl
  ·rw [QqH,QqH,Qg1,Bool.or_assoc]
def occN (X:Cx) (a:Nat):List Occ:=(X.occs X.L).getD a []
def N (X:Cx):Nat:=base X.nr X.L
variable (h:X.OK)
include h
theorem Jl {a:Nat} (ha:a<X.N):Q1 (GM (X.occs X.L)) (a:Int)=some [D.sl 3 ((X.occN a).map enc)]/\OL (-1) (X.occN a)/\(X.occN a).length<=6:=by
 obtain ⟨i,k,b,h2,rfl⟩:=Q6V ha;have e:X.occN (base X.nr i+k)=X.occ i k:=by
  unfold occN;rw [QqJ,show (X.occs X.L)[base X.nr i+k]? = some (X.occ i k) from Ey h2 b];rfl
 rw [e];exact ⟨Qgf b h2,occ_ok h b h2⟩
theorem Qec:X.jns.length<=30:=by
 have:=QeC h (i:=X.L) (QqP _);have:=h.tl
 grind [jns,List.length_append,List.length_map]
structure JOK (X:Cx) (J:List Tup):Prop where
 at':∀ t∈J,t.1<X.N/\t.2.1<X.N/\0<=t.2.2.1/\t.2.2.1<=20000/\0<=t.2.2.2/\t.2.2.2<=20000
 len:J.length<=30
theorem QiI {J:List Tup} (hJ:X.JOK J) {per:Int} {t:Tup} (ht:t∈J) (K:Bool->oP R):ZO 400 per (GM (X.occs X.L)) (t.1:Int) (t.2.1:Int) t.2.2.1 t.2.2.1 t.2.2.2 false K=K (Q8o per t.2.2.1 t.2.2.2 (X.occN t.1) (X.occN t.2.1)):=by
 have hj:=hJ.at' t ht;have oa:=Jl h hj.1;have ob:=Jl h hj.2.1;unfold ZO Q8o;rw [oa.1];simp -implicitDefEqProofs only [Q0,QqE,QJ,QqL];rw [<- Bool.false_or (List.any _ _),<- FE];refine Fa (r:=fun m i c=>Xh 400 ((X.occN t.1).map enc) (((X.occN t.1).length:Nat):Int) (t.2.1:Int) t.2.2.1 per (GM (X.occs X.L)) t.2.2.1 t.2.2.2 (fun b d a=>K a) m i c) (E:=K) (fun m i q c e hi=>?_) (fun m c=>?_) QoW false
 ·have hq:=oa.2.1.mem q (QqD e);rw [Xh,Qc hi,QqH,QK e,ob.1];simp -implicitDefEqProofs only [Q0,NS,Ly,FO,QqE,QJ,QqL,Qr (show i<=1000 by omega)];exact QhS (per:=per) ob.2.1 QoW ⟨hq.2.1,hq.2.2.1,hq.2.2.2.1⟩ hj.2.2.1 hj.2.2.2.1 hj.2.2.2.2.1 hj.2.2.2.2.2 (Kc:=fun c=>Xh 400 ((X.occN t.1).map enc) (((X.occN t.1).length:Nat):Int) (t.2.1:Int) t.2.2.1 per (GM (X.occs X.L)) t.2.2.1 t.2.2.2 (fun b d a=>K a) m ((i+1:Nat):Int) c) (fun _ _ _=>rfl) c
 ·rw [Xh,Qi,QqF]
theorem Qk4 {J:List Tup} (hJ:X.JOK J) {t:Tup} (ht:t∈J) (q:Int->Bool):∃ q',(∀ K:(Int->Bool)->oP R,ZP 400 (GM (X.occs X.L)) (t.1:Int) (t.2.1:Int) t.2.2.1 q K=K q')/\∀ r,q' r=(q r||Q12 t.2.2.1 (X.occN t.1) (X.occN t.2.1) r):=by
 have hj:=hJ.at' t ht;have oa:=Jl h hj.1;have ob:=Jl h hj.2.1;refine ⟨(X.occN t.1).foldl (fun q x=>(X.occN t.2.1).foldl (fun c y=>bif tie t.2.2.1 x y then Q7r c x.1 true else c) q) q,fun K=>?_,fun r=>?_⟩
 ·unfold ZP;rw [oa.1];simp -implicitDefEqProofs only [Q0,QqE,QJ,QqL];refine Fa (r:=fun m i c=>Xi 400 ((X.occN t.1).map enc) (((X.occN t.1).length:Nat):Int) (t.2.1:Int) t.2.2.1 (GM (X.occs X.L)) (fun b d a=>K a) m i c) (E:=K) (fun m i q c e hi=>?_) (fun m c=>?_) QoW q
  ·rw [Xi,Qc hi,QqH,QK e,ob.1];simp -implicitDefEqProofs only [Q0,NS,Ly,FO,QqE,QJ,QqL,Qr (show i<=1000 by omega)];exact map1 ob.2.1 QoW hj.2.2.1 hj.2.2.2.1 (Kc:=fun c=>Xi 400 ((X.occN t.1).map enc) (((X.occN t.1).length:Nat):Int) (t.2.1:Int) t.2.2.1 (GM (X.occs X.L)) (fun b d a=>K a) m ((i+1:Nat):Int) c) (fun _ _ _=>rfl) c
  ·rw [Xi,Qi,QqF]
 ·unfold Q12;generalize X.occN t.1=A;induction A generalizing q with
  |nil=>exact (Bool.or_false _).symm
  |cons x A ih=>rw [Qrr,ih,Qgd,List.any_cons,Bool.or_assoc]
def jab (a b:Nat) (t:Tup):Bool:=bif (bif (t.1:Int) == (a:Int) then (t.2.1:Int) == (b:Int) else false) then true else bif (t.1:Int) == (b:Int) then (t.2.1:Int) == (a:Int) else false
def TRb (X:Cx) (J:List Tup) (a b:Nat) (r:Int):Bool:=J.any fun t=>bif jab a b t then Q12 t.2.2.1 (X.occN t.1) (X.occN t.2.1) r else false
theorem QiM {J:List Tup} (hJ:X.JOK J) {a b:Nat}:∃ q,(XU 400 (GM (X.occs X.L)) (J.map tuR) (a:Int) (b:Int) some:oP (Int->Bool))=some q/\∀ r,q r=X.TRb J a b r:=by
 have hl:=hJ.len;unfold XU;rw [QqL];have go:∀ (ac:List Tup) (i m:Nat) (q:Int->Bool),J.drop i=ac->ac.length<m->∃ q',(Qu 400 (a:Int) (b:Int) (J.map tuR) (J.length:Int) (GM (X.occs X.L)) (fun n o j=>some j) m (i:Int) q:oP (Int->Bool))=some q'/\∀ r,q' r=(q r||X.TRb ac a b r):=by
  intro ac;induction ac with
  |nil=>
   intro i m q hd hm;obtain ⟨m,rfl⟩:∃ k,m=k+1:=⟨m-1,by simp at hm;omega⟩;have:=UL hd;exact ⟨q,by rw [Qu,show decide ((i:Int)<(J.length:Int))=false by simpa using this,QqF],fun r=>(Bool.or_false _).symm⟩
  |cons t ac ih=>
   intro i m q hd hm;obtain ⟨m,rfl⟩:∃ k,m=k+1:=⟨m-1,by simp at hm;omega⟩;obtain ⟨e,ak,hi⟩:=YB hd;obtain ⟨l,c,h2⟩:=Qk4 (R:=Int->Bool) h hJ (QqD e) q;rw [Qu,Qc hi,QqH,QK e];simp -implicitDefEqProofs only [Q0,tuR,QqE,QqK,Q2,Qr (show i<=1000 by omega),c];show ∃ q',(bif jab a b t then _ else _)=some q'/\_;cases aj:jab a b t with
   |false=>
    obtain ⟨d,f,g⟩:=ih (i+1) m q ak (by simpa using hm);refine ⟨d,f,fun r=>?_⟩;rw [g,TRb,TRb,List.any_cons,aj,QqF,Bool.false_or]
   |true=>
    obtain ⟨d,f,g⟩:=ih (i+1) m l ak (by simpa using hm);refine ⟨d,f,fun r=>?_⟩;rw [g,h2,TRb,TRb,List.any_cons,aj,QqH,Bool.or_assoc]
 obtain ⟨q,c,h2⟩:=go J 0 400 (fun _=>false) rfl QoW;exact ⟨q,c,fun r=>by rw [h2,Bool.false_or]⟩
theorem Qak:∀ o∈X.occs X.L,OL (-1) o/\o.length<=6:=by
 intro o ho;obtain ⟨a,ha⟩:=List.getElem?_of_mem ho;have ac:=(QqM.1 ha).1;rw [show (X.occs X.L).length=X.N from Zs] at ac;obtain ⟨b,h2⟩:=(Jl h ac).2
 simp_all [occN,QqJ]
def aloneJ (X:Cx) (per:Int) (J:List Tup):Bool:=bif (X.occs X.L).all (fun o=>o.all (RU per)) then J.all fun t=>!Q8o per t.2.2.1 t.2.2.2 (X.occN t.1) (X.occN t.2.1) else false
theorem Qfr {per:Int} (p0:1<=per) (p1:per<=300) {J:List Tup} (hJ:X.JOK J) (K:Bool->oP R):ZA 400 per (GM (X.occs X.L)) (J.map tuR) K=K (X.aloneJ per J):=by
 have hN:(X.occs X.L).length<=6:=by rw [show (X.occs X.L).length=base X.nr X.L from Zs];exact base_le h
 have hl:=hJ.len;have hO:=Qak h;unfold ZA;rw [J9,QqL];refine (Ty (r:=fun m i=>Xw 400 (GM (X.occs X.L)) (((X.occs X.L).length:Nat):Int) per (K false) (fun c d=>X8 400 (J.map tuR) (J.length:Int) per (GM (X.occs X.L)) (K false) (fun a b=>K true) 400 0) m i) (l:=X.occs X.L) (p:=fun o=>o.all (RU per)) (E0:=K false) (E1:=bif J.all (fun t=>!Q8o per t.2.2.1 t.2.2.2 (X.occN t.1) (X.occN t.2.1)) then K true else K false) (fun m i o e hi=>?_) (fun m=>?_) QoW).trans ?_
 ·have ho:=hO o (QqD e);have ac:Q1 (GM (X.occs X.L)) (i:Int)=some [D.sl 3 (o.map enc)]:=QK e;rw [Xw,Qc hi,QqH,ac];simp -implicitDefEqProofs only [Q0,QqE,QJ,QgB p0 (show per<=7200 by omega) ho.1 (show o.length<=300 by omega),Qr (show i<=1000 by omega)];cases o.all (RU per) <;> rfl
 ·rw [Xw,Qi,QqF];refine Ty (r:=fun m i=>X8 400 (J.map tuR) (J.length:Int) per (GM (X.occs X.L)) (K false) (fun a b=>K true) m i) (fun m i t e hi=>?_) (fun m=>?_) QoW
  ·rw [X8,Qc hi,QqH,QK e];simp -implicitDefEqProofs only [Q0,tuR,QqE,QqK,Q2,Qr (show i<=1000 by omega),QiI h hJ (QqD e)];cases Q8o per t.2.2.1 t.2.2.2 (X.occN t.1) (X.occN t.2.1) <;> rfl
  ·rw [X8,Qi,QqF]
 ·unfold aloneJ;cases (X.occs X.L).all (fun o=>o.all (RU per)) <;> cases J.all (fun t=>!Q8o per t.2.2.1 t.2.2.2 (X.occN t.1) (X.occN t.2.1)) <;> rfl
end Cx
namespace Cx
def aR (X:Cx) (i k:Nat):List D:=[Q4 1,Q4 ((2*(base X.nr i+k):Nat):Int),Q4 ((2*(base X.nr i+k)+1:Nat):Int),Q4 (X.run i k),Q4 (X.run i k+X.ex i k),Q4 (X.w i)]
def aD (X:Cx) (i k:Nat):List D:=[Q4 2,Q4 ((2*(base X.nr i+k)+1:Nat):Int),Q4 ((2*(base X.nr i+k+1):Nat):Int),Q4 (X.mn i k),Q4 (X.mx i k),Q4 (X.w i)]
def pl (X:Cx) (i:Nat):Nat->LL
 |0=>[]
 |k+1=>pl X i k++[X.aR i k]++(if k<X.nr i-1 then [X.aD i k] else [])
def pls (X:Cx):Nat->LL
 |0=>[]
 |i+1=>pls X i++X.pl i (X.nr i)
def chE (X:Cx) (row:List D):List D:=match row with
 |[.int _ f,.int _ fr,.int _ t,.int _ tr,mn,mx,w]=>[Q4 3,Q4 ((2*(base X.nr f.toNat+fr.toNat)+1:Nat):Int),Q4 ((2*(base X.nr t.toNat+tr.toNat):Nat):Int),mn,mx,w]
 |_=>[]
def tuE (X:Cx) (t:Tup):List D:=[Q4 4,Q4 ((2*(base X.nr t.1+(X.nr t.1-1))+1:Nat):Int),Q4 ((2*(base X.nr t.2.1+0):Nat):Int),Q4 t.2.2.1,Q4 t.2.2.2,Q4 1]
def syE (X:Cx) (row:List D):List D:=match row with
 |[_,_,_,_,o]=>[Q4 5,Q4 ((2*(base X.nr 0+0):Nat):Int),Q4 ((2*(base X.nr 1+0):Nat):Int),o,o,Q4 0]
 |_=>[]
def planned (X:Cx) (Ch Sy:LL):LL:=X.pls X.L++Ch.map X.chE++X.T.map X.tuE++Sy.map X.syE
variable {R:Type} {n:Nat} {X:Cx}
theorem Q7n {i:Nat}:∀ {k:Nat},(X.pl i k).length<=2*k
 |0=>QqP _
 |k+1=>by
  have:=Q7n (i:=i) (k:=k);rw [pl,Qr2,Qr2];split <;> simp <;> omega
theorem Au:∀ {i:Nat},(X.pls i).length<=2*base X.nr i
 |0=>QqP _
 |i+1=>by
  have:=Au (i:=i);have:=Q7n (X:=X) (i:=i) (k:=X.nr i);rw [pls,Qr2,base];omega
structure LsOK (X:Cx) (per:Int) (Ch Sy:LL):Prop where
 ch:∀ row∈Ch,∃ (f fr t tr:Nat) (mn mx w:Int),row=[Q4 f,Q4 fr,Q4 t,Q4 tr,Q4 mn,Q4 mx,Q4 w]/\f<X.Ls.length/\fr<X.nr f/\t<X.Ls.length/\tr<X.nr t/\(0<=mn/\mn<20/\mn<=mx/\mx<mn+per)/\0<=w/\w<3
 chl:Ch.length<=2
 sy:∀ row∈Sy,∃ o:Int,row=[Q4 0,Q4 0,Q4 1,Q4 0,Q4 o]/\0<=o/\o<per/\2<=X.Ls.length
 syl:Sy.length<=1
variable (h:X.OK) {per:Int} {Ch Sy De:LL} (hl:X.LsOK per Ch Sy)
theorem QeX {A:LL} (hA:A.length<=1000) {a1 a2 a b c d:Int} (K:LL->oP R):Xb n A a1 a2 a b c d K=K (A++[[Q4 a1,Q4 a2,Q4 a,Q4 b,Q4 c,Q4 d]]):=by
 grind [Xb,XE,Q0]
include h
theorem Qi3 {i:Nat} (hi:i<X.Ls.length) {k0:Int->Bool->LL->oP R}:Qs 400 (i:Int) (Kp X.Ls i) ((X.nr i:Nat):Int) (Q4 (X.w i)) (D.sl 4 (Kp X.Ls i)) (X.fst X.L) (encI (X.runs X.L)) k0 400 0 (X.pls i)=k0 ((X.nr i:Nat):Int) false (X.pls i++X.pl i (X.nr i)):=by
 have hn:=(K3 h hi).2.1;have hb:=Ye h (i:=i) QoW;have hp:=Au (X:=X) (i:=i);have hw:wJ (((List.length (Kp X.Ls i):Nat):Int)-1)=((X.nr i-1:Nat):Int):=Ju (k:=X.nr i) QoW QoW;refine Qt (r:=fun m k=>Qs 400 (i:Int) (Kp X.Ls i) ((X.nr i:Nat):Int) (Q4 (X.w i)) (D.sl 4 (Kp X.Ls i)) (X.fst X.L) (encI (X.runs X.L)) k0 m k (X.pls i++X.pl i k.toNat)) (N:=X.nr i) (fun m k hk=>?_) (fun m=>?_) (X.nr i) 400 0 QoW QoW |> Eq.trans (by simp [pl])
 ·simp only [QqG];have r:=rd h hi hk;have b:=r.ex0;have e1:=r.ex1;have hr:=R2 h hi hk;have ac:Q1 (Kp X.Ls i) (k:Int)=some [Q4 (rF X.Ls i k 0),Q4 (X.ex i k),Q4 (X.mn i k),Q4 (X.mx i k)]:=by rw [Qd,r.row]
  have ak:=Q7n (X:=X) (i:=i) (k:=k);have aj:=Q6o (X:=X) hi hk;rw [Qs,Qc hk,QqH,ac];simp -implicitDefEqProofs only [Q0,QqE,QqK,Q2,QJ,hw,Q0N (n:=400) h hi (show k<=10 by omega),aj,Qr (show k<=1000 by omega),QcW (n:=400) (show base X.nr i+k<=1000 by omega),QhY (n:=400) (show base X.nr i+k<=1000 by omega),Qr (show base X.nr i+k<=1000 by omega),QcW (n:=400) (show base X.nr i+k+1<=1000 by omega),Q6 (x:=X.run i k+X.ex i k) QoW QoW,QeX (n:=400) (A:=X.pls i++X.pl i k) QoZ,QeX (n:=400) (A:=X.pls i++X.pl i k++[[Q4 1,Q4 ((2*(base X.nr i+k):Nat):Int),Q4 ((2*(base X.nr i+k)+1:Nat):Int),Q4 (X.run i k),Q4 (X.run i k+X.ex i k),Q4 (X.w i)]]) QoZ];by_cases a:k<X.nr i-1
  ·rw [Qc a,QqH,pl,Qre a,<- QqN,<- QqN];rfl
  ·rw [Qp3 ((k:Int)<((X.nr i-1:Nat):Int)),QqF,pl,Qrf a,Qr9,<- QqN];rfl
 ·simp only [QqG];rw [Qs,Qi,QqF]
include hl
theorem Qbd (K:LL->oP R):Yj 400 X.Ls Ch (X.T.map tuR) Sy (X.fst X.L) (encI (X.runs X.L)) [] K=K (X.planned Ch Sy):=by
 have l1:=h.l1;have tl:=h.tl;have hp:=Au (X:=X) (i:=X.L);have hb:=base_le h;have chl:=hl.chl;have syl:=hl.syl;unfold Yj;have s2:∀ k0:Int->Bool->LL->oP R,QD 400 X.Ls (X.Ls.length:Int) (X.fst X.L) (encI (X.runs X.L)) k0 400 0 []=k0 (X.Ls.length:Int) false (X.pls X.L):=by
  intro k0;refine Qt (r:=fun m i=>QD 400 X.Ls (X.Ls.length:Int) (X.fst X.L) (encI (X.runs X.L)) k0 m i (X.pls i.toNat)) (N:=X.Ls.length) (fun m i hi=>?_) (fun m=>?_) X.Ls.length 400 0 QoW QoW
  ·simp only [QqG];rw [QD,Qc hi,QqH,Qd,(K3 h hi).1];simp -implicitDefEqProofs only [Q0,QqE,QqK,QJ,Qr (show i<=1000 by omega)];exact Qi3 h hi
  ·simp only [QqG];rw [QD,Qi,QqF];rfl
 have k:∀ k0:Int->Bool->LL->oP R,QF 400 Ch (Ch.length:Int) (X.fst X.L) k0 400 0 (X.pls X.L)=k0 (Ch.length:Int) false (X.pls X.L++Ch.map X.chE):=by
  intro k0;refine Qt (r:=fun m j=>QF 400 Ch (Ch.length:Int) (X.fst X.L) k0 m j (X.pls X.L++(Ch.take j.toNat).map X.chE)) (N:=Ch.length) (fun m j hj=>?_) (fun m=>?_) Ch.length 400 0 QoW QoW |> Eq.trans QoY
  ·simp only [QqG];obtain ⟨row,e⟩:∃ q,Ch[j]? = some q:=⟨Ch[j],QqI hj⟩;obtain ⟨f,fr,t,tr,mn,mx,w,rfl,g1,l,c,v,x,y⟩:=hl.ch row (QqD e);have nf:=(K3 h g1).2.1;have nt:=(K3 h c).2.1;have bf:=Ye h (i:=f) QoW;have bt:=Ye h (i:=t) QoW;rw [QF,Qc hj,QqH,Qd,e,YA e,QqR,<- QqN];simp -implicitDefEqProofs only [Q0,QqE,QqK,Q2,Q0N (n:=400) h g1 (show fr<=10 by omega),Q0N (n:=400) h c (show tr<=10 by omega),Qr (show j<=1000 by omega),QhY (n:=400) (show base X.nr f+fr<=1000 by omega),QcW (n:=400) (show base X.nr t+tr<=1000 by omega),QeX (n:=400) (A:=X.pls X.L++(Ch.take j).map X.chE) QoZ];rfl
  ·simp only [QqG];rw [QF,Qi,QqF,Qr1]
 have p:∀ k0:Int->Bool->LL->oP R,QE 400 (X.T.map tuR) (X.T.length:Int) (X.fst X.L) X.Ls k0 400 0 (X.pls X.L++Ch.map X.chE)=k0 (X.T.length:Int) false (X.pls X.L++Ch.map X.chE++X.T.map X.tuE):=by
  intro k0;refine Qt (r:=fun m j=>QE 400 (X.T.map tuR) (X.T.length:Int) (X.fst X.L) X.Ls k0 m j (X.pls X.L++Ch.map X.chE++(X.T.take j.toNat).map X.tuE)) (N:=X.T.length) (fun m j hj=>?_) (fun m=>?_) X.T.length 400 0 QoW QoW |> Eq.trans QoY
  ·simp only [QqG];obtain ⟨⟨a,b,lo,hi⟩,e⟩:∃ q,X.T[j]? = some q:=⟨X.T[j],QqI hj⟩;have ht:=h.tr _ (QqD e);have g1:a<X.Ls.length:=ht.1;have c:b<X.Ls.length:=ht.2.1;have nf:=(K3 h g1).2.1;have bf:=Ye h (i:=a) QoW;have bt:=Ye h (i:=b) QoW;have ac:Q1 (X.T.map tuR) (j:Int)=some [Q4 a,Q4 b,Q4 lo,Q4 hi]:=QK e;have s:X.pls X.L++Ch.map X.chE++(X.T.take (j+1)).map X.tuE=X.pls X.L++Ch.map X.chE++(X.T.take j).map X.tuE++[X.tuE (a,b,lo,hi)]:=by rw [YA e,QqR,<- QqN];rfl
   have d:=Q0N (R:=Int) (n:=400) h c (Qrs 10) some;rw [show ((0:Nat):Int)=0 from rfl] at d;rw [QE,Qc hj,QqH,ac,s];simp -implicitDefEqProofs only [Q0,QqE,QqK,Q2,QfK (n:=400) h g1,d,Qr (show j<=1000 by omega),QhY (n:=400) (show base X.nr a+(X.nr a-1)<=1000 by omega),QcW (n:=400) (show base X.nr b+0<=1000 by omega),QeX (n:=400) (A:=X.pls X.L++Ch.map X.chE++(X.T.take j).map X.tuE) QoZ];rfl
  ·simp only [QqG];rw [QE,Qi,QqF,Qr1]
 have u:∀ k0:Int->Bool->LL->oP R,QG 400 Sy (Sy.length:Int) (X.fst X.L) k0 400 0 (X.pls X.L++Ch.map X.chE++X.T.map X.tuE)=k0 (Sy.length:Int) false (X.planned Ch Sy):=by
  intro k0;refine Qt (r:=fun m j=>QG 400 Sy (Sy.length:Int) (X.fst X.L) k0 m j (X.pls X.L++Ch.map X.chE++X.T.map X.tuE++(Sy.take j.toNat).map X.syE)) (N:=Sy.length) (fun m j hj=>?_) (fun m=>?_) Sy.length 400 0 QoW QoW |> Eq.trans QoY
  ·simp only [QqG];obtain ⟨row,e⟩:∃ q,Sy[j]? = some q:=⟨Sy[j],QqI hj⟩;obtain ⟨o,rfl,g1,l,c⟩:=hl.sy row (QqD e);have bt:=Ye h (i:=1) QoW;have d:=Q0N (R:=Int) (n:=400) h (show 0<X.Ls.length by omega) (Qrs 10) some;have g:=Q0N (R:=Int) (n:=400) h (show 1<X.Ls.length by omega) (Qrs 10) some;simp only [show ((0:Nat):Int)=0 from rfl,show ((1:Nat):Int)=1 from rfl] at d g;rw [QG,Qc hj,QqH,Qd,e,YA e,QqR,<- QqN];simp -implicitDefEqProofs only [Q0,QqE,QqK,Q2,d,g,Qr (show j<=1000 by omega),QcW (n:=400) (show base X.nr 0+0<=1000 by simp [base]),QcW (n:=400) (show base X.nr 1+0<=1000 by omega),QeX (n:=400) (A:=X.pls X.L++Ch.map X.chE++X.T.map X.tuE++(Sy.take j).map X.syE) QoZ];rfl
  ·simp only [QqG];rw [QG,Qi,QqF,Qr1];rfl
 rw [s2,k,QqL,p,u]
end Cx
theorem OL.uniq:∀ {l:Int} {O:List Occ},OL l O->∀ {p q:Occ},p∈O->q∈O->p.1=q.1->p=q
 |_,[],_,_,_,h,_,_=>nomatch h
 |l,(x,a,b)::r,⟨d,h2,f,g,i,c⟩,p,q,hp,hq,e=>by
  cases hp with
  |head=>
   cases hq with
   |head=>rfl
   |tail _ hq=>have:=(c.mem q hq).1;dsimp only at e;omega
  |tail _ hp=>
   cases hq with
   |head=>have:=(c.mem p hp).1;dsimp only at e;omega
   |tail _ hq=>exact c.uniq hp hq e
theorem Qd1 {t:Int} {A A' B:List Occ} {y:Int}:FB t (A++A') B y↔FB t A B y\/FB t A' B y:=by
 constructor
 ·rintro ⟨x,a,b,c,d,e,h2,f⟩;rcases QqO.1 e with e | e
  ·exact .inl ⟨x,a,b,c,d,e,h2,f⟩
  ·exact .inr ⟨x,a,b,c,d,e,h2,f⟩
 ·rintro (⟨x,a,b,c,d,e,h2,f⟩ | ⟨x,a,b,c,d,e,h2,f⟩)
  ·exact ⟨x,a,b,c,d,Qr4 _ e,h2,f⟩
  ·exact ⟨x,a,b,c,d,QqW _ e,h2,f⟩
def Eg (f:Nat->Bool) (n:Nat):LL:=(List.range n).map fun i=>[D.bool (f i)]
theorem Q71 {f:Nat->Bool} {n:Nat}:(Eg f n).length=n:=by simp [Eg]
theorem Da {f:Nat->Bool} {n i:Nat} (h:i<n):(Eg f n)[i]? = some [D.bool (f i)]:=by simp [Eg,h]
theorem Qbv {f g:Nat->Bool} {n i:Nat} (h:∀ y,y<n->g y=if y=i then true else f y):(Eg f n).set i [D.bool true]=Eg g n:=by
 apply List.ext_getElem?;intro j
 grind [Da,List.getElem?_eq_none,Q71]
section
variable {R:Type} {n:Nat} {t:Int}
theorem Q6h {O:List Occ} (hl:O.length<=1000) {k0:oP R} {k1:Int->Bool->oP R} {E:oP R} (hk:∀ b c,k1 b c=E):∀ (ac:List Occ) (i m:Nat) (last:Int),O.drop i=ac->ac.length<m -> -1<=last->OL last ac->(0<i->∃ a b,O[i-1]? = some (last,a,b))->YT n (O.map enc) k0 k1 m (i:Int)=E
 |[],i,m+1,last,hd,_,_,_,_=>by
  have:=UL hd;rw [YT,QqL,show decide ((i:Int)<(O.length:Int))=false by simpa using this,QqF,hk]
 |(x,a,b)::ac,i,m+1,last,hd,hm,an,⟨g,h2,h,j,k,d⟩,hp=>by
  obtain ⟨e,aj,hi⟩:=YB hd;have ih:=Q6h (k0:=k0) hl hk ac (i+1) m x aj (by simpa using hm) QoW d (fun _=>⟨a,b,e⟩);rw [YT,QqL,Qc hi,QqH,QK e];simp -implicitDefEqProofs only [Q0,NS,Ly,FO,Q2,Qp3 (x<0),Qr8,Bool.true_and,QqF,Qr (show i<=1000 by omega)];have rest:∀ z:Bool,z=false->(bif bif bif bif z then true else decide (a<(-65536:Int)) then true else decide (b>(65536:Int)) then true else decide (a>=b) then k0 else YT n (O.map enc) k0 k1 m ((i+1:Nat):Int))=E:=fun z hz=>by
   rw [hz,Qp3 (a < -65536),Qp3 (b>65536),Qp3 (a>=b)];exact ih
  by_cases f:i=0
  ·subst f;simp -implicitDefEqProofs only [show decide (((0:Nat):Int)>0)=false from rfl,gbF,QqF];exact rest false rfl
  ·obtain ⟨a',b',e'⟩:=hp QoW;rw [Ju (show i<=1000 by omega) QoW,QK e'];simp -implicitDefEqProofs only [Q0,NS,Q2,Qp4 ((i:Int)>0),QqH];exact rest _ (QqU QoW)
theorem Q9P {O:List Occ} (hl:O.length<=300) (h:OL (-1) O):JF 400 (O.map enc) (some:Bool->oP Bool)=some true:=by
 exact Q6h QoW (fun _ _=>rfl) O 0 400 (-1) rfl QoW QoW h (fun h=>by omega)
theorem Q9b {O:List Occ} (hl:O.length<=1000) {x:Int} {K:D->D->D->Bool->oP R} {k0:D->D->D->oP R} {k1:Int->Bool->oP R} (g:∀ a b c,k0 a b c=K a b c true) (h:∀ a b,k1 a b=K (Q4 0) (Q4 0) (Q4 0) false):∀ (ac:List Occ) (i m:Nat),O.drop i=ac->ac.length<m->(∃ c d,(x,c,d)∈ac/\Ul n (O.map enc) x k0 k1 m (i:Int)=K (Q4 x) (Q4 c) (Q4 d) true)\/((∀ p∈ac,p.1≠x)/\Ul n (O.map enc) x k0 k1 m (i:Int)=K (Q4 0) (Q4 0) (Q4 0) false)
 |[],i,m+1,hd,_=>by
  have:=UL hd;refine .inr ⟨fun p hp=>(nomatch hp),?_⟩;rw [Ul,QqL,show decide ((i:Int)<(O.length:Int))=false by simpa using this,QqF,h]
 |(x',a,b)::ac,i,m+1,hd,hm=>by
  obtain ⟨e,aj,hi⟩:=YB hd;rw [Ul,QqL,Qc hi,QqH,QK e];simp -implicitDefEqProofs only [Q0,NS,Ly,FO,Q2,Qr (show i<=1000 by omega),g];by_cases hx:x'=x
  ·subst hx;exact .inl ⟨a,b,.head _,by rw [show (x' == x')=true by simp,QqH]⟩
  ·rw [show (x' == x)=false by simpa using hx,QqF];rcases Q9b hl g h ac (i+1) m aj (by simpa using hm) with ⟨c,d,f,h2⟩ | ⟨f,h2⟩
   ·exact .inl ⟨c,d,.tail _ f,h2⟩
   ·refine .inr ⟨fun p hp=>?_,h2⟩;cases hp with
    |head=>exact hx
    |tail _ hp=>exact f p hp
theorem Qgc {f k y:Int} (a:1<=t) (hy:0<=y) (ac:y<t) (hk:0<=k) (aj:k<t):y=(f+k) % t↔(y-f) % t=k:=by
 constructor
 ·intro h;rw [h,Qrq,Int.emod_emod,<- Qrq,show f+k-f=k by omega];exact Qrg hk aj
 ·intro h;rw [<- h,Int.add_emod,Int.emod_emod,<- Int.add_emod,show f+(y-f)=y by omega];exact (Qrg hy ac).symm
theorem QeK (c:1<=t) (o:t<=300) {K:LL->oP R} {k0:Int->Bool->LL->oP R} (hk:∀ a b w,k0 a b w=K w) {A:List Occ} {i:Nat} {x a b d nn:Int} (e:A[i]? = some (x,a,b)) (ha : -1000<=a) (ar:a<=20000) (hd : -1000<=d) (aq:d<=20000) {f:Nat->Bool} :
  ∃ g:Nat->Bool,Z3 n t (A.map enc) (i:Int) nn (Q4 d) k0 400 0 (Eg f t.toNat)=K (Eg g t.toNat)/\∀ y,y<t.toNat->(g y=true↔f y=true\/((y:Int)-(a-d+1)) % t<nn):=by
 let N:Nat:=(if nn<t then nn else t).toNat;have hN:(N:Int)=if nn<0 then 0 else if nn<t then nn else t:=by
  show (((if nn<t then nn else t).toNat:Nat):Int)=_;split <;> split <;> omega
 have aj:(N:Int)<=t:=by rw [hN];split <;> (try split) <;> omega
 have ao:(N:Int)<=nn\/N=0:=by
  by_cases h:nn<0
  ·rw [Qre h] at hN;right;omega
  ·rw [Qrf h] at hN;left;rw [hN];split <;> omega
 refine ⟨fun y=>f y||decide (((y:Int)-(a-d+1)) % t<(N:Int)),?_,fun y hy=>?_⟩
 ·have j:Eg f t.toNat=Eg (fun y=>f y||decide (((y:Int)-(a-d+1)) % t<((0:Nat):Int))) t.toNat:=by
   unfold Eg;apply List.map_congr_left;intro y _;have:=QqT ((y:Int)-(a-d+1)) (show t≠0 by omega);show [D.bool (f y)]=[D.bool (f y||decide (((y:Int)-(a-d+1)) % t<((0:Nat):Int)))];rw [Qp3 (((y:Int)-(a-d+1)) % t<((0:Nat):Int)),Bool.or_false]
  rw [j];refine Qt (r:=fun m k=>Z3 n t (A.map enc) (i:Int) nn (Q4 d) k0 m k (Eg (fun y=>f y||decide (((y:Int)-(a-d+1)) % t<k)) t.toNat)) (N:=N) (fun m k ak=>?_) (fun m=>?_) N 400 0 QoW QoW
  ·have l:=QqT (a-d+1+(k:Int)) (show t≠0 by omega);have p:=QqX (a-d+1+(k:Int)) (show 0<t by omega);rw [Z3,Qp4 ((k:Int)<nn),Qp4 ((k:Int)<t),QqH,QqH,QK e];simp -implicitDefEqProofs only [Q0,Ly,Q2,Q6 (x:=a-d) QoW QoW,Q6 (x:=a-d+1) QoW QoW,Q6 (x:=a-d+1+(k:Int)) QoW QoW,QhJ (n:=n) (x:=a-d+1+(k:Int)) c (show t<=7200 by omega) QoW QoW,Q71,XR (len:=t.toNat) l QoW,Da (f:=fun y=>f y||decide (((y:Int)-(a-d+1)) % t<(k:Int))) (n:=t.toNat) (i:=((a-d+1+(k:Int)) % t).toNat) QoW,Qr7];rw [Qbv (g:=fun y=>f y||decide (((y:Int)-(a-d+1)) % t<((k+1:Nat):Int))) (fun y hy=>?_),Q6 QoW QoW]
   ·rfl
   ·have hd:=Qgc (t:=t) (f:=a-d+1) (k:=k) (y:=y) c QoW QoW QoW QoW;by_cases ac:y=((a-d+1+(k:Int)) % t).toNat
    ·rw [Qre ac,show decide (((y:Int)-(a-d+1)) % t<((k+1:Nat):Int))=true from Qra (by have:=hd.1 QoW;omega),Bool.or_true]
    ·rw [Qrf ac];congr 1;rw [decide_eq_decide];have:¬ ((y:Int)-(a-d+1)) % t=(k:Int):=fun h=>ac (by have:=hd.2 h;omega)
     omega
  ·rw [Z3];rw [show (bif decide ((N:Int)<nn) then decide ((N:Int)<t) else false)=false by
    by_cases h:(N:Int)<nn
    ·rw [Qra h,QqH];exact QqU (by rw [hN];split <;> (try split) <;> omega)
    ·rw [QqU h,QqF],QqF,hk]
 ·have q:=QqT ((y:Int)-(a-d+1)) (show t≠0 by omega);have s:=QqX ((y:Int)-(a-d+1)) (show 0<t by omega);rw [Bool.or_eq_true,Qrn];refine or_congr_right ?_;rw [hN];split <;> (try split) <;> omega
theorem Q1K (o:1<=t) (p:t<=300) {K:LL->oP R} {k0:Int->Bool->LL->oP R} (hk:∀ a b w,k0 a b w=K w) {A B:List Occ} (hA:OL (-1) A) (hB:OL (-1) B) (lA:A.length<=100) (lB:B.length<=300):∀ (ac P:List Occ) (m:Nat) (f:Nat->Bool),A=P++ac->ac.length<m->(∀ y,y<t.toNat->(f y=true↔FB t P B y)) ->
  ∃ g:Nat->Bool,XZ 400 t (A.map enc) (B.map enc) k0 m (P.length:Int) (Eg f t.toNat)=K (Eg g t.toNat)/\∀ y,y<t.toNat->(g y=true↔FB t A B y)
 |[],P,m+1,f,hP,_,hf=>by
  rw [Qr9] at hP;subst hP;refine ⟨f,?_,hf⟩;rw [XZ,QqL,Qi,QqF,hk]
 |(x,a,b)::ac,P,m+1,f,hP,hm,hf=>by
  have e:A[P.length]? = some (x,a,b):=by rw [hP,Qrj (QqP _),Nat.sub_self];rfl
  have hi:P.length<A.length:=by rw [hP];simp
  have hq:=hA.mem (x,a,b) (QqD e);dsimp only at hq;have ak:A=(P++[(x,a,b)])++ac:=by rw [hP];simp
  have aj:=Q9b (n:=400) (O:=B) (x:=x) (K:=fun i j k z=>(some (i,j,k,z):oP (D×D×D×Bool))) (k0:=fun i j k=>some (i,j,k,true)) (k1:=fun _ _=>some (Q4 0,Q4 0,Q4 0,false)) QoW (fun _ _ _=>rfl) (fun _ _=>rfl) B 0 400 rfl QoW;rw [XZ,QqL,Qc hi,QqH,QK e];simp -implicitDefEqProofs only [Q0,NS,Ly,FO,Q2];unfold A7;have nx:wJ ((P.length:Int)+1)=(((P++[(x,a,b)]).length:Nat):Int):=by rw [Q6 QoW QoW];simp
  rw [nx];rcases aj with ⟨c,d,g1,q⟩ | ⟨g1,q⟩
  ·have u:=hB.mem (x,c,d) g1;dsimp only at u;rw [show Ul 400 (B.map enc) x (fun i j k=>(some (i,j,k,true):oP (D×D×D×Bool))) (fun v aa=>some (D.int .i64 (0:Int),D.int .i64 (0:Int),D.int .i64 (0:Int),false)) 400 0=some (Q4 x,Q4 c,Q4 d,true) from q];simp -implicitDefEqProofs only [Q0,QqZ,QqF,Q2];have aq:wJ (wJ (wJ (wJ (b-a)+d)-c)-1)=b-a+d-c-1:=by
    rw [Q6 (x:=b-a) QoW QoW,Q6 (x:=b-a+d) QoW QoW,Q6 (x:=b-a+d-c) QoW QoW,Q6 QoW QoW]
   rw [aq];obtain ⟨g,k1,k2⟩:=QeK (n:=400) (nn:=b-a+d-c-1) o p (K:=fun w=>XZ 400 t (A.map enc) (B.map enc) k0 m (((P++[(x,a,b)]).length:Nat):Int) w) (k0:=fun _ _ w=>XZ 400 t (A.map enc) (B.map enc) k0 m (((P++[(x,a,b)]).length:Nat):Int) w) (fun _ _ _=>rfl) (f:=f) e (d:=d) QoW QoW QoW QoW;rw [k1];refine Q1K o p hk hA hB lA lB ac _ m g ak (by simpa using hm) (fun y hy=>?_);rw [k2 y hy,Qd1,hf y hy];refine or_congr_right ⟨fun h=>⟨x,a,b,c,d,.head _,g1,h⟩,?_⟩;rintro ⟨x',a',b',c',d',l,r,s⟩;cases l with
   |head=>
    cases hB.uniq r g1 rfl;exact s
   |tail _ l=>nomatch l
  ·rw [show Ul 400 (B.map enc) x (fun i j k=>(some (i,j,k,true):oP (D×D×D×Bool))) (fun v aa=>some (D.int .i64 (0:Int),D.int .i64 (0:Int),D.int .i64 (0:Int),false)) 400 0=some (Q4 0,Q4 0,Q4 0,false) from q];simp -implicitDefEqProofs only [Q0,Qr8,QqH];refine Q1K o p hk hA hB lA lB ac _ m f ak (by simpa using hm) (fun y hy=>?_);rw [Qd1,hf y hy];refine ⟨.inl,fun h=>h.elim id ?_⟩;rintro ⟨x',a',b',c',d',l,r,s⟩;cases l with
   |head=>exact (g1 _ r rfl).elim
   |tail _ l=>nomatch l
theorem VS.lastlt {t c d:Int}:∀ {l:Int} {M:List Sp2},VS t l (M++[(c,d)])->(∀ q∈M,q.2<c)/\c<d/\d<=t
 |l,[],⟨g,h2,f,_⟩=>⟨fun q hq=>(nomatch hq),h2,f⟩
 |l,(a,b)::M,⟨g,h2,f,e⟩=>by
  have ih:=e.lastlt;refine ⟨fun q hq=>?_,ih.2⟩;cases hq with
  |head=>
   cases M with
   |nil=>exact e.1
   |cons p M=>have:=ih.1 p (.head _);have:=e.1;have:=e.2.1;dsimp only at *;omega
  |tail _ hq=>exact ih.1 q hq
theorem VS.pw {t:Int}:∀ {l:Int} {F:List Sp2},VS t l F->F.Pairwise fun p q=>p.2<q.1
 |_,[],_=>.nil
 |l,(a,b)::r,⟨d,h2,e,c⟩=>.cons (fun q hq=>(c.rng q hq).1) c.pw
theorem VS.sep {t:Int}:∀ {l:Int} {F:List Sp2},VS t l F->∀ p∈F,∀ q∈F,p=q\/p.2<q.1\/q.2<p.1
 |_,[],_,p,hp,_,_=>nomatch hp
 |l,(a,b)::r,⟨d,h2,e,c⟩,p,hp,q,hq=>by
  have hr:=c.rng;cases hp with
  |head=>
   cases hq with
   |head=>exact .inl rfl
   |tail _ hq=>exact .inr (.inl (hr q hq).1)
  |tail _ hp=>
   cases hq with
   |head=>exact .inr (.inr (hr p hp).1)
   |tail _ hq=>exact c.sep p hp q hq
structure GP (t:Int) (F G:List Sp2):Prop where
 asc:G.Pairwise fun p q=>p.1<q.1
 rng:∀ q∈G,0<=q.1/\q.1<t/\q.1<q.2/\q.2<q.1+t
 ins:∀ q∈G,∀ z,q.1<=z->z<q.2->InS (z % t) F
 out:∀ q∈G,¬ InS (q.2 % t) F
 st:∀ x,0<=x->x<t->((InS x F/\¬ InS ((x-1) % t) F)↔∃ q∈G,q.1=x)
theorem QaX {z t:Int} (a:0<=z) (b:z<t):z % t=z:=Qrg a b
theorem QjD {z t:Int} (a:t<=z) (b:z<t+t):z % t=z-t:=by
 rw [<- Qrg (show 0<=z-t by omega) (show z-t<t by omega),Int.sub_emod_right]
theorem Qjq {t:Int} (h:1<=t):(-1:Int) % t=t-1:=by
 rw [<- Qrg (show 0<=t-1 by omega) (show t-1<t by omega),show t-1 = -1+t by omega,Int.add_emod_right]
theorem WR.gp {t:Int} {F G:List Sp2} (l:1<=t) (hv:VS t (-1) F) (hc:cnt F≠t) (hw:WR t F G):GP t F G:=by
 have hr:=hv.rng;have hs:=hv.sep;have az:=hv.cnt QoW;have ay:=QaD hv QoW;have gap:∀ q∈F,¬ InS q.2 F:=fun q hq ⟨p,hp,h⟩=>by
  grind
 have ac:∀ q∈F,¬ InS (q.1-1) F:=fun q hq ⟨p,hp,h⟩=>by
  grind
 have small:∀ q∈F,q.2-q.1<t:=fun q hq=>by
  have:=ay q hq;have:=az.2.2 (List.length_pos_of_mem hq);omega
 have aj:∀ x,0<=x->x<t->InS x F->¬ InS ((x-1) % t) F->∃ q∈F,q.1=x:=fun x i j ⟨q,hq,h⟩ hn=>by
  have:=hr q hq;by_cases hx:q.1=x
  ·exact ⟨q,hq,hx⟩
  ·exact (hn ⟨q,hq,by rw [QaX QoW QoW];omega,by rw [QaX QoW QoW];omega⟩).elim
 rcases hw with ⟨rfl,hw⟩ | ⟨b,M,c,rfl,rfl⟩
 ·have aq:∀ p∈G,∀ q∈G,p.1=0->q.2=t->False:=fun p hp q hq o h2=>by
   have aw:p≠q:=fun e=>by have:=small p hp;rw [<- e] at h2;omega
   rcases G with _ | ⟨⟨a,b⟩,G⟩
   ·nomatch hp
   obtain ⟨r,s,u,f⟩:=id hv;have ak:=f.rng;have a2:p=(a,b):=by
    cases hp with
    |head=>rfl
    |tail _ hp=>have:=ak p hp;omega
   subst a2;obtain rfl:a=0:=o;rcases List.eq_nil_or_concat G with rfl | ⟨M,⟨c,d⟩,rfl⟩
   ·cases hq with
    |head=>exact aw rfl
    |tail _ hq=>nomatch hq
   ·rw [List.concat_eq_append] at *
    have hl:=f.lastlt;cases hq with
    |head=>exact aw rfl
    |tail _ hq=>
     rcases QqO.1 hq with hq | hq
     ·have:=hl.1 q hq;omega
     ·obtain rfl:=QqY.1 hq;obtain rfl:d=t:=h2;exact hw b M c rfl
  refine ⟨hv.pw.imp_of_mem fun {p q} hp hq h=>by have:=hr p hp;omega,fun q hq=>by have:=hr q hq;have:=small q hq;omega,fun q hq z g k=>?_,fun q hq=>?_,fun x i j=>⟨fun h=>aj x i j h.1 h.2,?_⟩⟩
  ·have:=hr q hq;rw [QaX QoW QoW];exact ⟨q,hq,g,k⟩
  ·have:=hr q hq;by_cases m:q.2=t
   ·rw [m,Int.emod_self];rintro ⟨p,hp,h⟩;have:=hr p hp;exact aq p hp q hq QoW m
   ·rw [QaX QoW QoW];exact gap q hq
  ·rintro ⟨q,hq,rfl⟩;have:=hr q hq;refine ⟨⟨q,hq,Qr5 _,this.2.1⟩,?_⟩;by_cases n:q.1=0
   ·rw [n,show (0:Int)-1 = -1 by omega,Qjq l];rintro ⟨p,hp,h⟩;have:=hr p hp;exact aq q hq p hp n QoW
   ·rw [QaX QoW QoW];exact ac q hq
 ·obtain ⟨r,s,u,f⟩:=id hv;have hl:=f.lastlt;have ak:=f.rng;have hM:∀ q∈M,b<q.1/\q.1<q.2/\q.2<c:=fun q hq=>by
   have:=ak q (Qr4 _ hq);have:=hl.1 q hq;omega
  have ao:∀ q∈M,q∈(0,b)::(M++[(c,t)]):=fun q hq=>.tail _ (Qr4 _ hq)
  have an:(c,t)∈(0,b)::(M++[(c,t)]):=.tail _ (QqW _ (.head _));have ax:(0,b)∈(0,b)::(M++[(c,t)]):=.head _;have a4:b<c:=(ak (c,t) (QqW _ (.head _))).1;refine ⟨?_,fun q hq=>?_,fun q hq z g k=>?_,fun q hq=>?_,fun x i j=>⟨fun h=>?_,?_⟩⟩
  ·refine List.pairwise_append.2 ⟨(List.pairwise_append.1 f.pw).1.imp_of_mem fun {p q} hp hq h=>by have:=hM p hp;omega,List.pairwise_singleton _ _,fun p hp q hq=>?_⟩;obtain rfl:=QqY.1 hq;have:=hM p hp;dsimp only;omega
  ·rcases QqO.1 hq with h | h
   ·have:=hM q h;omega
   ·obtain rfl:=QqY.1 h;dsimp only;omega
  ·rcases QqO.1 hq with h | h
   ·have:=hM q h;rw [QaX QoW QoW];exact ⟨q,ao q h,g,k⟩
   ·obtain rfl:=QqY.1 h;dsimp only at g k;by_cases hz:z<t
    ·rw [QaX QoW hz];exact ⟨_,an,g,hz⟩
    ·rw [QjD QoW QoW];exact ⟨_,ax,by dsimp only;omega,by dsimp only;omega⟩
  ·rcases QqO.1 hq with h | h
   ·have:=hM q h;rw [QaX QoW QoW];exact gap q (ao q h)
   ·obtain rfl:=QqY.1 h;dsimp only;rw [QjD QoW QoW,show t+b-t=b by omega];exact gap _ ax
  ·obtain ⟨q,hq,rfl⟩:=aj x i j h.1 h.2;cases hq with
   |head=>
    refine (h.2 ?_).elim;dsimp only;rw [show (0:Int)-1 = -1 by omega,Qjq l];exact ⟨_,an,by dsimp only;omega,by dsimp only;omega⟩
   |tail _ hq=>
    rcases QqO.1 hq with hq | hq
    ·exact ⟨q,Qr4 _ hq,rfl⟩
    ·obtain rfl:=QqY.1 hq;exact ⟨(c,t+b),QqW _ (.head _),rfl⟩
  ·rintro ⟨q,hq,rfl⟩;rcases QqO.1 hq with h | h
   ·have:=hM q h;refine ⟨⟨q,ao q h,Qr5 _,this.2.1⟩,?_⟩;rw [QaX QoW QoW];exact ac q (ao q h)
   ·obtain rfl:=QqY.1 h;dsimp only;refine ⟨⟨_,an,Qr5 _,hl.2.1⟩,?_⟩;rw [QaX QoW QoW];exact ac _ an
theorem Qbi {t:Int} {F:List Sp2} (i:1<=t) (hv:VS t (-1) F):cnt F=t↔∀ y,0<=y->y<t->InS y F:=by
 rcases F with _ | ⟨⟨a,b⟩,r⟩
 ·exact ⟨fun h=>by grind [cnt],fun h=>absurd (h 0 QoW QoW) Lx⟩
 obtain ⟨j,k,f,e⟩:=hv;have hc:=e.cnt f;rcases r with _ | ⟨⟨c,d⟩,r⟩
 ·simp only [cnt,Tg];constructor
  ·omega
  ·intro h;have g:=(h 0 QoW QoW).resolve_right Lx;have h2:=(h (t-1) QoW QoW).resolve_right Lx;omega
 ·have:=hc.2.2 QoY;have w:=e.1;constructor
  ·grind [cnt]
  ·intro h;have ac:=e.rng;have:=ac (c,d) (.head _);dsimp only at this;obtain ⟨p,hp,g,h2⟩:=h b QoW QoW
   grind
theorem Q5A (d:t<=300) {f:Nat->Bool} {k0:Int->Int->Bool->oP R} {K:Int->oP R} (hk:∀ a b c,k0 a b c=K a):∀ (c m x:Nat) (w:Int),(x:Int)+c=t->c<m->0<=w->w<=x->(w=x↔∀ y:Nat,y<x->f y=true)->∃ w',Wt n t (Eg f t.toNat) k0 m w (x:Int)=K w'/\(w'=t↔∀ y:Nat,(y:Int)<t->f y=true)
 |0,m+1,x,w,hx,_,_,_,hw=>⟨w,by rw [Wt,Qp3 ((x:Int)<t),QqF,hk],by
  grind⟩
 |c+1,m+1,x,w,hx,hm,w0,e,hw=>by
  have ac:Q1 (Eg f t.toNat) (x:Int)=some [D.bool (f x)]:=by grind [Qd,Da]
  rw [Wt,Qp4 ((x:Int)<t),QqH,ac];simp -implicitDefEqProofs only [Q0,QqE,Nx,Qr (show x<=1000 by omega)];cases aj:f x with
  |false=>
   refine Q5A d hk c m (x+1) w QoW QoW w0 QoW ⟨fun h=>by omega,fun h=>?_⟩
   simp_all
  |true=>
   rw [QqH,Q6 QoW QoW];refine Q5A d hk c m (x+1) (w+1) QoW QoW QoW QoW ⟨fun h y hy=>?_,fun h=>?_⟩
   all_goals grind
theorem Qgl (b:1<=t) (c:t<=300) {f:Nat->Bool} {k0:Int->Bool->oP R} {a:Int} {L:Nat} (a0:0<=a) (a1:a<t) (hL:(L:Int)<t) (aj:∀ k:Nat,k<L->f ((a+k) % t).toNat=true) (ac:f ((a+L) % t).toNat=false):WE n t (Eg f t.toNat) a k0 400 0=k0 (L:Int) false:=by
 have step:∀ k:Nat,k<=L->Q1 (Eg f t.toNat) (Int.tmod (wJ (a+k)) t)=some [D.bool (f ((a+k) % t).toNat)]:=fun k hk=>by
  have d:=QqT (a+(k:Int)) (show t≠0 by omega);have e:=QqX (a+(k:Int)) (show 0<t by omega);rw [Q6 QoW QoW,Int.tmod_eq_emod_of_nonneg QoW];obtain ⟨z,hz⟩:∃ z:Nat,(a+(k:Int)) % t=z:=⟨((a+(k:Int)) % t).toNat,QoW⟩;rw [hz,Qd,QqG];exact Da QoW
 refine Qt (r:=fun m k=>WE n t (Eg f t.toNat) a k0 m k) (N:=L) (fun m k hk=>?_) (fun m=>?_) L 400 0 QoW QoW
 ·rw [WE,NQ QoW,step k QoW];simp -implicitDefEqProofs only [Q0,QqE,Nx,aj k hk,QqH,Qr (show k<=1000 by omega)]
 ·rw [WE,NQ QoW,step L (QqP _)];simp -implicitDefEqProofs only [Q0,QqE,Nx,ac,QqF]
theorem Q5u (g:1<=t) (i:t<=300) {f:Nat->Bool} {F G:List Sp2} (hf:∀ y:Nat,(y:Int)<t->(f y=true↔InS y F)) (hG:GP t F G) {K:LL->oP R} {k0:Int->Bool->LL->oP R} (hk:∀ a b w,k0 a b w=K w):∀ (c m x:Nat) (P S:List Sp2),(x:Int)+c=t->c<m->G=P++S->P.length<=x->(∀ q∈P,q.1<x)->(∀ q∈S,(x:Int)<=q.1)->Yf 400 t (Eg f t.toNat) k0 m (x:Int) ((P.map (CJ t)).map Y6)=K ((G.map (CJ t)).map Y6)
 |0,m+1,x,P,S,hx,_,ac,_,_,hS=>by
  have:S=[]:=by
   cases S with
   |nil=>rfl
   |cons q S=>have:=hS q (.head _);have:=hG.rng q Qp2;omega
  rw [Yf,Qp3 ((x:Int)<t),QqF,hk,ac,this,Qr9]
 |c+1,m+1,x,P,S,hx,hm,ac,hl,hP,hS=>by
  have fi:∀ z:Int,f (z % t).toNat=true↔InS (z % t) F:=fun z=>by
   have l:=QqT z (show t≠0 by omega);have o:=QqX z (show 0<t by omega);have:=hf (z % t).toNat QoW;rw [show (((z % t).toNat:Nat):Int)=z % t by omega] at this;exact this
  have ar:Q1 (Eg f t.toNat) (x:Int)=some [D.bool (f x)]:=by rw [Qd];exact Da QoW
  have l:=QqT ((x:Int)-1) (show t≠0 by omega);have o:=QqX ((x:Int)-1) (show 0<t by omega);have an:Q1 (Eg f t.toNat) (((x:Int)-1) % t)=some [D.bool (f (((x:Int)-1) % t).toNat)]:=by
   obtain ⟨z,hz⟩:∃ z:Nat,((x:Int)-1) % t=z:=⟨(((x:Int)-1) % t).toNat,QoW⟩;rw [hz,Qd,QqG];exact Da QoW
  rw [Yf,Qp4 ((x:Int)<t),QqH,ar];simp -implicitDefEqProofs only [Q0,QqE,Nx,Qr (show x<=1000 by omega),Q6 (x:=(x:Int)-1) QoW QoW,QhJ (n:=400) (x:=(x:Int)-1) g (show t<=7200 by omega) QoW QoW,an];have ak:=hG.st x QoW QoW;have ao:=hf x QoW;have au:=fi ((x:Int)-1);have a4:∀ (R':Type) (p:Bool) (d:R') (v:R') (k:R'->oP R),gb p (some v) d k=gb p (some v) d k:=fun _ _ _ _ _=>rfl
  have skip:(∀ q∈G,q.1≠x)->Yf 400 t (Eg f t.toNat) k0 m ((x+1:Nat):Int) ((P.map (CJ t)).map Y6)=K ((G.map (CJ t)).map Y6):=fun aw=>by
   refine Q5u g i hf hG hk c m (x+1) P S QoW QoW ac QoW (fun q hq=>by have:=hP q hq;omega) (fun q hq=>?_);have:=hS q hq;have:=aw q (by rw [ac];exact QqW _ hq);omega
  cases hb:f x with
  |false=>
   simp -implicitDefEqProofs only [Qr8,QqZ,gbF,QqH];refine skip fun q hq e=>?_
   have:=(ak.2 ⟨q,hq,e⟩).1;rw [<- ao,hb] at this;cases this
  |true=>
   simp -implicitDefEqProofs only [Qr8,QqZ,Q0,QqF];cases j:f (((x:Int)-1) % t).toNat with
   |true=>
    rw [QqH];refine skip fun q hq e=>?_
    exact (ak.2 ⟨q,hq,e⟩).2 (au.1 j)
   |false=>
    rw [QqF];obtain ⟨q,hq,ax⟩:=ak.1 ⟨ao.1 hb,fun h=>by rw [<- au,j] at h;cases h⟩;obtain ⟨S',az⟩:∃ S',S=q::S':=by
     rw [ac] at hq;rcases QqO.1 hq with h | h
     ·have:=hP q h;omega
     cases S with
     |nil=>nomatch h
     |cons p S=>
      cases h with
      |head=>exact ⟨S,rfl⟩
      |tail _ h=>
       have ha:=hG.asc;rw [ac] at ha;have:=(List.pairwise_cons.1 (List.pairwise_append.1 ha).2.1).1 q h;have:=hS p (.head _);omega
    subst az;have hr:=hG.rng q hq;obtain ⟨L,hL⟩:∃ L:Nat,q.2=x+L:=⟨(q.2-q.1).toNat,QoW⟩;have ay:=hG.ins q hq;have aq:=hG.out q hq;rw [Qgl (n:=400) (k0:=_) (a:=(x:Int)) (L:=L) g i QoW QoW QoW (fun k hk=>(fi _).2 (ay _ QoW QoW)) (by
     cases h:f (((x:Int)+L) % t).toNat with
     |false=>rfl
     |true=>rw [<- hL] at h;exact (aq ((fi _).1 h)).elim)]
    have hw:[Q4 ((x:Int)+L),Q4 ((x:Int)+t-1)]=Y6 (CJ t q):=by rw [<- hL,<- ax];rfl
    rw [Q6 (x:=(x:Int)+L) QoW QoW,Q6 (x:=(x:Int)+t) QoW QoW,Q6 (x:=(x:Int)+t-1) QoW QoW,XE QoZ,Q0];have:=Q5u g i hf hG hk c m (x+1) (P++[q]) S' QoW QoW (by rw [ac];simp) QoZ (fun p hp=>by
     rcases QqO.1 hp with h | h
     ·have:=hP p h;omega
     ·obtain rfl:=QqY.1 h;omega) (fun p hp=>by
     have ha:=hG.asc;rw [ac] at ha;have:=(List.pairwise_cons.1 (List.pairwise_append.1 ha).2.1).1 p hp;omega)
    rw [QqR,QqR,List.map_singleton,List.map_singleton,<- hw] at this;exact this
theorem QbM {A B:List Occ} (p:2<=t) (a:t<=300) (hA:OL (-1) A) (hB:OL (-1) B) (lA:A.length<=6) (lB:B.length<=6) {F G:List Sp2} (hv:VS t (-1) F) (hF:∀ y,0<=y->y<t->(InS y F↔FB t A B y)) (hw:WR t F G) :
  KU 400 t (A.map enc) (B.map enc) Tu2=some (if cnt F=t then ([],(13:Int)) else ((G.map (CJ t)).map Y6,(0:Int))):=by
 obtain ⟨f,i,j⟩:=Q1K QoW a (K:=fun w=>(some (w,(0:Int)):oP (LL×Int))) (k0:=fun _ _ w=>some (w,(0:Int))) (fun _ _ _=>rfl) hA hB QoW QoW A [] 400 (fun _=>false) rfl QoW (fun y _=>⟨fun h=>(nomatch h),fun ⟨_,_,_,_,_,h,_⟩=>(nomatch h)⟩);have hf:∀ y:Nat,(y:Int)<t->(f y=true↔InS y F):=fun y hy=>by rw [j y QoW,hF y QoW hy]
 have hm:KK 400 t (A.map enc) (B.map enc) Tu2=some (Eg f t.toNat,(0:Int)):=by
  unfold KK;rw [Q4H QoW (show t<=7200 by omega),Q9P QoW hA,Q9P QoW hB];simp -implicitDefEqProofs only [Q0,QqZ,Qr8,QqF];rw [show (bif decide ((0:Int)<=t)&&decide (t<=t) then some () else none)=some () by rw [QR QoZ],Q0,XE QoW,Q0];have e:List.replicate t.toNat [D.bool false]=Eg (fun _=>false) t.toNat:=by unfold Eg;rw [List.map_const',List.length_range]
  rw [e];exact i
 unfold KU;rw [hm,Q0,Q8 (by rfl)];obtain ⟨w,k,l⟩:=Q5A (n:=400) a (f:=f) (K:=fun d=>bif (d == t) then (some ([],(13:Int)):oP (LL×Int)) else Yf 400 t (Eg f t.toNat) (fun m o g=>some (g,(0:Int))) 400 (0:Int) []) (k0:=fun d r s=>bif (d == t) then (some ([],(13:Int)):oP (LL×Int)) else Yf 400 t (Eg f t.toNat) (fun m o g=>some (g,(0:Int))) 400 (0:Int) []) (fun _ _ _=>rfl) t.toNat 400 0 0 QoW QoW QoW QoW ⟨fun _ y hy=>by omega,fun _=>rfl⟩;refine k.trans ?_;have hc:w=t↔cnt F=t:=by
  rw [l,Qbi QoW hv];constructor
  ·intro h y u v;have:=(hf y.toNat QoW).1 (h y.toNat QoW);rw [show (y.toNat:Int)=y by omega] at this;exact this
  ·exact fun h y hy=>(hf y hy).2 (h y QoW hy)
 by_cases ac:cnt F=t
 ·rw [Qre ac,QR (by simpa using hc.2 ac)]
 ·rw [Qrf ac,Q8 (by simpa using fun h=>ac (hc.1 h))];exact Q5u QoW a hf (hw.gp QoW hv ac) (K:=fun w=>some (w,(0:Int))) (k0:=fun _ _ w=>some (w,(0:Int))) (fun _ _ _=>rfl) t.toNat 400 0 [] G QoW QoW rfl QoY (fun q hq=>nomatch hq) (fun q hq=>((hw.gp QoW hv ac).rng q hq).1)
end
theorem EM {R:Type} {n:Nat} {O:List Occ} (hl:O.length<=1000) {q:Int->Bool} {K:LL->oP R} {k0:Int->Bool->LL->oP R} (hk:∀ a b w,k0 a b w=K w):∀ (ac P:List Occ) (j m:Nat),O.drop j=ac->ac.length<m->P.length<=j->XW n (O.map enc) (O.length:Int) q k0 m (j:Int) (P.map enc)=K ((P++ac.filter fun o=>!q o.1).map enc)
 |[],P,j,m+1,hd,_,_=>by
  have:=UL hd;rw [XW,show decide ((j:Int)<(O.length:Int))=false by simpa using this,QqF,hk,List.filter_nil,Qr9]
 |o::ac,P,j,m+1,hd,hm,hP=>by
  obtain ⟨e,aj,hj⟩:=YB hd;rw [XW,Qc hj,QqH,QK e];simp -implicitDefEqProofs only [Q0,NS,Ly,FO,Q2,Qr (show j<=1000 by omega),XE (show ((P.map enc).length+[[Q4 o.1,Q4 o.2.1,Q4 o.2.2]].length)*24<=100000 by simp;omega)];rw [List.filter_cons];cases hq:q o.1 with
  |true=>
   rw [QqZ,QqF,Qrf QoY];exact EM hl hk ac P (j+1) m aj (by simpa using hm) QoW
  |false=>
   rw [Qr8,QqH,Qre rfl];have:=EM (n:=n) (q:=q) hl hk ac (P++[o]) (j+1) m aj (by simpa using hm) QoZ;rw [QqR,QqN] at this;exact this
theorem Q6S {R:Type} {O:List Occ} (hl:O.length<=300) {q:Int->Bool} (K:LL->(Int->Bool)->oP R):Uh 400 (O.map enc) q K=K ((O.filter fun o=>!q o.1).map enc) q:=by
 unfold Uh;rw [QqL];exact EM QoW (K:=fun w=>K w q) (fun _ _ _=>rfl) O [] 0 400 rfl QoW QoY
namespace Cx
def Q5E (a b:Nat) (w:Sp2):List D:=[Q4 6,Q4 ((2*a:Nat):Int),Q4 ((2*b:Nat):Int),Q4 w.1,Q4 w.2,Q4 0]
def fil (X:Cx) (J:List Tup) (a b:Nat):List Occ:=(X.occN a).filter fun o=>!X.TRb J a b o.1
def WV (X:Cx) (per:Int) (J:List Tup) (a b:Nat):oP (List Sp2):=match WB 400 per ((X.fil J a b).map enc) ((X.fil J b a).map enc) Tu2 with
 |some (w,e)=>if e=0 then some (w.map fun r=>match r with | [.int _ x,.int _ y]=>(x,y) | _=>(0,0)) else none
 |none=>none
def Qhi:oP (List Sp2)->LL×Int
 |none=>([],13)
 |some W=>(W.map Y6,0)
def hdw (X:Cx) (per:Int) (J:List Tup) (a:Nat):Nat->Nat->oP LL
 |0,_=>some []
 |c+1,b=>match X.WV per J a b with
  |none=>none
  |some W=>(hdw X per J a c (b+1)).map fun H=>W.map (Q5E a b)++H
def hdws (X:Cx) (per:Int) (J:List Tup):Nat->Nat->oP LL
 |0,_=>some []
 |c+1,a=>match X.hdw per J a c (a+1) with
  |none=>none
  |some H=>(hdws X per J c (a+1)).map fun H'=>H++H'
variable {R:Type} {n:Nat} {X:Cx} (h:X.OK) {per:Int}
theorem Q6j {J:List Tup} {a b:Nat} {r:Int}:X.TRb J a b r=X.TRb J b a r:=by
 grind [TRb,jab]
include h
theorem Q7h {J:List Tup} {a b:Nat} (ha:a<X.N):OL (-1) (X.fil J a b)/\(X.fil J a b).length<=6:=by
 have o:=(Jl h ha).2;exact ⟨o.1.filter,Nat.le_trans (List.length_filter_le ..) o.2⟩
theorem Q2q (p0:2<=per) (p1:per<=300) {J:List Tup} {a b:Nat} (ha:a<X.N) (hb:b<X.N):WB 400 per ((X.fil J a b).map enc) ((X.fil J b a).map enc) Tu2=some (Qhi (X.WV per J a b))/\KU 400 per ((X.fil J a b).map enc) ((X.fil J b a).map enc) Tu2=some (Qhi (X.WV per J a b))/\∀ W,X.WV per J a b=some W->W.length<=12:=by
 have oa:=Q7h h (J:=J) (b:=b) ha;have ob:=Q7h h (J:=J) (b:=a) hb;obtain ⟨F,G,g1,g,j,i,k⟩:=Q6U p0 (show per<=7200 by omega) oa.1 ob.1 oa.2 ob.2;have l:=QbM p0 p1 oa.1 ob.1 oa.2 ob.2 g1 j i;have hG:G.length<=12:=by
  rcases i with ⟨rfl,_⟩ | ⟨b,M,c,rfl,rfl⟩
  ·exact g
  ·simp at g ⊢;omega
 have e:X.WV per J a b=if cnt F=per then none else some (G.map (CJ per)):=by
  unfold WV;rw [k];by_cases hc:cnt F=per
  ·rw [Qre hc,Qre hc];rfl
  ·rw [Qrf hc,Qrf hc];dsimp only;rw [Qre rfl,List.map_map];congr 1;refine (List.map_congr_left fun q _=>?_).trans (List.map_id _);rfl
 grind [Qhi,cnt,CJ,Y6]
omit h in
theorem Qi2 {a b:Nat} (ha:a<=100) (hb:b<=100) {W:List Sp2} (hW:W.length<=12) {k0:Int->Bool->LL->oP R} {A:LL} (hA:A.length<=900):Qz 400 (a:Int) (b:Int) (W.map Y6) (W.length:Int) k0 400 0 A=k0 (W.length:Int) false (A++W.map (Q5E a b)):=by
 refine Qt (r:=fun m j=>Qz 400 (a:Int) (b:Int) (W.map Y6) (W.length:Int) k0 m j (A++(W.take j.toNat).map (Q5E a b))) (N:=W.length) (fun m j hj=>?_) (fun m=>?_) W.length 400 0 QoW QoW |> Eq.trans QoY
 ·simp only [QqG];obtain ⟨w,e⟩:∃ q,W[j]? = some q:=⟨W[j],QqI hj⟩;rw [Qz,Qc hj,QqH,QK e,YA e,QqR,<- QqN];simp -implicitDefEqProofs only [Q0,QbC,Qb8,Q2,Qr (show j<=1000 by omega),QcW (n:=400) (show a<=1000 by omega),QcW (n:=400) (show b<=1000 by omega),QeX (n:=400) (A:=A++(W.take j).map (Q5E a b)) QoZ];rfl
 ·simp only [QqG];rw [Qz,Qi,QqF,Qr1]
theorem Q1X (p0:2<=per) (p1:per<=300) {J:List Tup} {a:Nat} (ha:a<X.N):∀ {c b:Nat} {H:LL},b+c<=X.N->X.hdw per J a c b=some H->H.length<=12*c
 |0,b,H,_,e=>by cases e;exact QqP _
 |c+1,b,H,hb,e=>by
  rw [hdw] at e;have hw:=(Q2q h p0 p1 (J:=J) ha (show b<X.N by omega)).2.2;cases ew:X.WV per J a b with
  |none=>rw [ew] at e;cases e
  |some W=>
   rw [ew] at e;cases eh:X.hdw per J a c (b+1) with
   |none=>simp only [eh] at e;cases e
   |some H'=>
    simp only [eh] at e;cases e;have:=hw W ew;have:=Q1X p0 p1 ha QoW eh;simp;omega
theorem Qgp (p0:2<=per) (p1:per<=300) {J:List Tup} (hJ:X.JOK J) {a:Nat} (ha:a<X.N) {k0:Int->LL->oP R} {k1:Int->Bool->LL->oP R} {Ke K1:LL->oP R} (d:∀ A,k0 13 A=Ke A) (e:∀ u v A,k1 u v A=K1 A):∀ (c m b:Nat) (A:LL),b+c=X.N->c<m->A.length+12*c<=900->∃ A',
  QP 400 (a:Int) per (GM (X.occs X.L)) (J.map tuR) k0 k1 m (b:Int) A=match X.hdw per J a c b with | none=>Ke A' | some H=>K1 (A++H)
 |0,m+1,b,A,hb,_,_=>by
  have ac:(GM (X.occs X.L)).length=X.N:=by rw [J9];exact Zs
  refine ⟨A,?_⟩;rw [QP,ac,Qp3 ((b:Int)<(X.N:Int)),QqF,e,hdw]
  simp_all
 |c+1,m+1,b,A,hb,hm,hA=>by
  have ac:(GM (X.occs X.L)).length=X.N:=by rw [J9];exact Zs
  have hN:X.N<=6:=base_le h;have oa:=Jl h ha;have ob:=Jl h (show b<X.N by omega);obtain ⟨q,g,f⟩:=QiM h hJ (a:=a) (b:=b);have aj:(X.occN a).filter (fun o=>!q o.1)=X.fil J a b:=List.filter_congr fun o _=>by rw [f]
  have ak:(X.occN b).filter (fun o=>!q o.1)=X.fil J b a:=List.filter_congr fun o _=>by rw [f,Q6j]
  have hw:=Q2q h p0 p1 (J:=J) ha (show b<X.N by omega);rw [QP,ac,Qp4 ((b:Int)<(X.N:Int)),QqH,g,oa.1,ob.1];simp -implicitDefEqProofs only [Q0,QqE,QJ,Qr (show b<=1000 by omega),Q6S (show (X.occN a).length<=300 by omega),Q6S (show (X.occN b).length<=300 by omega),aj,ak,hw.1,hdw];cases ew:X.WV per J a b with
  |none=>exact ⟨A,d A⟩
  |some W=>
   have hl:=hw.2.2 W ew;obtain ⟨A',ih⟩:=Qgp p0 p1 hJ ha d e c m (b+1) (A++W.map (Q5E a b)) QoW QoW QoZ;refine ⟨A',?_⟩;simp -implicitDefEqProofs only [Qhi];rw [Q8 (by rfl),QqL,Qi2 QoW QoW hl QoW,ih]
   grind
theorem Qgx (p0:2<=per) (p1:per<=300) {J:List Tup} (hJ:X.JOK J) {k0:Int->LL->oP R} {k1:Int->Bool->LL->oP R} {Ke K1:LL->oP R} (d:∀ A,k0 13 A=Ke A) (e:∀ u v A,k1 u v A=K1 A):∀ (c m a:Nat) (A:LL),a+c=X.N->c<m->A.length+72*c<=900->∃ A',
  Qp 400 (X.N:Int) per (GM (X.occs X.L)) (J.map tuR) k0 k1 m (a:Int) A=match X.hdws per J c a with | none=>Ke A' | some H=>K1 (A++H)
 |0,m+1,a,A,ha,_,_=>by
  refine ⟨A,?_⟩;rw [Qp,Qp3 ((a:Int)<(X.N:Int)),QqF,e,hdws];simp only [Qr9]
 |c+1,m+1,a,A,ha,hm,hA=>by
  have hN:X.N<=6:=base_le h;obtain ⟨A1,f⟩:=Qgp h p0 p1 hJ (show a<X.N by omega) (Ke:=Ke) (K1:=fun A=>Qp 400 (X.N:Int) per (GM (X.occs X.L)) (J.map tuR) k0 k1 m ((a+1:Nat):Int) A) (k0:=fun g i=>k0 g i) (k1:=fun k l j=>Qp 400 (X.N:Int) per (GM (X.occs X.L)) (J.map tuR) k0 k1 m ((a+1:Nat):Int) j) (fun A=>d A) (fun u v A=>rfl) c 400 (a+1) A QoW QoW QoW;rw [Qp,Qp4 ((a:Int)<(X.N:Int)),QqH,Qr (show a<=1000 by omega),f,hdws];cases eh:X.hdw per J a c (a+1) with
  |none=>exact ⟨A1,rfl⟩
  |some H=>
   have:=Q1X h p0 p1 (J:=J) (show a<X.N by omega) (c:=c) (b:=a+1) QoW eh;obtain ⟨A2,h2⟩:=Qgx p0 p1 hJ d e c m (a+1) (A++H) QoW QoW QoZ;refine ⟨A2,?_⟩;dsimp only;rw [h2];cases X.hdws per J c (a+1) with
   |none=>rfl
   |some H'=>simp -implicitDefEqProofs only [Option.map_some,QqN]
theorem hdws_len (p0:2<=per) (p1:per<=300) {J:List Tup}:∀ {c a:Nat} {H:LL},a+c=X.N->X.hdws per J c a=some H->H.length<=60*c
 |0,a,H,_,e=>by cases e;exact QqP _
 |c+1,a,H,ha,e=>by
  have hN:X.N<=6:=base_le h;rw [hdws] at e;cases eh:X.hdw per J a c (a+1) with
  |none=>rw [eh] at e;cases e
  |some H1=>
   have:=Q1X h p0 p1 (J:=J) (show a<X.N by omega) (c:=c) (b:=a+1) QoW eh;rw [eh] at e;cases e2:X.hdws per J c (a+1) with
   |none=>simp only [e2] at e;cases e
   |some H2=>
    have:=hdws_len p0 p1 QoW e2;simp only [e2] at e;cases e;simp;omega
theorem QgX (p0:2<=per) (p1:per<=300) {J:List Tup} (hJ:X.JOK J) {A:LL} (hA:A.length<=100):∃ A',Yd 400 per (GM (X.occs X.L)) (J.map tuR) A Tu2=some (match X.hdws per J X.N 0 with | none=>((13:Int),A') | some H=>(0,A++H)):=by
 have hN:X.N<=6:=base_le h;have ac:(GM (X.occs X.L)).length=X.N:=by rw [J9];exact Zs
 unfold Yd;rw [ac];obtain ⟨A',e⟩:=Qgx h p0 p1 hJ (k0:=fun c d=>some (c,d)) (k1:=fun g i f=>some ((0:Int),f)) (Ke:=fun A=>some (13,A)) (K1:=fun A=>some (0,A)) (fun _=>rfl) (fun _ _ _=>rfl) X.N 400 0 A QoW QoW QoW;refine ⟨A',e.trans ?_⟩
 grind
end Cx
namespace Cx
def netV (X:Cx) (per:Int) (J:List Tup) (Ch Sy:LL):Int×LL×LL×Int:=bif X.aloneJ per J then (match X.hdws per J X.N 0 with
 |none=>(0,[],[],13)
 |some H=>(per,X.evs X.L,X.planned Ch Sy++H,0)) else (0,[],[],13)
variable {X:Cx} (h:X.OK) {per:Int} {Ch Sy De:LL} (hl:X.LsOK per Ch Sy)
theorem Q7a {α:Type} {nr:Nat->Nat} {f:Nat->Nat->α} {x:α}:∀ {L:Nat},x∈QaV nr f L↔∃ i k,i<L/\k<nr i/\x=f i k
 |0=>⟨fun h=>(nomatch h),fun ⟨_,_,h,_⟩=>by omega⟩
 |L+1=>by
  rw [QaV,QqO,Q7a,Qrd];constructor
  ·rintro (⟨i,k,b,h2,a⟩ | ⟨k,hk,rfl⟩)
   ·exact ⟨i,k,QoW,h2,a⟩
   ·exact ⟨L,k,QoW,List.mem_range.1 hk,rfl⟩
  ·rintro ⟨i,k,b,h2,a⟩;by_cases hi:i=L
   ·subst hi;exact .inr ⟨k,List.mem_range.2 h2,a.symm⟩
   ·exact .inl ⟨i,k,QoW,h2,a⟩
theorem Q5i {t:Tup}:t∈X.jns↔(∃ i k,i<X.L/\k<X.nr i-1/\t=X.j1 i k)\/∃ u∈X.T,X.jT u=t:=by
 unfold jns jL;rw [QqO,Q7a,Qrd]
include h
theorem Qei {i k:Nat} (hi:i<X.Ls.length) (hk:k<X.nr i):base X.nr i+k<X.N:=by
 have:=Sd (nr:=X.nr) (i:=i) (j:=X.L) hi;unfold N;omega
theorem QeJ:X.JOK X.jns:=by
 refine ⟨fun t ht=>?_,Qec h⟩;rcases Q5i.1 ht with ⟨i,k,a,h2,rfl⟩ | ⟨u,hu,rfl⟩
 ·have r:=rd h a (show k<X.nr i by omega);have q:=R2 h a (show k<X.nr i by omega);have:=r.ex0;have:=r.ex1;have:=r.mn0;have:=r.mn1;have:=r.mn2;have:=r.mn3;refine ⟨Qei h a QoW,Qei h a QoW,?_,?_,?_,?_⟩ <;> simp only [j1] <;> omega
 ·have ht:=h.tr _ hu;have ha:u.1<X.Ls.length:=ht.1;have hb:u.2.1<X.Ls.length:=ht.2.1;have na:=(K3 h ha).2.1;have nb:=(K3 h hb).2.1;have t1:=ht.2.2.1;have t2:=ht.2.2.2.1;have b:=ht.2.2.2.2.1;have c:=ht.2.2.2.2.2.1;have r:=rd h ha (show X.nr u.1-1<X.nr u.1 by omega);have q:=R2 h ha (show X.nr u.1-1<X.nr u.1 by omega);have:=r.ex0;have:=r.ex1;refine ⟨Qei h ha QoW,Qei h hb QoW,?_,?_,?_,?_⟩ <;> simp only [jT] <;> omega
include hl
theorem planned_len:(X.planned Ch Sy).length<=35:=by
 have hN:base X.nr X.L<=6:=base_le h;have:=Au (X:=X) (i:=X.L);have:=hl.chl;have:=hl.syl;have:=h.tl;unfold planned;simp only [Qr2,QqL];omega
theorem buildP (p0:2<=per) (p1:per<=300) (hc:Jd 400 X.G.St X.G.Pt X.G.Se X.G.Li per X.skR X.Ro X.Ls Ch (X.T.map tuR) Sy De (some:Int->oP Int)=some 0) :
  GN 400 X.G.St X.G.Pt X.G.Se X.G.Li per X.skR X.Ro X.Ls Ch (X.T.map tuR) Sy De Tu4=some (X.netV per X.jns Ch Sy):=by
 have hN:base X.nr X.L<=6:=base_le h;have aj:=planned_len h hl;unfold GN netV;rw [hc,Q0,Q8 (by rfl),QdF h,Q0];dsimp only;rw [evs_len,Q8 (QqU QoW),QgF h hc,Q0];dsimp only;rw [Q8 (by rfl),Qfg h,Q0];rw [Qfr h QoW p1 (QeJ h),Q0];cases X.aloneJ per X.jns
 ·rfl
 rw [Q8 (by rfl),Qbd h hl,Q0];obtain ⟨A',e⟩:=QgX h p0 p1 (QeJ h) (A:=X.planned Ch Sy) QoW;rw [e,Q0,QqH];cases eh:X.hdws per X.jns X.N 0 with
 |none=>rfl
 |some H=>
  have:=hdws_len h p0 p1 QoW eh;have ac:X.N<=6:=hN;dsimp only;rw [Q8 (by rfl),Q8 (QqU (by rw [Qr2];omega))]
end Cx
theorem Qcg {α β:Type} {r:Nat->Int->β} {l:List α} {p:α->Bool} {F:α->β} {E:β} (a:∀ m i q,l[i]? = some q->i<l.length->r (m+1) (i:Int)=bif p q then F q else r m ((i+1:Nat):Int)) (b:∀ m,r (m+1) (l.length:Int)=E) {fuel:Nat} (hf:l.length<fuel):r fuel 0=match l.find? p with | some q=>F q | none=>E:=by
 have go:∀ (ac:List α) (i m:Nat),l.drop i=ac->ac.length<m->i<=l.length->r m (i:Int)=match ac.find? p with | some q=>F q | none=>E:=by
  intro ac;induction ac with
  |nil=>
   intro i m hd hm hi;obtain ⟨m,rfl⟩:∃ k,m=k+1:=⟨m-1,QoW⟩
   grind
  |cons q ac ih=>
   intro i m hd hm hi;obtain ⟨m,rfl⟩:∃ k,m=k+1:=⟨m-1,by simp at hm;omega⟩
   grind [YB]
 exact go l 0 fuel rfl hf (Qrs _)
theorem QfW {t:Int} {O:List Occ} (a:1<=t) (b:t<=7200) (hO:OL (-1) O) (hl:O.length<=300):Mq 400 t (O.map enc) (some:Bool->oP Bool)=some (O.all (RU t)):=by
 unfold Mq;rw [Q4H a b,Q9P hl hO];simp -implicitDefEqProofs only [QqF,Q0,QqZ,Qr8];refine (Ty (r:=fun m i=>Jf 400 t (O.map enc) (some false) (fun _ _=>some true) m i) (l:=O) (p:=RU t) (E0:=some false) (E1:=some true) (fun m i q e hi=>?_) (fun m=>?_) QoW).trans (by cases O.all (RU t) <;> rfl)
 ·rw [Jf,QqL,Qc hi,QqH,QK e];simp -implicitDefEqProofs only [Q0,NS,Ly,FO,Q2,Qr (show i<=1000 by omega),Qjo hO (QqD e)];unfold RU;cases decide (q.2.2-q.2.1>t) <;> rfl
 ·rw [Jf,QqL,Qi,QqF]
def Q8g (O:List Occ) (r:Int):Bool:=(O.find? fun q=>q.1 == r).isSome
def fnd (O:List Occ) (r:Int):Occ:=(O.find? fun q=>q.1 == r).getD (0,0,0)
theorem CF {p:Occ->Bool} {r:Int} (hp:∀ q,q.1≠r->p q=false):∀ {l:Int} {O:List Occ},OL l O->O.any p=(bif Q8g O r then p (fnd O r) else false)
 |_,[],_=>rfl
 |l,(x,a,b)::O,⟨d,h2,e,f,g,c⟩=>by
  have ih:=CF hp c;unfold Q8g fnd at ih ⊢;by_cases hx:x=r
  ·subst hx;have:O.any p=false:=by
    rw [List.any_eq_false];intro q hq;have:=(c.mem q hq).1
    grind
   simp_all
  grind
theorem Q5d {O:List Occ} {r:Int} (h:Q8g O r=true):(fnd O r).1=r:=by
 unfold Q8g at h;unfold fnd;cases e:O.find? fun q=>q.1 == r with
 |none=>simp_all
 |some q=>grind
theorem Q60 {l:Int} {O:List Occ} (hO:OL l O) {x:Occ} (hx:x∈O):Q8g O x.1=true/\fnd O x.1=x:=by
 unfold Q8g fnd;cases e:O.find? fun q=>q.1 == x.1 with
 |none=>grind
 |some q=>exact ⟨rfl,hO.uniq (List.mem_of_find?_eq_some e) hx (by grind)⟩
def okR (la:Int) (A B:List Occ) (r:Int):Bool:=bif (bif Q8g A r then Q8g B r else false) then decide (la+(fnd B r).2.1<=(fnd A r).2.2) else false
theorem Qcp {la:Int} {x y:Occ} (h:y.1≠x.1):tie la x y=false:=by
 grind [tie]
theorem Qgj {la r:Int} {A B:List Occ} (hA:OL (-1) A) (hB:OL (-1) B):okR la A B r=Q12 la A B r:=by
 unfold Q12 okR;rw [CF (r:=r) (fun q hq=>by
  simp_all) hA]
 cases ha:Q8g A r with
 |false=>rfl
 |true=>
  have ea:=Q5d ha;rw [QqH,QqH,CF (r:=r) (fun y hy=>by grind [Qcp]) hB];cases hb:Q8g B r with
  |false=>rfl
  |true=>
   have eb:=Q5d hb
   simp_all [tie,QqH,decide,fnd]
theorem Qda {per la mo:Int} {A B:List Occ} (hA:OL (-1) A) (hB:OL (-1) B) {x:Occ} (hx:x∈A):(B.any fun y=>bif tie la x y then B2 per la mo x y else false)=bif okR la A B x.1 then B2 per la mo (fnd A x.1) (fnd B x.1) else false:=by
 have ha:=Q60 hA hx;unfold okR;rw [CF (r:=x.1) (fun y hy=>by grind [Qcp]) hB,ha.1,ha.2,QqH];cases hb:Q8g B x.1 with
 |false=>rfl
 |true=>
  simp_all [Q5d,tie,QqH]
theorem Q5F {l:Int} {O:List Occ} (hO:OL l O) {r:Int} : -1000<=(fnd O r).2.1/\(fnd O r).2.1<=20000 /\ -1000<=(fnd O r).2.2/\(fnd O r).2.2<=20000:=by
 unfold fnd;cases e:O.find? fun q=>q.1 == r with
 |none=>simp
 |some q=>
  have:=hO.mem q (List.mem_of_find?_eq_some e)
  grind
theorem QfJ {R:Type} {O:List Occ} (hl:O.length<=300) {r:Int} (K:D->D->D->Bool->oP R):Vr 400 (O.map enc) r K=K (Q4 (fnd O r).1) (Q4 (fnd O r).2.1) (Q4 (fnd O r).2.2) (Q8g O r):=by
 unfold Vr fnd Q8g;refine (Qcg (r:=fun m i=>YS 400 (O.map enc) r (fun a b c=>K a b c true) (fun d f=>K (Q4 0) (Q4 0) (Q4 0) false) m i) (l:=O) (p:=fun q=>q.1 == r) (F:=fun q=>K (Q4 q.1) (Q4 q.2.1) (Q4 q.2.2) true) (E:=K (Q4 0) (Q4 0) (Q4 0) false) (fun m i q e hi=>?_) (fun m=>?_) QoW).trans ?_
 ·rw [YS,QqL,Qc hi,QqH,QK e];simp -implicitDefEqProofs only [Q0,NS,Ly,FO,Q2,Qr (show i<=1000 by omega)]
 ·rw [YS,QqL,Qi,QqF]
 ·cases O.find? fun q=>q.1 == r <;> rfl
namespace Cx
variable {R:Type} {X:Cx} (h:X.OK)
include h
theorem Qfl {J:List Tup} (hJ:X.JOK J) {t:Tup} (ht:t∈J) {r:Int} (K:D->D->D->D->D->D->Bool->oP R):PP 400 (GM (X.occs X.L)) (t.1:Int) (t.2.1:Int) t.2.2.1 r K=K (Q4 (fnd (X.occN t.1) r).1) (Q4 (fnd (X.occN t.1) r).2.1) (Q4 (fnd (X.occN t.1) r).2.2) (Q4 (fnd (X.occN t.2.1) r).1) (Q4 (fnd (X.occN t.2.1) r).2.1) (Q4 (fnd (X.occN t.2.1) r).2.2) (okR t.2.2.1 (X.occN t.1) (X.occN t.2.1) r):=by
 have hj:=hJ.at' t ht;have oa:=Jl h hj.1;have ob:=Jl h hj.2.1;have rb:=Q5F ob.2.1 (r:=r);unfold PP okR;rw [oa.1,ob.1];simp -implicitDefEqProofs only [Q0,QqE,QJ,QfJ (show (X.occN t.1).length<=300 by omega),QfJ (show (X.occN t.2.1).length<=300 by omega),Q2,Q6 (x:=t.2.2.1+(fnd (X.occN t.2.1) r).2.1) QoW QoW]
theorem Qgr {J:List Tup} (hJ:X.JOK J) {t:Tup} (ht:t∈J) {per:Int} (K:Bool->oP R):Rn 400 (GM (X.occs X.L)) (t.1:Int) (t.2.1:Int) t.2.2.1 t.2.2.2 per K=K (!Q8o per t.2.2.1 t.2.2.2 (X.occN t.1) (X.occN t.2.1)):=by
 have hj:=hJ.at' t ht;have oa:=Jl h hj.1;have ob:=Jl h hj.2.1;unfold Rn Q8o;refine (Ty (r:=fun m i=>UC 400 (GM (X.occs X.L)) per (t.1:Int) (t.2.1:Int) t.2.2.1 t.2.2.2 (K false) (fun a b=>K true) m i) (l:=X.occN t.1) (p:=fun x=>!((X.occN t.2.1).any fun y=>bif tie t.2.2.1 x y then B2 per t.2.2.1 t.2.2.2 x y else false)) (E0:=K false) (E1:=K true) (fun m i x e hi=>?_) (fun m=>?_) QoW).trans ?_
 ·have ra:=Q5F oa.2.1 (r:=x.1);have rb:=Q5F ob.2.1 (r:=x.1);rw [UC,oa.1,Qda oa.2.1 ob.2.1 (QqD e)];simp -implicitDefEqProofs only [Q0,QqE,QJ,QqL,Qc hi,QqH,QK e,NS,Q2,Qfl h hJ ht,Qr (show i<=1000 by omega)];generalize fnd (X.occN t.1) x.1=u at ra ⊢;generalize fnd (X.occN t.2.1) x.1=v at rb ⊢;cases okR t.2.2.1 (X.occN t.1) (X.occN t.2.1) x.1 with
  |false=>rfl
  |true=>
   rw [QqH,QqH,Q6 (x:=t.2.2.1+v.2.1) QoW QoW,Q6 (x:=t.2.2.2+v.2.2) QoW QoW,Q6 (x:=(if u.2.2<t.2.2.2+v.2.2 then t.2.2.2+v.2.2 else u.2.2)-(if t.2.2.1+v.2.1<u.2.1 then t.2.2.1+v.2.1 else u.2.1)) (by split <;> split <;> omega) (by split <;> split <;> omega)];unfold B2;cases decide ((if u.2.2<t.2.2.2+v.2.2 then t.2.2.2+v.2.2 else u.2.2)-(if t.2.2.1+v.2.1<u.2.1 then t.2.2.1+v.2.1 else u.2.1)>per) <;> rfl
 ·rw [UC,oa.1];simp -implicitDefEqProofs only [Q0,QqE,QJ,QqL,Qi,QqF]
 ·rw [<- List.not_any_eq_all_not];cases (X.occN t.1).any fun x=>(X.occN t.2.1).any fun y=>bif tie t.2.2.1 x y then B2 per t.2.2.1 t.2.2.2 x y else false <;> rfl
theorem Q9O {J:List Tup} (hJ:X.JOK J) {a b i:Nat} (ha:a<X.N) {x:Occ} (e:(X.occN a)[i]? = some x) (k0:Bool->Int->Bool->oP R):YN 400 (GM (X.occs X.L)) (J.map tuR) (a:Int) (b:Int) (i:Int) k0 400 false 0=k0 (X.TRb J a b x.1) (J.length:Int) false:=by
 have oa:=Jl h ha;have hl:=hJ.len;unfold TRb;rw [<- Bool.false_or (List.any _ _),<- FE];refine Fa (r:=fun m j c=>YN 400 (GM (X.occs X.L)) (J.map tuR) (a:Int) (b:Int) (i:Int) k0 m c j) (E:=fun c=>k0 c (J.length:Int) false) (fun m j t c e' hi=>?_) (fun m c=>?_) QoW false
 ·have hj:=hJ.at' t (QqD e');have o1:=Jl h hj.1;have o2:=Jl h hj.2.1;have ac:Q1 (J.map tuR) (j:Int)=some [Q4 t.1,Q4 t.2.1,Q4 t.2.2.1,Q4 t.2.2.2]:=QK e';rw [YN,QqL,Qc hi,QqH,ac];simp -implicitDefEqProofs only [Q0,QqE,QqK,Q2,QJ,oa.1,QK e,NS,Qfl h hJ (QqD e'),Qr (show j<=1000 by omega),Qgj o1.2.1 o2.2.1];show (bif jab a b t then _ else _)=_;cases jab a b t <;> cases c <;> rfl
 ·rw [YN,QqL,Qi,QqF]
theorem Q67 {J:List Tup} (hJ:X.JOK J) {a b:Nat} (ha:a<X.N) (K:LL->oP R):Gt 400 (GM (X.occs X.L)) (J.map tuR) (a:Int) (b:Int) K=K ((X.fil J a b).map enc):=by
 have oa:=Jl h ha;unfold Gt fil;refine Qt (r:=fun m i=>ZF 400 (GM (X.occs X.L)) (J.map tuR) (a:Int) (b:Int) (fun d f c=>K c) m i ((((X.occN a).take i.toNat).filter fun o=>!X.TRb J a b o.1).map enc)) (N:=(X.occN a).length) (fun m i hi=>?_) (fun m=>?_) (X.occN a).length 400 0 QoW QoW
 ·simp only [QqG];obtain ⟨x,e⟩:∃ q,(X.occN a)[i]? = some q:=⟨(X.occN a)[i],QqI hi⟩;have aj:(((X.occN a).take i).filter fun o=>!X.TRb J a b o.1).length<=i:=Nat.le_trans (List.length_filter_le ..) QoZ;rw [ZF,oa.1];simp -implicitDefEqProofs only [Q0,QqE,QJ,QqL,Qc hi,QqH,Q9O h hJ ha e,QK e,NS,Ly,FO,Qr (show i<=1000 by omega),XE (show ((((X.occN a).take i).filter fun o=>!X.TRb J a b o.1).length+[[Q4 x.1,Q4 x.2.1,Q4 x.2.2]].length)*24<=100000 by simp;omega)];rw [YA e,List.filter_append,QqR];simp only [List.filter_cons,List.filter_nil];cases X.TRb J a b x.1 with
  |false=>rfl
  |true=>
   rw [QqZ,QqF,Qrf Bool.false_ne_true,List.map_nil,Qr9]
 ·simp only [QqG];rw [ZF,oa.1];simp -implicitDefEqProofs only [Q0,QqE,QJ,QqL,Qi,QqF,Qr1]
end Cx
theorem Qbt {a b:Nat} (h:a+b<=100000):wJ ((a:Int)+(b:Int))=((a+b:Nat):Int):=Q6 QoW QoW
theorem Qe5 {a:Nat} (h:a<=100000):wJ ((a:Int)+1)=((a+1:Nat):Int):=Q6 QoW QoW
theorem QiB {a:Nat} (h:a<=100000):wJ ((a:Int)+2)=((a+2:Nat):Int):=Q6 QoW QoW
theorem Mz {a:Nat} (h:a<=100000):wJ (2*(a:Int))=((2*a:Nat):Int):=Q6 QoW QoW
namespace Cx
def jR (X:Cx) (i:Nat):List Tup:=(List.range (X.nr i-1)).map (X.j1 i)++(match X.tn i with | some t=>[X.jT t] | none=>[])
def jnsR (X:Cx):Nat->List Tup
 |0=>[]
 |i+1=>jnsR X i++X.jR i
variable {R:Type} {n:Nat} {X:Cx} (h:X.OK)
theorem Q7e {t:Tup}:∀ {L:Nat},t∈X.jnsR L↔∃ i,i<L/\t∈X.jR i
 |0=>⟨fun h=>(nomatch h),fun ⟨_,h,_⟩=>by omega⟩
 |L+1=>by
  rw [jnsR,QqO,Q7e];constructor
  ·rintro (⟨i,a,h2⟩ | h2)
   ·exact ⟨i,QoW,h2⟩
   ·exact ⟨L,QoW,h2⟩
  ·rintro ⟨i,a,h2⟩;by_cases hi:i=L
   ·subst hi;exact .inr h2
   ·exact .inl ⟨i,QoW,h2⟩
theorem Dt {i:Nat} {t:Tup} (ht:X.tn i=some t):t∈X.T/\t.1=i:=⟨List.mem_of_find?_eq_some ht,by simpa using List.find?_some ht⟩
theorem Q7g {α β:Type} {f:α->β}:∀ {l:List α},(l.map f).Nodup->∀ {x y},x∈l->y∈l->f x=f y->x=y
 |[],_,_,_,h,_,_=>nomatch h
 |a::l,hn,x,y,hx,hy,e=>by
  rw [List.map_cons,List.nodup_cons] at hn;cases hx with
  |head=>
   cases hy with
   |head=>rfl
   |tail _ hy=>exact (hn.1 (Qrd.2 ⟨y,hy,e.symm⟩)).elim
  |tail _ hx=>
   cases hy with
   |head=>exact (hn.1 (Qrd.2 ⟨x,hx,e⟩)).elim
   |tail _ hy=>exact Q7g hn.2 hx hy e
include h
theorem Qeh {t:Tup} (ht:t∈X.T):X.tn t.1=some t:=by
 cases e:X.tn t.1 with
 |none=>exact absurd (List.find?_eq_none.1 e t ht) QoY
 |some u=>
  have hu:=Dt e;rw [Q7g h.fd hu.1 ht hu.2]
theorem Q2T {t:Tup}:t∈X.jnsR X.L↔t∈X.jns:=by
 rw [Q7e,Q5i];constructor
 ·rintro ⟨i,hi,ht⟩;rcases QqO.1 ht with ht | ht
  ·grind
  ·cases e:X.tn i with
   |none=>simp_all
   |some u=>
    rw [e] at ht;obtain rfl:=QqY.1 ht;exact .inr ⟨u,(Dt e).1,rfl⟩
 ·rintro (⟨i,k,hi,hk,rfl⟩ | ⟨u,hu,rfl⟩)
  ·exact ⟨i,hi,Qr4 _ (List.mem_map_of_mem (List.mem_range.2 hk))⟩
  ·refine ⟨u.1,(h.tr _ hu).1,QqW _ ?_⟩
   grind [Qeh]
theorem Q7l {i:Nat} (hi:i<=X.Ls.length):(X.jnsR i).length<=base X.nr i:=by
 induction i with
 |zero=>exact QqP _
 |succ i ih=>
  have hl:=(K3 h (i:=i) QoW).2.1
  grind [jnsR,jR,List.length_append,List.length_map,List.length_range,base]
theorem QfQ:X.JOK (X.jnsR X.L):=⟨fun t ht=>(QeJ h).at' t ((Q2T h).1 ht),by have:=Q7l h (i:=X.L) (QqP _);have:=base_le h;omega⟩
theorem Q1L {i:Nat} (hi:i<=X.Ls.length) (K:Int->oP R):WY 400 X.Ls (i:Int) K=K ((base X.nr i:Nat):Int):=by
 have hb:=Ye h hi;have l1:=h.l1;unfold WY;refine Qt (r:=fun m k=>Ji 400 (i:Int) X.Ls (fun c d e=>K c) m ((base X.nr k.toNat:Nat):Int) k) (N:=i) (fun m k hk=>?_) (fun m=>?_) i 400 0 QoW QoW
 ·simp only [QqG];have ac:=Ye h (i:=k+1) QoW;rw [base] at ac;have ha:wJ (((base X.nr k:Nat):Int)+(((Kp X.Ls k).length:Nat):Int))=((base X.nr (k+1):Nat):Int):=Qbt (a:=base X.nr k) (b:=X.nr k) QoW;rw [Ji,Qc hk,QqH,Qd,(K3 h QoW).1];simp -implicitDefEqProofs only [Q0,QqE,QqK,QJ,Qr (show k<=1000 by omega),ha]
 ·simp only [QqG];rw [Ji,Qi,QqF]
theorem Qh0 (K:LL->oP R):SN 400 X.Ls (X.T.map tuR) (encI (X.runs X.L)) K=K ((X.jnsR X.L).map tuR):=by
 have l1:=h.l1;unfold SN;refine Qt (r:=fun m i=>Uo 400 (encI (X.runs X.L)) X.Ls (X.T.map tuR) (fun f g c=>K c) m i ((X.jnsR i.toNat).map tuR)) (N:=X.Ls.length) (fun m i hi=>?_) (fun m=>?_) X.Ls.length 400 0 QoW QoW
 ·simp only [QqG];have hl:=(K3 h hi).2.1;have hb:=Ye h (i:=i) QoW;have hw:wJ (((List.length (Kp X.Ls i):Nat):Int)-1)=((X.nr i-1:Nat):Int):=Ju (k:=X.nr i) QoW QoW;have hJ:=Q7l h (i:=i) QoW;rw [Uo,Qc hi,QqH,Qd,(K3 h hi).1];simp -implicitDefEqProofs only [Q0,QqE,QqK,Qr (show i<=1000 by omega)];refine Qt (r:=fun m' k=>ZY 400 (encI (X.runs X.L)) (i:Int) X.Ls (X.T.map tuR) (D.sl 4 (Kp X.Ls i)) (fun _ _ w=>Uo 400 (encI (X.runs X.L)) X.Ls (X.T.map tuR) (fun f g c=>K c) m ((i+1:Nat):Int) w) m' k ((if k.toNat<=X.nr i-1 then X.jnsR i++(List.range k.toNat).map (X.j1 i) else X.jnsR (i+1)).map tuR)) (N:=X.nr i) (fun m' k hk=>?_) (fun m'=>?_) (X.nr i) 400 0 QoW QoW |> Eq.trans QoY
  ·simp only [QqG];have r:=rd h hi hk;have hr:=R2 h hi hk;have ac:Q1 (Kp X.Ls i) (k:Int)=some [Q4 (rF X.Ls i k 0),Q4 (X.ex i k),Q4 (X.mn i k),Q4 (X.mx i k)]:=by rw [Qd,r.row]
   have l:=r.ex0;have e1:=r.ex1;have e2:=r.mn0;have n:=r.mn1;have o:=r.mn2;have p:=r.mn3;rw [ZY,QJ,Q0,show (((Kp X.Ls i).length:Nat):Int)=((X.nr i:Nat):Int) from rfl,Qc hk,QqH,Qre (show k<=X.nr i-1 by omega)];simp -implicitDefEqProofs only [Q0,Q1L h (show i<=X.Ls.length by omega),ac,QqE,QqK,Q2,QJ,hw,Qbt (a:=base X.nr i) (b:=k) QoW,Q6o hi hk,Qr (show k<=1000 by omega),Q6 (x:=X.run i k+X.mn i k) QoW QoW,Q6 (x:=X.run i k+X.ex i k) QoW QoW,Q6 (x:=X.run i k+X.ex i k+X.mx i k) QoW QoW,Qe5 (a:=base X.nr i+k) QoW];by_cases j:k<X.nr i-1
   ·rw [Qc j,QqH,Qre (show k+1<=X.nr i-1 by omega),XE QoZ,Q0,<- Zo,QqR (l₁:=X.jnsR i++(List.range k).map (X.j1 i))];rfl
   ·rw [Qp3 ((k:Int)<((X.nr i-1:Nat):Int)),QqF,Qrf (show ¬ k+1<=X.nr i-1 by omega),QdR h];have d:k=X.nr i-1:=QoW
    cases ht:X.tn i with
    |none=>
     simp -implicitDefEqProofs only [Q0,QqF,jnsR,jR,ht,Qr9,d]
    |some t=>
     obtain ⟨t1,t2⟩:=Dt ht;have an:=(h.tr _ t1).2.1;have q:=(h.tr _ t1).2.2.1;have s:=(h.tr _ t1).2.2.2.1;have u:=(h.tr _ t1).2.2.2.2.1;have v:=(h.tr _ t1).2.2.2.2.2.1;simp -implicitDefEqProofs only [Q0,QqH,Q2,Q1L h (show t.2.1<=X.Ls.length by omega),Q6 (x:=X.run i k+t.2.2.1) QoW QoW,Q6 (x:=X.run i k+X.ex i k+t.2.2.2) QoW QoW,jnsR,jR,ht];have e:[Q4 ((base X.nr i+k:Nat):Int),Q4 ((base X.nr t.2.1:Nat):Int),Q4 (X.run i k+t.2.2.1),Q4 (X.run i k+X.ex i k+t.2.2.2)]=tuR (X.jT t):=by
      unfold tuR jT;rw [t2,d];rfl
     rw [XE QoZ,Q0,e,d,<- QqN,QqR (l₁:=X.jnsR i++_)];rfl
  ·simp only [QqG];rw [ZY,QJ,Q0,show (((Kp X.Ls i).length:Nat):Int)=((X.nr i:Nat):Int) from rfl,Qi,QqF,Qrf QoW]
 ·simp only [QqG];rw [Uo,Qi,QqF];rfl
theorem QdJ (k0:LL->oP R):W0 400 X.Ls (fun _ _ w=>k0 w) 400 0 []=k0 (X.evs X.L):=by
 have l1:=h.l1;refine Qt (r:=fun m i=>W0 400 X.Ls (fun _ _ w=>k0 w) m i (X.evs i.toNat)) (N:=X.Ls.length) (fun m i hi=>?_) (fun m=>?_) X.Ls.length 400 0 QoW QoW
 ·simp only [QqG];have hl:=(K3 h hi).2.1;have hb:=Ye h (i:=i) QoW;rw [W0,Qc hi,QqH,Qr (show i<=1000 by omega)];refine Qt (r:=fun m' k=>VE 400 (i:Int) X.Ls (fun _ _ w=>W0 400 X.Ls (fun _ _ w=>k0 w) m ((i+1:Nat):Int) w) m' k (X.evs i++evl i k.toNat)) (N:=X.nr i) (fun m' k hk=>?_) (fun m'=>?_) (X.nr i) 400 0 QoW QoW |> Eq.trans (by simp [evl])
  ·simp only [QqG];rw [VE,Qd,(K3 h hi).1];simp -implicitDefEqProofs only [Q0,QqE,QqK,QJ];rw [show (((Kp X.Ls i).length:Nat):Int)=((X.nr i:Nat):Int) from rfl,Qc hk,QqH,XE (by simp [evs_len,Q2r];omega),Q0,Qr QoW,QqN];rfl
  ·simp only [QqG];rw [VE,Qd,(K3 h hi).1];simp -implicitDefEqProofs only [Q0,QqE,QqK,QJ];rw [show (((Kp X.Ls i).length:Nat):Int)=((X.nr i:Nat):Int) from rfl,Qi,QqF];rfl
 ·simp only [QqG];rw [W0,Qi,QqF];rfl
theorem Qg0 (K:LL->oP R):SK 400 X.Ls (encI (X.runs X.L)) K=K (X.pls X.L):=by
 have l1:=h.l1;unfold SK;refine Qt (r:=fun m i=>Uv 400 (encI (X.runs X.L)) X.Ls (fun e f c=>K c) m i (X.pls i.toNat)) (N:=X.Ls.length) (fun m i hi=>?_) (fun m=>?_) X.Ls.length 400 0 QoW QoW
 ·simp only [QqG];have hl:=(K3 h hi).2.1;have hb:=Ye h (i:=i) QoW;have hp:=Au (X:=X) (i:=i);have hw:wJ (((List.length (Kp X.Ls i):Nat):Int)-1)=((X.nr i-1:Nat):Int):=Ju (k:=X.nr i) QoW QoW;rw [Uv,Qc hi,QqH,Qd,(K3 h hi).1];simp -implicitDefEqProofs only [Q0,QqE,QqK,Qr (show i<=1000 by omega)];refine Qt (r:=fun m' k=>Uy 400 (encI (X.runs X.L)) (i:Int) X.Ls (Q4 (X.w i)) (D.sl 4 (Kp X.Ls i)) (fun _ _ w=>Uv 400 (encI (X.runs X.L)) X.Ls (fun e f c=>K c) m ((i+1:Nat):Int) w) m' k (X.pls i++X.pl i k.toNat)) (N:=X.nr i) (fun m' k hk=>?_) (fun m'=>?_) (X.nr i) 400 0 QoW QoW |> Eq.trans (by simp [pl])
  ·simp only [QqG];have r:=rd h hi hk;have hr:=R2 h hi hk;have ac:Q1 (Kp X.Ls i) (k:Int)=some [Q4 (rF X.Ls i k 0),Q4 (X.ex i k),Q4 (X.mn i k),Q4 (X.mx i k)]:=by rw [Qd,r.row]
   have g:=r.ex0;have e1:=r.ex1;have ak:=Q7n (X:=X) (i:=i) (k:=k);rw [Uy,QJ,Q0,show (((Kp X.Ls i).length:Nat):Int)=((X.nr i:Nat):Int) from rfl,Qc hk,QqH];simp -implicitDefEqProofs only [Q0,Q1L h (show i<=X.Ls.length by omega),ac,QqE,QqK,Q2,QJ,hw,Qbt (a:=base X.nr i) (b:=k) QoW,Q6o hi hk,Qr (show k<=1000 by omega),Q6 (x:=X.run i k+X.ex i k) QoW QoW,Mz (a:=base X.nr i+k) QoW,Qe5 (a:=2*(base X.nr i+k)) QoW,QiB (a:=2*(base X.nr i+k)) QoW];rw [XE QoZ,Q0];by_cases d:k<X.nr i-1
   ·rw [Qc d,QqH,XE QoZ,Q0,pl,Qre d,<- QqN,<- QqN];rfl
   ·rw [Qp3 ((k:Int)<((X.nr i-1:Nat):Int)),QqF,pl,Qrf d,Qr9,<- QqN];rfl
  ·simp only [QqG];rw [Uy,QJ,Q0,show (((Kp X.Ls i).length:Nat):Int)=((X.nr i:Nat):Int) from rfl,Qi,QqF];rfl
 ·simp only [QqG];rw [Uv,Qi,QqF];rfl
theorem Qhf {per:Int} {Ch Sy:LL} (hl:X.LsOK per Ch Sy) (K:LL->oP R):Rm 400 X.Ls Ch (X.T.map tuR) Sy K=K (Ch.map X.chE++X.T.map X.tuE++Sy.map X.syE):=by
 have l1:=h.l1;have tl:=h.tl;have chl:=hl.chl;have syl:=hl.syl;unfold Rm;have s1:∀ k0:LL->oP R,Uw 400 X.Ls Ch (fun _ _ w=>k0 w) 400 0 []=k0 (Ch.map X.chE):=by
  intro k0;refine Qt (r:=fun m j=>Uw 400 X.Ls Ch (fun _ _ w=>k0 w) m j ((Ch.take j.toNat).map X.chE)) (N:=Ch.length) (fun m j hj=>?_) (fun m=>?_) Ch.length 400 0 QoW QoW
  ·simp only [QqG];obtain ⟨row,e⟩:∃ q,Ch[j]? = some q:=⟨Ch[j],QqI hj⟩;obtain ⟨f,fr,t,tr,mn,mx,w,rfl,g1,n,c,y,z,g6⟩:=hl.ch row (QqD e);have nf:=(K3 h g1).2.1;have nt:=(K3 h c).2.1;have bf:=Ye h (i:=f) QoW;have bt:=Ye h (i:=t) QoW;rw [Uw,Qc hj,QqH,Qd,e,YA e,QqR];simp -implicitDefEqProofs only [Q0,QqE,QqK,Q2,Q1L h (show f<=X.Ls.length by omega),Q1L h (show t<=X.Ls.length by omega),Qr (show j<=1000 by omega),Qbt (a:=base X.nr f) (b:=fr) QoW,Qbt (a:=base X.nr t) (b:=tr) QoW,Mz (a:=base X.nr f+fr) QoW,Mz (a:=base X.nr t+tr) QoW,Qe5 (a:=2*(base X.nr f+fr)) QoW];rw [XE QoZ,Q0];rfl
  ·simp only [QqG];rw [Uw,Qi,QqF,Qr1]
 have s2:∀ k0:LL->oP R,ZW 400 X.Ls (X.T.map tuR) (fun _ _ w=>k0 w) 400 0 (Ch.map X.chE)=k0 (Ch.map X.chE++X.T.map X.tuE):=by
  intro k0;refine Qt (r:=fun m j=>ZW 400 X.Ls (X.T.map tuR) (fun _ _ w=>k0 w) m j (Ch.map X.chE++(X.T.take j.toNat).map X.tuE)) (N:=X.T.length) (fun m j hj=>?_) (fun m=>?_) X.T.length 400 0 QoW QoW |> Eq.trans QoY
  ·simp only [QqG];obtain ⟨⟨a,b,lo,hi⟩,e⟩:∃ q,X.T[j]? = some q:=⟨X.T[j],QqI hj⟩;have ht:=h.tr _ (QqD e);have g1:a<X.Ls.length:=ht.1;have c:b<X.Ls.length:=ht.2.1;have nf:=(K3 h g1).2.1;have bf:=Ye h (i:=a) QoW;have bt:=Ye h (i:=b) QoW;have aj:Q1 (X.T.map tuR) (j:Int)=some [Q4 a,Q4 b,Q4 lo,Q4 hi]:=QK e;have p:Ch.map X.chE++(X.T.take (j+1)).map X.tuE=Ch.map X.chE++(X.T.take j).map X.tuE++[X.tuE (a,b,lo,hi)]:=by rw [YA e,QqR,<- QqN];rfl
   have hw:wJ (((2*(base X.nr a+X.nr a):Nat):Int)-1)=((2*(base X.nr a+(X.nr a-1))+1:Nat):Int):=by rw [Q6 QoW QoW];omega
   have ha:wJ (((base X.nr a:Nat):Int)+(((Kp X.Ls a).length:Nat):Int))=((base X.nr a+X.nr a:Nat):Int):=Qbt (a:=base X.nr a) (b:=X.nr a) QoW;rw [ZW,QqL,Qc hj,QqH,aj,p];simp -implicitDefEqProofs only [Q0,QqE,QqK,Q2,QJ,Q1L h (show a<=X.Ls.length by omega),Q1L h (show b<=X.Ls.length by omega),Qd,(K3 h g1).1,Qr (show j<=1000 by omega),ha,Mz (a:=base X.nr a+X.nr a) QoW,Mz (a:=base X.nr b) QoW,hw];rw [XE QoZ,Q0];rfl
  ·simp only [QqG];rw [ZW,QqL,Qi,QqF,Qr1]
 have s:∀ k0:LL->oP R,Z9 400 X.Ls Sy (fun _ _ w=>k0 w) 400 0 (Ch.map X.chE++X.T.map X.tuE)=k0 (Ch.map X.chE++X.T.map X.tuE++Sy.map X.syE):=by
  intro k0;refine Qt (r:=fun m j=>Z9 400 X.Ls Sy (fun _ _ w=>k0 w) m j (Ch.map X.chE++X.T.map X.tuE++(Sy.take j.toNat).map X.syE)) (N:=Sy.length) (fun m j hj=>?_) (fun m=>?_) Sy.length 400 0 QoW QoW |> Eq.trans QoY
  ·simp only [QqG];obtain ⟨row,e⟩:∃ q,Sy[j]? = some q:=⟨Sy[j],QqI hj⟩;obtain ⟨o,rfl,g1,n,c⟩:=hl.sy row (QqD e);have bt:=Ye h (i:=1) QoW;have k:=Q1L (R:=Int) h (show 0<=X.Ls.length by omega) some;have l:=Q1L (R:=Int) h (show 1<=X.Ls.length by omega) some;have a0:=Qbt (a:=base X.nr 0) (b:=0) (by simp [base]);have a1:=Qbt (a:=base X.nr 1) (b:=0) QoW;simp only [show ((0:Nat):Int)=0 from rfl,show ((1:Nat):Int)=1 from rfl] at k l a0 a1;rw [Z9,Qc hj,QqH,Qd,e,YA e,QqR,<- QqN];simp -implicitDefEqProofs only [Q0,QqE,QqK,Q2,k,l,a0,a1,Qr (show j<=1000 by omega),Mz (a:=base X.nr 0+0) (by simp [base]),Mz (a:=base X.nr 1+0) QoW];rw [XE QoZ,Q0];rfl
  ·simp only [QqG];rw [Z9,Qi,QqF,Qr1]
 rw [s1 (fun u=>ZW 400 X.Ls (X.T.map tuR) (fun ab ac d=>Z9 400 X.Ls Sy (fun v x g=>K g) 400 0 d) 400 0 u),s2 (fun d=>Z9 400 X.Ls Sy (fun v x g=>K g) 400 0 d),s]
end Cx
theorem Qh3 {α:Type} {J J':List α} (hJ:∀ t,t∈J↔t∈J') (p:α->Bool):J.any p=J'.any p:=by
 rw [Bool.eq_iff_iff,Qrb,Qrb];exact ⟨fun ⟨t,a,h2⟩=>⟨t,(hJ t).1 a,h2⟩,fun ⟨t,a,h2⟩=>⟨t,(hJ t).2 a,h2⟩⟩
theorem Qfm {α:Type} {J J':List α} (hJ:∀ t,t∈J↔t∈J') (p:α->Bool):J.all p=J'.all p:=by
 rw [Bool.eq_iff_iff,QqV,QqV];exact ⟨fun h t ht=>h t ((hJ t).2 ht),fun h t ht=>h t ((hJ t).1 ht)⟩
namespace Cx
variable {R:Type} {X:Cx} {per:Int} {Ch Sy De:LL}
theorem Q7L {J J':List Tup} (hJ:∀ t,t∈J↔t∈J'):X.netV per J Ch Sy=X.netV per J' Ch Sy:=by
 have e1:∀ a b,X.fil J a b=X.fil J' a b:=fun a b=>List.filter_congr fun o _=>by
  unfold TRb;rw [Qh3 hJ]
 have e2:∀ a b,X.WV per J a b=X.WV per J' a b:=fun a b=>by
  unfold WV;rw [e1,e1]
 have d:∀ a c b,X.hdw per J a c b=X.hdw per J' a c b:=fun a c=>by
  induction c with
  |zero=>exact fun _=>rfl
  |succ c ih=>intro b;rw [hdw,hdw,e2,ih]
 have e:∀ c a,X.hdws per J c a=X.hdws per J' c a:=fun c=>by
  induction c with
  |zero=>exact fun _=>rfl
  |succ c ih=>intro a;rw [hdws,hdws,d,ih]
 unfold netV aloneJ;rw [e,Qfm hJ]
variable (h:X.OK)
theorem Qh5 {a b:Nat} (ha:a<=100) (hb:b<=100) {W:List Sp2} (hW:W.length<=12) {k0:LL->oP R} {A:LL} (hA:A.length<=900):UD 400 (a:Int) (b:Int) (W.map Y6) (fun _ _ w=>k0 w) 400 0 A=k0 (A++W.map (Q5E a b)):=by
 refine Qt (r:=fun m j=>UD 400 (a:Int) (b:Int) (W.map Y6) (fun _ _ w=>k0 w) m j (A++(W.take j.toNat).map (Q5E a b))) (N:=W.length) (fun m j hj=>?_) (fun m=>?_) W.length 400 0 QoW QoW |> Eq.trans QoY
 ·simp only [QqG];obtain ⟨w,e⟩:∃ q,W[j]? = some q:=⟨W[j],QqI hj⟩;rw [UD,QqL,Qc hj,QqH,QK e,YA e,QqR,<- QqN];simp -implicitDefEqProofs only [Q0,QbC,Qb8,Q2,Qr (show j<=1000 by omega),Mz (a:=a) QoW,Mz (a:=b) QoW];rw [XE QoZ,Q0];rfl
 ·simp only [QqG];rw [UD,QqL,Qi,QqF,Qr1]
include h
theorem QcL (p0:2<=per) (p1:per<=300) {J:List Tup} (hJ:X.JOK J) {a:Nat} (ha:a<X.N) {Ke:oP R} {K1:LL->oP R}:∀ (c m b:Nat) (A:LL),b+c=X.N->c<m->A.length+12*c<=900 ->
  Vy 400 (GM (X.occs X.L)) (J.map tuR) (a:Int) per Ke (fun _ _ w=>K1 w) m (b:Int) A=match X.hdw per J a c b with | none=>Ke | some H=>K1 (A++H)
 |0,m+1,b,A,hb,_,_=>by
  have ac:(GM (X.occs X.L)).length=X.N:=by rw [J9];exact Zs
  rw [Vy,ac,Qp3 ((b:Int)<(X.N:Int)),QqF,hdw];simp only [Qr9]
 |c+1,m+1,b,A,hb,hm,hA=>by
  have ac:(GM (X.occs X.L)).length=X.N:=by rw [J9];exact Zs
  have hN:X.N<=6:=base_le h;have hw:=Q2q h p0 p1 (J:=J) ha (show b<X.N by omega);rw [Vy,ac,Qp4 ((b:Int)<(X.N:Int)),QqH,Q67 h hJ ha,Q67 h hJ (show b<X.N by omega)];simp -implicitDefEqProofs only [Q0,hw.2.1,Qr (show b<=1000 by omega),hdw];cases ew:X.WV per J a b with
  |none=>rfl
  |some W=>
   have hl:=hw.2.2 W ew;simp -implicitDefEqProofs only [Qhi];rw [Q8 (by rfl),Qh5 QoW QoW hl QoW,QcL p0 p1 hJ ha c m (b+1) _ QoW QoW QoZ];cases X.hdw per J a c (b+1) with
   |none=>rfl
   |some H=>simp -implicitDefEqProofs only [Option.map_some,QqN]
theorem QcI (p0:2<=per) (p1:per<=300) {J:List Tup} (hJ:X.JOK J) {Ke:oP R} {K1:LL->oP R}:∀ (c m a:Nat) (A:LL),a+c=X.N->c<m->A.length+72*c<=900 ->
  Uz 400 (GM (X.occs X.L)) (J.map tuR) per Ke (fun _ _ w=>K1 w) m (a:Int) A=match X.hdws per J c a with | none=>Ke | some H=>K1 (A++H)
 |0,m+1,a,A,ha,_,_=>by
  have ac:(GM (X.occs X.L)).length=X.N:=by rw [J9];exact Zs
  rw [Uz,ac,Qp3 ((a:Int)<(X.N:Int)),QqF,hdws];simp only [Qr9]
 |c+1,m+1,a,A,ha,hm,hA=>by
  have ac:(GM (X.occs X.L)).length=X.N:=by rw [J9];exact Zs
  have hN:X.N<=6:=base_le h;rw [Uz,ac,Qp4 ((a:Int)<(X.N:Int)),QqH,Qr (show a<=1000 by omega),QcL h p0 p1 hJ (show a<X.N by omega) (Ke:=Ke) (K1:=fun A=>Uz 400 (GM (X.occs X.L)) (J.map tuR) per Ke (fun _ _ w=>K1 w) m ((a+1:Nat):Int) A) c 400 (a+1) A QoW QoW QoW,hdws];cases eh:X.hdw per J a c (a+1) with
  |none=>rfl
  |some H=>
   have:=Q1X h p0 p1 (J:=J) (show a<X.N by omega) (c:=c) (b:=a+1) QoW eh;dsimp only;rw [QcI p0 p1 hJ c m (a+1) (A++H) QoW QoW QoZ];cases X.hdws per J c (a+1) with
   |none=>rfl
   |some H'=>simp -implicitDefEqProofs only [Option.map_some,QqN]
theorem Qdh (p0:2<=per) (p1:per<=300) {k0 E:oP R} {k1:Int->Bool->oP R} (hk:∀ a b,k1 a b=E):UH 400 (GM (X.occs X.L)) per k0 k1 400 0=bif (X.occs X.L).all (fun o=>o.all (RU per)) then E else k0:=by
 have hN:X.N<=6:=base_le h;have aj:(X.occs X.L).length=X.N:=Zs;refine Ty (r:=fun m i=>UH 400 (GM (X.occs X.L)) per k0 k1 m i) (fun m i o e hi=>?_) (fun m=>?_) QoW
 ·have ho:=Qak h o (QqD e);have ac:Q1 (GM (X.occs X.L)) (i:Int)=some [D.sl 3 (o.map enc)]:=QK e;rw [UH,J9,Qc hi,QqH,ac];simp -implicitDefEqProofs only [Q0,QqE,QJ,QfW (show 1<=per by omega) (show per<=7200 by omega) ho.1 (show o.length<=300 by omega),Qr (show i<=1000 by omega)];cases o.all (RU per) <;> rfl
 ·rw [UH,J9,Qi,QqF,hk]
theorem Qek {J:List Tup} (hJ:X.JOK J) {k0 E:oP R} {k1:Int->Bool->oP R} (hk:∀ a b,k1 a b=E):UJ 400 (GM (X.occs X.L)) (J.map tuR) per k0 k1 400 0=bif J.all (fun t=>!Q8o per t.2.2.1 t.2.2.2 (X.occN t.1) (X.occN t.2.1)) then E else k0:=by
 have aj:=hJ.len;refine Ty (r:=fun m i=>UJ 400 (GM (X.occs X.L)) (J.map tuR) per k0 k1 m i) (fun m i t e hi=>?_) (fun m=>?_) QoW
 ·rw [UJ,QqL,Qc hi,QqH,QK e];simp -implicitDefEqProofs only [Q0,tuR,QqE,QqK,Q2,Qr (show i<=1000 by omega),Qgr h hJ (QqD e)];cases Q8o per t.2.2.1 t.2.2.2 (X.occN t.1) (X.occN t.2.1) <;> rfl
 ·rw [UJ,QqL,Qi,QqF,hk]
theorem buildR (hl:X.LsOK per Ch Sy) (p0:2<=per) (p1:per<=300) (hc:Um 400 X.G.St X.G.Pt X.G.Se X.G.Li per X.skR X.Ro X.Ls Ch (X.T.map tuR) Sy De (some:Int->oP Int)=some 0) :
  Tn 400 X.G.St X.G.Pt X.G.Se X.G.Li per X.skR X.Ro X.Ls Ch (X.T.map tuR) Sy De Tu4=some (X.netV per X.jns Ch Sy):=by
 have hN:X.N<=6:=base_le h;have aj:(X.occs X.L).length=X.N:=Zs;have an:=planned_len h hl;have hJ:=QfQ h;have ac:(X.pls X.L++(Ch.map X.chE++X.T.map X.tuE++Sy.map X.syE))=X.planned Ch Sy:=by unfold planned;simp only [QqN]
 rw [<- Q7L fun t=>Q2T h (t:=t)];unfold Tn netV;rw [Qgu h hc,Q0,Q8 (by rfl)];dsimp only;rw [J9,aj,Mz QoW,Q8 (QqU QoW),Qdh h p0 p1 (fun _ _=>rfl)];unfold aloneJ;cases (X.occs X.L).all (fun o=>o.all (RU per))
 ·rfl
 rw [QqH,QqH,Qh0 h,Q0,Qek h hJ (fun _ _=>rfl)];cases (X.jnsR X.L).all (fun t=>!Q8o per t.2.2.1 t.2.2.2 (X.occN t.1) (X.occN t.2.1))
 ·rfl
 rw [QqH,QqH];refine (QdJ h _).trans ?_;rw [Qg0 h,Qhf h hl,Q0,Q0,XE (by rw [<- Qr2,ac];omega),Q0,ac];refine (QcI h p0 p1 hJ (Ke:=some ((0:Int),([]:LL),([]:LL),(13:Int))) (K1:=fun a=>bif decide (((List.length a:Nat):Int)>512) then some (0,[],[],7) else some (per,X.evs X.L,a,0)) X.N 400 0 (X.planned Ch Sy) QoW QoW QoW).trans ?_;cases eh:X.hdws per (X.jnsR X.L) X.N 0 with
 |none=>rfl
 |some H=>
  have:=hdws_len h p0 p1 QoW eh;dsimp only;rw [Q8 (QqU (by rw [Qr2];omega))]
end Cx
def R6 (row:List D):Prop:=∃ kd f t mn mx w:Int,row=[Q4 kd,Q4 f,Q4 t,Q4 mn,Q4 mx,Q4 w]
def chk (per:Int) (e:Nat):List D->Bool
 |[_,.int _ f,.int _ t,.int _ mn,.int _ mx,.int _ w]=>!(bif bif !(bif decide (f>=0) then decide (f<(e:Int)) else false) then true else !(bif decide (t>=0) then decide (t<(e:Int)) else false) then true else f == t)&&(!(bif bif bif decide (mn < -65536) then true else decide (mn>mx) then true else decide (mx>65536) then true else decide (wJ (mx-mn)>=per))&&!(bif decide (w<0) then true else decide (w>1048576)))
 |_=>false
theorem A4 {per:Int} {e:Nat} {kd f t mn mx w:Int} (h:chk per e [Q4 kd,Q4 f,Q4 t,Q4 mn,Q4 mx,Q4 w]=true):0<=f/\f<e/\0<=t/\t<e /\ -65536<=mn/\mn<=mx/\mx<=65536:=by
 simp only [chk,Bool.cond_true_left,Bool.cond_false_right,Qr0,Qrt,Bool.or_eq_false_iff,Bool.not_eq_false',Qrn,decide_eq_false_iff_not,beq_eq_false_iff_ne] at h;omega
section
variable {per:Int} {E A:LL} (p0:2<=per) (p1:per<=300) (hE:E.length<=48) (hA:A.length<=512) (hr:∀ r∈A,R6 r)
include p0 p1 hE hA hr
theorem QfR (hl:A.length<400):Tf 400 per E A some=some (A.all (chk per E.length)):=by
 unfold Tf;rw [Qp3 (per<2),Qp3 (per>7200),Qp3 ((E.length:Int)>48),Qp3 ((A.length:Int)>512)];simp -implicitDefEqProofs only [QqF];refine (Ty (r:=fun m i=>U5 400 A (A.length:Int) per E A (some false) (fun _ _=>some true) m i) (l:=A) (p:=chk per E.length) (E0:=some false) (E1:=some true) (fun m i q e hi=>?_) (fun m=>?_) (fuel:=400) QoW).trans (by cases A.all (chk per E.length) <;> rfl)
 ·obtain ⟨kd,f,t,mn,mx,w,rfl⟩:=hr q (QqD e);rw [U5,Qc hi,QqH,Qd,e];unfold Gg;simp -implicitDefEqProofs only [Q0,QqE,QqK,Q2,Qr (show i<=1000 by omega)];dsimp only [chk];cases (bif bif !(bif decide (f>=0) then decide (f<(E.length:Int)) else false) then true else !(bif decide (t>=0) then decide (t<(E.length:Int)) else false) then true else f == t)
  ·cases (bif bif bif decide (mn < -65536) then true else decide (mn>mx) then true else decide (mx>65536) then true else decide (wJ (mx-mn)>=per))
   ·cases (bif decide (w<0) then true else decide (w>1048576)) <;> rfl
   ·rfl
  ·rfl
 ·rw [U5,Qi,QqF]
theorem QcN (hl:A.length<400):Us 400 per E A some=some (A.all (chk per E.length)):=by
 unfold Us T4;rw [Qp4 (per>=2),Qp4 (per<=7200),Qp3 ((E.length:Int)>48),Qp3 ((A.length:Int)>512)];simp -implicitDefEqProofs only [QqF,QqH,Q0,QqZ];refine (Ty (r:=fun m i=>Vz 400 per E A (some false) (fun _ _=>some true) m i) (l:=A) (p:=chk per E.length) (E0:=some false) (E1:=some true) (fun m i q e hi=>?_) (fun m=>?_) (fuel:=400) QoW).trans (by cases A.all (chk per E.length) <;> rfl)
 ·obtain ⟨kd,f,t,mn,mx,w,rfl⟩:=hr q (QqD e);rw [Vz,Qc hi,QqH,Qd,e];unfold T4;simp -implicitDefEqProofs only [Q0,QqE,QqK,Q2,Qr (show i<=1000 by omega),Q6 (x:=(E.length:Int)-1) QoW QoW];have sw:∀ (c d:Bool) (x y:oP Bool),c = !d->(bif c then x else y)=bif d then y else x:=fun c d x y h=>by rw [h];cases d <;> rfl
  refine sw _ _ _ _ ?_;rw [Bool.eq_iff_iff];simp only [chk,Bool.cond_true_left,Bool.cond_false_right,Qr0,Bool.or_eq_true,Qrt,Bool.and_eq_false_iff,Bool.or_eq_false_iff,Bool.not_eq_false',Qrn,decide_eq_false_iff_not,beq_eq_false_iff_ne,beq_iff_eq];omega
 ·rw [Vz,Qi,QqF]
def Q7B (per:Int) (E A:LL) (tl:List Int):Bool:=bif (bif !(A.all (chk per E.length)) then true else (tl.length:Int) != (E.length:Int)) then false else tl.all fun x=>!(bif decide (x<0) then true else decide (x>=per))
theorem Qgo (hl:A.length<400) {tl:List Int}:G1 400 per E A (encI tl) some=some (Q7B per E A tl)/\M4 400 per E A (encI tl) some=some (Q7B per E A tl):=by
 have ca:=QfR p0 p1 hE hA hr hl;have cb:=QcN p0 p1 hE hA hr hl;have ac:(encI tl).length=tl.length:=QZ tl;unfold G1 M4 Q7B;rw [ca,cb,Q0,Q0,ac];cases hc:(bif !(A.all (chk per E.length)) then true else (tl.length:Int) != (E.length:Int)) with
 |true=>exact ⟨rfl,rfl⟩
 |false=>
  have aj:tl.length=E.length:=by
   cases a : !(A.all (chk per E.length)) with
   |true=>rw [a] at hc;cases hc
   |false=>
    rw [a,QqF] at hc;have:(tl.length:Int)=(E.length:Int):=by simpa using hc
    omega
  rw [QqF,QqF,QqF];constructor
  ·refine (Ty (r:=fun m i=>V3 400 (encI tl) (tl.length:Int) per (some false) (fun _ _=>some true) m i) (l:=tl) (p:=fun x=>!(bif decide (x<0) then true else decide (x>=per))) (E0:=some false) (E1:=some true) (fun m i q e hi=>?_) (fun m=>?_) (fuel:=400) QoW).trans (by cases tl.all _ <;> rfl)
   ·rw [V3,Qc hi,QqH,HW e];simp -implicitDefEqProofs only [Q0,QqE,Q2,Qr (show i<=1000 by omega)];cases (bif decide (q<0) then true else decide (q>=per)) <;> rfl
   ·rw [V3,Qi,QqF]
  ·refine (Ty (r:=fun m i=>Jc 400 (encI tl) per (some false) (fun _ _=>some true) m i) (l:=tl) (p:=fun x=>!(bif decide (x<0) then true else decide (x>=per))) (E0:=some false) (E1:=some true) (fun m i q e hi=>?_) (fun m=>?_) (fuel:=400) QoW).trans (by cases tl.all _ <;> rfl)
   ·rw [Jc,ac,Qc hi,QqH,HW e];unfold T4;simp -implicitDefEqProofs only [Q0,QqE,Q2,Qr (show i<=1000 by omega),Q6 (x:=per-1) QoW QoW];by_cases a:q<0
    ·rw [Qp3 (q>=0),show decide (q<0)=true from Qra a];rfl
    ·rw [Qp4 (q>=0),show decide (q<0)=false from QqU a];by_cases h2:q>=per
     ·rw [Qp3 (q<=per-1),show decide (q>=per)=true from Qra h2];rfl
     ·rw [Qp4 (q<=per-1),show decide (q>=per)=false from QqU h2];rfl
   ·rw [Jc,ac,Qi,QqF]
end
theorem Rh {w:List Int} {i:Nat} {v:Int}:(encI w).set i [Q4 v]=encI (w.set i v):=by
 unfold encI;rw [List.map_set]
def Q6s (l:List Nat):LL:=l.map fun i:Nat=>[Q4 (i:Int)]
def Qd2 (rs:List (List Nat×Bool)):LL:=rs.map fun r=>[D.sl 1 (Q6s r.1),D.bool r.2]
def QjV (l:LL):List Nat:=l.map fun r=>match r with | [.int _ x]=>x.toNat | _=>0
def QeZ (a:LL):List (List Nat×Bool):=a.map fun r=>match r with | [.sl _ l,.bool c]=>(QjV l,c) | _=>([],false)
def eqI:LL->LL->Bool
 |[],[]=>true
 |[.int .i64 x]::a,[.int .i64 y]::b=>decide (x=y)&&eqI a b
 |_,_=>false
def eqR:LL->LL->Bool
 |[],[]=>true
 |[.sl 1 l,.bool c]::a,[.sl 1 l',.bool c']::b=>eqI l l'&&(c == c'&&eqR a b)
 |_,_=>false
theorem Qcz:∀ {a b:LL},eqI a b=true->a=b:=by
 intro a b;induction a,b using eqI.induct with
 |case1=>exact fun _=>rfl
 |case2 x a y b ih=>
  intro h;rw [eqI,Qr0,Qrn] at h;rw [h.1,ih h.2]
 |case3 a b c h2=>intro h;rw [eqI] at h <;> first | cases h | assumption
theorem QfB:∀ {a b:LL},eqR a b=true->a=b:=by
 intro a b;induction a,b using eqR.induct with
 |case1=>exact fun _=>rfl
 |case2 l c a l' c' b ih=>
  intro h;rw [eqR,Qr0,Qr0,beq_iff_eq] at h;rw [Qcz h.1,h.2.1,ih h.2.2]
 |case3 a b d h2=>intro h;rw [eqR] at h <;> first | cases h | assumption
def tix (T:List Tup) (i:Nat):Int:=match T.findIdx? fun t=>t.1 == i with
 |some j=>(j:Int)
 |none => -1
def Q4p:List (List Nat×Bool)->Nat
 |[]=>0
 |r::rs=>r.1.length+Q4p rs
def nx (r:List Nat×Bool) (x:Nat):oP Nat:=bif Nat.blt (x+1) r.1.length then r.1[x+1]? else bif r.2 then r.1[0]? else none
def QiP (rs:List (List Nat×Bool)) (i:Nat):Nat×Nat:=(rs.findIdx fun r=>r.1.any (Nat.beq i),(rs.getD (rs.findIdx fun r=>r.1.any (Nat.beq i)) ([],false)).1.findIdx (Nat.beq i))
def eqO:oP Nat->Nat->Bool
 |some a,b=>Nat.beq a b
 |none,_=>false
def QbJ (T:List Tup) (rs:List (List Nat×Bool)):Bool:=
 ((List.range rs.length).all fun j=>(List.range (rs.getD j ([],false)).1.length).all fun x=>Nat.beq (QiP rs ((rs.getD j ([],false)).1.getD x 0)).1 j&&Nat.beq (QiP rs ((rs.getD j ([],false)).1.getD x 0)).2 x) &&
 ((T.all fun t=>rs.any fun r=>(List.range r.1.length).any fun x=>eqO (r.1[x]?) t.1&&eqO (nx r x) t.2.1) &&
 rs.all fun r=>(List.range r.1.length).all fun x=>match nx r x with
  |some b=>T.any fun t=>eqO (r.1[x]?) t.1&&Nat.beq t.2.1 b
  |none=>true)
def N8 (Ls:LL) (T:List Tup):Bool:=match XH 400 Ls (T.map tuR) some,Zj 400 Ls (T.map tuR) some with
 |some a,some t=>eqR a (Qd2 (QeZ a))&&(eqI t (encI ((List.range Ls.length).map (tix T)))&&((QeZ a).all (fun r=>Nat.blt 0 r.1.length&&r.1.all fun i=>Nat.blt i Ls.length)&&(Nat.ble (Q4p (QeZ a)) Ls.length&&(Nat.blt 0 (QeZ a).length&&QbJ T (QeZ a)))))
 |_,_=>false
section
variable (x y z:List D) (lo hi lo' hi' lo'' hi'':Int)
theorem QiG:N8 [x] []=true/\N8 [x,y] []=true/\N8 [x,y,z] []=true:=⟨by kernel_rfl,by kernel_rfl,by kernel_rfl⟩
theorem Qi7:N8 [x] [(0,0,lo,hi)]=true:=by kernel_rfl
def u2:List Nat:=[0,1]
def u3:List Nat:=[0,1,2]
theorem Qit:(u2.all fun a=>u2.all fun b=>N8 [x,y] [(a,b,lo,hi)])=true:=by kernel_rfl
theorem Qir:(u3.all fun a=>u3.all fun b=>N8 [x,y,z] [(a,b,lo,hi)])=true:=by kernel_rfl
theorem QiO:(u2.all fun a=>u2.all fun b=>u2.all fun a'=>u2.all fun b'=>(Nat.beq a a'||Nat.beq b b')||N8 [x,y] [(a,b,lo,hi),(a',b',lo',hi')])=true:=by kernel_rfl
theorem QiX:(u3.all fun a=>u3.all fun b=>u3.all fun a'=>u3.all fun b'=>(Nat.beq a a'||Nat.beq b b')||N8 [x,y,z] [(a,b,lo,hi),(a',b',lo',hi')])=true:=by kernel_rfl
theorem QhW:(u3.all fun a=>u3.all fun b=>u3.all fun a'=>u3.all fun b'=>(Nat.beq a a'||Nat.beq b b')||u3.all fun aj=>u3.all fun ac=>(Nat.beq a aj||Nat.beq b ac||Nat.beq a' aj||Nat.beq b' ac)||N8 [x,y,z] [(a,b,lo,hi),(a',b',lo',hi'),(aj,ac,lo'',hi'')])=true:=by kernel_rfl
end
theorem Qbn {l:List Nat} {f:Nat->Nat->Bool} (h:(l.all fun a=>l.all fun b=>f a b)=true) {a b:Nat} (ha:a∈l) (hb:b∈l):f a b=true:=QqV.1 (QqV.1 h a ha) b hb
theorem Qf5 {a:Nat} (h:a<2):a∈u2:=by
 obtain rfl | rfl:a=0\/a=1:=QoW
 all_goals decide
theorem Q8q {a:Nat} (h:a<3):a∈u3:=by
 obtain rfl | rfl | rfl:a=0\/a=1\/a=2:=QoW
 all_goals decide
theorem Q84 {a b:Nat} (h:a≠b):Nat.beq a b=false:=Bool.eq_false_iff.2 fun e=>h (Qrl e)
theorem ne2 {a b a' b':Nat} {x:Bool} (h:(Nat.beq a a'||Nat.beq b b'||x)=true) (c:a≠a') (h2:b≠b'):x=true:=by
 simpa [Q84 c,Q84 h2] using h
theorem ne4 {a b a' b' c d c' d':Nat} {x:Bool} (h:(Nat.beq a a'||Nat.beq b b'||Nat.beq c c'||Nat.beq d d'||x)=true) (e:a≠a') (h2:b≠b') (f:c≠c') (g:d≠d'):x=true:=by
 simpa [Q84 e,Q84 h2,Q84 f,Q84 g] using h
theorem Qk5 {Ls:LL} {T:List Tup} (l0:1<=Ls.length) (l1:Ls.length<=3) (hb:∀ t∈T,t.1<Ls.length/\t.2.1<Ls.length) (c:(T.map (·.1)).Nodup) (d:(T.map (·.2.1)).Nodup):N8 Ls T=true:=by
 rcases Ls with _ | ⟨x,_ | ⟨y,_ | ⟨z,_ | ⟨w,r⟩⟩⟩⟩
 ·simp at l0
 ·rcases T with _ | ⟨⟨a,b,lo,hi⟩,_ | ⟨⟨a',b',lo',hi'⟩,T⟩⟩
  ·exact (QiG x x x).1
  ·obtain ⟨ha,e⟩:=hb _ (QqQ ..);obtain rfl:a=0:=by simpa using ha
   obtain rfl:b=0:=by simpa using e
   exact Qi7 x lo hi
  ·have f:=(hb _ (QqQ ..)).1;have h2:=(hb _ (QqS _ (QqQ ..))).1;simp at f h2 c;omega
 ·rcases T with _ | ⟨⟨a,b,lo,hi⟩,_ | ⟨⟨a',b',lo',hi'⟩,_ | ⟨⟨aq,ao,lo'',hi''⟩,T⟩⟩⟩
  ·exact (QiG x y x).2.1
  ·obtain ⟨ha,hb⟩:=hb _ (QqQ ..);exact Qbn (Qit x y lo hi) (Qf5 ha) (Qf5 hb)
  ·obtain ⟨ha,e⟩:=hb _ (QqQ ..);obtain ⟨aj,ac⟩:=hb _ (QqS _ (QqQ ..));simp at c d;exact ne2 (Qbn (Qbn (QiO x y lo hi lo' hi') (Qf5 ha) (Qf5 e)) (Qf5 aj) (Qf5 ac)) c d
  ·have f:=(hb _ (QqQ ..)).1;have h2:=(hb _ (QqS _ (QqQ ..))).1;have g:=(hb _ (QqS _ (QqS _ (QqQ ..)))).1;simp at f h2 g c;omega
 ·rcases T with _ | ⟨⟨a,b,lo,hi⟩,_ | ⟨⟨a',b',lo',hi'⟩,_ | ⟨⟨aq,ao,lo'',hi''⟩,_ | ⟨⟨i,j,k,l⟩,T⟩⟩⟩⟩
  ·exact (QiG x y z).2.2
  ·obtain ⟨ha,hb⟩:=hb _ (QqQ ..);exact Qbn (Qir x y z lo hi) (Q8q ha) (Q8q hb)
  ·obtain ⟨ha,e⟩:=hb _ (QqQ ..);obtain ⟨aj,ac⟩:=hb _ (QqS _ (QqQ ..));simp at c d;exact ne2 (Qbn (Qbn (QiX x y z lo hi lo' hi') (Q8q ha) (Q8q e)) (Q8q aj) (Q8q ac)) c d
  ·obtain ⟨ha,e⟩:=hb _ (QqQ ..);obtain ⟨aj,ac⟩:=hb _ (QqS _ (QqQ ..));obtain ⟨an,ak⟩:=hb _ (QqS _ (QqS _ (QqQ ..)));simp at c d;have f:=ne2 (Qbn (Qbn (QhW x y z lo hi lo' hi' lo'' hi'') (Q8q ha) (Q8q e)) (Q8q aj) (Q8q ac)) c.1.1 d.1.1;exact ne4 (Qbn f (Q8q an) (Q8q ak)) c.1.2 d.1.2 c.2 d.2
  ·have f:=(hb _ (QqQ ..)).1;have h2:=(hb _ (QqS _ (QqQ ..))).1;have g:=(hb _ (QqS _ (QqS _ (QqQ ..)))).1;have h:=(hb _ (QqS _ (QqS _ (QqS _ (QqQ ..))))).1;simp at f h2 g h c;omega
 ·simp at l1
theorem Q6e {α:Type} {p:α->Bool}:∀ {l:List α},(l.find? p=none/\l.findIdx? p=none)\/∃ t j,l.find? p=some t/\l.findIdx? p=some j/\l[j]? = some t
 |[]=>.inl ⟨rfl,rfl⟩
 |a::l=>by
  rw [List.find?_cons,List.findIdx?_cons];cases ha:p a with
  |true=>exact .inr ⟨a,0,rfl,rfl,rfl⟩
  |false=>
   rcases Q6e (p:=p) (l:=l) with ⟨b,h2⟩ | ⟨t,j,b,h2,c⟩
   ·exact .inl ⟨b,by simp [h2]⟩
   ·exact .inr ⟨t,j+1,b,by simp [h2],c⟩
namespace Cx
variable {X:Cx} (h:X.OK)
include h
theorem rotsP:∃ rs:List (List Nat×Bool),XH 400 X.Ls (X.T.map tuR) some=some (Qd2 rs)/\Zj 400 X.Ls (X.T.map tuR) some=some (encI ((List.range X.L).map (tix X.T)))/\(∀ r∈rs,1<=r.1.length/\∀ i∈r.1,i<X.Ls.length)/\Q4p rs<=3/\1<=rs.length/\QbJ X.T rs=true:=by
 have hc:=Qk5 h.l0 h.l1 (fun t ht=>⟨(h.tr t ht).1,(h.tr t ht).2.1⟩) h.fd h.td;have l1:=h.l1;unfold N8 at hc;cases e1:XH 400 X.Ls (X.T.map tuR) some with
 |none=>rw [e1] at hc;cases hc
 |some a=>
  cases b:Zj 400 X.Ls (X.T.map tuR) some with
  |none=>rw [e1,b] at hc;cases hc
  |some t=>
   rw [e1,b] at hc;simp only [Qr0] at hc;obtain ⟨c1,c,d,e,f,g⟩:=hc;refine ⟨QeZ a,by rw [<- QfB c1],by rw [Qcz c];rfl,fun r hr=>?_,?_,Qrm f,g⟩
   ·have:=QqV.1 d r hr;rw [Qr0] at this;exact ⟨Qrm this.1,fun i hi=>Qrm (QqV.1 this.2 i hi)⟩
   ·have:=Qrm e;omega
end Cx
def tat (tl:List Int) (i:Int):Int:=tl.getD i.toNat 0
def dur (tl:List Int) (per f t mn:Int):Int:=mn+(tat tl t-tat tl f-mn) % per
def V5 (tl:List Int) (per:Int):List D->Int
 |[_,.int _ f,.int _ t,.int _ mn,_,_]=>dur tl per f t mn
 |_=>0
namespace Cx
variable {X:Cx}
structure Gd (X:Cx) (per:Int) (Ch Sy A:LL) (tl:List Int):Prop where
 ok:X.OK
 ls:X.LsOK per Ch Sy
 p0:2<=per
 p1:per<=300
 act:∃ H,A=X.planned Ch Sy++H/\∀ r∈H,∃ a b w,r=Q5E a b w
 len:A.length<400
 tlen:tl.length=2*X.N
 tr:∀ x∈tl,0<=x/\x<per
 ck:∀ r∈A,chk per (2*X.N) r=true
theorem Q6Q {per:Int} {J:List Tup} {a:Nat}:∀ {c b:Nat} {H:LL},X.hdw per J a c b=some H->∀ r∈H,∃ a b w,r=Q5E a b w
 |0,b,H,e=>by cases e;exact fun r hr=>nomatch hr
 |c+1,b,H,e=>by
  rw [hdw] at e;cases ew:X.WV per J a b with
  |none=>rw [ew] at e;cases e
  |some W=>
   rw [ew] at e;cases eh:X.hdw per J a c (b+1) with
   |none=>simp only [eh] at e;cases e
   |some H'=>
    simp only [eh] at e;cases e;intro r hr;rcases QqO.1 hr with hr | hr
    ·obtain ⟨w,_,rfl⟩:=Qrd.1 hr;exact ⟨_,_,_,rfl⟩
    ·exact Q6Q eh r hr
theorem hdws_rows {per:Int} {J:List Tup}:∀ {c a:Nat} {H:LL},X.hdws per J c a=some H->∀ r∈H,∃ a b w,r=Q5E a b w
 |0,b,H,e=>by cases e;exact fun r hr=>nomatch hr
 |c+1,a,H,e=>by
  rw [hdws] at e;cases ew:X.hdw per J a c (a+1) with
  |none=>rw [ew] at e;cases e
  |some W=>
   rw [ew] at e;cases eh:X.hdws per J c (a+1) with
   |none=>simp only [eh] at e;cases e
   |some H'=>
    simp only [eh] at e;cases e;intro r hr;rcases QqO.1 hr with hr | hr
    ·exact Q6Q ew r hr
    ·exact hdws_rows eh r hr
theorem Qd3 {i:Nat} {r:List D}:∀ {K:Nat},r∈X.pl i K->∃ k,k<K/\(r=X.aR i k\/k<X.nr i-1/\r=X.aD i k)
 |0,h=>nomatch h
 |K+1,h=>by
  rw [pl] at h;rcases QqO.1 h with h | h
  ·rcases QqO.1 h with h | h
   ·obtain ⟨k,hk,h⟩:=Qd3 h;exact ⟨k,QoW,h⟩
   ·exact ⟨K,QoW,.inl (QqY.1 h)⟩
  ·split at h
   ·exact ⟨K,QoW,.inr ⟨by assumption,QqY.1 h⟩⟩
   ·nomatch h
theorem Q9Z {r:List D}:∀ {L:Nat},r∈X.pls L->∃ i k,i<L/\k<X.nr i/\(r=X.aR i k\/k<X.nr i-1/\r=X.aD i k)
 |0,h=>nomatch h
 |L+1,h=>by
  rw [pls] at h;rcases QqO.1 h with h | h
  ·obtain ⟨i,k,hi,h⟩:=Q9Z h;exact ⟨i,k,QoW,h⟩
  ·obtain ⟨k,hk,h⟩:=Qd3 h;exact ⟨L,k,QoW,hk,h⟩
variable {per:Int} {Ch Sy A:LL} {tl:List Int}
theorem QeG (h:X.OK) (hl:X.LsOK per Ch Sy) {H:LL} (hH:∀ r∈H,∃ a b w,r=Q5E a b w) {r:List D} (hr:r∈X.planned Ch Sy++H):(∃ i k,i<X.Ls.length/\k<X.nr i/\(r=X.aR i k\/k<X.nr i-1/\r=X.aD i k))\/(∃ t∈X.T,r=X.tuE t)\/∃ kd f t mn mx w:Int,(kd=3\/kd=5\/kd=6)/\r=[Q4 kd,Q4 f,Q4 t,Q4 mn,Q4 mx,Q4 w]:=by
 rcases QqO.1 hr with hr | hr
 ·rcases QqO.1 hr with hr | hr
  ·rcases QqO.1 hr with hr | hr
   ·rcases QqO.1 hr with hr | hr
    ·exact .inl (Q9Z hr)
    ·obtain ⟨row,ac,rfl⟩:=Qrd.1 hr;obtain ⟨f,fr,t,tr,mn,mx,w,rfl,_⟩:=hl.ch row ac;exact .inr (.inr ⟨3,_,_,mn,mx,w,.inl rfl,rfl⟩)
   ·obtain ⟨t,ht,rfl⟩:=Qrd.1 hr;exact .inr (.inl ⟨t,ht,rfl⟩)
  ·obtain ⟨row,ac,rfl⟩:=Qrd.1 hr;obtain ⟨o,rfl,_⟩:=hl.sy row ac;exact .inr (.inr ⟨5,_,_,o,o,0,.inr (.inl rfl),rfl⟩)
 ·obtain ⟨a,b,w,rfl⟩:=hH r hr;exact .inr (.inr ⟨6,_,_,w.1,w.2,0,.inr (.inr rfl),rfl⟩)
theorem act_r6 (h:X.OK) (hl:X.LsOK per Ch Sy) {H:LL} (hH:∀ r∈H,∃ a b w,r=Q5E a b w) {r:List D} (hr:r∈X.planned Ch Sy++H):R6 r:=by
 rcases QeG h hl hH hr with ⟨i,k,_,_,rfl | ⟨_,rfl⟩⟩ | ⟨t,_,rfl⟩ | ⟨kd,f,t,mn,mx,w,_,rfl⟩
 ·exact ⟨_,_,_,_,_,_,rfl⟩
 ·exact ⟨_,_,_,_,_,_,rfl⟩
 ·exact ⟨_,_,_,_,_,_,rfl⟩
 ·exact ⟨_,_,_,_,_,_,rfl⟩
variable (g:X.Gd per Ch Sy A tl)
include g
theorem Gd.r6 {r:List D} (hr:r∈A):R6 r:=by
 obtain ⟨H,rfl,hH⟩:=g.act;exact act_r6 g.ok g.ls hH hr
theorem Gd.tat {i:Int} (a:0<=i) (b:i<(2*X.N:Nat)):Q1 (encI tl) i=some [Q4 (Vx.tat tl i)]/\0<=Vx.tat tl i/\Vx.tat tl i<per:=by
 have hl:=g.tlen;have e:tl[i.toNat]? = some (Vx.tat tl i):=by
  unfold Vx.tat;rw [QqJ,QqI QoW];rfl
 have:=HW e;rw [show (i.toNat:Int)=i by omega] at this;exact ⟨this,g.tr _ (QqD e)⟩
theorem Gd.row {r:List D} (hr:r∈A):∃ kd f t mn mx w:Int,r=[Q4 kd,Q4 f,Q4 t,Q4 mn,Q4 mx,Q4 w]/\(0<=f/\f<(2*X.N:Nat))/\(0<=t/\t<(2*X.N:Nat)) /\ -65536<=mn/\mn<=65536:=by
 obtain ⟨kd,f,t,mn,mx,w,rfl⟩:=g.r6 hr;have:=A4 (g.ck _ hr);exact ⟨kd,f,t,mn,mx,w,rfl,QoW,QoW,QoW⟩
theorem Gd.dur_rng {r:List D} (hr:r∈A) : -65536<=V5 tl per r/\V5 tl per r<=66000:=by
 obtain ⟨kd,f,t,mn,mx,w,rfl,hf,ht,a,h2⟩:=g.row hr;have p0:=g.p0;have p1:=g.p1;have:=QqT (Vx.tat tl t-Vx.tat tl f-mn) (show per≠0 by omega);have:=QqX (Vx.tat tl t-Vx.tat tl f-mn) (show 0<per by omega);simp only [V5,dur];omega
theorem Gd.durP {R:Type} {a:Nat} {r:List D} (e:A[a]? = some r) (K:Int->oP R):Xp 400 per A (encI tl) (a:Int) K=K (V5 tl per r):=by
 have hr:=QqD e;have p0:=g.p0;have p1:=g.p1;obtain ⟨kd,f,t,mn,mx,w,rfl,hf,ht,b,h2⟩:=g.row hr;have tf:=g.tat hf.1 hf.2;have tt:=g.tat ht.1 ht.2;have:=QqT (Vx.tat tl t-Vx.tat tl f-mn) (show per≠0 by omega);have:=QqX (Vx.tat tl t-Vx.tat tl f-mn) (show 0<per by omega);unfold Xp;rw [Qd,e];simp -implicitDefEqProofs only [Q0,QqE,QqK,Q2,tf.1,tt.1,Q6 (x:=Vx.tat tl t-Vx.tat tl f) QoW QoW,Q6 (x:=Vx.tat tl t-Vx.tat tl f-mn) QoW QoW,Qid (n:=400) (t:=per) (x:=Vx.tat tl t-Vx.tat tl f-mn) QoW QoW QoW QoW,Q6 (x:=mn+(Vx.tat tl t-Vx.tat tl f-mn) % per) QoW QoW];rfl
end Cx
namespace Cx
variable {X:Cx} {per:Int} {Ch Sy A:LL} {tl:List Int}
theorem Qcs {i:Nat} (hn:X.nr i=1\/X.nr i=2):(X.nr i=1/\X.pl i (X.nr i)=[X.aR i 0])\/(X.nr i=2/\X.pl i (X.nr i)=[X.aR i 0,X.aD i 0,X.aR i 1]):=by
 rcases hn with hn | hn
 ·exact .inl ⟨hn,by rw [hn];simp [pl,hn]⟩
 ·exact .inr ⟨hn,by rw [hn];simp [pl,hn]⟩
theorem Qac {i j:Nat} (hj:j<(X.pl i (X.nr i)).length):∀ {L:Nat},i<L->(X.pls L)[(X.pls i).length+j]? = (X.pl i (X.nr i))[j]?
 |0,h=>by omega
 |L+1,h=>by
  rw [pls];by_cases hi:i=L
  ·subst hi;rw [Qrj QoW,Nat.add_sub_cancel_left]
  ·have ih:=Qac hj (L:=L) QoW;have ac:(X.pls i).length+j<(X.pls L).length:=by
    rw [QqI hj] at ih;exact (QqM.1 ih).1
   rw [List.getElem?_append_left ac,ih]
variable (h:X.OK)
include h
theorem FH {i:Nat} (hi:i<=X.Ls.length):(X.pls i).length+i=2*base X.nr i:=by
 induction i with
 |zero=>rfl
 |succ i ih=>
  have ih:=ih QoW;rw [pls,Qr2,base];rcases Qcs (K3 h (i:=i) QoW).2.1 with ⟨a,h2⟩ | ⟨a,h2⟩
  ·rw [h2,a];simp;omega
  ·rw [h2,a];simp;omega
omit h
variable (g:X.Gd per Ch Sy A tl)
include g
theorem Gd.runAt {i k:Nat} (hi:i<X.Ls.length) (hk:k<X.nr i):A[2*base X.nr i-i+2*k]? = some (X.aR i k)/\(k<X.nr i-1->A[2*base X.nr i-i+2*k+1]? = some (X.aD i k)):=by
 obtain ⟨H,rfl,_⟩:=g.act;have hl:=FH g.ok (i:=i) QoW;have a:2*base X.nr i-i=(X.pls i).length:=QoW
 have at':∀ j r,(X.pl i (X.nr i))[j]? = some r->(X.planned Ch Sy++H)[2*base X.nr i-i+j]? = some r:=fun j r e=>by
  have hj:=(QqM.1 e).1;have e2:=Qac hj (L:=X.L) hi;rw [e] at e2;have ac:=(QqM.1 e2).1;unfold planned;rw [a,QqN,QqN,QqN,List.getElem?_append_left ac,e2]
 rcases Qcs (K3 g.ok hi).2.1 with ⟨b,h2⟩ | ⟨b,h2⟩
 ·obtain rfl:k=0:=QoW
  exact ⟨at' 0 _ (by rw [h2];rfl),fun h=>by omega⟩
 ·obtain rfl | rfl:k=0\/k=1:=QoW
  ·exact ⟨at' 0 _ (by rw [h2];rfl),fun _=>at' 1 _ (by rw [h2];rfl)⟩
  ·exact ⟨at' 2 _ (by rw [h2];rfl),fun h=>by omega⟩
theorem Gd.turnAt {j:Nat} {t:Tup} (e:X.T[j]? = some t):A[2*X.N-X.L+Ch.length+j]? = some (X.tuE t):=by
 obtain ⟨H,rfl,_⟩:=g.act;have hl:=FH g.ok (i:=X.L) (QqP _);have a:2*X.N-X.L+Ch.length=(X.pls X.L++Ch.map X.chE).length:=by rw [Qr2,QqL];unfold N;omega
 have hj:=(QqM.1 e).1;unfold planned;rw [a,QqN,QqN,Qrj QoW,Nat.add_sub_cancel_left,List.getElem?_append_left (by simpa using hj),Qrc,e];rfl
def runV (X:Cx) (per:Int) (tl:List Int) (i k:Nat):Int:=V5 tl per (X.aR i k)
def gapV (X:Cx) (per:Int) (tl:List Int) (i k:Nat):Int×Bool:=if k<X.nr i-1 then (V5 tl per (X.aD i k),true) else match X.tn i with
 |some t=>(V5 tl per (X.tuE t),true)
 |none=>(0,false)
theorem Gd.run_mem {i k:Nat} (hi:i<X.Ls.length) (hk:k<X.nr i):X.aR i k∈A:=QqD (g.runAt hi hk).1
theorem Gd.turn_mem {t:Tup} (ht:t∈X.T):X.tuE t∈A:=by
 obtain ⟨j,e⟩:=List.getElem?_of_mem ht;exact QqD (g.turnAt e)
theorem Gd.runV_rng {i k:Nat} (hi:i<X.Ls.length) (hk:k<X.nr i) : -65536<=X.runV per tl i k/\X.runV per tl i k<=66000:=g.dur_rng (g.run_mem hi hk)
theorem Gd.gapV_rng {i k:Nat} (hi:i<X.Ls.length) (hk:k<X.nr i) : -65536<=(X.gapV per tl i k).1/\(X.gapV per tl i k).1<=66000:=by
 unfold gapV;split
 ·exact g.dur_rng (QqD ((g.runAt hi hk).2 (by assumption)))
 ·cases e:X.tn i with
  |none=>simp
  |some t=>exact g.dur_rng (g.turn_mem (Dt e).1)
variable {R:Type}
theorem Gd.runP {i k:Nat} (hi:i<X.Ls.length) (hk:k<X.nr i) (K:Int->oP R):Xm 400 per A (encI tl) (X.fst X.L) (i:Int) (k:Int) K=K (X.runV per tl i k):=by
 have hb:=Ye g.ok (i:=i) QoW;have hl:=FH g.ok (i:=i) QoW;have hn:=(K3 g.ok hi).2.1;have l1:=g.ok.l1;have e:=Q7f (X:=X) (i:=i) (L:=X.L) hi;rw [Qd] at e;have el:(X.fst X.L).length=X.Ls.length:=by simp [fst,encI,L]
 have hx:wJ (wJ (((2*base X.nr i:Nat):Int)-(i:Int))+((2*k:Nat):Int))=((2*base X.nr i-i+2*k:Nat):Int):=by
  rw [Q6 (x:=((2*base X.nr i:Nat):Int)-(i:Int)) QoW QoW,Q6 QoW QoW];omega
 unfold Xm;rw [XR QoW QoW,Q0,QqG,e];simp -implicitDefEqProofs only [Q0,QqE,Q2,Mz (a:=base X.nr i) QoW,Mz (a:=k) QoW,hx,g.durP (g.runAt hi hk).1];rfl
theorem Gd.gapP {i k:Nat} (hi:i<X.Ls.length) (hk:k<X.nr i) (K:Int->Bool->oP R):X1 400 X.Ls Ch per A (encI tl) (encI ((List.range X.L).map (tix X.T))) (X.fst X.L) (X.N:Int) (i:Int) (k:Int) K=K (X.gapV per tl i k).1 (X.gapV per tl i k).2:=by
 have hb:=Ye g.ok (i:=i) QoW;have hN:X.N<=6:=base_le g.ok;have hl:=FH g.ok (i:=i) QoW;have ac:=FH g.ok (i:=X.L) (QqP _);have hn:=(K3 g.ok hi).2.1;have l1:=g.ok.l1;have chl:=g.ls.chl;have an:=g.ok.tl;have hw:wJ (((List.length (Kp X.Ls i):Nat):Int)-1)=((X.nr i-1:Nat):Int):=Ju (k:=X.nr i) QoW QoW;unfold X1 gapV;rw [Qd,(K3 g.ok hi).1];simp -implicitDefEqProofs only [Q0,QqE,QqK,QJ,hw];by_cases b:k<X.nr i-1
 ·have e:=Q7f (X:=X) (i:=i) (L:=X.L) hi;rw [Qd] at e;have el:(X.fst X.L).length=X.Ls.length:=by simp [fst,encI,L]
  have hx:wJ (wJ (wJ (((2*base X.nr i:Nat):Int)-(i:Int))+((2*k:Nat):Int))+1)=((2*base X.nr i-i+2*k+1:Nat):Int):=by
   rw [Q6 (x:=((2*base X.nr i:Nat):Int)-(i:Int)) QoW QoW,Q6 (x:=((2*base X.nr i:Nat):Int)-(i:Int)+((2*k:Nat):Int)) QoW QoW,Q6 QoW QoW];omega
  rw [Qc b,QqH,Qre b,XR QoW QoW,Q0,QqG,e];simp -implicitDefEqProofs only [Q0,QqE,Q2,Mz (a:=base X.nr i) QoW,Mz (a:=k) QoW,hx,g.durP ((g.runAt hi hk).2 b)]
 ·rw [Qp3 ((k:Int)<((X.nr i-1:Nat):Int)),QqF,Qrf b];have et:Q1 (encI ((List.range X.L).map (tix X.T))) (i:Int)=some [Q4 (tix X.T i)]:=HW (by simp [show i<X.L from hi]);rw [et];simp -implicitDefEqProofs only [Q0,QqE,Q2];unfold tix tn;rcases Q6e (l:=X.T) (p:=fun t=>t.1 == i) with ⟨c,h2⟩ | ⟨t,j,c,h2,d⟩
  ·simp only [c,h2];rfl
  ·have aj:=(QqM.1 d).1;simp only [c,h2];have hx:wJ (wJ (wJ (((2*X.N:Nat):Int)-((List.length X.Ls:Nat):Int))+((List.length Ch:Nat):Int))+(j:Int))=((2*X.N-X.L+Ch.length+j:Nat):Int):=by
    unfold L at ac ⊢;unfold N at hN ⊢;unfold L at hN ⊢;rw [Q6 (x:=((2*base X.nr X.Ls.length:Nat):Int)-((List.length X.Ls:Nat):Int)) QoW QoW,Q6 (x:=((2*base X.nr X.Ls.length:Nat):Int)-((List.length X.Ls:Nat):Int)+((List.length Ch:Nat):Int)) QoW QoW,Q6 QoW QoW];omega
   rw [Qp4 ((j:Int)>=0),QqH,Mz (a:=X.N) QoW,hx,g.durP (g.turnAt d),Q0]
end Cx
end Go.Vx
namespace Go.Vx
variable {R:Type} (n:Nat)
def VY (b c d e f:LL) (g:Int) (h:List UInt8) (i j k l:Int) (K:Qlz R):oP R:=Qku R (ZL n b c d e f g h i j k l 0 0 Tu3) fun a=>K a.1 a.2.1 a.2.2
end Go.Vx
namespace Go.Vx
theorem Q5T {l:List Nat} {j i:Nat} (e:l[j]? = some i):Q1 (Q6s l) (j:Int)=some [Q4 (i:Int)]:=by
 rw [Qd];unfold Q6s;rw [Qrc,e];rfl
namespace Cx
def sumR (X:Cx) (per:Int) (tl:List Int) (i:Nat):Nat->Int
 |0=>0
 |k+1=>sumR X per tl i k+(X.runV per tl i k+(X.gapV per tl i k).1)
def sumL (X:Cx) (per:Int) (tl:List Int) (ls:List Nat):Int:=ls.foldl (fun s i=>s+X.sumR per tl i (X.nr i)) 0
def lapsV (X:Cx) (per:Int) (tl:List Int) (ls:List Nat) (c:Bool):Int:=bif c then (X.sumL per tl ls).tdiv per else 0
variable {X:Cx} {per:Int} {Ch Sy A:LL} {tl:List Int} (g:X.Gd per Ch Sy A tl) {R:Type}
include g
theorem Gd.sumR_rng {i:Nat} (hi:i<X.Ls.length):∀ {k:Nat},k<=X.nr i -> -200000*(k:Int)<=X.sumR per tl i k/\X.sumR per tl i k<=200000*(k:Int)
 |0,_=>by simp [sumR]
 |k+1,hk=>by
  have ih:=Gd.sumR_rng hi (k:=k) QoW;have a:=g.runV_rng hi (show k<X.nr i by omega);have h2:=g.gapV_rng hi (show k<X.nr i by omega);rw [sumR];omega
theorem Gd.sumL_rng {ls:List Nat} (ac:∀ i∈ls,i<X.Ls.length):∀ {j:Nat},j<=ls.length -> -400000*(j:Int)<=X.sumL per tl (ls.take j)/\X.sumL per tl (ls.take j)<=400000*(j:Int)
 |0,_=>by simp [sumL]
 |j+1,hj=>by
  have ih:=Gd.sumL_rng ac (j:=j) QoW;have e:=QqI (l:=ls) (i:=j) QoW;have hi:=ac _ (QqD e);have hn:=(K3 g.ok hi).2.1;have a:=g.sumR_rng hi (QqP (X.nr ls[j]));rw [YA e];unfold sumL at ih ⊢;rw [List.foldl_append];simp only [Qrr,List.foldl_nil];omega
theorem Q3T {ls:List Nat} {j i:Nat} (e:ls[j]? = some i):X.sumL per tl (ls.take (j+1))=X.sumL per tl (ls.take j)+X.sumR per tl i (X.nr i):=by
 rw [YA e];unfold sumL;rw [List.foldl_append];rfl
theorem Gd.lapsP {ls:List Nat} {c:Bool} (ac:∀ i∈ls,i<X.Ls.length) (ak:ls.length<=10) (K:Int->oP R):ZC 400 X.Ls Ch per A (encI tl) (encI ((List.range X.L).map (tix X.T))) (X.fst X.L) (X.N:Int) (Q6s ls) c K=K (X.lapsV per tl ls c):=by
 have p0:=g.p0;have p1:=g.p1;unfold ZC lapsV;cases c
 ·rfl
 rw [QqZ,QqF,QqH,show (Q6s ls).length=ls.length by simp [Q6s]];have hs:=g.sumL_rng ac (QqP ls.length);rw [Qr1] at hs;have hb:((X.sumL per tl ls).tdiv per).natAbs=(X.sumL per tl ls).natAbs / per.natAbs:=Int.natAbs_tdiv ..;have an:(X.sumL per tl ls).tdiv per<=10000000 /\ -10000000<=(X.sumL per tl ls).tdiv per:=by
  have:=Nat.div_le_self (X.sumL per tl ls).natAbs per.natAbs;omega
 refine Qt (r:=fun m j=>X5 400 (Q6s ls) (ls.length:Int) (X.fst X.L) X.Ls Ch per A (encI tl) (encI ((List.range X.L).map (tix X.T))) (X.N:Int) (fun a b d=>gb true (nz per) () fun f=>K (wJ (Int.tdiv a per))) m (X.sumL per tl (ls.take j.toNat)) j) (N:=ls.length) (fun m j hj=>?_) (fun m=>?_) ls.length 400 0 QoW QoW
 ·simp only [QqG];have e:=QqI hj;have hi:=ac _ (QqD e);have ao:=g.sumL_rng ac (j:=j) QoW;have hn:=(K3 g.ok hi).2.1;rw [X5,Qc hj,QqH,Q5T e];simp -implicitDefEqProofs only [Q0,QqE,QqK,Q2,QJ,Qd,(K3 g.ok hi).1,Qr (show j<=1000 by omega)];refine Qt (r:=fun m' k=>Xy 400 ((ls[j]:Nat):Int) ((X.nr ls[j]:Nat):Int) (X.fst X.L) X.Ls Ch per A (encI tl) (encI ((List.range X.L).map (tix X.T))) (X.N:Int) (fun h l n=>X5 400 (Q6s ls) (ls.length:Int) (X.fst X.L) X.Ls Ch per A (encI tl) (encI ((List.range X.L).map (tix X.T))) (X.N:Int) (fun a b d=>gb true (nz per) () fun f=>K (wJ (Int.tdiv a per))) m h ((j+1:Nat):Int)) m' (X.sumL per tl (ls.take j)+X.sumR per tl ls[j] k.toNat) k) (N:=X.nr ls[j]) (fun m' k hk=>?_) (fun m'=>?_) (X.nr ls[j]) 400 0 QoW QoW |> Eq.trans (by simp [sumR];rfl)
  ·simp only [QqG];have hr:=g.sumR_rng hi (k:=k) QoW;have o:=g.runV_rng hi hk;have h2:=g.gapV_rng hi hk;rw [Xy,Qc hk,QqH,g.gapP hi hk,Q0,g.runP hi hk,Q0,Q6 (x:=X.runV per tl ls[j] k+(X.gapV per tl ls[j] k).1) QoW QoW,Q6 QoW QoW,Qr (show k<=1000 by omega),sumR,Int.add_assoc]
  ·simp only [QqG];rw [Xy,Qi,QqF,Q3T g e]
 ·simp only [QqG];rw [X5,Qi,QqF,Qr1,NQ QoW,Q0,Q6 QoW QoW]
omit g
def stair (X:Cx) (i k:Nat):List Occ:=Q5n X.G.St X.G.Pt X.G.Se X.G.Li (X.st i k) (X.rn i k) 0 0
variable (h:X.OK)
include h
theorem CZ {i k:Nat} (hi:i<X.Ls.length) (hk:k<X.nr i):OL (-1) (X.stair i k)/\(X.stair i k).length<=6:=Qay (rd h hi hk).rt h.sk QoW QoW QoW QoW
theorem QfV {i k:Nat} (hi:i<X.Ls.length) (hk:k<X.nr i) (K:LL->Int->Int->oP R):VY 400 X.G.St X.G.Pt X.G.Se X.G.Li (X.st i k) 0 X.nm X.tl X.sp X.ac X.br K=K ((X.stair i k).map enc) (X.run i k) 0:=by
 have hh:=Qgq (rd h hi hk).rt (nm:=X.nm) h.sk (show (0:Int)<=0 by omega) QoW (show (0:Int)<=0 by omega) QoW;unfold ZV at hh;have r:=(rd h hi hk).rt;rw [QeA r.lay rfl r.l2 r.l24 r.rt r.st h.sk,Q0,Q8 (by rfl),Q8 (by rfl)] at hh;unfold VY;cases e:ZL 400 X.G.St X.G.Pt X.G.Se X.G.Li (X.st i k) 0 X.nm X.tl X.sp X.ac X.br 0 0 Tu3 with
 |none=>rw [e] at hh;cases hh
 |some v=>
  obtain ⟨a,b,c⟩:=v;rw [e,Q0] at hh;cases hh;rfl
end Cx
theorem Qdz {St Pt Se Li s:LL} (h:RtF St Pt Se Li s) {j:Nat} (hj:j<s.length):∃ (d:Int) (nm:List UInt8) (a b c st:Int),s[j]? = some [Q4 (sec s j:Int),Q4 d]/\Q1 Se (sec s j:Int)=some [D.str nm,Q4 a,Q4 b,Q4 c,Q4 st]:=by
 obtain ⟨x,d,nm,b,c,st,e,f,a0,a1,hd⟩:=FY h.st hj;have hx:=T0 f;have g:0<=x:=by
  have h2:=hx.1;unfold inB at h2;by_cases hc:0<=x
  ·exact hc
  ·rw [show (decide (0<=x)&&decide (x<(Se.length:Int)))=false by simp;omega] at h2;cases h2
 have ac:x=((sec s j:Nat):Int):=by
  unfold sec;rw [QqJ,e];show x=(x.toNat:Int);omega
 rw [ac] at e f;exact ⟨d,nm,_,b,c,st,e,f⟩
def Cv (T:List Occ) (r:Nat) (f t:Int):Prop:=∃ x a b,T[r]? = some (x,a,b)/\a<=f/\t<=b/\a<b
theorem Cv.add {T:List Occ} {r r':Nat} {f t f' t':Int} (h:Cv T r f t) (hf:f'<t'):Cv (N1 T r' f' t') r f t:=by
 obtain ⟨x,a,b,e,i,h2,g⟩:=h;have hr:=(QqM.1 e).1;unfold N1;by_cases ac:r'=r
 ·subst ac;rw [e];dsimp only;rw [Qre g];refine ⟨_,_,_,by rw [Qr3 hr],?_,?_,?_⟩
  ·split <;> omega
  ·split <;> omega
  ·split <;> split <;> omega
 ·cases e':T[r']? with
  |none=>exact ⟨x,a,b,e,i,h2,g⟩
  |some q=>
   obtain ⟨y,c,d⟩:=q;dsimp only;split
   ·exact ⟨x,a,b,by rw [Qr6 ac,e],i,h2,g⟩
   ·exact ⟨x,a,b,by rw [Qr6 ac,e],i,h2,g⟩
theorem Cv.new {T:List Occ} {r:Nat} {f t:Int} (hf:f<t) (hr:r<T.length):Cv (N1 T r f t) r f t:=by
 obtain ⟨⟨x,a,b⟩,e⟩:∃ q,T[r]? = some q:=⟨T[r],QqI hr⟩;unfold N1;rw [e];dsimp only;split
 ·refine ⟨_,_,_,by rw [Qr3 hr],?_,?_,?_⟩
  ·split <;> omega
  ·split <;> omega
  ·split <;> split <;> omega
 ·exact ⟨_,_,_,by rw [Qr3 hr],Qr5 _,Qr5 _,hf⟩
def Bd (R:Int) (T:List Occ):Prop:=∀ q∈T,q.2.1<q.2.2->q.2.1<=R/\0<=q.2.2
theorem Bd.add {R:Int} {T:List Occ} (h:Bd R T) {r:Nat} {f t:Int} (hf:f<=R) (ht:0<=t):Bd R (N1 T r f t):=by
 unfold N1;cases e:T[r]? with
 |none=>exact h
 |some q=>
  obtain ⟨x,a,b⟩:=q;have c:=h _ (QqD e);dsimp only at c ⊢;split
  ·intro q hq _;rcases List.mem_or_eq_of_mem_set hq with hq | rfl
   ·exact h q hq (by assumption)
   ·have c:=c (by assumption);dsimp only;constructor <;> split <;> omega
  ·intro q hq _;rcases List.mem_or_eq_of_mem_set hq with hq | rfl
   ·exact h q hq (by assumption)
   ·exact ⟨hf,ht⟩
section
variable {N NP:Nat} {Li s:LL} {f g:Nat->Int}
theorem Q5N (hs:∀ i,i<s.length->sec s i<N) (a:∀ i,i<s.length->f i<g i) (h2:∀ i,1<=i->i<s.length->f i<g (i-1)) {j:Nat}:∀ {i:Nat},j<i->i<=s.length->Cv (HQ N NP Li s f g i) (sec s j) (f j) (g j)
 |0,hj,_=>by omega
 |i+1,hj,hi=>by
  have hf:=a i QoW;have hl:sec s i<(HQ N NP Li s f g i).length:=by
   have:=hs i QoW;rw [HK];omega
  have hc:Cv (N1 (HQ N NP Li s f g i) (sec s i) (f i) (g i)) (sec s j) (f j) (g j):=by
   by_cases e:j=i
   ·subst e;exact Cv.new hf hl
   ·exact (Q5N hs a h2 (i:=i) QoW QoW).add hf
  rw [HQ];split
  ·exact hc
  ·split
   ·exact hc
   ·exact hc.add (h2 i QoW QoW)
theorem Q9A {R:Int} (c:∀ i,i<s.length->f i<=R/\0<=g i):∀ {i:Nat},i<=s.length->Bd R (HQ N NP Li s f g i)
 |0,_=>by
  intro q hq ac;rw [HQ] at hq;have:=List.eq_of_mem_replicate hq;subst this;simp at ac
 |i+1,hi=>by
  have ih:=Q9A c (i:=i) QoW;have a:=c i QoW;rw [HQ];split
  ·exact ih.add a.1 a.2
  ·have b:=c (i-1) QoW;split
   ·exact ih.add a.1 a.2
   ·exact (ih.add a.1 a.2).add a.1 b.2
end
theorem Qep {St Pt Se Li s:LL} (h:RtF St Pt Se Li s) {nm:List UInt8} {tl sp ac br:Int} (hk:StkN tl sp ac br) {i:Nat} (hi:i<=s.length):TI (HQ Se.length Pt.length Li s (fr Se s (YK Se s nm tl sp ac br) 0) (tu Se s (YK Se s nm tl sp ac br) 0) i):=by
 have aj:=fun i (hi:i<s.length)=>Qdb h (nm:=nm) hk (Qr5 0) QoW (Qr5 0) QoW hi
 induction i with
 |zero=>
  intro r x a b e ak;obtain ⟨d,h2⟩:=QqM.1 e;simp only [HQ,List.getElem_replicate] at h2;cases h2;omega
 |succ i ih=>
  have ih:=ih QoW;have q:=aj i QoW;rw [HQ];split
  ·exact ih.add q.1 q.2
  ·have c:=aj (i-1) QoW;split
   ·exact ih.add q.1 q.2
   ·exact (ih.add q.1 q.2).add q.1 c.2
namespace Cx
variable {X:Cx} (h:X.OK)
include h
theorem Qcx {i k:Nat} (hi:i<X.Ls.length) (hk:k<X.nr i) {j:Nat} (hj:j<(X.st i k).length):sec (X.st i k) j<X.G.Se.length:=by
 obtain ⟨d,nm,a,b,c,st,_,e⟩:=Qdz (rd h hi hk).rt hj;have:=(T0 e).1;unfold inB at this;by_cases hc:(sec (X.st i k) j:Int)<(X.G.Se.length:Int)
 ·omega
 ·rw [QqU hc,Bool.and_false] at this;cases this
theorem Q9J {i k:Nat} (hi:i<X.Ls.length) (hk:k<X.nr i) :
  (∀ q∈X.stair i k,0<=q.1/\q.2.1<q.2.2/\q.2.1<=X.run i k/\0<=q.2.2)/\(∃ q∈X.stair i k,q.1<(X.G.Se.length:Int)/\0<q.2.2) /\
  ∀ s,0<=s->s<X.run i k->∃ q∈X.stair i k,q.2.1<=s/\s<q.2.2:=by
 have hr:=(rd h hi hk).rt;have l2:=hr.l2;have a4:=CW hr.lay;have aq:=fun j (hj:j<(X.st i k).length)=>Qcx h hi hk hj
 have ak:=fun j (hj:j<(X.st i k).length)=>QgY hr (nm:=X.nm) h.sk (Qr5 0) QoW (Qr5 0) QoW hj
 have an:=fun a b (aw:a<=b) (hb:b<(X.st i k).length)=>Q1e hr (nm:=X.nm) h.sk aw hb
 have ay:=CZ h hi hk;unfold run;have er:X.rn i k=YK X.G.Se (X.st i k) X.nm X.tl X.sp X.ac X.br:=rfl;rw [<- er] at ak an;have ar:=M6 hr (nm:=X.nm) h.sk;rw [<- er] at ar;have hlast:=an ((X.st i k).length-1) ((X.st i k).length-1) (QqP _) QoW;have aj:fLV X.G.Se (X.st i k) (X.rn i k) ((X.st i k).length-1)=(X.rn i k).T (X.rn i k).N:=by unfold fLV;rw [Qrf QoW]
 rw [aj] at hlast;have a6:=MK (a:=(X.rn i k).T (X.rn i k).N) QoW (show (1:Int)<=1000 by decide);have eS:Q0p (X.rn i k)=cd ((X.rn i k).T (X.rn i k).N) 1000:=rfl;have l:fr X.G.Se (X.st i k) (X.rn i k) 0 0=0:=by unfold fr;simp
 have a5:tu X.G.Se (X.st i k) (X.rn i k) 0 ((X.st i k).length-1)=Q0p (X.rn i k):=by unfold tu;rw [Qrf QoW];omega
 have hb:∀ j,j<(X.st i k).length->fr X.G.Se (X.st i k) (X.rn i k) 0 j<=Q0p (X.rn i k)/\0<=tu X.G.Se (X.st i k) (X.rn i k) 0 j:=by
  intro j hj;have hT:=an (j-1) ((X.st i k).length-1) QoW QoW;rw [aj] at hT;have hL:=an j j (QqP _) hj;have hc:=MK (a:=fLV X.G.Se (X.st i k) (X.rn i k) j) QoW (show (1:Int)<=1000 by decide);constructor
  ·unfold fr;split <;> omega
  ·unfold tu;split <;> omega
 have a2:∀ j,1<=j->j<(X.st i k).length->fr X.G.Se (X.st i k) (X.rn i k) 0 j<=tu X.G.Se (X.st i k) (X.rn i k) 0 (j-1):=fun j c hj=>by
  have:=(ak j hj).2.2.2 c;omega
 have au:∀ j,j<(X.st i k).length->∃ q∈X.stair i k,q.1=(sec (X.st i k) j:Int)/\q.2.1<=fr X.G.Se (X.st i k) (X.rn i k) 0 j/\tu X.G.Se (X.st i k) (X.rn i k) 0 j<=q.2.2:=fun j hj=>by
  obtain ⟨x,a,b,e,c,h2,d⟩:=Q5N (N:=X.G.Se.length) (NP:=X.G.Pt.length) (Li:=X.G.Li) (s:=X.st i k) (f:=fr X.G.Se (X.st i k) (X.rn i k) 0) (g:=tu X.G.Se (X.st i k) (X.rn i k) 0) aq (fun j hj=>(ak j hj).2.1) (fun j c hj=>(ak j hj).2.2.2 c) (j:=j) (i:=(X.st i k).length) hj (QqP _);have hm:(x,a,b)∈X.stair i k:=Qri.2 ⟨QqD e,by simpa [P4] using d⟩;refine ⟨_,hm,?_,c,h2⟩;have ax:TI (HQ X.G.Se.length X.G.Pt.length X.G.Li (X.st i k) (fr X.G.Se (X.st i k) (X.rn i k) 0) (tu X.G.Se (X.st i k) (X.rn i k) 0) (X.st i k).length):=Qep hr h.sk (QqP _);exact (ax _ _ _ _ e d).1
 refine ⟨fun q hq=>?_,?_,fun s s0 s1=>?_⟩
 ·have hm:=ay.1.mem q hq;have az:=Q9A (N:=X.G.Se.length) (NP:=X.G.Pt.length) (Li:=X.G.Li) hb (QqP _) q (Qri.1 hq).1 hm.2.2.1;exact ⟨QoW,hm.2.2.1,az⟩
 ·obtain ⟨q,hq,e,_,h2⟩:=au 0 QoW;have:=aq 0 QoW;have:=(ak 0 QoW).2.1;exact ⟨q,hq,QoW,QoW⟩
 ·have ao:∀ n,n<(X.st i k).length->s<tu X.G.Se (X.st i k) (X.rn i k) 0 n->∃ j,j<(X.st i k).length/\fr X.G.Se (X.st i k) (X.rn i k) 0 j<=s/\s<tu X.G.Se (X.st i k) (X.rn i k) 0 j:=by
   intro n;induction n with
   |zero=>exact fun hn hs=>⟨0,hn,QoW,hs⟩
   |succ n ih=>
    intro hn hs;by_cases hc:fr X.G.Se (X.st i k) (X.rn i k) 0 (n+1)<=s
    ·exact ⟨n+1,hn,hc,hs⟩
    ·have:=a2 (n+1) QoW hn;exact ih QoW (by rw [Nat.add_sub_cancel] at this;omega)
  obtain ⟨j,hj,c,h2⟩:=ao ((X.st i k).length-1) QoW QoW;obtain ⟨q,hq,_,d,m⟩:=au j hj;exact ⟨q,hq,QoW,QoW⟩
end Cx
abbrev U:=Nat×Nat×Int×Int×Int
def LB (u:U):List D:=[Q4 (u.1:Int),Q4 (u.2.1:Int),Q4 u.2.2.1,Q4 u.2.2.2.1,Q4 u.2.2.2.2]
def CX (us:List U) (u:U):List U:=if 0<u.2.2.2.1 then us++[u] else us
theorem FI {us:List U} {u:U}:(CX us u).length<=us.length+1:=by
 unfold CX;split <;> simp
namespace Cx
variable {X:Cx} {per:Int} {Ch Sy A:LL} {tl:List Int}
def endV (X:Cx) (per:Int) (tl:List Int) (i k:Nat) (at':Int):Int:=at'+X.runV per tl i k+(if (X.gapV per tl i k).2=true then (X.gapV per tl i k).1 else 60)
def occU (train:Nat) (laps at':Int) (us:List U) (l:List Occ):List U:=l.foldl (fun us o=>CX us (o.1.toNat,train,at'+o.2.1,o.2.2-o.2.1,laps)) us
def stM (X:Cx) (per:Int) (tl:List Int) (mv c:Bool) (idx train:Nat) (laps:Int) (i k:Nat) (s:Int×List U):Int×List U:=
 (X.endV per tl i k s.1,CX (bif mv then occU train laps s.1 (if c=false/\idx=0/\k=0 then CX s.2 (sec (X.st i k) 0,train,s.1-60,60,laps) else s.2) (X.stair i k) else if c=false/\idx=0/\k=0 then CX s.2 (sec (X.st i k) 0,train,s.1-60,60,laps) else s.2) (sec (X.st i k) ((X.st i k).length-1),train,s.1+X.run i k,X.endV per tl i k s.1-s.1-X.run i k,laps))
def rideM (X:Cx) (per:Int) (tl:List Int) (mv c:Bool) (idx train:Nat) (laps:Int) (i:Nat) (s:Int×List U):Nat->Int×List U
 |0=>s
 |k+1=>X.stM per tl mv c idx train laps i k (rideM X per tl mv c idx train laps i s k)
def lineM (X:Cx) (per:Int) (tl:List Int) (mv c:Bool) (train:Nat) (laps:Int) (ls:List Nat) (s:Int×List U):Nat->Int×List U
 |0=>s
 |j+1=>X.rideM per tl mv c j train laps (ls.getD j 0) (lineM X per tl mv c train laps ls s j) (X.nr (ls.getD j 0))
def trainM (X:Cx) (per:Int) (tl:List Int) (mv:Bool) (us:List U) (train:Nat) (r:List Nat×Bool):List U:=(X.lineM per tl mv r.2 train (X.lapsV per tl r.1 r.2) r.1 (tat tl ((2*base X.nr (r.1.getD 0 0):Nat):Int),us) r.1.length).2
def usesM (X:Cx) (per:Int) (tl:List Int) (mv:Bool) (rs:List (List Nat×Bool)):Nat->List U
 |0=>[]
 |j+1=>X.trainM per tl mv (usesM X per tl mv rs j) j (rs.getD j ([],false))
variable (g:X.Gd per Ch Sy A tl)
include g
theorem Gd.endV_rng {i k:Nat} (hi:i<X.Ls.length) (hk:k<X.nr i) {a:Int}:a-140000<=X.endV per tl i k a/\X.endV per tl i k a<=a+140000:=by
 have b:=g.runV_rng hi hk;have h2:=g.gapV_rng hi hk;unfold endV;split <;> omega
omit g in
theorem CL {train:Nat} {laps a:Int}:∀ {l:List Occ} {us:List U},(occU train laps a us l).length<=us.length+l.length
 |[],us=>by simp [occU]
 |o::l,us=>by
  have:=CL (train:=train) (laps:=laps) (a:=a) (l:=l) (us:=CX us (o.1.toNat,train,a+o.2.1,o.2.2-o.2.1,laps));have:=FI (us:=us) (u:=(o.1.toNat,train,a+o.2.1,o.2.2-o.2.1,laps));rw [Qrp];unfold occU at *
  rw [Qrr];omega
theorem Gd.rideM_rng {mv c:Bool} {idx train:Nat} {laps:Int} {i:Nat} (hi:i<X.Ls.length) {s:Int×List U}:∀ {k:Nat},k<=X.nr i->s.1-140000*(k:Int)<=(X.rideM per tl mv c idx train laps i s k).1/\(X.rideM per tl mv c idx train laps i s k).1<=s.1+140000*(k:Int)/\(X.rideM per tl mv c idx train laps i s k).2.length<=s.2.length+8*k
 |0,_=>by simp [rideM]
 |k+1,hk=>by
  have ih:=Gd.rideM_rng (mv:=mv) (c:=c) (idx:=idx) (train:=train) (laps:=laps) hi (s:=s) (k:=k) QoW;have he:=g.endV_rng hi (show k<X.nr i by omega) (a:=(X.rideM per tl mv c idx train laps i s k).1);rw [rideM];unfold stM;refine ⟨by dsimp only;omega,by dsimp only;omega,Nat.le_trans FI ?_⟩;have b:=(CZ g.ok hi (show k<X.nr i by omega)).2;have hf:(if c=false/\idx=0/\k=0 then CX (X.rideM per tl mv c idx train laps i s k).2 (sec (X.st i k) 0,train,(X.rideM per tl mv c idx train laps i s k).1-60,60,laps) else (X.rideM per tl mv c idx train laps i s k).2).length<=(X.rideM per tl mv c idx train laps i s k).2.length+1:=by
   split
   ·exact FI
   ·omega
  cases mv with
  |false=>rw [QqF];omega
  |true=>
   rw [QqH];have:=CL (train:=train) (laps:=laps) (a:=(X.rideM per tl true c idx train laps i s k).1) (l:=X.stair i k) (us:=if c=false/\idx=0/\k=0 then CX (X.rideM per tl true c idx train laps i s k).2 (sec (X.st i k) 0,train,(X.rideM per tl true c idx train laps i s k).1-60,60,laps) else (X.rideM per tl true c idx train laps i s k).2);omega
theorem Gd.lineM_rng {mv c:Bool} {train:Nat} {laps:Int} {ls:List Nat} (ac:∀ i∈ls,i<X.Ls.length) {s:Int×List U}:∀ {j:Nat},j<=ls.length->s.1-280000*(j:Int)<=(X.lineM per tl mv c train laps ls s j).1/\(X.lineM per tl mv c train laps ls s j).1<=s.1+280000*(j:Int)/\(X.lineM per tl mv c train laps ls s j).2.length<=s.2.length+16*j
 |0,_=>by simp [lineM]
 |j+1,hj=>by
  have ih:=Gd.lineM_rng (mv:=mv) (c:=c) (train:=train) (laps:=laps) ac (s:=s) (j:=j) QoW;have e:=QqI (l:=ls) (i:=j) QoW;have hi:=ac _ (QqD e);have hn:=(K3 g.ok hi).2.1;have hd:ls.getD j 0=ls[j]:=by rw [QqJ,e];rfl
  rw [lineM,hd];have:=g.rideM_rng (mv:=mv) (c:=c) (idx:=j) (train:=train) (laps:=laps) hi (s:=X.lineM per tl mv c train laps ls s j) (QqP (X.nr ls[j]));omega
omit g in
theorem QaH {rs:List (List Nat×Bool)}:∀ {j:Nat} {r:List Nat×Bool},rs[j]? = some r->Q4p (rs.take (j+1))=Q4p (rs.take j)+r.1.length:=by
 induction rs with
 |nil=>exact fun h=>by simp at h
 |cons a rs ih=>
  intro j r e;cases j with
  |zero=>cases e;simp [Q4p]
  |succ j=>
   have:=ih (j:=j) (by simpa using e);rw [List.take_succ_cons,List.take_succ_cons,Q4p,Q4p,this];omega
omit g in
theorem Q8Y {rs:List (List Nat×Bool)}:∀ {j:Nat},Q4p (rs.take j)<=Q4p rs:=by
 induction rs with
 |nil=>simp
 |cons a rs ih=>
  intro j;cases j with
  |zero=>exact Qrs _
  |succ j=>rw [List.take_succ_cons,Q4p,Q4p];exact Nat.add_le_add_left ih _
structure RsOK (X:Cx) (rs:List (List Nat×Bool)):Prop where
 ls:∀ r∈rs,1<=r.1.length/\∀ i∈r.1,i<X.Ls.length
 sum:Q4p rs<=3
omit g in
theorem RsOK.len3 {rs:List (List Nat×Bool)} (hr:X.RsOK rs) {j:Nat} {r:List Nat×Bool} (e:rs[j]? = some r):r.1.length<=3:=by
 have:=QaH e;have:=Q8Y (rs:=rs) (j:=j+1);have:=hr.sum;omega
omit g in
theorem RsOK.n3:∀ {rs:List (List Nat×Bool)},X.RsOK rs->rs.length<=Q4p rs
 |[],_=>QqP _
 |a::rs,hr=>by
  have:=hr.ls a (.head _);have ih:=RsOK.n3 (rs:=rs) ⟨fun r h=>hr.ls r (.tail _ h),by have:=hr.sum;rw [Q4p] at this;omega⟩;rw [Qrp,Q4p];omega
end Cx
theorem R9 {us:List U} {u v:U} (h:v∈CX us u):v∈us\/v=u/\0<u.2.2.2.1:=by
 grind [CX]
theorem CY {us:List U} {u v:U} (h:v∈us):v∈CX us u:=by
 grind [CX,List.mem_append_left]
theorem Q1h {us:List U} {u:U} (h:0<u.2.2.2.1):u∈CX us u:=by
 grind [CX]
structure CovI (t:Nat) (lo hi:Int) (us:List U):Prop where
 le:lo<=hi
 nn:0<=hi
 bd:∀ u∈us,u.2.1=t->u.2.2.1<=hi/\lo<=u.2.2.1+u.2.2.2.1
 cv:∀ s,lo<=s->s<hi->∃ u∈us,u.2.1=t/\u.2.2.1<=s/\s<u.2.2.1+u.2.2.2.1
theorem CovI.other {t:Nat} {lo hi:Int} {us:List U} (h:CovI t lo hi us) {u:U} (hu:u.2.1≠t):CovI t lo hi (CX us u) where
 le:=h.le
 nn:=h.nn
 bd:=fun v hv e=>by
  rcases R9 hv with hv | ⟨rfl,_⟩
  ·exact h.bd v hv e
  ·exact absurd e hu
 cv:=fun s a b=>by
  obtain ⟨v,hv,r⟩:=h.cv s a b;exact ⟨v,CY hv,r⟩
theorem CovI.mid {t:Nat} {lo hi:Int} {us:List U} (h:CovI t lo hi us) {u:U} (a:u.2.2.1<=hi) (h2:lo<=u.2.2.1+u.2.2.2.1):CovI t lo hi (CX us u) where
 le:=h.le
 nn:=h.nn
 bd:=fun v hv e=>by
  rcases R9 hv with hv | ⟨rfl,_⟩
  ·exact h.bd v hv e
  ·exact ⟨a,h2⟩
 cv:=fun s b a=>by
  obtain ⟨v,hv,r⟩:=h.cv s b a;exact ⟨v,CY hv,r⟩
theorem CovI.post {t:Nat} {lo hi ac:Int} {us:List U} (h:CovI t lo hi us) {u:U} (ht:u.2.1=t) (c:u.2.2.1=hi) (h2:u.2.2.2.1=ac-hi) (a:hi<=ac):CovI t lo ac (CX us u) where
 le:=Int.le_trans h.le a
 nn:=Int.le_trans h.nn a
 bd:=fun v hv e=>by
  have:=h.le;rcases R9 hv with hv | ⟨rfl,_⟩
  ·have:=h.bd v hv e;omega
  ·omega
 cv:=fun s b hs=>by
  by_cases hc:s<hi
  ·obtain ⟨v,hv,r⟩:=h.cv s b hc;exact ⟨v,CY hv,r⟩
  ·exact ⟨u,Q1h QoW,ht,QoW,QoW⟩
theorem CovI.pre {t:Nat} {lo ac hi:Int} {us:List U} (h:CovI t lo hi us) {u:U} (ht:u.2.1=t) (b:u.2.2.1=ac) (h2:u.2.2.2.1=lo-ac) (a:ac<=lo):CovI t ac hi (CX us u) where
 le:=Int.le_trans a h.le
 nn:=h.nn
 bd:=fun v hv e=>by
  have:=h.le;rcases R9 hv with hv | ⟨rfl,_⟩
  ·have:=h.bd v hv e;omega
  ·omega
 cv:=fun s c hs=>by
  by_cases hc:lo<=s
  ·obtain ⟨v,hv,r⟩:=h.cv s hc hs;exact ⟨v,CY hv,r⟩
  ·exact ⟨u,Q1h QoW,ht,QoW,QoW⟩
theorem CovI.any {t:Nat} {lo hi:Int} {us:List U} (h:CovI t lo hi us) {u v:U} (hu:u∈us) (hv:v∈us) (tu:u.2.1=t) (tv:v.2.1=t) {s:Int} (c:u.2.2.1<=s) (h2:s<v.2.2.1+v.2.2.2.1):∃ w∈us,w.2.1=t/\w.2.2.1<=s/\s<w.2.2.1+w.2.2.2.1:=by
 have bu:=h.bd u hu tu;have bv:=h.bd v hv tv;by_cases a:s<lo
 ·grind
 ·by_cases b:s<hi
  ·exact h.cv s QoW b
  grind
namespace Cx
variable {X:Cx} {per:Int} {Ch Sy A:LL} {tl:List Int}
theorem Qby {train:Nat} {laps a:Int} {P:U->Prop} {l:List Occ} (hl:∀ q∈l,P (q.1.toNat,train,a+q.2.1,q.2.2-q.2.1,laps)):∀ {us:List U},(∀ u∈us,P u)->∀ u∈occU train laps a us l,P u:=by
 induction l with
 |nil=>exact fun h=>h
 |cons o l ih=>
  intro us h;refine ih (fun q hq=>hl q (.tail _ hq)) fun u hu=>?_
  rcases R9 hu with hu | ⟨rfl,_⟩
  all_goals grind
variable (g:X.Gd per Ch Sy A tl)
include g
theorem Gd.runV_ge {i k:Nat} (hi:i<X.Ls.length) (hk:k<X.nr i):X.run i k<=X.runV per tl i k:=by
 have p0:=g.p0;unfold runV aR V5 dur;have:=QqT (Vx.tat tl ((2*(base X.nr i+k)+1:Nat):Int)-Vx.tat tl ((2*(base X.nr i+k):Nat):Int)-X.run i k) (show per≠0 by omega)
 grind
theorem Gd.gapV_ge {i k:Nat} (hi:i<X.Ls.length) (hk:k<X.nr i):0<=(X.gapV per tl i k).1/\(k=X.nr i-1->(X.gapV per tl i k).2=true->10<=(X.gapV per tl i k).1):=by
 have p0:=g.p0;have r:=rd g.ok hi hk;have:=r.mn0;unfold gapV;split
 ·have:=QqT (Vx.tat tl ((2*(base X.nr i+k+1):Nat):Int)-Vx.tat tl ((2*(base X.nr i+k)+1:Nat):Int)-X.mn i k) (show per≠0 by omega)
  grind [aD,V5,dur]
 ·cases e:X.tn i with
  |none=>simp
  |some t=>
   have ht:=(g.ok.tr t (Dt e).1).2.2.1;have:=QqT (Vx.tat tl ((2*(base X.nr t.2.1+0):Nat):Int)-Vx.tat tl ((2*(base X.nr t.1+(X.nr t.1-1))+1:Nat):Int)-t.2.2.1) (show per≠0 by omega)
   grind [tuE,V5,dur]
theorem Gd.endV_ge {i k:Nat} (hi:i<X.Ls.length) (hk:k<X.nr i) {a:Int}:a+X.run i k<=X.endV per tl i k a/\(k=X.nr i-1->a+X.run i k<X.endV per tl i k a):=by
 have b:=g.runV_ge hi hk;have h2:=g.gapV_ge hi hk
 grind [endV]
structure UsOK (X:Cx) (n:Nat) (us:List U):Prop where
 lt:∀ u∈us,u.2.1<n
 cv:∀ t,t<n->∃ lo hi,CovI t lo hi us
 se:∀ t,t<n->∃ u∈us,u.2.1=t/\u.1<X.G.Se.length/\0<u.2.2.1+u.2.2.2.1
end Cx
def Qk9 (Se:LL) (u:U):Prop:=∃ (nm:List UInt8) (a b c st:Int),Q1 Se (u.1:Int)=some [D.str nm,Q4 a,Q4 b,Q4 c,Q4 st]/\0<=st/\u.1<6/\2<=a
def Qcv (u:U):Prop := -9000000<=u.2.2.1/\u.2.2.1<=9000000/\0<u.2.2.2.1/\u.2.2.2.1<=1000000
namespace Cx
variable {X:Cx}
variable {per:Int} {Ch Sy A:LL} {tl:List Int}
theorem Q9Y {P:U->Prop} {mv c:Bool} {idx train:Nat} {laps:Int} {i k:Nat} {s:Int×List U} (a:∀ u∈s.2,P u) (b:c=false/\idx=0/\k=0->P (sec (X.st i k) 0,train,s.1-60,60,laps)) (h2:mv=true->∀ q∈X.stair i k,P (q.1.toNat,train,s.1+q.2.1,q.2.2-q.2.1,laps)) (d:0<X.endV per tl i k s.1-s.1-X.run i k->P (sec (X.st i k) ((X.st i k).length-1),train,s.1+X.run i k,X.endV per tl i k s.1-s.1-X.run i k,laps)):∀ u∈(X.stM per tl mv c idx train laps i k s).2,P u:=by
 unfold stM;intro u hu;rcases R9 hu with hu | ⟨rfl,hl⟩
 ·have hf:∀ u∈(if c=false/\idx=0/\k=0 then CX s.2 (sec (X.st i k) 0,train,s.1-60,60,laps) else s.2),P u:=by
   split
   ·intro u hu;rcases R9 hu with hu | ⟨rfl,_⟩
    ·exact a u hu
    ·exact b (by assumption)
   ·exact a
  cases mv with
  |false=>exact hf u hu
  |true=>exact Qby (h2 rfl) hf u hu
 ·exact d hl
variable (g:X.Gd per Ch Sy A tl)
include g
theorem Gd.stM_okN {mv c:Bool} {idx train:Nat} {laps:Int} {i k:Nat} (hi:i<X.Ls.length) (hk:k<X.nr i) {s:Int×List U} (s0 : -5500000<=s.1) (s1:s.1<=5500000) (h:∀ u∈s.2,Qcv u):∀ u∈(X.stM per tl mv c idx train laps i k s).2,Qcv u:=by
 have he:=g.endV_rng hi hk (a:=s.1);have hr:=R2 g.ok hi hk;refine Q9Y h (fun _=>⟨by dsimp only;omega,by dsimp only;omega,by dsimp only;omega,by dsimp only;omega⟩) (fun _ q hq=>?_) fun hl=>⟨by dsimp only;omega,by dsimp only;omega,hl,by dsimp only;omega⟩
 have:=(CZ g.ok hi hk).1.mem q hq;exact ⟨by dsimp only;omega,by dsimp only;omega,by dsimp only;omega,by dsimp only;omega⟩
theorem Gd.rideM_all {P:U->Prop} {mv c:Bool} {idx train:Nat} {laps:Int} {i:Nat} (hi:i<X.Ls.length) (H:∀ (k:Nat) (s:Int×List U),k<X.nr i -> -5500000<=s.1->s.1<=5500000->(∀ u∈s.2,P u)->∀ u∈(X.stM per tl mv c idx train laps i k s).2,P u) {s:Int×List U} (s0 : -5000000<=s.1) (s1:s.1<=5000000) (hs:∀ u∈s.2,P u):∀ {k:Nat},k<=X.nr i->∀ u∈(X.rideM per tl mv c idx train laps i s k).2,P u
 |0,_=>hs
 |k+1,hk=>by
  have hn:=(K3 g.ok hi).2.1;have ih:=Gd.rideM_all hi H s0 s1 hs (k:=k) QoW;have hb:=g.rideM_rng (mv:=mv) (c:=c) (idx:=idx) (train:=train) (laps:=laps) hi (s:=s) (k:=k) QoW;rw [rideM];exact H k _ QoW QoW QoW ih
theorem Gd.lineM_all {P:U->Prop} {mv c:Bool} {train:Nat} {laps:Int} {ls:List Nat} (ac:∀ i∈ls,i<X.Ls.length) (aj:ls.length<=3) (H:∀ (idx i k:Nat) (s:Int×List U),i<X.Ls.length->k<X.nr i -> -5500000<=s.1->s.1<=5500000->(∀ u∈s.2,P u)->∀ u∈(X.stM per tl mv c idx train laps i k s).2,P u) {s:Int×List U} (s0:0<=s.1) (s1:s.1<=300) (hs:∀ u∈s.2,P u):∀ {j:Nat},j<=ls.length->∀ u∈(X.lineM per tl mv c train laps ls s j).2,P u
 |0,_=>hs
 |j+1,hj=>by
  have e:=QqI (l:=ls) (i:=j) QoW;have hi:=ac _ (QqD e);have hd:ls.getD j 0=ls[j]:=by rw [QqJ,e];rfl
  have hb:=g.lineM_rng (mv:=mv) (c:=c) (train:=train) (laps:=laps) ac (s:=s) (j:=j) QoW;have ih:=Gd.lineM_all ac aj H s0 s1 hs (j:=j) QoW;rw [lineM,hd];exact g.rideM_all hi (fun k s hk=>H j _ k s hi hk) QoW QoW ih (QqP _)
theorem Gd.usesM_all {P:U->Prop} {mv:Bool} {rs:List (List Nat×Bool)} (hr:X.RsOK rs) (H:∀ (c:Bool) (train:Nat) (laps:Int) (idx i k:Nat) (s:Int×List U),i<X.Ls.length->k<X.nr i -> -5500000<=s.1->s.1<=5500000->(∀ u∈s.2,P u)->∀ u∈(X.stM per tl mv c idx train laps i k s).2,P u):∀ {j:Nat},j<=rs.length->∀ u∈X.usesM per tl mv rs j,P u
 |0,_=>fun u hu=>(by nomatch hu)
 |j+1,hj=>by
  have e:=QqI (l:=rs) (i:=j) QoW;have hd:rs.getD j ([],false)=rs[j]:=by rw [QqJ,e];rfl
  have ac:=hr.ls _ (QqD e);have a:=QqI (l:=rs[j].1) (i:=0) QoW;have b:=ac.2 _ (QqD a);have d:rs[j].1.getD 0 0=rs[j].1[0]:=by rw [QqJ,a];rfl
  have f:=Ye g.ok (i:=rs[j].1[0]) QoW;have aj:=Qei g.ok b (k:=0) (by have:=(K3 g.ok b).2.1;omega);have ht:=g.tat (i:=((2*base X.nr rs[j].1[0]:Nat):Int)) QoW QoW;have p1:=g.p1;rw [usesM,hd];unfold trainM;rw [d];exact g.lineM_all ac.2 (hr.len3 e) (fun idx i k s=>H _ _ _ idx i k s) (by dsimp only;omega) (by dsimp only;omega) (Gd.usesM_all hr H QoW) (QqP _)
theorem Gd.usesM_okN {mv:Bool} {rs:List (List Nat×Bool)} (hr:X.RsOK rs):∀ u∈X.usesM per tl mv rs rs.length,Qcv u:=g.usesM_all hr (fun c train laps idx i k s hi hk s0 s1 h=>g.stM_okN hi hk s0 s1 h) (QqP _)
theorem Gd.usesM_one {mv:Bool} {rs:List (List Nat×Bool)} (hr:X.RsOK rs) (b:1<=rs.length):∃ u,u∈X.usesM per tl mv rs rs.length:=by
 obtain ⟨n,hn⟩:∃ n,rs.length=n+1:=⟨rs.length-1,QoW⟩;have e:=QqI (l:=rs) (i:=n) QoW;have hd:rs.getD n ([],false)=rs[n]:=by rw [QqJ,e];rfl
 have ac:=hr.ls _ (QqD e);obtain ⟨m,hm⟩:∃ m,rs[n].1.length=m+1:=⟨rs[n].1.length-1,QoW⟩;have e':=QqI (l:=rs[n].1) (i:=m) QoW;have hi:=ac.2 _ (QqD e');have aj:rs[n].1.getD m 0=rs[n].1[m]:=by rw [QqJ,e'];rfl
 have ak:=(K3 g.ok hi).2.1;obtain ⟨k,hk⟩:∃ k,X.nr rs[n].1[m]=k+1:=⟨X.nr rs[n].1[m]-1,QoW⟩;rw [hn,usesM,hd];unfold trainM;rw [hm,lineM,aj,hk,rideM];generalize X.rideM per tl mv rs[n].2 m n (X.lapsV per tl rs[n].1 rs[n].2) rs[n].1[m] _ k=s;have:=(g.endV_ge hi (k:=k) QoW (a:=s.1)).2 QoW;unfold stM;exact ⟨_,Q1h (by dsimp only;omega)⟩
end Cx
def Q6w:List (List D)->oP (List Int)
 |[]=>some []
 |[.int .i64 r,_,_,_,_]::l=>bif decide (-9223372036854775808<=r)&&decide (r<=9223372036854775807) then match Q6w l with
   |some s=>some (r::s)
   |none=>none
  else none
 |_=>none
def Q0w (rs:List Int) (i:Nat) (r:Int):List Int:=((List.range i).filter fun j=>rs.getD j 0 == r).map fun (j:Nat)=>(j:Int)
def Q4R (rs:List Int):Int->List (List D):=fun r=>(Q0w rs rs.length r).map fun j=>[.int .i64 j]
def As (rs:List Int) (i:Nat):List (List D):=((List.range i).map fun j=>[D.int .i64 ((Q0w rs j (rs.getD j 0)).length:Nat)])++List.replicate (rs.length-i) [D.int .i64 0]
def Q4s {R:Type} (rows:List (List D)) (k:(Int->List (List D))->List (List D)->oP R):oP R:=
 match Q6w rows with
 |some rs=>bif Nat.ble rs.length 1000000000 then k (Q4R rs) (As rs rs.length) else none
 |none=>none
theorem QaA (rs:List Int) (i:Nat) (r:Int):Q0w rs (i+1) r=Q0w rs i r++(if rs.getD i 0=r then [(i:Int)] else []):=by
 unfold Q0w;rw [List.range_succ,List.filter_append,QqR];congr 1;by_cases h:rs.getD i 0=r
 ·rw [Qre h];have:(rs.getD i 0 == r)=true:=by simpa using h
  simp only [List.filter_cons,this,if_true,List.filter_nil];rfl
 ·rw [Qrf h];have:(rs.getD i 0 == r)=false:=by rw [beq_eq_false_iff_ne];exact h
  simp only [List.filter_cons,this,List.filter_nil];rfl
theorem Bz (rs:List Int) {i:Nat} (h:i<=rs.length):(As rs i).length=rs.length:=by
 simp [As];omega
theorem Q9m (rs:List Int) {i:Nat} (h:i<rs.length):(As rs i).set i [.int .i64 ((Q0w rs i (rs.getD i 0)).length:Nat)]=As rs (i+1):=by
 unfold As;rw [List.set_append_right _ _ QoY,List.range_succ,QqR,QqN];congr 1;rw [show rs.length-i=(rs.length-(i+1))+1 by omega,List.replicate_succ];simp
theorem QdD (rs:List Int) {i:Nat} (h:i<rs.length):(As rs i)[i]? = some [.int .i64 0]:=by
 unfold As;rw [Qrj QoY,List.getElem?_replicate,Qre QoZ]
theorem Q3I (rs:List Int):As rs 0=List.replicate rs.length [.int .i64 0]:=by simp [As]
theorem MQ:∀ {rows:List (List D)} {rs:List Int},Q6w rows=some rs->rs.length=rows.length:=by
 intro rows;induction rows with
 |nil=>intro rs h;simp only [Q6w,Option.some.injEq] at h;subst h;rfl
 |cons x l ih=>
  intro rs h;unfold Q6w at h;split at h
  ·rename_i h0;cases h0
  ·rename_i r c1 c2 c3 c4 l' h0;injection h0 with e1 e2
   subst e2;cases hb:(decide (-9223372036854775808<=r)&&decide (r<=9223372036854775807)) with
   |false=>simp [hb] at h
   |true=>
    simp only [hb,QqH] at h;split at h
    ·rename_i s hs;injection h with h
     subst h;simp [ih hs]
    ·cases h
  ·cases h
theorem Q9t:∀ {rows:List (List D)} {rs:List Int},Q6w rows=some rs->∀ (i:Nat),i<rows.length->∃ r c1 c2 c3 c4,rows[i]? = some [.int .i64 r,c1,c2,c3,c4]/\rs.getD i 0=r /\ -9223372036854775808<=r/\r<=9223372036854775807:=by
 intro rows;induction rows with
 |nil=>intro rs h i hi;simp at hi
 |cons x l ih=>
  intro rs h i hi;unfold Q6w at h;split at h
  ·rename_i h0;cases h0
  ·rename_i r c1 c2 c3 c4 l' h0;injection h0 with e1 e2
   subst e1 e2;cases hb:(decide (-9223372036854775808<=r)&&decide (r<=9223372036854775807)) with
   |false=>simp [hb] at h
   |true=>
    simp only [hb,QqH] at h;split at h
    ·rename_i s hs;injection h with h
     subst h;simp only [Qr0,Qrn] at hb;cases i with
     |zero=>exact ⟨r,c1,c2,c3,c4,rfl,rfl,hb.1,hb.2⟩
     |succ i=>simpa using ih hs i (by simpa using hi)
    ·cases h
  ·cases h
end Go.Vx
namespace Go.Vx
variable {R:Type} (n:Nat)
def Qg6 (a1:LL) (G:Int->LL) (p:LL) (d b:Int) (k0:LL->Int->D->D->D->D->D->oP R) (k1:Qlr R):oP R:=bif decide (b<d) then QkH R a1 b fun a e g h=>QkP R a fun i j=>Qku R (pIw e) fun c=>QkG R p b fun m=>Qku R (slB (List.length (G c)) (some m) none) fun f=>k0 (cut (G c) f) ((List.length (cut (G c) f):Nat):Int) e g h i j else k1 (decide (b<d))
def Qhj (a0:Int) (a1 d:LL) (c b:Int) (e f g h i:D) (k1:Qlm R) (j:Qlr R):oP R:=bif decide (b<c) then QkG R d b fun m=>QkH R a1 m fun a o p q=>QkP R a fun r s=>Qku R (pIw e) fun ac=>Ql2 R f g h i fun t u v x=>Qku R (pIw o) fun ad=>Ql7 R p q r fun y z aa=>Qku R (pIw s) fun ae=>Qku R (VM n a0 t u v x y z aa some) fun ab=>bif ab then none else k1 (wJ (b+1)) else j (decide (b<c))
def QcV (a0:Int) (a1 a:LL) (b:Int) (c d e f g:D) (k1:Qlp R):Qlq R
 | 0,_=>none
 | m+1,h=>Qhj n a0 a1 a b h c d e f g (fun i=>QcV a0 a1 a b c d e f g k1 m i) fun j=>k1 h j
def QcG (a0:Int) (a1:LL) (G:Int->LL) (p:LL) (b:Int) (k1:Qlp R):Qlq R
 | 0,_=>none
 | m+1,a=>Qg6 a1 G p b a (fun c d e f g h i=>QcV n a0 a1 c d e f g h i (fun _ _=>QcG a0 a1 G p b k1 m (wJ (a+1))) n 0) fun j=>k1 a j
def Uc (a0:Int) (a1:LL) (a:Bool) (K:Qlr R):oP R:=Q4s a1 fun G p=>QcG n a0 a1 G p (a1.length:Int) (fun _ _=>K a) n 0
end Go.Vx

namespace Go.Vx
variable {R:Type} (n:Nat)
def VA (a0:Int) (a1:LL) (K:Qlr R):oP R:=Qku R (WD n a0 a1 some) fun a=>bif !a then K false else Qku R (Uc n a0 a1 true some) fun r2=>K r2
end Go.Vx
namespace Go.Vx
variable {R:Type}
theorem Q2g {x t q:Int} (ht:0<t) (a:t*q<=x) (h2:x<t*q+t):x / t=q:=by
 have a1:q<=x / t:=(Int.le_ediv_iff_mul_le ht).2 (by rw [Int.mul_comm];exact a);have a2:x / t<q+1:=(Int.ediv_lt_iff_lt_mul ht).2 (by rw [Int.mul_comm,Int.mul_add,Int.mul_one];exact h2);omega
theorem tdv {x t:Int} (h : -100000000<=x/\x<=100000000) (ht:2<=t) : -100000000<=x.tdiv t/\x.tdiv t<=100000000/\t*x.tdiv t+x.tmod t=x/\(x.tmod t).natAbs<t.natAbs:=by
 have:=Int.natAbs_tdiv_le_natAbs x t;exact ⟨QoW,QoW,Int.mul_tdiv_add_tmod x t,by rw [Int.natAbs_tmod];exact Nat.mod_lt _ QoW⟩
theorem Qgh {n:Nat} {x t:Int} (h : -100000000<=x/\x<=100000000) (ht:2<=t) (K:Int->Int->oP R):Vu n x t K=K (x / t) 0:=by
 unfold Vu;rw [Q8 QoZ,NQ QoW];simp -implicitDefEqProofs only [Q0];obtain ⟨a,b,hd,hb⟩:=tdv h ht;rw [Q6 (x:=x.tdiv t) QoW QoW];by_cases h2:x.tmod t<0
 ·rw [QR (by simpa using h2),Q6 QoW QoW,Q2g (q:=x.tdiv t-1) QoW (by rw [Int.mul_sub];omega) (by rw [Int.mul_sub];omega)]
 ·rw [Q8 (by simpa using h2),Q2g (q:=x.tdiv t) QoW QoW QoW]
theorem QiV {n:Nat} {x t:Int} (h : -100000000<=x/\x<=100000000) (ht:2<=t) (K:Int->Int->oP R):Uj n x t K=K (-((-x) / t)) 0:=by
 unfold Uj;rw [Q8 QoZ,NQ QoW];simp -implicitDefEqProofs only [Q0];obtain ⟨a,b,hd,hb⟩:=tdv h ht;rw [Q6 (x:=x.tdiv t) QoW QoW];by_cases h2:x.tmod t>0
 ·rw [QR (by simpa using h2),Q6 QoW QoW,Q2g (x := -x) (q := -(x.tdiv t+1)) QoW (by rw [Int.mul_neg,Int.mul_add];omega) (by rw [Int.mul_neg,Int.mul_add];omega),Int.neg_neg]
 ·rw [Q8 (by simpa using h2),Q2g (x := -x) (q := -(x.tdiv t)) QoW (by rw [Int.mul_neg];omega) (by rw [Int.mul_neg];omega),Int.neg_neg]
def NoC (t:Int) (a b:U):Prop:=∀ z:Int,a.2.2.1<b.2.2.1+z*t+b.2.2.2.1->b.2.2.1+z*t<a.2.2.1+a.2.2.2.1->a.2.1=b.2.1/\a.2.2.2.2 ∣ z
theorem QiT {n:Nat} {t:Int} (p0:2<=t) (p1:t<=300) {a b:U} (ha:Qcv a) (hb:Qcv b) (hl:0<=a.2.2.2.2) (h:NoC t a b):VM n t (a.2.1:Int) a.2.2.1 a.2.2.2.1 a.2.2.2.2 (b.2.1:Int) b.2.2.1 b.2.2.2.1 some=some false:=by
 obtain ⟨r,tr,f,l,la⟩:=a;obtain ⟨r',aq,f',l',au⟩:=b;unfold Qcv at ha hb;unfold NoC at h;dsimp only at *
 have i:=Qrk (f+l-f'-1) t;have h2:=QqT (f+l-f'-1) (show t≠0 by omega);have j:=QqX (f+l-f'-1) (show 0<t by omega);have k:=Qrk (-(f-f'-l'+1)) t;have m:=QqT (-(f-f'-l'+1)) (show t≠0 by omega);have o:=QqX (-(f-f'-l'+1)) (show 0<t by omega);unfold VM;rw [Q6 (x:=f-f') QoW QoW,Q6 (x:=f-f'-l') QoW QoW,Q6 (x:=f-f'-l'+1) QoW QoW];rw [Q6 (x:=f+l) QoW QoW,Q6 (x:=f+l-f') QoW QoW,Q6 (x:=f+l-f'-1) QoW QoW];rw [QiV QoW p0,Qgh QoW p0,Q0,Q0];generalize (f+l-f'-1) / t=hi at *
 generalize (-(f-f'-l'+1)) / t=lo at *
 dsimp only;by_cases an : -lo>hi
 ·rw [Qra an,QqH]
 have ac:∀ z:Int,-lo<=z->z<=hi->tr=aq/\la ∣ z:=fun z p d=>by
  have e1:t*z<=t*hi:=Int.mul_le_mul_of_nonneg_left d QoW;have e2:t*(-z)<=t*lo:=Int.mul_le_mul_of_nonneg_left QoW QoW;rw [Int.mul_neg] at e2;exact h z (by rw [Int.mul_comm z t];omega) (by rw [Int.mul_comm z t];omega)
 obtain ⟨rfl,d1⟩:=ac (-lo) (Qr5 _) QoW;obtain ⟨_,e⟩:=ac hi QoW (Qr5 _);rw [QqU an,QqF,show ((tr:Int) != (tr:Int))=false by simp,QqF];by_cases c:la=0
 ·subst c;have:=Int.zero_dvd.1 d1;have:=Int.zero_dvd.1 e;rw [show ((0:Int) == 0)=true from rfl,QqH,Qp3 (-lo<0),Qp3 (hi>0)];rfl
 rw [show (la == 0)=false by simpa using c,QqF];by_cases e1:la=1
 ·rw [show (la == 1)=true by simpa using e1,QqH]
 rw [show (la == 1)=false by simpa using e1,QqF];have ak:¬ -lo<hi:=fun ak=>by
  obtain ⟨_,g⟩:=ac (-lo+1) QoW QoW;have:=(Int.dvd_add_right d1).1 g;have:=Int.eq_one_of_dvd_one hl this;exact e1 this
 rw [QqU ak,NQ c,Qr8,Q0,QqF,Int.tmod_eq_zero_of_dvd d1];rfl
def OkF (u:U):Prop:=Qcv u/\0<=u.2.2.2.2/\u.2.2.2.2<=10000000/\u.1<=1000000/\u.2.1<=1000000
theorem Q5r {us:List U} {i:Nat} {u:U} (h:us[i]? = some u):Q1 (us.map LB) (i:Int)=some (LB u):=by rw [Qd,Qrc,h];rfl
theorem QcC {n:Nat} {t:Int} (p0:2<=t) (p1:t<=300) {us:List U} (hl:us.length<=1000) (hn:us.length<n) (hu:∀ u∈us,OkF u):WD n t (us.map LB) some=some true:=by
 unfold WD;rw [Qp3 (t<2),Qp3 (t>7200)];simp -implicitDefEqProofs only [QqF,QqL];refine Qt (r:=fun m i=>Zy n (us.map LB) (us.length:Int) (some false) (fun _ _=>some true) m i) (N:=us.length) (fun m i hi=>?_) (fun m=>?_) us.length n 0 QoW hn
 ·have e:=QqI hi;obtain ⟨⟨a,h2,b,c⟩,d,g,h,j⟩:=hu _ (QqD e);rw [Zy,Qc hi,QqH,Q5r e,Q0];generalize us[i]=u at *
  obtain ⟨r,tr,f,l,la⟩:=u;dsimp only at *
  simp -implicitDefEqProofs only [LB,Q0,QqE,QqK,Q2];rw [Qp3 ((r:Int)<0),Qp3 ((tr:Int)<0),Qp3 (f < -1099511627776),Qp3 (f>1099511627776),Qp3 (l<1),Qp3 (l>1099511627776),Qp3 (la<0),Qp3 (la>1099511627776),Qr QoW];rfl
 ·rw [Zy,Qi,QqF]
def rsF (us:List U):List Int:=us.map fun u=>(u.1:Int)
def jsF (us:List U) (i:Nat):List Nat:=(List.range' i (us.length-i)).filter fun j=>(rsF us).getD j 0 == (rsF us).getD i 0
def enN (l:List Nat):LL:=l.map fun (j:Nat)=>[Q4 (j:Int)]
theorem Qfb:∀ {us:List U},(∀ u∈us,OkF u)->Q6w (us.map LB)=some (rsF us)
 |[],_=>rfl
 |u::us,h=>by
  have a:=(h u (.head _)).2.2.2.1;show (bif decide (-9223372036854775808<=(u.1:Int))&&decide ((u.1:Int)<=9223372036854775807) then match Q6w (us.map LB) with
   |some s=>some ((u.1:Int)::s)
   |none=>none
  else none)=_
  rw [Qfb fun v hv=>h v (.tail _ hv),Qra QoW,Qra QoW];rfl
theorem Q1T {us:List U}:(rsF us).length=us.length:=by simp [rsF]
theorem Q8S {i N:Nat} (hi:i<=N):List.range N=List.range i++List.range' i (N-i):=by
 rw [List.range_eq_range',List.range_eq_range'];have:=List.range'_append (s:=0) (m:=i) (n:=N-i) (step:=1);rw [show i+(N-i)=N by omega] at this;simpa using this.symm
theorem QbL {us:List U} {i:Nat} (hi:i<us.length):(Q0w (rsF us) i ((rsF us).getD i 0)).length<=(Q4R (rsF us) ((rsF us).getD i 0)).length/\(Q4R (rsF us) ((rsF us).getD i 0)).drop (Q0w (rsF us) i ((rsF us).getD i 0)).length=enN (jsF us i):=by
 unfold Q4R;rw [<- List.map_drop,QqL,Q1T];unfold Q0w;rw [Q8S (Nat.le_of_lt hi),List.filter_append,QqR,List.drop_left',List.map_map]
 ·exact ⟨by simp,rfl⟩
 ·rfl
theorem Qkg {rs:List Int} {i:Nat} (h:i<rs.length):Q1 (As rs rs.length) (i:Int)=some [.int .i64 ((Q0w rs i (rs.getD i 0)).length:Nat)]:=by
 unfold As;rw [Nat.sub_self,List.replicate_zero,Qr9,Qd,Qrc,List.getElem?_range h];rfl
theorem Qi9 {n:Nat} {t:Int} (p0:2<=t) (p1:t<=300) {us:List U} (hu:∀ u∈us,OkF u) {u:U} (ho:OkF u) {js:List Nat} (ao:js.length<=1000) (hn:js.length<n) (hj:∀ j∈js,∃ v,us[j]? = some v/\NoC t u v) {k1:Int->Bool->oP R} {E:oP R} (hk:∀ x b,k1 x b=E) :
  QcV n t (us.map LB) (enN js) (js.length:Int) (Q4 (u.1:Int)) (Q4 (u.2.1:Int)) (Q4 u.2.2.1) (Q4 u.2.2.2.1) (Q4 u.2.2.2.2) k1 n 0=E:=by
 refine Qt (r:=fun m i=>QcV n t (us.map LB) (enN js) (js.length:Int) (Q4 (u.1:Int)) (Q4 (u.2.1:Int)) (Q4 u.2.2.1) (Q4 u.2.2.2.1) (Q4 u.2.2.2.2) k1 m i) (N:=js.length) (fun m i hi=>?_) (fun m=>?_) js.length n 0 QoW hn
 ·have e:=QqI hi;obtain ⟨v,hv,hc⟩:=hj _ (QqD e);have aj:=hu _ (QqD hv);have er:Q1 (enN js) (i:Int)=some [Q4 ((js[i]:Nat):Int)]:=by rw [Qd];unfold enN;rw [Qrc,e];rfl
  rw [QcV];unfold Qhj;rw [Qc hi,QqH,er];simp -implicitDefEqProofs only [Q0,QqE,Q2,Q5r hv,LB,QqK,QiT p0 p1 ho.1 aj.1 ho.2.1 hc,QqF,Qr (show i<=1000 by omega)]
 ·rw [QcV];unfold Qhj;rw [Qi,QqF];exact hk _ _
theorem QhU {n:Nat} {t:Int} (p0:2<=t) (p1:t<=300) {us:List U} (hl:us.length<=1000) (hn:us.length<n) (hu:∀ u∈us,OkF u) (hc:∀ u∈us,∀ v∈us,u.1=v.1->NoC t u v):VA n t (us.map LB) some=some true:=by
 unfold VA Uc Q4s;rw [QcC p0 p1 hl hn hu,Q0,QqZ,QqF,Qfb hu];dsimp only;rw [Q1T,show Nat.ble us.length 1000000000=true from Nat.ble_eq_true_of_le QoW,QqH,QqL];have:QcG n t (us.map LB) (Q4R (rsF us)) (As (rsF us) us.length) (us.length:Int) (fun _ _=>some true) n 0=some true:=by
  refine Qt (r:=fun m i=>QcG n t (us.map LB) (Q4R (rsF us)) (As (rsF us) us.length) (us.length:Int) (fun _ _=>some true) m i) (N:=us.length) (fun m i hi=>?_) (fun m=>?_) us.length n 0 QoW hn
  ·have e:=QqI hi;have ho:=hu _ (QqD e);obtain ⟨a,b⟩:=QbL hi;have hp:=Qkg (rs:=rsF us) (i:=i) (by rw [Q1T];exact hi);have hr:(rsF us).getD i 0=(us[i].1:Int):=by simp [rsF,QqJ,e]
   rw [Q1T] at hp;rw [hr] at a b hp;have hs:slB (Q4R (rsF us) (us[i].1:Int)).length (some ((Q0w (rsF us) i (us[i].1:Int)).length:Int)) none=some ((Q0w (rsF us) i (us[i].1:Int)).length,(Q4R (rsF us) (us[i].1:Int)).length):=by
    unfold slB;simp [a]
   have ac:cut (Q4R (rsF us) (us[i].1:Int)) ((Q0w (rsF us) i (us[i].1:Int)).length,(Q4R (rsF us) (us[i].1:Int)).length)=enN (jsF us i):=by
    rw [<- b];unfold cut;exact List.take_of_length_le QoY
   have ak:(jsF us i).length<=us.length:=by
    unfold jsF;exact Nat.le_trans (List.length_filter_le ..) QoY
   rw [QcG];unfold Qg6;rw [Qc hi,QqH,Q5r e];simp -implicitDefEqProofs only [LB,Q0,QqE,QqK,Q2,hp,hs,ac];rw [show ((enN (jsF us i)).length:Int)=(((jsF us i).length:Nat):Int) by simp [enN],Qr QoW];refine Qi9 p0 p1 hu ho QoW QoW (fun j hj=>?_) fun _ _=>rfl
   unfold jsF at hj;rw [Qri,List.mem_range'_1] at hj;have ej:=QqI (l:=us) (i:=j) QoW;refine ⟨_,ej,hc _ (QqD e) _ (QqD ej) ?_⟩;have:=hj.2;rw [hr,show (rsF us).getD j 0=(us[j].1:Int) by simp [rsF,QqJ,ej]] at this;have:=beq_iff_eq.1 this;omega
  ·rw [QcG];unfold Qg6;rw [Qi,QqF]
 rw [this,Q0]
end Go.Vx
namespace Go.Vx
def Q05 (l:List Bool):LL:=l.map fun b=>[D.bool b]
theorem Jh {w:List Int} {i:Nat} (h:i<w.length):(encI w)[i]? = some [Q4 w[i]]:=by
 exact HW (QqI h)
theorem Q5l {w:List Bool} {i:Nat} (h:i<w.length):(Q05 w)[i]? = some [D.bool w[i]]:=by
 simp [Q05,Qrc,QqI]
theorem Q1Q {w:List Bool}:(Q05 w).length=w.length:=by simp [Q05]
theorem Q7d {w:List Bool} {i:Nat} {v:Bool}:(Q05 w).set i [D.bool v]=Q05 (w.set i v):=by
 grind [Q05,List.map_set]
def TG (per:Int) (k:Nat) (w:List Int):Prop:=w.length=k/\∀ x∈w,0<=x/\x<per
theorem TG.set {per:Int} {k:Nat} {w:List Int} (h:TG per k w) {i:Nat} {v:Int} (a:0<=v) (b:v<per):TG per k (w.set i v):=by
 refine ⟨by rw [Qrh];exact h.1,fun x hx=>?_⟩;rcases List.mem_or_eq_of_mem_set hx with hx | rfl
 ·exact h.2 x hx
 omega
theorem TG.tat {per:Int} {k:Nat} {w:List Int} (h:TG per k w) {i:Int} (a:0<=i) (b:i<(k:Int)):Q1 (encI w) i=some [Q4 (Vx.tat w i)]/\0<=Vx.tat w i/\Vx.tat w i<per:=by
 have hl:=h.1;have e:w[i.toNat]? = some (Vx.tat w i):=by
  simp_all [Vx.tat,QqJ,QqI]
 have:=HW e;rw [show (i.toNat:Int)=i by omega] at this;exact ⟨this,h.2 _ (QqD e)⟩
section
variable {R:Type} {n N:Nat} (hN:N<=48) {P:oP R->Prop}
include hN
theorem Qge {k0:Int->Bool->LL->oP R} (H:∀ w:List Int,w.length=N->P (k0 (N:Int) false (encI w))):∀ (c i m:Nat) (w:List Int),i+c=N->c<m->w.length=N->P (Z7 n (N:Int) k0 m (i:Int) (encI w))
 |0,i,m+1,w,hi,_,hw=>by
  rw [Z7,show i=N by omega,Qi,QqF];exact H w hw
 |c+1,i,m+1,w,hi,hm,hw=>by
  rw [Z7,Qc QoW,QqH,XR QoW (by rw [QZ];omega),Q0,QqG,Jh QoW,Q0,Qr7,Rh,Qr QoW];exact Qge H c (i+1) m _ QoW QoW (by rw [Qrh];exact hw)
theorem Qab {x y:Int} {k0:Int->Bool->LL->oP R} (H:∀ w:List Int,w.length=N->P (k0 (N:Int) false (encI w))):∀ (c i m:Nat) (w:List Int),i+c=N->c<m->w.length=N->P (Z5 n x y (N:Int) k0 m (i:Int) (encI w))
 |0,i,m+1,w,hi,_,hw=>by
  rw [Z5,show i=N by omega,Qi,QqF];exact H w hw
 |c+1,i,m+1,w,hi,hm,hw=>by
  rw [Z5,Qc QoW,QqH,XR QoW (by rw [QZ];omega),Q0,QqG,Jh QoW];simp -implicitDefEqProofs only [Q0,QqE,Q2,Qr7,Rh,Qr (show i<=1000 by omega)];cases w[i]'QoW == y with
  |true=>exact Qab H c (i+1) m _ QoW QoW (by rw [Qrh];exact hw)
  |false=>exact Qab H c (i+1) m _ QoW QoW hw
theorem Qg5 (hn:N<n) {w:List Int} (hw:w.length=N) {kd f t mn mx q:Int} (hf:0<=f/\f<N) (ht:0<=t/\t<N) {K:Bool->LL->oP R} (H:∀ b (w:List Int),w.length=N->P (K b (encI w))):P (JE n (encI w) kd f t mn mx q K):=by
 obtain ⟨f,rfl⟩:=Qro hf.1;obtain ⟨t,rfl⟩:=Qro ht.1;unfold JE;rw [XR QoW (by grind [QZ]),Q0,QqG,Jh (show f<w.length by omega),Q0];simp -implicitDefEqProofs only [Q0,QqE,Q2];rw [XR QoW (by rw [QZ];omega),Q0,QqG,Jh (show t<w.length by omega),Q0];simp -implicitDefEqProofs only [Q0,QqE,Q2];cases w[f]'QoW == w[t]'QoW with
 |true=>simp_all
 |false=>
  rw [QqF,QZ];generalize w[f]'QoW=x;generalize w[t]'QoW=y;rw [hw];exact Qab hN (H true) N 0 n w QoW hn hw
theorem Qe7 {h:Nat} (hh:h<N) {ro:List Int} (hr:ro.length=N) {k0:Int->Bool->LL->oP R} (H:∀ w:List Int,w.length=N->P (k0 (h:Int) false (encI w))):∀ (c i m:Nat) (w:List Int),i+c=h->c<m->w.length=N->P (Yo n (h:Int) (encI ro) k0 m (i:Int) (encI w))
 |0,i,m+1,w,hi,_,hw=>by
  rw [Yo,show i=h by omega,Qi,QqF];exact H w hw
 |c+1,i,m+1,w,hi,hm,hw=>by
  rw [Yo,Qc QoW,QqH];simp -implicitDefEqProofs only [XR (len:=(encI ro).length) (n:=(i:Int)) QoW (by rw [QZ];omega),XR (len:=(encI ro).length) (n:=(h:Int)) QoW (by rw [QZ];omega),XR (len:=(encI w).length) (n:=(i:Int)) QoW (by rw [QZ];omega),XR (len:=(encI w).length) (n:=(h:Int)) QoW (by rw [QZ];omega),QqG,Jh (show i<ro.length by omega),Jh (show h<ro.length by omega),Jh (show i<w.length by omega),Jh (show h<w.length by omega),Q0,QqE,Q2,Qr7,Rh,Qr (show i<=1000 by omega)];cases ro[i]'QoW == ro[h]'QoW with
  |true=>exact Qe7 hh hr H c (i+1) m _ QoW QoW (by rw [Qrh];exact hw)
  |false=>exact Qe7 hh hr H c (i+1) m _ QoW QoW hw
theorem QdW (hn:N<n) {ro:List Int} (hr:ro.length=N) {k0:Int->Int->Bool->LL->oP R} (H:∀ a (w:List Int),w.length=N->P (k0 a (N:Int) false (encI w))):∀ (c i m:Nat) (a:Int) (w:List Int),i+c=N->c<m->w.length=N->P (Yp n (N:Int) (encI ro) k0 m a (i:Int) (encI w))
 |0,i,m+1,a,w,hi,_,hw=>by
  rw [Yp,show i=N by omega,Qi,QqF];exact H a w hw
 |c+1,i,m+1,a,w,hi,hm,hw=>by
  rw [Yp,Qc QoW,QqH,XR QoW (by rw [QZ];omega),Q0,QqG,Jh (show i<w.length by omega),Q0,Qr7,Rh];refine Qe7 hN (show i<N by omega) hr (fun w hw=>?_) i 0 n _ QoW QoW (by rw [Qrh];exact hw);simp -implicitDefEqProofs only [XR (len:=(encI w).length) (n:=(i:Int)) QoW (by rw [QZ];omega),QqG,Jh (show i<w.length by omega),Q0,QqE,Q2,Qr7,Rh,Qr (show i<=1000 by omega)];cases decide (w[i]'QoW<0) with
  |true=>exact QdW hn hr H c (i+1) m _ _ QoW QoW (by rw [Qrh];exact hw)
  |false=>exact QdW hn hr H c (i+1) m _ _ QoW QoW hw
theorem QiA {A:LL} (hA:A.length<400) {per:Int} (hr:∀ r∈A,R6 r) (hc:∀ r∈A,chk per N r=true) (hn:N<n) {k0:Int->Bool->LL->oP R} (H:∀ a b (w:List Int),w.length=N->P (k0 a b (encI w))):∀ (ac:LL) (i m:Nat) (w:List Int),A.drop i=ac->ac.length<m->w.length=N->P (Z4 n A k0 m (i:Int) (encI w)):=by
 intro ac;induction ac with
 |nil=>
  intro i m w hd hm hw;obtain ⟨m,rfl⟩:∃ k,m=k+1:=⟨m-1,QoW⟩;have:=UL hd;rw [Z4,show decide ((i:Int)<(A.length:Int))=false by simp_all,QqF]
  simp_all
 |cons r ac ih=>
  intro i m w hd hm hw;obtain ⟨m,rfl⟩:∃ k,m=k+1:=⟨m-1,by simp at hm;omega⟩;obtain ⟨e,ao,an⟩:=YB hd;have aj:=QqD e;obtain ⟨kd,f,t,mn,mx,q,rfl⟩:=hr r aj;have hk:=A4 (hc _ aj);rw [Qrp] at hm;rw [Z4,Qc an,QqH,Qd,e];simp -implicitDefEqProofs only [Q0,QqE,QqK,Q2,Qr (show i<=1000 by omega)];have hx:∃ b w',JE n (encI w) kd f t mn mx q Tu2=some (b,encI w')/\w'.length=N:=Qg5 (P:=fun X=>∃ b w',X=some (b,encI w')/\w'.length=N) hN hn hw QoW QoW fun b w' h=>⟨b,w',rfl,h⟩
  obtain ⟨b,w',e',ak⟩:=hx;rw [e',Q0];dsimp only;rw [Mg (by rw [QZ,QZ];omega),Q0];exact ih (i+1) m w' ao QoW ak
theorem Q8F {h:Nat} (hh:h<N) {ro:List Int} (hr:ro.length=N) {k0:Int->Bool->LL->oP R} (H:∀ w:List Bool,w.length=N->P (k0 (h:Int) false (Q05 w))):∀ (c i m:Nat) (w:List Bool),i+c=h->c<m->w.length=N->P (YF n (encI ro) (h:Int) k0 m (i:Int) (Q05 w))
 |0,i,m+1,w,hi,_,hw=>by
  rw [YF,show i=h by omega,Qi,QqF];exact H w hw
 |c+1,i,m+1,w,hi,hm,hw=>by
  rw [YF,Qc QoW,QqH];simp -implicitDefEqProofs only [Qd,XR (len:=(Q05 w).length) (n:=(h:Int)) QoW (by rw [Q1Q];omega),QqG,Jh (show i<ro.length by omega),Jh (show h<ro.length by omega),Q5l (show h<w.length by omega),Q0,QqE,Q2,Qr7,Q7d,Qr (show i<=1000 by omega)];cases ro[i]'QoW == ro[h]'QoW with
  |true=>exact Q8F hh hr H c (i+1) m _ QoW QoW (by rw [Qrh];exact hw)
  |false=>exact Q8F hh hr H c (i+1) m _ QoW QoW hw
theorem Qd4 (hn:N<n) {ro:List Int} (hr:ro.length=N) {k0:Int->Bool->LL->oP R} (H:∀ w:List Bool,w.length=N->P (k0 (N:Int) false (Q05 w))):∀ (c i m:Nat) (w:List Bool),i+c=N->c<m->w.length=N->P (Zt n (encI ro) (N:Int) k0 m (i:Int) (Q05 w))
 |0,i,m+1,w,hi,_,hw=>by
  rw [Zt,show i=N by omega,Qi,QqF];exact H w hw
 |c+1,i,m+1,w,hi,hm,hw=>by
  rw [Zt,Qc QoW,QqH,XR QoW (by rw [Q1Q];omega),Q0,QqG,Q5l (show i<w.length by omega),Q0,Qr7,Q7d,Qr QoW];exact Q8F hN (show i<N by omega) hr (fun w hw=>Qd4 hn hr H c (i+1) m w QoW QoW hw) i 0 n _ QoW QoW (by rw [Qrh];exact hw)
omit hN in
theorem QhK:List.replicate N [D.int .i64 (0:Int)]=encI (List.replicate N 0):=by grind [encI,List.map_replicate]
omit hN in
theorem QjP:List.replicate N [D.bool false]=Q05 (List.replicate N false):=by grind [Q05,List.map_replicate]
omit hN in
theorem Q9B:(bif decide ((0:Int)<=(N:Int))&&decide ((N:Int)<=(N:Int)) then some () else none)=some ():=by simp_all
end
def FsB (A:LL) (per:Int) (i:Nat) (w:List Int):Prop:=∀ kd f t mn mx q:Int,[Q4 kd,Q4 f,Q4 t,Q4 mn,Q4 mx,Q4 q]∈A->0<=f->f<(i:Int)->0<=t->t<(i:Int)->mn+(tat w t-tat w f-mn) % per<=mx
def TF (A:LL) (per:Int) (k i:Nat) (w:List Int):Prop:=TG per k w/\FsB A per i w
section
variable {per:Int} {E A:LL} {n:Nat} (p0:2<=per) (p1:per<=300) (hE:E.length<=48) (hA:A.length<400) (hr:∀ r∈A,R6 r) (hc:∀ r∈A,chk per E.length r=true) (hn:n=400)
include p0 p1 hE hA hr hc hn
theorem Qjf (ac:Us n per E A some=some true):∃ w:List Int,JK n per E A some=some (encI w)/\w.length=E.length:=by
 unfold JK;rw [ac,Q0,QqZ,QqF,Q9B,Q0,QqG,XE QoW,Q0,List.length_replicate,QhK];refine Qge (P:=fun X=>∃ w:List Int,X=some (encI w)/\w.length=E.length) hE (fun w hw=>?_) E.length 0 n _ QoW QoW QoY;refine QiA (P:=fun X=>∃ w:List Int,X=some (encI w)/\w.length=E.length) hE hA hr hc QoW (fun a b w hw=>?_) A 0 n w rfl QoW hw;rw [QZ,hw,Q9B,Q0,QqG,XE QoW,Q0,QhK];exact QdW (P:=fun X=>∃ w:List Int,X=some (encI w)/\w.length=E.length) hE QoW hw (fun a w hw=>⟨w,rfl,hw⟩) E.length 0 n 0 _ QoW QoW QoY
theorem Qkh (ac:Us n per E A some=some true) {bu:Int} {al:Bool}:∃ w:List Bool,GG n per E A bu al Tu11=some (per,E,A,Q05 w,bu,0,false,al,false,0,encI (List.replicate E.length 0))/\w.length=E.length:=by
 obtain ⟨ro,j,h2⟩:=Qjf p0 p1 hE hA hr hc hn ac;unfold GG;rw [j,Q0,Q9B,Q0,QqG,XE QoW,Q0,Q0,XE QoW,Q0,QhK,QjP,QZ,h2];exact Qd4 (P:=fun X=>∃ w:List Bool,X=some (per,E,A,Q05 w,bu,0,false,al,false,0,encI (List.replicate E.length 0))/\w.length=E.length) hE QoW h2 (fun w hw=>⟨w,rfl,hw⟩) E.length 0 n _ QoW QoW QoY
theorem QcQ {R:Type} {w:List Int} (hw:TG per E.length w) {kd f t mn mx q:Int} (hm:[Q4 kd,Q4 f,Q4 t,Q4 mn,Q4 mx,Q4 q]∈A) (K:Int->oP R):TL n per (encI w) f t mn K=K (mn+(tat w t-tat w f-mn) % per):=by
 have hk:=A4 (hc _ hm);have tf:=hw.tat (i:=f) QoW QoW;have tt:=hw.tat (i:=t) QoW QoW;have:=QqT (tat w t-tat w f-mn) (show per≠0 by omega);have:=QqX (tat w t-tat w f-mn) (show 0<per by omega);unfold TL;simp -implicitDefEqProofs only [Q0,QqE,QqK,Q2,tf.1,tt.1,Q6 (x:=tat w t-tat w f) QoW QoW,Q6 (x:=tat w t-tat w f-mn) QoW QoW,QhJ (n:=n) (t:=per) (x:=tat w t-tat w f-mn) QoW QoW QoW QoW,Q6 (x:=mn+(tat w t-tat w f-mn) % per) QoW QoW]
theorem QhZ {w:List Int} (hw:TG per E.length w) {al fd:Bool} {best i:Int}:∃ b,Ze n per A al fd best (encI w) i some=some b/\(al=false->b=false->∀ kd f t mn mx q:Int,[Q4 kd,Q4 f,Q4 t,Q4 mn,Q4 mx,Q4 q]∈A->f<=i->t<=i->mn+(tat w t-tat w f-mn) % per<=mx):=by
 unfold Ze;have go:∀ (ac:LL) (j m:Nat) (s:Int),A.drop j=ac->ac.length<m->∃ b,X0 n i (encI w) per A (some true) (fun o u v=>some (bif (bif al then fd else false) then (decide (o>=best)) else false)) m s (j:Int)=some b/\(al=false->b=false->∀ kd f t mn mx q:Int,[Q4 kd,Q4 f,Q4 t,Q4 mn,Q4 mx,Q4 q]∈ac->f<=i->t<=i->mn+(tat w t-tat w f-mn) % per<=mx):=by
  intro ac;induction ac with
  |nil=>
   intro j m s hd hm;obtain ⟨m,rfl⟩:∃ k,m=k+1:=⟨m-1,by simp at hm;omega⟩;have:=UL hd;rw [X0,show decide ((j:Int)<(A.length:Int))=false by simpa using this,QqF]
   simp_all
  |cons r ac ih=>
   intro j m s hd hm;obtain ⟨m,rfl⟩:∃ k,m=k+1:=⟨m-1,by simp at hm;omega⟩;obtain ⟨e,ar,aw⟩:=YB hd;have aq:=QqD e;obtain ⟨kd,f,t,mn,mx,q,rfl⟩:=hr r aq;rw [Qrp] at hm;rw [X0,Qc aw,QqH,Qd,e];simp -implicitDefEqProofs only [Q0,QqE,QqK,Q2,QcQ p0 p1 hE hA hr hc hn hw aq,Qr (show j<=1000 by omega)];cases l:(bif decide (f>i) then true else decide (t>i)) with
   |true=>
    obtain ⟨b,hb,an⟩:=ih (j+1) m (wJ (s+wJ (q*mn))) ar QoW;refine ⟨b,hb,fun a h2 ak f' t' aj ao q' c d g=>?_⟩;rcases List.mem_cons.1 c with h | h
    ·cases h;rw [QqU QoW,QqU QoW] at l;cases l
    ·exact an a h2 ak f' t' aj ao q' h d g
   |false=>
    rw [QqF];cases p:decide (mn+(tat w t-tat w f-mn) % per>mx) with
    |true=>exact ⟨_,rfl,fun _ h=>nomatch h⟩
    |false=>
     obtain ⟨b,hb,an⟩:=ih (j+1) m (wJ (s+wJ (q*(mn+(tat w t-tat w f-mn) % per)))) ar QoW;refine ⟨b,hb,fun a h2 ak f' t' aj ao q' c d g=>?_⟩;rcases List.mem_cons.1 c with h | h
     ·cases h;have:=of_decide_eq_false p;omega
     ·exact an a h2 ak f' t' aj ao q' h d g
 exact go A 0 n 0 rfl QoW
theorem Qja {w:List Int} (hw:TG per E.length w):∃ c e,Mp n per E A (encI w) Tu2=some (c,e):=by
 have hg:=(Qgo p0 p1 hE QoW hr hA (tl:=w)).2;rw [<- hn] at hg;unfold Mp;rw [hg,Q0];cases Q7B per E A w with
 |false=>exact ⟨_,_,rfl⟩
 |true=>
  rw [QqZ,QqF];have go:∀ (ac:LL) (j m:Nat) (s:Int),A.drop j=ac->ac.length<m->∃ c e,J4 n (encI w) per A (fun d g h=>some (d,(0:Int))) m s (j:Int)=some (c,e):=by
   intro ac;induction ac with
   |nil=>
    intro j m s hd hm;obtain ⟨m,rfl⟩:∃ k,m=k+1:=⟨m-1,by simp at hm;omega⟩;have:=UL hd;rw [J4,show decide ((j:Int)<(A.length:Int))=false by simpa using this,QqF];exact ⟨_,_,rfl⟩
   |cons r ac ih=>
    intro j m s hd hm;obtain ⟨m,rfl⟩:∃ k,m=k+1:=⟨m-1,by simp at hm;omega⟩;obtain ⟨e,an,ak⟩:=YB hd;have aj:=QqD e;obtain ⟨kd,f,t,mn,mx,q,rfl⟩:=hr r aj;rw [Qrp] at hm;rw [J4,Qc ak,QqH,Qd,e];simp -implicitDefEqProofs only [Q0,QqE,QqK,Q2,QcQ p0 p1 hE hA hr hc hn hw aj,Qr (show j<=1000 by omega)];exact ih (j+1) m _ an QoW
  exact go A 0 n 0 rfl QoW
omit p0 p1 hE hA hr hc hn in
theorem TF.dn {i:Nat} {w:List Int} {k:Nat} (h:TF A per k (i+1) w):TF A per k i w:=⟨h.1,fun kd f t mn mx q hm a b h2 c=>h.2 kd f t mn mx q hm a QoW h2 QoW⟩
omit p0 p1 hE hA hr hc hn in
theorem TF.set {i:Nat} {w:List Int} {k:Nat} {v:Int} (h:TF A per k i w) (c:0<=v) (d:v<per):TF A per k i (w.set i v):=by
 refine ⟨h.1.set c d,fun kd f t mn mx q hm g0 g1 a b=>?_⟩;have e:∀ x:Int,0<=x->x<(i:Int)->tat (w.set i v) x=tat w x:=fun x g j=>by
  unfold tat;rw [QqJ,QqJ,Qr6 QoW]
 rw [e f g0 g1,e t a b];exact h.2 kd f t mn mx q hm g0 g1 a b
def Qhr (per:Int) (E A:LL) (i:Nat) (fs:List Bool) (bu:Int) (X:oP (Bool×Int×LL×LL×LL×Int×Int×Bool×Bool×Bool×Int×LL×LL)):Prop:=
 ∃ r us ov fd best res w,X=some (r,per,E,A,Q05 fs,bu,us,ov,false,fd,best,res,encI w)/\TF A per E.length i w/\(fd=true->∃ v,res=encI v/\TF A per E.length E.length v)
theorem QgJ {fs:List Bool} (bg:fs.length=E.length) {bu:Int}:∀ (c d i:Nat) (us:Int) (ov fd:Bool) (best:Int) (res:LL) (w:List Int),i+c=E.length->c<d->TF A per E.length i w->(fd=true->∃ v,res=encI v/\TF A per E.length E.length v) ->
  Qhr per E A i fs bu (Xl n d per E A (Q05 fs) bu us ov false fd best res (encI w) (i:Int)):=by
 intro c;induction c with
 |zero=>
  intro d i us ov fd best res w hi hd hw hf;obtain ⟨d,rfl⟩:∃ k,d=k+1:=⟨d-1,QoW⟩;obtain ⟨c,e,a2⟩:=Qja p0 p1 hE hA hr hc hn hw.1;obtain rfl:i=E.length:=QoW
  rw [Xl,VV,show ((E.length:Int) == (E.length:Int))=true by simp,QqH,QZ,hw.1.1,XE QoW,Q0,a2,Q0];exact ⟨_,_,_,_,_,_,_,rfl,hw,fun _=>⟨w,rfl,hw⟩⟩
 |succ c ih=>
  intro d i us ov fd best res w hi hd hw hf;obtain ⟨d,rfl⟩:∃ k,d=k+1:=⟨d-1,QoW⟩;rw [Xl,VV,show ((i:Int) == (E.length:Int))=false by simp;omega,QqF,XR QoW (by rw [Q1Q];omega),Q0,QqG,Q5l (show i<fs.length by omega)];simp -implicitDefEqProofs only [Q0,QqE,Nx];have ay:∀ (M:Nat),(M:Int)<=per->∀ (k:Nat) (t m:Nat) (us:Int) (ov fd:Bool) (best:Int) (res:LL) (w:List Int),t+k=M->k<m->TF A per E.length i w->(fd=true->∃ v,res=encI v/\TF A per E.length E.length v) ->
    ∀ {k0:LL->LL->LL->Int->LL->LL->Int->Int->Bool->Bool->Bool->Int->oP (Bool×Int×LL×LL×LL×Int×Int×Bool×Bool×Bool×Int×LL×LL)} {k1:Int->Bool->LL->LL->LL->Int->LL->LL->Int->Int->Bool->Bool->Bool->Int->oP (Bool×Int×LL×LL×LL×Int×Int×Bool×Bool×Bool×Int×LL×LL)},
    (∀ us ov fd best res w,TF A per E.length i w->(fd=true->∃ v,res=encI v/\TF A per E.length E.length v)->Qhr per E A i fs bu (k0 (Q05 fs) res (encI w) per E A bu us ov false fd best)) ->
    (∀ a b us ov fd best res w,TF A per E.length i w->(fd=true->∃ v,res=encI v/\TF A per E.length E.length v)->Qhr per E A i fs bu (k1 a b (Q05 fs) res (encI w) per E A bu us ov false fd best)) ->
    Qhr per E A i fs bu (Xd n (Xl n d) (i:Int) (M:Int) k0 k1 m (t:Int) (Q05 fs) res (encI w) per E A bu us ov false fd best):=by
   intro M hM k;induction k with
   |zero=>
    intro t m us ov fd best res w ht hm hw hf k0 k1 g h;obtain ⟨m,rfl⟩:∃ k,m=k+1:=⟨m-1,QoW⟩;rw [Xd,show t=M by omega,Qi,QqF];exact h _ _ _ _ _ _ _ w hw hf
   |succ k a3=>
    intro t m us ov fd best res w ht hm hw hf k0 k1 g h;obtain ⟨m,rfl⟩:∃ k,m=k+1:=⟨m-1,QoW⟩;have bk:=hw.1.1;rw [Xd,Qc QoW,QqH];cases decide (wJ (us+1)>bu) with
    |true=>exact g _ _ _ _ _ w hw hf
    |false=>
     have az:TF A per E.length i (w.set i (t:Int)):=hw.set QoW QoW;obtain ⟨b,hb,a4⟩:=QhZ p0 p1 hE hA hr hc hn az.1 (al:=false) (fd:=fd) (best:=best) (i:=(i:Int));rw [QqF,XR QoW (by rw [QZ];omega),Q0,QqG,Jh (show i<w.length by omega),Q0,Qr7,Rh,hb,Q0,Qr (show i<=1000 by omega),Qr (show t<=1000 by omega)];cases b with
     |true=>
      simp -implicitDefEqProofs only [QqZ,QqF];exact a3 (t+1) m _ _ _ _ _ _ QoW QoW az hf g h
     |false=>
      obtain ⟨r,a8,bb,bh,a5,a6,bi,hx,aw,ax⟩:=ih d (i+1) (wJ (us+1)) ov fd best res _ QoW QoW ⟨az.1,fun kd f t mn mx q hm g h h2 h3=>a4 rfl rfl kd f t mn mx q hm QoW QoW⟩ hf;rw [Qr8,QqH,hx,Q0];cases r with
      |true=>exact a3 (t+1) m _ _ _ _ _ _ QoW QoW aw.dn ax g h
      |false=>exact g _ _ _ _ _ _ aw.dn ax
  have e1:((1:Nat):Int)=1:=rfl;obtain ⟨q,hq⟩:=Qro (show 0<=per by omega);cases fs[i]'QoW with
  |true=>exact ay 1 QoW 1 0 n us ov fd best res w QoW QoW hw hf (fun us ov fd best res w hw hf=>⟨_,_,_,_,_,_,_,rfl,hw,hf⟩) fun a b us ov fd best res w hw hf=>⟨_,_,_,_,_,_,_,rfl,hw,hf⟩
  |false=>
   have:=ay q QoW q 0 n us ov fd best res w QoW QoW hw hf (k0:=fun j l o p s u x y z aa ab ac=>some (false,p,s,u,j,x,y,z,aa,ab,ac,l,o)) (k1:=fun au av ad ae ag ah ai aj ak am an ao ap aq=>some (true,ah,ai,aj,ad,ak,am,an,ao,ap,aq,ae,ag)) (fun us ov fd best res w hw hf=>⟨_,_,_,_,_,_,_,rfl,hw,hf⟩) fun a b us ov fd best res w hw hf=>⟨_,_,_,_,_,_,_,rfl,hw,hf⟩
   rw [<- hq] at this;exact this
theorem Qje (ac:Us n per E A some=some true):∃ res us e,UF n per E A 3000 Tu3=some (res,us,e)/\(e=0->∃ v,res=encI v/\TG per E.length v/\FsB A per E.length v):=by
 obtain ⟨fs,a,h2⟩:=Qkh p0 p1 hE hA hr hc hn ac (bu:=3000) (al:=false);obtain ⟨r,us,ov,fd,best,res,w,hx,hw,hf⟩:=QgJ p0 p1 hE hA hr hc hn h2 (bu:=3000) E.length n 0 0 false false 0 [] (List.replicate E.length 0) QoW QoW ⟨⟨by simp,fun x hx=>by have:=List.eq_of_mem_replicate hx;omega⟩,fun kd f t mn mx q hm d a=>by omega⟩ (fun e=>nomatch e);have aj:Q1P n 3000 1 1048576 (some:Bool->oP Bool)=some true:=rfl;unfold UF LN;rw [ac,Q0,QqZ,QqF,aj,Q0,QqZ,QqF,a,Q0];dsimp only;rw [show ((0:Nat):Int)=0 from rfl] at hx;rw [hx,Q0];dsimp only;cases ov with
 |true=>exact ⟨_,_,_,rfl,fun e=>by cases e⟩
 |false=>
  cases fd with
  |false=>exact ⟨_,_,_,rfl,fun e=>by cases e⟩
  |true=>exact ⟨_,_,_,rfl,fun _=>hf rfl⟩
omit p0 p1 hE hA hr hc hn in
theorem Qi1 (ac:Us n per E A some=some false):∃ res us,UF n per E A 3000 Tu3=some (res,us,1):=by
 unfold UF LN;rw [ac,Q0,Qr8,QqH];exact ⟨_,_,rfl⟩
end
end Go.Vx
namespace Go.Vx
variable {R:Type} (n:Nat)
def QM (d:Int) (e:LL) (b f g:Int) (k0:Qln R):Qlo R
 | 0,_,_=>none
 | m+1,a,h=>bif decide (a<b) then QkT R e a fun j i k=>QkF R j i fun l o=>QkF R k i fun p q=>Qku R (Q9 n l (wJ (d+o)) (wJ (p-q)) h f g some) fun r=>QM d e b f g k0 m (wJ (a+1)) r else k0 a (decide (a<b)) h
def Qm (ai c:Int) (aj:LL) (s h:Int) (ak:Bool) (i:Int) (t u v x y:D) (d z aa ab ac al o p:LL) (e:Int) (f g:LL) (ad:Bool) (q:LL) (r:Int) (k0:QlC R):QlA R
 | 0,_,_,_=>none
 | m+1,a,b,am=>bif decide (b<s) then QkJ R aj b fun an bn=>Qku R an[1]? fun ds=>Qld R an (Qlf R bn al fun j ae=>Qkt R (wJ (b+1)) fun k=>bif Qkr (Qkr (!ak) (ai==0)) (b==0) then Qku R (pSl 2 j) fun bp=>QkG R bp 0 fun bt=>Qku R (Q9 n bt (wJ (a-60)) 60 am h i some) fun ap=>QkZ R j ae fun bu bv=>Qku R (N5 t) fun bx=>Ql2 R u v x y fun bz ca cb cc=>Qku R (VY n z aa ab ac bu bv bx bz ca cb cc Tu3) fun ag=>bif ad then QM n a ag.1 (ag.1.length:Int) h i (fun dw dx ce=>Qku R (Xm n e f g d c b some) fun aq=>jn (fun (ar au:Int)=>(Qku R (pSl 2 j) fun cf=>QkZ R j ae fun cg ch=>QkG R cf (wJ (wJ ((cg.length:Int)-ch)-1)) fun ck=>Qku R (Q9 n ck (wJ (a+ar)) (wJ (wJ (au-a)-ar)) ce h i some) fun cm=>Qm ai c aj s h ak i t u v x y d z aa ab ac al o p e f g ad q r k0 m au k cm:oP R)) fun av=>gb true (X1 n o p e f g q d r c b Tu2) (0,false) fun aw=>bif aw.2 then av ag.2.1 (wJ (wJ (a+aq)+aw.1)) else av ag.2.1 (wJ (wJ (a+aq)+60))) n 0 ap else Qku R (Xm n e f g d c b some) fun ax=>jn (fun (ay az:Int)=>(Qku R (pSl 2 j) fun cn=>QkZ R j ae fun co cp=>QkG R cn (wJ (wJ ((co.length:Int)-cp)-1)) fun cs=>Qku R (Q9 n cs (wJ (a+ay)) (wJ (wJ (az-a)-ay)) ap h i some) fun ct=>Qm ai c aj s h ak i t u v x y d z aa ab ac al o p e f g ad q r k0 m az k ct:oP R)) fun ba=>gb true (X1 n o p e f g q d r c b Tu2) (0,false) fun bb=>bif bb.2 then ba ag.2.1 (wJ (wJ (a+ax)+bb.1)) else ba ag.2.1 (wJ (wJ (a+ax)+60)) else QkZ R j ae fun cu cv=>Qku R (N5 t) fun cw=>Ql2 R u v x y fun cx cy cz da=>Qku R (VY n z aa ab ac cu cv cw cx cy cz da Tu3) fun ah=>bif ad then QM n a ah.1 (ah.1.length:Int) h i (fun dy dz db=>Qku R (Xm n e f g d c b some) fun bc=>jn (fun (bd be:Int)=>(Qku R (pSl 2 j) fun dc=>QkZ R j ae fun dd de=>QkG R dc (wJ (wJ ((dd.length:Int)-de)-1)) fun dh=>Qku R (Q9 n dh (wJ (a+bd)) (wJ (wJ (be-a)-bd)) db h i some) fun di=>Qm ai c aj s h ak i t u v x y d z aa ab ac al o p e f g ad q r k0 m be k di:oP R)) fun bg=>gb true (X1 n o p e f g q d r c b Tu2) (0,false) fun bh=>bif bh.2 then bg ah.2.1 (wJ (wJ (a+bc)+bh.1)) else bg ah.2.1 (wJ (wJ (a+bc)+60))) n 0 am else Qku R (Xm n e f g d c b some) fun bi=>jn (fun (bj bk:Int)=>(Qku R (pSl 2 j) fun dj=>QkZ R j ae fun dk dl=>QkG R dj (wJ (wJ ((dk.length:Int)-dl)-1)) fun dq=>Qku R (Q9 n dq (wJ (a+bj)) (wJ (wJ (bk-a)-bj)) am h i some) fun dr=>Qm ai c aj s h ak i t u v x y d z aa ab ac al o p e f g ad q r k0 m bk k dr:oP R)) fun bl=>gb true (X1 n o p e f g q d r c b Tu2) (0,false) fun bm=>bif bm.2 then bl ah.2.1 (wJ (wJ (a+bi)+bm.1)) else bl ah.2.1 (wJ (wJ (a+bi)+60))) else k0 a b (decide (b<s)) am
def Xq (f:LL) (d g:Int) (h:Bool) (i:Int) (j k l o p q r c s:LL) (t:Int) (u v:LL) (x:Bool) (y:LL) (z:Int) (k0:QlC R):QlA R
 | 0,_,_,_=>none
 | m+1,aa,a,ab=>bif decide (a<d) then QkG R f a fun e=>QkR R c e fun ai=>QkH R q ai fun b aj ak al=>QkP R b fun am an=>QkQ R c e fun ac=>Qm n a e ac (ac.length:Int) g h i aj ak al am an j k l o p r c s t u v x y z (fun aq au av ar=>Xq f d g h i j k l o p q r c s t u v x y z k0 m aq (wJ (a+1)) ar) n aa 0 ab else k0 aa a (decide (a<d)) ab
def Zb (l m o p q r d e:LL) (f:Int) (g c:LL) (s:Bool) (h a:LL) (i:Int) (t:LL) (a1:Int) (b:LL) (j:Bool) (K:Qls R):oP R:=Qku R (ZC n d e f g c h a i b j some) fun u=>QkG R b 0 fun k=>QkK R a.length k a k.toNat fun y=>QkG R c (wJ (2*y)) fun ab=>Xq n b (b.length:Int) a1 j u a l m o p q r d e f g c s h i (fun ae ag ah ac=>K ac) n ab 0 t
def XN (n:Nat) (f:LL) (d:Int) (k0:QlC R):QlA R
 | 0,_,_,_=>none
 | m+1,b,a,e=>bif decide (a<d) then QkX R f a fun g=>Qku R (Y1 ((e.length+[[Q4 b]].length)*8)) fun l=>Qku R (pSl 4 g) fun h=>XN n f d k0 m (wJ (b+(h.length:Int))) (wJ (a+1)) (e++[[Q4 b]]) else k0 b a (decide (a<d)) e
def Xv (c:LL) (b:Int) (d e f g h i j k:LL) (l:Int) (o p:LL) (q:Bool) (r:LL) (s:Int) (t:LL) (k0:Qln R):Qlo R
 | 0,_,_=>none
 | m+1,a,u=>bif decide (a<b) then QkS R c a fun x y=>Qku R (pSl 1 x) fun z=>Qku R (Ko y) fun aa=>Qku R (Zb n d e f g h i j k l o p q r t s u a z aa some) fun ab=>Xv c b d e f g h i j k l o p q r s t k0 m (wJ (a+1)) ab else k0 a (decide (a<b)) u
def JG (e f g h:LL) (m:Int) (i j b k c o p a2:LL) (q:Bool) (K:Qlt R):oP R:=gb true (GN n e f g h m i j b k c o p Tu4) (0,[],[],0) fun a=>bif a.2.2.2 !=0 then K [] a.2.2.2 else Qku R (G1 n a.1 a.2.1 a.2.2.1 a2 some) fun r2=>bif !r2 then K [] 1 else Qku R (Zj n b c some) fun d=>XN n b (b.length:Int) (fun s v x t=>Qku R (XH n b c some) fun l=>Xv n l (l.length:Int) e f g h i j b k a.1 a.2.2.1 a2 q d s t (fun y z u=>K u 0) n 0 []) n 0 0 []
end Go.Vx
namespace Go.Vx
theorem QaS {R:Type} {n res train:Nat} {us:List U} (hl:us.length<=1000) {fr len laps:Int} (K:LL->oP R):Q9 n (res:Int) fr len (us.map LB) (train:Int) laps K=K ((CX us (res,train,fr,len,laps)).map LB):=by
 unfold Q9 CX;by_cases h:0<len
 ·rw [show decide (len>0)=true from Qra h,QqH,Qre h,XE QoZ,Q0,QqR];rfl
 ·rw [show decide (len>0)=false from QqU h,QqF,Qrf h]
theorem QjZ {R:Type} {n train:Nat} {us:List U} (hl:us.length<=1000) {x fr len laps:Int} (hx:0<=x) (K:LL->oP R):Q9 n x fr len (us.map LB) (train:Int) laps K=K ((CX us (x.toNat,train,fr,len,laps)).map LB):=by
 obtain ⟨m,rfl⟩:=Qro hx;exact QaS hl K
theorem Qgy {R:Type} {train:Nat} {laps a:Int} (a0 : -6000000<=a) (a1:a<=6000000) {l:List Occ} (hl:∀ q∈l,0<=q.1 /\ -1000<=q.2.1/\q.2.1<q.2.2/\q.2.2<=20000) {us:List U} (hu:us.length<=600) (b:l.length<=6) {K:LL->oP R} :
  QM 400 a (l.map enc) (((l.map enc).length:Nat):Int) (train:Int) laps (fun _ _ w=>K w) 400 0 (us.map LB)=K ((Cx.occU train laps a us l).map LB):=by
 have go:∀ (ac:List Occ) (i m:Nat) (us:List U),l.drop i=ac->ac.length<m->us.length+ac.length<=700->QM 400 a (l.map enc) (((l.map enc).length:Nat):Int) (train:Int) laps (fun _ _ w=>K w) m (i:Int) (us.map LB)=K ((Cx.occU train laps a us ac).map LB):=by
  intro ac;induction ac with
  |nil=>
   intro i m us hd hm aj;obtain ⟨m,rfl⟩:∃ k,m=k+1:=⟨m-1,by simp at hm;omega⟩;have:=UL hd;rw [QM,QqL,show decide ((i:Int)<(l.length:Int))=false by simpa using this,QqF];rfl
  |cons q ac ih=>
   intro i m us hd hm aj;obtain ⟨m,rfl⟩:∃ k,m=k+1:=⟨m-1,by simp at hm;omega⟩;obtain ⟨e,an,ak⟩:=YB hd;have hq:=hl q (QqD e);have eq:Q1 (l.map enc) (i:Int)=some [Q4 q.1,Q4 q.2.1,Q4 q.2.2]:=by rw [Qd,Qrc,e];rfl
   have aq:=FI (us:=us) (u:=(q.1.toNat,train,a+q.2.1,q.2.2-q.2.1,laps));rw [Qrp] at hm aj;rw [QM,QqL,Qc ak,QqH,eq];simp -implicitDefEqProofs only [Q0,QqE,QqK,Q2,Q6 (x:=a+q.2.1) QoW QoW,Q6 (x:=q.2.2-q.2.1) QoW QoW,Qr (show i<=1000 by omega)];rw [QjZ QoW hq.1,Q0,<- QqL (f:=enc)];exact ih (i+1) m _ an QoW QoW
 exact go l 0 400 us rfl QoW QoW
namespace Cx
variable {X:Cx} {per:Int} {Ch Sy A:LL} {tl:List Int}
variable (g:X.Gd per Ch Sy A tl)
include g
variable {R:Type}
theorem Gd.ridesM {mv c:Bool} {idx train:Nat} {laps:Int} {i:Nat} (hi:i<X.Ls.length) {s:Int×List U} (s0 : -5000000<=s.1) (s1:s.1<=5000000) (sl:s.2.length<=500) (aw:idx<=100) {k0:Int->Int->Bool->LL->oP R} :
  Qm 400 (idx:Int) (i:Int) (Kp X.Ls i) ((X.nr i:Nat):Int) (train:Int) c laps (D.str X.nm) (Q4 X.tl) (Q4 X.sp) (Q4 X.ac) (Q4 X.br) (X.fst X.L) X.G.St X.G.Pt X.G.Se X.G.Li X.Ro X.Ls Ch per A (encI tl) mv (encI ((List.range X.L).map (tix X.T))) (X.N:Int) k0 400 s.1 0 (s.2.map LB)=k0 (X.rideM per tl mv c idx train laps i s (X.nr i)).1 ((X.nr i:Nat):Int) false ((X.rideM per tl mv c idx train laps i s (X.nr i)).2.map LB):=by
 have hn:=(K3 g.ok hi).2.1;refine Qt (r:=fun m k=>Qm 400 (idx:Int) (i:Int) (Kp X.Ls i) ((X.nr i:Nat):Int) (train:Int) c laps (D.str X.nm) (Q4 X.tl) (Q4 X.sp) (Q4 X.ac) (Q4 X.br) (X.fst X.L) X.G.St X.G.Pt X.G.Se X.G.Li X.Ro X.Ls Ch per A (encI tl) mv (encI ((List.range X.L).map (tix X.T))) (X.N:Int) k0 m (X.rideM per tl mv c idx train laps i s k.toNat).1 k ((X.rideM per tl mv c idx train laps i s k.toNat).2.map LB)) (N:=X.nr i) (fun m k hk=>?_) (fun m=>?_) (X.nr i) 400 0 QoW QoW
 ·simp only [QqG];have r:=rd g.ok hi hk;have hr:=R2 g.ok hi hk;have l2:=r.rt.l2;have l24:=r.rt.l24;have hb:=g.rideM_rng (mv:=mv) (c:=c) (idx:=idx) (train:=train) (laps:=laps) hi (s:=s) (k:=k) QoW;have f:=g.runV_rng hi hk;have h2:=g.gapV_rng hi hk;obtain ⟨d0,_,_,_,_,_,h,_⟩:=Qdz r.rt (j:=0) QoW;obtain ⟨d1,_,_,_,_,_,e1,_⟩:=Qdz r.rt (j:=(X.st i k).length-1) QoW;have ar:Q1 (Kp X.Ls i) (k:Int)=some [Q4 (rF X.Ls i k 0),Q4 (X.ex i k),Q4 (X.mn i k),Q4 (X.mx i k)]:=by rw [Qd,r.row]
  have n:Q1 (X.st i k) 0=some [Q4 (sec (X.st i k) 0:Int),Q4 d0]:=h;have p:Q1 (X.st i k) (((X.st i k).length-1:Nat):Int)=some [Q4 (sec (X.st i k) ((X.st i k).length-1):Int),Q4 d1]:=by rw [Qd,e1]
  have hw:wJ (wJ ((((X.st i k).length:Nat):Int)-0)-1)=(((X.st i k).length-1:Nat):Int):=by rw [Q6 (x:=(((X.st i k).length:Nat):Int)-0) QoW QoW,Q6 QoW QoW];omega
  rw [rideM];generalize X.rideM per tl mv c idx train laps i s k=q at hb ⊢;have he:=g.endV_rng hi hk (a:=q.1);have aj:(X.gapV per tl i k).2=true->wJ (wJ (q.1+X.runV per tl i k)+(X.gapV per tl i k).1)=X.endV per tl i k q.1:=fun hg=>by
   unfold endV;rw [Q6 (x:=q.1+X.runV per tl i k) QoW QoW,Qre hg,Q6 QoW QoW]
  have ak:(X.gapV per tl i k).2=false->wJ (wJ (q.1+X.runV per tl i k)+60)=X.endV per tl i k q.1:=fun hg=>by
   unfold endV;rw [Q6 (x:=q.1+X.runV per tl i k) QoW QoW,hg,Qrf Bool.false_ne_true,Q6 QoW QoW]
  rw [Qm,Qc hk,QqH,ar];simp -implicitDefEqProofs only [jn,Q0,QqE,QqK,Q2,QJ,Xx,r.ro,QfV g.ok hi hk,g.runP hi hk,g.gapP hi hk,QqF,hw,n,p,Qr (show k<=1000 by omega),Q6 (x:=q.1-60) QoW QoW];have fb:(bif (bif (bif !c then ((idx:Int) == 0) else false) then ((k:Int) == 0) else false) then true else false)=decide (c=false/\idx=0/\k=0):=by
   cases c
   ·by_cases f:idx=0
    ·by_cases h2:k=0
     ·subst f h2;rfl
     ·rw [show ((k:Int) == 0)=false by simp;omega,QqU (by simp [h2])];cases (bif !false then ((idx:Int) == 0) else false) <;> rfl
    ·rw [show ((idx:Int) == 0)=false by simp;omega,QqU (by simp [f])];rfl
   ·rw [QqU QoY];rfl
  have au:(bif (bif !c then ((idx:Int) == 0) else false) then ((k:Int) == 0) else false)=decide (c=false/\idx=0/\k=0):=by
   rw [<- fb];cases (bif (bif !c then ((idx:Int) == 0) else false) then ((k:Int) == 0) else false) <;> rfl
  rw [au];unfold stM;have b:=Q6 (x:=q.1+X.run i k) QoW QoW;have d:=Q6 (x:=X.endV per tl i k q.1-q.1) QoW QoW;have e:=Q6 (x:=X.endV per tl i k q.1-q.1-X.run i k) QoW QoW;have ho:=CZ g.ok hi hk;have hx:=(Q9J g.ok hi hk).1;have ao:∀ o∈X.stair i k,0<=o.1 /\ -1000<=o.2.1/\o.2.1<o.2.2/\o.2.2<=20000:=fun o aq=>by
   have f:=ho.1.mem o aq;have h2:=hx o aq;exact ⟨h2.1,f.2.1,h2.2.1,f.2.2.2.1⟩
  by_cases hf:c=false/\idx=0/\k=0
  ·have t:=FI (us:=q.2) (u:=(sec (X.st i k) 0,train,q.1-60,60,laps));rw [Qra hf,QqH,Qre hf,QaS QoW,Q0];generalize CX q.2 (sec (X.st i k) 0,train,q.1-60,60,laps)=us at t ⊢;have v:=CL (train:=train) (laps:=laps) (a:=q.1) (l:=X.stair i k) (us:=us);cases mv
   ·simp -implicitDefEqProofs only [QqF];cases hg:(X.gapV per tl i k).2
    ·rw [QqF,ak hg,b,d,e,QaS QoW,Q0]
    ·rw [QqH,aj hg,b,d,e,QaS QoW,Q0]
   ·simp -implicitDefEqProofs only [QqH];rw [Qgy QoW QoW ao QoW ho.2];cases hg:(X.gapV per tl i k).2
    ·rw [QqF,ak hg,b,d,e,QaS QoW,Q0]
    ·rw [QqH,aj hg,b,d,e,QaS QoW,Q0]
  ·rw [QqU hf,QqF,Qrf hf];have v:=CL (train:=train) (laps:=laps) (a:=q.1) (l:=X.stair i k) (us:=q.2);cases mv
   ·simp -implicitDefEqProofs only [QqF];cases hg:(X.gapV per tl i k).2
    ·rw [QqF,ak hg,b,d,e,QaS QoW,Q0]
    ·rw [QqH,aj hg,b,d,e,QaS QoW,Q0]
   ·simp -implicitDefEqProofs only [QqH];rw [Qgy QoW QoW ao QoW ho.2];cases hg:(X.gapV per tl i k).2
    ·rw [QqF,ak hg,b,d,e,QaS QoW,Q0]
    ·rw [QqH,aj hg,b,d,e,QaS QoW,Q0]
 ·simp only [QqG];rw [Qm,Qi,QqF]
theorem Gd.trainP {mv:Bool} {us:List U} (aq:us.length<=300) {train:Nat} {r:List Nat×Bool} (f:1<=r.1.length) (h:r.1.length<=3) (hr:∀ i∈r.1,i<X.Ls.length) (K:LL->oP R) :
  Zb 400 X.G.St X.G.Pt X.G.Se X.G.Li X.skR X.Ro X.Ls Ch per A (encI tl) mv (encI ((List.range X.L).map (tix X.T))) (X.fst X.L) (X.N:Int) (us.map LB) (train:Int) (Q6s r.1) r.2 K=K ((X.trainM per tl mv us train r).map LB):=by
 obtain ⟨ls,c⟩:=r;dsimp only at f h hr ⊢;have hN:X.N<=6:=base_le g.ok;have p1:=g.p1;have b:=QqI (l:=ls) (i:=0) QoW;have d:=hr _ (QqD b);have o:ls.getD 0 0=ls[0]:=by rw [QqJ,b];rfl
 have q:=Ye g.ok (i:=ls[0]) QoW;have ar:=Qei g.ok d (k:=0) (by have:=(K3 g.ok d).2.1;omega);have ht:=g.tat (i:=((2*base X.nr ls[0]:Nat):Int)) QoW QoW;have er:Q1 (Q6s ls) 0=some [Q4 (ls[0]:Int)]:=Q5T (j:=0) b;have ef:=Q7f (X:=X) (i:=ls[0]) (L:=X.L) d;rw [Qd] at ef;have el:(X.fst X.L).length=X.Ls.length:=by simp [fst,encI,L]
 have aj:Q1 X.skR 0=some [D.str X.nm,Q4 X.tl,Q4 X.sp,Q4 X.ac,Q4 X.br]:=rfl;unfold Zb trainM;rw [g.lapsP hr QoW,Q0,er];dsimp only;rw [o,show (Q6s ls).length=ls.length by simp [Q6s]];generalize X.lapsV per tl ls c=laps;simp -implicitDefEqProofs only [Q0,QqE,Q2,XR (len:=(X.fst X.L).length) (n:=((ls[0]:Nat):Int)) QoW QoW,QqG,ef,Mz (a:=base X.nr ls[0]) QoW,ht.1];refine Qt (r:=fun m j=>Xq 400 (Q6s ls) (ls.length:Int) (train:Int) c laps (X.fst X.L) X.G.St X.G.Pt X.G.Se X.G.Li X.skR X.Ro X.Ls Ch per A (encI tl) mv (encI ((List.range X.L).map (tix X.T))) (X.N:Int) (fun t u v p=>K p) m (X.lineM per tl mv c train laps ls (Vx.tat tl ((2*base X.nr ls[0]:Nat):Int),us) j.toNat).1 j ((X.lineM per tl mv c train laps ls (Vx.tat tl ((2*base X.nr ls[0]:Nat):Int),us) j.toNat).2.map LB)) (N:=ls.length) (fun m j hj=>?_) (fun m=>?_) ls.length 400 0 QoW QoW
 ·simp only [QqG];have e:=QqI hj;have hi:=hr _ (QqD e);have hd:ls.getD j 0=ls[j]:=by rw [QqJ,e];rfl
  have hb:=g.lineM_rng (mv:=mv) (c:=c) (train:=train) (laps:=laps) hr (s:=(Vx.tat tl ((2*base X.nr ls[0]:Nat):Int),us)) (j:=j) QoW;dsimp only at hb;rw [lineM,hd];rw [Xq,Qc hj,QqH,Q5T e];simp -implicitDefEqProofs only [Q0,QqE,QqK,Q2,QJ,Qd,(K3 g.ok hi).1,aj,Qr (show j<=1000 by omega)];exact g.ridesM hi (s:=X.lineM per tl mv c train laps ls (Vx.tat tl ((2*base X.nr ls[0]:Nat):Int),us) j) QoW QoW QoW QoW
 ·simp only [QqG];rw [Xq,Qi,QqF]
theorem Gd.usesM_len {mv:Bool} {rs:List (List Nat×Bool)} (hr:X.RsOK rs):∀ {j:Nat},j<=rs.length->(X.usesM per tl mv rs j).length<=16*Q4p (rs.take j)
 |0,_=>Qrs _
 |j+1,hj=>by
  have ih:=Gd.usesM_len (mv:=mv) hr (j:=j) QoW;have e:=QqI (l:=rs) (i:=j) QoW;have hd:rs.getD j ([],false)=rs[j]:=by rw [QqJ,e];rfl
  have ac:=hr.ls _ (QqD e);have:=g.lineM_rng (mv:=mv) (c:=rs[j].2) (train:=j) (laps:=X.lapsV per tl rs[j].1 rs[j].2) ac.2 (s:=(Vx.tat tl ((2*base X.nr (rs[j].1.getD 0 0):Nat):Int),X.usesM per tl mv rs j)) (QqP rs[j].1.length);rw [usesM,hd,QaH e];unfold trainM;dsimp only at this;omega
theorem Gd.usesP {mv:Bool} {rs:List (List Nat×Bool)} (hr:X.RsOK rs) (k0:LL->oP R):Xv 400 (Qd2 rs) (rs.length:Int) X.G.St X.G.Pt X.G.Se X.G.Li X.skR X.Ro X.Ls Ch per A (encI tl) mv (encI ((List.range X.L).map (tix X.T))) (X.N:Int) (X.fst X.L) (fun _ _ w=>k0 w) 400 0 []=k0 ((X.usesM per tl mv rs rs.length).map LB):=by
 have n3:=hr.n3;have hs:=hr.sum;refine Qt (r:=fun m j=>Xv 400 (Qd2 rs) (rs.length:Int) X.G.St X.G.Pt X.G.Se X.G.Li X.skR X.Ro X.Ls Ch per A (encI tl) mv (encI ((List.range X.L).map (tix X.T))) (X.N:Int) (X.fst X.L) (fun _ _ w=>k0 w) m j ((X.usesM per tl mv rs j.toNat).map LB)) (N:=rs.length) (fun m j hj=>?_) (fun m=>?_) rs.length 400 0 QoW QoW
 ·simp only [QqG];have e:=QqI hj;have hd:rs.getD j ([],false)=rs[j]:=by rw [QqJ,e];rfl
  have aj:=hr.ls _ (QqD e);have a:=hr.len3 e;have ak:=g.usesM_len (mv:=mv) hr (j:=j) QoW;have:=Q8Y (rs:=rs) (j:=j);have ac:Q1 (Qd2 rs) (j:Int)=some [D.sl 1 (Q6s rs[j].1),D.bool rs[j].2]:=by rw [Qd];unfold Qd2;rw [Qrc,e];rfl
  rw [Xv,Qc hj,QqH,ac,usesM,hd];simp -implicitDefEqProofs only [Q0,QqE,QqK,QJ,Nx,g.trainP (show (X.usesM per tl mv rs j).length<=300 by omega) aj.1 a aj.2,Qr (show j<=1000 by omega)]
 ·simp only [QqG];rw [Xv,Qi,QqF]
end Cx
theorem Tj.lt {X:Cx} {f k:Nat} {r:List D} (h:Tj X.Ls f k r):f<X.Ls.length/\k<X.nr f:=by
 obtain ⟨nm,w,rides,a,h2⟩:=h;refine ⟨(QqM.1 a).1,?_⟩;have e:Kp X.Ls f=rides:=by unfold Kp;rw [a]
 unfold Cx.nr;rw [e];exact (QqM.1 h2).1
theorem PlanR.lsOK {X:Cx} {per:Int} {Sk Ch Tu Sy De:LL} (h:PlanR X.G per Sk X.Ro X.Ls Ch Tu Sy De):X.LsOK per Ch Sy where
 ch:=fun row hr=>by
  obtain ⟨f,fr,t,tr,mn,mx,w,r,r',x,y,x',y',b,b',i,e,a,h2,g,j,k,c,d,_⟩:=h.ch row hr;exact ⟨f,fr,t,tr,mn,mx,w,e,a.lt.1,a.lt.2,h2.lt.1,h2.lt.2,c,d⟩
 chl:=h.chl
 sy:=fun row hr=>h.sy row hr
 syl:=h.syl
theorem Qbp {per:Int} {E A:LL} {w:List Int} (a:A.all (chk per E.length)=true) (h2:TG per E.length w):Q7B per E A w=true:=by
 unfold Q7B;rw [a,h2.1];simp only [QqZ,QqF,bne_self_eq_false,QqV,Qrt,Bool.cond_true_left,Bool.or_eq_false_iff,decide_eq_false_iff_not];intro x hx;have:=h2.2 x hx;omega
section
variable {n:Nat} {a0 a1 a2 a3:LL} {p:Int} {b1 b2 b3 b4 b5 b6 b7 t:LL}
theorem Qc1 {q m:Int} {E A rr tu fs us:LL} {mv:Bool} (hb:GN n a0 a1 a2 a3 p b1 b2 b3 b4 b5 b6 b7 Tu4=some (q,E,A,0)) (hg:G1 n q E A t some=some true) (ht:Zj n b3 b5 some=some tu) (hf:∀ k0:Int->LL->oP (LL×Int),XN n b3 (b3.length:Int) (fun a _ _ w=>k0 a w) n 0 0 []=k0 m fs) (hr:XH n b3 b5 some=some rr)
  (hl:∀ k0:LL->oP (LL×Int),Xv n rr (rr.length:Int) a0 a1 a2 a3 b1 b2 b3 b4 q A t mv tu m fs (fun _ _ w=>k0 w) n 0 []=k0 us):JG n a0 a1 a2 a3 p b1 b2 b3 b4 b5 b6 b7 t mv Tu2=some (us,0):=by
 unfold JG;rw [hb];show (gb true (G1 n q E A t some) false fun r2=>bif (!r2) then some ([],(1:Int)) else gb true (Zj n b3 b5 some) [] fun h=>XN n b3 ((List.length b3:Nat):Int) (fun c k l d=>gb true (XH n b3 b5 some) [] fun b=>Xv n b ((List.length b:Nat):Int) a0 a1 a2 a3 b1 b2 b3 b4 q A t mv h c d (fun i j e=>some (e,(0:Int))) n (0:Int) []) n (0:Int) (0:Int) [])=_;rw [hg,Q0,ht];show (XN n b3 ((List.length b3:Nat):Int) (fun c k l d=>gb true (XH n b3 b5 some) [] fun b=>Xv n b ((List.length b:Nat):Int) a0 a1 a2 a3 b1 b2 b3 b4 q A t mv tu c d (fun i j e=>some (e,(0:Int))) n (0:Int) []) n (0:Int) (0:Int) [])=_;rw [hf (fun c d=>gb true (XH n b3 b5 some) [] fun b=>Xv n b ((List.length b:Nat):Int) a0 a1 a2 a3 b1 b2 b3 b4 q A t mv tu c d (fun i j e=>some (e,(0:Int))) n (0:Int) []),hr,Q0,hl (fun w=>some (w,(0:Int)))]
end
namespace Cx
variable {X:Cx} (h:X.OK) {per:Int} {Ch Sy De:LL} (hl:X.LsOK per Ch Sy) {R:Type}
include h
theorem firstsP (k0:Int->LL->oP R):XN 400 X.Ls (X.Ls.length:Int) (fun a _ _ w=>k0 a w) 400 0 0 []=k0 (X.N:Int) (X.fst X.L):=by
 have l1:=h.l1;refine Qt (r:=fun m i=>XN 400 X.Ls (X.Ls.length:Int) (fun a _ _ w=>k0 a w) m ((base X.nr i.toNat:Nat):Int) i (X.fst i.toNat)) (N:=X.Ls.length) (fun m i hi=>?_) (fun m=>?_) X.Ls.length 400 0 QoW QoW
 ·simp only [QqG];have hb:=Ye h (i:=i) QoW;have hn:=(K3 h hi).2.1;have e2:X.fst i++[[D.int .i64 (base X.nr i:Int)]]=X.fst (i+1):=by simp [fst,encI,List.range_succ]
  have c:(X.fst i).length=i:=by simp [fst,encI]
  have ha:wJ (((base X.nr i:Nat):Int)+(((Kp X.Ls i).length:Nat):Int))=((base X.nr (i+1):Nat):Int):=Qbt (a:=base X.nr i) (b:=X.nr i) QoW;rw [XN,Qc hi,QqH,Qd,(K3 h hi).1];simp -implicitDefEqProofs only [Q0,QqE,QqK,QJ,Qr (show i<=1000 by omega),e2,ha,XE (show ((X.fst i).length+[[D.int .i64 (base X.nr i:Int)]].length)*8<=100000 by rw [c];simp;omega)]
 ·simp only [QqG];rw [XN,Qi,QqF];rfl
end Cx
def Sub (T T':List Occ):Prop:=T.length=T'.length/\∀ (r:Nat) (x a b:Int),T[r]? = some (x,a,b)->a<b->x=(r:Int)/\∃ a' b',T'[r]? = some ((r:Int),a',b')/\a'<=a/\b<=b'
theorem Sub.add {T T':List Occ} (h:Sub T T') {r:Nat} {f t f' t':Int} (g:f'<=f) (h2:t<=t') (m:f<t):Sub (N1 T r f t) (N1 T' r f' t'):=by
 refine ⟨by rw [Pk,Pk,h.1],fun c x a b e aj=>?_⟩;have hl:=h.1;by_cases hr:r<T.length
 ·obtain ⟨⟨i,a1,b1⟩,e1⟩:∃ q,T[r]? = some q:=⟨T[r],QqI hr⟩;obtain ⟨⟨n,a2,b2⟩,e2⟩:∃ q,T'[r]? = some q:=⟨T'[r],QqI QoW⟩;have hs:=h.2 r i a1 b1 e1;rw [e2] at hs;unfold N1 at e ⊢;rw [e1] at e;rw [e2];dsimp only at e ⊢;by_cases ac:r=c
  ·subst ac;by_cases hc:a1<b1
   ·obtain ⟨_,a',b',e',g1,d⟩:=hs hc;cases e';rw [Qre hc,Qr3 hr] at e;rw [Qre QoW,Qr3 QoW];cases e;refine ⟨rfl,_,_,rfl,?_,?_⟩ <;> split <;> split <;> omega
   ·rw [Qrf hc,Qr3 hr] at e;cases e;refine ⟨rfl,?_⟩;split
    ·refine ⟨_,_,by rw [Qr3 QoW],?_,?_⟩ <;> split <;> omega
    ·exact ⟨_,_,by rw [Qr3 QoW],g,h2⟩
  ·have j:T[c]? = some (x,a,b):=by
    split at e
    ·rwa [Qr6 ac] at e
    ·rwa [Qr6 ac] at e
   obtain ⟨g0,a',b',g1,d⟩:=h.2 c x a b j aj;refine ⟨g0,a',b',?_,d⟩;split
   ·rwa [Qr6 ac]
   ·rwa [Qr6 ac]
 ·have k:T[r]? = none:=List.getElem?_eq_none QoW;have l:T'[r]? = none:=List.getElem?_eq_none QoW;unfold N1 at e ⊢;rw [k] at e;rw [l];exact h.2 c x a b e aj
theorem Q1I {s:LL} {f g f' g':Nat->Int} (N NP:Nat) (Li:LL) (h:∀ i,i<s.length->f' i<=f i/\g i<=g' i/\f i<g i/\(1<=i->f i<g (i-1))):∀ {i:Nat},i<=s.length->Sub (HQ N NP Li s f g i) (HQ N NP Li s f' g' i)
 |0,_=>⟨rfl,fun r x a b e ac=>by
  obtain ⟨c,h2⟩:=QqM.1 e;simp only [HQ,List.getElem_replicate] at h2;cases h2;omega⟩
 |i+1,hi=>by
  have ih:=Q1I N NP Li h (i:=i) QoW;have a:=h i QoW;rw [HQ,HQ];split
  ·exact ih.add a.1 a.2.1 a.2.2.1
  ·have b:=h (i-1) QoW;split
   ·exact ih.add a.1 a.2.1 a.2.2.1
   ·exact (ih.add a.1 a.2.1 a.2.2.1).add a.1 b.2.1 (a.2.2.2 QoW)
namespace Cx
variable {X:Cx} (h:X.OK)
include h
theorem Qdx {i k:Nat} (hi:i<X.Ls.length) (hk:k<X.nr i):∀ q∈X.stair i k,∃ p∈X.occ i k,p.1=q.1/\p.2.1<=q.2.1/\q.2.2<=p.2.2:=by
 intro q hq;have hr:=(rd h hi hk).rt;have b:=QgH h hi hk;have ac:=fun j (hj:j<(X.st i k).length)=>QgY hr (nm:=X.nm) h.sk (Qr5 0) QoW (Qr5 0) QoW hj
 obtain ⟨x,a,c⟩:=q;have hm:=Qri.1 hq;obtain ⟨r,ak⟩:=List.getElem?_of_mem hm.1;have aj:a<c:=by simpa [P4] using hm.2
 have hs:=Q1I X.G.Se.length X.G.Pt.length X.G.Li (s:=X.st i k) (f:=fr X.G.Se (X.st i k) (X.rn i k) 0) (g:=tu X.G.Se (X.st i k) (X.rn i k) 0) (f':=fr X.G.Se (X.st i k) (X.rn i k) (bf k)) (g':=tu X.G.Se (X.st i k) (X.rn i k) (X.af i k)) (fun j hj=>⟨by unfold fr;split <;> omega,by unfold tu;split <;> omega,(ac j hj).2.1,(ac j hj).2.2.2⟩) (QqP _);obtain ⟨e,a',b',e',d,h2⟩:=hs.2 r x a c ak aj;exact ⟨_,Qri.2 ⟨QqD e',by simp only [P4,Qrn];omega⟩,e.symm,d,h2⟩
theorem Qcm {i k:Nat} (hi:i<X.Ls.length) (hk:k<X.nr i) {j:Nat} (hj:j<(X.st i k).length):∃ p∈X.occ i k,p.1=(sec (X.st i k) j:Int)/\p.2.1<=fr X.G.Se (X.st i k) (X.rn i k) (bf k) j/\tu X.G.Se (X.st i k) (X.rn i k) (X.af i k) j<=p.2.2:=by
 have hr:=(rd h hi hk).rt;have b:=QgH h hi hk;have ac:=fun j (hj:j<(X.st i k).length)=>QgY hr (nm:=X.nm) h.sk b.1.1 QoW b.2.1 QoW hj
 have m:=fun j (hj:j<(X.st i k).length)=>Qdb hr (nm:=X.nm) h.sk b.1.1 b.1.2 b.2.1 b.2.2 hj
 obtain ⟨x,a,c,e,d,h2,l⟩:=Q5N (N:=X.G.Se.length) (NP:=X.G.Pt.length) (Li:=X.G.Li) (s:=X.st i k) (f:=fr X.G.Se (X.st i k) (X.rn i k) (bf k)) (g:=tu X.G.Se (X.st i k) (X.rn i k) (X.af i k)) (fun j hj=>Qcx h hi hk hj) (fun j hj=>(ac j hj).2.1) (fun j d hj=>(ac j hj).2.2.2 d) (j:=j) (i:=(X.st i k).length) hj (QqP _);obtain ⟨e1,a',b',e',g1,n⟩:=(Q1I _ _ _ (fun j hj=>⟨Qr5 _,Qr5 _,(ac j hj).2.1,(ac j hj).2.2.2⟩) (QqP _)).2 _ x a c e l;rw [e1] at e;exact ⟨_,Qri.2 ⟨QqD e,by simpa [P4] using l⟩,rfl,d,h2⟩
theorem Q9q {i:Nat} (hi:i<X.Ls.length) (hk:0<X.nr i):∃ p∈X.occ i 0,p.1=(sec (X.st i 0) 0:Int)/\p.2.1 <= -60/\0<=p.2.2:=by
 have hr:=(rd h hi hk).rt;have l2:=hr.l2;obtain ⟨p,hp,e,b,h2⟩:=Qcm h hi hk (j:=0) QoW;have hL:=Q1e hr (nm:=X.nm) h.sk (i:=0) (j:=0) (QqP _) QoW;have hc:=MK (a:=fLV X.G.Se (X.st i 0) (X.rn i 0) 0) (by have:X.rn i 0=YK X.G.Se (X.st i 0) X.nm X.tl X.sp X.ac X.br:=rfl;rw [this];omega) (show (1:Int)<=1000 by decide);refine ⟨p,hp,e,?_,?_⟩
 ·unfold fr bf at b;simpa using b
 ·unfold tu at h2;rw [Qre QoW] at h2;omega
theorem Qca {i k:Nat} (hi:i<X.Ls.length) (hk:k<X.nr i):∃ p∈X.occ i k,p.1=(sec (X.st i k) ((X.st i k).length-1):Int)/\p.2.1<=X.run i k/\X.run i k+X.af i k<=p.2.2:=by
 have hr:=(rd h hi hk).rt;have l2:=hr.l2;obtain ⟨p,hp,e,b,h2⟩:=Qcm h hi hk (j:=(X.st i k).length-1) QoW;refine ⟨p,hp,e,?_,?_⟩
 ·have ak:=Q1e hr (nm:=X.nm) h.sk (i:=(X.st i k).length-2) (j:=(X.st i k).length-1) QoW QoW;have er:X.rn i k=YK X.G.Se (X.st i k) X.nm X.tl X.sp X.ac X.br:=rfl;rw [<- er] at ak;have aj:fLV X.G.Se (X.st i k) (X.rn i k) ((X.st i k).length-1)=(X.rn i k).T (X.rn i k).N:=by unfold fLV;rw [Qrf QoW]
  rw [aj] at ak;have an:=MK (a:=(X.rn i k).T (X.rn i k).N) QoW (show (1:Int)<=1000 by decide);have eS:X.run i k=cd ((X.rn i k).T (X.rn i k).N) 1000:=rfl;unfold fr at b;rw [Qrf QoW,show (X.st i k).length-1-1=(X.st i k).length-2 by omega] at b;omega
 ·unfold tu at h2;rw [Qrf QoW] at h2;exact h2
end Cx
def Qhl:List D->Int
 |[_,_,_,_,.int _ m,_]=>m
 |_=>0
def Fs (per:Int) (tl:List Int) (A:LL):Prop:=∀ r∈A,V5 tl per r<=Qhl r
namespace Cx
variable {X:Cx} {per:Int}
theorem QaM {J:List Tup} {a:Nat}:∀ {c b0:Nat} {H:LL},X.hdw per J a c b0=some H->∀ b,b0<=b->b<b0+c->∃ W,X.WV per J a b=some W/\∀ w∈W,Q5E a b w∈H
 |0,b0,H,e,b,d,h2=>by omega
 |c+1,b0,H,e,b,d,h2=>by
  rw [hdw] at e;cases ew:X.WV per J a b0 with
  |none=>rw [ew] at e;cases e
  |some W=>
   rw [ew] at e;cases eh:X.hdw per J a c (b0+1) with
   |none=>simp only [eh] at e;cases e
   |some H'=>
    simp only [eh] at e;cases e;by_cases hb:b=b0
    ·subst hb;exact ⟨W,ew,fun w hw=>Qr4 _ (Qrd.2 ⟨w,hw,rfl⟩)⟩
    ·obtain ⟨W',f,g⟩:=QaM eh b QoW QoW;exact ⟨W',f,fun w hw=>QqW _ (g w hw)⟩
theorem Q6B {J:List Tup}:∀ {c a0:Nat} {H:LL},X.hdws per J c a0=some H->∀ a b,a0<=a->a<b->b<a0+c->∃ W,X.WV per J a b=some W/\∀ w∈W,Q5E a b w∈H
 |0,a0,H,e,a,b,g,h2,h=>by omega
 |c+1,a0,H,e,a,b,g,h2,h=>by
  rw [hdws] at e;cases ew:X.hdw per J a0 c (a0+1) with
  |none=>rw [ew] at e;cases e
  |some W=>
   rw [ew] at e;cases eh:X.hdws per J c (a0+1) with
   |none=>simp only [eh] at e;cases e
   |some H'=>
    simp only [eh] at e;cases e;by_cases ha:a=a0
    ·subst ha;obtain ⟨W',d,f⟩:=QaM ew b QoW QoW;exact ⟨W',d,fun w hw=>Qr4 _ (f w hw)⟩
    ·obtain ⟨W',d,f⟩:=Q6B eh a b QoW h2 QoW;exact ⟨W',d,fun w hw=>QqW _ (f w hw)⟩
variable (h:X.OK)
include h
theorem Qj6 (p0:2<=per) (p1:per<=300) {J:List Tup} {a b:Nat} (ha:a<X.N) (hb:b<X.N) {W:List Sp2} (e:X.WV per J a b=some W) {y:Int} (g:0<=y) (i:y<per) (hf:FB per (X.fil J a b) (X.fil J b a) y):∃ w∈W,w.2<w.1+(y-w.1) % per:=by
 have oa:=Q7h h (J:=J) (b:=b) ha;have ob:=Q7h h (J:=J) (b:=a) hb;obtain ⟨F,G,g1,o,j,k,l⟩:=Q6U p0 (show per<=7200 by omega) oa.1 ob.1 oa.2 ob.2;have hr:=g1.rng;have eW:W=G.map (CJ per):=by
  unfold WV at e;rw [l] at e;by_cases hc:cnt F=per
  ·rw [Qre hc] at e;cases e
  ·rw [Qrf hc] at e;dsimp only at e;rw [Qre rfl,List.map_map] at e;have:=Option.some.inj e;rw [<- this];refine (List.map_congr_left fun q _=>?_).trans (List.map_id _);rfl
 have ac:∀ {z c:Int},0<=z+c->z+c<per->c=per\/c=0->z % per=z+c:=fun {z c} m h2 n=>by
  rcases n with rfl | rfl
  ·rw [<- Int.add_emod_right,Qrg m h2]
  ·rw [Qrg QoW QoW];omega
 obtain ⟨q,hq,d,f⟩:=(j y g i).2 hf;have ao:=hr q hq;rcases k with ⟨rfl,_⟩ | ⟨b',M,c,rfl,rfl⟩
 ·refine ⟨CJ per q,by rw [eW];exact Qrd.2 ⟨q,hq,rfl⟩,?_⟩;unfold CJ;dsimp only;rw [ac (z:=y-q.2) (c:=per) QoW QoW (.inl rfl)];omega
 ·have hc:=hr (c,per) (.tail _ (QqW _ (.head _)));have ak:=hr (0,b') (.head _);dsimp only at hc ak;have two:q∈M\/(q=(0,b')\/q=(c,per)):=by
   rcases List.mem_cons.1 hq with h | h
   ·exact .inr (.inl h)
   ·rcases QqO.1 h with h | h
    ·exact .inl h
    ·exact .inr (.inr (QqY.1 h))
  rcases two with hm | hm
  ·refine ⟨CJ per q,by rw [eW];exact Qrd.2 ⟨q,Qr4 _ hm,rfl⟩,?_⟩;unfold CJ;dsimp only;rw [ac (z:=y-q.2) (c:=per) QoW QoW (.inl rfl)];omega
  ·refine ⟨CJ per (c,per+b'),by rw [eW];exact Qrd.2 ⟨_,QqW _ (.head _),rfl⟩,?_⟩;unfold CJ;dsimp only;have e1:(y-(per+b')) % per=(y-b') % per:=by rw [show y-(per+b')=y-b'-per by omega,Int.sub_emod_right]
   rw [e1];rcases hm with rfl | rfl
   ·dsimp only at d f;rw [ac (z:=y-b') (c:=per) QoW QoW (.inl rfl)];omega
   ·dsimp only at d f;by_cases hy:y<b'
    ·rw [ac (z:=y-b') (c:=per) QoW QoW (.inl rfl)];omega
    ·rw [ac (z:=y-b') (c:=0) QoW QoW (.inr rfl)];omega
def dep (tl:List Int) (a:Nat):Int:=tat tl ((2*a:Nat):Int)
omit h in
theorem Qbo {x:Int} (hp:0<per) (hx:0<=x):x % per<=x:=by
 have:=Qrk x per;have:=Int.mul_nonneg (show 0<=per by omega) (Int.ediv_nonneg hx (show 0<=per by omega));omega
theorem Qkm (p0:2<=per) (p1:per<=300) {J:List Tup} {H A:LL} {tl:List Int} (eh:X.hdws per J X.N 0=some H) (hA:∀ r∈H,r∈A) (fs:Fs per tl A) {a b:Nat} (ak:a<b) (hb:b<X.N) {p q:Occ} (hp:p∈X.fil J a b) (hq:q∈X.fil J b a) (e:p.1=q.1) {d c:Int} (hd:d=dep tl b-dep tl a+c*per) (f:p.2.1-q.2.2<d) (h2:d<p.2.2-q.2.1):False:=by
 obtain ⟨W,e1,e2⟩:=Q6B eh a b (Qrs _) ak QoW;have g:=QqT (dep tl b-dep tl a) (show per≠0 by omega);have i:=QqX (dep tl b-dep tl a) (show 0<per by omega);have hf:FB per (X.fil J a b) (X.fil J b a) ((dep tl b-dep tl a) % per):=by
  obtain ⟨x,pa,pb⟩:=p;obtain ⟨x',qa,qb⟩:=q;dsimp only at e f h2;subst e;refine ⟨x,pa,pb,qa,qb,hp,hq,?_⟩;have j:((dep tl b-dep tl a) % per-(pa-qb+1)) % per=(d-(pa-qb+1)) % per:=by
   rw [Qrq,Int.emod_emod,<- Qrq,hd,show dep tl b-dep tl a+c*per-(pa-qb+1)=dep tl b-dep tl a-(pa-qb+1)+c*per by omega,Int.add_mul_emod_self_right]
  rw [j];have:=Qbo (per:=per) (x:=d-(pa-qb+1)) QoW QoW;omega
 obtain ⟨w,hw,hv⟩:=Qj6 h p0 p1 (show a<X.N by omega) hb e1 g i hf;have hr:=fs _ (hA _ (e2 w hw));unfold Q5E Qhl V5 dur at hr;dsimp only at hr;rw [Qrq,Int.emod_emod,<- Qrq] at hv;unfold dep at hv;omega
end Cx
theorem Q8V {o:oP Nat} {b:Nat} (h:eqO o b=true):o=some b:=by
 cases o with
 |none=>cases h
 |some a=>rw [Qrl h]
structure RsT (T:List Tup) (rs:List (List Nat×Bool)):Prop where
 uq:∀ {j j' x x':Nat} {r r':List Nat×Bool} {i:Nat},rs[j]? = some r->rs[j']? = some r'->r.1[x]? = some i->r'.1[x']? = some i->j=j'/\x=x'
 tu:∀ t∈T,∃ (j:Nat) (r:List Nat×Bool) (x:Nat),rs[j]? = some r/\r.1[x]? = some t.1/\nx r x=some t.2.1
 sx:∀ {r:List Nat×Bool},r∈rs->∀ {x i b:Nat},r.1[x]? = some i->nx r x=some b->∃ t∈T,t.1=i/\t.2.1=b
theorem Qbh {T:List Tup} {rs:List (List Nat×Bool)} (h:QbJ T rs=true):RsT T rs:=by
 unfold QbJ at h;rw [Qr0,Qr0] at h;obtain ⟨c,h2,d⟩:=h;have hp:∀ {j x:Nat} {r:List Nat×Bool} {i:Nat},rs[j]? = some r->r.1[x]? = some i->QiP rs i=(j,x):=fun {j x r i} e1 e2=>by
  have a:=QqV.1 c j (List.mem_range.2 (QqM.1 e1).1);rw [QqJ,e1,Option.getD_some] at a;have b:=QqV.1 a x (List.mem_range.2 (QqM.1 e2).1);rw [QqJ,e2,Option.getD_some,Qr0] at b;exact Prod.ext (Qrl b.1) (Qrl b.2)
 refine ⟨fun e1 e2 e f=>?_,fun t ht=>?_,fun {r} hr {x i b} e1 e2=>?_⟩
 ·have:=(hp e1 e).symm.trans (hp e2 f);exact ⟨congrArg Prod.fst this,congrArg Prod.snd this⟩
 ·obtain ⟨r,hr,a⟩:=Qrb.1 (QqV.1 h2 t ht);obtain ⟨x,hx,b⟩:=Qrb.1 a;rw [Qr0] at b;obtain ⟨j,hj⟩:=List.getElem?_of_mem hr;exact ⟨j,r,x,hj,Q8V b.1,Q8V b.2⟩
 ·have a:=QqV.1 (QqV.1 d r hr) x (List.mem_range.2 (QqM.1 e1).1);rw [e2] at a;obtain ⟨t,ht,b⟩:=Qrb.1 a;rw [Qr0,e1] at b;exact ⟨t,ht,Option.some.inj (Q8V b.1).symm,Qrl b.2⟩
theorem Qdm {r:List Nat×Bool} {x b:Nat} (h:nx r x=some b):r.1[x+1]? = some b\/(r.2=true/\r.1.length<=x+1/\r.1[0]? = some b):=by
 unfold nx at h;cases hc:Nat.blt (x+1) r.1.length with
 |true=>rw [hc,QqH] at h;exact .inl h
 |false=>
  rw [hc,QqF] at h;cases h2:r.2 with
  |false=>rw [h2] at h;cases h
  |true=>
   rw [h2,QqH] at h;refine .inr ⟨rfl,?_,h⟩;by_cases hl:x+1<r.1.length
   ·rw [show Nat.blt (x+1) r.1.length=true from Nat.ble_eq_true_of_le hl] at hc;cases hc
   ·omega
theorem Qfk {r:List Nat×Bool} {x b:Nat} (h:r.1[x+1]? = some b):nx r x=some b:=by
 unfold nx;rw [show Nat.blt (x+1) r.1.length=true from Nat.ble_eq_true_of_le (QqM.1 h).1,QqH,h]
theorem Qcw {r:List Nat×Bool} {x b:Nat} (hl:r.1.length<=x+1) (hc:r.2=true) (h:r.1[0]? = some b):nx r x=some b:=by
 unfold nx;rw [show Nat.blt (x+1) r.1.length=false from Bool.eq_false_iff.2 fun e=>by have:=Qrm e;omega,QqF,hc,QqH,h]
namespace Cx
variable {X:Cx} {per:Int} {Ch Sy A:LL} {tl:List Int}
def rideD (X:Cx) (per:Int) (tl:List Int) (i:Nat) (d:Int):Nat->Int
 |0=>d
 |k+1=>X.endV per tl i k (rideD X per tl i d k)
def lineD (X:Cx) (per:Int) (tl:List Int) (ls:List Nat) (d:Int):Nat->Int
 |0=>d
 |x+1=>X.rideD per tl (ls.getD x 0) (lineD X per tl ls d x) (X.nr (ls.getD x 0))
theorem Af {mv c:Bool} {idx train:Nat} {laps:Int} {i:Nat} {s:Int×List U}:∀ {k:Nat},(X.rideM per tl mv c idx train laps i s k).1=X.rideD per tl i s.1 k
 |0=>rfl
 |k+1=>by
  rw [rideM,rideD,<- Af (mv:=mv) (c:=c) (idx:=idx) (train:=train) (laps:=laps)];rfl
theorem Q2Q {mv c:Bool} {train:Nat} {laps:Int} {ls:List Nat} {s:Int×List U}:∀ {x:Nat},(X.lineM per tl mv c train laps ls s x).1=X.lineD per tl ls s.1 x
 |0=>rfl
 |x+1=>by
  rw [lineM,lineD,Af,Q2Q]
def SrcR (X:Cx) (i k:Nat) (d:Int) (train:Nat) (laps:Int) (u:U):Prop:=u.2.1=train/\u.2.2.2.2=laps/\∃ p∈X.occ i k,p.1=(u.1:Int)/\d+p.2.1<=u.2.2.1/\u.2.2.1+u.2.2.2.1<=d+p.2.2
def dpt (X:Cx) (per:Int) (tl:List Int) (r:List Nat×Bool) (x i k:Nat):Int:=X.rideD per tl i (X.lineD per tl r.1 (dep tl (base X.nr (r.1.getD 0 0))) x) k
def Src (X:Cx) (per:Int) (tl:List Int) (rs:List (List Nat×Bool)) (u:U):Prop:=∃ (j:Nat) (r:List Nat×Bool) (x i k:Nat),rs[j]? = some r/\r.1[x]? = some i/\k<X.nr i/\X.SrcR i k (X.dpt per tl r x i k) j (X.lapsV per tl r.1 r.2) u
variable (g:X.Gd per Ch Sy A tl) (fs:Fs per tl A)
include g fs
theorem Gd.run_f {i k:Nat} (hi:i<X.Ls.length) (hk:k<X.nr i):X.run i k<=X.runV per tl i k/\X.runV per tl i k<=X.run i k+X.ex i k:=by
 have p0:=g.p0;have a:=fs _ (g.run_mem hi hk);refine ⟨?_,a⟩;unfold runV aR V5 dur;dsimp only;have:=QqT (Vx.tat tl ((2*(base X.nr i+k)+1:Nat):Int)-Vx.tat tl ((2*(base X.nr i+k):Nat):Int)-X.run i k) (show per≠0 by omega);omega
theorem Gd.dw_f {i k:Nat} (hi:i<X.Ls.length) (hk:k<X.nr i-1):X.gapV per tl i k=(V5 tl per (X.aD i k),true)/\X.mn i k<=V5 tl per (X.aD i k)/\V5 tl per (X.aD i k)<=X.mx i k:=by
 have p0:=g.p0;have a:=fs _ (QqD ((g.runAt hi (show k<X.nr i by omega)).2 hk));refine ⟨by unfold gapV;rw [Qre hk],?_,a⟩;unfold aD V5 dur;dsimp only;have:=QqT (Vx.tat tl ((2*(base X.nr i+k+1):Nat):Int)-Vx.tat tl ((2*(base X.nr i+k)+1:Nat):Int)-X.mn i k) (show per≠0 by omega);omega
theorem Gd.tu_f {t:Tup} (ht:t∈X.T):t.2.2.1<=V5 tl per (X.tuE t)/\V5 tl per (X.tuE t)<=t.2.2.2:=by
 have p0:=g.p0;have a:=fs _ (g.turn_mem ht);refine ⟨?_,a⟩;unfold tuE V5 dur;dsimp only;have:=QqT (Vx.tat tl ((2*(base X.nr t.2.1+0):Nat):Int)-Vx.tat tl ((2*(base X.nr t.1+(X.nr t.1-1))+1:Nat):Int)-t.2.2.1) (show per≠0 by omega);omega
theorem Gd.end_f {i k:Nat} (hi:i<X.Ls.length) (hk:k<X.nr i) {d:Int}:X.endV per tl i k d<=d+X.run i k+X.af i k:=by
 have hr:=g.run_f fs hi hk;unfold endV af;by_cases a:k<X.nr i-1
 ·have hd:=g.dw_f fs hi a;rw [hd.1,Qre rfl,Qrf QoW];dsimp only;omega
 ·rw [Qre (show k=X.nr i-1 by omega)];unfold gapV rest;rw [Qrf a];cases e:X.tn i with
  |none=>dsimp only;rw [Qrf Bool.false_ne_true];omega
  |some t=>
   have ht:=g.tu_f fs (Dt e).1;dsimp only;rw [Qre rfl];split <;> omega
theorem Gd.stM_src {mv c:Bool} {idx train:Nat} {laps:Int} {i k:Nat} (hi:i<X.Ls.length) (hk:k<X.nr i) {s:Int×List U}:∀ u∈(X.stM per tl mv c idx train laps i k s).2,u∈s.2\/X.SrcR i k s.1 train laps u:=by
 refine Q9Y (fun u hu=>.inl hu) (fun hc=>.inr ⟨rfl,rfl,?_⟩) (fun _ q hq=>.inr ⟨rfl,rfl,?_⟩) fun hl=>.inr ⟨rfl,rfl,?_⟩
 ·obtain ⟨_,_,rfl⟩:=hc;obtain ⟨p,hp,e,a,h2⟩:=Q9q g.ok hi hk;exact ⟨p,hp,e,by dsimp only;omega,by dsimp only;omega⟩
 ·obtain ⟨p,hp,e,a,h2⟩:=Qdx g.ok hi hk q hq;have:=(Q9J g.ok hi hk).1 q hq;exact ⟨p,hp,by dsimp only;omega,by dsimp only;omega,by dsimp only;omega⟩
 ·obtain ⟨p,hp,e,a,h2⟩:=Qca g.ok hi hk;have:=g.end_f fs hi hk (d:=s.1);exact ⟨p,hp,e,by dsimp only;omega,by dsimp only;omega⟩
theorem Gd.rideM_src {mv c:Bool} {idx train:Nat} {laps:Int} {i:Nat} (hi:i<X.Ls.length) {s:Int×List U}:∀ {k:Nat},k<=X.nr i->∀ u∈(X.rideM per tl mv c idx train laps i s k).2,u∈s.2\/∃ k',k'<k/\X.SrcR i k' (X.rideD per tl i s.1 k') train laps u
 |0,_,u,hu=>.inl hu
 |k+1,hk,u,hu=>by
  rw [rideM] at hu;rcases g.stM_src fs hi QoW u hu with hu | hu
  ·rcases Gd.rideM_src hi (k:=k) QoW u hu with h | ⟨k',a,h2⟩
   ·exact .inl h
   ·exact .inr ⟨k',QoW,h2⟩
  ·rw [Af] at hu;exact .inr ⟨k,QoW,hu⟩
theorem Gd.lineM_src {mv c:Bool} {train:Nat} {laps:Int} {ls:List Nat} (ac:∀ i∈ls,i<X.Ls.length) {s:Int×List U}:∀ {x:Nat},x<=ls.length->∀ u∈(X.lineM per tl mv c train laps ls s x).2,u∈s.2\/∃ (x' i k:Nat),ls[x']? = some i/\k<X.nr i/\X.SrcR i k (X.rideD per tl i (X.lineD per tl ls s.1 x') k) train laps u
 |0,_,u,hu=>.inl hu
 |x+1,hx,u,hu=>by
  have e:=QqI (l:=ls) (i:=x) QoW;have hd:ls.getD x 0=ls[x]:=by rw [QqJ,e];rfl
  rw [lineM,hd] at hu;rcases g.rideM_src fs (ac _ (QqD e)) (QqP _) u hu with hu | ⟨k,a,h2⟩
  ·exact Gd.lineM_src ac (x:=x) QoW u hu
  ·rw [Q2Q] at h2;exact .inr ⟨x,_,k,e,a,h2⟩
theorem Gd.usesM_src {mv:Bool} {rs:List (List Nat×Bool)} (hr:X.RsOK rs):∀ {j:Nat},j<=rs.length->∀ u∈X.usesM per tl mv rs j,X.Src per tl rs u
 |0,_,u,hu=>nomatch hu
 |j+1,hj,u,hu=>by
  have e:=QqI (l:=rs) (i:=j) QoW;have hd:rs.getD j ([],false)=rs[j]:=by rw [QqJ,e];rfl
  rw [usesM,hd] at hu;unfold trainM at hu;rcases g.lineM_src fs (hr.ls _ (QqD e)).2 (QqP _) u hu with hu | ⟨x,i,k,a,h2,b⟩
  ·exact Gd.usesM_src hr QoW u hu
  ·exact ⟨j,_,x,i,k,e,a,h2,b⟩
end Cx
def Cg (per x y:Int):Prop:=∃ c:Int,x=y+c*per
theorem Q7t {tl:List Int} {per f t mn:Int}:Cg per (dur tl per f t mn) (tat tl t-tat tl f):=by
 refine ⟨-((tat tl t-tat tl f-mn) / per),?_⟩;unfold dur;rw [Int.emod_def,Int.neg_mul,Int.mul_comm];omega
theorem QcM {z per:Int} (a : -per<z*per) (h2:z*per<per) (b:0<per):z=0:=by
 rcases Int.lt_trichotomy z 0 with h | h | h
 ·have:=Int.mul_le_mul_of_nonneg_right (show z <= -1 by omega) (show 0<=per by omega);omega
 ·exact h
 ·have:=Int.mul_le_mul_of_nonneg_right (show 1<=z by omega) (show 0<=per by omega);omega
theorem Q1N {l:Int} {O:List Occ} (h:OL l O) {p q:Occ} (hp:p∈O) (hq:q∈O) (e:p.1=q.1):p=q:=by
 have a:=(Q60 h hp).2;have b:=(Q60 h hq).2;rw [<- a,<- b,e]
namespace Cx
variable {X:Cx} {per:Int} {Ch Sy A:LL} {tl:List Int}
theorem EC {i k:Nat} (hi:i<X.Ls.length) (hk:k<X.nr i):X.occN (base X.nr i+k)=X.occ i k:=by
 unfold occN;rw [QqJ,show (X.occs X.L)[base X.nr i+k]? = some (X.occ i k) from Ey hk hi];rfl
variable (g:X.Gd per Ch Sy A tl) (fs:Fs per tl A) {rs:List (List Nat×Bool)} (hr:X.RsOK rs) (ht:RsT X.T rs)
include g fs
theorem Gd.ride_cg {i:Nat} (hi:i<X.Ls.length) {d:Int} (hd:Cg per d (dep tl (base X.nr i))):∀ {k:Nat},k<X.nr i->Cg per (X.rideD per tl i d k) (dep tl (base X.nr i+k))
 |0,_=>hd
 |k+1,hk=>by
  obtain ⟨c1,a⟩:=Gd.ride_cg hi hd (k:=k) QoW;obtain ⟨b,h2⟩:=Q7t (tl:=tl) (per:=per) (f:=((2*(base X.nr i+k):Nat):Int)) (t:=((2*(base X.nr i+k)+1:Nat):Int)) (mn:=X.run i k);obtain ⟨c,e⟩:=Q7t (tl:=tl) (per:=per) (f:=((2*(base X.nr i+k)+1:Nat):Int)) (t:=((2*(base X.nr i+k+1):Nat):Int)) (mn:=X.mn i k);have hg:=(g.dw_f fs hi (show k<X.nr i-1 by omega)).1;have e2:X.runV per tl i k=dur tl per ((2*(base X.nr i+k):Nat):Int) ((2*(base X.nr i+k)+1:Nat):Int) (X.run i k):=rfl;have h:V5 tl per (X.aD i k)=dur tl per ((2*(base X.nr i+k)+1:Nat):Int) ((2*(base X.nr i+k+1):Nat):Int) (X.mn i k):=rfl;rw [<- e2] at h2;rw [<- h] at e;refine ⟨c1+b+c,?_⟩;rw [rideD,endV,hg,Qre rfl,Int.add_mul,Int.add_mul,<- Nat.add_assoc];unfold dep at a ⊢;dsimp only;omega
theorem Gd.turn_end {t:Tup} (hT:t∈X.T) {d:Int}:X.endV per tl t.1 (X.nr t.1-1) d=d+X.runV per tl t.1 (X.nr t.1-1)+V5 tl per (X.tuE t):=by
 unfold endV gapV;rw [Qrf (show ¬ X.nr t.1-1<X.nr t.1-1 by omega),Qeh g.ok hT];rfl
theorem Gd.turn_cg {t:Tup} (hT:t∈X.T) {d:Int} (hd:Cg per d (dep tl (base X.nr t.1+(X.nr t.1-1)))):Cg per (X.endV per tl t.1 (X.nr t.1-1) d) (dep tl (base X.nr t.2.1)):=by
 obtain ⟨c1,b⟩:=hd;obtain ⟨c,h2⟩:=Q7t (tl:=tl) (per:=per) (f:=((2*(base X.nr t.1+(X.nr t.1-1)):Nat):Int)) (t:=((2*(base X.nr t.1+(X.nr t.1-1))+1:Nat):Int)) (mn:=X.run t.1 (X.nr t.1-1));obtain ⟨e,a⟩:=Q7t (tl:=tl) (per:=per) (f:=((2*(base X.nr t.1+(X.nr t.1-1))+1:Nat):Int)) (t:=((2*(base X.nr t.2.1+0):Nat):Int)) (mn:=t.2.2.1);have e2:X.runV per tl t.1 (X.nr t.1-1)=dur tl per ((2*(base X.nr t.1+(X.nr t.1-1)):Nat):Int) ((2*(base X.nr t.1+(X.nr t.1-1))+1:Nat):Int) (X.run t.1 (X.nr t.1-1)):=rfl;have h:V5 tl per (X.tuE t)=dur tl per ((2*(base X.nr t.1+(X.nr t.1-1))+1:Nat):Int) ((2*(base X.nr t.2.1+0):Nat):Int) t.2.2.1:=rfl;rw [<- e2] at h2;rw [<- h] at a;refine ⟨c1+c+e,?_⟩;rw [g.turn_end fs hT,Int.add_mul,Int.add_mul];unfold dep at b ⊢;rw [Nat.add_zero] at a;omega
include hr ht
theorem Gd.lineD_succ {j:Nat} {r:List Nat×Bool} (hj:rs[j]? = some r) {x i:Nat} (hx:r.1[x]? = some i):X.lineD per tl r.1 (dep tl (base X.nr (r.1.getD 0 0))) (x+1)=X.endV per tl i (X.nr i-1) (X.dpt per tl r x i (X.nr i-1)):=by
 have hi:=(hr.ls r (QqD hj)).2 i (QqD hx);have hn:=(K3 g.ok hi).2.1;rw [lineD,QqJ (l:=r.1) (i:=x),hx,Option.getD_some];have:X.nr i=(X.nr i-1)+1:=QoW
 conv=>lhs;rw [this]
 rfl
theorem Gd.line_cg {j:Nat} {r:List Nat×Bool} (hj:rs[j]? = some r):∀ {x i:Nat},r.1[x]? = some i->Cg per (X.lineD per tl r.1 (dep tl (base X.nr (r.1.getD 0 0))) x) (dep tl (base X.nr i))
 |0,i,hx=>⟨0,by rw [lineD,QqJ,hx,Option.getD_some];omega⟩
 |x+1,i,hx=>by
  have hl:=(QqM.1 hx).1;have e:=QqI (l:=r.1) (i:=x) QoW;have hi:=(hr.ls r (QqD hj)).2 _ (QqD e);have hn:=(K3 g.ok hi).2.1;obtain ⟨t,hT,e1,e2⟩:=ht.sx (QqD hj) e (Qfk hx);have ih:=Gd.line_cg hj e;rw [g.lineD_succ fs hr ht hj e,<- e2,<- e1];rw [<- e1] at ih hi hn;exact g.turn_cg fs hT (g.ride_cg fs hi ih QoW)
theorem Gd.dpt_cg {j:Nat} {r:List Nat×Bool} (hj:rs[j]? = some r) {x i k:Nat} (hx:r.1[x]? = some i) (hk:k<X.nr i):Cg per (X.dpt per tl r x i k) (dep tl (base X.nr i+k)):=
 g.ride_cg fs ((hr.ls r (QqD hj)).2 _ (QqD hx)) (g.line_cg fs hr ht hj hx) hk
theorem Gd.lap {j:Nat} {r:List Nat×Bool} (hj:rs[j]? = some r) (hc:r.2=true):X.lineD per tl r.1 (dep tl (base X.nr (r.1.getD 0 0))) r.1.length=dep tl (base X.nr (r.1.getD 0 0))+X.lapsV per tl r.1 r.2*per:=by
 have p0:=g.p0;have hm:=QqD hj;have ak:=hr.ls r hm;have a:=QqI (l:=r.1) (i:=0) QoW;have f:r.1.getD 0 0=r.1[0]:=by rw [QqJ,a];rfl
 have aq:∀ {x:Nat},x<r.1.length->∃ b,nx r x=some b:=fun {x} hx=>by
  by_cases h:x+1<r.1.length
  ·exact ⟨_,Qfk (QqI h)⟩
  ·exact ⟨_,Qcw QoW hc a⟩
 have ac:∀ {x:Nat},x<=r.1.length->X.lineD per tl r.1 (dep tl (base X.nr (r.1.getD 0 0))) x=dep tl (base X.nr (r.1.getD 0 0))+X.sumL per tl (r.1.take x):=by
  intro x;induction x with
  |zero=>intro _;simp [lineD,sumL]
  |succ x ih=>
   intro hx;have e:=QqI (l:=r.1) (i:=x) QoW;have hi:=ak.2 _ (QqD e);obtain ⟨b,hb⟩:=aq (x:=x) QoW;obtain ⟨t,hT,e1,e2⟩:=ht.sx hm e hb;have hR:∀ {k:Nat} {d:Int},k<=X.nr r.1[x]->X.rideD per tl r.1[x] d k=d+X.sumR per tl r.1[x] k:=by
    intro k d;induction k with
    |zero=>intro _;simp [rideD,sumR]
    |succ k ar=>
     intro hk;have hg:(X.gapV per tl r.1[x] k).2=true:=by
      unfold gapV;split
      ·rfl
      ·rw [<- e1,Qeh g.ok hT]
     rw [rideD,endV,Qre hg,ar QoW,sumR];omega
   rw [lineD,Q3T g e,QqJ (l:=r.1) (i:=x),e,Option.getD_some,hR (QqP _),ih QoW];omega
 have hl:=ac (QqP r.1.length);rw [Qr1] at hl;have e:=QqI (l:=r.1) (i:=r.1.length-1) QoW;have hi:=ak.2 _ (QqD e);have hn:=(K3 g.ok hi).2.1;obtain ⟨t,hT,e1,e2⟩:=ht.sx hm e (Qcw QoW hc a);have aj:=g.lineD_succ fs hr ht hj e;rw [show r.1.length-1+1=r.1.length by omega,<- e1] at aj;rw [<- e1] at e hn;obtain ⟨c,ao⟩:=g.turn_cg fs hT (g.dpt_cg fs hr ht hj e (show X.nr t.1-1<X.nr t.1 by omega));rw [<- aj,e2,<- f,hl] at ao;have hs:X.sumL per tl r.1=c*per:=QoW
 rw [hl];unfold lapsV;rw [hc,QqH,hs,Int.mul_tdiv_cancel _ QoW]
theorem Gd.join_rel {t:Tup} (hT:t∈X.jns) {j:Nat} {r:List Nat×Bool} (hj:rs[j]? = some r) {x i k:Nat} (hx:r.1[x]? = some i) (hk:k<X.nr i) (e:t.1=base X.nr i+k):∃ x' i' k',r.1[x']? = some i'/\k'<X.nr i'/\t.2.1=base X.nr i'+k'/\∃ δ m:Int,t.2.2.1<=δ/\δ<=t.2.2.2/\X.dpt per tl r x i k+δ=X.dpt per tl r x' i' k'+m*X.lapsV per tl r.1 r.2*per:=by
 have hm:=QqD hj;have hi:=(hr.ls r hm).2 _ (QqD hx);rcases Q5i.1 hT with ⟨d,k0,n,h2,rfl⟩ | ⟨u,hu,rfl⟩
 ·obtain ⟨rfl,rfl⟩:=Fy (nr:=X.nr) (show k0<X.nr d by omega) hk e;have a:=g.run_f fs hi hk;have b:=g.dw_f fs hi h2;refine ⟨x,d,k0+1,hx,QoW,rfl,X.runV per tl d k0+V5 tl per (X.aD d k0),0,by unfold j1;dsimp only;omega,by unfold j1;dsimp only;omega,?_⟩;unfold dpt;rw [rideD,endV,b.1,Qre rfl];dsimp only;omega
 ·have ac:=g.ok.tr u hu;have hn:=(K3 g.ok ac.1).2.1;have an:=(K3 g.ok ac.2.1).2.1;obtain ⟨rfl,rfl⟩:=Fy (nr:=X.nr) (show X.nr u.1-1<X.nr u.1 by omega) hk e;obtain ⟨j1,o,p,g1,h,c⟩:=ht.tu u hu;obtain ⟨rfl,rfl⟩:=ht.uq hj g1 hx h;rw [hj] at g1;cases g1;have a:=g.run_f fs hi hk;have b:=g.tu_f fs hu;have hs:=g.lineD_succ fs hr ht hj hx;rw [g.turn_end fs hu] at hs;rcases Qdm c with c | ⟨l,q,c⟩
  ·refine ⟨x+1,u.2.1,0,c,QoW,rfl,X.runV per tl u.1 (X.nr u.1-1)+V5 tl per (X.tuE u),0,by unfold jT;dsimp only;omega,by unfold jT;dsimp only;omega,?_⟩;have f:X.dpt per tl r (x+1) u.2.1 0=X.lineD per tl r.1 (dep tl (base X.nr (r.1.getD 0 0))) (x+1):=rfl;rw [f,hs];omega
  ·have hl:=(QqM.1 hx).1;refine ⟨0,u.2.1,0,c,QoW,rfl,X.runV per tl u.1 (X.nr u.1-1)+V5 tl per (X.tuE u),1,by unfold jT;dsimp only;omega,by unfold jT;dsimp only;omega,?_⟩;have f:X.dpt per tl r 0 u.2.1 0=dep tl (base X.nr (r.1.getD 0 0)):=rfl;have aj:=g.lap fs hr ht hj l;rw [show r.1.length=x+1 by omega,hs] at aj;rw [f,Int.one_mul];omega
theorem Gd.tied {t:Tup} (hT:t∈X.jns) (ha:X.aloneJ per X.jns=true) {j:Nat} {r:List Nat×Bool} (hj:rs[j]? = some r) {x i k:Nat} (hx:r.1[x]? = some i) (hk:k<X.nr i) (e:t.1=base X.nr i+k) {j':Nat} {r':List Nat×Bool} (aj:rs[j']? = some r') {x' i' k':Nat} (ar:r'.1[x']? = some i') (ac:k'<X.nr i') (e':t.2.1=base X.nr i'+k') {p q:Occ} (hp:p∈X.occ i k) (hq:q∈X.occ i' k') (ay:p.1=q.1) (ax:Q12 t.2.2.1 (X.occN t.1) (X.occN t.2.1) p.1=true) {z:Int} (d:X.dpt per tl r x i k+p.2.1<X.dpt per tl r' x' i' k'+z*per+q.2.2) (h2:X.dpt per tl r' x' i' k'+z*per+q.2.1<X.dpt per tl r x i k+p.2.2):j=j'/\X.lapsV per tl r.1 r.2 ∣ z:=by
 have p0:=g.p0;have hi:=(hr.ls r (QqD hj)).2 _ (QqD hx);have an:=(hr.ls r' (QqD aj)).2 _ (QqD ar);obtain ⟨f,h,l,a,b,c,δ,m,n,s,u⟩:=g.join_rel fs hr ht hT hj hx hk e;obtain ⟨rfl,rfl⟩:=Fy (nr:=X.nr) ac b (e'.symm.trans c);obtain ⟨rfl,rfl⟩:=ht.uq hj aj a ar;rw [hj] at aj;cases aj;have oi:=occ_ok g.ok hi hk;have a2:=occ_ok g.ok an ac;rw [e,e',EC hi hk,EC an ac] at ax;obtain ⟨y,hy,hb⟩:=Qrb.1 ax;obtain ⟨w,hw,hb⟩:=Qrb.1 hb;cases hc:tie t.2.2.1 y w with
 |false=>rw [hc] at hb;cases hb
 |true=>
  rw [hc,QqH,beq_iff_eq] at hb;obtain rfl:=Q1N oi.1 hy hp hb;have az:y.1=w.1:=by
   unfold tie at hc;cases aw:y.1 == w.1 with
   |false=>rw [aw] at hc;cases hc
   |true=>exact eq_of_beq aw
  obtain rfl:=Q1N a2.1 hw hq (az.symm.trans ay);unfold aloneJ at ha;cases ak:(X.occs X.L).all (fun o=>o.all (RU per)) with
  |false=>rw [ak] at ha;cases ha
  |true=>
   rw [ak,QqH] at ha;have hb:=QqV.1 ha t hT;rw [Qrt,e,e',EC hi hk,EC an ac] at hb;have hh:B2 per t.2.2.1 t.2.2.2 y w=false:=by
    cases hx:B2 per t.2.2.1 t.2.2.2 y w with
    |false=>rfl
    |true=>
     have:Q8o per t.2.2.1 t.2.2.2 (X.occ i k) (X.occ i' k')=true:=Qrb.2 ⟨y,hy,Qrb.2 ⟨w,hw,by rw [hc,QqH,hx]⟩⟩;rw [this] at hb;cases hb
   unfold B2 at hh;have hh:=of_decide_eq_false hh;refine ⟨rfl,m,?_⟩;have hz:z-m*X.lapsV per tl r.1 r.2=0:=by
    refine QcM (per:=per) ?_ ?_ QoW
    ·rw [Int.sub_mul];split at hh <;> split at hh <;> omega
    ·rw [Int.sub_mul];split at hh <;> split at hh <;> omega
   rw [Int.mul_comm];omega
theorem Gd.noConA {H:LL} (eh:X.hdws per X.jns X.N 0=some H) (hA:∀ r∈H,r∈A) (ha:X.aloneJ per X.jns=true) {j:Nat} {r:List Nat×Bool} (hj:rs[j]? = some r) {x i k:Nat} (hx:r.1[x]? = some i) (hk:k<X.nr i) {j':Nat} {r':List Nat×Bool} (ac:rs[j']? = some r') {x' i' k':Nat} (aq:r'.1[x']? = some i') (an:k'<X.nr i') (a3:base X.nr i+k<=base X.nr i'+k') {p q:Occ} (hp:p∈X.occ i k) (hq:q∈X.occ i' k') (ak:p.1=q.1) {z:Int} (l:X.dpt per tl r x i k+p.2.1<X.dpt per tl r' x' i' k'+z*per+q.2.2) (h2:X.dpt per tl r' x' i' k'+z*per+q.2.1<X.dpt per tl r x i k+p.2.2):j=j'/\X.lapsV per tl r.1 r.2 ∣ z:=by
 have p0:=g.p0;have p1:=g.p1;have hi:=(hr.ls r (QqD hj)).2 _ (QqD hx);have ax:=(hr.ls r' (QqD ac)).2 _ (QqD aq);by_cases ay:base X.nr i+k=base X.nr i'+k'
 ·obtain ⟨rfl,rfl⟩:=Fy hk an ay;obtain ⟨rfl,rfl⟩:=ht.uq hj ac hx aq;rw [hj] at ac;cases ac;obtain rfl:=Q1N (occ_ok g.ok hi hk).1 hp hq ak;unfold aloneJ at ha;cases ar:(X.occs X.L).all (fun o=>o.all (RU per)) with
  |false=>rw [ar] at ha;cases ha
  |true=>
   have hm:X.occ i k∈X.occs X.L:=QqD (Ey (nr:=X.nr) (f:=X.occ) hk hi);have hf:=QqV.1 (QqV.1 ar _ hm) _ hp;unfold RU at hf;rw [Qrt] at hf;have hf:=of_decide_eq_false hf;have:=QcM (z:=z) (per:=per) QoW QoW QoW;exact ⟨rfl,by rw [this];exact Int.dvd_zero _⟩
 ·have hb:=Qei g.ok ax an;cases au:X.TRb X.jns (base X.nr i+k) (base X.nr i'+k') p.1 with
  |false=>
   obtain ⟨c1,n⟩:=g.dpt_cg fs hr ht hj hx hk;obtain ⟨m,s⟩:=g.dpt_cg fs hr ht ac aq an;refine absurd (Qkm g.ok p0 p1 eh hA fs (a:=base X.nr i+k) (b:=base X.nr i'+k') QoW hb (p:=p) (q:=q) ?_ ?_ ak (d:=X.dpt per tl r' x' i' k'+z*per-X.dpt per tl r x i k) (c:=m+z-c1) ?_ QoW QoW) (fun h=>h)
   ·unfold fil;rw [EC hi hk];exact Qri.2 ⟨hp,by rw [au];rfl⟩
   ·unfold fil;rw [EC ax an];exact Qri.2 ⟨hq,by rw [Q6j,<- ak,au];rfl⟩
   ·rw [Int.sub_mul,Int.add_mul];omega
  |true=>
   obtain ⟨t,hT,hb⟩:=Qrb.1 au;cases aj:jab (base X.nr i+k) (base X.nr i'+k') t with
   |false=>rw [aj] at hb;cases hb
   |true=>
    rw [aj,QqH] at hb;have hc:(t.1=base X.nr i+k/\t.2.1=base X.nr i'+k')\/(t.1=base X.nr i'+k'/\t.2.1=base X.nr i+k):=by
     unfold jab at aj;simp only [Bool.cond_true_left,Bool.cond_false_right,Bool.or_eq_true,Qr0,beq_iff_eq] at aj;omega
    rcases hc with ⟨e,e'⟩ | ⟨e,e'⟩
    ·exact g.tied fs hr ht hT ha hj hx hk e ac aq an e' hp hq ak hb l h2
    ·rw [ak] at hb;obtain ⟨rfl,h⟩:=g.tied fs hr ht hT ha ac aq an e hj hx hk e' hq hp ak.symm hb (z := -z) (by rw [Int.neg_mul];omega) (by rw [Int.neg_mul];omega);rw [hj] at ac;cases ac;exact ⟨rfl,Int.dvd_neg.1 h⟩
theorem Gd.noCon {H:LL} (eh:X.hdws per X.jns X.N 0=some H) (hA:∀ r∈H,r∈A) (ha:X.aloneJ per X.jns=true) {u v:U} (hu:X.Src per tl rs u) (hv:X.Src per tl rs v) (aq:u.1=v.1) {z:Int} (a:u.2.2.1<v.2.2.1+z*per+v.2.2.2.1) (h2:v.2.2.1+z*per<u.2.2.1+u.2.2.2.1):u.2.1=v.2.1/\u.2.2.2.2 ∣ z:=by
 obtain ⟨j,r,x,i,k,hj,hx,hk,a1,a2,p,hp,b,c,d⟩:=hu;obtain ⟨j',r',x',i',k',ac,aj,ak,b1,b2,q,hq,e,f,l⟩:=hv;rw [a1,a2,b1];by_cases an:base X.nr i+k<=base X.nr i'+k'
 ·exact g.noConA fs hr ht eh hA ha hj hx hk ac aj ak an hp hq QoW QoW QoW
 ·obtain ⟨rfl,h⟩:=g.noConA fs hr ht eh hA ha ac aj ak hj hx hk QoW hq hp QoW (z := -z) (by rw [Int.neg_mul];omega) (by rw [Int.neg_mul];omega);rw [hj] at ac;cases ac;exact ⟨rfl,Int.dvd_neg.1 h⟩
end Cx
end Go.Vx
namespace Go.Vx
variable {R:Type} (n:Nat)
def TB  (K:Qlr R):oP R:=Qkt R [[Q4 0,Q4 3,Q4 1,Q4 2,Q4 0]] fun c=>Qku R (VA n 5 c some) fun a=>Qkv R a (DE n 5 c 0 7 some) fun r2=>Qkv R a (Fm n r2 [[Q4 3]] some) fun b=>K (Qkr a b)
def Pq (b c d e:LL) (f:Int) (g h i j k l m a2:LL) (K:Qlt R):oP R:=Qku R (JG n b c d e f g h i j k l m a2 true Tu2) fun a=>K a.1 a.2
end Go.Vx
namespace Go.Vx
theorem TG.get {per:Int} {N:Nat} {T:List Int} (h:TG per N T) {i:Nat} (hi:i<N):(encI T)[i]? = some [Q4 (T.getD i 0)]/\0<=T.getD i 0/\T.getD i 0<per:=by
 have e:=QqI (l:=T) (i:=i) (by have:=h.1;omega);rw [QqJ,e];exact ⟨by simp [encI,e],h.2 _ (QqD e)⟩
namespace Cx
variable {X:Cx} {per:Int} {Ch Sy A:LL} {tl:List Int}
variable (g:X.Gd per Ch Sy A tl)
include g
variable (fs:Fs per tl A)
include fs
theorem Gd.sumR_nn {i:Nat} (hi:i<X.Ls.length):∀ {k:Nat},k<=X.nr i->0<=X.sumR per tl i k
 |0,_=>by simp [sumR]
 |k+1,hk=>by
  have ih:=Gd.sumR_nn hi (k:=k) QoW;have b:=(g.run_f fs hi (show k<X.nr i by omega)).1;have c:=(R2 g.ok hi (show k<X.nr i by omega)).1;have h2:0<=(X.gapV per tl i k).1:=by
   by_cases a:k<X.nr i-1
   ·have hd:=g.dw_f fs hi a;have:=(rd g.ok hi (show k<X.nr i by omega)).mn0;rw [hd.1];dsimp only;omega
   ·unfold gapV;rw [Qrf a];cases e:X.tn i with
    |none=>exact Qr5 _
    |some t=>
     have ht:=g.tu_f fs (Dt e).1;have:=(g.ok.tr t (Dt e).1).2.2.1;dsimp only;omega
  rw [sumR];omega
theorem Gd.laps_rng {ls:List Nat} (ac:∀ i∈ls,i<X.Ls.length) (aj:ls.length<=10) {c:Bool}:0<=X.lapsV per tl ls c/\X.lapsV per tl ls c<=10000000:=by
 have p0:=g.p0;have hs:=g.sumL_rng ac (QqP ls.length);rw [Qr1] at hs;have hn:∀ (l:List Nat) (s:Int),(∀ i∈l,i<X.Ls.length)->0<=s->0<=l.foldl (fun s i=>s+X.sumR per tl i (X.nr i)) s:=fun l=>by
  induction l with
  |nil=>exact fun s _ h=>h
  |cons i l ih=>exact fun s hl a=>ih _ (fun x hx=>hl x (.tail _ hx)) (by have:=g.sumR_nn fs (hl i (.head _)) (QqP _);show 0<=s+_;omega)
 have a:0<=X.sumL per tl ls:=hn ls 0 ac (Qr5 _);unfold lapsV;cases c
 ·exact ⟨Qr5 _,by rw [QqF];omega⟩
 rw [QqH];have hb:((X.sumL per tl ls).tdiv per).natAbs=(X.sumL per tl ls).natAbs / per.natAbs:=Int.natAbs_tdiv ..;have:=Int.tdiv_nonneg a (show 0<=per by omega);have:=Nat.div_le_self (X.sumL per tl ls).natAbs per.natAbs;omega
end Cx
theorem Qat:TB 400 (some:Bool->oP Bool)=some true:=by kernel_rfl
section
variable {n:Nat} {a0 a1 a2 a3:LL} {p:Int} {b1 b2 b3 b4 b5 b6 b7:LL}
theorem Qey {l:LL} {q e:Int} {E A:LL} (hp:Si n l Tu12=some (a0,a1,a2,a3,p,b1,b2,b3,b4,b5,b6,b7)) (hb:Tn n a0 a1 a2 a3 p b1 b2 b3 b4 b5 b6 b7 Tu4=some (q,E,A,e)) :
  KZ n l Tu14=bif e != 0 then some (a0,a1,a2,a3,p,b1,b2,b3,b4,b5,b6,b7,[],false) else gb true (UF n q E A 3000 Tu3) ([],0,0) fun a=>some (a0,a1,a2,a3,p,b1,b2,b3,b4,b5,b6,b7,a.1,a.2.2 == 0):=by
 unfold KZ;rw [hp,Q0];dsimp only;rw [hb,Q0]
end
structure Sol (Se:LL) (us ss:List U):Prop where
 len:us.length<=48/\ss.length<=48
 sub:ss.Sublist us
 one:us≠[]/\ss≠[]
 st:∀ u∈ss,Qk9 Se u
 nu:∀ u∈us,Qcv u
 cv:∃ n,(∀ u∈us,u.2.1<n)/\(∀ t,t<n->∃ lo hi,CovI t lo hi us)/\∀ t,t<n->∃ u∈us,u.2.1=t/\u.1<Se.length/\0<u.2.2.1+u.2.2.2.1
end Go.Vx
namespace Go.Vx
variable {R:Type} (n:Nat)
def Qq (n:Nat) (e c d:Int) (k0:Qln R):Qlo R
 | 0,_,_=>none
 | m+1,a,b=>bif decide (a<c) then QkK R b.length a b a.toNat fun h=>Qku R (nz d) fun k=>QkI R b.length a b a.toNat fun i=>Qq n e c d k0 m (wJ (a+1)) (List.set b a.toNat (List.set i 0 (Q4 (Int.tmod (wJ (h+e)) d)))) else k0 a (decide (a<c)) b
def law19_OccupancyOfFeasibleTimes (a0:LL) (a1:Int) (K:Qlr R):oP R:=gb true (KZ n a0 Tu14) ([],[],[],[],0,[],[],[],[],[],[],[],[],false) fun a=>bif !a.2.2.2.2.2.2.2.2.2.2.2.2.2 then Qku R (TB n some) fun r2=>K r2 else Qkt R a.2.2.2.2.1 fun g=>Qku R (Su n a1 g some) fun d=>Qq n d (a.2.2.2.2.2.2.2.2.2.2.2.2.1.length:Int) g (fun s t q=>Qku R (Pq n a.1 a.2.1 a.2.2.1 a.2.2.2.1 g a.2.2.2.2.2.1 a.2.2.2.2.2.2.1 a.2.2.2.2.2.2.2.1 a.2.2.2.2.2.2.2.2.1 a.2.2.2.2.2.2.2.2.2.1 a.2.2.2.2.2.2.2.2.2.2.1 a.2.2.2.2.2.2.2.2.2.2.2.1 q Tu2) fun b=>Qku R (TB n some) fun e=>Qks R (Qkr (Qkr e (b.2==0)) (decide ((b.1.length:Int)>0))) fun c=>Qkv R c (WD n g b.1 some) fun f=>Qkv R (Qkr c f) (VA n g b.1 some) fun r=>K (Qkr (Qkr c f) r)) n 0 a.2.2.2.2.2.2.2.2.2.2.2.2.1
end Go.Vx
namespace Go.Vx
theorem FsB.fs' {A:LL} {per:Int} {N:Nat} {tl:List Int} (hr:∀ r∈A,R6 r) (hc:∀ r∈A,chk per N r=true) (h:FsB A per N tl):Fs per tl A:=fun r hm=>by
 obtain ⟨kd,f,t,mn,mx,q,rfl⟩:=hr r hm;have:=A4 (hc _ hm);exact h kd f t mn mx q hm QoW QoW QoW QoW
theorem Qas {per d:Int} (p0:2<=per) (p1:per<=300) (d0:0<=d) (d1:d<per) {N:Nat} (hN:N<=100):∀ (c m i:Nat) (T:List Int),i+c=N->c<m->TG per N T->∃ T':List Int,(∀ (R:Type) (K:LL->oP R),Qq 400 d (N:Int) per (fun _ _ w=>K w) m (i:Int) (encI T)=K (encI T'))/\TG per N T'/\∀ j,j<N->T'.getD j 0=if j<i then T.getD j 0 else (T.getD j 0+d) % per
 |0,m+1,i,T,hi,_,hT=>by
  refine ⟨T,fun R K=>?_,hT,fun j hj=>by rw [Qre QoW]⟩;rw [Qq,Qp3 ((i:Int)<(N:Int)),QqF]
 |c+1,m+1,i,T,hi,hm,hT=>by
  have ac:i<N:=QoW
  have ef:=hT.get ac;have v0:=QqT (T.getD i 0+d) (show per≠0 by omega);have a:=QqX (T.getD i 0+d) (show 0<per by omega);obtain ⟨T',b,h2,f⟩:=Qas p0 p1 d0 d1 hN c m (i+1) _ QoW QoW (hT.set (i:=i) v0 a);refine ⟨T',fun R K=>?_,h2,fun j hj=>?_⟩
  ·rw [Qq,Qc ac,QqH,QZ,hT.1,XR QoW QoW];simp -implicitDefEqProofs only [Q0,QqG,ef.1,QqE,Q2,NQ (show per≠0 by omega),Qr (show i<=1000 by omega),Q6 (x:=T.getD i 0+d) QoW QoW,Int.tmod_eq_emod_of_nonneg (show 0<=T.getD i 0+d by omega)];show Qq 400 _ _ _ _ _ _ ((encI T).set i [Q4 ((T.getD i 0+d) % per)])=_;rw [Rh];exact b R K
  ·rw [f j hj];have hl:=hT.1;by_cases e:j=i
   ·subst e;rw [Qre QoW,Qrf QoW,QqJ,Qr3 QoW];rfl
   ·rw [QqJ,Qr6 (fun h=>e h.symm),<- QqJ];by_cases e2:j<i
    ·rw [Qre QoW,Qre e2]
    ·rw [Qrf QoW,Qrf e2]
theorem Fs.shift {per d:Int} (p0:2<=per) {N:Nat} {A:LL} {T T':List Int} (hr:∀ r∈A,R6 r) (hc:∀ r∈A,chk per N r=true) (h:∀ j,j<N->T'.getD j 0=(T.getD j 0+d) % per) (fs:Fs per T A):Fs per T' A:=fun r hm=>by
 have hd:=fs r hm;obtain ⟨kd,f,t,mn,mx,q,rfl⟩:=hr r hm;have:=A4 (hc _ hm);have e1:=h f.toNat QoW;have e2:=h t.toNat QoW;simp only [V5,dur,tat] at hd ⊢;rw [e1,e2,show ((T.getD t.toNat 0+d) % per-(T.getD f.toNat 0+d) % per-mn) % per=(T.getD t.toNat 0-T.getD f.toNat 0-mn) % per by
  have a:=Qrk (T.getD t.toNat 0+d) per;have b:=Qrk (T.getD f.toNat 0+d) per;rw [show (T.getD t.toNat 0+d) % per-(T.getD f.toNat 0+d) % per-mn=(T.getD t.toNat 0-T.getD f.toNat 0-mn)+per*((T.getD f.toNat 0+d) / per-(T.getD t.toNat 0+d) / per) by rw [Int.mul_sub];omega,Int.add_mul_emod_self_left]]
 exact hd
theorem Q8U {n:Nat} {l a0 a1 a2 c:LL} {p s:Int} {b1 b2 d e f g i t:LL} {ok:Bool} (hs:KZ n l Tu14=some (a0,a1,a2,c,p,b1,b2,d,e,f,g,i,t,ok)) (ha:TB n (some:Bool->oP Bool)=some true)
  (h:ok=true->∃ v T1 us,Su n s p some=some v/\(∀ k0:LL->oP Bool,Qq n v (t.length:Int) p (fun _ _ w=>k0 w) n 0 t=k0 T1)/\JG n a0 a1 a2 c p b1 b2 d e f g i T1 true Tu2=some (us,0)/\0<us.length/\WD n p us some=some true/\VA n p us some=some true):law19_OccupancyOfFeasibleTimes n l s some=some true:=by
 unfold law19_OccupancyOfFeasibleTimes Pq;rw [hs,Q0];dsimp only;cases ok with
 |false=>rw [Qr8,QqH,ha,Q0]
 |true=>
  obtain ⟨v,T1,us,h1,h2,h3,h4,h5,h6⟩:=h rfl;rw [QqZ,QqF,h1,Q0,h2,h3,Q0,Q0,ha,Q0];dsimp only;rw [h5,Q0,h6,Q0,Qp4 ((us.length:Int)>0)];rfl
theorem feasibleA {l:List Int} (hl:l.length<=9223372036854775807) (s:Int):law19_OccupancyOfFeasibleTimes 400 (encI l) s some=some true:=by
 have hp:Si 400 (encI l) Tu12∈(fun r=>∃ (G:Geo) (per:Int) (Sk Ro Ls Ch Tu Sy De:LL),PlanR G per Sk Ro Ls Ch Tu Sy De/\r=(G.St,G.Pt,G.Se,G.Li,per,Sk,Ro,Ls,Ch,Tu,Sy,De)):=QiL hl fun G per Sk Ro Ls Ch Tu Sy De h=>okI ⟨G,per,Sk,Ro,Ls,Ch,Tu,Sy,De,h,rfl⟩
 obtain ⟨_,hp,G,per,Sk,Ro,Ls,Ch,Tu,Sy,De,hR,rfl⟩:=hp;obtain ⟨X,h,rfl,rfl,rfl,rfl,rfl⟩:=hR.cx;have an:=hR.lsOK;have p0:2<=per:=by have:=hR.p0;omega
 have p1:=hR.p1;have hc:Jd 400 X.G.St X.G.Pt X.G.Se X.G.Li per X.skR X.Ro X.Ls Ch (X.T.map tuR) Sy De (some:Int->oP Int)=some 0:=QdE hR some;have ad:Um 400 X.G.St X.G.Pt X.G.Se X.G.Li per X.skR X.Ro X.Ls Ch (X.T.map tuR) Sy De (some:Int->oP Int)=some 0:=Qis hR;have hN:X.N<=6:=Cx.base_le h;have a7:=Cx.buildP h an p0 p1 hc;have ay:=Cx.buildR h an p0 p1 ad;cases ev:X.netV per X.jns Ch Sy with
 |mk q r=>
 obtain ⟨E,A,e⟩:=r;rw [ev] at a7 ay;have hs:=Qey hp ay;by_cases he:e=0
 rotate_left
 ·rw [show (e != 0)=true by simpa using he,QqH] at hs;exact Q8U hs Qat fun e=>nomatch e
 subst he;rw [bne_self_eq_false,QqF] at hs;unfold Cx.netV at ev;cases ha:X.aloneJ per X.jns with
 |false=>
  rw [ha] at ev;cases ev
 |true=>
  rw [ha,QqH] at ev;cases eh:X.hdws per X.jns X.N 0 with
  |none=>
   rw [eh] at ev;cases ev
  |some H=>
   rw [eh] at ev;cases ev;have hH:=Cx.hdws_rows eh;have bp:=Cx.planned_len h an;have bm:=Cx.hdws_len h p0 p1 QoW eh;have hA:(X.planned Ch Sy++H).length<400:=by rw [Qr2];omega
   have az:(X.evs X.L).length=2*X.N:=Cx.evs_len;have hE:(X.evs X.L).length<=48:=QoW
   have a:∀ r∈X.planned Ch Sy++H,R6 r:=fun r hr=>Cx.act_r6 h an hH hr
   have ar:=QcN p0 p1 hE QoW a hA;cases ak:(X.planned Ch Sy++H).all (chk per (X.evs X.L).length) with
   |false=>
    rw [ak] at ar;obtain ⟨res,us,hf⟩:=Qi1 ar;rw [hf,Q0] at hs;exact Q8U hs Qat fun e=>nomatch e
   |true=>
    rw [ak] at ar;have aq:=QqV.1 ak;obtain ⟨res,us,e,hf,hv⟩:=Qje p0 p1 hE hA a aq rfl ar;rw [hf,Q0] at hs;refine Q8U hs Qat fun bc=>?_
    have he:e=0:=by simpa using bc
    obtain ⟨t0,rfl,aw,hF⟩:=hv he;have hd:=Mo s (show 0<per by omega);obtain ⟨tl,h2,hT,o⟩:=Qas p0 p1 hd.1 hd.2 (show (X.evs X.L).length<=100 by omega) (X.evs X.L).length 400 0 t0 QoW QoW aw;have fs:Fs per tl (X.planned Ch Sy++H):=Fs.shift p0 a aq (fun j hj=>by rw [o j hj,Qrf QoW]) (hF.fs' a aq);have g:X.Gd per Ch Sy (X.planned Ch Sy++H) tl:=⟨h,an,p0,p1,⟨H,rfl,hH⟩,hA,by rw [hT.1,az],hT.2,fun r hr=>by have:=aq r hr;rw [az] at this;exact this⟩;have hg:=Qgo p0 p1 hE QoW a hA (tl:=tl);rw [Qbp ak hT] at hg;obtain ⟨rs,b,d,f,m,r6,n⟩:=Cx.rotsP h;have aj:X.RsOK rs:=⟨f,m⟩;have bg:=Qbh n;have au:(Qd2 rs).length=rs.length:=by simp [Qd2]
    have hu:=Qc1 (mv:=true) a7 hg.1 d (Cx.firstsP h) b (fun k0=>by rw [au];exact g.usesP (mv:=true) aj k0);have ao:=g.usesM_src fs (mv:=true) aj (QqP rs.length);have l1:=g.usesM_len (mv:=true) aj (QqP rs.length);rw [Qr1] at l1;have bh:=g.usesM_okN (mv:=true) aj;obtain ⟨u1,ag⟩:=g.usesM_one (mv:=true) aj r6;have ax:=List.length_pos_of_mem ag;have hF:∀ u∈X.usesM per tl true rs rs.length,OkF u:=fun u hu=>by
     obtain ⟨j,r,x,i,k,hj,hx,hk,a1,a2,p,hp,a3,a4,a5⟩:=ao u hu;have hm:=aj.ls r (QqD hj);have a8:=g.laps_rng fs (c:=r.2) hm.2 (by have:=aj.len3 hj;omega);have bn:=(QqM.1 hj).1;have o:=aj.n3;have:=aj.sum;have:=((Cx.occ_ok h (hm.2 i (QqD hx)) hk).1.mem p hp).2.2.2.2;exact ⟨bh u hu,by rw [a2];exact a8.1,by rw [a2];exact a8.2,QoW,QoW⟩
    refine ⟨_,_,_,Qgt 400 s (show 0<per by omega) QoW some,fun k0=>?_,hu,by rw [QqL];exact ax,QcC p0 p1 QoW QoW hF,QhU p0 p1 QoW QoW hF fun u hu v hv e z z1 z2=>g.noCon fs aj bg eh (fun r hr=>QqW _ hr) ha (ao u hu) (ao v hv) e z1 z2⟩;rw [QZ,aw.1];exact h2 _ k0
end Go.Vx
