/- Part of a proof. No conditions of their own. -/
import Derived.Test.YtidplnfkjemokaaGreatTE
import Derived.Test.YtidplnfkjemokaaGreatTB
import Derived.Test.YtidplnfkjemokaaGreatTD
import Derived.Test.YtidplnfkjemokaaGreatTF
import Derived.Maps.OwnRows
import Derived.Maps.GroupsBeside
import Derived.WalkKit
import Derived.Test.YtidplnfkjemokaaGreatProg
import Derived.Test.YtidplnfkjemokaaGreatTC
import Derived.Shelf.Sort.Plain
import Derived.Ground.Names2Prog
import Derived.Shelf.Slices.CompactI
import Derived.Shelf.Slices.In.SortNone
set_option linter.unusedVariables false
set_option linter.unusedSimpArgs false
set_option maxRecDepth 100000
namespace Go.Vx
open Go.Proofs
variable {R:Type}
noncomputable def Ty:Code:=Q8 Tryz.f35
noncomputable def GV:Code:=cA [1,1,0,1,2,2] (Q8 Tryz.f35)
noncomputable def Pu:Code:=cA [1,1,1] (Q8 Tryz.f35)
noncomputable def GT:Code:=cA [1,1,1,0,1,2,2] (Q8 Tryz.f35)
noncomputable def PM:Code:=cA [1,1,1,1] (Q8 Tryz.f35)
def Tl (a:Int) (b c d e f g h:LL):St:=⟨35,[(0,.ag [dI a,dL 5 b,dL 2 c,dL 4 d,dL 7 e,dL 4 f,dL 5 g,dL 3 h])],[]⟩
def TV (a b c:Int) (d e f g h i j k:LL):St:=⟨35,[(1,.ptr 1 0),(3,.arr 10),(12,dI a),(13,dI b)],[(1,.box [dI c,dL 5 d,dL 2 e,dL 4 f,dL 7 g,dL 4 h,dL 5 i,dL 3 j]),(10,.arr 3 1 k)]⟩
def Pd (a b:Int) (c:Bool) (d:Int) (e f g h i j k l:LL):St:=⟨35,[(1,.ptr 1 0),(3,.arr 10),(12,dI a),(13,dI b),(14,dB c)],[(1,.box [dI d,dL 5 e,dL 2 f,dL 4 g,dL 7 h,dL 4 i,dL 5 j,dL 3 k]),(10,.arr 3 1 l)]⟩
def Ts (a:LL) (b c:Int) (d:LL):St:=⟨35,[(3,.arr 10),(21,dL 4 a),(22,dI b),(23,dI c)],[(10,.arr 3 1 d)]⟩
def Tt (a:LL) (b c:Int) (d:Bool) (e:LL):St:=⟨35,[(3,.arr 10),(21,dL 4 a),(22,dI b),(23,dI c),(24,dB d)],[(10,.arr 3 1 e)]⟩
def QO (n:Nat):VC:=⟨QK [],gtt,[cO 0 [1] [1],cO 1 [1,3] [1,10],cO 2 [1,3,12,13] [1,10],cO 3 [1,3,12,13,14] [1,10],cO 4 [1,3,4,12,13] [1,10],cO 5 [1,3,12,13] [1,10],cO 6 [1,3,12,13] [1,10],cO 7 [3,21,22,23] [10],cO 8 (3::rg1 21 4 []) [10],cO 9 [3,5,6,21,22,23] [6,10],cO 10 [3,21,22,23] [10],cO 11 [3,21,22,23] [10],cO 12 [2] [10]]⟩
theorem Q25 (n:Nat):VCOk Tryz.prog (QO n):=gVC (Qe trivial)
theorem Cw (n:Nat) (a:Int) (b c d e f g h:LL) (k:Exit→St→Option R):Qi (QO n) n Ty (Tl a b c d e f g h) k=Pc n a b c d e f g h (fun i j=>X7 (lB (QO n) n GV) n ⟨35,[(1,.ptr 1 0),(3,.arr 10),(12,dI i),(13,dI (0:Int))],[(1,.box [dI a,dL 5 b,dL 2 c,dL 4 d,dL 7 e,dL 4 f,dL 5 g,dL 3 h]),(10,.arr 3 1 j)]⟩ (Q9 0 (Xf (QO n) n Pu k))):=by kernel_rfl
theorem Ct (n:Nat) (a j b:Int) (c d e f g h i l:LL) (k:Exit→St→Option R):Qi (QO n) n GV (TV a j b c d e f g h i l) k=Tm n a j b c d e f g h i l (fun m o=>k .normal (TV a m b c d e f g h i o)) (fun p=>k (.exit 0) (Pd a j p b c d e f g h i l)):=by kernel_rfl
theorem RS (n:Nat) (c d:Int) (e f g h i j l:LL) (k:Exit→St→Option R):∀ (m:Nat) (a:Int) (b:LL),X7 (lB (QO n) n GV) m (TV c a d e f g h i j l b) k=GB n c d e f g h i j l (fun a o b=>k (.exit 0) (Pd c a o d e f g h i j l b)) m a b
 | 0,_,_=>rfl
 | m+1,a,b=>(lS (by kernel_rfl) m k).trans ((Ct n c a d e f g h i j l b (WB (lB (QO n) n GV) m k)).trans (cg2 (fun p q=>Tm n c a d e f g h i j l b p q ) (funext fun r=>funext fun s=>RS n c d e f g h i j l k m r s) rfl))
theorem Bv (n:Nat) (c d:Int) (e:Bool) (f:Int) (g h i j a l m b:LL) (k:Exit→St→Option R):(Q9 0 (Xf (QO n) n Pu k)) (.exit 0) (Pd c d e f g h i j a l m b)=Pq n c d e f g h i j a l m b (fun o=>X7 (lB (QO n) n GT) n ⟨35,[(3,.arr 10),(21,dL 4 a),(22,dI o),(23,dI (0:Int))],[(10,.arr 3 1 b)]⟩ (Q9 2 (Xf (QO n) n PM k))):=by kernel_rfl
theorem Bd (n:Nat) (a:LL) (b c:Int) (d:LL) (k:Exit→St→Option R):Qi (QO n) n GT (Ts a b c d) k=PT n a b c d (fun e f=>k .normal (Ts a b e f)) (fun g=>k (.exit 2) (Tt a b c g d)):=by kernel_rfl
theorem Rr (n:Nat) (c:LL) (d:Int) (k:Exit→St→Option R):∀ (m:Nat) (a:Int) (b:LL),X7 (lB (QO n) n GT) m (Ts c d a b) k=GS n c d (fun a e b=>k (.exit 2) (Tt c d a e b)) m a b
 | 0,_,_=>rfl
 | m+1,a,b=>(lS (by kernel_rfl) m k).trans ((Bd n c d a b (WB (lB (QO n) n GT) m k)).trans (cg2 (fun f g=>PT n c d a b f g ) (funext fun h=>funext fun i=>Rr n c d k m h i) rfl))
theorem Bp (n:Nat) (b:LL) (c d:Int) (e:Bool) (a:LL) (k:Exit→St→Option R):(Q9 2 (Xf (QO n) n PM k)) (.exit 2) (Tt b c d e a)=LW n b c d e a (k .ret ⟨35,[(2,.arr 10)],[(10,.arr 3 1 a)]⟩):=by kernel_rfl
theorem B5 (n:Nat) (b:Int) (c d e f a g h:LL) (k:Exit→St→Option R):Qi (QO n) n Ty (Tl b c d e f a g h) k=LR n b c d e f a g h (fun m=>k .ret ⟨35,[(2,.arr 10)],[(10,.arr 3 1 m)]⟩):=
 (Cw n b c d e f a g h k).trans (cg1 (fun i=>Pc n b c d e f a g h i ) (funext fun j=>funext fun p=>(RS n j b c d e f a g h (Q9 0 (Xf (QO n) n Pu k)) n (0:Int) p).trans (cg1 (fun i=>GB n j b c d e f a g h i n (0:Int) p) (funext fun q=>funext fun r=>funext fun l=>(Bv n j q r b c d e f a g h l k).trans (cg1 (fun i=>Pq n j q r b c d e f a g h l i ) (funext fun o=>(Rr n a o (Q9 2 (Xf (QO n) n PM k)) n (0:Int) l).trans (cg1 (fun i=>GS n a o i n (0:Int) l) (funext fun s=>funext fun t=>funext fun m=>(Bp n a o s t m k)))))))))
theorem Q0o (n:Nat) (a:Int) (c d e f g h i:LL) (K:AV→Option R):vfn (QO n) n Tryz.f35 [.ag [.d (D.int .i64 a),.d (D.sl 5 c),.d (D.sl 2 d),.d (D.sl 4 e),.d (D.sl 7 f),.d (D.sl 4 g),.d (D.sl 5 h),.d (D.sl 3 i)]] [] (Wc [[1]] K)=MR n a c d e f g h i (fun j=>K (.d (D.sl 1 j))):=
 Eq.trans (b:=Qi (QO n) n Ty (Tl a c d e f g h i) (K3 gtt [.tmp 2] (Wc [[1]] K))) VP ((B5 n a c d e f g h i (K3 gtt [.tmp 2] (Wc [[1]] K))).trans (by kernel_rfl))
def SK:AV→Option (LL):=fun av=>match av with
 | .d (D.sl 1 a)=>some a
 | _=>none
def SV (n:Nat):XH:=fun _ _ g avs _ k=>match avs with
 | [c0]=>
  prG c0 fun l0=>(match l0 with
  | [a,b,c,d,e,f,h,i]=>prI g .i64 a fun j=>prS g 5 b fun l=>prS g 2 c fun m=>prS g 4 d fun o=>prS g 7 e fun p=>prS g 4 f fun q=>prS g 5 h fun s=>prS g 3 i fun t=>
  gb g (MR n j l m o p q s t some) [] fun r=>k ⟨.d (D.sl 1 r),[],[]⟩
  | _=>none)
 | _=>none
theorem Q1d (n:Nat):Qo Tryz.prog 35 (SV n):=by
  intro R site g avs hl k r h
  unfold SV at h
  split at h
  rotate_left
  · cases h
  obtain ⟨l0,h,l⟩:=Qq h
  split at h
  rotate_left
  · cases h
  obtain ⟨a,h,m⟩:=Q2 h
  obtain ⟨b,h,o⟩:=Q1 h
  obtain ⟨c,h,p⟩:=Q1 h
  obtain ⟨d,h,q⟩:=Q1 h
  obtain ⟨e,h,s⟩:=Q1 h
  obtain ⟨f,h,t⟩:=Q1 h
  obtain ⟨i,h,u⟩:=Q1 h
  obtain ⟨j,h,v⟩:=Q1 h
  obtain ⟨res,h,hr⟩:=Qc h
  have hL:=h
  subst l
  refine ⟨_,hL,fun hg=>QI.conv (avs':=[.ag [.d (D.int .i64 a),.d (D.sl 5 b),.d (D.sl 2 c),.d (D.sl 4 d),.d (D.sl 7 e),.d (D.sl 4 f),.d (D.sl 5 i),.d (D.sl 3 j)]]) (.cons (.ag (.cons (m hg) (.cons (o hg) (.cons (p hg) (.cons (q hg) (.cons (s hg) (.cons (t hg) (.cons (u hg) (.cons (v hg) (.nil)))))))))) (.nil)) (QE (K:=SK) (res:=res) (Q25 n) (fn:=Tryz.f35) (n:=n) (ss:=[[1]]) ?_ ?_)⟩
  · exact (Q0o n a b c d e f i j SK).trans (hr hg)
  · intro x hx
    unfold SK at hx
    split at hx
    · injection hx with hx;subst hx;rfl
    · cases hx
noncomputable def Zj:Code:=Q8 Tryz.f36
noncomputable def YD:Code:=cA [1,1,0,2,2] (Q8 Tryz.f36)
noncomputable def YB:Code:=cA [1,1,1] (Q8 Tryz.f36)
def Zg (a:Int) (b:Bool) (c d:LL) (e:Int) (f g h i j k l m:LL):St:=⟨45,[(0,dI a),(1,dB b),(2,.ptr 1000000 0),(3,.ptr 1000002 0),(4,.ptr 1000003 0),(5,.ptr 1000004 0)],[(1000000,.box [.arr 1000001]),(1000001,.arr 4 1 c),(1000002,.box [dL 1 d]),(1000003,.box [dI e,dL 5 f,dL 2 g,dL 4 h,dL 7 i,dL 4 j,dL 5 k,dL 3 l]),(1000004,.box [.arr 1000005]),(1000005,.arr 44 2 m)]⟩
def UG (a:Int) (b:Bool) (c d e f:LL) (g:Int) (h i j k l m n:LL):St:=⟨45,[(2,.ptr 1000000 0),(3,.ptr 1000002 0),(4,.ptr 1000003 0),(5,.ptr 1000004 0),(8,.ptr 8 0),(9,dI a)],[(8,.box [.arr 1080,dB b]),(1080,.arr 3 1 c),(98000,.arr 4 1 d),(98160,.arr 44 2 e),(1000000,.box [.arr 98000]),(1000002,.box [dL 1 f]),(1000003,.box [dI g,dL 5 h,dL 2 i,dL 4 j,dL 7 k,dL 4 l,dL 5 m,dL 3 n]),(1000004,.box [.arr 98160])]⟩
def Zk (a:Int) (b c:Bool) (d e f g:LL) (h:Int) (i j k l m n o:LL):St:=⟨45,[(2,.ptr 1000000 0),(3,.ptr 1000002 0),(4,.ptr 1000003 0),(5,.ptr 1000004 0),(8,.ptr 8 0),(9,dI a),(17,dB b)],[(8,.box [.arr 1080,dB c]),(1080,.arr 3 1 d),(98000,.arr 4 1 e),(98160,.arr 44 2 f),(1000000,.box [.arr 98000]),(1000002,.box [dL 1 g]),(1000003,.box [dI h,dL 5 i,dL 2 j,dL 4 k,dL 7 l,dL 4 m,dL 5 n,dL 3 o]),(1000004,.box [.arr 98160])]⟩
def UJ (a b c:LL) (d:Int) (e f g h i j k:LL):St:=⟨45,[],[(98160,.arr 44 2 a),(98000,.arr 4 1 b),(1000000,.box [.arr 98000]),(1000002,.box [dL 1 c]),(1000003,.box [dI d,dL 5 e,dL 2 f,dL 4 g,dL 7 h,dL 4 i,dL 5 j,dL 3 k]),(1000004,.box [.arr 98160])]⟩
def Qj (n:Nat):VC:=⟨QK [],gtt,[(0,⟨[0,2,3,4,5,8],(zp (8::rg1 1000000 6 []) (8::1000000::98000::rg1 1000002 3 [98160])),[],[],[]⟩),(1,⟨(rg1 2 4 [8,9]),(zp (8::98000::98160::1000000::rg1 1000002 3 []) (8::98000::98160::1000000::rg1 1000002 3 [])),[],[(8,0,1080,3,1)],[]⟩),cO 2 (rg1 2 4 [8,9,17]) [8,1080,98000,98160,1000000,1000002,1000003,1000004],cO 3 (rg1 2 4 [8,9]) [8,1080,98000,98160,1000000,1000002,1000003,1000004],cO 4 (rg1 2 4 [8,9]) [8,25,98000,98160,1000000,1000002,1000003,1000004],cO 5 (rg1 2 4 [8,9,31]) [8,25,98000,98160,1000000,1000002,1000003,1000004],cO 6 (rg1 2 4 [8,9]) [8,25,98000,98160,1000000,1000002,1000003,1000004],(7,⟨[],(zp (44::98000::1000000::rg1 1000002 3 []) (98160::98000::1000000::rg1 1000002 3 [])),[],[],[]⟩),(3000000002,⟨(rg1 2 4 [8,9]),(zp [8,25,1080,98000,98160,1000000,1000002,1000003,1000004] [8,1080,1080,98000,98160,1000000,1000002,1000003,1000004]),[],[],[]⟩)]⟩
theorem Hi (n:Nat):VCOk Tryz.prog (Qj n):=gVC (Qe trivial)
theorem Kv (n:Nat) (a0:Int) (a1:Bool) (q1 a:LL) (b:Int) (c d e f g h i j:LL) (k:Exit→St→Option R):Qi (Qj n) n Zj (Zg a0 a1 q1 a b c d e f g h i j) k=Zi n a0 a1 q1 a b c d e f g h i j (X7 (lB (Qj n) n YD) n ⟨45,[(2,.ptr 1000000 0),(3,.ptr 1000002 0),(4,.ptr 1000003 0),(5,.ptr 1000004 0),(8,.ptr 8 0),(9,dI a0)],[(1080,.arr 3 1 []),(8,.box [.arr 1080,dB a1]),(98000,.arr 4 1 q1),(98160,.arr 44 2 j),(1000000,.box [.arr 98000]),(1000002,.box [dL 1 a]),(1000003,.box [dI b,dL 5 c,dL 2 d,dL 4 e,dL 7 f,dL 4 g,dL 5 h,dL 3 i]),(1000004,.box [.arr 98160])]⟩ (Q9 0 (Xf (Qj n) n YB k))):=by kernel_rfl
theorem Ke (n:Nat) (l:Int) (a1:Bool) (m o a b:LL) (c:Int) (d e f g h i j:LL) (k:Exit→St→Option R):Qi (Qj n) n YD (UG l a1 m o a b c d e f g h i j) k=Zh n l a1 m o a b c d e f g h i j (fun p q r=>k .normal ⟨45,[(2,.ptr 1000000 0),(3,.ptr 1000002 0),(4,.ptr 1000003 0),(5,.ptr 1000004 0),(8,.ptr 8 0),(9,dI p)],[(8,.box [.arr 25,dB a1]),(25,.arr 3 1 q),(98000,.arr 4 1 r),(98160,.arr 44 2 a),(1000000,.box [.arr 98000]),(1000002,.box [dL 1 b]),(1000003,.box [dI c,dL 5 d,dL 2 e,dL 4 f,dL 7 g,dL 4 h,dL 5 i,dL 3 j]),(1000004,.box [.arr 98160])]⟩) (fun s t u=>k .normal ⟨45,[(2,.ptr 1000000 0),(3,.ptr 1000002 0),(4,.ptr 1000003 0),(5,.ptr 1000004 0),(8,.ptr 8 0),(9,dI l),(31,dB s)],[(8,.box [.arr 25,dB a1]),(25,.arr 3 1 t),(98000,.arr 4 1 u),(98160,.arr 44 2 a),(1000000,.box [.arr 98000]),(1000002,.box [dL 1 b]),(1000003,.box [dI c,dL 5 d,dL 2 e,dL 4 f,dL 7 g,dL 4 h,dL 5 i,dL 3 j]),(1000004,.box [.arr 98160])]⟩) (fun v=>k (.exit 0) (Zk l v a1 m o a b c d e f g h i j)):=by kernel_rfl
theorem YX (n:Nat) (a1:Bool) (b c:LL) (d:Int) (e f g h i j l:LL) (k:Exit→St→Option R):∀ (m:Nat) (a:Int) (o p:LL),X7 (lB (Qj n) n YD) m (UG a a1 o p b c d e f g h i j l) k=Y2 n a1 b c d e f g h i j l (fun a q o p=>k (.exit 0) (Zk a q a1 o p b c d e f g h i j l)) m a o p
 | 0,_,_,_=>rfl
 | m+1,a,o,p=>(lS (by kernel_rfl) m k).trans ((Ke n a a1 o p b c d e f g h i j l (WB (lB (Qj n) n YD) m k)).trans (cg3 (fun r s t=>Zh n a a1 o p b c d e f g h i j l r s t ) (funext fun u=>funext fun v=>funext fun w=>(XM (by kernel_rfl) m k).trans (YX n a1 b c d e f g h i j l k m u v w)) (funext fun z=>funext fun x=>funext fun y=>(XM (by kernel_rfl) m k).trans (YX n a1 b c d e f g h i j l k m a x y)) rfl))
theorem Ku (n:Nat) (l:Int) (m a1:Bool) (o a p b:LL) (c:Int) (d e f g h i j:LL) (k:Exit→St→Option R):(Q9 0 (Xf (Qj n) n YB k)) (.exit 0) (Zk l m a1 o a p b c d e f g h i j)=UK n l m a1 o a p b c d e f g h i j (fun q=>k .normal (UJ q a b c d e f g h i j)):=by kernel_rfl
theorem Kk (n:Nat) (a0:Int) (a1:Bool) (q1 a:LL) (b:Int) (c d e f g h i j:LL) (k:Exit→St→Option R):Qi (Qj n) n Zj (Zg a0 a1 q1 a b c d e f g h i j) k=UI n a0 a1 q1 a b c d e f g h i j (fun o l=>k .normal (UJ o l a b c d e f g h i)):=
 (Kv n a0 a1 q1 a b c d e f g h i j k).trans (cg1 (fun m=>Zi n a0 a1 q1 a b c d e f g h i j m ) (((XM (by kernel_rfl) n (Q9 0 (Xf (Qj n) n YB k))).trans (YX n a1 j a b c d e f g h i (Q9 0 (Xf (Qj n) n YB k)) n a0 [] q1)).trans (cg1 (fun m=>Y2 n a1 j a b c d e f g h i m n a0 [] q1) (funext fun p=>funext fun q=>funext fun r=>funext fun l=>(Ku n p q a1 r l j a b c d e f g h i k)))))
def Y1:AV→List (Nat × Ob)→Option (LL × LL × Int × LL × LL × LL × LL × LL × LL × LL × LL):=fun av H=>(look H 1000000).bind fun o0=>(look H 1000002).bind fun o1=>(look H 1000003).bind fun o2=>(look H 1000004).bind fun o3=>(look H 98000).bind fun o4=>(look H 98160).bind fun o5=>match av,o0,o1,o2,o3,o4,o5 with
 | .tup [],.box [.arr p0],.box [.d (D.sl 1 a)],.box [.d (D.int .i64 r2),.d (D.sl 5 r3),.d (D.sl 2 b),.d (D.sl 4 c),.d (D.sl 7 d),.d (D.sl 4 e),.d (D.sl 5 f),.d (D.sl 3 g)],.box [.arr p1],.arr h i j,.arr k l m=>bif Nat.beq p0 98000&&(Nat.beq p1 98160&&(Nat.beq h 4&&(Nat.beq i 1&&(Nat.beq k 44&&(Nat.beq l 2&&((look H 1000001).isNone&&((look H 1000005).isNone))))))) then some (j,a,r2,r3,b,c,d,e,f,g,m) else none
 | _,_,_,_,_,_,_=>none
theorem KW (n:Nat) (a0:Int) (a1:Bool) (q1 a:LL) (c:Int) (d e f g h i j k:LL):vfn (Qj n) n Tryz.f36 [.d (D.int .i64 a0),.d (D.bool a1),.ptr 1000000 0,.ptr 1000002 0,.ptr 1000003 0,.ptr 1000004 0] [(1000000,.box [.arr 1000001]),(1000001,.arr 4 1 q1),(1000002,.box [.d (D.sl 1 a)]),(1000003,.box [.d (D.int .i64 c),.d (D.sl 5 d),.d (D.sl 2 e),.d (D.sl 4 f),.d (D.sl 7 g),.d (D.sl 4 h),.d (D.sl 5 i),.d (D.sl 3 j)]),(1000004,.box [.arr 1000005]),(1000005,.arr 44 2 k)] Y1=YQ n a0 a1 q1 a c d e f g h i j k (fun l m r2 r3 o p q r s t u=>some (l,m,r2,r3,o,p,q,r,s,t,u)):=
 Eq.trans (b:=Qi (Qj n) n Zj (Zg a0 a1 q1 a c d e f g h i j k) (K3 gtt [] Y1)) VP ((Kk n a0 a1 q1 a c d e f g h i j k (K3 gtt [] Y1)).trans (by kernel_rfl))
def Zr (n:Nat):XH:=fun _ site g avs hl k=>match avs with
 | [c0,c1,d,e,f,h]=>prI g .i64 c0 fun a0=>prB g c1 fun a1=>prP hl d fun l0 i=>(match i with
  | [j]=>prR hl 4 1 j fun l1 q1=>prP hl e fun l2 l=>(match l with
  | [m]=>prS g 1 m fun o=>prP hl f fun a p=>(match p with
  | [q,s,t,u,v,w,x,y]=>prI g .i64 q fun z=>prS g 5 s fun aa=>prS g 2 t fun ab=>prS g 4 u fun ac=>prS g 7 v fun ad=>prS g 4 w fun ae=>prS g 5 x fun af=>prS g 3 y fun ag=>prP hl h fun b ah=>(match ah with
  | [ai]=>prR hl 44 2 ai fun c q5=>
  bif UY hl [(1000000,l0),(1000001,l1),(1000002,l2),(1000003,a),(1000004,b),(1000005,c)] [(98000,(site+50000)),(98160,(site+100000))] then gb g (YQ n a0 a1 q1 o z aa ab ac ad ae af ag q5 (fun r0 r1 r2 r3 r4 r5 r6 r7 r8 r9 au=>some (r0,r1,r2,r3,r4,r5,r6,r7,r8,r9,au))) ([],[],0,[],[],[],[],[],[],[],[]) fun r=>k ⟨.tup [],[(l0,some (.box [.arr (site+50000)])),(l1,none),(l2,some (.box [.d (D.sl 1 r.2.1)])),(a,some (.box [.d (D.int .i64 r.2.2.1),.d (D.sl 5 r.2.2.2.1),.d (D.sl 2 r.2.2.2.2.1),.d (D.sl 4 r.2.2.2.2.2.1),.d (D.sl 7 r.2.2.2.2.2.2.1),.d (D.sl 4 r.2.2.2.2.2.2.2.1),.d (D.sl 5 r.2.2.2.2.2.2.2.2.1),.d (D.sl 3 r.2.2.2.2.2.2.2.2.2.1)])),(b,some (.box [.arr (site+100000)])),(c,none),((site+50000),some (.arr 4 1 r.1)),((site+100000),some (.arr 44 2 r.2.2.2.2.2.2.2.2.2.2))],[l0,l1,l2,a,b,c]⟩ else none
  | _=>none)
  | _=>none)
  | _=>none)
  | _=>none)
 | _=>none
theorem Hf (n:Nat):Qo Tryz.prog 36 (Zr n):=by
  intro R site g avs hl k r h
  unfold Zr at h
  split at h
  rotate_left
  · cases h
  obtain ⟨a0,h,x⟩:=Q2 h
  obtain ⟨a1,h,y⟩:=LO h
  obtain ⟨l0,ba,h,z,aa⟩:=YT h
  split at h
  rotate_left
  · cases h
  obtain ⟨l1,q1,h,ab,ac⟩:=QH h
  obtain ⟨l2,bb,h,ad,ae⟩:=YT h
  split at h
  rotate_left
  · cases h
  obtain ⟨a,h,af⟩:=Q1 h
  obtain ⟨l3,bc,h,ah,ai⟩:=YT h
  split at h
  rotate_left
  · cases h
  obtain ⟨b,h,aj⟩:=Q2 h
  obtain ⟨c,h,ak⟩:=Q1 h
  obtain ⟨d,h,al⟩:=Q1 h
  obtain ⟨e,h,am⟩:=Q1 h
  obtain ⟨f,h,an⟩:=Q1 h
  obtain ⟨i,h,ao⟩:=Q1 h
  obtain ⟨j,h,ap⟩:=Q1 h
  obtain ⟨l,h,aq⟩:=Q1 h
  obtain ⟨l4,bd,h,au,aw⟩:=YT h
  split at h
  rotate_left
  · cases h
  obtain ⟨l5,m,h,ay,az⟩:=QH h
  obtain ⟨hc,h⟩:=Xa h
  obtain ⟨res,h,hr⟩:=Qc h
  have hL:=h
  subst z ab ad ah au ay
  refine ⟨_,hL,fun hg=>Zl (K:=Y1) (res:=res) (Hi n) (fn:=Tryz.f36) (n:=n) (by kernel_rfl) (by kernel_rfl) (by kernel_rfl) (ρ:=[(1000000,l0),(1000001,l1),(1000002,l2),(1000003,l3),(1000004,l4),(1000005,l5)]) (ν:=[(98000,(site+50000)),(98160,(site+100000))]) (avs':=[.d (D.int .i64 a0),.d (D.bool a1),.ptr 1000000 0,.ptr 1000002 0,.ptr 1000003 0,.ptr 1000004 0]) (H:=[(1000000,.box [.arr 1000001]),(1000001,.arr 4 1 q1),(1000002,.box [.d (D.sl 1 a)]),(1000003,.box [.d (D.int .i64 b),.d (D.sl 5 c),.d (D.sl 2 d),.d (D.sl 4 e),.d (D.sl 7 f),.d (D.sl 4 i),.d (D.sl 5 j),.d (D.sl 3 l)]),(1000004,.box [.arr 1000005]),(1000005,.arr 44 2 m)]) (.cons (.data rfl (x hg)) (.cons (.data rfl (y hg)) (.cons (.own rfl rfl) (.cons (.own rfl rfl) (.cons (.own rfl rfl) (.cons (.own rfl rfl) (.nil))))))) rfl rfl hc (⟨⟨by decide,_,_,aa,rfl,.box (.cons (.own rfl rfl) (.nil))⟩,⟨⟨by decide,_,_,ac,rfl,.arr _ _ _⟩,⟨⟨by decide,_,_,ae,rfl,.box (.cons (.data rfl (af hg)) (.nil))⟩,⟨⟨by decide,_,_,ai,rfl,.box (.cons (.data rfl (aj hg)) (.cons (.data rfl (ak hg)) (.cons (.data rfl (al hg)) (.cons (.data rfl (am hg)) (.cons (.data rfl (an hg)) (.cons (.data rfl (ao hg)) (.cons (.data rfl (ap hg)) (.cons (.data rfl (aq hg)) (.nil)))))))))⟩,⟨⟨by decide,_,_,aw,rfl,.box (.cons (.own rfl rfl) (.nil))⟩,⟨⟨by decide,_,_,az,rfl,.arr _ _ _⟩,trivial⟩⟩⟩⟩⟩⟩) rfl rfl ?_ ?_⟩
  · exact (KW n a0 a1 q1 a b c d e f i j l m).trans (hr hg)
  · intro av H' hx
    unfold Y1 at hx
    simp only [Option.bind_eq_some_iff] at hx
    obtain ⟨o0,o,o1,p,o2,q,o3,s,o4,t,o5,u,hx⟩:=hx
    split at hx
    rotate_left
    · cases hx
    replace hx:=Xa hx
    obtain ⟨hck,hx⟩:=hx
    simp only [Bool.and_eq_true,Nat.beq_eq,Option.isNone_iff_eq_none] at hck
    obtain ⟨rfl,rfl,rfl,rfl,rfl,rfl,v,w⟩:=hck
    injection hx with hx
    subst hx
    refine ⟨rfl,?_,⟨by rw [t];rfl,⟨by rw [u];rfl,trivial⟩⟩,⟨YI rfl o rfl,⟨Qn rfl v,⟨YI rfl p rfl,⟨YI rfl q rfl,⟨YI rfl s rfl,⟨Qn rfl w,trivial⟩⟩⟩⟩⟩⟩⟩
    simp only [List.cons_append,List.nil_append,K2,o,p,q,s,t,u,v,w,Option.map_some,Option.map_none]
    rfl

noncomputable def Q1R:Code:=Q8 Tryz.f87
def FZ (n:Nat):VC:=⟨QK [],gtt,[cK 0 [0,2],cK 1 [0,2,4],cK 2 [0],cK 3 [0,2],cK 4 [0,2,8],cK 5 [0,2],cK 6 [0,2],cK 7 [2]]⟩
theorem Q1f (n:Nat):VCOk Tryz.prog (FZ n):=gVC (Qe trivial)
theorem AU (n:Nat) (a0:Int) (K:AV→Option R):vfn (FZ n) n Tryz.f87 [.d (D.int .u32 a0)] [] (Wc [[0]] K)=Md n a0 (fun a=>K (.d (D.int .i64 a))):=
 (VP (c:=Q1R) (m:=19) (tm:=[(0,.d (D.int .u32 a0))]) (rs:=[.tmp 2]) (tt:=gtt)).trans (by kernel_rfl)
def Sz (n:Nat):XH:=fun _ _ g avs _ k=>match avs with
 | [c0]=>prI g .u32 c0 fun a0=>
  gb g (Md n a0 some) 0 fun r=>k ⟨.d (D.int .i64 r),[],[]⟩
 | _=>none
theorem Q23 (n:Nat):Qo Tryz.prog 87 (Sz n):=by
  intro R site g avs hl k r h
  unfold Sz at h
  split at h
  rotate_left
  · cases h
  obtain ⟨a0,h,a⟩:=Q2 h
  obtain ⟨res,h,hr⟩:=Qc h
  refine ⟨_,h,fun hg=>QI.conv (avs':=[.d (D.int .u32 a0)]) (.cons (a hg) (.nil)) (QE (K:=kI) (res:=res) (Q1f n) (fn:=Tryz.f87) (n:=n) (ss:=[[0]]) ?_ ?_)⟩
  · exact (AU n a0 kI).trans (hr hg)
  · exact NW

noncomputable def Q2i:Code:=Q8 Tryz.f88
def E6 (n:Nat):VC:=⟨QK [],gtt,[cK 0 [0,2],cK 1 [0,2,4],cK 2 [0],cK 3 [0,2],cK 4 [0,2,8],cK 5 [0,2],cK 6 [0,2],cK 7 [0,2,14],cK 8 [0,2],cK 9 [0,2],cK 10 [2]]⟩
theorem Q18 (n:Nat):VCOk Tryz.prog (E6 n):=gVC (Qe trivial)
theorem AQ (n:Nat) (a0:Int) (K:AV→Option R):vfn (E6 n) n Tryz.f88 [.d (D.int .u64 a0)] [] (Wc [[0]] K)=MJ n a0 (fun a=>K (.d (D.int .i64 a))):=
 (VP (c:=Q2i) (m:=25) (tm:=[(0,.d (D.int .u64 a0))]) (rs:=[.tmp 2]) (tt:=gtt)).trans (by kernel_rfl)
def SC (n:Nat):XH:=fun _ _ g avs _ k=>match avs with
 | [c0]=>prI g .u64 c0 fun a0=>
  gb g (MJ n a0 some) 0 fun r=>k ⟨.d (D.int .i64 r),[],[]⟩
 | _=>none
theorem Q1o (n:Nat):Qo Tryz.prog 88 (SC n):=by
  intro R site g avs hl k r h
  unfold SC at h
  split at h
  rotate_left
  · cases h
  obtain ⟨a0,h,a⟩:=Q2 h
  obtain ⟨res,h,hr⟩:=Qc h
  refine ⟨_,h,fun hg=>QI.conv (avs':=[.d (D.int .u64 a0)]) (.cons (a hg) (.nil)) (QE (K:=kI) (res:=res) (Q18 n) (fn:=Tryz.f88) (n:=n) (ss:=[[0]]) ?_ ?_)⟩
  · exact (AQ n a0 kI).trans (hr hg)
  · exact NW

noncomputable def Q4N:Code:=Q8 Tryz.f65
def BK (n:Nat):VC:=⟨QK [(87,Sz n),(88,SC n)],gtt,[cK 0 [0],cK 1 [2],cK 2 [2]]⟩
theorem Q4Y (n:Nat):VCOk Tryz.prog (BK n):=gVC (Qe ⟨Q23 n,⟨Q1o n,trivial⟩⟩)
theorem Q3u (n:Nat) (a0:Int) (K:AV→Option R):vfn (BK n) n Tryz.f65 [.d (D.int .u64 a0)] [] (Wc [[0]] K)=EP n a0 (fun a=>K (.d (D.int .i64 a))):=
 (VP (c:=Q4N) (m:=8) (tm:=[(0,.d (D.int .u64 a0))]) (rs:=[.tmp 2]) (tt:=gtt)).trans (by kernel_rfl)
def NZ (n:Nat):XH:=fun _ _ g avs _ k=>match avs with
 | [c0]=>prI g .u64 c0 fun a0=>
  gb g (EP n a0 some) 0 fun r=>k ⟨.d (D.int .i64 r),[],[]⟩
 | _=>none
theorem Q4y (n:Nat):Qo Tryz.prog 65 (NZ n):=by
  intro R site g avs hl k r h
  unfold NZ at h
  split at h
  rotate_left
  · cases h
  obtain ⟨a0,h,a⟩:=Q2 h
  obtain ⟨res,h,hr⟩:=Qc h
  refine ⟨_,h,fun hg=>QI.conv (avs':=[.d (D.int .u64 a0)]) (.cons (a hg) (.nil)) (QE (K:=kI) (res:=res) (Q4Y n) (fn:=Tryz.f65) (n:=n) (ss:=[[0]]) ?_ ?_)⟩
  · exact (Q3u n a0 kI).trans (hr hg)
  · exact NW

noncomputable def Q4h:Code:=Q8 Tryz.f66
def BF (n:Nat):VC:=⟨QK [],gtt,[cK 0 [0],cK 1 [2]]⟩
theorem Q4O (n:Nat):VCOk Tryz.prog (BF n):=gVC (Qe trivial)
theorem Q3w (n:Nat) (a0:Int) (K:AV→Option R):vfn (BF n) n Tryz.f66 [.d (D.int .i64 a0)] [] (Wc [[0]] K)=NQ n a0 (fun a=>K (.d (D.bool a))):=
 (VP (c:=Q4h) (m:=6) (tm:=[(0,dI a0)]) (rs:=[.tmp 2]) (tt:=gtt)).trans (by kernel_rfl)
def MB (n:Nat):XH:=fun _ _ g avs _ k=>match avs with
 | [c0]=>prI g .i64 c0 fun a0=>
  gb g (NQ n a0 some) false fun r=>k ⟨.d (D.bool r),[],[]⟩
 | _=>none
theorem Q4s (n:Nat):Qo Tryz.prog 66 (MB n):=by
  intro R site g avs hl k r h
  unfold MB at h
  split at h
  rotate_left
  · cases h
  obtain ⟨a0,h,a⟩:=Q2 h
  obtain ⟨res,h,hr⟩:=Qc h
  refine ⟨_,h,fun hg=>QI.conv (avs':=[.d (D.int .i64 a0)]) (.cons (a hg) (.nil)) (QE (K:=kB) (res:=res) (Q4O n) (fn:=Tryz.f66) (n:=n) (ss:=[[0]]) ?_ ?_)⟩
  · exact (Q3w n a0 kB).trans (hr hg)
  · exact Da

noncomputable def Q22:Code:=Q8 Tryz.f39
def FW (n:Nat):VC:=⟨QK [(66,MB n)],gtt,[cK 0 [0,1],cK 1 [0,1,5],cK 2 [0,1,5,6],cK 3 [0,1,6,11],cK 4 [12],cK 5 [4],cK 6 [4],cK 7 [0,1,13],cK 8 [4],cK 9 [0,1,16],cK 10 [4],cK 11 [19],cK 12 [4],cK 13 [4]]⟩
theorem Q1V (n:Nat):VCOk Tryz.prog (FW n):=gVC (Qe ⟨Q4s n,trivial⟩)
theorem Q05 (n:Nat) (a0 a1:Int) (K:AV→Option R):vfn (FW n) n Tryz.f39 [.d (D.int .i64 a0),.d (D.int .i64 a1)] [] (Wc [[0]] K)=M1 n a0 a1 (fun a=>K (.d (D.int .i64 a))):=
 (VP (c:=Q22) (m:=20) (tm:=[(0,dI a0),(1,dI a1)]) (rs:=[.tmp 4]) (tt:=gtt)).trans (by kernel_rfl)
def SQ (n:Nat):XH:=fun _ _ g avs _ k=>match avs with
 | [c0,c1]=>prI g .i64 c0 fun a0=>prI g .i64 c1 fun a1=>
  gb g (M1 n a0 a1 some) 0 fun r=>k ⟨.d (D.int .i64 r),[],[]⟩
 | _=>none
theorem Q2p (n:Nat):Qo Tryz.prog 39 (SQ n):=by
  intro R site g avs hl k r h
  unfold SQ at h
  split at h
  rotate_left
  · cases h
  obtain ⟨a0,h,a⟩:=Q2 h
  obtain ⟨a1,h,b⟩:=Q2 h
  obtain ⟨res,h,hr⟩:=Qc h
  refine ⟨_,h,fun hg=>QI.conv (avs':=[.d (D.int .i64 a0),.d (D.int .i64 a1)]) (.cons (a hg) (.cons (b hg) (.nil))) (QE (K:=kI) (res:=res) (Q1V n) (fn:=Tryz.f39) (n:=n) (ss:=[[0]]) ?_ ?_)⟩
  · exact (Q05 n a0 a1 kI).trans (hr hg)
  · exact NW

noncomputable def TC:Code:=Q8 Tryz.f38
def VW (n:Nat):VC:=⟨QK [(39,SQ n)],gtt,[cO 0 [2,3] [2,3],cK 1 [4]]⟩
theorem Tj (n:Nat):VCOk Tryz.prog (VW n):=gVC (Qe ⟨Q2p n,trivial⟩)
theorem Te (n:Nat) (a:LL) (b:Bool) (d:LL) (e:Bool) (K:AV→Option R):vfn (VW n) n Tryz.f38 [.ag [.d (D.sl 1 a),.d (D.bool b)],.ag [.d (D.sl 1 d),.d (D.bool e)]] [] (Wc [[0]] K)=U6 n a b d e (fun f=>K (.d (D.int .i64 f))):=
 (VP (c:=TC) (m:=14) (tm:=[(0,.ag [dL 1 a,dB b]),(1,.ag [dL 1 d,dB e])]) (rs:=[.tmp 4]) (tt:=gtt)).trans (by kernel_rfl)
def Wv (n:Nat):XH:=fun _ _ g avs _ k=>match avs with
 | [c0,c1]=>
  prG c0 fun l0=>(match l0 with
  | [a,b]=>prS g 1 a fun c=>prB g b fun d=>
  prG c1 fun l1=>(match l1 with
  | [e,f]=>prS g 1 e fun h=>prB g f fun i=>
  gb g (U6 n c d h i some) 0 fun r=>k ⟨.d (D.int .i64 r),[],[]⟩
  | _=>none)
  | _=>none)
 | _=>none
theorem PH (n:Nat):Qo Tryz.prog 38 (Wv n):=by
  intro R site g avs hl k r h
  unfold Wv at h
  split at h
  rotate_left
  · cases h
  obtain ⟨l0,h,e⟩:=Qq h
  split at h
  rotate_left
  · cases h
  obtain ⟨a,h,f⟩:=Q1 h
  obtain ⟨b,h,i⟩:=LO h
  obtain ⟨l1,h,e1⟩:=Qq h
  split at h
  rotate_left
  · cases h
  obtain ⟨c,h,j⟩:=Q1 h
  obtain ⟨d,h,l⟩:=LO h
  obtain ⟨res,h,hr⟩:=Qc h
  have hL:=h
  subst e e1
  refine ⟨_,hL,fun hg=>QI.conv (avs':=[.ag [.d (D.sl 1 a),.d (D.bool b)],.ag [.d (D.sl 1 c),.d (D.bool d)]]) (.cons (.ag (.cons (f hg) (.cons (i hg) (.nil)))) (.cons (.ag (.cons (j hg) (.cons (l hg) (.nil)))) (.nil))) (QE (K:=kI) (res:=res) (Tj n) (fn:=Tryz.f38) (n:=n) (ss:=[[0]]) ?_ ?_)⟩
  · exact (Te n a b c d kI).trans (hr hg)
  · exact NW

noncomputable def XR:Code:=Q8 Tryz.f79
noncomputable def QF:Code:=cA [1,2,2] (Q8 Tryz.f79)
noncomputable def X1:Code:=cA [1,2,2,1,0,2,1,2,2] (Q8 Tryz.f79)
noncomputable def XN:Code:=cA [1,2,2,1,1] (Q8 Tryz.f79)
def XU (a b:Int) (c:LL):St:=⟨53,[(0,.arr 1000000),(1,dI a),(2,dI b),(3,.fn 38 [])],[(1000000,.arr 44 2 c)]⟩
def Qs (a b c:Int) (d:LL):St:=⟨53,[(0,.arr 1000000),(1,dI a),(2,dI b),(3,.fn 38 []),(8,dI c)],[(1000000,.arr 44 2 d)]⟩
def X0 (a b c d:Int) (e:LL):St:=⟨53,[(0,.arr 1000000),(1,dI a),(2,dI b),(3,.fn 38 []),(8,dI c),(9,dI d)],[(1000000,.arr 44 2 e)]⟩
def QY (a b c:Int) (d:Bool) (e:LL):St:=⟨53,[(0,.arr 1000000),(1,dI a),(2,dI b),(3,.fn 38 []),(8,dI c),(14,dB d)],[(1000000,.arr 44 2 e)]⟩
def XW (a b c d:Int) (e:Bool) (f:LL):St:=⟨53,[(0,.arr 1000000),(1,dI a),(2,dI b),(3,.fn 38 []),(8,dI c),(9,dI d),(34,dB e)],[(1000000,.arr 44 2 f)]⟩
def Q3 (n:Nat):VC:=⟨QK [(38,Wv n)],gtt,[cO 0 (rg1 0 4 [8]) [1000000],cO 1 (rg1 0 4 [8,14]) [1000000],cO 2 (rg1 0 4 [8]) [1000000],cO 3 (rg1 0 4 [8,9]) [1000000],cO 4 (rg1 0 4 [8,9,34]) [1000000],cO 5 (rg1 0 4 [8,9]) [1000000],cO 6 (rg1 0 4 [8,9]) [1000000]]⟩
theorem Ul (n:Nat):VCOk Tryz.prog (Q3 n):=gVC (Qe ⟨PH n,trivial⟩)
theorem WS (n:Nat) (a1 a:Int) (b:LL) (k:Exit→St→Option R):Qi (Q3 n) n XR (XU a1 a b) k=XV n a1 a b (fun c=>X7 (lB (Q3 n) n QF) n (Qs a1 a c b) (Q9 0 k)):=by kernel_rfl
theorem WU (n:Nat) (a1 b a:Int) (c:LL) (k:Exit→St→Option R):Qi (Q3 n) n QF (Qs a1 b a c) k=XQ n a1 b a c (X7 (lB (Q3 n) n X1) n (X0 a1 b a a c) (Q9 2 (Q9 1 (Xf (Q3 n) n XN k)))) (fun d=>k (.exit 0) (QY a1 b a d c)):=by kernel_rfl
theorem WV (n:Nat) (a1 a b c:Int) (d:LL) (k:Exit→St→Option R):Qi (Q3 n) n X1 (X0 a1 a b c d) k=XX n a1 a b c d (fun e f=>k .normal (X0 a1 a b e f)) (fun g=>k (.exit 2) (XW a1 a b c g d)):=by kernel_rfl
theorem YE (n:Nat) (a1 c d:Int) (k:Exit→St→Option R):∀ (m:Nat) (a:Int) (b:LL),X7 (lB (Q3 n) n X1) m (X0 a1 c d a b) k=QW n a1 c d (fun a e b=>k (.exit 2) (XW a1 c d a e b)) m a b
 | 0,_,_=>rfl
 | m+1,a,b=>(lS (by kernel_rfl) m k).trans ((WV n a1 c d a b (WB (lB (Q3 n) n X1) m k)).trans (cg2 (fun f g=>XX n a1 c d a b f g ) (funext fun h=>funext fun i=>YE n a1 c d k m h i) rfl))
theorem WR (n:Nat) (a1 a c d:Int) (e:Bool) (b:LL) (k:Exit→St→Option R):(Q9 2 (Q9 1 (Xf (Q3 n) n XN k))) (.exit 2) (XW a1 a c d e b)=YK n a1 a c d e b (fun f=>k .normal (Qs a1 a f b)):=by kernel_rfl
theorem WY (n:Nat) (a1 b a:Int) (c:LL) (k:Exit→St→Option R):Qi (Q3 n) n QF (Qs a1 b a c) k=XO n a1 b a c (fun f d=>k .normal (Qs a1 b f d)) (fun g=>k (.exit 0) (QY a1 b a g c)):=
 (WU n a1 b a c k).trans (cg2 (fun e h=>XQ n a1 b a c e h ) ((YE n a1 b a (Q9 2 (Q9 1 (Xf (Q3 n) n XN k))) n a c).trans (cg1 (fun e=>QW n a1 b a e n a c) (funext fun i=>funext fun j=>funext fun d=>(WR n a1 b a i j d k)))) rfl)
theorem YC (n:Nat) (a1 c:Int) (k:Exit→St→Option R):∀ (m:Nat) (a:Int) (b:LL),X7 (lB (Q3 n) n QF) m (Qs a1 c a b) k=XP n a1 c (fun a d b=>k (.exit 0) (QY a1 c a d b)) m a b
 | 0,_,_=>rfl
 | m+1,a,b=>(lS (by kernel_rfl) m k).trans ((WY n a1 c a b (WB (lB (Q3 n) n QF) m k)).trans (cg2 (fun e f=>XO n a1 c a b e f ) (funext fun g=>funext fun h=>YC n a1 c k m g h) rfl))
theorem WX (n:Nat) (a1 a:Int) (b:LL) (k:Exit→St→Option R):Qi (Q3 n) n XR (XU a1 a b) k=YJ n a1 a b (fun c d e=>k .normal (QY a1 a c d e)):=
 (WS n a1 a b k).trans (cg1 (fun f=>XV n a1 a b f ) (funext fun g=>(YC n a1 a (Q9 0 k) n g b)))
def QG:AV→List (Nat × Ob)→Option (LL):=fun av H=>(look H 1000000).bind fun o0=>match av,o0 with
 | .tup [],.arr p0 p1 a=>bif Nat.beq p0 44&&(Nat.beq p1 2) then some a else none
 | _,_=>none
theorem Ua (n:Nat) (a:LL) (a1 c:Int):vfn (Q3 n) n Tryz.f79 [.arr 1000000,.d (D.int .i64 a1),.d (D.int .i64 c),.fn 38 []] [(1000000,.arr 44 2 a)] QG=Y4 n a a1 c some:=
 Eq.trans (b:=Qi (Q3 n) n XR (XU a1 c a) (K3 gtt [] QG)) VP ((WX n a1 c a (K3 gtt [] QG)).trans (by kernel_rfl))
def XY (n:Nat):XH:=fun _ site g avs hl k=>match avs with
 | [.gd _ _ .nil]=>bif g then none else k ⟨.nil,[],[]⟩
 | [c0,c1,b,c]=>prR hl 44 2 c0 fun l0 a=>prI g .i64 c1 fun a1=>prI g .i64 b fun d=>prF 38 c fun e=>(match e with
  | []=>
  bif UY hl [(1000000,l0)] [] then gb g (Y4 n a a1 d some) [] fun r=>gb g (Q8Q r (List.length a)) () fun _=>k ⟨.tup [],[(l0,some (.arr 44 2 r))],[l0]⟩ else none
  | _=>none)
 | _=>none
theorem Up (n:Nat):Qo Tryz.prog 79 (XY n):=by
  intro R site g avs hl k r h
  unfold XY at h
  split at h
  · exact Q62 h
  rotate_left
  · cases h
  obtain ⟨l0,a,h,d,e⟩:=QH h
  obtain ⟨a1,h,f⟩:=Q2 h
  obtain ⟨b,h,i⟩:=Q2 h
  obtain ⟨l,h,j⟩:=Rc h
  split at h
  rotate_left
  · cases h
  obtain ⟨hc,h⟩:=Xa h
  obtain ⟨res,h,hr⟩:=Qc h
  obtain ⟨_,h,hlen0⟩:=Qc h
  have hL:=h
  subst d j
  refine ⟨_,hL,fun hg=>Zl (K:=QG) (res:=res) (Ul n) (fn:=Tryz.f79) (n:=n) (by kernel_rfl) (by kernel_rfl) (by kernel_rfl) (ρ:=[(1000000,l0)]) (ν:=[]) (avs':=[.arr 1000000,.d (D.int .i64 a1),.d (D.int .i64 b),.fn 38 []]) (H:=[(1000000,.arr 44 2 a)]) (.cons (.own rfl rfl) (.cons (.data rfl (f hg)) (.cons (.data rfl (i hg)) (.cons (.own rfl rfl) (.nil))))) rfl rfl hc (⟨⟨by decide,_,_,e,rfl,.arr _ _ _⟩,trivial⟩) rfl rfl ?_ ?_⟩
  · exact (Ua n a a1 b).trans (hr hg)
  · intro av H' hx
    unfold QG at hx
    simp only [Option.bind_eq_some_iff] at hx
    obtain ⟨o0,c,hx⟩:=hx
    split at hx
    rotate_left
    · cases hx
    replace hx:=Xa hx
    obtain ⟨hck,hx⟩:=hx
    simp only [Bool.and_eq_true,Nat.beq_eq] at hck
    obtain ⟨rfl,rfl⟩:=hck
    injection hx with hx
    subst hx
    refine ⟨rfl,?_,trivial,⟨Q2Q rfl c (A7 (hlen0 hg)),trivial⟩⟩
    simp only [List.cons_append,List.nil_append,K2,c,Option.map_some,Option.map_none]
    rfl

noncomputable def Ye:Code:=Q8 Tryz.f64
noncomputable def QP:Code:=cA [1,1,2,2] (Q8 Tryz.f64)
noncomputable def Z8:Code:=cA [1,1,2,2,2,1,1,1,0] (Q8 Tryz.f64)
noncomputable def Yf:Code:=cA [1,1,2,2,2,1,1,1,1] (Q8 Tryz.f64)
def Yd (a b c:Int) (d:LL):St:=⟨148,[(0,.arr 1000000),(1,dI a),(2,dI b),(3,dI c),(4,.fn 38 [])],[(1000000,.arr 44 2 d)]⟩
def Xe (a b c:Int) (d:LL):St:=⟨148,[(0,.arr 1000000),(1,dI a),(2,dI b),(3,dI c),(4,.fn 38 []),(10,dB true),(11,dB true)],[(1000000,.arr 44 2 d)]⟩
def Xd (a:LL):St:=⟨148,[],[(1000000,.arr 44 2 a)]⟩
def Z9 (a b c d:Int) (e:Bool) (f:LL):St:=⟨148,[(0,.arr 1000000),(1,dI a),(2,dI b),(3,dI c),(4,.fn 38 []),(10,dB true),(11,dB true),(12,dI d),(32,dB e)],[(1000000,.arr 44 2 f)]⟩
def Z4 (a b c d:Int) (e:Bool) (f:LL):St:=⟨148,[(0,.arr 1000000),(1,dI a),(2,dI b),(3,dI c),(4,.fn 38 []),(10,dB true),(11,dB true),(12,dI d),(39,dB e)],[(1000000,.arr 44 2 f)]⟩
def Q5 (n:Nat):VC:=⟨QK [(79,XY n)],gtt,[cO 0 (rg1 0 5 [10]) [1000000],cO 1 (rg1 0 5 [10,11]) [1000000],cO 2 (rg1 0 5 [10,11,12]) [1000000],cO 3 (rg1 0 5 [10,11,12,25]) [1000000],cO 4 [] [1000000],cO 5 (rg1 0 5 [10,11,12,32]) [1000000],cK 6 [],cO 7 (rg1 0 5 [10,11,12,39]) [1000000],cK 8 (rg1 0 5 [10,11,12]),cK 9 (rg1 0 5 [10,11,12]),cK 10 (rg1 0 5 (rg1 10 5 [])),cK 11 (rg1 0 5 (rg1 10 5 [56])),cK 12 (rg1 0 5 (rg1 10 4 [])),cK 13 (rg1 0 5 (rg1 10 4 [])),cK 14 (rg1 0 5 (rg1 10 5 [])),cK 15 (rg1 0 5 (rg1 10 4 [75])),cK 16 (rg1 0 5 (rg1 10 4 [80])),cK 17 (rg1 0 5 (rg1 10 4 [97])),cK 18 [0,2,3,4,10,11,15],cK 19 (rg1 0 5 [10,11]),cK 20 (rg1 0 5 [12,16,17]),cK 21 (rg1 0 5 [11,12,16]),cK 22 (rg1 0 5 [11,12,16,18,19]),cK 23 (rg1 0 5 [11,16,18,19,20]),cK 24 (rg1 0 5 [11,16,18,19,20,125]),cK 25 (rg1 0 5 [10,11,16]),cK 26 [0,2,3,4,10,11,16],cK 27 (rg1 0 5 [10,11]),cK 28 (rg1 0 5 [10,11,16]),cK 29 [0,1,3,4,10,11,16],cK 30 (rg1 0 5 [10,11])]⟩
theorem Vr (n:Nat):VCOk Tryz.prog (Q5 n):=gVC (Qe ⟨Up n,trivial⟩)
theorem UL (n:Nat) (a1 a b:Int) (c:LL) (k:Exit→St→Option R):Qi (Q5 n) n Ye (Yd a1 a b c) k=Yj n a1 a b c (X7 (lB (Q5 n) n QP) n (Xe a1 a b c) (Q9 0 k)):=by kernel_rfl
theorem UO (n:Nat) (a1 a b:Int) (c:LL) (k:Exit→St→Option R):Qi (Q5 n) n QP (Xe a1 a b c) k=Yi n a1 a b c (fun d=>k .ret (Xd d)) (fun e f=>Qi (Q5 n) n Z8 (Z9 a1 a b e f c) (Xf (Q5 n) n Yf (Q9 1 k))):=by kernel_rfl
theorem UN (n:Nat) (a1 a b c:Int) (e:Bool) (d:LL) (k:Exit→St→Option R):Qi (Q5 n) n Z8 (Z9 a1 a b c e d) k=Yh n a1 a b c e d (fun f=>k .normal (Z4 a1 a b c f d)):=by kernel_rfl
theorem UM (n:Nat) (a1 a b c:Int) (d:Bool) (e:LL) (k:Exit→St→Option R):(Xf (Q5 n) n Yf (Q9 1 k)) .normal (Z4 a1 a b c d e)=Z6 n a1 a b c d e  := by kernel_rfl
theorem UQ (n:Nat) (a1 a b:Int) (c:LL) (k:Exit→St→Option R):Qi (Q5 n) n QP (Xe a1 a b c) k=Yg n a1 a b c (fun g=>k .ret (Xd g)):=
 (UO n a1 a b c k).trans (cg2 (fun d h=>Yi n a1 a b c d h ) rfl (funext fun e=>funext fun f=>(UN n a1 a b e f c (Xf (Q5 n) n Yf (Q9 1 k))).trans (cg1 (fun d=>Yh n a1 a b e f c d ) (funext fun i=>(UM n a1 a b e i c k)))))
theorem UR (n:Nat) (a1 a b:Int) (c:LL) (k:Exit→St→Option R):∀ (m:Nat) ,X7 (lB (Q5 n) n QP) m (Xe a1 a b c) k=Z5 n a1 a b c (fun d=>k .ret (Xd d)) m
 | 0=>rfl
 | m+1=>(lS (by kernel_rfl) m k).trans ((UQ n a1 a b c (WB (lB (Q5 n) n QP) m k)).trans (cg1 (fun e=>Yg n a1 a b c e ) rfl))
theorem UP (n:Nat) (a1 a b:Int) (c:LL) (k:Exit→St→Option R):Qi (Q5 n) n Ye (Yd a1 a b c) k=Z7 n a1 a b c (fun d=>k .ret (Xd d)):=
 (UL n a1 a b c k).trans (cg1 (fun e=>Yj n a1 a b c e ) ((UR n a1 a b c (Q9 0 k) n )))
def QQ:AV→List (Nat × Ob)→Option (LL):=fun av H=>(look H 1000000).bind fun o0=>match av,o0 with
 | .tup [],.arr p0 p1 a=>bif Nat.beq p0 44&&(Nat.beq p1 2) then some a else none
 | _,_=>none
theorem Vq (n:Nat) (a:LL) (a1 c d:Int):vfn (Q5 n) n Tryz.f64 [.arr 1000000,.d (D.int .i64 a1),.d (D.int .i64 c),.d (D.int .i64 d),.fn 38 []] [(1000000,.arr 44 2 a)] QQ=Yu n a a1 c d some:=
 Eq.trans (b:=Qi (Q5 n) n Ye (Yd a1 c d a) (K3 gtt [] QQ)) VP ((UP n a1 c d a (K3 gtt [] QQ)).trans (by kernel_rfl))
def Yp (n:Nat):XH:=fun _ site g avs hl k=>match avs with
 | [.gd _ _ .nil]=>bif g then none else k ⟨.nil,[],[]⟩
 | [c0,c1,b,c,d]=>prR hl 44 2 c0 fun l0 a=>prI g .i64 c1 fun a1=>prI g .i64 b fun e=>prI g .i64 c fun f=>prF 38 d fun h=>(match h with
  | []=>
  bif UY hl [(1000000,l0)] [] then gb g (Yu n a a1 e f some) [] fun r=>gb g (Q8Q r (List.length a)) () fun _=>k ⟨.tup [],[(l0,some (.arr 44 2 r))],[l0]⟩ else none
  | _=>none)
 | _=>none
theorem Vs (n:Nat):Qo Tryz.prog 64 (Yp n):=by
  intro R site g avs hl k r h
  unfold Yp at h
  split at h
  · exact Q62 h
  rotate_left
  · cases h
  obtain ⟨l0,a,h,e,f⟩:=QH h
  obtain ⟨a1,h,i⟩:=Q2 h
  obtain ⟨b,h,j⟩:=Q2 h
  obtain ⟨c,h,l⟩:=Q2 h
  obtain ⟨o,h,m⟩:=Rc h
  split at h
  rotate_left
  · cases h
  obtain ⟨hc,h⟩:=Xa h
  obtain ⟨res,h,hr⟩:=Qc h
  obtain ⟨_,h,hlen0⟩:=Qc h
  have hL:=h
  subst e m
  refine ⟨_,hL,fun hg=>Zl (K:=QQ) (res:=res) (Vr n) (fn:=Tryz.f64) (n:=n) (by kernel_rfl) (by kernel_rfl) (by kernel_rfl) (ρ:=[(1000000,l0)]) (ν:=[]) (avs':=[.arr 1000000,.d (D.int .i64 a1),.d (D.int .i64 b),.d (D.int .i64 c),.fn 38 []]) (H:=[(1000000,.arr 44 2 a)]) (.cons (.own rfl rfl) (.cons (.data rfl (i hg)) (.cons (.data rfl (j hg)) (.cons (.data rfl (l hg)) (.cons (.own rfl rfl) (.nil)))))) rfl rfl hc (⟨⟨by decide,_,_,f,rfl,.arr _ _ _⟩,trivial⟩) rfl rfl ?_ ?_⟩
  · exact (Vq n a a1 b c).trans (hr hg)
  · intro av H' hx
    unfold QQ at hx
    simp only [Option.bind_eq_some_iff] at hx
    obtain ⟨o0,d,hx⟩:=hx
    split at hx
    rotate_left
    · cases hx
    replace hx:=Xa hx
    obtain ⟨hck,hx⟩:=hx
    simp only [Bool.and_eq_true,Nat.beq_eq] at hck
    obtain ⟨rfl,rfl⟩:=hck
    injection hx with hx
    subst hx
    refine ⟨rfl,?_,trivial,⟨Q2Q rfl d (A7 (hlen0 hg)),trivial⟩⟩
    simp only [List.cons_append,List.nil_append,K2,d,Option.map_some,Option.map_none]
    rfl

end Go.Vx
set_option maxRecDepth 100000
namespace Go.Vx
open Go.Proofs
noncomputable def Zz:Code:=Q8 Tryz.f37
def Yk (n:Nat):VC:=⟨QK [(65,NZ n),(64,Yp n)],gtt,[cO 0 [0,1,4] [1000000],cO 1 [] [1000000]]⟩
theorem ZC (n:Nat):VCOk Tryz.prog (Yk n):=gVC (Qe ⟨Q4y n,⟨Vs n,trivial⟩⟩)
def X3:AV→List (Nat × Ob)→Option (LL):=fun av H=>(look H 1000000).bind fun o0=>match av,o0 with
 | .tup [],.arr p0 p1 a=>bif Nat.beq p0 44&&(Nat.beq p1 2) then some a else none
 | _,_=>none
theorem Zy (n:Nat) (a:LL):vfn (Yk n) n Tryz.f37 [.arr 1000000,.fn 38 []] [(1000000,.arr 44 2 a)] X3=X9 n a some:=
 (VP (c:=Zz) (m:=14) (tm:=[(0,.arr 1000000),(1,.fn 38 [])]) (rs:=[]) (tt:=gtt)).trans (by kernel_rfl)
def X5 (n:Nat):XH:=fun _ site g avs hl k=>match avs with
 | [.gd _ _ .nil]=>bif g then none else k ⟨.nil,[],[]⟩
 | [c0,c1]=>prR hl 44 2 c0 fun l0 a=>prF 38 c1 fun b=>(match b with
  | []=>
  bif UY hl [(1000000,l0)] [] then gb g (X9 n a some) [] fun r=>gb g (Q8Q r (List.length a)) () fun _=>k ⟨.tup [],[(l0,some (.arr 44 2 r))],[l0]⟩ else none
  | _=>none)
 | _=>none
theorem ZA (n:Nat):Qo Tryz.prog 37 (X5 n):=by
  intro R site g avs hl k r h
  unfold X5 at h
  split at h
  · exact Q62 h
  rotate_left
  · cases h
  obtain ⟨l0,a,h,c,d⟩:=QH h
  obtain ⟨f,h,e⟩:=Rc h
  split at h
  rotate_left
  · cases h
  obtain ⟨hc,h⟩:=Xa h
  obtain ⟨res,h,hr⟩:=Qc h
  obtain ⟨_,h,hlen0⟩:=Qc h
  have hL:=h
  subst c e
  refine ⟨_,hL,fun hg=>Zl (K:=X3) (res:=res) (ZC n) (fn:=Tryz.f37) (n:=n) (by kernel_rfl) (by kernel_rfl) (by kernel_rfl) (ρ:=[(1000000,l0)]) (ν:=[]) (avs':=[.arr 1000000,.fn 38 []]) (H:=[(1000000,.arr 44 2 a)]) (.cons (.own rfl rfl) (.cons (.own rfl rfl) (.nil))) rfl rfl hc (⟨⟨by decide,_,_,d,rfl,.arr _ _ _⟩,trivial⟩) rfl rfl ?_ ?_⟩
  · exact (Zy n a).trans (hr hg)
  · intro av H' hx
    unfold X3 at hx
    simp only [Option.bind_eq_some_iff] at hx
    obtain ⟨o0,b,hx⟩:=hx
    split at hx
    rotate_left
    · cases hx
    replace hx:=Xa hx
    obtain ⟨hck,hx⟩:=hx
    simp only [Bool.and_eq_true,Nat.beq_eq] at hck
    obtain ⟨rfl,rfl⟩:=hck
    injection hx with hx
    subst hx
    refine ⟨rfl,?_,trivial,⟨Q2Q rfl b (A7 (hlen0 hg)),trivial⟩⟩
    simp only [List.cons_append,List.nil_append,K2,b,Option.map_some,Option.map_none]
    rfl
end Go.Vx
set_option maxRecDepth 100000
namespace Go.Vx
open Go.Proofs
variable {R:Type}
noncomputable def Gp:Code:=Q8 Tryz.f16
noncomputable def Vn:Code:=cA [1,1,1,0,1,2,2] (Q8 Tryz.f16)
noncomputable def Gw:Code:=cA [1,1,1,1] (Q8 Tryz.f16)
noncomputable def Vl:Code:=cA [1,1,1,1,1,1,1,0,1,2,2] (Q8 Tryz.f16)
noncomputable def Vk:Code:=cA [1,1,1,1,1,1,1,1] (Q8 Tryz.f16)
noncomputable def Vp:Code:=cA [1,1,1,1,1,1,1,1,0,1,2,2] (Q8 Tryz.f16)
noncomputable def Vj:Code:=cA [1,1,1,1,1,1,1,1,1] (Q8 Tryz.f16)
def Gv (a:Int) (b c d e f g h:LL):St:=⟨68,[(0,.ag [dI a,dL 5 b,dL 2 c,dL 4 d,dL 7 e,dL 4 f,dL 5 g,dL 3 h])],[]⟩
def Gt (a:LL) (b c d:Int) (e f g h i j k l m:LL):St:=⟨68,[(1,.ptr 1 0),(3,.ptr 3 0),(4,.arr 17),(19,dL 4 a),(20,dI b),(21,dI c)],[(1,.box [dI d,dL 5 e,dL 2 f,dL 4 g,dL 7 h,dL 4 i,dL 5 j,dL 3 k]),(3,.box [dL 1 l]),(17,.arr 4 1 m)]⟩
def Ge (a:LL) (b c:Int) (d:Bool) (e:Int) (f g h i j k l m n:LL):St:=⟨68,[(1,.ptr 1 0),(3,.ptr 3 0),(4,.arr 17),(19,dL 4 a),(20,dI b),(21,dI c),(22,dB d)],[(1,.box [dI e,dL 5 f,dL 2 g,dL 4 h,dL 7 i,dL 4 j,dL 5 k,dL 3 l]),(3,.box [dL 1 m]),(17,.arr 4 1 n)]⟩
def Gd (a b c:Int) (d e f g h i j k l m n:LL):St:=⟨68,[(1,.ptr 1 0),(4,.arr 17),(7,.ptr 7 0),(8,.ptr 8 0),(9,.fn 36 [.ptr 8 0,.ptr 3 0,.ptr 1 0,.ptr 7 0]),(37,dI a),(38,dI b)],[(1,.box [dI c,dL 5 d,dL 2 e,dL 4 f,dL 7 g,dL 4 h,dL 5 i,dL 3 j]),(3,.box [dL 1 k]),(7,.box [.arr 1070]),(8,.box [.arr 33]),(17,.arr 4 1 l),(33,.arr 4 1 m),(1070,.arr 44 2 n)]⟩
def G8 (a b:Int) (c:Bool) (d:Int) (e f g h i j k l m n o:LL):St:=⟨68,[(1,.ptr 1 0),(4,.arr 17),(7,.ptr 7 0),(8,.ptr 8 0),(9,.fn 36 [.ptr 8 0,.ptr 3 0,.ptr 1 0,.ptr 7 0]),(37,dI a),(38,dI b),(39,dB c)],[(1,.box [dI d,dL 5 e,dL 2 f,dL 4 g,dL 7 h,dL 4 i,dL 5 j,dL 3 k]),(3,.box [dL 1 l]),(7,.box [.arr 1070]),(8,.box [.arr 33]),(17,.arr 4 1 m),(33,.arr 4 1 n),(1070,.arr 44 2 o)]⟩
def Gm (a b c:Int) (d e f g h i j k l m:LL):St:=⟨68,[(7,.ptr 7 0),(8,.ptr 8 0),(9,.fn 36 [.ptr 8 0,.ptr 3 0,.ptr 1 0,.ptr 7 0]),(52,dI a),(53,dI b)],[(1,.box [dI c,dL 5 d,dL 2 e,dL 4 f,dL 7 g,dL 4 h,dL 5 i,dL 3 j]),(3,.box [dL 1 k]),(7,.box [.arr 1070]),(8,.box [.arr 33]),(33,.arr 4 1 l),(1070,.arr 44 2 m)]⟩
def Gn (a b:Int) (c:Bool) (d:Int) (e f g h i j k l m n:LL):St:=⟨68,[(7,.ptr 7 0),(8,.ptr 8 0),(9,.fn 36 [.ptr 8 0,.ptr 3 0,.ptr 1 0,.ptr 7 0]),(52,dI a),(53,dI b),(54,dB c)],[(1,.box [dI d,dL 5 e,dL 2 f,dL 4 g,dL 7 h,dL 4 i,dL 5 j,dL 3 k]),(3,.box [dL 1 l]),(7,.box [.arr 1070]),(8,.box [.arr 33]),(33,.arr 4 1 m),(1070,.arr 44 2 n)]⟩
def Qf (n:Nat):VC:=⟨QK [(35,SV n),(36,Zr n),(37,X5 n)],gtt,[cO 0 [1] [1],cO 1 [1,3] [1,3],cO 2 [1,3,4] [1,3,17],cO 3 [1,3,4,19,20,21] [1,3,17],cO 4 [1,3,4,19,20,21,22] [1,3,17],cO 5 [1,3,4,6,19,20,21] [1,3,6,17],cO 6 [1,3,4,19,20,21] [1,3,17],cO 7 [1,3,4,19,20,21] [1,3,17],cO 8 [1,3,4,7] [1,3,7,17],cO 9 [1,3,4,7,8] [1,3,7,8,17,33],cO 10 [1,4,7,8,9] [1,3,7,8,17,33],(11,⟨[1,4,7,8,9,37,38],(zp [1,3,7,8,17,33] [1,3,7,8,17,33]),[],[(7,0,1070,44,2)],[]⟩),cO 12 [1,4,7,8,9,37,38,39] [1,3,7,8,17,33,1070],cO 13 [1,4,7,8,9,10,37,38] [1,3,7,8,17,33,1070],(14,⟨[1,4,7,8,9,10,37,38,45],(zp [1,3,7,8,17,33,1070] [1,3,7,8,17,33,1070]),[],[(7,0,2280,44,2)],[]⟩),cO 15 [1,4,7,8,9,37,38] [1,3,7,8,17,50048,100048],cO 16 [1,4,7,8,9,37,38] [1,3,7,8,17,50048,100048,33,1070],cO 17 [7,8,9,52,53] [1,3,7,8,33,1070],cO 18 [7,8,9,52,53,54] [1,3,7,8,33,1070],cO 19 [7,8,9,11,52,53] [1,3,7,8,33,1070],cO 20 [7,8,9,11,52,53,60] [1,3,7,8,33,1070],cO 21 [7,8,9,52,53] [1,3,7,8,50063,100063],cO 22 [7,8,9,52,53] [1,3,7,8,50063,100063,33,1070],cO 23 [7] [7,1070],cO 24 [2] [1070],(3000000012,⟨[1,4,7,8,9,37,38],(zp [1,3,7,8,17,33,50048,1070,100048] [1,3,7,8,17,33,33,1070,1070]),[],[],[]⟩),(3000000018,⟨[7,8,9,52,53],(zp [1,3,7,8,33,50063,1070,100063] [1,3,7,8,33,33,1070,1070]),[],[],[]⟩)]⟩
theorem Cm (n:Nat):VCOk Tryz.prog (Qf n):=gVC (Qe ⟨Q1d n,⟨Hf n,⟨ZA n,trivial⟩⟩⟩)
theorem F5 (n:Nat) (b:Int) (c d e f a g h:LL) (k:Exit→St→Option R):Qi (Qf n) n Gp (Gv b c d e f a g h) k=Gq n b c d e f a g h (fun i j l=>X7 (lB (Qf n) n Vn) n ⟨68,[(1,.ptr 1 0),(3,.ptr 3 0),(4,.arr 17),(19,dL 4 a),(20,dI i),(21,dI (0:Int))],[(1,.box [dI b,dL 5 c,dL 2 d,dL 4 e,dL 7 f,dL 4 a,dL 5 g,dL 3 h]),(3,.box [dL 1 j]),(17,.arr 4 1 l)]⟩ (Q9 0 (Xf (Qf n) n Gw k))):=by kernel_rfl
theorem Fj (n:Nat) (a:LL) (b j c:Int) (d e f g h i w7 l:LL) (k:Exit→St→Option R):Qi (Qf n) n Vn (Gt a b j c d e f g a h i w7 l) k=GA n a b j c d e f g h i w7 l (fun m o=>k .normal (Gt a b m c d e f g a h i w7 o)) (fun p=>k (.exit 0) (Ge a b j p c d e f g a h i w7 l)):=by kernel_rfl
theorem He (n:Nat) (a:LL) (d e:Int) (f g h i j l w7:LL) (k:Exit→St→Option R):∀ (m:Nat) (b:Int) (c:LL),X7 (lB (Qf n) n Vn) m (Gt a d b e f g h i a j l w7 c) k=Vi n a d e f g h i j l w7 (fun b o c=>k (.exit 0) (Ge a d b o e f g h i a j l w7 c)) m b c
 | 0,_,_=>rfl
 | m+1,b,c=>(lS (by kernel_rfl) m k).trans ((Fj n a d b e f g h i j l w7 c (WB (lB (Qf n) n Vn) m k)).trans (cg2 (fun p q=>GA n a d b e f g h i j l w7 c p q ) (funext fun r=>funext fun s=>He n a d e f g h i j l w7 k m r s) rfl))
theorem Fh (n:Nat) (a:LL) (j l:Int) (m:Bool) (b:Int) (c d e f g h w7 i:LL) (k:Exit→St→Option R):(Q9 0 (Xf (Qf n) n Gw k)) (.exit 0) (Ge a j l m b c d e f a g h w7 i)=Gb n a j l m b c d e f g h w7 i (fun o p=>X7 (lB (Qf n) n Vl) n ⟨68,[(1,.ptr 1 0),(4,.arr 17),(7,.ptr 7 0),(8,.ptr 8 0),(9,.fn 36 [.ptr 8 0,.ptr 3 0,.ptr 1 0,.ptr 7 0]),(37,dI o),(38,dI (0:Int))],[(1070,.arr 44 2 []),(7,.box [.arr 1070]),(1,.box [dI b,dL 5 c,dL 2 d,dL 4 e,dL 7 f,dL 4 a,dL 5 g,dL 3 h]),(3,.box [dL 1 w7]),(8,.box [.arr 33]),(17,.arr 4 1 i),(33,.arr 4 1 p)]⟩ (Q9 2 (Xf (Qf n) n Vk k))):=by kernel_rfl
theorem LY (n:Nat) (a p c:Int) (d e f g h i j l b m o:LL) (k:Exit→St→Option R):Qi (Qf n) n Vl (Gd a p c d e f g h i j l b m o) k=Gx n a p c d e f g h i j l b m o (fun q r s t u v w x y z aa ab=>k .normal ⟨68,[(1,.ptr 1 0),(4,.arr 17),(7,.ptr 7 0),(8,.ptr 8 0),(9,.fn 36 [.ptr 8 0,.ptr 3 0,.ptr 1 0,.ptr 7 0]),(37,dI a),(38,dI q)],[(1,.box [dI r,dL 5 s,dL 2 t,dL 4 u,dL 7 v,dL 4 w,dL 5 x,dL 3 y]),(3,.box [dL 1 z]),(7,.box [.arr 100048]),(8,.box [.arr 50048]),(17,.arr 4 1 b),(50048,.arr 4 1 aa),(100048,.arr 44 2 ab)]⟩) (fun ac=>k .normal (Gd a ac c d e f g h i j l b m o)) (fun ad=>k (.exit 2) (G8 a p ad c d e f g h i j l b m o)):=by kernel_rfl
theorem VQ (n:Nat) (o:Int) (p:LL) (k:Exit→St→Option R):∀ (m:Nat) (q a:Int) (b c d e f g h i j l:LL),X7 (lB (Qf n) n Vl) m (Gd o q a b c d e f g h i p j l) k=WG n o p (fun q r a b c d e f g h i j l=>k (.exit 2) (G8 o q r a b c d e f g h i p j l)) m q a b c d e f g h i j l
 | 0,_,_,_,_,_,_,_,_,_,_,_,_=>rfl
 | m+1,q,a,b,c,d,e,f,g,h,i,j,l=>(lS (by kernel_rfl) m k).trans ((LY n o q a b c d e f g h i p j l (WB (lB (Qf n) n Vl) m k)).trans (cg3 (fun s t u=>Gx n o q a b c d e f g h i p j l s t u ) (funext fun v=>funext fun w=>funext fun x=>funext fun y=>funext fun z=>funext fun aa=>funext fun ab=>funext fun ac=>funext fun ad=>funext fun ae=>funext fun af=>funext fun ag=>(XM (by kernel_rfl) m k).trans (VQ n o p k m v w x y z aa ab ac ad ae af ag)) (funext fun ah=>(XM (by kernel_rfl) m k).trans (VQ n o p k m ah a b c d e f g h i j l)) rfl))
theorem Fk (n:Nat) (m o:Int) (p:Bool) (a:Int) (b c d e f g h i q j l:LL) (k:Exit→St→Option R):(Q9 2 (Xf (Qf n) n Vk k)) (.exit 2) (G8 m o p a b c d e f g h i q j l)=Gy n m o p a b c d e f g h i q j l (fun r=>X7 (lB (Qf n) n Vp) n ⟨68,[(7,.ptr 7 0),(8,.ptr 8 0),(9,.fn 36 [.ptr 8 0,.ptr 3 0,.ptr 1 0,.ptr 7 0]),(52,dI r),(53,dI (0:Int))],[(1,.box [dI a,dL 5 b,dL 2 c,dL 4 d,dL 7 e,dL 4 f,dL 5 g,dL 3 h]),(3,.box [dL 1 i]),(7,.box [.arr 1070]),(8,.box [.arr 33]),(33,.arr 4 1 j),(1070,.arr 44 2 l)]⟩ (Q9 4 (Xf (Qf n) n Vj k))):=by kernel_rfl
theorem Fe (n:Nat) (a o b:Int) (c d e f g h i j l m:LL) (k:Exit→St→Option R):Qi (Qf n) n Vp (Gm a o b c d e f g h i j l m) k=Gi n a o b c d e f g h i j l m (fun p q r s t u v w x y z aa=>k .normal ⟨68,[(7,.ptr 7 0),(8,.ptr 8 0),(9,.fn 36 [.ptr 8 0,.ptr 3 0,.ptr 1 0,.ptr 7 0]),(52,dI a),(53,dI p)],[(1,.box [dI q,dL 5 r,dL 2 s,dL 4 t,dL 7 u,dL 4 v,dL 5 w,dL 3 x]),(3,.box [dL 1 y]),(7,.box [.arr 100063]),(8,.box [.arr 50063]),(50063,.arr 4 1 z),(100063,.arr 44 2 aa)]⟩) (fun ab=>k .normal (Gm a ab b c d e f g h i j l m)) (fun ac=>k (.exit 4) (Gn a o ac b c d e f g h i j l m)):=by kernel_rfl
theorem VT (n:Nat) (o:Int) (k:Exit→St→Option R):∀ (m:Nat) (p a:Int) (b c d e f g h i j l:LL),X7 (lB (Qf n) n Vp) m (Gm o p a b c d e f g h i j l) k=WE n o (fun p q a b c d e f g h i j l=>k (.exit 4) (Gn o p q a b c d e f g h i j l)) m p a b c d e f g h i j l
 | 0,_,_,_,_,_,_,_,_,_,_,_,_=>rfl
 | m+1,p,a,b,c,d,e,f,g,h,i,j,l=>(lS (by kernel_rfl) m k).trans ((Fe n o p a b c d e f g h i j l (WB (lB (Qf n) n Vp) m k)).trans (cg3 (fun r s t=>Gi n o p a b c d e f g h i j l r s t ) (funext fun u=>funext fun v=>funext fun w=>funext fun x=>funext fun y=>funext fun z=>funext fun aa=>funext fun ab=>funext fun ac=>funext fun ad=>funext fun ae=>funext fun af=>(XM (by kernel_rfl) m k).trans (VT n o k m u v w x y z aa ab ac ad ae af)) (funext fun ag=>(XM (by kernel_rfl) m k).trans (VT n o k m ag a b c d e f g h i j l)) rfl))
theorem Lf (n:Nat) (a b:Int) (c:Bool) (d:Int) (e f g h i j l m o p:LL) (k:Exit→St→Option R):(Q9 4 (Xf (Qf n) n Vj k)) (.exit 4) (Gn a b c d e f g h i j l m o p)=PG n a b c d e f g h i j l m o p (fun q=>k .ret ⟨68,[(2,.arr 1070)],[(1070,.arr 44 2 q)]⟩):=by kernel_rfl
theorem Lk (n:Nat) (b:Int) (c d e f g h i:LL) (k:Exit→St→Option R):Qi (Qf n) n Gp (Gv b c d e f g h i) k=Th n b c d e f g h i (fun ag=>k .ret ⟨68,[(2,.arr 1070)],[(1070,.arr 44 2 ag)]⟩):=
 (F5 n b c d e f g h i k).trans (cg1 (fun a=>Gq n b c d e f g h i a ) (funext fun l=>funext fun w7=>funext fun w8=>(He n g l b c d e f h i w7 (Q9 0 (Xf (Qf n) n Gw k)) n (0:Int) w8).trans (cg1 (fun a=>Vi n g l b c d e f h i w7 a n (0:Int) w8) (funext fun ab=>funext fun ac=>funext fun j=>(Fh n g l ab ac b c d e f h i w7 j k).trans (cg1 (fun a=>Gb n g l ab ac b c d e f h i w7 j a ) (funext fun m=>funext fun ad=>((XM (by kernel_rfl) n (Q9 2 (Xf (Qf n) n Vk k))).trans (VQ n m j (Q9 2 (Xf (Qf n) n Vk k)) n (0:Int) b c d e f g h i w7 ad [])).trans (cg1 (fun a=>WG n m j a n (0:Int) b c d e f g h i w7 ad []) (funext fun ae=>funext fun af=>funext fun o=>funext fun p=>funext fun q=>funext fun r=>funext fun s=>funext fun t=>funext fun u=>funext fun v=>funext fun w=>funext fun x=>funext fun y=>(Fk n m ae af o p q r s t u v w j x y k).trans (cg1 (fun a=>Gy n m ae af o p q r s t u v w j x y a ) (funext fun z=>((XM (by kernel_rfl) n (Q9 4 (Xf (Qf n) n Vj k))).trans (VT n z (Q9 4 (Xf (Qf n) n Vj k)) n (0:Int) o p q r s t u v w x y)).trans (cg1 (fun a=>WE n z a n (0:Int) o p q r s t u v w x y) (funext fun ah=>funext fun ai=>funext fun aj=>funext fun ak=>funext fun al=>funext fun am=>funext fun an=>funext fun ao=>funext fun ap=>funext fun aq=>funext fun ar=>funext fun au=>funext fun av=>(Lf n z ah ai aj ak al am an ao ap aq ar au av k)))))))))))))
theorem Dd (n:Nat) (a:Int) (c d e f g h i:LL) (K:AV→Option R):vfn (Qf n) n Tryz.f16 [.ag [.d (D.int .i64 a),.d (D.sl 5 c),.d (D.sl 2 d),.d (D.sl 4 e),.d (D.sl 7 f),.d (D.sl 4 g),.d (D.sl 5 h),.d (D.sl 3 i)]] [] (Wc [[2]] K)=JC n a c d e f g h i (fun j=>K (.d (D.sl 2 j))):=
 Eq.trans (b:=Qi (Qf n) n Gp (Gv a c d e f g h i) (K3 gtt [.tmp 2] (Wc [[2]] K))) VP ((Lk n a c d e f g h i (K3 gtt [.tmp 2] (Wc [[2]] K))).trans (by kernel_rfl))
def KA:AV→Option (LL):=fun av=>match av with
 | .d (D.sl 2 a)=>some a
 | _=>none
def Kf (n:Nat):XH:=fun _ _ g avs _ k=>match avs with
 | [c0]=>
  prG c0 fun l0=>(match l0 with
  | [a,b,c,d,e,f,h,i]=>prI g .i64 a fun j=>prS g 5 b fun l=>prS g 2 c fun m=>prS g 4 d fun o=>prS g 7 e fun p=>prS g 4 f fun q=>prS g 5 h fun s=>prS g 3 i fun t=>
  gb g (JC n j l m o p q s t some) [] fun r=>k ⟨.d (D.sl 2 r),[],[]⟩
  | _=>none)
 | _=>none
theorem C9 (n:Nat):Qo Tryz.prog 16 (Kf n):=by
  intro R site g avs hl k r h
  unfold Kf at h
  split at h
  rotate_left
  · cases h
  obtain ⟨l0,h,l⟩:=Qq h
  split at h
  rotate_left
  · cases h
  obtain ⟨a,h,m⟩:=Q2 h
  obtain ⟨b,h,o⟩:=Q1 h
  obtain ⟨c,h,p⟩:=Q1 h
  obtain ⟨d,h,q⟩:=Q1 h
  obtain ⟨e,h,s⟩:=Q1 h
  obtain ⟨f,h,t⟩:=Q1 h
  obtain ⟨i,h,u⟩:=Q1 h
  obtain ⟨j,h,v⟩:=Q1 h
  obtain ⟨res,h,hr⟩:=Qc h
  have hL:=h
  subst l
  refine ⟨_,hL,fun hg=>QI.conv (avs':=[.ag [.d (D.int .i64 a),.d (D.sl 5 b),.d (D.sl 2 c),.d (D.sl 4 d),.d (D.sl 7 e),.d (D.sl 4 f),.d (D.sl 5 i),.d (D.sl 3 j)]]) (.cons (.ag (.cons (m hg) (.cons (o hg) (.cons (p hg) (.cons (q hg) (.cons (s hg) (.cons (t hg) (.cons (u hg) (.cons (v hg) (.nil)))))))))) (.nil)) (QE (K:=KA) (res:=res) (Cm n) (fn:=Tryz.f16) (n:=n) (ss:=[[2]]) ?_ ?_)⟩
  · exact (Dd n a b c d e f i j KA).trans (hr hg)
  · intro x hx
    unfold KA at hx
    split at hx
    · injection hx with hx;subst hx;rfl
    · cases hx
noncomputable def Q01:Code:=Q8 Tryz.f5
def Ly (n:Nat):VC:=⟨QK [(15,BZ n),(16,Kf n)],gtt,[cO 0 [2,3] [2,3],cO 1 [3,9] [3],cK 2 [4,5],cK 3 [4,5]]⟩
theorem AX (n:Nat):VCOk Tryz.prog (Ly n):=gVC (Qe ⟨Q8x n,⟨C9 n,trivial⟩⟩)
theorem Aq (n:Nat) (a b d e:LL) (f:Int) (g h i j k l o:LL) (K:AV→Option R):vfn (Ly n) n Tryz.f5 [.ag [.d (D.sl 1 a),.d (D.sl 1 b),.d (D.sl 5 d),.d (D.sl 6 e)],.ag [.d (D.int .i64 f),.d (D.sl 5 g),.d (D.sl 2 h),.d (D.sl 4 i),.d (D.sl 7 j),.d (D.sl 4 k),.d (D.sl 5 l),.d (D.sl 3 o)]] [] (Wc [[2],[0]] K)=Ho n a b d e f g h i j k l o (fun p q=>K (.tup [.d (D.sl 2 p),.d (D.int .i64 q)])):=
 (VP (c:=Q01) (m:=12) (tm:=[(0,.ag [dL 1 a,dL 1 b,dL 5 d,dL 6 e]),(1,.ag [dI f,dL 5 g,dL 2 h,dL 4 i,dL 7 j,dL 4 k,dL 5 l,dL 3 o])]) (rs:=[.tmp 4,.tmp 5]) (tt:=gtt)).trans (by kernel_rfl)
def Px:AV→Option (LL × Int):=fun av=>match av with
 | .tup [.d (D.sl 2 a),.d (D.int .i64 b)]=>some (a,b)
 | _=>none
def Ph (n:Nat):XH:=fun _ _ g avs _ k=>match avs with
 | [c0,c1]=>
  prG c0 fun l0=>(match l0 with
  | [a,b,c,d]=>prS g 1 a fun e=>prS g 1 b fun f=>prS g 5 c fun h=>prS g 6 d fun i=>
  prG c1 fun l1=>(match l1 with
  | [j,l,m,o,p,q,s,t]=>prI g .i64 j fun u=>prS g 5 l fun v=>prS g 2 m fun w=>prS g 4 o fun x=>prS g 7 p fun y=>prS g 4 q fun z=>prS g 5 s fun aa=>prS g 3 t fun ab=>
  gb g (Ho n e f h i u v w x y z aa ab (fun r0 r1=>some (r0,r1))) ([],0) fun r=>k ⟨.tup [.d (D.sl 2 r.1),.d (D.int .i64 r.2)],[],[]⟩
  | _=>none)
  | _=>none)
 | _=>none
theorem Q06 (n:Nat):Qo Tryz.prog 5 (Ph n):=by
  intro R site g avs hl k r h
  unfold Ph at h
  split at h
  rotate_left
  · cases h
  obtain ⟨l0,h,q⟩:=Qq h
  split at h
  rotate_left
  · cases h
  obtain ⟨a,h,s⟩:=Q1 h
  obtain ⟨b,h,t⟩:=Q1 h
  obtain ⟨c,h,u⟩:=Q1 h
  obtain ⟨d,h,v⟩:=Q1 h
  obtain ⟨l1,h,e1⟩:=Qq h
  split at h
  rotate_left
  · cases h
  obtain ⟨e,h,w⟩:=Q2 h
  obtain ⟨f,h,y⟩:=Q1 h
  obtain ⟨i,h,z⟩:=Q1 h
  obtain ⟨j,h,aa⟩:=Q1 h
  obtain ⟨l,h,ab⟩:=Q1 h
  obtain ⟨m,h,ac⟩:=Q1 h
  obtain ⟨o,h,ad⟩:=Q1 h
  obtain ⟨p,h,ae⟩:=Q1 h
  obtain ⟨res,h,hr⟩:=Qc h
  have hL:=h
  subst q e1
  refine ⟨_,hL,fun hg=>QI.conv (avs':=[.ag [.d (D.sl 1 a),.d (D.sl 1 b),.d (D.sl 5 c),.d (D.sl 6 d)],.ag [.d (D.int .i64 e),.d (D.sl 5 f),.d (D.sl 2 i),.d (D.sl 4 j),.d (D.sl 7 l),.d (D.sl 4 m),.d (D.sl 5 o),.d (D.sl 3 p)]]) (.cons (.ag (.cons (s hg) (.cons (t hg) (.cons (u hg) (.cons (v hg) (.nil)))))) (.cons (.ag (.cons (w hg) (.cons (y hg) (.cons (z hg) (.cons (aa hg) (.cons (ab hg) (.cons (ac hg) (.cons (ad hg) (.cons (ae hg) (.nil)))))))))) (.nil))) (QE (K:=Px) (res:=res) (AX n) (fn:=Tryz.f5) (n:=n) (ss:=[[2],[0]]) ?_ ?_)⟩
  · exact (Aq n a b c d e f i j l m o p Px).trans (hr hg)
  · intro x hx
    unfold Px at hx
    split at hx
    · injection hx with hx;subst hx;rfl
    · cases hx

noncomputable def D2:Code:=Q8 Tryz.f6
noncomputable def NC:Code:=cA [1,0,1,2,2] (Q8 Tryz.f6)
noncomputable def Dk:Code:=cA [1,1] (Q8 Tryz.f6)
def Ez (a b c:Int) (d e f g h i j:LL):St:=⟨28,[(1,dI a),(2,.ptr 2 0),(4,.ptr 4 0),(6,dI b)],[(2,.box [dI c,dL 5 d,dL 2 e,dL 4 f,dL 7 g,dL 4 h,dL 5 i,dL 3 j]),(4,.box [dI (0:Int),dI (0:Int),dI (0:Int),dI (0:Int)])]⟩
def D9 (a b c d:D):St:=⟨28,[(4,.ptr 4 0),(5,dB true)],[(4,.box [.d a,.d b,.d c,.d d])]⟩
def Dh (a b:Int) (c:Bool) (d:Int) (e f g h i j k:LL):St:=⟨28,[(1,dI a),(2,.ptr 2 0),(4,.ptr 4 0),(6,dI b),(11,dB c)],[(2,.box [dI d,dL 5 e,dL 2 f,dL 4 g,dL 7 h,dL 4 i,dL 5 j,dL 3 k]),(4,.box [dI (0:Int),dI (0:Int),dI (0:Int),dI (0:Int)])]⟩
def Q1T  : St:=⟨28,[(4,.ptr 4 0),(5,dB false)],[(4,.box [dI (0:Int),dI (0:Int),dI (0:Int),dI (0:Int)])]⟩
def We (n:Nat):VC:=⟨QK [],gtt,[cO 0 [1,2,4] [2,4],cO 1 [1,2,4,6] [2,4],cO 2 [1,2,4,6,11] [2,4],cO 3 [1,2,4,6] [2,4],cO 4 [1,2,4,6,21] [2,4],cO 5 [4,5] [4],cO 6 [4,5] [4]]⟩
theorem Q8N (n:Nat):VCOk Tryz.prog (We n):=gVC (Qe trivial)
theorem Q4P (n:Nat) (a:Int) (b c d e f g h:LL) (a1:Int) (k:Exit→St→Option R):Qi (We n) n D2 ⟨28,[(0,.ag [dI a,dL 5 b,dL 2 c,dL 4 d,dL 7 e,dL 4 f,dL 5 g,dL 3 h]),(1,dI a1)],[]⟩ k=EJ n a b c d e f g h a1 (X7 (lB (We n) n NC) n ⟨28,[(1,dI a1),(2,.ptr 2 0),(4,.ptr 4 0),(6,dI (0:Int))],[(2,.box [dI a,dL 5 b,dL 2 c,dL 4 d,dL 7 e,dL 4 f,dL 5 g,dL 3 h]),(4,.box [dI (0:Int),dI (0:Int),dI (0:Int),dI (0:Int)])]⟩ (Q9 0 (Xf (We n) n Dk k))):=by kernel_rfl
theorem Q4l (n:Nat) (a1 i a:Int) (b c d e f g h:LL) (k:Exit→St→Option R):Qi (We n) n NC (Ez a1 i a b c d e f g h) k=D3 n a1 i a b c d e f g h (fun j l m o=>k .ret (D9 j l m o)) (fun p=>k .normal (Ez a1 p a b c d e f g h)) (fun q=>k (.exit 0) (Dh a1 i q a b c d e f g h)):=by kernel_rfl
theorem DH (n:Nat) (a1 b:Int) (c d e f g h i:LL) (k:Exit→St→Option R):∀ (m:Nat) (a:Int),X7 (lB (We n) n NC) m (Ez a1 a b c d e f g h i) k=NK n a1 b c d e f g h i (fun j l o p=>k .ret (D9 j l o p)) (fun a q=>k (.exit 0) (Dh a1 a q b c d e f g h i)) m a
 | 0,_=>rfl
 | m+1,a=>(lS (by kernel_rfl) m k).trans ((Q4l n a1 a b c d e f g h i (WB (lB (We n) n NC) m k)).trans (cg3 (fun r s t=>D3 n a1 a b c d e f g h i r s t ) rfl (funext fun u=>DH n a1 b c d e f g h i k m u) rfl))
theorem Q49 (n:Nat) (a1 a:Int) (b:Bool) (c:Int) (d e f g h i j:LL) (k:Exit→St→Option R):(Q9 0 (Xf (We n) n Dk k)) (.exit 0) (Dh a1 a b c d e f g h i j)=Q1L n a1 a b c d e f g h i j (k .ret (Q1T)):=by kernel_rfl
theorem Q4c (n:Nat) (a:Int) (b c d e f g h:LL) (a1:Int) (k:Exit→St→Option R):Qi (We n) n D2 ⟨28,[(0,.ag [dI a,dL 5 b,dL 2 c,dL 4 d,dL 7 e,dL 4 f,dL 5 g,dL 3 h]),(1,dI a1)],[]⟩ k=Q1b n a b c d e f g h a1 (fun j l m o=>k .ret (D9 j l m o)) (k .ret (Q1T)):=
 (Q4P n a b c d e f g h a1 k).trans (cg1 (fun i=>EJ n a b c d e f g h a1 i ) ((DH n a1 a b c d e f g h (Q9 0 (Xf (We n) n Dk k)) n (0:Int)).trans (cg2 (fun i p=>NK n a1 a b c d e f g h i p n (0:Int)) rfl (funext fun q=>funext fun r=>(Q49 n a1 q r a b c d e f g h k)))))
theorem Q7c (n:Nat) (a:Int) (c d e f g h i:LL) (a1:Int) (K:AV→Option R):vfn (We n) n Tryz.f6 [.ag [.d (D.int .i64 a),.d (D.sl 5 c),.d (D.sl 2 d),.d (D.sl 4 e),.d (D.sl 7 f),.d (D.sl 4 g),.d (D.sl 5 h),.d (D.sl 3 i)],.d (D.int .i64 a1)] [] (Wc [[0,0,0,0],[0]] K)=Q2M n a c d e f g h i a1 (fun j k r2 r3 l=>K (.tup [.ag [.d j,.d k,.d r2,.d r3],.d (D.bool l)])):=
 Eq.trans (b:=Qi (We n) n D2 ⟨28,[(0,.ag [dI a,dL 5 c,dL 2 d,dL 4 e,dL 7 f,dL 4 g,dL 5 h,dL 3 i]),(1,dI a1)],[]⟩ (K3 gtt [.cell 4 46,.tmp 5] (Wc [[0,0,0,0],[0]] K))) VP ((Q4c n a c d e f g h i a1 (K3 gtt [.cell 4 46,.tmp 5] (Wc [[0,0,0,0],[0]] K))).trans (by kernel_rfl))
def BT:AV→Option (D × D × D × D × Bool):=fun av=>match av with
 | .tup [.ag [.d a,.d b,.d r2,.d r3],.d (D.bool c)]=>some (a,b,r2,r3,c)
 | _=>none
def BS (n:Nat):XH:=fun _ _ g avs _ k=>match avs with
 | [c0,c1]=>
  prG c0 fun l0=>(match l0 with
  | [a,b,c,d,e,f,h,i]=>prI g .i64 a fun j=>prS g 5 b fun l=>prS g 2 c fun m=>prS g 4 d fun o=>prS g 7 e fun p=>prS g 4 f fun q=>prS g 5 h fun s=>prS g 3 i fun t=>prI g .i64 c1 fun a1=>
  gb g (Q2M n j l m o p q s t a1 (fun u v r2 r3 w=>some (u,v,r2,r3,w))) ((.bool false),(.bool false),(.bool false),(.bool false),false) fun r=>k ⟨.tup [.ag [.d r.1,.d r.2.1,.d r.2.2.1,.d r.2.2.2.1],.d (D.bool r.2.2.2.2)],[],[]⟩
  | _=>none)
 | _=>none
theorem Q7X (n:Nat):Qo Tryz.prog 6 (BS n):=by
  intro R site g avs hl k r h
  unfold BS at h
  split at h
  rotate_left
  · cases h
  obtain ⟨l0,h,l⟩:=Qq h
  split at h
  rotate_left
  · cases h
  obtain ⟨a,h,m⟩:=Q2 h
  obtain ⟨b,h,o⟩:=Q1 h
  obtain ⟨c,h,p⟩:=Q1 h
  obtain ⟨d,h,q⟩:=Q1 h
  obtain ⟨e,h,s⟩:=Q1 h
  obtain ⟨f,h,t⟩:=Q1 h
  obtain ⟨i,h,u⟩:=Q1 h
  obtain ⟨j,h,v⟩:=Q1 h
  obtain ⟨a1,h,w⟩:=Q2 h
  obtain ⟨res,h,hr⟩:=Qc h
  have hL:=h
  subst l
  refine ⟨_,hL,fun hg=>QI.conv (avs':=[.ag [.d (D.int .i64 a),.d (D.sl 5 b),.d (D.sl 2 c),.d (D.sl 4 d),.d (D.sl 7 e),.d (D.sl 4 f),.d (D.sl 5 i),.d (D.sl 3 j)],.d (D.int .i64 a1)]) (.cons (.ag (.cons (m hg) (.cons (o hg) (.cons (p hg) (.cons (q hg) (.cons (s hg) (.cons (t hg) (.cons (u hg) (.cons (v hg) (.nil)))))))))) (.cons (w hg) (.nil))) (QE (K:=BT) (res:=res) (Q8N n) (fn:=Tryz.f6) (n:=n) (ss:=[[0,0,0,0],[0]]) ?_ ?_)⟩
  · exact (Q7c n a b c d e f i j a1 BT).trans (hr hg)
  · intro x hx
    unfold BT at hx
    split at hx
    · injection hx with hx;subst hx;rfl
    · cases hx

noncomputable def Pg:Code:=Q8 Tryz.f40
noncomputable def GG:Code:=cA [1,1,0,1,2,2] (Q8 Tryz.f40)
noncomputable def PE:Code:=cA [1,1,1] (Q8 Tryz.f40)
def Yl (n:Nat):VC:=⟨QK [],gtt,[cK 0 [0,1],cK 1 [1,12],cK 2 [4],cK 3 [13,14,15],cK 4 (rg1 13 4 []),cO 5 [6,13,14,15] [6],cO 6 [6,13,14,15,36] [6],cK 7 [4],cK 8 [13,14,15,54],cK 9 [4],cK 10 [13,14,15],cK 11 [4]]⟩
theorem Q2z (n:Nat):VCOk Tryz.prog (Yl n):=gVC (Qe trivial)
theorem B2 (n:Nat) (a0:Int) (a1:LL) (k:Exit→St→Option R):Qi (Yl n) n Pg ⟨56,[(0,dI a0),(1,dL 5 a1)],[]⟩ k=Pz n a0 a1 (k .ret ⟨56,[(4,dB false)],[]⟩) (fun a=>X7 (lB (Yl n) n GG) n ⟨56,[(13,dL 5 a1),(14,dI a),(15,dI (0:Int))],[]⟩ (Q9 0 (Xf (Yl n) n PE k))):=by kernel_rfl
theorem Bl (n:Nat) (a1:LL) (a b:Int) (k:Exit→St→Option R):Qi (Yl n) n GG ⟨56,[(13,dL 5 a1),(14,dI a),(15,dI b)],[]⟩ k=PV n a1 a b (k .ret ⟨56,[(4,dB false)],[]⟩) (fun c=>k .normal ⟨56,[(13,dL 5 a1),(14,dI a),(15,dI c)],[]⟩) (fun d=>k (.exit 0) ⟨56,[(13,dL 5 a1),(14,dI a),(15,dI b),(16,dB d)],[]⟩):=by kernel_rfl
theorem RR (n:Nat) (a1:LL) (b:Int) (k:Exit→St→Option R):∀ (m:Nat) (a:Int),X7 (lB (Yl n) n GG) m ⟨56,[(13,dL 5 a1),(14,dI b),(15,dI a)],[]⟩ k=GH n a1 b (k .ret ⟨56,[(4,dB false)],[]⟩) (fun a c=>k (.exit 0) ⟨56,[(13,dL 5 a1),(14,dI b),(15,dI a),(16,dB c)],[]⟩) m a
 | 0,_=>rfl
 | m+1,a=>(lS (by kernel_rfl) m k).trans ((Bl n a1 b a (WB (lB (Yl n) n GG) m k)).trans (cg3 (fun d e f=>PV n a1 b a d e f ) rfl (funext fun g=>RR n a1 b k m g) rfl))
theorem BO (n:Nat) (a1:LL) (a b:Int) (c:Bool) (k:Exit→St→Option R):(Q9 0 (Xf (Yl n) n PE k)) (.exit 0) ⟨56,[(13,dL 5 a1),(14,dI a),(15,dI b),(16,dB c)],[]⟩=Lo n a1 a b c (k .ret ⟨56,[(4,dB true)],[]⟩):=by kernel_rfl
theorem Cy (n:Nat) (a0:Int) (a1:LL) (k:Exit→St→Option R):Qi (Yl n) n Pg ⟨56,[(0,dI a0),(1,dL 5 a1)],[]⟩ k=LU n a0 a1 (fun d=>k .ret ⟨56,[(4,dB d)],[]⟩):=
 (B2 n a0 a1 k).trans (cg2 (fun a b=>Pz n a0 a1 a b ) rfl (funext fun c=>(RR n a1 c (Q9 0 (Xf (Yl n) n PE k)) n (0:Int)).trans (cg2 (fun a b=>GH n a1 c a b n (0:Int)) rfl (funext fun e=>funext fun f=>(BO n a1 c e f k)))))
theorem Q0w (n:Nat) (a0:Int) (a1:LL) (K:AV→Option R):vfn (Yl n) n Tryz.f40 [.d (D.int .i64 a0),.d (D.sl 5 a1)] [] (Wc [[0]] K)=Tz n a0 a1 (fun a=>K (.d (D.bool a))):=
 Eq.trans (b:=Qi (Yl n) n Pg ⟨56,[(0,dI a0),(1,dL 5 a1)],[]⟩ (K3 gtt [.tmp 4] (Wc [[0]] K))) VP ((Cy n a0 a1 (K3 gtt [.tmp 4] (Wc [[0]] K))).trans (by kernel_rfl))
def KG (n:Nat):XH:=fun _ _ g avs _ k=>match avs with
 | [c0,c1]=>prI g .i64 c0 fun a0=>prS g 5 c1 fun a1=>
  gb g (Tz n a0 a1 some) false fun r=>k ⟨.d (D.bool r),[],[]⟩
 | _=>none
theorem Lu (n:Nat):Qo Tryz.prog 40 (KG n):=by
  intro R site g avs hl k r h
  unfold KG at h
  split at h
  rotate_left
  · cases h
  obtain ⟨a0,h,a⟩:=Q2 h
  obtain ⟨a1,h,b⟩:=Q1 h
  obtain ⟨res,h,hr⟩:=Qc h
  refine ⟨_,h,fun hg=>QI.conv (avs':=[.d (D.int .i64 a0),.d (D.sl 5 a1)]) (.cons (a hg) (.cons (b hg) (.nil))) (QE (K:=kB) (res:=res) (Q2z n) (fn:=Tryz.f40) (n:=n) (ss:=[[0]]) ?_ ?_)⟩
  · exact (Q0w n a0 a1 kB).trans (hr hg)
  · exact Da

end Go.Vx
namespace Go.Vx
open Go.Proofs Go.Maps Go.RowKit
structure OpAt (ops:Array Oper) (i:Nat) (dst:Option Nat) (op:Op):Prop where
  ex:∃ o,ops[i]? = some o∧o.dst=dst∧o.op=op∧o.guard=none
theorem Nq {P:Program} {ops:Array Oper} {i:Nat} {dst:Option Nat} {op:Op} (h:OpAt ops i dst op) {Q:Exit→Act→World→Prop} {K:Act→World→Prop} {a:Act} {w:World} {v:Value} {w':World}
    (hr:∀ o:Oper,o.op=op→(execOp a.eval o).run P w = .ok (.value v) w') (hK:K (a.put dst v) w'):wpOp P ops Q i K a w:=by
  obtain ⟨o,h1,h2,h3,h4⟩:=h.ex
  unfold wpOp
  simp only [h1,Region.wanted,h4,if_true]
  left
  unfold Oper.wp
  rw [hr o h3]
  subst h2
  exact hK
theorem QaC {P:Program} {a:Act} {w:World} {x:Operand} (o:Oper) (h:o.op = .move x):(execOp a.eval o).run P w = .ok (.value (a.eval x)) w:=by
  unfold execOp;rw [h];simp
theorem Qbm (a:Act) (w:World) (b:Nat) (hx:a.eval (.tmp 9) = .pointer (some ⟨b,0,none⟩)) (o:Oper) (h:o.op = .fieldAddr 79 (.tmp 9) 0):(execOp a.eval o).run Tryz.prog w = .ok (.value (.pointer (some ⟨b,0,none⟩))) w:=by
  have hf:(Instr.fieldAt 79 (.pointer (some ⟨b,0,none⟩)) 0).run Tryz.prog w = .ok (.pointer (some ⟨b,0,none⟩)) w:=by kernel_rfl
  unfold execOp;rw [h]
  simp [hx,hf]
theorem Qd3 (a:Act) (w:World) (b t:Nat) (v:Value) (hx:a.eval (.tmp t) = .pointer (some ⟨b,0,none⟩)) (hc:w.cell? ⟨b,0,none⟩=some v) (o:Oper) (h:o.op = .load 3 (.tmp t)):(execOp a.eval o).run Tryz.prog w = .ok (.value v) w:=by
  refine HJ h hx ?_
  simp [loadVar,Tryz.isAgg3,hc]
theorem Q8Y (a:Act) (w:World) (m x:Nat) (b:Nat) (key v:Value) (hm:a.eval (.tmp m) = .map (some b)) (hx:a.eval (.tmp x)=key) (hl:(Instr.lookup 132 (.map (some b)) key false).run Tryz.prog w = .ok v w) (o:Oper) (h:o.op = .lookup 132 (.tmp m) (.tmp x) false) :
    (execOp a.eval o).run Tryz.prog w = .ok (.value v) w:=by
  unfold execOp;rw [h]
  simp [hm,hx,hl]
theorem QeK (a:Act) (w:World) (t:Nat) (v:Value) (h1:v.cells = #[v]) (hx:a.eval (.tmp t)=v) (o:Oper) (h:o.op = .buildSlice 22 1 #[(0,.tmp t)]) :
    (execOp a.eval o).run Tryz.prog w = .ok (.value (.slice (some ⟨w.heap.size,0,none⟩) 1 1)) (w.alloc (.cells #[v] 3)):=by
  unfold execOp;rw [h]
  simp [hx,Instr.buildSlice,run_underlying Tryz.underlying22,Tryz.sizeOf3,Tryz.zeroValue3,Instr.fill,newRow,h1]
  congr 2
  apply Array.ext
  · simp
  · intro i h1 h2
    have hi:i=0:=by simp at h2;omega
    subst hi
    simp
theorem QcZ (a:Act) (w:World) (s x:Nat) (v y v':Value) (w':World) (hs:a.eval (.tmp s)=v) (hx:a.eval (.tmp x)=y) (hr:∀ ty,(Builtin.append_ #[22,22] ty #[v,y]).run Tryz.prog w = .ok v' w') (o:Oper) (h:o.op = .call { callee:=.builtin .append,args:=#[.tmp s,.tmp x],argTypes:=#[22,22] }) :
    (execOp a.eval o).run Tryz.prog w = .ok (.value v') w':=by
  unfold execOp
  simp only [h,resolve,invoke,builtin,Sem.run_bind,Sem.run_pure,Result.andThen_ok,List.map_toArray,List.map_cons,List.map_nil,hs,hx,hr]
theorem Qal {ops:Array Oper} {i:Nat} {m x y b:Nat} (h:OpAt ops i none (.mapUpdate 132 (.tmp m) (.tmp x) (.tmp y))) {Q:Exit→Act→World→Prop} {K:Act→World→Prop} {a:Act} {w w':World} {key v:Value}
    (hm:a.eval (.tmp m) = .map (some b)) (hx:a.eval (.tmp x)=key) (hy:a.eval (.tmp y)=v) (hr:(Instr.mapUpdate 132 (.map (some b)) key v).run Tryz.prog w = .ok () w') (hK:K a w'):wpOp Tryz.prog ops Q i K a w:=by
  obtain ⟨o,h1,h2,h3,h4⟩:=h.ex
  unfold wpOp
  simp only [h1,Region.wanted,h4,if_true]
  left
  unfold Oper.wp
  simp [execOp,h3,hm,hx,hy,hr,Result.andThen]
  show K (a.put o.dst undef) w'
  rw [h2]
  exact hK
def QcB (ops:Array Oper) (i j:Nat):Bool:=match ops[i]? with
  | some o=>o.after.toList.any fun e=>Region.binds .any e&&Nat.beq e.on j
  | none=>false
theorem NF {ops:Array Oper} {listed:Array Bool} {i j:Nat} {o:Oper} (h:QcB ops i j=true) (ho:ops[i]? = some o) (hp:Q9Y listed o.after.toList):Lst listed j:=by
  unfold QcB at h
  rw [ho] at h
  obtain ⟨e,he,hb⟩:=List.any_eq_true.1 h
  simp only [Bool.and_eq_true] at hb
  have:=hp e he hb.1
  rwa [Nat.eq_of_beq_eq_true hb.2] at this
theorem AO {ops:Array Oper} {listed:Array Bool} {i j:Nat} (h:QcB ops i j=true) (hc:Q3O ops.toList listed) (hl:Lst listed i):Lst listed j:=by
  cases ho:ops[i]? with
  | none=>unfold QcB at h;rw [ho] at h;cases h
  | some o=>exact NF h ho (hc i o (by rw [Array.getElem?_toList];exact ho) hl)
theorem Q51 (a:Act) (t:Nat):a.eval (.tmp t)=tmv a t:=rfl
def QdN:List (Nat × Nat):=[(2,1),(5,4),(6,3),(6,5),(8,7),(9,6),(9,8),(10,0),(10,1),(10,2),(10,3),(10,4),(10,5),(10,6),(10,7),(10,8),(10,9)]
structure R6 (ops:Array Oper):Prop where
  size:ops.size=11
  edge:SD ops.toList 0=true
  o0:OpAt ops 0 (some 33) (.move (.tmp 6))
  o1:OpAt ops 1 (some 34) (.fieldAddr 79 (.tmp 9) 0)
  o2:OpAt ops 2 (some 35) (.load 3 (.tmp 34))
  o3:OpAt ops 3 (some 36) (.move (.tmp 6))
  o4:OpAt ops 4 (some 37) (.fieldAddr 79 (.tmp 9) 0)
  o5:OpAt ops 5 (some 38) (.load 3 (.tmp 37))
  o6:OpAt ops 6 (some 39) (.lookup 132 (.tmp 36) (.tmp 38) false)
  o7:OpAt ops 7 (some 40) (.move (.tmp 8))
  o8:OpAt ops 8 (some 41) (.buildSlice 22 1 #[(0,.tmp 40)])
  o9:OpAt ops 9 (some 42) (.call { callee:=.builtin .append,args:=#[.tmp 39,.tmp 41],argTypes:=#[22,22] })
  o10:OpAt ops 10 none (.mapUpdate 132 (.tmp 33) (.tmp 35) (.tmp 42))
  waits:QdN.all (fun p=>QcB ops p.1 p.2)=true
theorem Qd9:∀ i,i<10→(10,i)∈QdN:=by decide
theorem R6.w {ops:Array Oper} (h:R6 ops) (i j:Nat) (hm:(i,j)∈QdN):QcB ops i j=true:=List.all_eq_true.1 h.waits (i,j) hm
structure S6 where
  a0:Act
  ws:World
  b:Nat
  ub:Nat
  n:Nat
  res:Int
  i:Int
  D:DataW Unit
  v0:Value
  zs:List Int
  No:Nat→Prop
def S6.w2 (s:S6):World:=s.ws.alloc (.cells #[.int .i64 s.i] 3)
def S6.val (s:S6):Nat→Value
  | 0=>.map (some s.b)
  | 1=>.pointer (some ⟨s.ub,0,none⟩)
  | 2=>.int .i64 s.res
  | 3=>.map (some s.b)
  | 4=>.pointer (some ⟨s.ub,0,none⟩)
  | 5=>.int .i64 s.res
  | 6=>s.v0
  | 7=>.int .i64 s.i
  | _=>.slice (some ⟨s.ws.heap.size,0,none⟩) 1 1
def S6.Mid (s:S6) (v':Value) (w:World):Prop:=
  s.w2.grownBy w s.v0.ownBlock∧w.ownsInts (s.b+1) 3 .i64 v' (s.zs++[s.i])∧(v'.ownBlock=s.v0.ownBlock∨∃ g,v'.ownBlock=some g∧s.ws.heap.size≤g)
def S6.End (s:S6) (w:World):Prop:=
  ∃ v' w3,s.Mid v' w3∧w.ownsGroups Tryz.prog 3 (s.b+1) 3 .i64 s.b (s.n+1) (s.D.put (.int .i64 s.res) (rowDatum .i64 v' (s.zs++[s.i])))∧w3.grownBy w (some s.b)∧w.Shuns s.b s.No
structure J6 (s:S6) (listed:Array Bool) (a:Act) (w:World):Prop where
  sz:a.tmps.size=81
  df:a.defers=s.a0.defers
  old:∀ t,t<33∨42<t→tmv a t=tmv s.a0 t
  vals:∀ j,j<9→Lst listed j→tmv a (33+j)=s.val j
  stage:(¬ Lst listed 8∧¬ Lst listed 9∧¬ Lst listed 10∧w=s.ws)∨(Lst listed 8∧¬ Lst listed 9∧¬ Lst listed 10∧w=s.w2)∨(Lst listed 9∧¬ Lst listed 10∧s.Mid (tmv a 42) w)∨(Lst listed 10∧s.End w)
structure S6.Ok (s:S6):Prop where
  sz:s.a0.tmps.size=81
  t6:tmv s.a0 6 = .map (some s.b)
  t8:tmv s.a0 8 = .int .i64 s.i
  t9:tmv s.a0 9 = .pointer (some ⟨s.ub,0,none⟩)
  cell:s.ws.cell? ⟨s.ub,0,none⟩=some (.int .i64 s.res)
  ubb:s.ub≠s.b
  ubNo:s.No s.ub
  ublt:s.ub<s.ws.heap.size
  own:s.ws.ownsGroups Tryz.prog 3 (s.b+1) 3 .i64 s.b s.n s.D
  shun:s.ws.Shuns s.b s.No
  small:s.n≤1000000000
  wfr:(Lit.int .i64 s.res).wf=true
  wfi:(Lit.int .i64 s.i).wf=true
  look:∀ w,w.heap[s.b]? = s.ws.heap[s.b]?→(Instr.lookup 132 (.map (some s.b)) (.int .i64 s.res) false).run Tryz.prog w = .ok s.v0 w
  at_:s.D.atKey (.int .i64 s.res) .nil=rowDatum .i64 s.v0 s.zs
  ints:s.ws.ownsInts (s.b+1) 3 .i64 s.v0 s.zs
  zl:s.zs.length≤s.n
  back:s.ws.groupBack Tryz.prog 132 3 (s.b+1) 3 .i64 s.b s.n s.D (.int .i64 s.res) (.int .i64 s.res) s.v0
  vNo:∀ g,s.v0.ownBlock=some g→¬ s.No g
  noNew:∀ g,s.ws.heap.size≤g→¬ s.No g
theorem J6.quiet {s:S6} {listed:Array Bool} {a:Act} {w:World} (h:J6 s listed a w) {i:Nat} (hi:i<8) (hl:i<listed.size):J6 s (listed.setIfInBounds i true) (a.put (some (33+i)) (s.val i)) w:=by
  have hls:∀ j,Lst (listed.setIfInBounds i true) j↔j=i∨Lst listed j:=fun j=>Nk hl
  have hn:∀ j,j≠i→(Lst (listed.setIfInBounds i true) j↔Lst listed j):=fun j hj=>by rw [hls];exact ⟨fun h=>h.resolve_left hj,.inr⟩
  have hp:∀ t,tmv (a.put (some (33+i)) (s.val i)) t=if t=33+i then s.val i else tmv a t:=fun t=>Q0M (by rw [h.sz];omega) t
  refine ⟨?_,h.df,fun t ht=>?_,fun j hj hl'=>?_,?_⟩
  · simp [Act.put,h.sz]
  · rw [hp,if_neg (by omega)];exact h.old t ht
  · rw [hp]
    by_cases e:j=i
    · subst e;rw [if_pos rfl]
    · rw [if_neg (by omega)]
      exact h.vals j hj ((hn j e).1 hl')
  · rw [hn 8 (by omega),hn 9 (by omega),hn 10 (by omega),hp,if_neg (by omega)]
    exact h.stage
theorem S6.Ok.blt {s:S6} (h:s.Ok):s.b<s.ws.heap.size:=by
  obtain ⟨es,clock,hb,_⟩:=h.own
  exact (Array.getElem?_eq_some_iff.1 hb).1
theorem S6.Ok.w2_old {s:S6} (h:s.Ok) {k:Nat} (hk:k<s.ws.heap.size):s.w2.heap[k]? = s.ws.heap[k]?:=Zn s.ws _ hk
theorem S6.Ok.mid_old {s:S6} (h:s.Ok) {v':Value} {w:World} (hm:s.Mid v' w) {k:Nat} (hk:k<s.ws.heap.size) (hne:s.v0.ownBlock≠some k):w.heap[k]? = s.ws.heap[k]?:=by
  rw [hm.1.block k (by simp [S6.w2];omega) (fun e=>hne e.symm),h.w2_old hk]
theorem S6.Ok.vb {s:S6} (h:s.Ok):s.v0.ownBlock≠some s.b:=fun e=>by have:=(h.ints.1.lt s.b e).1;omega
theorem J6.cell {s:S6} (hs:s.Ok) {listed:Array Bool} {a:Act} {w:World} (h:J6 s listed a w) (h10:¬ Lst listed 10):w.cell? ⟨s.ub,0,none⟩=some (.int .i64 s.res):=by
  rcases h.stage with ⟨_,_,_,rfl⟩ | ⟨_,_,_,rfl⟩ | ⟨_,_,hm⟩ | ⟨h1,_⟩
  · exact hs.cell
  · rw [BQ (w:=s.ws) (hs.w2_old hs.ublt)];exact hs.cell
  · rw [BQ (w:=s.ws) (hs.mid_old hm hs.ublt (fun e=>hs.vNo _ e hs.ubNo))];exact hs.cell
  · exact absurd h1 h10
theorem Qi2:(Tryz.prog.info? 3).map (fun i=>(i.zero,i.size,i.bytes))=some (some (.int .i64 0),1,8):=by kernel_rfl
theorem Qgj {ops:Array Oper} (hops:R6 ops) {Q:Exit→Act→World→Prop} {s:S6} (hs:s.Ok) (listed:Array Bool) (a:Act) (w:World) (i:Nat) (o:Oper) (hsz:listed.size=ops.size) (hc:Q3O ops.toList listed) (hJ:J6 s listed a w) (ho:ops[i]? = some o) (hn:¬ Lst listed i) (hp:Q9Y listed o.after.toList) :
    wpOp Tryz.prog ops Q i (fun a' w'=>J6 s (listed.setIfInBounds i true) a' w') a w:=by
  have hi:i<11:=by have:=(Array.getElem?_eq_some_iff.1 ho).1;rw [hops.size] at this;exact this
  have hil:i<listed.size:=by rw [hsz,hops.size];exact hi
  have h10:¬ Lst listed 10:=fun h=>by
    by_cases e:i=10
    · exact hn (e▸h)
    · exact hn (AO (hops.w 10 i (Qd9 i (by omega))) hc h)
  have old:∀ t:Nat,t<33→a.eval (.tmp t)=tmv s.a0 t:=fun t ht=>by rw [Q51];exact hJ.old t (.inl ht)
  have val:∀ j,j<9→Lst listed j→a.eval (.tmp (33+j))=s.val j:=fun j hj hl=>by rw [Q51];exact hJ.vals j hj hl
  have e6:=(old 6 (by omega)).trans hs.t6
  have e8:=(old 8 (by omega)).trans hs.t8
  have e9:=(old 9 (by omega)).trans hs.t9
  match i,hi with
  | 0,_=>exact Nq hops.o0 (v:=s.val 0) (fun o h=>by rw [QaC o h,e6];rfl) (hJ.quiet (by omega) hil)
  | 1,_=>exact Nq hops.o1 (v:=s.val 1) (fun o h=>Qbm a w s.ub e9 o h) (hJ.quiet (by omega) hil)
  | 2,_=>exact Nq hops.o2 (v:=s.val 2) (fun o h=>Qd3 a w s.ub 34 _ (val 1 (by omega) (NF (hops.w 2 1 (by decide)) ho hp)) (hJ.cell hs h10) o h) (hJ.quiet (by omega) hil)
  | 3,_=>exact Nq hops.o3 (v:=s.val 3) (fun o h=>by rw [QaC o h,e6];rfl) (hJ.quiet (by omega) hil)
  | 4,_=>exact Nq hops.o4 (v:=s.val 4) (fun o h=>Qbm a w s.ub e9 o h) (hJ.quiet (by omega) hil)
  | 5,_=>exact Nq hops.o5 (v:=s.val 5) (fun o h=>Qd3 a w s.ub 37 _ (val 4 (by omega) (NF (hops.w 5 4 (by decide)) ho hp)) (hJ.cell hs h10) o h) (hJ.quiet (by omega) hil)
  | 6,_=>
    have hb:w.heap[s.b]? = s.ws.heap[s.b]?:=by
      rcases hJ.stage with ⟨_,_,_,rfl⟩ | ⟨_,_,_,rfl⟩ | ⟨_,_,hm⟩ | ⟨h1,_⟩
      · rfl
      · exact hs.w2_old hs.blt
      · exact hs.mid_old hm hs.blt hs.vb
      · exact absurd h1 h10
    exact Nq hops.o6 (v:=s.val 6) (fun o h=>Q8Y a w 36 38 s.b _ _ (val 3 (by omega) (NF (hops.w 6 3 (by decide)) ho hp)) (val 5 (by omega) (NF (hops.w 6 5 (by decide)) ho hp)) (hs.look w hb) o h) (hJ.quiet (by omega) hil)
  | 7,_=>exact Nq hops.o7 (v:=s.val 7) (fun o h=>by rw [QaC o h,e8];rfl) (hJ.quiet (by omega) hil)
  | 8,_=>
    have hw:w=s.ws:=by
      rcases hJ.stage with ⟨_,_,_,h⟩ | ⟨h,_⟩ | ⟨h,_⟩ | ⟨h,_⟩
      · exact h
      · exact absurd h hn
      · exact absurd (AO (hops.w 9 8 (by decide)) hc h) hn
      · exact absurd h h10
    subst hw
    have h9:¬ Lst listed 9:=fun h=>hn (AO (hops.w 9 8 (by decide)) hc h)
    have hls:∀ j,Lst (listed.setIfInBounds 8 true) j↔j=8∨Lst listed j:=fun j=>Nk hil
    refine Nq hops.o8 (fun o h=>QeK a s.ws 40 (.int .i64 s.i) rfl (val 7 (by omega) (NF (hops.w 8 7 (by decide)) ho hp)) o h) ?_
    have hpt:∀ t,tmv (a.put (some 41) (.slice (some ⟨s.ws.heap.size,0,none⟩) 1 1)) t=if t=41 then .slice (some ⟨s.ws.heap.size,0,none⟩) 1 1 else tmv a t:=fun t=>Q0M (by rw [hJ.sz];omega) t
    refine ⟨by simp [Act.put,hJ.sz],hJ.df,fun t ht=>by rw [hpt,if_neg (by omega)];exact hJ.old t ht,fun j hj hl'=>?_,.inr (.inl ⟨(hls 8).2 (.inl rfl),fun h=>h9 (((hls 9).1 h).resolve_left (by omega)),fun h=>h10 (((hls 10).1 h).resolve_left (by omega)),rfl⟩)⟩
    rw [hpt]
    by_cases e:j=8
    · subst e;rw [if_pos rfl];rfl
    · rw [if_neg (by omega)]
      exact hJ.vals j hj (((hls j).1 hl').resolve_left e)
  | 9,_=>
    have h6:=NF (hops.w 9 6 (by decide)) ho hp
    have h8:=NF (hops.w 9 8 (by decide)) ho hp
    have hw:w=s.w2:=by
      rcases hJ.stage with ⟨h,_⟩ | ⟨_,_,_,h⟩ | ⟨h,_⟩ | ⟨h,_⟩
      · exact absurd h8 h
      · exact h
      · exact absurd h hn
      · exact absurd h h10
    subst hw
    have hls:∀ j,Lst (listed.setIfInBounds 9 true) j↔j=9∨Lst listed j:=fun j=>Nk hil
    obtain ⟨i0,hi0,hz0,hz1,hz2⟩:=info_parts Qi2
    have hint2:s.w2.ownsInts (s.b+1) 3 .i64 s.v0 s.zs:=hs.ints.alloc _
    have hsrc:Src (fun _=>True) s.w2 1 (.slice (some ⟨s.ws.heap.size,0,none⟩) 1 1) [[D.int .i64 s.i]] [.int .i64 s.i]:=by
      refine ⟨.inr (.inr ⟨_,1,rfl,fun j u hu=>?_⟩),rfl,fun u hu=>?_,fun i r hr=>?_,fun i j r x hr hx=>?_⟩
      · match j,hu with
        | 0,hu=>
          simp only [List.getElem?_cons_zero,Option.some.injEq] at hu
          subst hu
          have hnew:s.w2.heap[s.ws.heap.size]? = some (.cells #[.int .i64 s.i] 3):=(MapKept.heap_alloc s.ws _).1
          rw [T8]
          simp [World.cell?,hnew]
      · simp only [List.mem_singleton] at hu;subst hu;rfl
      · match i,hr with
        | 0,hr=>simp only [List.getElem?_cons_zero,Option.some.injEq] at hr;subst hr;rfl
      · match i,hr with
        | 0,hr=>
          simp only [List.getElem?_cons_zero,Option.some.injEq] at hr
          subst hr
          match j,hx with
          | 0,hx=>simp only [List.getElem?_cons_zero,Option.some.injEq] at hx;subst hx;exact ⟨_,rfl,.int _ _⟩
    have hsm:=hs.small
    have hzl:=hs.zl
    have hblt:=hs.blt
    obtain ⟨v',w',g1,g2,g3,g4⟩:=Rg (ty:=22) Tryz.underlying22 hi0 hz0 hz1 rfl (by omega) hint2.1 hsrc (by unfold maxLen;simp;omega) (by rw [hz2];simp;omega) (by simp [S6.w2];omega)
    refine Nq hops.o9 (fun o h=>QcZ a s.w2 39 41 s.v0 _ v' w' (val 6 (by omega) h6) (val 8 (by omega) h8) (fun ty=>g1) o h) ?_
    have hpt:∀ t,tmv (a.put (some 42) v') t=if t=42 then v' else tmv a t:=fun t=>Q0M (by rw [hJ.sz];omega) t
    refine ⟨by simp [Act.put,hJ.sz],hJ.df,fun t ht=>by rw [hpt,if_neg (by omega)];exact hJ.old t ht,fun j hj hl'=>?_,.inr (.inr (.inl ⟨(hls 9).2 (.inl rfl),fun h=>h10 (((hls 10).1 h).resolve_left (by omega)),?_⟩))⟩
    · rw [hpt,if_neg (by omega)]
      exact hJ.vals j hj (((hls j).1 hl').resolve_left (by omega))
    · rw [hpt,if_pos rfl]
      refine ⟨g3,hs.ints.appended (w:=s.ws) (by simpa using g2) hs.wfi,g4.imp id fun h=>⟨_,h,by simp [S6.w2]⟩⟩
  | 10,_=>
    have hall:∀ j,j<10→Lst listed j:=fun j hj=>NF (hops.w 10 j (Qd9 j hj)) ho hp
    have hm:s.Mid (tmv a 42) w:=by
      rcases hJ.stage with ⟨h,_⟩ | ⟨_,h,_⟩ | ⟨_,_,h⟩ | ⟨h,_⟩
      · exact absurd (hall 8 (by omega)) h
      · exact absurd (hall 9 (by omega)) h
      · exact h
      · exact absurd h h10
    have hls:∀ j,Lst (listed.setIfInBounds 10 true) j↔j=10∨Lst listed j:=fun j=>Nk hil
    have hgr:s.ws.grownBy w s.v0.ownBlock:=(World.grownBy_alloc _ _ _).trans hm.1
    have hzl:=hs.zl
    obtain ⟨w2,hrun,r1,r2⟩:=hs.back w (tmv a 42) (s.zs++[s.i]) hgr hm.2.1 (by simp;omega) hm.2.2
    have r3:w2.Shuns s.b s.No:=by
      obtain ⟨es,clock,hb,F,hsz',_,hbb,_⟩:=hs.own
      have hb1:w.heap[s.b]? = some (.map es clock):=(hgr.block s.b hs.blt (fun e1=>hs.vb e1.symm)).trans hb
      have hsm:=hs.small
      obtain ⟨es',clock',hb2,hwho⟩:=stored_who (int_keyed Tryz.underlying3) Tryz.underlying132 hb1 F (by unfold maxLen;omega) (keyOf_int_mk Tryz.underlying3 hs.wfr) hrun
      intro es2 clock2 hb2' y hy g hyg
      obtain ⟨rfl,rfl⟩:es'=es2∧clock'=clock2:=by rw [hb2] at hb2';simpa using hb2'
      rcases hwho y hy with ⟨hy0,_⟩ | ⟨_,hval⟩
      · exact hs.shun es clock hb y hy0 g hyg
      · rw [hval] at hyg
        rcases hm.2.2 with h | ⟨g',h1,h2⟩
        · rw [h] at hyg;exact hs.vNo g hyg
        · rw [h1] at hyg;injection hyg with hyg;subst hyg;exact hs.noNew _ h2
    refine Qal hops.o10 (val 0 (by omega) (hall 0 (by omega))) (val 2 (by omega) (hall 2 (by omega))) (Q51 a 42) hrun ?_
    exact ⟨hJ.sz,hJ.df,hJ.old,fun j hj hl'=>hJ.vals j hj (((hls j).1 hl').resolve_left (by omega)),.inr (.inr (.inr ⟨(hls 10).2 (.inl rfl),_,w,hm,r1,r2,r3⟩))⟩
theorem Q6x {n:Int} {v:Value}:∀ {es:List MapEntry},AW es n=some v→∃ e∈es,e.val=v
  | e::r,h=>by
    simp only [AW] at h
    split at h
    · split at h
      · injection h with h;exact ⟨e,List.mem_cons_self ..,h⟩
      · obtain ⟨x,hx,hv⟩:=Q6x h;exact ⟨x,List.mem_cons_of_mem _ hx,hv⟩
    · obtain ⟨x,hx,hv⟩:=Q6x h;exact ⟨x,List.mem_cons_of_mem _ hx,hv⟩
theorem Q8a {es:Array MapEntry} {clock b:Nat} {n:Int} {w:World} (hb:w.heap[b]? = some (.map es clock)) (hkeys:∀ e∈es.toList,∃ m,e.key = .int .i64 m) :
    (Instr.lookup 132 (.map (some b)) (.int .i64 n) false).run Tryz.prog w = .ok ((AW es.toList n).getD (.slice none 0 0)) w:=by
  have hck:(Instr.checkKey es.isEmpty 10000 3 (.int .i64 n)).run Tryz.prog w = .ok () w:=by
    rw [show (10000:Nat)=9999+1 from rfl,Instr.checkKey]
    simp only [Sem.run_bind,Y5 Tryz.underlying3,Result.andThen_ok]
    rfl
  have hz:(zeroValue 22).run Tryz.prog w = .ok (.slice none 0 0) w:=Tryz.zeroValue22 w
  rcases Q0T n es.toList 0 hkeys with ⟨h1,h2⟩ | ⟨j,v,h1,h2⟩
  · rw [h1]
    simp [Instr.lookup,Y5 Tryz.underlying132,MapKept.run_getObj_map hb,hck,Instr.findKey,Y5 Tryz.underlying3,h2,hz,Result.andThen]
  · rw [h1]
    simp [Instr.lookup,Y5 Tryz.underlying132,MapKept.run_getObj_map hb,hck,Instr.findKey,Y5 Tryz.underlying3,h2,Result.andThen]
theorem Qg4 {v:Value} {l:Lit} (h:keyOf Tryz.prog 3 v=some l):∃ m,v = .int .i64 m:=by
  simp only [keyOf,Tryz.underlying3,mapKey] at h
  cases v <;> simp at h
  rename_i k m
  exact ⟨m,by rw [h.1.1]⟩
theorem Qao {w:World} {b n:Nat} {D:DataW Unit} (h:w.ownsGroups Tryz.prog 3 (b+1) 3 .i64 b n D):∃ es clock,w.heap[b]? = some (.map es clock)∧(∀ e∈es.toList,∃ m,e.key = .int .i64 m)∧es.size≤n:=by
  obtain ⟨es,clock,hb,F,hs,_⟩:=h
  refine ⟨es,clock,hb,fun e he=>?_,hs⟩
  obtain ⟨y,hy⟩:=F.reads e he
  exact Qg4 (WideElems.rd_key hy)
structure GI (b n:Nat) (D:DataW Unit) (No:Nat→Prop) (w:World):Prop where
  own:w.ownsGroups Tryz.prog 3 (b+1) 3 .i64 b n D
  shun:w.Shuns b No
  bNo:¬ No b
  noNew:∀ g,w.heap.size≤g→¬ No g
theorem GI.lookup {b n:Nat} {D:DataW Unit} {No:Nat→Prop} {w:World} (h:GI b n D No w) (hn:n≤1000000000) {res:Int} (hw:(Lit.int .i64 res).wf=true) :
    ∃ v zs,(∀ w',w'.heap[b]? = w.heap[b]?→(Instr.lookup 132 (.map (some b)) (.int .i64 res) false).run Tryz.prog w' = .ok v w')∧D.atKey (.int .i64 res) .nil=rowDatum .i64 v zs∧w.ownsInts (b+1) 3 .i64 v zs∧zs.length≤n ∧
      w.groupBack Tryz.prog 132 3 (b+1) 3 .i64 b n D (.int .i64 res) (.int .i64 res) v∧(∀ g,v.ownBlock=some g→¬ No g):=by
  obtain ⟨es,clock,hb,hk,hs⟩:=Qao h.own
  obtain ⟨v,zs,hrun,hat,hoi,hzl,hback⟩:=h.own.at (int_keyed Tryz.underlying3) Tryz.underlying132 (Tryz.zeroValue22 w) (by unfold maxLen;omega) (keyOf_int_mk Tryz.underlying3 hw)
  have hv:v=(AW es.toList res).getD (.slice none 0 0):=by
    rw [Q8a hb hk] at hrun
    injection hrun with h1 h2
    exact h1.symm
  refine ⟨v,zs,fun w' hw'=>by rw [hv];exact Q8a (hw'.trans hb) hk,hat,hoi,hzl,hback,fun g hg=>?_⟩
  cases hl:AW es.toList res with
  | none=>rw [hv,hl] at hg;cases hg
  | some u=>
    obtain ⟨e,he,heu⟩:=Q6x hl
    rw [hv,hl] at hg
    exact h.shun es clock hb e he g (by rw [heu];exact hg)
theorem Qh9 {ops:Array Oper} (hops:R6 ops) {id:Nat} {Q:Exit→Act→World→Prop} {a:Act} {w:World} {b ub n:Nat} {res i:Int} {D:DataW Unit} {No:Nat→Prop} (hG:GI b n D No w) (hn:n≤1000000000)
    (hsz:a.tmps.size=81) (t6:tmv a 6 = .map (some b)) (t8:tmv a 8 = .int .i64 i) (t9:tmv a 9 = .pointer (some ⟨ub,0,none⟩)) (hcell:w.cell? ⟨ub,0,none⟩=some (.int .i64 res)) (hub:No ub)
    (hwr:(Lit.int .i64 res).wf=true) (hwi:(Lit.int .i64 i).wf=true)
    (hQ:∀ a' w' v zs,a'.tmps.size=81→a'.defers=a.defers→(∀ t,t<33∨42<t→tmv a' t=tmv a t)→D.atKey (.int .i64 res) .nil=rowDatum .i64 v zs→w.ownsInts (b+1) 3 .i64 v zs →
      GI b (n+1) (D.put (.int .i64 res) (.slice (ChangeShapes.lits .i64 (zs++[i])) [])) No w'→w'.os=w.os→w'.tape=w.tape→w'.output=w.output→w.heap.size≤w'.heap.size→(∀ k,k<w.heap.size→k<b∨No k→w'.heap[k]? = w.heap[k]?)→Q .normal a' w') :
    (Code.region id ops true).wp Tryz.prog Q a w:=by
  have hg0:w.grownBy { w with drawn:=w.drawn+1 } none:=⟨rfl,rfl,rfl,Nat.le_refl _,fun _ _ _=>rfl⟩
  have hGs:GI b n D No { w with drawn:=w.drawn+1 }:=⟨hG.own.kept hg0 (by simp) (fun es clock hb x hx=>by cases x.val.ownBlock <;> simp),hG.shun,hG.bNo,hG.noNew⟩
  obtain ⟨v,zs,hlook,hat,hoi,hzl,hback,hvNo⟩:=hGs.lookup hn hwr
  have hublt:ub<w.heap.size:=by
    rcases Nat.lt_or_ge ub w.heap.size with h | h
    · exact h
    · exact absurd hub (hG.noNew ub h)
  have hok:S6.Ok ⟨a,{ w with drawn:=w.drawn+1 },b,ub,n,res,i,D,v,zs,No⟩:=
    ⟨hsz,t6,t8,t9,hcell,fun (e:ub=b)=>hG.bNo (e▸hub),hub,hublt,hGs.own,hGs.shun,hn,hwr,hwi,hlook,hat,hoi,hzl,hback,hvNo,hG.noNew⟩
  refine QcJ (J:=J6 ⟨a,{ w with drawn:=w.drawn+1 },b,ub,n,res,i,D,v,zs,No⟩) (by kernel_rfl) hops.edge (Qgj hops hok) (fun listed a' w' hJ hall=>?_) ⟨hsz,rfl,fun _ _=>rfl,fun j _ hl=>?_,.inl ⟨?_,?_,?_,rfl⟩⟩
  · have h10:Lst listed 10:=hall 10 (by rw [hops.size];omega)
    obtain ⟨v',w3,hm,r1,r2,r3⟩:S6.End ⟨a,{ w with drawn:=w.drawn+1 },b,ub,n,res,i,D,v,zs,No⟩ w':=by
      rcases hJ.stage with ⟨_,_,h,_⟩ | ⟨_,_,h,_⟩ | ⟨_,h,_⟩ | ⟨_,h⟩
      · exact absurd h10 h
      · exact absurd h10 h
      · exact absurd h10 h
      · exact h
    have hgr:({ w with drawn:=w.drawn+1 }:World).grownBy w3 v.ownBlock:=(World.grownBy_alloc _ _ _).trans hm.1
    have hd:rowDatum (H:=Unit) .i64 v' (zs++[i]) = .slice (ChangeShapes.lits .i64 (zs++[i])) []:=hm.2.1.datum_pos (by simp)
    have hs3:w.heap.size≤w3.heap.size:=hgr.size
    refine hQ a' w' v zs hJ.sz hJ.df hJ.old hat ⟨hoi.1,hoi.2⟩ ⟨hd▸r1,r3,hG.bNo,fun g hg'=>hG.noNew g (Nat.le_trans (Nat.le_trans hs3 r2.size) hg')⟩ (r2.os.trans hgr.os) (r2.tape.trans hgr.tape) (r2.output.trans hgr.output) (Nat.le_trans hs3 r2.size) fun k hk hno=>?_
    have hkb:k≠b:=fun e=>by rcases hno with h | h;omega;exact hG.bNo (e▸h)
    have hkv:v.ownBlock≠some k:=fun e=>by
      rcases hno with h | h
      · have:=(hoi.1.lt k e).1;omega
      · exact hvNo k e h
    rw [r2.block k (by omega) (by simpa using hkb)]
    exact hgr.block k hk (fun e=>hkv e.symm)
  · exact absurd hl (by unfold Lst;simp [Array.getD])
  · unfold Lst;simp [Array.getD]
  · unfold Lst;simp [Array.getD]
  · unfold Lst;simp [Array.getD]
noncomputable def FB:Code:=Q8 Tryz.f41
noncomputable def Qfc:Code:=cB (cL (cR (cR (cB (cB (cR (cL (cR (cR FB)))))))))
def Qeq:Code→Array Oper | .region _ ops _=>ops | _=>#[]
noncomputable def Qdi:Array Oper:=Qeq (cR (cR Qfc))
theorem Q68 {ops:Array Oper} {i:Nat} {dst:Option Nat} {op:Op} (h:(ops[i]?).map (fun o=>(o.dst,o.op,o.guard))=some (dst,op,none)):OpAt ops i dst op:=by
  obtain ⟨o,h1,h2⟩:=Option.map_eq_some_iff.1 h
  injection h2 with h2 h3
  injection h3 with h3 h4
  exact ⟨o,h1,h2,h3,h4⟩
theorem Qiq:R6 Qdi:=by
  refine ⟨by kernel_rfl,by kernel_rfl,?_,?_,?_,?_,?_,?_,?_,?_,?_,?_,?_,by kernel_rfl⟩
  all_goals exact Q68 (by kernel_rfl)
end Go.Vx
set_option maxRecDepth 100000
namespace Go.Vx
open Go.Proofs
def Qdp:TT:=[(3,⟨.int .i64,1,8,[.int .i64 0],[.int .i64 0],[],none⟩),(4,⟨.bool,1,1,[.bool false],[.bool false],[],none⟩),(22,⟨.sl 3 1,1,24,[.slice none 0 0],[.sl 1 []],[],none⟩),(80,⟨.sl 79 5,1,24,[.slice none 0 0],[.sl 5 []],[],none⟩),(79,⟨.struct,5,40,[.int .i64 0,.int .i64 0,.int .i64 0,.int .i64 0,.int .i64 0],[.int .i64 0,.int .i64 0,.int .i64 0,.int .i64 0,.int .i64 0],[(0,3),(1,3),(2,3),(3,3),(4,3)],some [.int .i64,.int .i64,.int .i64,.int .i64,.int .i64]⟩)]
theorem QdB:QfT Tryz.prog [3,4,22,80,79]=Qdp:=by kernel_rfl
def Qdm:VC:=⟨QK [],Qdp,[]⟩
theorem Q5v:VCOk Tryz.prog Qdm:=⟨Qe (show QbC Tryz.prog [] from trivial),(QdB▸Qec _:TOk Tryz.prog Qdp),by kernel_rfl⟩
noncomputable def Q42 (i:Nat):Code:=match i with
  | 0=>cL FB
  | 1=>cL (cR FB)
  | 2=>cL (cL (cR (cR FB)))
  | 3=>cL (cB (cB (cR (cL (cR (cR FB))))))
  | 4=>cL Qfc
  | 5=>cL (cR Qfc)
  | 6=>cR (cR Qfc)
  | _=>cR (cR (cR (cB (cB (cR (cL (cR (cR FB))))))))
def QcU (t:Int) (rows:List (List D)) (f b:Nat) (l:List (Nat × AV)):List (Nat × AV):=(0,.d (.int .i64 t))::(1,.d (.sl 5 rows))::(2,.fn f [.ptr 1000000 0])::(6,.ex (.map (some b)))::l
def Q4S (t:Int) (rows:List (List D)) (f b:Nat) (l:List (Nat × AV)):List (Nat × AV):=QcU t rows f b ((7,.arr 17)::l)
def Qgf (t:Int) (rows:List (List D)) (f b:Nat) (i:Int) (l:List (Nat × AV)):List (Nat × AV):=Q4S t rows f b ((8,.d (.int .i64 i))::(9,.ptr 9 0)::l)
theorem Qhy {R:Type} (t:Int) (f b:Nat) (rows:List (List D)) (k:Exit→St→Option R) :
    Qi Qdm 0 (Q42 1) ⟨81,QcU t rows f b [],[]⟩ k =
      gb true (bif decide (0≤((List.length rows:Nat):Int))&&decide (((List.length rows:Nat):Int)≤((List.length rows:Nat):Int)) then some () else none) () fun _=>gb true (R0 (Int.toNat ((List.length rows:Nat):Int)*8)) () fun _=>
        k .normal ⟨81,(7,.arr 17)::(17,.arr 17)::(16,.d (.int .i64 ((List.length rows:Nat):Int)))::(15,.d (.sl 5 rows))::QcU t rows f b [],[(17,.arr 3 1 (List.replicate (Int.toNat ((List.length rows:Nat):Int)) [D.int .i64 0]))]⟩:=by kernel_rfl
theorem Qhd {R:Type} (t:Int) (f b:Nat) (rows place:List (List D)) (k:Exit→St→Option R) :
    Qi Qdm 0 (Q42 2) ⟨81,Q4S t rows f b [],[(17,.arr 3 1 place)]⟩ k =
        k .normal ⟨81,(20,.d (.int .i64 0))::(19,.d (.int .i64 ((List.length rows:Nat):Int)))::(18,.d (.sl 5 rows))::Q4S t rows f b [],[(17,.arr 3 1 place)]⟩:=by kernel_rfl
def Q5s (t:Int) (rows:List (List D)) (f b:Nat) (N i:Int) (place:List (List D)):St:=⟨81,Q4S t rows f b [(18,.d (.sl 5 rows)),(19,.d (.int .i64 N)),(20,.d (.int .i64 i))],[(17,.arr 3 1 place)]⟩
theorem Qft {R:Type} (t:Int) (f b:Nat) (rows place:List (List D)) (N i:Int) (k:Exit→St→Option R) :
    Qi Qdm 0 (Q42 3) (Q5s t rows f b N i place) k=k .normal ⟨81,(21,.d (.bool (decide (i<N))))::(Q5s t rows f b N i place).tm,[(17,.arr 3 1 place)]⟩:=by kernel_rfl
def Q3j (t:Int) (rows:List (List D)) (f b:Nat) (N i:Int) (place:List (List D)) (c:List AV):St:=⟨81,Qgf t rows f b i [(18,.d (.sl 5 rows)),(19,.d (.int .i64 N)),(20,.d (.int .i64 i))],[(9,.box c),(17,.arr 3 1 place)]⟩
theorem QgR {R:Type} (t:Int) (f b:Nat) (rows place:List (List D)) (N i:Int) (k:Exit→St→Option R) :
    Qi Qdm 0 (Q42 4) (Q5s t rows f b N i place) k =
      gb true (X2 rows i) [] fun r=>gb true (r[0]?) (.bool false) fun c0=>gb true (r[1]?) (.bool false) fun c1=>gb true (r[2]?) (.bool false) fun c2=>gb true (r[3]?) (.bool false) fun c3=>gb true (r[4]?) (.bool false) fun c4=>
        k .normal ⟨81,(8,.d (.int .i64 i))::(9,.ptr 9 0)::(24,.ag [.d c0,.d c1,.d c2,.d c3,.d c4])::(23,.el r 0)::(22,.d (.int .i64 i))::(Q5s t rows f b N i place).tm,[(9,.box [.d c0,.d c1,.d c2,.d c3,.d c4]),(17,.arr 3 1 place)]⟩:=by kernel_rfl
theorem QgZ {R:Type} (t:Int) (f b:Nat) (rows place:List (List D)) (N i:Int) (k:Exit→St→Option R) :
    Qi Qdm 0 (Q42 7) (Q5s t rows f b N i place) k=k .normal ⟨81,(20,.d (.int .i64 (IntKind.wrap .i64 (i+1))))::(43,.d (.int .i64 (IntKind.wrap .i64 (i+1))))::(Q5s t rows f b N i place).tm,[(17,.arr 3 1 place)]⟩:=by kernel_rfl
noncomputable def SR:Array Oper:=Qeq (Q42 5)
theorem Qir:Q42 5 = .region 5 SR false:=by kernel_rfl
theorem QiW:OpAt SR 5 (some 30) (.lookup 132 (.tmp 27) (.tmp 29) false):=Q68 (by kernel_rfl)
theorem QiN:OpAt SR 6 (some 31) (.call { callee:=.builtin .len,args:=#[.tmp 30],argTypes:=#[22] }):=Q68 (by kernel_rfl)
theorem Qgc (j:Nat) (hj:j<(SR.toList.take 5).length):(SR.toList.take 5)[j]? = SR[0+j]?:=by
  rw [List.getElem?_take,if_pos (by simp at hj;omega),Array.getElem?_toList,Nat.zero_add]
theorem Qg7 (j:Nat) (hj:j<(SR.toList.drop 7).length):(SR.toList.drop 7)[j]? = SR[7+j]?:=by
  rw [List.getElem?_drop,Array.getElem?_toList]
def Qf5 (t:Int) (rows:List (List D)) (f b:Nat) (N i res:Int) (place:List (List D)) (c:List AV):St:=
  ⟨81,(29,.d (.int .i64 res))::(28,.ptr 9 0)::(27,.ex (.map (some b)))::(26,.d (.int .i64 i))::(25,.arr 17)::(Q3j t rows f b N i place (.d (.int .i64 res)::c)).tm,(Q3j t rows f b N i place (.d (.int .i64 res)::c)).h⟩
theorem Qhx (t:Int) (rows:List (List D)) (f b:Nat) (N i res:Int) (place:List (List D)) (c:List AV) :
    Qev Qdm.spec Qdm.tt SR (SR.toList.take 5) (Q3j t rows f b N i place (.d (.int .i64 res)::c)) [] (fun st' _=>some st')=some (Qf5 t rows f b N i res place c):=by kernel_rfl
def QgY (t:Int) (rows:List (List D)) (f b:Nat) (N i res:Int) (place:List (List D)) (c:List AV) (v:Value) (n:Int):St:=
  ⟨81,(31,.d (.int .i64 n))::(30,.ex v)::(Qf5 t rows f b N i res place c).tm,(Q3j t rows f b N i place (.d (.int .i64 res)::c)).h⟩
theorem QhE {R:Type} (t:Int) (rows:List (List D)) (f b:Nat) (N i res:Int) (place:List (List D)) (c:List AV) (v:Value) (n:Int) (k:St→Option R) :
    Qev Qdm.spec Qdm.tt SR (SR.toList.drop 7) (QgY t rows f b N i res place c v n) [] (fun st' _=>k st') =
      gb true (inB (List.length place) i) () fun _=>gb true (place[Int.toNat i]?) [] fun r=>k ⟨81,(32,.ap 17 (Int.toNat i) 0)::(QgY t rows f b N i res place c v n).tm,[(17,.arr 3 1 (List.set place (Int.toNat i) (List.set r 0 (.int .i64 n)))),(9,.box (.d (.int .i64 res)::c))]⟩:=by kernel_rfl
theorem Qhp (a:Act) (w:World) (x:Nat) (ao:Option Addr) (n cap:Nat) (hx:a.eval (.tmp x) = .slice ao n cap) (o:Oper) (h:o.op = .call { callee:=.builtin .len,args:=#[.tmp x],argTypes:=#[22] }):(execOp a.eval o).run Tryz.prog w = .ok (.value (.int .i64 n)) w:=by
  unfold execOp
  simp [h,resolve,invoke,builtin,hx,Builtin.len_,Y5 Tryz.underlying22,goInt]
theorem RdA.ex_inv {β:Nat→Option Nat} {S:Nat→Prop} {h:Nat→Option Ob} {w:World} {tm:Nat→Value} {v u:Value} (hv:RdA β S h w tm v (.ex u)):v=u:=by
  cases hv with
  | ex=>rfl
  | dang _ _ l hl=>simp [Ha] at hl
theorem Q2y {α:Type} {tm:List (Nat × α)} {t:Nat} {av:α} (h:look tm t=some av):∀ {pre:List (Nat × α)},(pre.all fun p=>(look tm p.1).isNone)=true→look (pre++tm) t=some av
  | [],_=>h
  | (k,x)::r,hp=>by
    simp only [List.all_cons,Bool.and_eq_true] at hp
    rw [List.cons_append,X4]
    by_cases e:t=k
    · subst e
      have:=hp.1
      rw [h] at this
      cases this
    · rw [if_neg e]
      exact Q2y h hp.2
theorem QbU {E:Env} {o:Oper} {ev:Operand→AV} {hl:Nat→Option Ob} {v:Value} {av:AV} (hav:∀ β S h w tm,RdA β S h w tm v av)
    (h:∀ β S st a w,Rel E β S st a w→Q4D β S st a w o ev→(execOp a.eval o).run Tryz.prog w = .ok (.value v) w):Re Tryz.prog E o ev hl ⟨av,[],[]⟩:=
  QV fun β S st a w hR hO hA=>⟨v,h β S st a w hR hO,hav ..⟩
theorem Qh0 {E:Env} {β:Nat→Option Nat} {S:Nat→Prop} {a:Act} {w:World} {t:Int} {rows place:List (List D)} {f b n:Nat} {N res:Int} {i:Nat} {c:List AV} {D:DataW Unit} {No:Nat→Prop}
    (hR:Rel E β S (Q3j t rows f b N i place (.d (.int .i64 res)::c)) a w) {Hd:Nat→Prop} (hO:Off β S (look (Q3j t rows f b N i place (.d (.int .i64 res)::c)).h) w Hd) (hb:Hd b) (hG:GI b n D No w) (hn:n≤1000000000)
    (hw:(Lit.int .i64 res).wf=true) (hi:i<place.length) (hi2:place.length≤9223372036854775807) {x:Go.Vx.D} (hpl:place[i]? = some [x]) {Q:Exit→Act→World→Prop}
    (hQ:∀ β' S' a' w' v zs,Rel E β' S' (Q3j t rows f b N i (place.set i [.int .i64 (List.length zs:Nat)]) (.d (.int .i64 res)::c)) a' w'→Off β' S' (look (Q3j t rows f b N i (place.set i [.int .i64 (List.length zs:Nat)]) (.d (.int .i64 res)::c)).h) w' Hd→(∀ k,Hd k→w'.heap[k]? = w.heap[k]?)→w.heap.size≤w'.heap.size →
      D.atKey (.int .i64 res) .nil=rowDatum .i64 v zs→w.ownsInts (b+1) 3 .i64 v zs→Q .normal a' w'):(Q42 5).wp Tryz.prog Q a w:=by
  obtain ⟨v,zs,hlook,hat,hoi,hzl,hback,hvNo⟩:=hG.lookup hn hw
  obtain ⟨ao,cap,rfl⟩:∃ ao cap,v = .slice ao zs.length cap:=by
    rcases hoi.1.2 with ⟨rfl,h0⟩ | ⟨g,cap,cur,rfl,_⟩
    · exact ⟨none,0,by rw [h0]⟩
    · exact ⟨_,cap,rfl⟩
  have hb':∀ {β' S' st' a' w'},Rel (Q8I β S (look (Q3j t rows f b N i place (.d (.int .i64 res)::c)).h) w) β' S' st' a' w'→w'.heap[b]? = w.heap[b]?:=fun h=>h.hr.fr.block b (hO.lt b hb) (fun ⟨l,h1,h2⟩=>hO.nO b hb l h1 h2)
  obtain ⟨r1,st1,l1,k1,run1⟩:=Q6w (E:=Q8I β S (look (Q3j t rows f b N i place (.d (.int .i64 res)::c)).h) w) Q5v.spec Q5v.tt _ 0 _ _ _ _ Qgc (Qhx t rows f b N i res place c)
  injection k1 with k1
  subst k1
  obtain ⟨o5,p1,p2,p3,p4⟩:=QiW.ex
  obtain ⟨o6,q1,q2,q3,q4⟩:=QiN.ex
  have run2:=Mq.one (P:=Tryz.prog) (E:=Q8I β S (look (Q3j t rows f b N i place (.d (.int .i64 res)::c)).h) w) (st:=Qf5 t rows f b N i res place c) p1 p4 (dl:=⟨.ex (.slice ao zs.length cap),[],[]⟩) (QbU (v:=.slice ao zs.length cap) (fun _ _ _ _ _=>.ex _) fun β' S' st' a' w' hR' hO'=>by
      have h1:a'.eval (.tmp 27) = .map (some b):=RdA.ex_inv (hO' (.tmp 27) (by simp [p3,Op.operands])).1
      have h2:a'.eval (.tmp 29) = .int .i64 res:=RdA.int_inv (hO' (.tmp 29) (by simp [p3,Op.operands])).1
      exact Q8Y a' w' 27 29 b _ _ h1 h2 (hlook w' (hb' hR')) o5 p3) ⟨by rw [p2];kernel_rfl,rfl⟩
  have run3:=Mq.one (P:=Tryz.prog) (E:=Q8I β S (look (Q3j t rows f b N i place (.d (.int .i64 res)::c)).h) w) (st:=put (Qf5 t rows f b N i res place c) o5.dst ⟨.ex (.slice ao zs.length cap),[],[]⟩) q1 q4 (dl:=⟨.d (.int .i64 (List.length zs:Nat)),[],[]⟩) (QbU (v:=.int .i64 (List.length zs:Nat)) (fun _ _ _ _ _=>.d _ _ (.int _ _)) fun β' S' st' a' w' hR' hO'=>by
      have h1:a'.eval (.tmp 30) = .slice ao zs.length cap:=by
        have:=(hO' (.tmp 30) (by simp [q3,Op.operands,Call.operands])).1
        rw [p2] at this
        exact RdA.ex_inv this
      exact Qhp a' w' 30 ao zs.length cap h1 o6 q3) ⟨by rw [p2,q2];kernel_rfl,rfl⟩
  rw [p2] at run2 run3
  rw [q2] at run3
  have hv3:=QhE t rows f b N i res place c (.slice ao zs.length cap) (List.length zs:Nat) (fun st'=>some st')
  rw [DB (by omega) (by omega),Q0,Int.toNat_natCast,hpl,Q0] at hv3
  obtain ⟨r4,st4,l4,k4,run4⟩:=Q6w (E:=Q8I β S (look (Q3j t rows f b N i place (.d (.int .i64 res)::c)).h) w) Q5v.spec Q5v.tt _ 7 _ _ _ _ Qg7 hv3
  injection k4 with k4
  subst k4
  have hrun:=((run1.append (by rw [l1];exact run2)).append (by rw [List.length_append,l1];exact run3)).append (r2:=r4) (by simp only [List.length_append,l1];exact run4)
  rw [Qir]
  refine Q8s hrun (by simp only [List.length_append,l1,l4,List.length_cons,List.length_nil];kernel_rfl) ⟨β,S,hR.anew⟩ fun a' w' ⟨β',S',hR'⟩=>?_
  obtain ⟨g1,g2⟩:=hO.keep hR'
  have hset:List.set [x] 0 (Go.Vx.D.int .i64 (List.length zs:Nat))=[Go.Vx.D.int .i64 (List.length zs:Nat)]:=rfl
  rw [hset] at hR' g1
  have hlk:∀ l,look (Q3j t rows f b N i (place.set i [.int .i64 (List.length zs:Nat)]) (.d (.int .i64 res)::c)).h l=look [(17,Ob.arr 3 1 (place.set i [.int .i64 (List.length zs:Nat)])),(9,.box (.d (.int .i64 res)::c))] l:=fun l=>by
    by_cases e1:l=9
    · subst e1;rfl
    · by_cases e2:l=17
      · subst e2;rfl
      · show look (_::_::[]) l=look (_::_::[]) l
        rw [X4,X4,X4,X4,if_neg e1,if_neg e2,if_neg e2,if_neg e1]
  have hb1:=hR.back hR' (fun l hl hs=>by
    rw [X4,X4,if_neg (by omega),if_neg (by omega)] at hs
    cases hs)
  refine hQ β' S' a' w' _ zs (hb1.sub rfl (fun t' av ht=>⟨?_,fun l _=>hlk l⟩) (fun l o ho=>⟨(hlk l).symm.trans ho,fun m _=>hlk m⟩)) ⟨g1.lt,g1.nS,fun k hk l hs=>g1.nO k hk l ((hlk l).symm▸hs)⟩ g2 hR'.hr.fr.size hat hoi
  exact Q2y (pre:=[(32,.ap 17 i 0),(31,.d (.int .i64 (List.length zs:Nat))),(30,.ex (.slice ao zs.length cap)),(29,.d (.int .i64 res)),(28,.ptr 9 0),(27,.ex (.map (some b))),(26,.d (.int .i64 i)),(25,.arr 17)]) ht (by kernel_rfl)
end Go.Vx
namespace Go.Vx
open Go.Proofs Go.Maps Go.RowKit Go.ChangeShapes
def DOK (rs:List Int) (i:Nat) (D:DataW Unit):Prop:=IsMap D∧∀ r:Int,D.atKey (.int .i64 r) .nil=if QcI rs i r=[] then .nil else .slice (lits .i64 (QcI rs i r)) []
theorem Qew (rs:List Int):DOK rs 0 (.map []):=⟨⟨_,rfl⟩,fun r=>rfl⟩
theorem QeI {xs ys:List Int} (h:(lits .i64 xs:List (DataW Unit))=lits .i64 ys):xs=ys:=by
  unfold lits at h
  exact (List.map_inj_right (fun a b hab=>by cases hab;rfl)).1 h
theorem QdW {rs:List Int} {i:Nat} {D:DataW Unit} (h:DOK rs i D) {w:World} {base:Nat} {v:Value} {zs:List Int} {r:Int} (hat:D.atKey (.int .i64 r) .nil=rowDatum .i64 v zs) (ho:w.ownsInts base 3 .i64 v zs):zs=QcI rs i r:=by
  rw [h.2 r] at hat
  rcases ho.datum (H:=Unit) with ⟨h1,rfl⟩ | h1
  · rw [h1] at hat
    split at hat
    · rename_i h2;exact h2.symm
    · cases hat
  · rw [h1] at hat
    split at hat
    · cases hat
    · injection hat with hat
      exact (QeI hat).symm
theorem Qf9 {rs:List Int} {i:Nat} {D:DataW Unit} (h:DOK rs i D):DOK rs (i+1) (D.put (.int .i64 (rs.getD i 0)) (.slice (lits .i64 (QcI rs i (rs.getD i 0)++[(i:Int)])) [])):=by
  refine ⟨h.1.put _ _,fun r=>?_⟩
  rw [Qd8]
  by_cases e:rs.getD i 0=r
  · subst e
    rw [atKey_put_same h.1 (by trivial),if_pos rfl,if_neg (by simp)]
  · rw [atKey_put_other (fun h=>e (by injection h with _ h;exact h.symm)),if_neg e,List.append_nil]
    exact h.2 r
def QaG (w:World) (b g:Nat):Prop:=∃ es clock,w.heap[b]? = some (.map es clock)∧∃ x∈es.toList,x.val.ownBlock=some g
def Hg (w:World) (b k:Nat):Prop:=k=b∨QaG w b k
def QiF (w:World) (b g:Nat):Prop:=g<w.heap.size∧g≠b∧¬ QaG w b g
theorem QfL {w:World} {b n:Nat} {D:DataW Unit} (h:w.ownsGroups Tryz.prog 3 (b+1) 3 .i64 b n D):GI b n D (QiF w b) w:=
  ⟨h,fun es clock hb x hx g hg hN=>hN.2.2 ⟨es,clock,hb,x,hx,hg⟩,fun h=>h.2.1 rfl,fun g hg h=>by have:=h.1;omega⟩
theorem Qc7 {w:World} {b n g:Nat} {D:DataW Unit} (h:w.ownsGroups Tryz.prog 3 (b+1) 3 .i64 b n D) (hr:QaG w b g):b+1≤g∧g<w.heap.size:=by
  obtain ⟨es,clock,hb,F,_⟩:=h
  obtain ⟨es',clock',hb',x,hx,hg⟩:=hr
  rw [hb] at hb';injection hb' with hb';injection hb' with e1 e2
  subst e1
  obtain ⟨y,hy⟩:=F.reads x hx
  obtain ⟨z,hz,_⟩:=WideElems.rd_val hy
  obtain ⟨zs,hoi,_⟩:=rowElem_inv hz
  exact hoi.1.lt g hg
theorem Qgp {E:Env} {β:Nat→Option Nat} {S:Nat→Prop} {a:Act} {w:World} {t:Int} {rows place:List (List Go.Vx.D)} {f b n:Nat} {N res:Int} {i:Nat} {c:List AV} {D:DataW Unit} {Hh:Nat→Prop}
    (hR:Rel E β S (Q3j t rows f b N i place (.d (.int .i64 res)::c)) a w) (hO:Off β S (look (Q3j t rows f b N i place (.d (.int .i64 res)::c)).h) w (fun k=>Hg w b k∨Hh k)) (hh:∀ k,Hh k→k<b) (hb0:E.w0.heap.size≤b)
    (hown:w.ownsGroups Tryz.prog 3 (b+1) 3 .i64 b n D) (hn:n≤1000000000) (hi:i≤1000000000) (hwr:(Lit.int .i64 res).wf=true) {Q:Exit→Act→World→Prop}
    (hQ:∀ a' w' v zs,Rel E β S (Q3j t rows f b N i place (.d (.int .i64 res)::c)) a' w'→Off β S (look (Q3j t rows f b N i place (.d (.int .i64 res)::c)).h) w' (fun k=>Hg w' b k∨Hh k)→(∀ k,Hh k→w'.heap[k]? = w.heap[k]?)→w.heap.size≤w'.heap.size →
      D.atKey (.int .i64 res) .nil=rowDatum .i64 v zs→w.ownsInts (b+1) 3 .i64 v zs→w'.ownsGroups Tryz.prog 3 (b+1) 3 .i64 b (n+1) (D.put (.int .i64 res) (.slice (lits .i64 (zs++[(i:Int)])) []))→Q .normal a' w'):(Q42 6).wp Tryz.prog Q a w:=by
  have hv6:Q42 6 = .region 6 Qdi true:=by kernel_rfl
  have t6:tmv a 6 = .map (some b):=RdA.ex_inv (hR.tm 6 _ rfl)
  have t8:tmv a 8 = .int .i64 (i:Int):=RdA.int_inv (hR.tm 8 _ rfl)
  obtain ⟨ub,hub,t9⟩:=RdA.ptr_inv (hR.tm 9 _ rfl)
  obtain ⟨ub',ty,cs,fz,e1,e2,_,e4,e5⟩:=hR.hr.ob 9 (.box (.d (.int .i64 res)::c)) rfl
  obtain rfl:ub=ub':=by rw [hub] at e1;injection e1
  have hcell:w.cell? ⟨ub,0,none⟩=some (.int .i64 res):=by
    have h1:=RdA.int_inv (e5 0 _ rfl)
    have hsz:0<cs.size:=by rw [e4];simp
    simp only [Array.getD,hsz,dite_true] at h1
    simp [World.cell?,e2,hsz]
    exact h1
  have hs9:(look (Q3j t rows f b N i place (.d (.int .i64 res)::c)).h 9).isSome=true:=rfl
  have hNo:QiF w b ub:=⟨NL hR hs9 hub,fun e=>hO.nO ub (.inl (.inl e)) 9 hs9 hub,fun h=>hO.nO ub (.inl (.inr h)) 9 hs9 hub⟩
  rw [hv6]
  refine Qh9 Qiq (QfL hown) hn (hR.n) t6 t8 t9 hcell hNo hwr (WalkArith.wf_i64 (by omega)) fun a' w' v zs hsz hdf hold hat hoi hG hos htp hout hsize hblk=>?_
  have hOg:Off β S (look (Q3j t rows f b N i place (.d (.int .i64 res)::c)).h) w (Hg w b):=⟨fun k hk=>hO.lt k (.inl hk),fun k hk=>hO.nS k (.inl hk),fun k hk=>hO.nO k (.inl hk)⟩
  have hR':Rel E β S (Q3j t rows f b N i place (.d (.int .i64 res)::c)) a' w':=by
    refine Qe2 hR hOg (fun k hk=>?_) (by rw [hsz,hR.n];rfl) hdf (fun t' av ht=>?_) hos htp hout hsize fun k hk hnk=>hblk k hk (.inr ⟨hk,fun e=>hnk (.inl e),fun h=>hnk (.inr h)⟩)
    · rcases hk with rfl | hk
      · exact .inr hb0
      · have:=(Qc7 hown hk).1;exact .inr (by omega)
    · have hm:=YG ht
      simp only [Q3j,Qgf,Q4S,QcU,List.mem_cons,Prod.mk.injEq,List.not_mem_nil,or_false] at hm
      have hlt:t'<33:=by omega
      refine ⟨hold t' (.inl hlt),fun t'' hg=>?_⟩
      rcases hm with ⟨_,rfl⟩ | ⟨_,rfl⟩ | ⟨_,rfl⟩ | ⟨_,rfl⟩ | ⟨_,rfl⟩ | ⟨_,rfl⟩ | ⟨_,rfl⟩ | ⟨_,rfl⟩ | ⟨_,rfl⟩ | ⟨_,rfl⟩ <;> simp [gds,Q55] at hg
  have hrow:∀ k,QaG w' b k→w.heap.size≤k∨k=b∨QaG w b k:=fun k hk=>by
    by_cases h1:w.heap.size≤k
    · exact .inl h1
    · by_cases h2:k=b
      · exact .inr (.inl h2)
      · by_cases h3:QaG w b k
        · exact .inr (.inr h3)
        · obtain ⟨es,clock,hb,x,hx,hg⟩:=hk
          exact absurd ⟨by omega,h2,h3⟩ (hG.shun es clock hb x hx k hg)
  have hcase:∀ k,Hg w' b k∨Hh k→(w.heap.size≤k∧k<w'.heap.size)∨(Hg w b k∨Hh k):=fun k hk=>by
    rcases hk with (hk | hk) | hk
    · exact .inr (.inl (.inl hk))
    · rcases hrow k hk with h | h | h
      · exact .inl ⟨h,(Qc7 hG.own hk).2⟩
      · exact .inr (.inl (.inl h))
      · exact .inr (.inl (.inr h))
    · exact .inr (.inr hk)
  refine hQ a' w' v zs hR' ⟨fun k hk=>?_,fun k hk hS=>?_,fun k hk l hs hb=>?_⟩ (fun k hk=>hblk k (hO.lt k (.inr hk)) (.inl (hh k hk))) hsize hat hoi hG.own
  · rcases hcase k hk with h | h
    · exact h.2
    · exact Nat.lt_of_lt_of_le (hO.lt k h) hsize
  · rcases hcase k hk with h | h
    · have:=hR.hr.sb k hS;omega
    · exact hO.nS k h hS
  · rcases hcase k hk with h | h
    · have:=NL hR hs hb;omega
    · exact hO.nO k h l hs hb

def onN (e:Exit) (st:St):Option St:=match e with
  | .normal=>some st
  | _=>none
theorem Qbh {e:Exit} {st r:St} (h:onN e st=some r):e = .normal∧st=r:=by
  cases e with
  | normal=>injection h with h;exact ⟨rfl,h⟩
  | _=>cases h
theorem Q2O {E:Env} {β:Nat→Option Nat} {S:Nat→Prop} {a:Act} {w:World} {st r:St} {c:Code} (h:Qi Qdm 0 c st onN=some r) (hR:Rel E β S st a w) {Hd:Nat→Prop} (hO:Off β S (look st.h) w Hd)
    (hp:∀ l,1000000≤l→(look r.h l).isSome=true→(look st.h l).isSome=true) {Q:Exit→Act→World→Prop}
    (hQ:∀ β' S' a' w',Rel E β' S' r a' w'→Off β' S' (look r.h) w' Hd→(∀ k,Hd k→w'.heap[k]? = w.heap[k]?)→w.heap.size≤w'.heap.size→Q .normal a' w'):c.wp Tryz.prog Q a w:=by
  refine wp_mono (QcW Q5v h hR hO (fun e st' hk=>by obtain ⟨_,rfl⟩:=Qbh hk;exact hp)) fun e a' w' ⟨st',β',S',h1,h2,h3,h4,h5⟩=>?_
  obtain ⟨rfl,rfl⟩:=Qbh h2
  exact hQ β' S' a' w' h1 h3 h4 h5.size
theorem Qgm {E:Env} {β:Nat→Option Nat} {S:Nat→Prop} {a:Act} {w:World} {t:Int} {rows place:List (List Go.Vx.D)} {f b:Nat} {N res:Int} {i:Nat} {c1 c2 c3 c4:Go.Vx.D} {Hd:Nat→Prop}
    (hR:Rel E β S (Q5s t rows f b N i place) a w) (hO:Off β S (look (Q5s t rows f b N i place).h) w Hd) (hrow:rows[i]? = some [.int .i64 res,c1,c2,c3,c4]) {Q:Exit→Act→World→Prop}
    (hQ:∀ β' S' a' w',Rel E β' S' (Q3j t rows f b N i place [.d (.int .i64 res),.d c1,.d c2,.d c3,.d c4]) a' w'→Off β' S' (look (Q3j t rows f b N i place [.d (.int .i64 res),.d c1,.d c2,.d c3,.d c4]).h) w' Hd→(∀ k,Hd k→w'.heap[k]? = w.heap[k]?)→w.heap.size≤w'.heap.size→Q .normal a' w') :
    (Q42 4).wp Tryz.prog Q a w:=by
  have hx:=QgR t f b rows place N i onN
  have hra:X2 rows (i:Int)=some [.int .i64 res,c1,c2,c3,c4]:=by
    have h0:=Q1k (f:=fun x:List Go.Vx.D=>x) hrow
    rwa [List.map_id'] at h0
  rw [hra] at hx
  refine Q2O hx hR hO (fun l hl hs=>?_) fun β' S' a' w' h1 h2 h3 h4=>hQ β' S' a' w' (h1.sub rfl (fun t' av ht=>⟨?_,fun _ _=>rfl⟩) (fun l o ho=>⟨ho,fun _ _=>rfl⟩)) h2 h3 h4
  · have hs':(look [(9,Ob.box [.d (.int .i64 res),.d c1,.d c2,.d c3,.d c4]),(17,.arr 3 1 place)] l).isSome=true:=hs
    rw [X4,X4,if_neg (by omega),if_neg (by omega)] at hs'
    cases hs'
  · have hm:=YG ht
    simp only [Q3j,Qgf,Q4S,QcU,List.mem_cons,Prod.mk.injEq,List.not_mem_nil,or_false] at hm
    rcases hm with ⟨rfl,rfl⟩ | ⟨rfl,rfl⟩ | ⟨rfl,rfl⟩ | ⟨rfl,rfl⟩ | ⟨rfl,rfl⟩ | ⟨rfl,rfl⟩ | ⟨rfl,rfl⟩ | ⟨rfl,rfl⟩ | ⟨rfl,rfl⟩ | ⟨rfl,rfl⟩ <;> rfl
theorem QgP {E:Env} {β:Nat→Option Nat} {S:Nat→Prop} {a:Act} {w:World} {t:Int} {rows place:List (List Go.Vx.D)} {f b:Nat} {N i:Int} {c:List AV} (hR:Rel E β S (Q3j t rows f b N i place c) a w):Rel E β S (Q5s t rows f b N i place) a w:=by
  have hlk:∀ l,l≠9→look (Q5s t rows f b N i place).h l=look (Q3j t rows f b N i place c).h l:=fun l hl=>by
    show look (_::[]) l=look (_::_::[]) l
    rw [X4,X4,X4,if_neg hl]
  refine hR.sub rfl (fun t' av ht=>?_) (fun l o ho=>?_)
  · have hm:=YG ht
    simp only [Q5s,Q4S,QcU,List.mem_cons,Prod.mk.injEq,List.not_mem_nil,or_false] at hm
    rcases hm with ⟨rfl,rfl⟩ | ⟨rfl,rfl⟩ | ⟨rfl,rfl⟩ | ⟨rfl,rfl⟩ | ⟨rfl,rfl⟩ | ⟨rfl,rfl⟩ | ⟨rfl,rfl⟩ | ⟨rfl,rfl⟩ <;> refine ⟨rfl,fun l hn=>hlk l (fun e=>?_)⟩ <;> subst e <;> simp [U2,KO] at hn
  · have ho':look (Q5s t rows f b N i place).h l=some o:=ho
    have hl:l=17:=by
      by_cases e:l=17
      · exact e
      · rw [show (Q5s t rows f b N i place).h=[(17,Ob.arr 3 1 place)] from rfl,X4,if_neg e] at ho'
        cases ho'
    subst hl
    have:o = .arr 3 1 place:=by injection ho' with h;exact h.symm
    subst this
    exact ⟨rfl,fun m hm=>by cases hm⟩
theorem QfN {E:Env} {β:Nat→Option Nat} {S:Nat→Prop} {a:Act} {w:World} {t:Int} {rows place:List (List Go.Vx.D)} {f b:Nat} {N:Int} {i:Nat} (hi:i≤1000000000) {Hd:Nat→Prop}
    (hR:Rel E β S (Q5s t rows f b N i place) a w) (hO:Off β S (look (Q5s t rows f b N i place).h) w Hd) {Q:Exit→Act→World→Prop}
    (hQ:∀ β' S' a' w',Rel E β' S' (Q5s t rows f b N (i+1:Nat) place) a' w'→Off β' S' (look (Q5s t rows f b N (i+1:Nat) place).h) w' Hd→(∀ k,Hd k→w'.heap[k]? = w.heap[k]?)→w.heap.size≤w'.heap.size→Q .normal a' w') :
    (Q42 7).wp Tryz.prog Q a w:=by
  have hx:=QgZ t f b rows place N i onN
  rw [Q8k (by omega) (by omega),show ((i:Int)+1)=((i+1:Nat):Int) from rfl] at hx
  refine Q2O hx hR hO (fun l hl hs=>hs) fun β' S' a' w' h1 h2 h3 h4=>hQ β' S' a' w' (h1.sub rfl (fun t' av ht=>⟨?_,fun _ _=>rfl⟩) (fun l o ho=>⟨ho,fun _ _=>rfl⟩)) h2 h3 h4
  have hm:=YG ht
  simp only [Q5s,Q4S,QcU,List.mem_cons,Prod.mk.injEq,List.not_mem_nil,or_false] at hm
  rcases hm with ⟨rfl,rfl⟩ | ⟨rfl,rfl⟩ | ⟨rfl,rfl⟩ | ⟨rfl,rfl⟩ | ⟨rfl,rfl⟩ | ⟨rfl,rfl⟩ | ⟨rfl,rfl⟩ | ⟨rfl,rfl⟩ <;> rfl

noncomputable def Qck:Code:=cB (cB (cR (cL (cR (cR FB)))))
theorem Qbb:Qck = .seq (Q42 3) (.seq (.cond (.tmp 21) .skip (.exit 0)) (.seq (.block 1 (.seq (Q42 4) (.seq (Q42 5) (Q42 6)))) (Q42 7))):=by kernel_rfl
def LI (E:Env) (t:Int) (rows:List (List Go.Vx.D)) (f b:Nat) (rs:List Int) (Hh:Nat→Prop) (w00:World) (i:Nat) (a:Act) (w:World):Prop:=
  ∃ β S D,Rel E β S (Q5s t rows f b (rs.length:Nat) i (Q8h rs i)) a w∧Off β S (look (Q5s t rows f b (rs.length:Nat) i (Q8h rs i)).h) w (fun k=>Hg w b k∨Hh k) ∧
    w.ownsGroups Tryz.prog 3 (b+1) 3 .i64 b i D∧DOK rs i D∧(∀ k,Hh k→w.heap[k]? = w00.heap[k]?)
theorem QaB {w w':World} {b:Nat} (h:w'.heap[b]? = w.heap[b]?) (k:Nat):Hg w' b k↔Hg w b k:=by unfold Hg QaG;rw [h]
theorem A9 {w w':World} {b n:Nat} {D:DataW Unit} (h:w.ownsGroups Tryz.prog 3 (b+1) 3 .i64 b n D) (hk:∀ k,Hg w b k→w'.heap[k]? = w.heap[k]?):w'.ownsGroups Tryz.prog 3 (b+1) 3 .i64 b n D:=by
  obtain ⟨es,clock,hb,F,hs,rfl,hbb,hlen,hap⟩:=h
  have hint:∀ x∈es.toList,∀ zs,w.ownsInts (b+1) 3 .i64 x.val zs→w'.ownsInts (b+1) 3 .i64 x.val zs:=fun x hx zs ho=>by
    refine ⟨⟨ho.1.1,ho.1.2.imp id fun ⟨g,cap,cur,hv,h0,hg,r⟩=>⟨g,cap,cur,hv,h0,?_,r⟩⟩,ho.2⟩
    rw [hk g (.inr ⟨es,clock,hb,x,hx,by rw [hv];rfl⟩)]
    exact hg
  have hst:∀ x∈es.toList,∀ z,rowElem (H:=Unit) w (b+1) 3 .i64 x.val=some z→rowElem w' (b+1) 3 .i64 x.val=some z:=fun x hx z hz=>by
    obtain ⟨zs,ho,rfl⟩:=rowElem_inv hz
    exact rowElem_mk (hint x hx zs ho)
  obtain ⟨F1,hmap,_⟩:=F.stay hst
  refine ⟨es,clock,(hk b (.inl rfl)).trans hb,F1,hs,by rw [hmap],hbb,fun x hx zs ho=>?_,hap⟩
  obtain ⟨y,hy⟩:=F.reads x hx
  obtain ⟨z,hz,_⟩:=WideElems.rd_val hy
  obtain ⟨zs0,ho0,_⟩:=rowElem_inv hz
  rw [ho.unique (hint x hx zs0 ho0)]
  exact hlen x hx zs0 ho0
theorem QbM {β:Nat→Option Nat} {S:Nat→Prop} {h:Nat→Option Ob} {w w':World} {b:Nat} {Hh:Nat→Prop} (hO:Off β S h w' (fun k=>Hg w b k∨Hh k)) (hb:w'.heap[b]? = w.heap[b]?):Off β S h w' (fun k=>Hg w' b k∨Hh k):=
  ⟨fun k hk=>hO.lt k (hk.imp (QaB hb k).1 id),fun k hk=>hO.nS k (hk.imp (QaB hb k).1 id),fun k hk=>hO.nO k (hk.imp (QaB hb k).1 id)⟩
theorem Qdj {E:Env} {t:Int} {rows:List (List Go.Vx.D)} {f b:Nat} {rs:List Int} {Hh:Nat→Prop} {w00:World} {i:Nat} {a:Act} {w:World} (hrs:QcR rows=some rs) (hN:rs.length≤1000000000) (hh:∀ k,Hh k→k<b) (hb0:E.w0.heap.size≤b)
    (h:LI E t rows f b rs Hh w00 i a w) (hi:i<rs.length) {Q:Exit→Act→World→Prop}:Qck.wp Tryz.prog (Exit.then (LI E t rows f b rs Hh w00 (i+1)) Q) a w:=by
  obtain ⟨β,S,D,hR,hO,hown,hD,hH⟩:=h
  obtain ⟨r,c1,c2,c3,c4,g1,g2,g3,g4⟩:=Qdz hrs i (by rw [← Q0r hrs];exact hi)
  have hwr:(Lit.int .i64 r).wf=true:=WalkArith.wf_i64 (by omega)
  rw [Qbb]
  refine wp_seq (Q2O (Qft t f b rows (Q8h rs i) (rs.length:Nat) i onN) hR hO (fun l hl hs=>hs) fun β1 S1 a1 w1 hR1 hO1 hk1 hs1=>?_)
  refine wp_seq (wp_cond_true (by
    have:=RdA.bool_inv (hR1.tm 21 _ rfl)
    rw [show a1.eval (.tmp 21)=tmv a1 21 from rfl,this]
    simp;omega) (wp_skip ?_))
  have hR1':Rel E β1 S1 (Q5s t rows f b (rs.length:Nat) i (Q8h rs i)) a1 w1:=hR1.sub rfl (fun t' av ht=>⟨Q2y (pre:=[(21,.d (.bool (decide ((i:Int)<(rs.length:Nat)))))]) ht rfl,fun _ _=>rfl⟩) (fun l o ho=>⟨ho,fun _ _=>rfl⟩)
  have hown1:=A9 hown (fun k hk=>hk1 k (.inl hk))
  refine wp_seq (wp_block (wp_seq (Qgm hR1' hO1 g1 fun β2 S2 a2 w2 hR2 hO2 hk2 hs2=>?_)))
  have hown2:=A9 hown (fun k hk=>(hk2 k (.inl hk)).trans (hk1 k (.inl hk)))
  refine wp_seq (Qh0 hR2 hO2 (.inl (.inl rfl)) (QfL hown2) (by omega) hwr (by rw [Q5Z rs (by omega)];exact hi) (by rw [Q5Z rs (by omega)];omega) (Qgz rs hi) fun β3 S3 a3 w3 v zs hR3 hO3 hk3 hs3 hat hoi=>?_)
  have hzs:=QdW hD hat hoi
  subst hzs
  rw [← g2,QdU rs hi] at hR3 hO3
  have hb3:w3.heap[b]? = w.heap[b]?:=(hk3 b (.inl (.inl rfl))).trans ((hk2 b (.inl (.inl rfl))).trans (hk1 b (.inl (.inl rfl))))
  have hown3:=A9 hown (fun k hk=>(hk3 k (.inl hk)).trans ((hk2 k (.inl hk)).trans (hk1 k (.inl hk))))
  refine Qgp hR3 (QbM hO3 hb3) hh hb0 hown3 (by omega) (by omega) (g2▸hwr) fun a4 w4 v4 zs4 hR4 hO4 hk4 hs4 hat4 hoi4 hown4=>?_
  have hzs4:=QdW hD hat4 hoi4
  subst hzs4
  refine QfN (by omega) (QgP hR4) ⟨hO4.lt,hO4.nS,fun k hk l hs hb=>?_⟩ fun β5 S5 a5 w5 hR5 hO5 hk5 hs5=>?_
  · have hl:l=17:=by
      by_cases e:l=17
      · exact e
      · have hs':(look [(17,Ob.arr 3 1 (Q8h rs (i+1)))] l).isSome=true:=hs
        rw [X4,if_neg e] at hs'
        cases hs'
    subst hl
    exact hO4.nO k hk 17 rfl hb
  · exact ⟨β5,S5,_,hR5,QbM hO5 (hk5 b (.inl (.inl rfl))),A9 hown4 (fun k hk=>hk5 k (.inl hk)),Qf9 hD,fun k hk=>(hk5 k (.inr hk)).trans ((hk4 k hk).trans ((hk3 k (.inr hk)).trans ((hk2 k (.inr hk)).trans ((hk1 k (.inr hk)).trans (hH k hk)))))⟩

theorem Q7q {E:Env} {t:Int} {rows:List (List Go.Vx.D)} {f b:Nat} {rs:List Int} {Hh:Nat→Prop} {w00:World} (hrs:QcR rows=some rs) (hN:rs.length≤1000000000) (hh:∀ k,Hh k→k<b) (hb0:E.w0.heap.size≤b) {Q:Exit→Act→World→Prop}
    (hQ:∀ a' w',LI E t rows f b rs Hh w00 rs.length a' w'→Q (.exit 0) a' w'):∀ (m i:Nat) (a:Act) (w:World),i+m=rs.length→LI E t rows f b rs Hh w00 i a w→Code.rounds Tryz.prog Qck Q (m+1) a w
  | 0,i,a,w,him,h=>by
    obtain rfl:i=rs.length:=by omega
    rw [rounds_succ]
    obtain ⟨β,S,D,hR,hO,hown,hD,hH⟩:=h
    rw [Qbb]
    refine wp_seq (Q2O (Qft t f b rows (Q8h rs rs.length) (rs.length:Nat) rs.length onN) hR hO (fun l hl hs=>hs) fun β1 S1 a1 w1 hR1 hO1 hk1 hs1=>?_)
    refine wp_seq (wp_cond_false (by
      have:=RdA.bool_inv (hR1.tm 21 _ rfl)
      rw [show a1.eval (.tmp 21)=tmv a1 21 from rfl,this]
      simp) (wp_exit (hQ a1 w1 ?_)))
    exact ⟨β1,S1,D,hR1.sub rfl (fun t' av ht=>⟨Q2y (pre:=[(21,.d (.bool (decide (((rs.length:Nat):Int)<(rs.length:Nat)))))]) ht rfl,fun _ _=>rfl⟩) (fun l o ho=>⟨ho,fun _ _=>rfl⟩),QbM hO1 (hk1 b (.inl (.inl rfl))),A9 hown (fun k hk=>hk1 k (.inl hk)),hD,fun k hk=>(hk1 k (.inr hk)).trans (hH k hk)⟩
  | m+1,i,a,w,him,h=>by
    rw [rounds_succ]
    refine wp_mono (Qdj (Q:=Q) hrs hN hh hb0 h (by omega)) fun e a' w' hp=>?_
    cases e with
    | normal=>exact Q7q hrs hN hh hb0 hQ m (i+1) a' w' (by omega) hp
    | _=>exact hp
theorem Qf3 {E:Env} {t:Int} {rows:List (List Go.Vx.D)} {f b:Nat} {rs:List Int} {Hh:Nat→Prop} {w00:World} (hrs:QcR rows=some rs) (hN:rs.length≤1000000000) (hh:∀ k,Hh k→k<b) (hb0:E.w0.heap.size≤b) {Q:Exit→Act→World→Prop} {a:Act} {w:World}
    (h:LI E t rows f b rs Hh w00 0 a w) (hQ:∀ a' w',LI E t rows f b rs Hh w00 rs.length a' w'→Q .normal a' w'):(Code.block 0 (.loop Qck)).wp Tryz.prog Q a w:=
  wp_block (wp_loop_rounds (rs.length+1) (Q7q hrs hN hh hb0 (fun a' w' hl=>hQ a' w' hl) rs.length 0 a w (by omega) h))

noncomputable def Q8L:Array Oper:=Qeq (Q42 0)
theorem Qio:Q42 0 = .region 0 Q8L false:=by kernel_rfl
theorem Qj1:OpAt Q8L 0 (some 14) (.makeMap 132 none):=Q68 (by kernel_rfl)
theorem QiV:OpAt Q8L 1 (some 6) (.assign (.tmp 14)):=Q68 (by kernel_rfl)
theorem Qg2:Q8L.size=2:=by kernel_rfl
theorem Qh4 {Q:Exit→Act→World→Prop} {a:Act} {w:World} (hsz:a.tmps.size=81)
    (hQ:∀ a',a'.tmps.size=81→a'.defers=a.defers→(∀ t,t≠14→t≠6→tmv a' t=tmv a t)→tmv a' 6 = .map (some w.heap.size)→Q .normal a' (w.alloc (.map #[] 0))):(Q42 0).wp Tryz.prog Q a w:=by
  rw [Qio]
  refine wp_region ?_
  rw [Qg2,show List.range 2=[0,1] from rfl,wpOps_cons]
  refine Nq Qj1 (v:=.map (some w.heap.size)) (w':=w.alloc (.map #[] 0)) (fun o h=>?_) ?_
  · unfold execOp;rw [h];rfl
  rw [wpOps_cons]
  have e1:∀ t,tmv (a.put (some 14) (.map (some w.heap.size))) t=if t=14 then .map (some w.heap.size) else tmv a t:=fun t=>Q0M (by rw [hsz];omega) t
  have s1:(a.put (some 14) (.map (some w.heap.size))).tmps.size=81:=by simp [Act.put,hsz]
  refine Nq QiV (v:=.map (some w.heap.size)) (w':=w.alloc (.map #[] 0)) (fun o h=>?_) ?_
  · unfold execOp;rw [h]
    have h14:(a.put (some 14) (.map (some w.heap.size))).eval (.tmp 14) = .map (some w.heap.size):=by rw [Q51,e1,if_pos rfl]
    simp [h14]
  have e2:∀ t,tmv ((a.put (some 14) (.map (some w.heap.size))).put (some 6) (.map (some w.heap.size))) t=if t=6 then .map (some w.heap.size) else tmv (a.put (some 14) (.map (some w.heap.size))) t:=fun t=>Q0M (by rw [s1];omega) t
  refine hQ _ (by simp [Act.put,hsz]) rfl (fun t h1 h2=>?_) ?_
  · rw [e2,if_neg h2,e1,if_neg h1]
  · rw [e2,if_pos rfl]
theorem QiG {β β':Nat→Option Nat} {S S':Nat→Prop} {h h':Nat→Option Ob} {w w':World} {tm tm':Nat→Value} {v:Value} {f l:Nat} (hb:β' l=β l) (hv:RdA β S h w tm v (.fn f [.ptr l 0])):RdA β' S' h' w' tm' v (.fn f [.ptr l 0]):=by
  cases hv with
  | fn _ cs _ hl hr=>
    refine .fn f cs _ hl fun i x hx=>?_
    have hrx:=hr i x hx
    match i,hx with
    | 0,hx=>
      simp only [List.getElem?_cons_zero,Option.some.injEq] at hx
      subst hx
      obtain ⟨b,h1,h2⟩:=RdA.ptr_inv hrx
      rw [h2]
      exact .ptr l 0 b (hb.trans h1)
  | dang _ _ l hl=>simp [Ha] at hl
theorem HRel.bare {E:Env} {β:Nat→Option Nat} {S:Nat→Prop} {h:Nat→Option Ob} {w:World} (hr:HRel E β S h w):HRel E β S (look ([]:List (Nat × Ob))) w where
  ob:=fun l o ho=>by cases ho
  inj:=fun l l' b h1=>by cases h1
  apart:=fun l b h1=>by cases h1
  own:=fun l b h1=>by cases h1
  sb:=hr.sb
  sfr:=hr.sfr
  s0:=hr.s0
  fr:=hr.fr
  pin:=hr.pin
  psz:=fun l b hl h1=>by cases h1
def QgL (β:Nat→Option Nat) (H:List (Nat × Ob)) (k:Nat):Prop:=∃ l,(look H l).isSome=true∧β l=some k
def Qgu (t:Int) (rows:List (List Go.Vx.D)) (f:Nat):List AV:=[.d (.int .i64 t),.d (.sl 5 rows),.fn f [.ptr 1000000 0]]
theorem QdV {E:Env} {β:Nat→Option Nat} {S:Nat→Prop} {a:Act} {w:World} {t:Int} {rows:List (List Go.Vx.D)} {f:Nat} {H:List (Nat × Ob)} {rs:List Int} (hrs:QcR rows=some rs) (hN:rs.length≤1000000000)
    (hw0:E.w0=w) (hR:Rel E β S ⟨81,Q7m 0 (Qgu t rows f),H⟩ a w) {c:Code} {Q:Exit→Act→World→Prop}
    (hQ:∀ a' w',LI E t rows f w.heap.size rs (QgL β H) w rs.length a' w'→c.wp Tryz.prog Q a' w'):(Code.seq (Q42 0) (.seq (Q42 1) (.seq (.seq (Q42 2) (.block 0 (.loop Qck))) c))).wp Tryz.prog Q a w:=by
  have hlen:=Q0r hrs
  have hR0:Rel E β S ⟨81,[(0,.d (.int .i64 t)),(1,.d (.sl 5 rows)),(2,.fn f [.ptr 1000000 0])],[]⟩ a w:=by
    refine ⟨hR.n,hR.dfr,fun t' av ht=>?_,hR.hr.bare⟩
    have hm:=YG ht
    simp only [List.mem_cons,Prod.mk.injEq,List.not_mem_nil,or_false] at hm
    rcases hm with ⟨rfl,rfl⟩ | ⟨rfl,rfl⟩ | ⟨rfl,rfl⟩
    · exact (hR.tm 0 (.d (.int .i64 t)) rfl).mono (fun _ h=>h) (fun _ _=>rfl) (fun l hl=>by simp [U2] at hl) (fun _ _=>rfl)
    · exact (hR.tm 1 (.d (.sl 5 rows)) rfl).mono (fun _ h=>h) (fun _ _=>rfl) (fun l hl=>by simp [U2] at hl) (fun _ _=>rfl)
    · exact QiG rfl (hR.tm 2 (.fn f [.ptr 1000000 0]) rfl)
  have hOh:Off β S (look ([]:List (Nat × Ob))) w (QgL β H):=⟨fun b ⟨l,h1,h2⟩=>NL hR h1 h2,fun b ⟨l,h1,h2⟩=>hR.hr.apart l b h1 h2,fun b _ l h1=>by cases h1⟩
  refine wp_seq (Qh4 hR.n fun a1 z1 z2 z3 z4=>?_)
  have hold:∀ k,k<w.heap.size→(w.alloc (.map #[] 0)).heap[k]? = w.heap[k]?:=fun k hk=>Zn w _ hk
  have hsz1:(w.alloc (.map #[] 0)).heap.size=w.heap.size+1:=by simp
  have hown:=World.ownsGroups_made (H:=Unit) w Tryz.prog 3 3 .i64
  have hnew:(w.alloc (.map #[] 0)).heap[w.heap.size]? = some (.map #[] 0):=(MapKept.heap_alloc w _).1
  have hHg:∀ k,Hg (w.alloc (.map #[] 0)) w.heap.size k→k=w.heap.size:=fun k hk=>by
    rcases hk with h | ⟨es,clock,hb,x,hx,_⟩
    · exact h
    · rw [hnew] at hb
      injection hb with hb
      injection hb with hb1 hb2
      subst hb1
      simp at hx
  have hR1:Rel E β S ⟨81,QcU t rows f w.heap.size [],[]⟩ a1 (w.alloc (.map #[] 0)):=by
    have h0:=Qe2 (a':=a1) (w':=w.alloc (.map #[] 0)) (Hd:=fun _=>False) hR0 ⟨fun b h=>h.elim,fun b h=>h.elim,fun b h=>h.elim⟩ (fun b h=>h.elim) (by rw [z1,hR.n]) z2 (fun t' av ht=>?_) rfl rfl rfl (by rw [hsz1];omega) (fun k hk _=>hold k hk)
    · refine ⟨h0.n,h0.dfr,fun t' av ht=>?_,h0.hr⟩
      have ht':look (QcU t rows f w.heap.size []) t'=some av:=ht
      have hm:=YG ht'
      simp only [QcU,List.mem_cons,Prod.mk.injEq,List.not_mem_nil,or_false] at hm
      rcases hm with ⟨rfl,rfl⟩ | ⟨rfl,rfl⟩ | ⟨rfl,rfl⟩ | ⟨rfl,rfl⟩
      · exact h0.tm 0 _ rfl
      · exact h0.tm 1 _ rfl
      · exact h0.tm 2 _ rfl
      · rw [z4];exact .ex _
    · have hm:=YG ht
      simp only [List.mem_cons,Prod.mk.injEq,List.not_mem_nil,or_false] at hm
      rcases hm with ⟨rfl,rfl⟩ | ⟨rfl,rfl⟩ | ⟨rfl,rfl⟩ <;> refine ⟨z3 _ (by omega) (by omega),fun t'' hg=>by simp [gds,Q55] at hg⟩
  have hO1:Off β S (look ([]:List (Nat × Ob))) (w.alloc (.map #[] 0)) (fun k=>Hg (w.alloc (.map #[] 0)) w.heap.size k∨QgL β H k):=by
    refine ⟨fun k hk=>?_,fun k hk hS=>?_,fun k hk l h1=>by cases h1⟩
    · rcases hk with hk | hk
      · have:=hHg k hk;omega
      · have:=hOh.lt k hk;omega
    · rcases hk with hk | hk
      · have:=hHg k hk;have:=hR.hr.sb k hS;omega
      · exact hOh.nS k hk hS
  have hx1:=Qhy t f w.heap.size rows onN
  rw [← hlen,show (bif decide (0≤((List.length rs:Nat):Int))&&decide (((List.length rs:Nat):Int)≤((List.length rs:Nat):Int)) then some () else none)=some () by
    rw [decide_eq_true (by omega),decide_eq_true (by omega)];rfl,Q0,show R0 (Int.toNat ((List.length rs:Nat):Int)*8)=some () by
    rw [Int.toNat_natCast];exact Qgx (by omega),Q0,Int.toNat_natCast] at hx1
  refine wp_seq (Q2O hx1 hR1 hO1 (fun l hl hs=>?_) fun β2 S2 a2 w2 hR2 hO2 hk2 hs2=>?_)
  · have hs':(look [(17,Ob.arr 3 1 (List.replicate rs.length [Go.Vx.D.int .i64 0]))] l).isSome=true:=hs
    rw [X4,if_neg (by omega)] at hs'
    cases hs'
  have hR2':Rel E β2 S2 ⟨81,Q4S t rows f w.heap.size [],[(17,.arr 3 1 (List.replicate rs.length [Go.Vx.D.int .i64 0]))]⟩ a2 w2:=by
    refine hR2.sub rfl (fun t' av ht=>⟨?_,fun _ _=>rfl⟩) (fun l o ho=>⟨ho,fun _ _=>rfl⟩)
    have ht':look (Q4S t rows f w.heap.size []) t'=some av:=ht
    have hm:=YG ht'
    simp only [Q4S,QcU,List.mem_cons,Prod.mk.injEq,List.not_mem_nil,or_false] at hm
    rcases hm with ⟨rfl,rfl⟩ | ⟨rfl,rfl⟩ | ⟨rfl,rfl⟩ | ⟨rfl,rfl⟩ | ⟨rfl,rfl⟩ <;> rfl
  have hx2:=Qhd t f w.heap.size rows (List.replicate rs.length [Go.Vx.D.int .i64 0]) onN
  rw [← hlen] at hx2
  refine wp_seq (wp_seq (Q2O hx2 hR2' hO2 (fun l hl hs=>hs) fun β3 S3 a3 w3 hR3 hO3 hk3 hs3=>?_))
  have hk13:∀ k,Hg (w.alloc (.map #[] 0)) w.heap.size k∨QgL β H k→w3.heap[k]? = (w.alloc (.map #[] 0)).heap[k]?:=fun k hk=>(hk3 k hk).trans (hk2 k hk)
  refine Qf3 hrs hN (fun k hk=>hOh.lt k hk) (by rw [hw0];exact Nat.le_refl _) ⟨β3,S3,.map [],?_,?_,A9 hown (fun k hk=>hk13 k (.inl hk)),Qew rs,fun k hk=>(hk13 k (.inr hk)).trans (hold k (hOh.lt k hk))⟩ (fun a' w' hl=>hQ a' w' hl)
  · rw [Q93]
    refine hR3.sub rfl (fun t' av ht=>⟨?_,fun _ _=>rfl⟩) (fun l o ho=>⟨ho,fun _ _=>rfl⟩)
    have hm:=YG ht
    simp only [Q5s,Q4S,QcU,List.mem_cons,Prod.mk.injEq,List.not_mem_nil,or_false] at hm
    rcases hm with ⟨rfl,rfl⟩ | ⟨rfl,rfl⟩ | ⟨rfl,rfl⟩ | ⟨rfl,rfl⟩ | ⟨rfl,rfl⟩ | ⟨rfl,rfl⟩ | ⟨rfl,rfl⟩ | ⟨rfl,rfl⟩ <;> rfl
  · rw [Q93]
    exact QbM hO3 (hk13 _ (.inl (.inl rfl)))

def QhX:AV→Bool
  | .d _=>true
  | .nil=>true
  | .arr l=>Nat.ble 1000000 l
  | _=>false
def QiA:Ob→Bool
  | .box cs=>cs.all QhX
  | .arr ..=>true
def Qid (H:List (Nat × Ob)):Bool:=H.all fun p=>Nat.ble 1000000 p.1&&QiA p.2
theorem Qca {x:AV} (h:QhX x=true) {l:Nat} (hn:U2 l x=true):1000000≤l:=by
  cases x <;> simp [QhX,U2] at h hn
  omega
theorem Qdx {H:List (Nat × Ob)} (h:Qid H=true) {l:Nat} {o:Ob} (ho:look H l=some o):1000000≤l∧QiA o=true:=by
  have:=List.all_eq_true.1 h (l,o) (YG ho)
  simp only [Bool.and_eq_true] at this
  exact ⟨Nat.le_of_ble_eq_true this.1,this.2⟩
theorem Qg6 {S:Nat→Prop} {w:World} {base:Nat} {v:Value} {zs:List Int} (h:w.ownsInts base 3 .i64 v zs) (hS:∀ g,v.ownBlock=some g→S g):Rd S w v (.sl 1 (zs.map fun z=>[.int .i64 z])):=by
  rcases h.1.2 with ⟨rfl,h0⟩ | ⟨g,cap,cur,rfl,_,hg,hle,_,hsz,htk⟩
  · rw [List.length_eq_zero_iff.1 h0]
    exact .sl0 _ _ _
  · have hlen:(zs.map fun z=>[Go.Vx.D.int .i64 z]).length=zs.length:=List.length_map ..
    have key:∀ (i j:Nat) (r:List Go.Vx.D) (x:Go.Vx.D),(zs.map fun z=>[Go.Vx.D.int .i64 z])[i]? = some r→r[j]? = some x→j=0∧∃ z,zs[i]? = some z∧x = .int .i64 z:=fun i j r x hr hx=>by
      rw [List.getElem?_map] at hr
      obtain ⟨z,hz,rfl⟩:=Option.map_eq_some_iff.1 hr
      match j,hx with
      | 0,hx=>simp only [List.getElem?_cons_zero,Option.some.injEq] at hx;exact ⟨rfl,z,hz,hx.symm⟩
    have:=Rd.sl (S:=S) (w:=w) ⟨g,0,none⟩ cap 1 (zs.map fun z=>[Go.Vx.D.int .i64 z]) (fun i j=>.int .i64 (zs.getD i 0)) (hS g rfl) (by rw [hlen];exact hle) (fun i r hr=>by
      rw [List.getElem?_map] at hr
      obtain ⟨z,hz,rfl⟩:=Option.map_eq_some_iff.1 hr
      rfl) (fun i j r x hr hx=>by
      obtain ⟨rfl,z,hz,rfl⟩:=key i j r x hr hx
      have hi:i<zs.length:=(List.getElem?_eq_some_iff.1 hz).1
      rw [T8]
      have h2:(cur.toList.take (zs.length*1))[i]? = some (.int .i64 z):=by rw [htk,List.getElem?_map,hz];rfl
      rw [List.getElem?_take,if_pos (by omega),Array.getElem?_toList] at h2
      have hz':zs.getD i 0=z:=by rw [List.getD_eq_getElem?_getD,hz];rfl
      rw [hz']
      have hlt:i<cur.size:=(Array.getElem?_eq_some_iff.1 h2).1
      have h3:cur[i] = .int .i64 z:=(Array.getElem?_eq_some_iff.1 h2).2
      simp [World.cell?,hg,hlt,h3]) (fun i j r x hr hx=>by
      obtain ⟨rfl,z,hz,rfl⟩:=key i j r x hr hx
      have hz':zs.getD i 0=z:=by rw [List.getD_eq_getElem?_getD,hz];rfl
      rw [hz']
      exact .int _ _)
    rw [hlen] at this
    exact this
theorem QgU {v:Value} {l:Lit} (h:keyOf Tryz.prog 3 v=some l):∃ m,v = .int .i64 m∧(Lit.int .i64 m).wf=true:=by
  simp only [keyOf,Tryz.underlying3,mapKey] at h
  cases v <;> simp at h
  rename_i k m
  exact ⟨m,by rw [h.1.1],h.1.2⟩
theorem Q6q {n:Int} {v:Value}:∀ {es:List MapEntry},AW es n=some v→∃ e∈es,e.val=v∧e.key = .int .i64 n
  | e::r,h=>by
    simp only [AW] at h
    split at h
    · split at h
      · rename_i hk hm;injection h with h;subst hm;exact ⟨e,List.mem_cons_self ..,h,hk⟩
      · obtain ⟨x,hx,hv⟩:=Q6q h;exact ⟨x,List.mem_cons_of_mem _ hx,hv⟩
    · obtain ⟨x,hx,hv⟩:=Q6q h;exact ⟨x,List.mem_cons_of_mem _ hx,hv⟩
theorem QhC {S:Nat→Prop} {w:World} {b:Nat} {rs:List Int} {D:DataW Unit} (hown:w.ownsGroups Tryz.prog 3 (b+1) 3 .i64 b rs.length D) (hD:DOK rs rs.length D) (hN:rs.length≤1000000000) (hrg:∀ j,j<rs.length → -9223372036854775808≤rs.getD j 0∧rs.getD j 0≤9223372036854775807) (hS:∀ k,Hg w b k→S k):Qcf S w (.map (some b)) (QgM rs):=by
  have hwfk:∃ es clock,w.heap[b]? = some (.map es clock)∧∀ e∈es.toList,∃ m,e.key = .int .i64 m∧(Lit.int .i64 m).wf=true:=by
    obtain ⟨es,clock,hb,F,hs,_⟩:=hown
    refine ⟨es,clock,hb,fun e he=>?_⟩
    obtain ⟨y,hy⟩:=F.reads e he
    exact QgU (WideElems.rd_key hy)
  obtain ⟨es,clock,hb,hk⟩:=hwfk
  have hk':∀ e∈es.toList,∃ m,e.key = .int .i64 m:=fun e he=>(hk e he).imp fun m h=>h.1
  have one:∀ n:Int,(Lit.int .i64 n).wf=true→∃ zs,w.ownsInts (b+1) 3 .i64 ((AW es.toList n).getD (.slice none 0 0)) zs∧zs=QcI rs rs.length n:=fun n hn=>by
    obtain ⟨v,zs,h1,h2,h3,_⟩:=(QfL hown).lookup hN hn
    have hv:=h1 w rfl
    rw [Q8a hb hk'] at hv
    injection hv with hv
    exact ⟨zs,hv▸h3,QdW hD h2 h3⟩
  refine ⟨b,es,clock,rfl,hS b (.inl rfl),hb,hk',fun n hn=>?_,fun n v' hv=>?_⟩
  · by_cases hwf:(Lit.int .i64 n).wf=true
    · obtain ⟨zs,h1,h2⟩:=one n hwf
      rw [hn] at h1
      have h0:zs=[]:=h1.unique (World.ownsInts_nil _ _ _ _)
      unfold QgM
      rw [← h2,h0]
      rfl
    · have hg:QcI rs rs.length n=[]:=by
        unfold QcI
        rw [List.map_eq_nil_iff,List.filter_eq_nil_iff]
        intro j hj he
        have hj':j<rs.length:=by simpa using hj
        obtain ⟨h1,h2⟩:=hrg j hj'
        have he':rs.getD j 0=n:=by simpa using he
        exact hwf (WalkArith.wf_i64 (by omega))
      unfold QgM
      rw [hg]
      rfl
  · obtain ⟨e,he,hev,hek⟩:=Q6q hv
    obtain ⟨m,hm1,hm2⟩:=hk e he
    have:m=n:=by rw [hek] at hm1;injection hm1 with _ h;exact h.symm
    subst this
    obtain ⟨zs,h1,h2⟩:=one m hm2
    rw [hv] at h1
    unfold QgM
    rw [← h2]
    exact Qg6 h1 (fun g hg=>hS g (.inr ⟨es,clock,hb,e,he,by rw [hev];exact hg⟩))
theorem Qhc {β:Nat→Option Nat} {S S':Nat→Prop} {h:Nat→Option Ob} {w:World} {tm:Nat→Value} {v:Value} {l e s:Nat} {rows:List (List Go.Vx.D)} (hv:RdA β S h w tm v (.arr l)) (hh:h l=some (.arr e s rows)) (hob:ObR β S h w l (.arr e s rows)) (hS:∀ k,S k→S' k) (hl:∀ k,β l=some k→S' k):Rd S' w v (.sl s rows):=by
  cases hv with
  | arr0 _ e' s' hb hh'=>
    rw [hh] at hh'
    injection hh' with hh'
    injection hh' with h1 h2 h3
    subst h3
    exact .sl0 _ _ _
  | arr _ b cap e' s' rows' cs ty fz hb hh' hw hcs hcap hmax=>
    rw [hh] at hh'
    injection hh' with hh'
    injection hh' with h1 h2 h3
    subst h1 h2 h3
    rcases hob with ⟨h0,_⟩ | ⟨b',cs',hb',hw',hle,hr1,hr2⟩
    · rw [hb] at h0;cases h0
    · rw [hb] at hb'
      injection hb' with hb'
      subst hb'
      rw [hw] at hw'
      injection hw' with hw'
      injection hw' with hw1 hw2 hw3
      subst hw1
      refine .sl ⟨b,0,none⟩ cap s rows (fun i j=>cs.getD (i*s+j) undef) (hl b hb) hcap hr1 (fun i j r x hr hx=>?_) (fun i j r x hr hx=>?_)
      · obtain ⟨u,hu,_⟩:=hr2 i j r x hr hx
        rw [T8]
        have hlt:i*s+j<cs.size:=(Array.getElem?_eq_some_iff.1 hu).1
        simp [World.cell?,hw,hlt]
      · obtain ⟨u,hu,hrd⟩:=hr2 i j r x hr hx
        have hlt:i*s+j<cs.size:=(Array.getElem?_eq_some_iff.1 hu).1
        have h3:cs[i*s+j]=u:=(Array.getElem?_eq_some_iff.1 hu).2
        have:cs.getD (i*s+j) undef=u:=by simp [Array.getD,hlt,h3]
        rw [this]
        exact hrd.mono hS (fun _ _=>rfl)
  | dang _ _ l' hl' hh'=>
    simp only [Ha,Option.some.injEq] at hl'
    subst hl'
    rw [hh] at hh'
    cases hh'
theorem Qg0 {E:Env} {β:Nat→Option Nat} {S:Nat→Prop} {a a':Act} {w w':World} {t:Int} {rows:List (List Go.Vx.D)} {f:Nat} {H:List (Nat × Ob)} {rs:List Int} {st0:St} (hrs:QcR rows=some rs) (hN:rs.length≤1000000000) (hpin:Qid H=true)
    (hE:E=⟨w,fun b=>∃ l,(look H l).isSome=true∧β l=some b,S,β⟩) (hst:st0.h=H) (hR:Rel E β S st0 a w) (h:LI E t rows f w.heap.size rs (QgL β H) w rs.length a' w') :
    Eh E ⟨81,[(0,.d (.int .i64 t)),(1,.d (.sl 5 rows)),(2,.fn f [.ptr 1000000 0]),(6,.mpd (QgM rs)),(7,.d (.sl 1 (Q8h rs rs.length)))],H⟩ a' w':=by
  subst hst
  obtain ⟨β',S',D,hR',hO,hown,hD,hH⟩:=h
  have hpinE:∀ l,1000000≤l→β' l=β l:=fun l hl=>by have:=hR'.hr.pin l hl;rw [hE] at this;exact this
  have hw0:E.w0=w:=by rw [hE]
  have hS0:∀ k,S k→S' k:=fun k hk=>hR'.hr.s0 k (by rw [hE];exact hk)
  have h17:(look (Q5s t rows f w.heap.size (rs.length:Nat) (rs.length:Nat) (Q8h rs rs.length)).h 17)=some (.arr 3 1 (Q8h rs rs.length)):=rfl
  have hrg:∀ j,j<rs.length → -9223372036854775808≤rs.getD j 0∧rs.getD j 0≤9223372036854775807:=fun j hj=>by
    obtain ⟨r,_,_,_,_,_,g2,g3,g4⟩:=Qdz hrs j (by rw [← Q0r hrs];exact hj)
    rw [g2];exact ⟨g3,g4⟩
  refine ⟨β',fun k=>S' k∨Hg w' w.heap.size k∨β' 17=some k,hR'.n,hR'.dfr,fun t' av ht=>?_,?_⟩
  · have hm:=YG ht
    simp only [List.mem_cons,Prod.mk.injEq,List.not_mem_nil,or_false] at hm
    rcases hm with ⟨rfl,rfl⟩ | ⟨rfl,rfl⟩ | ⟨rfl,rfl⟩ | ⟨rfl,rfl⟩ | ⟨rfl,rfl⟩
    · exact (hR'.tm 0 (.d (.int .i64 t)) rfl).mono (fun _ h=>.inl h) (fun _ _=>rfl) (fun l hl=>by simp [U2] at hl) (fun _ _=>rfl)
    · exact (hR'.tm 1 (.d (.sl 5 rows)) rfl).mono (fun _ h=>.inl h) (fun _ _=>rfl) (fun l hl=>by simp [U2] at hl) (fun _ _=>rfl)
    · exact QiG rfl (hR'.tm 2 (.fn f [.ptr 1000000 0]) rfl)
    · rw [show tmv a' 6 = .map (some w.heap.size) from RdA.ex_inv (hR'.tm 6 _ rfl)]
      exact .mpd _ _ (QhC hown hD hN hrg (fun k hk=>.inr (.inl hk)))
    · exact .d _ _ (Qhc (hR'.tm 7 (.arr 17) rfl) h17 (hR'.hr.ob 17 _ h17) (fun k hk=>.inl hk) (fun k hk=>.inr (.inr hk)))
  · have hkeep:∀ l,1000000≤l→Keep β (look st0.h) w β' (look st0.h) w' l:=fun l hl=>⟨hpinE l hl,id,fun e s rows h0=>.inr ⟨rows,h0,rfl⟩,fun b cs ty fz hs hb hw=>⟨cs,ty,fz,(hH b ⟨l,hs,hb⟩).trans hw,rfl⟩⟩
    have hSw:∀ k,S k→w'.heap[k]? = w.heap[k]?:=fun k hk=>by
      have hfr:=hR'.hr.fr.block k (by rw [hw0];exact hR.hr.sb k hk) (fun hM=>by
        rw [hE] at hM
        obtain ⟨l,h1,h2⟩:=hM
        exact hR.hr.apart l k h1 h2 hk)
      rw [hw0] at hfr
      exact hfr
    have hin:∀ l,(look st0.h l).isSome=true→1000000≤l:=fun l hl=>by
      obtain ⟨o,ho⟩:=Option.isSome_iff_exists.1 hl
      exact (Qdx hpin ho).1
    refine ⟨fun l o ho=>?_,fun l l' b h1 h2 h3 h4=>?_,fun l b h1 h2 hS=>?_,fun l b h1 h2=>?_,fun b hS=>?_,fun b hS=>?_,fun b hb=>.inl (hR'.hr.s0 b hb),hR'.hr.fr,hR'.hr.pin,fun l b hl hs hb cs ty fz hw=>?_⟩
    · obtain ⟨hl,ho2⟩:=Qdx hpin ho
      have hob:=hR.hr.ob l o ho
      cases o with
      | box cells=>
        obtain ⟨b,ty,cs,fz,g1,g2,g3,g4,g5⟩:=hob
        refine ⟨b,ty,cs,fz,(hpinE l hl).trans g1,(hH b ⟨l,by rw [ho];rfl,g1⟩).trans g2,g3,g4,fun i x hx=>(g5 i x hx).mono (fun k hk=>.inl (hS0 k hk)) hSw (fun m hm=>hkeep m ?_) (fun _ _=>rfl)⟩
        exact Qca (List.all_eq_true.1 ho2 x (List.mem_of_getElem? hx)) hm
      | arr e s rows'=>
        rcases hob with ⟨g1,g2⟩ | ⟨b,cs,g1,g2,g3,g4,g5⟩
        · exact .inl ⟨(hpinE l hl).trans g1,g2⟩
        · refine .inr ⟨b,cs,(hpinE l hl).trans g1,(hH b ⟨l,by rw [ho];rfl,g1⟩).trans g2,g3,g4,fun i j r x hr hx=>?_⟩
          obtain ⟨v,q1,q2⟩:=g5 i j r x hr hx
          exact ⟨v,q1,q2.mono (fun k hk=>.inl (hS0 k hk)) hSw⟩
    · exact hR.hr.inj l l' b h1 h2 ((hpinE l (hin l h1)).symm.trans h3) ((hpinE l' (hin l' h2)).symm.trans h4)
    · have hh:QgL β st0.h b:=⟨l,h1,(hpinE l (hin l h1)).symm.trans h2⟩
      rcases hS with hS | hS | hS
      · exact hO.nS b (.inr hh) hS
      · have hlt:b<w.heap.size:=NL hR h1 ((hpinE l (hin l h1)).symm.trans h2)
        rcases hS with hS | hS
        · omega
        · have:=(Qc7 hown hS).1;omega
      · exact hO.nO b (.inr hh) 17 rfl hS
    · refine .inl ?_
      rw [hE]
      exact ⟨l,h1,(hpinE l (hin l h1)).symm.trans h2⟩
    · rcases hS with hS | hS | hS
      · exact hR'.hr.sb b hS
      · exact hO.lt b (.inl hS)
      · exact NL hR' (l:=17) rfl hS
    · rcases hS with hS | hS | hS
      · exact hR'.hr.sfr b hS
      · refine .inr (.inr ?_)
        rw [hw0]
        rcases hS with hS | hS
        · omega
        · have:=(Qc7 hown hS).1;omega
      · exact .inr (hR'.hr.own 17 b rfl hS)
    · rw [hw0] at hw
      exact ⟨cs,ty,fz,(hH b ⟨l,hs,(hpinE l hl).symm.trans hb⟩).trans hw,rfl⟩
theorem Qct:FB = .seq (Q42 0) (.seq (Q42 1) (.seq (.seq (Q42 2) (.block 0 (.loop Qck))) (cR (cR (cR FB))))):=by kernel_rfl
theorem Qde {C:VC} (hC:VCOk Tryz.prog C) {n:Nat} {t:Int} {rows:List (List Go.Vx.D)} {f:Nat} {H:List (Nat × Ob)} {R:Type} {K:AV→List (Nat × Ob)→Option R} {res:R} (hpin:Qid H=true)
    (h:(Qbw rows fun G p=>Qi C n (cR (cR (cR (Q8 Tryz.f41)))) ⟨81,[(0,.d (.int .i64 t)),(1,.d (.sl 5 rows)),(2,.fn f [.ptr 1000000 0]),(6,.mpd G),(7,.d (.sl 1 p))],H⟩ (fnK C.tt Tryz.f41 K))=some res)
    {β:Nat→Option Nat} {S:Nat→Prop} {w:World} {vs:List Value} (hO:Objs β S (look H) w) (hA:ArgsRd β S (look H) w vs [.d (.int .i64 t),.d (.sl 5 rows),.fn f [.ptr 1000000 0]]):Calls Tryz.prog 41 vs.toArray w (QbJ H K res β S w):=by
  unfold Qbw at h
  split at h
  rotate_left
  · cases h
  rename_i rs hrs
  cases hb:Nat.ble rs.length 1000000000 with
  | false=>simp [hb] at h
  | true=>
    simp only [hb,cond_true] at h
    have hN:=Nat.le_of_ble_eq_true hb
    refine Qbr hC (fn:=Tryz.f41) (c:=FB) (by kernel_rfl) (by kernel_rfl) (by kernel_rfl) (fun a hR=>?_) hO hA
    rw [Qct]
    refine QdV (t:=t) (rows:=rows) (f:=f) hrs hN rfl hR fun a' w' hl=>?_
    exact Q0E hC n _ _ _ res h a' w' (Qg0 hrs hN hpin rfl rfl hR hl)

end Go.Vx
set_option maxRecDepth 100000
namespace Go.Vx
open Go.Proofs
variable {R:Type}
noncomputable def Q4T:Code:=Q8 Tryz.f89
def BE (n:Nat):VC:=⟨QK [],gtt,[cK 0 [0,1],cK 1 [0,1,8],cK 2 [4,5],cK 3 [0,1,6],cK 4 [6,15],cK 5 [6],cK 6 [4,5]]⟩
theorem Q4n (n:Nat):VCOk Tryz.prog (BE n):=gVC (Qe trivial)
theorem Q2G (n:Nat) (a0 a1:Int) (K:AV→Option R):vfn (BE n) n Tryz.f89 [.d (D.int .i64 a0),.d (D.int .i64 a1)] [] (Wc [[0],[0]] K)=El n a0 a1 (fun a b=>K (.tup [.d (D.int .i64 a),.d (D.int .i64 b)])):=
 (VP (c:=Q4T) (m:=19) (tm:=[(0,dI a0),(1,dI a1)]) (rs:=[.tmp 4,.tmp 5]) (tt:=gtt)).trans (by kernel_rfl)
def MD:AV→Option (Int × Int):=fun av=>match av with
 | .tup [.d (D.int .i64 a),.d (D.int .i64 b)]=>some (a,b)
 | _=>none
def Mb (n:Nat):XH:=fun _ _ g avs _ k=>match avs with
 | [c0,c1]=>prI g .i64 c0 fun a0=>prI g .i64 c1 fun a1=>
  gb g (El n a0 a1 (fun a b=>some (a,b))) (0,0) fun r=>k ⟨.tup [.d (D.int .i64 r.1),.d (D.int .i64 r.2)],[],[]⟩
 | _=>none
theorem Q4j (n:Nat):Qo Tryz.prog 89 (Mb n):=by
  intro R site g avs hl k r h
  unfold Mb at h
  split at h
  rotate_left
  · cases h
  obtain ⟨a0,h,a⟩:=Q2 h
  obtain ⟨a1,h,b⟩:=Q2 h
  obtain ⟨res,h,hr⟩:=Qc h
  refine ⟨_,h,fun hg=>QI.conv (avs':=[.d (D.int .i64 a0),.d (D.int .i64 a1)]) (.cons (a hg) (.cons (b hg) (.nil))) (QE (K:=MD) (res:=res) (Q4n n) (fn:=Tryz.f89) (n:=n) (ss:=[[0],[0]]) ?_ ?_)⟩
  · exact (Q2G n a0 a1 MD).trans (hr hg)
  · intro x hx
    unfold MD at hx
    split at hx
    · injection hx with hx;subst hx;rfl
    · cases hx
noncomputable def Q3a:Code:=Q8 Tryz.f90
def Dw (n:Nat):VC:=⟨QK [],gtt,[cK 0 [0,1],cK 1 [0,1,8],cK 2 [4,5],cK 3 [0,1,6],cK 4 [6,15],cK 5 [6],cK 6 [4,5]]⟩
theorem Q2Z (n:Nat):VCOk Tryz.prog (Dw n):=gVC (Qe trivial)
theorem Q14 (n:Nat) (a0 a1:Int) (K:AV→Option R):vfn (Dw n) n Tryz.f90 [.d (D.int .i64 a0),.d (D.int .i64 a1)] [] (Wc [[0],[0]] K)=Fl n a0 a1 (fun a b=>K (.tup [.d (D.int .i64 a),.d (D.int .i64 b)])):=
 (VP (c:=Q3a) (m:=19) (tm:=[(0,dI a0),(1,dI a1)]) (rs:=[.tmp 4,.tmp 5]) (tt:=gtt)).trans (by kernel_rfl)
def Ns:AV→Option (Int × Int):=fun av=>match av with
 | .tup [.d (D.int .i64 a),.d (D.int .i64 b)]=>some (a,b)
 | _=>none
def N4 (n:Nat):XH:=fun _ _ g avs _ k=>match avs with
 | [c0,c1]=>prI g .i64 c0 fun a0=>prI g .i64 c1 fun a1=>
  gb g (Fl n a0 a1 (fun a b=>some (a,b))) (0,0) fun r=>k ⟨.tup [.d (D.int .i64 r.1),.d (D.int .i64 r.2)],[],[]⟩
 | _=>none
theorem Q3m (n:Nat):Qo Tryz.prog 90 (N4 n):=by
  intro R site g avs hl k r h
  unfold N4 at h
  split at h
  rotate_left
  · cases h
  obtain ⟨a0,h,a⟩:=Q2 h
  obtain ⟨a1,h,b⟩:=Q2 h
  obtain ⟨res,h,hr⟩:=Qc h
  refine ⟨_,h,fun hg=>QI.conv (avs':=[.d (D.int .i64 a0),.d (D.int .i64 a1)]) (.cons (a hg) (.cons (b hg) (.nil))) (QE (K:=Ns) (res:=res) (Q2Z n) (fn:=Tryz.f90) (n:=n) (ss:=[[0],[0]]) ?_ ?_)⟩
  · exact (Q14 n a0 a1 Ns).trans (hr hg)
  · intro x hx
    unfold Ns at hx
    split at hx
    · injection hx with hx;subst hx;rfl
    · cases hx

noncomputable def Ks:Code:=Q8 Tryz.f67
noncomputable def Kw:Code:=cA [1,1,1,0] (Q8 Tryz.f67)
noncomputable def KF:Code:=cA [1,1,1,1] (Q8 Tryz.f67)
def Kc (a b c d e f g h i j k l:Int):St:=⟨73,[(4,.ptr 4 0),(5,.ptr 5 0),(7,dI a),(9,dI b)],[(4,.box [dI c,dI d,dI e,dI f,dI g]),(5,.box [dI h,dI i,dI j,dI k,dI l])]⟩
def XZ (n:Nat):VC:=⟨QK [(89,Mb n),(90,N4 n)],gtt,[cO 0 [0,4,5] [4,5],cO 1 [0,4,5,7] [4,5],cO 2 [4,5,7,9] [4,5],cO 3 [4,5,7,9,39] [4,5],cK 4 [6],cO 5 [4,7,9,43] [4],cK 6 [6],cO 7 [4,7,9,49] [4],cK 8 [6],cO 9 [4,7,9,59] [4],cK 10 [6],cK 11 [6]]⟩
theorem CT (n:Nat):VCOk Tryz.prog (XZ n):=gVC (Qe ⟨Q4j n,⟨Q3m n,trivial⟩⟩)
theorem E3 (n:Nat) (a0 a b c d e f g h i j:Int) (k:Exit→St→Option R):Qi (XZ n) n Ks ⟨73,[(0,dI a0),(1,.ag [dI a,dI b,dI c,dI d,dI e]),(2,.ag [dI f,dI g,dI h,dI i,dI j])],[]⟩ k=Ky n a0 a b c d e f g h i j (fun l m=>Qi (XZ n) n Kw (Kc l m a b c d e f g h i j) (Xf (XZ n) n KF k)):=by kernel_rfl
theorem FR (n:Nat) (a b c d e f g h i j l m:Int) (k:Exit→St→Option R):Qi (XZ n) n Kw (Kc a b c d e f g h i j l m) k=Rm n a b c d e f g h i j l m (fun o=>k .ret ⟨73,[(6,dB o)],[]⟩) (fun p=>k .normal ⟨73,[(4,.ptr 4 0),(7,dI a),(9,dI b),(59,dB p)],[(4,.box [dI c,dI d,dI e,dI f,dI g])]⟩):=by kernel_rfl
theorem FI (n:Nat) (a b c d e f g h i j l m:Int) (k:Exit→St→Option R):Qi (XZ n) n Kw (Kc a b c d e f g h i j l m) k=Kp n a b c d e f g h i j l m (fun o=>k .ret ⟨73,[(6,dB o)],[]⟩) (fun p=>k .normal ⟨73,[(4,.ptr 4 0),(7,dI a),(9,dI b),(59,dB p)],[(4,.box [dI c,dI d,dI e,dI f,dI g])]⟩):=
 (FR n a b c d e f g h i j l m k)
theorem FT (n:Nat) (a b:Int) (c:Bool) (d e f g h:Int) (k:Exit→St→Option R):(Xf (XZ n) n KF k) .normal ⟨73,[(4,.ptr 4 0),(7,dI a),(9,dI b),(59,dB c)],[(4,.box [dI d,dI e,dI f,dI g,dI h])]⟩=RA n a b c d e f g h (fun i=>k .ret ⟨73,[(6,dB i)],[]⟩):=by kernel_rfl
theorem Ea (n:Nat) (a0 a b c d e f g h i j:Int) (k:Exit→St→Option R):Qi (XZ n) n Ks ⟨73,[(0,dI a0),(1,.ag [dI a,dI b,dI c,dI d,dI e]),(2,.ag [dI f,dI g,dI h,dI i,dI j])],[]⟩ k=RD n a0 a b c d e f g h i j (fun p=>k .ret ⟨73,[(6,dB p)],[]⟩):=
 (E3 n a0 a b c d e f g h i j k).trans (cg1 (fun l=>Ky n a0 a b c d e f g h i j l ) (funext fun m=>funext fun o=>(FI n m o a b c d e f g h i j (Xf (XZ n) n KF k)).trans (cg2 (fun l q=>Kp n m o a b c d e f g h i j l q ) rfl (funext fun r=>(FT n m o r a b c d e k)))))
theorem Cb (n:Nat) (a0 a c d e f g h i j k:Int) (K:AV→Option R):vfn (XZ n) n Tryz.f67 [.d (D.int .i64 a0),.ag [.d (D.int .i64 a),.d (D.int .i64 c),.d (D.int .i64 d),.d (D.int .i64 e),.d (D.int .i64 f)],.ag [.d (D.int .i64 g),.d (D.int .i64 h),.d (D.int .i64 i),.d (D.int .i64 j),.d (D.int .i64 k)]] [] (Wc [[0]] K)=P7 n a0 a c d e f g h i j k (fun l=>K (.d (D.bool l))):=
 Eq.trans (b:=Qi (XZ n) n Ks ⟨73,[(0,dI a0),(1,.ag [dI a,dI c,dI d,dI e,dI f]),(2,.ag [dI g,dI h,dI i,dI j,dI k])],[]⟩ (K3 gtt [.tmp 6] (Wc [[0]] K))) VP ((Ea n a0 a c d e f g h i j k (K3 gtt [.tmp 6] (Wc [[0]] K))).trans (by kernel_rfl))
def H2 (n:Nat):XH:=fun _ _ g avs _ k=>match avs with
 | [c0,c1,a]=>prI g .i64 c0 fun a0=>
  prG c1 fun l1=>(match l1 with
  | [b,c,d,e,f]=>prI g .i64 b fun h=>prI g .i64 c fun i=>prI g .i64 d fun j=>prI g .i64 e fun l=>prI g .i64 f fun m=>
  prG a fun l2=>(match l2 with
  | [o,p,q,s,t]=>prI g .i64 o fun u=>prI g .i64 p fun v=>prI g .i64 q fun w=>prI g .i64 s fun x=>prI g .i64 t fun y=>
  gb g (P7 n a0 h i j l m u v w x y some) false fun r=>k ⟨.d (D.bool r),[],[]⟩
  | _=>none)
  | _=>none)
 | _=>none
theorem Bb (n:Nat):Qo Tryz.prog 67 (H2 n):=by
  intro R site g avs hl k r h
  unfold H2 at h
  split at h
  rotate_left
  · cases h
  obtain ⟨a0,h,o⟩:=Q2 h
  obtain ⟨l1,h,e1⟩:=Qq h
  split at h
  rotate_left
  · cases h
  obtain ⟨a,h,p⟩:=Q2 h
  obtain ⟨b,h,q⟩:=Q2 h
  obtain ⟨c,h,s⟩:=Q2 h
  obtain ⟨d,h,t⟩:=Q2 h
  obtain ⟨e,h,u⟩:=Q2 h
  obtain ⟨l2,h,e2⟩:=Qq h
  split at h
  rotate_left
  · cases h
  obtain ⟨f,h,v⟩:=Q2 h
  obtain ⟨i,h,w⟩:=Q2 h
  obtain ⟨j,h,x⟩:=Q2 h
  obtain ⟨l,h,y⟩:=Q2 h
  obtain ⟨m,h,z⟩:=Q2 h
  obtain ⟨res,h,hr⟩:=Qc h
  have hL:=h
  subst e1 e2
  refine ⟨_,hL,fun hg=>QI.conv (avs':=[.d (D.int .i64 a0),.ag [.d (D.int .i64 a),.d (D.int .i64 b),.d (D.int .i64 c),.d (D.int .i64 d),.d (D.int .i64 e)],.ag [.d (D.int .i64 f),.d (D.int .i64 i),.d (D.int .i64 j),.d (D.int .i64 l),.d (D.int .i64 m)]]) (.cons (o hg) (.cons (.ag (.cons (p hg) (.cons (q hg) (.cons (s hg) (.cons (t hg) (.cons (u hg) (.nil))))))) (.cons (.ag (.cons (v hg) (.cons (w hg) (.cons (x hg) (.cons (y hg) (.cons (z hg) (.nil))))))) (.nil)))) (QE (K:=kB) (res:=res) (CT n) (fn:=Tryz.f67) (n:=n) (ss:=[[0]]) ?_ ?_)⟩
  · exact (Cb n a0 a b c d e f i j l m kB).trans (hr hg)
  · exact Da

end Go.Vx
set_option maxRecDepth 100000
namespace Go.Vx
open Go.Proofs
noncomputable def SU:Code:=Q8 Tryz.f42
def Jr (n:Nat):VC:=⟨QK [],gtt,[cO 0 [2] [1000000],cO 1 [] [1000000],cO 2 [5] [1000000]]⟩
theorem SE (n:Nat):VCOk Tryz.prog (Jr n):=gVC (Qe trivial)
def WP:AV→List (Nat × Ob)→Option (Bool × Bool):=fun av H=>(look H 1000000).bind fun o0=>match av,o0 with
 | .d (D.bool a),.box [.d (D.bool b)]=>some (a,b)
 | _,_=>none
theorem Sb (n:Nat) (a0 a1:Int) (a:Bool):vfn (Jr n) n Tryz.f42 [.d (D.int .i64 a0),.d (D.int .i64 a1),.ptr 1000000 0] [(1000000,.box [.d (D.bool a)])] WP=Uy n a0 a1 a (fun b d=>some (b,d)):=
 (VP (c:=SU) (m:=6) (tm:=[(0,dI a0),(1,dI a1),(2,.ptr 1000000 0)]) (rs:=[.tmp 5]) (tt:=gtt)).trans (by kernel_rfl)
def U8 (n:Nat):XH:=fun _ site g avs hl k=>match avs with
 | [c0,c1,a]=>prI g .i64 c0 fun a0=>prI g .i64 c1 fun a1=>prP hl a fun l0 b=>(match b with
  | [c]=>prB g c fun d=>
  bif UY hl [(1000000,l0)] [] then gb g (Uy n a0 a1 d (fun e f=>some (e,f))) (false,false) fun r=>k ⟨.d (D.bool r.1),[(l0,some (.box [.d (D.bool r.2)]))],[l0]⟩ else none
  | _=>none)
 | _=>none
theorem SM (n:Nat):Qo Tryz.prog 42 (U8 n):=by
  intro R site g avs hl k r h
  unfold U8 at h
  split at h
  rotate_left
  · cases h
  obtain ⟨a0,h,c⟩:=Q2 h
  obtain ⟨a1,h,d⟩:=Q2 h
  obtain ⟨l0,j,h,e,f⟩:=YT h
  split at h
  rotate_left
  · cases h
  obtain ⟨a,h,i⟩:=LO h
  obtain ⟨hc,h⟩:=Xa h
  obtain ⟨res,h,hr⟩:=Qc h
  have hL:=h
  subst e
  refine ⟨_,hL,fun hg=>Zl (K:=WP) (res:=res) (SE n) (fn:=Tryz.f42) (n:=n) (by kernel_rfl) (by kernel_rfl) (by kernel_rfl) (ρ:=[(1000000,l0)]) (ν:=[]) (avs':=[.d (D.int .i64 a0),.d (D.int .i64 a1),.ptr 1000000 0]) (H:=[(1000000,.box [.d (D.bool a)])]) (.cons (.data rfl (c hg)) (.cons (.data rfl (d hg)) (.cons (.own rfl rfl) (.nil)))) rfl rfl hc (⟨⟨by decide,_,_,f,rfl,.box (.cons (.data rfl (i hg)) (.nil))⟩,trivial⟩) rfl rfl ?_ ?_⟩
  · exact (Sb n a0 a1 a).trans (hr hg)
  · intro av H' hx
    unfold WP at hx
    simp only [Option.bind_eq_some_iff] at hx
    obtain ⟨o0,b,hx⟩:=hx
    split at hx
    rotate_left
    · cases hx
    injection hx with hx
    subst hx
    refine ⟨rfl,?_,trivial,⟨YI rfl b rfl,trivial⟩⟩
    simp only [List.cons_append,List.nil_append,K2,b,Option.map_some,Option.map_none]
    rfl
end Go.Vx
set_option maxRecDepth 100000
namespace Go.Vx
open Go.Proofs
variable {R:Type}
noncomputable def Kz:Code:=cA [1,1,1] (Q8 Tryz.f41)
noncomputable def U4:Code:=cA [1,1,1,1,2,2] (Q8 Tryz.f41)
noncomputable def VM:Code:=cA [1,1,1,1,2,2,1,1,0,2,1,1,2,2] (Q8 Tryz.f41)
noncomputable def Kq:Code:=cA [1,1,1,1,2,2,1,1,1] (Q8 Tryz.f41)
def Kg (a:Int) (b:LL) (c:Int→LL) (d:LL) (e:Bool):St:=⟨81,[(0,dI a),(1,dL 5 b),(2,.fn 42 [.ptr 1000000 0]),(6,.mpd c),(7,dL 1 d)],[(1000000,.box [dB e])]⟩
def U5 (a:Int) (b:LL) (c:Int→LL) (d e:LL) (f g:Int) (h:Bool):St:=⟨81,[(0,dI a),(1,dL 5 b),(2,.fn 42 [.ptr 1000000 0]),(6,.mpd c),(7,dL 1 d),(44,dL 5 e),(45,dI f),(46,dI g)],[(1000000,.box [dB h])]⟩
def VF (a:Int) (b:LL) (c:Int→LL) (d e:LL) (f g:Int) (h i:Bool):St:=⟨81,[(0,dI a),(1,dL 5 b),(2,.fn 42 [.ptr 1000000 0]),(6,.mpd c),(7,dL 1 d),(44,dL 5 e),(45,dI f),(46,dI g),(47,dB h)],[(1000000,.box [dB i])]⟩
def K4 (a:Int) (b:LL) (c:Int→LL) (d:LL) (e:Int) (f:LL) (g h:Int) (i:LL) (j k:Int) (l m n o p:D) (q:Bool):St:=⟨81,[(0,dI a),(1,dL 5 b),(2,.fn 42 [.ptr 1000000 0]),(6,.mpd c),(7,dL 1 d),(10,dI e),(11,.ptr 11 0),(44,dL 5 f),(45,dI g),(46,dI h),(59,dL 1 i),(60,dI j),(61,dI k)],[(11,.box [.d l,.d m,.d n,.d o,.d p]),(1000000,.box [dB q])]⟩
def U3 (a:Int) (b:LL) (c:Int→LL) (d:LL) (e:Int) (f:LL) (g h:Int) (i:LL) (j k:Int) (l:Bool) (m n o p q:D) (r:Bool):St:=⟨81,[(0,dI a),(1,dL 5 b),(2,.fn 42 [.ptr 1000000 0]),(6,.mpd c),(7,dL 1 d),(10,dI e),(11,.ptr 11 0),(44,dL 5 f),(45,dI g),(46,dI h),(59,dL 1 i),(60,dI j),(61,dI k),(78,dB l)],[(11,.box [.d m,.d n,.d o,.d p,.d q]),(1000000,.box [dB r])]⟩
def Kj (a:Int) (b:LL) (c:Int→LL) (d:LL) (e:Int) (f:LL) (g h:Int) (i:LL) (j k:Int) (l:Bool) (m n o p q:D) (r:Bool):St:=⟨81,[(0,dI a),(1,dL 5 b),(2,.fn 42 [.ptr 1000000 0]),(6,.mpd c),(7,dL 1 d),(10,dI e),(11,.ptr 11 0),(44,dL 5 f),(45,dI g),(46,dI h),(59,dL 1 i),(60,dI j),(61,dI k),(62,dB l)],[(11,.box [.d m,.d n,.d o,.d p,.d q]),(1000000,.box [dB r])]⟩
def QJ (n:Nat):VC:=⟨QK [(67,H2 n),(42,U8 n)],gtt,[cK 0 [0,1,2,6],cK 1 [0,1,2,6,7],cK 2 [0,1,2,6,7,18,19,20],cK 3 [0,1,2,6,7,18,19,20,21],cK 4 [0,1,2,6,7,8,9,18,19,20],cK 5 [0,1,2,6,7,8,9,18,19,20],cK 6 [0,1,2,6,7,18,19,20],cK 7 [0,1,2,6,7,18,19,20],cO 8 [0,1,2,6,7,44,45,46] [1000000],cO 9 [0,1,2,6,7,44,45,46,47] [1000000],cO 10 [0,1,2,6,7,10,11,44,45,46] [11,1000000],cO 11 [0,1,2,6,7,10,11,44,45,46,59,60,61] [11,1000000],cO 12 [0,1,2,6,7,10,11,44,45,46,59,60,61,62] [11,1000000],cO 13 [0,1,2,6,7,10,11,13,44,45,46,59,60,61] [11,1000000],cO 14 [0,1,2,6,7,10,11,44,45,46,59,60,61,78] [11,1000000],cO 15 [0,1,2,6,7,10,11,44,45,46,59,60,61] [11,1000000],cO 16 [0,1,2,6,7,44,45,46] [1000000],(1000000014,⟨[],[],[],[],[]⟩)]⟩
theorem Bj (n:Nat):VCOk Tryz.prog (QJ n):=gVC (Qe ⟨Bb n,⟨SM n,trivial⟩⟩)
theorem Ef (n:Nat) (a0:Int) (a1:LL) (G:Int→LL) (p:LL) (a:Bool) (k:Exit→St→Option R):Qi (QJ n) n Kz (Kg a0 a1 G p a) k=Kb n a0 a1 G p a (fun b=>X7 (lB (QJ n) n U4) n ⟨81,[(0,dI a0),(1,dL 5 a1),(2,.fn 42 [.ptr 1000000 0]),(6,.mpd G),(7,dL 1 p),(44,dL 5 a1),(45,dI b),(46,dI (0:Int))],[(1000000,.box [dB a])]⟩ (Q9 2 k)):=by kernel_rfl
theorem E1 (n:Nat) (a0:Int) (a1:LL) (G:Int→LL) (p:LL) (b a:Int) (c:Bool) (k:Exit→St→Option R):Qi (QJ n) n U4 (U5 a0 a1 G p a1 b a c) k=Kx n a0 a1 G p b a c (fun d e f g h i j=>X7 (lB (QJ n) n VM) n ⟨81,[(0,dI a0),(1,dL 5 a1),(2,.fn 42 [.ptr 1000000 0]),(6,.mpd G),(7,dL 1 p),(10,dI a),(11,.ptr 11 0),(44,dL 5 a1),(45,dI b),(46,dI a),(59,dL 1 d),(60,dI e),(61,dI (0:Int))],[(11,.box [.d f,.d g,.d h,.d i,.d j]),(1000000,.box [dB c])]⟩ (Q9 4 (Q9 3 (Xf (QJ n) n Kq k)))) (fun l=>k (.exit 2) (VF a0 a1 G p a1 b a l c)):=by kernel_rfl
theorem E5 (n:Nat) (a0:Int) (a1:LL) (G:Int→LL) (p:LL) (a b:Int) (c:LL) (d j:Int) (e f g h i:D) (l:Bool) (k:Exit→St→Option R):Qi (QJ n) n VM (K4 a0 a1 G p a a1 b a c d j e f g h i l) k=Kh n a0 a1 G p a b c d j e f g h i l (fun m o=>k .ret (U3 a0 a1 G p a a1 b a c d j m e f g h i o)) (fun q r=>k .normal (K4 a0 a1 G p a a1 b a c d q e f g h i r)) (fun s=>k (.exit 4) (Kj a0 a1 G p a a1 b a c d j s e f g h i l)):=by kernel_rfl
theorem Td (n:Nat) (a0:Int) (a1:LL) (G:Int→LL) (p:LL) (a c:Int) (d:LL) (e:Int) (f g h i j:D) (k:Exit→St→Option R):∀ (m:Nat) (b:Int) (l:Bool),X7 (lB (QJ n) n VM) m (K4 a0 a1 G p a a1 c a d e b f g h i j l) k=VL n a0 a1 G p a c d e f g h i j (fun b o q=>k .ret (U3 a0 a1 G p a a1 c a d e b o f g h i j q)) (fun b r l=>k (.exit 4) (Kj a0 a1 G p a a1 c a d e b r f g h i j l)) m b l
 | 0,_,_=>rfl
 | m+1,b,l=>(lS (by kernel_rfl) m k).trans ((E5 n a0 a1 G p a c d e b f g h i j l (WB (lB (QJ n) n VM) m k)).trans (cg3 (fun s t u=>Kh n a0 a1 G p a c d e b f g h i j l s t u ) rfl (funext fun v=>funext fun w=>Td n a0 a1 G p a c d e f g h i j k m v w) rfl))
theorem FC (n:Nat) (a0:Int) (a1:LL) (G:Int→LL) (p:LL) (a b:Int) (d:LL) (e f:Int) (g:Bool) (h i j l m:D) (c:Bool) (k:Exit→St→Option R):(Q9 4 (Q9 3 (Xf (QJ n) n Kq k))) (.exit 4) (Kj a0 a1 G p a a1 b a d e f g h i j l m c)=Rx n a0 a1 G p a b d e f g h i j l m c (fun o=>k .normal (U5 a0 a1 G p a1 b o c)):=by kernel_rfl
theorem FP (n:Nat) (a0:Int) (a1:LL) (G:Int→LL) (p:LL) (a b:Int) (c:Bool) (k:Exit→St→Option R):Qi (QJ n) n U4 (U5 a0 a1 G p a1 a b c) k=KC n a0 a1 G p a b c (fun d e q r f g h i j s=>k .ret (U3 a0 a1 G p b a1 a b d e q r f g h i j s)) (fun t l=>k .normal (U5 a0 a1 G p a1 a t l)) (fun u=>k (.exit 2) (VF a0 a1 G p a1 a b u c)):=
 (E1 n a0 a1 G p a b c k).trans (cg2 (fun m o=>Kx n a0 a1 G p a b c m o ) (funext fun d=>funext fun e=>funext fun f=>funext fun g=>funext fun h=>funext fun i=>funext fun j=>(Td n a0 a1 G p b a d e f g h i j (Q9 4 (Q9 3 (Xf (QJ n) n Kq k))) n (0:Int) c).trans (cg2 (fun m o=>VL n a0 a1 G p b a d e f g h i j m o n (0:Int) c) rfl (funext fun v=>funext fun w=>funext fun l=>(FC n a0 a1 G p b a d e v w f g h i j l k)))) rfl)
theorem T4 (n:Nat) (a0:Int) (a1:LL) (G:Int→LL) (p:LL) (b:Int) (k:Exit→St→Option R):∀ (m:Nat) (a:Int) (c:Bool),X7 (lB (QJ n) n U4) m (U5 a0 a1 G p a1 b a c) k=K8 n a0 a1 G p b (fun a d e f g h i j l o q=>k .ret (U3 a0 a1 G p a a1 b a d e f g h i j l o q)) (fun a r c=>k (.exit 2) (VF a0 a1 G p a1 b a r c)) m a c
 | 0,_,_=>rfl
 | m+1,a,c=>(lS (by kernel_rfl) m k).trans ((FP n a0 a1 G p b a c (WB (lB (QJ n) n U4) m k)).trans (cg3 (fun s t u=>KC n a0 a1 G p b a c s t u ) rfl (funext fun v=>funext fun w=>T4 n a0 a1 G p b k m v w) rfl))
theorem FO (n:Nat) (a0:Int) (a1:LL) (G:Int→LL) (p:LL) (a:Bool) (k:Exit→St→Option R):Qi (QJ n) n Kz (Kg a0 a1 G p a) k=RQ n a0 a1 G p a (fun c b d e f g h i j l m o=>k .ret (U3 a0 a1 G p c a1 b c d e f g h i j l m o)) (fun b q r s=>k .normal (VF a0 a1 G p a1 b q r s)):=
 (Ef n a0 a1 G p a k).trans (cg1 (fun t=>Kb n a0 a1 G p a t ) (funext fun b=>(T4 n a0 a1 G p b (Q9 2 k) n (0:Int) a)))
def Vz:AV→List (Nat × Ob)→Option (Bool):=fun av H=>(look H 1000000).bind fun o0=>match av,o0 with
 | .tup [],.box [.d (D.bool a)]=>some a
 | _,_=>none
theorem DY (n:Nat) (a0:Int) (a1:LL) (a:Bool):(Qbw a1 fun G p=>Qi (QJ n) n Kz (Kg a0 a1 G p a) (fnK gtt Tryz.f41 Vz))=GY n a0 a1 a some:=by
 unfold GY
 congr 1
 funext G p
 exact (FO n a0 a1 G p a (fnK gtt Tryz.f41 Vz)).trans (by kernel_rfl)
def KT (n:Nat):XH:=fun _ site g avs hl k=>match avs with
 | [c0,c1,a]=>prI g .i64 c0 fun a0=>prS g 5 c1 fun a1=>prF 42 a fun b=>(match b with
  | [c]=>prP hl c fun l0 d=>(match d with
  | [e]=>prB g e fun f=>
  bif UY hl [(1000000,l0)] [] then gb g (GY n a0 a1 f some) false fun r=>k ⟨.tup [],[(l0,some (.box [.d (D.bool r)]))],[l0]⟩ else none
  | _=>none)
  | _=>none)
 | _=>none
theorem CD (n:Nat):Qo Tryz.prog 41 (KT n):=by
  intro R site g avs hl k r h
  unfold KT at h
  split at h
  rotate_left
  · cases h
  obtain ⟨a0,h,c⟩:=Q2 h
  obtain ⟨a1,h,d⟩:=Q1 h
  obtain ⟨l,h,e⟩:=Rc h
  split at h
  rotate_left
  · cases h
  obtain ⟨l0,m,h,f,i⟩:=YT h
  split at h
  rotate_left
  · cases h
  obtain ⟨a,h,j⟩:=LO h
  obtain ⟨hc,h⟩:=Xa h
  obtain ⟨res,h,hr⟩:=Qc h
  have hL:=h
  subst e f
  refine ⟨_,hL,fun hg=>Q7x (K:=Vz) (res:=res) (fn:=Tryz.f41) (by kernel_rfl) (by kernel_rfl) (by kernel_rfl) (ρ:=[(1000000,l0)]) (ν:=[]) (avs':=[.d (D.int .i64 a0),.d (D.sl 5 a1),.fn 42 [.ptr 1000000 0]]) (H:=[(1000000,.box [.d (D.bool a)])]) (.cons (.data rfl (c hg)) (.cons (.data rfl (d hg)) (.cons (.own rfl rfl) (.nil)))) rfl rfl hc (⟨⟨by decide,_,_,i,rfl,.box (.cons (.data rfl (j hg)) (.nil))⟩,trivial⟩) rfl rfl ?_ ?_⟩
  · exact fun β S w vs hO hA=>Qde (Bj n) (by kernel_rfl) ((DY n a0 a1 a).trans (hr hg)) hO hA
  · intro av H' hx
    unfold Vz at hx
    simp only [Option.bind_eq_some_iff] at hx
    obtain ⟨o0,b,hx⟩:=hx
    split at hx
    rotate_left
    · cases hx
    injection hx with hx
    subst hx
    refine ⟨rfl,?_,trivial,⟨YI rfl b rfl,trivial⟩⟩
    simp only [List.cons_append,List.nil_append,K2,b,Option.map_some,Option.map_none]
    rfl
noncomputable def Q2E:Code:=Q8 Tryz.f17
def Do (n:Nat):VC:=⟨QK [(40,KG n),(41,KT n)],gtt,[cK 0 [0,1],cK 1 [0,1,9],cK 2 [4],cO 3 [0,1,5] [5],cO 4 [5] [5],cK 5 [4]]⟩
theorem Q3t (n:Nat):VCOk Tryz.prog (Do n):=gVC (Qe ⟨Lu n,⟨CD n,trivial⟩⟩)
theorem Q1l (n:Nat) (a0:Int) (a1:LL) (K:AV→Option R):vfn (Do n) n Tryz.f17 [.d (D.int .i64 a0),.d (D.sl 5 a1)] [] (Wc [[0]] K)=Fg n a0 a1 (fun a=>K (.d (D.bool a))):=
 (VP (c:=Q2E) (m:=15) (tm:=[(0,dI a0),(1,dL 5 a1)]) (rs:=[.tmp 4]) (tt:=gtt)).trans (by kernel_rfl)
def Nt (n:Nat):XH:=fun _ _ g avs _ k=>match avs with
 | [c0,c1]=>prI g .i64 c0 fun a0=>prS g 5 c1 fun a1=>
  gb g (Fg n a0 a1 some) false fun r=>k ⟨.d (D.bool r),[],[]⟩
 | _=>none
theorem Q3o (n:Nat):Qo Tryz.prog 17 (Nt n):=by
  intro R site g avs hl k r h
  unfold Nt at h
  split at h
  rotate_left
  · cases h
  obtain ⟨a0,h,a⟩:=Q2 h
  obtain ⟨a1,h,b⟩:=Q1 h
  obtain ⟨res,h,hr⟩:=Qc h
  refine ⟨_,h,fun hg=>QI.conv (avs':=[.d (D.int .i64 a0),.d (D.sl 5 a1)]) (.cons (a hg) (.cons (b hg) (.nil))) (QE (K:=kB) (res:=res) (Q3t n) (fn:=Tryz.f17) (n:=n) (ss:=[[0]]) ?_ ?_)⟩
  · exact (Q1l n a0 a1 kB).trans (hr hg)
  · exact Da

noncomputable def Q9q:Code:=Q8 Tryz.f43
def Q6s (n:Nat):VC:=⟨QK [],gtt,[cK 0 [0,1],cK 1 [0,1,7],cK 2 [4],cK 3 [1,5],cK 4 [1,5,12],cK 5 [5],cK 6 [4]]⟩
theorem Q8V (n:Nat):VCOk Tryz.prog (Q6s n):=gVC (Qe trivial)
theorem Q8D (n:Nat) (a0 a1:Int) (K:AV→Option R):vfn (Q6s n) n Tryz.f43 [.d (D.int .i64 a0),.d (D.int .i64 a1)] [] (Wc [[0]] K)=Q29 n a0 a1 (fun a=>K (.d (D.int .i64 a))):=
 (VP (c:=Q9q) (m:=17) (tm:=[(0,dI a0),(1,dI a1)]) (rs:=[.tmp 4]) (tt:=gtt)).trans (by kernel_rfl)
def Q0m (n:Nat):XH:=fun _ _ g avs _ k=>match avs with
 | [c0,c1]=>prI g .i64 c0 fun a0=>prI g .i64 c1 fun a1=>
  gb g (Q29 n a0 a1 some) 0 fun r=>k ⟨.d (D.int .i64 r),[],[]⟩
 | _=>none
theorem Q9F (n:Nat):Qo Tryz.prog 43 (Q0m n):=by
  intro R site g avs hl k r h
  unfold Q0m at h
  split at h
  rotate_left
  · cases h
  obtain ⟨a0,h,a⟩:=Q2 h
  obtain ⟨a1,h,b⟩:=Q2 h
  obtain ⟨res,h,hr⟩:=Qc h
  refine ⟨_,h,fun hg=>QI.conv (avs':=[.d (D.int .i64 a0),.d (D.int .i64 a1)]) (.cons (a hg) (.cons (b hg) (.nil))) (QE (K:=kI) (res:=res) (Q8V n) (fn:=Tryz.f43) (n:=n) (ss:=[[0]]) ?_ ?_)⟩
  · exact (Q8D n a0 a1 kI).trans (hr hg)
  · exact NW

end Go.Vx
namespace Go.Proofs
open Go.Shelf
def Tryz.lays189_ren:Go.Shelf.Ren:=⟨fun | 189=>44 | 125=>65 | 257=>68 | 128=>87 | 129=>88 | 294=>91 | 295=>92 | 296=>93 | 297=>94 | 298=>95 | 299=>96 | 216=>97 | 300=>98 | 301=>99 | 328=>113 | 329=>109 | 330=>110 | 331=>114 | 332=>115 | 215=>66 | 343=>121 | n=>n,fun | 28=>22 | 3=>3 | 46=>115 | 0=>0 | 51=>155 | 53=>157 | 4=>4 | 183=>148 | 182=>147 | 131=>152 | 5=>5 | 9=>9 | 218=>181 | 222=>185 | 228=>196 | 229=>197 | n=>n,fun | n=>n⟩
theorem Tryz.lays189:Go.Proofs.Lays.n189 Tryz.prog Tryz.lays189_ren:={
  mixed:=by kernel_rfl
  f125:=Tryz.func65.trans (congrArg some (by kernel_rfl))
  f128:=Tryz.func87.trans (congrArg some (by kernel_rfl))
  f129:=Tryz.func88.trans (congrArg some (by kernel_rfl))
  f189:=Tryz.func44.trans (congrArg some (by kernel_rfl))
  f215:=Tryz.func66.trans (congrArg some (by kernel_rfl))
  f216:=Tryz.func97.trans (congrArg some (by kernel_rfl))
  f257:=Tryz.func68.trans (congrArg some (by kernel_rfl))
  f294:=Tryz.func91.trans (congrArg some (by kernel_rfl))
  f295:=Tryz.func92.trans (congrArg some (by kernel_rfl))
  f296:=Tryz.func93.trans (congrArg some (by kernel_rfl))
  f297:=Tryz.func94.trans (congrArg some (by kernel_rfl))
  f298:=Tryz.func95.trans (congrArg some (by kernel_rfl))
  f299:=Tryz.func96.trans (congrArg some (by kernel_rfl))
  f300:=Tryz.func98.trans (congrArg some (by kernel_rfl))
  f301:=Tryz.func99.trans (congrArg some (by kernel_rfl))
  f328:=Tryz.func113.trans (congrArg some (by kernel_rfl))
  f329:=Tryz.func109.trans (congrArg some (by kernel_rfl))
  f330:=Tryz.func110.trans (congrArg some (by kernel_rfl))
  f331:=Tryz.func114.trans (congrArg some (by kernel_rfl))
  f332:=Tryz.func115.trans (congrArg some (by kernel_rfl))
  f343:=Tryz.func121.trans (congrArg some (by kernel_rfl))
  t0:=Tryz.underlying0
  a0:=Tryz.isAgg0
  z0:=Tryz.sizeOf0
  v0:=Tryz.zeroValue0
  t3:=Tryz.underlying3
  a3:=Tryz.isAgg3
  z3:=Tryz.sizeOf3
  v3:=Tryz.zeroValue3
  t4:=Tryz.underlying4
  a4:=Tryz.isAgg4
  z4:=Tryz.sizeOf4
  v4:=Tryz.zeroValue4
  t5:=Tryz.underlying5
  a5:=Tryz.isAgg5
  z5:=Tryz.sizeOf5
  v5:=Tryz.zeroValue5
  t9:=Tryz.underlying9
  a9:=Tryz.isAgg9
  z9:=Tryz.sizeOf9
  v9:=Tryz.zeroValue9
  t28:=Tryz.underlying22
  a28:=Tryz.isAgg22
  z28:=Tryz.sizeOf22
  v28:=Tryz.zeroValue22
  t46:=Tryz.underlying115
  a46:=Tryz.isAgg115
  z46:=Tryz.sizeOf115
  v46:=Tryz.zeroValue115
  t51:=Tryz.underlying155
  a51:=Tryz.isAgg155
  z51:=Tryz.sizeOf155
  v51:=Tryz.zeroValue155
  t53:=Tryz.underlying157
  a53:=Tryz.isAgg157
  z53:=Tryz.sizeOf157
  v53:=Tryz.zeroValue157
  t131:=Tryz.underlying152
  a131:=Tryz.isAgg152
  z131:=Tryz.sizeOf152
  v131:=Tryz.zeroValue152
  t182:=Tryz.underlying147
  a182:=Tryz.isAgg147
  z182:=Tryz.sizeOf147
  v182:=Tryz.zeroValue147
  t183:=Tryz.underlying148
  a183:=Tryz.isAgg148
  z183:=Tryz.sizeOf148
  v183:=Tryz.zeroValue148
  t218:=Tryz.underlying181
  a218:=Tryz.isAgg181
  z218:=Tryz.sizeOf181
  v218:=Tryz.zeroValue181
  t222:=Tryz.underlying185
  a222:=Tryz.isAgg185
  z222:=Tryz.sizeOf185
  v222:=Tryz.zeroValue185
  t228:=Tryz.underlying196
  a228:=Tryz.isAgg196
  z228:=Tryz.sizeOf196
  v228:=Tryz.zeroValue196
  t229:=Tryz.underlying197
  a229:=Tryz.isAgg197
  z229:=Tryz.sizeOf197
  v229:=Tryz.zeroValue197 }
open Go.Sort Go.RowKit in
theorem Tryz.slices_Sort_int (blk off cap:Nat) (zs:List Int) (w:World) (hH:Holds (Value.int .i64) w blk off zs.toArray) (hblk:blk<w.heap.size) (hsz:zs.length<4611686018427387904) :
    Calls Tryz.prog 44 #[.slice (some ⟨blk,off,none⟩) zs.length cap] w fun e w'=>
      e = .returned (.tuple #[])∧∃ n os,w'=grow (putRow (Value.int .i64) (Sort.ahead w n) blk off (zs.mergeSort fun x y=>decide (x≤y)).toArray) os:=Any.slices_Sort_int Tryz.lays189 blk off cap zs w hH hblk hsz
def Tryz.laysNm220_ren:Go.Shelf.Ren:=⟨fun | 20=>45 | n=>n,fun | 22=>22 | 3=>3 | 4=>4 | 0=>0 | n=>n,fun | n=>n⟩
theorem Tryz.laysNm220:Go.Proofs.Lays2.n20 Tryz.prog Tryz.laysNm220_ren:={
  mixed:=by kernel_rfl
  f20:=Tryz.func45.trans (congrArg some (by kernel_rfl))
  t0:=Tryz.underlying0
  a0:=Tryz.isAgg0
  z0:=Tryz.sizeOf0
  v0:=Tryz.zeroValue0
  t3:=Tryz.underlying3
  a3:=Tryz.isAgg3
  z3:=Tryz.sizeOf3
  v3:=Tryz.zeroValue3
  t4:=Tryz.underlying4
  a4:=Tryz.isAgg4
  z4:=Tryz.sizeOf4
  v4:=Tryz.zeroValue4
  t22:=Tryz.underlying22
  a22:=Tryz.isAgg22
  z22:=Tryz.sizeOf22
  v22:=Tryz.zeroValue22
  i3:=by kernel_rfl }
open Go.RowKit Go.Lib Go.Sort in
theorem Tryz.slices_Compact_int (blk off cap:Nat) (zs:List Int) (w:World) (hH:Holds (Value.int .i64) w blk off zs.toArray) (hsz:zs.length≤9223372036854775807) (hcap:zs.length≤cap) :
    Calls Tryz.prog 45 #[.slice (some ⟨blk,off,none⟩) zs.length cap] w fun e w'=>e = .returned (.slice (some ⟨blk,off,none⟩) (Lib.compact zs).length cap)∧∃ q,w'=putRow (Value.int .i64) (Sort.ahead w q) blk off (Lib.compact zs++List.replicate (zs.length-(Lib.compact zs).length) 0).toArray:=Any.slices_Compact_int Tryz.laysNm220 blk off cap zs w hH hsz hcap
open Go.RowKit Go.Lib Go.Sort in
theorem Tryz.slices_Compact_int_empty (a:Option Addr) (cap:Nat) (w:World) :
    Calls Tryz.prog 45 #[.slice a 0 cap] w fun e w'=>e = .returned (.slice a 0 cap)∧w'=w:=Any.slices_Compact_int_empty Tryz.laysNm220 a cap w
open Go.RowKit Go.Sort in
theorem Tryz.slices_Sort_int_none (p:Option Addr) (cap:Nat) (w:World) :
    Calls Tryz.prog 44 #[.slice p 0 cap] w fun e w'=>e = .returned (.tuple #[])∧w'=w:=Any.slices_Sort_int_none Tryz.lays189 p cap w
end Go.Proofs
namespace Go.Vx
open Go.Proofs
def RN (n:Nat):XH:=Qgn 3
theorem Cf (n:Nat):Qo Tryz.prog 44 (RN n):=Qex Tryz.func44 (by kernel_rfl) (by kernel_rfl) ⟨fun blk off cap zs w=>Tryz.slices_Sort_int blk off cap zs w,fun p cap w=>Tryz.slices_Sort_int_none p cap w⟩
def T5 (n:Nat):XH:=Q8p 3
theorem Fp (n:Nat):Qo Tryz.prog 45 (T5 n):=Qaz Tryz.func45 (by kernel_rfl) (by kernel_rfl) ⟨fun blk off cap zs w=>Tryz.slices_Compact_int blk off cap zs w,fun p cap w=>Tryz.slices_Compact_int_empty p cap w⟩

end Go.Vx
set_option maxRecDepth 100000
namespace Go.Vx
open Go.Proofs
variable {R:Type}
noncomputable def MI:Code:=Q8 Tryz.f19
noncomputable def TZ:Code:=cA [1,1,1,1,0,1,2,2] (Q8 Tryz.f19)
noncomputable def TE:Code:=cA [1,1,1,1,1] (Q8 Tryz.f19)
def Mn (a b c:Int) (d:LL) (e f:Int) (g:LL):St:=⟨51,[(0,dI a),(2,dI b),(9,.arr 1009),(10,dI c),(20,dL 5 d),(21,dI e),(22,dI f)],[(1009,.arr 3 1 g)]⟩
def Mg (a b c:Int) (d:LL) (e f:Int) (g:Bool) (h:LL):St:=⟨51,[(0,dI a),(2,dI b),(9,.arr 1009),(10,dI c),(20,dL 5 d),(21,dI e),(22,dI f),(23,dB g)],[(1009,.arr 3 1 h)]⟩
def YN (n:Nat):VC:=⟨QK [(40,KG n),(43,Q0m n),(44,RN n),(45,T5 n)],gtt,[cK 0 [0,1,2,3],cK 1 (rg1 0 4 [16]),cK 2 [8],cK 3 (rg1 0 4 [9]),cK 4 [0,1,2,9,10],(5,⟨[0,2,9,10,20,21,22],[],[(9,1009,3,1)],[],[]⟩),cO 6 [0,2,9,10,20,21,22,23] [1009],cO 7 [0,2,9,10,12,20,21,22] [12,1009],cO 8 [0,2,9,10,12,20,21,22,40] [12,1009],cO 9 [0,2,9,10,20,21,22] [45],cO 10 [0,2,9,10,20,21,22] [45,1009],cO 11 [9] [1009],cO 12 [8] [100050],(3000000006,⟨[0,2,9,10,20,21,22],[(45,1009),(1009,1009)],[],[],[]⟩)]⟩
theorem Q6j (n:Nat):VCOk Tryz.prog (YN n):=gVC (Qe ⟨Lu n,⟨Q9F n,⟨Cf n,⟨Fp n,trivial⟩⟩⟩⟩)
theorem Q1s (n:Nat) (a0:Int) (a1:LL) (a b:Int) (k:Exit→St→Option R):Qi (YN n) n MI ⟨51,[(0,dI a0),(1,dL 5 a1),(2,dI a),(3,dI b)],[]⟩ k=MO n a0 a1 a b (k .ret ⟨51,[(8,.nil)],[]⟩) (fun r2 c=>X7 (lB (YN n) n TZ) n ⟨51,[(0,dI a0),(2,dI a),(9,.arr 1009),(10,dI r2),(20,dL 5 a1),(21,dI c),(22,dI (0:Int))],[(1009,.arr 3 1 [])]⟩ (Q9 0 (Xf (YN n) n TE k))):=by kernel_rfl
theorem Q1E (n:Nat) (a0 a b:Int) (a1:LL) (c e:Int) (d:LL) (k:Exit→St→Option R):Qi (YN n) n TZ (Mn a0 a b a1 c e d) k=Le n a0 a b a1 c e d (fun f g=>k .normal ⟨51,[(0,dI a0),(2,dI a),(9,.arr 45),(10,dI b),(20,dL 5 a1),(21,dI c),(22,dI f)],[(45,.arr 3 1 g)]⟩) (fun h=>k .normal (Mn a0 a b a1 c h d)) (fun i=>k (.exit 0) (Mg a0 a b a1 c e i d)):=by kernel_rfl
theorem TD (n:Nat) (a0 b c:Int) (a1:LL) (d:Int) (k:Exit→St→Option R):∀ (m:Nat) (e:Int) (a:LL),X7 (lB (YN n) n TZ) m (Mn a0 b c a1 d e a) k=K6 n a0 b c a1 d (fun e f a=>k (.exit 0) (Mg a0 b c a1 d e f a)) m e a
 | 0,_,_=>rfl
 | m+1,e,a=>(lS (by kernel_rfl) m k).trans ((Q1E n a0 b c a1 d e a (WB (lB (YN n) n TZ) m k)).trans (cg3 (fun g h i=>Le n a0 b c a1 d e a g h i ) (funext fun j=>funext fun l=>(XM (by kernel_rfl) m k).trans (TD n a0 b c a1 d k m j l)) (funext fun o=>(XM (by kernel_rfl) m k).trans (TD n a0 b c a1 d k m o a)) rfl))
theorem Q2A (n:Nat) (a0 a b:Int) (a1:LL) (c d:Int) (e:Bool) (f:LL) (k:Exit→St→Option R):(Q9 0 (Xf (YN n) n TE k)) (.exit 0) (Mg a0 a b a1 c d e f)=BX n a0 a b a1 c d e f (fun g=>k .ret ⟨51,[(8,.arr 100050)],[(100050,.arr 3 1 g)]⟩):=by kernel_rfl
theorem Q2B (n:Nat) (a0:Int) (a1:LL) (a b:Int) (k:Exit→St→Option R):Qi (YN n) n MI ⟨51,[(0,dI a0),(1,dL 5 a1),(2,dI a),(3,dI b)],[]⟩ k=Cv n a0 a1 a b (k .ret ⟨51,[(8,.nil)],[]⟩) (fun f=>k .ret ⟨51,[(8,.arr 100050)],[(100050,.arr 3 1 f)]⟩):=
 (Q1s n a0 a1 a b k).trans (cg2 (fun c g=>MO n a0 a1 a b c g ) rfl (funext fun d=>funext fun e=>((XM (by kernel_rfl) n (Q9 0 (Xf (YN n) n TE k))).trans (TD n a0 a d a1 e (Q9 0 (Xf (YN n) n TE k)) n (0:Int) [])).trans (cg1 (fun c=>K6 n a0 a d a1 e c n (0:Int) []) (funext fun h=>funext fun i=>funext fun j=>(Q2A n a0 a d a1 e h i j k)))))
theorem Q46 (n:Nat) (a0:Int) (a1:LL) (a c:Int) (K:AV→Option R):vfn (YN n) n Tryz.f19 [.d (D.int .i64 a0),.d (D.sl 5 a1),.d (D.int .i64 a),.d (D.int .i64 c)] [] (Wc [[1]] K)=CW n a0 a1 a c (fun d=>K (.d (D.sl 1 d))):=
 Eq.trans (b:=Qi (YN n) n MI ⟨51,[(0,dI a0),(1,dL 5 a1),(2,dI a),(3,dI c)],[]⟩ (K3 gtt [.tmp 8] (Wc [[1]] K))) VP ((Q2B n a0 a1 a c (K3 gtt [.tmp 8] (Wc [[1]] K))).trans (by kernel_rfl))
def Ff:AV→Option (LL):=fun av=>match av with
 | .d (D.sl 1 a)=>some a
 | _=>none
def F9 (n:Nat):XH:=fun _ _ g avs _ k=>match avs with
 | [c0,c1,a,b]=>prI g .i64 c0 fun a0=>prS g 5 c1 fun a1=>prI g .i64 a fun c=>prI g .i64 b fun d=>
  gb g (CW n a0 a1 c d some) [] fun r=>k ⟨.d (D.sl 1 r),[],[]⟩
 | _=>none
theorem Q5p (n:Nat):Qo Tryz.prog 19 (F9 n):=by
  intro R site g avs hl k r h
  unfold F9 at h
  split at h
  rotate_left
  · cases h
  obtain ⟨a0,h,c⟩:=Q2 h
  obtain ⟨a1,h,d⟩:=Q1 h
  obtain ⟨a,h,e⟩:=Q2 h
  obtain ⟨b,h,f⟩:=Q2 h
  obtain ⟨res,h,hr⟩:=Qc h
  refine ⟨_,h,fun hg=>QI.conv (avs':=[.d (D.int .i64 a0),.d (D.sl 5 a1),.d (D.int .i64 a),.d (D.int .i64 b)]) (.cons (c hg) (.cons (d hg) (.cons (e hg) (.cons (f hg) (.nil))))) (QE (K:=Ff) (res:=res) (Q6j n) (fn:=Tryz.f19) (n:=n) (ss:=[[1]]) ?_ ?_)⟩
  · exact (Q46 n a0 a1 a b Ff).trans (hr hg)
  · intro x hx
    unfold Ff at hx
    split at hx
    · injection hx with hx;subst hx;rfl
    · cases hx
noncomputable def N9:Code:=Q8 Tryz.f18
noncomputable def Hu:Code:=cA [1,1,0,1,2,2] (Q8 Tryz.f18)
noncomputable def Nr:Code:=cA [1,1,1] (Q8 Tryz.f18)
def YL (n:Nat):VC:=⟨QK [],gtt,[cK 0 [0,1],cK 1 [0,1,10],cK 2 [4],cK 3 [0,1,12,13],cK 4 [0,1,12,13,14],cK 5 [0,1,5,12,13],cK 6 [0,1,12,13,24],cK 7 [4],cK 8 [0,1,12,13],cK 9 [4]]⟩
theorem Q4m (n:Nat):VCOk Tryz.prog (YL n):=gVC (Qe trivial)
theorem Q0G (n:Nat) (a0 a1:LL) (k:Exit→St→Option R):Qi (YL n) n N9 ⟨26,[(0,dL 1 a0),(1,dL 1 a1)],[]⟩ k=Nj n a0 a1 (k .ret ⟨26,[(4,dB false)],[]⟩) (fun a=>X7 (lB (YL n) n Hu) n ⟨26,[(0,dL 1 a0),(1,dL 1 a1),(12,dI a),(13,dI (0:Int))],[]⟩ (Q9 0 (Xf (YL n) n Nr k))):=by kernel_rfl
theorem Q0s (n:Nat) (a0 a1:LL) (a b:Int) (k:Exit→St→Option R):Qi (YL n) n Hu ⟨26,[(0,dL 1 a0),(1,dL 1 a1),(12,dI a),(13,dI b)],[]⟩ k=N7 n a0 a1 a b (k .ret ⟨26,[(4,dB false)],[]⟩) (fun c=>k .normal ⟨26,[(0,dL 1 a0),(1,dL 1 a1),(12,dI a),(13,dI c)],[]⟩) (fun d=>k (.exit 0) ⟨26,[(0,dL 1 a0),(1,dL 1 a1),(12,dI a),(13,dI b),(14,dB d)],[]⟩):=by kernel_rfl
theorem NX (n:Nat) (a0 a1:LL) (b:Int) (k:Exit→St→Option R):∀ (m:Nat) (a:Int),X7 (lB (YL n) n Hu) m ⟨26,[(0,dL 1 a0),(1,dL 1 a1),(12,dI b),(13,dI a)],[]⟩ k=Hm n a0 a1 b (k .ret ⟨26,[(4,dB false)],[]⟩) (fun a c=>k (.exit 0) ⟨26,[(0,dL 1 a0),(1,dL 1 a1),(12,dI b),(13,dI a),(14,dB c)],[]⟩) m a
 | 0,_=>rfl
 | m+1,a=>(lS (by kernel_rfl) m k).trans ((Q0s n a0 a1 b a (WB (lB (YL n) n Hu) m k)).trans (cg3 (fun d e f=>N7 n a0 a1 b a d e f ) rfl (funext fun g=>NX n a0 a1 b k m g) rfl))
theorem Q0I (n:Nat) (a0 a1:LL) (a b:Int) (c:Bool) (k:Exit→St→Option R):(Q9 0 (Xf (YL n) n Nr k)) (.exit 0) ⟨26,[(0,dL 1 a0),(1,dL 1 a1),(12,dI a),(13,dI b),(14,dB c)],[]⟩=DI n a0 a1 a b c (k .ret ⟨26,[(4,dB true)],[]⟩):=by kernel_rfl
theorem Q07 (n:Nat) (a0 a1:LL) (k:Exit→St→Option R):Qi (YL n) n N9 ⟨26,[(0,dL 1 a0),(1,dL 1 a1)],[]⟩ k=Dq n a0 a1 (fun d=>k .ret ⟨26,[(4,dB d)],[]⟩):=
 (Q0G n a0 a1 k).trans (cg2 (fun a b=>Nj n a0 a1 a b ) rfl (funext fun c=>(NX n a0 a1 c (Q9 0 (Xf (YL n) n Nr k)) n (0:Int)).trans (cg2 (fun a b=>Hm n a0 a1 c a b n (0:Int)) rfl (funext fun e=>funext fun f=>(Q0I n a0 a1 c e f k)))))
theorem Q3d (n:Nat) (a0 a1:LL) (K:AV→Option R):vfn (YL n) n Tryz.f18 [.d (D.sl 1 a0),.d (D.sl 1 a1)] [] (Wc [[0]] K)=ET n a0 a1 (fun a=>K (.d (D.bool a))):=
 Eq.trans (b:=Qi (YL n) n N9 ⟨26,[(0,dL 1 a0),(1,dL 1 a1)],[]⟩ (K3 gtt [.tmp 4] (Wc [[0]] K))) VP ((Q07 n a0 a1 (K3 gtt [.tmp 4] (Wc [[0]] K))).trans (by kernel_rfl))
def MF (n:Nat):XH:=fun _ _ g avs _ k=>match avs with
 | [c0,c1]=>prS g 1 c0 fun a0=>prS g 1 c1 fun a1=>
  gb g (ET n a0 a1 some) false fun r=>k ⟨.d (D.bool r),[],[]⟩
 | _=>none
theorem Q4W (n:Nat):Qo Tryz.prog 18 (MF n):=by
  intro R site g avs hl k r h
  unfold MF at h
  split at h
  rotate_left
  · cases h
  obtain ⟨a0,h,a⟩:=Q1 h
  obtain ⟨a1,h,b⟩:=Q1 h
  obtain ⟨res,h,hr⟩:=Qc h
  refine ⟨_,h,fun hg=>QI.conv (avs':=[.d (D.sl 1 a0),.d (D.sl 1 a1)]) (.cons (a hg) (.cons (b hg) (.nil))) (QE (K:=kB) (res:=res) (Q4m n) (fn:=Tryz.f18) (n:=n) (ss:=[[0]]) ?_ ?_)⟩
  · exact (Q3d n a0 a1 kB).trans (hr hg)
  · exact Da

noncomputable def Q6R:Code:=Q8 Tryz.f7
def Q1u (n:Nat):VC:=⟨QK [(17,Nt n),(19,F9 n),(18,MF n)],gtt,[cK 0 [],(1,⟨[1],[],[],[],[3]⟩),cK 2 [0]]⟩
theorem Q6Y (n:Nat):VCOk Tryz.prog (Q1u n):=gVC (Qe ⟨Q3o n,⟨Q5p n,⟨Q4W n,trivial⟩⟩⟩)
theorem Q5S (n:Nat)  (K:AV→Option R):vfn (Q1u n) n Tryz.f7 [] [] (Wc [[0]] K)=Q0b n  (fun a=>K (.d (D.bool a))):=
 (VP (c:=Q6R) (m:=12) (tm:=[]) (rs:=[.tmp 0]) (tt:=gtt)).trans (by kernel_rfl)
def EI (n:Nat):XH:=fun _ _ g avs _ k=>match avs with
 | []=>
  gb g (Q0b n  some) false fun r=>k ⟨.d (D.bool r),[],[]⟩
 | _=>none
theorem Q74 (n:Nat):Qo Tryz.prog 7 (EI n):=by
  intro R site g avs hl k r h
  unfold EI at h
  split at h
  rotate_left
  · cases h
  obtain ⟨res,h,hr⟩:=Qc h
  refine ⟨_,h,fun hg=>QI.conv (avs':=[]) (.nil) (QE (K:=kB) (res:=res) (Q6Y n) (fn:=Tryz.f7) (n:=n) (ss:=[[0]]) ?_ ?_)⟩
  · exact (Q5S n  kB).trans (hr hg)
  · exact Da

noncomputable def V1:Code:=Q8 Tryz.f3
noncomputable def YU:Code:=cA [1,1,1,1,1,1,0,1,2,2] (Q8 Tryz.f3)
noncomputable def UU:Code:=cA [1,1,1,1,1,1,1] (Q8 Tryz.f3)
noncomputable def ZO:Code:=cA [1,1,1,1,1,1,0,1,2,2,1,1,0,2,1,1,2,2] (Q8 Tryz.f3)
noncomputable def UT:Code:=cA [1,1,1,1,1,1,0,1,2,2,1,1,1] (Q8 Tryz.f3)
noncomputable def ZG:Code:=cA [1,1,1,1,1,1,1,0,1,2,2] (Q8 Tryz.f3)
noncomputable def V6:Code:=cA [1,1,1,1,1,1,1,1] (Q8 Tryz.f3)
def Y8  : St:=⟨158,[(2,dB false)],[]⟩
def YY (a:LL) (b c d e:Int) (f g h i j k l m:LL):St:=⟨158,[(4,.ptr 4 0),(5,dL 2 a),(7,.arr 32),(8,dI b),(34,dI c),(35,dI d)],[(4,.box [dI e,dL 5 f,dL 2 g,dL 4 h,dL 7 i,dL 4 j,dL 5 k,dL 3 l]),(32,.arr 3 1 m)]⟩
def ZR (a:LL) (b c d:Int) (e:Bool) (f:Int) (g h i j k l m n:LL):St:=⟨158,[(4,.ptr 4 0),(5,dL 2 a),(7,.arr 32),(8,dI b),(34,dI c),(35,dI d),(36,dB e)],[(4,.box [dI f,dL 5 g,dL 2 h,dL 4 i,dL 7 j,dL 4 k,dL 5 l,dL 3 m]),(32,.arr 3 1 n)]⟩
def V8 (a:LL) (b c d e f g h:Int) (i j k l m n o p:LL):St:=⟨158,[(4,.ptr 4 0),(5,dL 2 a),(7,.arr 32),(8,dI b),(9,dI c),(34,dI d),(35,dI e),(43,dI f),(44,dI g)],[(4,.box [dI h,dL 5 i,dL 2 j,dL 4 k,dL 7 l,dL 4 m,dL 5 n,dL 3 o]),(32,.arr 3 1 p)]⟩
def Vb (a:LL) (b c d e f g:Int) (h:Bool) (i:Int) (j k l m n o p q:LL):St:=⟨158,[(4,.ptr 4 0),(5,dL 2 a),(7,.arr 32),(8,dI b),(9,dI c),(34,dI d),(35,dI e),(43,dI f),(44,dI g),(45,dB h)],[(4,.box [dI i,dL 5 j,dL 2 k,dL 4 l,dL 7 m,dL 4 n,dL 5 o,dL 3 p]),(32,.arr 3 1 q)]⟩
def Vh (a b c d:Int) (e f g h i j k l:LL):St:=⟨158,[(4,.ptr 4 0),(7,.arr 32),(8,dI a),(140,dI b),(141,dI c)],[(4,.box [dI d,dL 5 e,dL 2 f,dL 4 g,dL 7 h,dL 4 i,dL 5 j,dL 3 k]),(32,.arr 3 1 l)]⟩
def Vf (a b c:Int) (d:Bool) (e:Int) (f g h i j k l m:LL):St:=⟨158,[(4,.ptr 4 0),(7,.arr 32),(8,dI a),(140,dI b),(141,dI c),(142,dB d)],[(4,.box [dI e,dL 5 f,dL 2 g,dL 4 h,dL 7 i,dL 4 j,dL 5 k,dL 3 l]),(32,.arr 3 1 m)]⟩
def Qa (n:Nat):VC:=⟨QK [(4,Q11 n),(5,Ph n),(6,BS n),(7,EI n)],gtt,[cK 0 [0],cO 1 [3,4] [3,4],cO 2 [4,5,6] [4],cO 3 [4,5,28] [4],cK 4 [2],cO 5 [4,5,7] [4,32],cO 6 [4,5,7,8] [4,32],cO 7 [4,5,7,8,34,35] [4,32],cO 8 [4,5,7,8,34,35,36] [4,32],cO 9 [4,5,7,8,9,34,35] [4,32],cO 10 [4,5,7,8,9,34,35,43,44] [4,32],cO 11 [4,5,7,8,9,34,35,43,44,45] [4,32],cO 12 [4,5,7,8,9,10,34,35,43,44] [4,32],cO 13 (4::5::rg1 7 5 [34,35,43,44]) [4,32],cO 14 (4::5::rg1 7 5 [34,35,43,44,62]) [4,32],cK 15 [2],cO 16 (4::5::rg1 7 5 [34,35,43,44]) [4,32],cO 17 [4,5,7,8,9,10,12,13,34,35,43,44] [4,12,32],cO 18 [4,5,7,8,9,10,12,13,14,34,35,43,44] [4,12,32],cO 19 [4,5,7,8,9,13,34,35,43,44,133] [4,32],cK 20 [2],cO 21 [4,5,7,8,9,34,35,43,44,134] [4,32],cO 22 [4,5,7,8,9,34,35,43,44] [4,32],cO 23 [4,5,7,8,9,34,35,43,44] [4,32],cO 24 [4,5,7,8,34,35] [4,32],cO 25 [4,7,8,140,141] [4,32],cO 26 [4,7,8,140,141,142] [4,32],cO 27 [4,7,8,15,140,141] [4,32],cO 28 [4,7,8,140,141,148] [4,32],cK 29 [2],cO 30 [4,7,8,140,141] [4,32],cK 31 [2]]⟩
theorem law19_OccupancyRotations_VC (n:Nat):VCOk Tryz.prog (Qa n):=gVC (Qe ⟨Q9H n,⟨Q06 n,⟨Q7X n,⟨Q74 n,trivial⟩⟩⟩⟩)
theorem RL (n:Nat) (a0:LL) (k:Exit→St→Option R):Qi (Qa n) n V1 ⟨158,[(0,dL 1 a0)],[]⟩ k=ZV n a0 (k .ret (Y8)) (fun a b c d e f g h i j l=>X7 (lB (Qa n) n YU) n ⟨158,[(4,.ptr 4 0),(5,dL 2 a),(7,.arr 32),(8,dI (0:Int)),(34,dI b),(35,dI (0:Int))],[(4,.box [dI c,dL 5 d,dL 2 e,dL 4 f,dL 7 g,dL 4 h,dL 5 i,dL 3 j]),(32,.arr 3 1 l)]⟩ (Q9 0 (Xf (Qa n) n UU k))):=by kernel_rfl
theorem RK (n:Nat) (b:LL) (c d a e:Int) (f g h i j l m o:LL) (k:Exit→St→Option R):Qi (Qa n) n YU (YY b c d a e f g h i j l m o) k=Ve n b c d a e f g h i j l m o (fun p=>X7 (lB (Qa n) n ZO) n ⟨158,[(4,.ptr 4 0),(5,dL 2 b),(7,.arr 32),(8,dI c),(9,dI a),(34,dI d),(35,dI a),(43,dI p),(44,dI (0:Int))],[(4,.box [dI e,dL 5 f,dL 2 g,dL 4 h,dL 7 i,dL 4 j,dL 5 l,dL 3 m]),(32,.arr 3 1 o)]⟩ (Q9 2 (Q9 1 (Xf (Qa n) n UT k)))) (fun q=>k (.exit 0) (ZR b c d a q e f g h i j l m o)):=by kernel_rfl
theorem RY (n:Nat) (b:LL) (o a c d p e:Int) (f g h i j l m q:LL) (k:Exit→St→Option R):Qi (Qa n) n ZO (V8 b o a c a d p e f g h i j l m q) k=V5 n b o a c d p e f g h i j l m q (k .ret (Y8)) (fun r s t=>k .normal (V8 b r a c a d s e f g h i j l m t)) (fun u=>k (.exit 2) (Vb b o a c a d p u e f g h i j l m q)):=by kernel_rfl
theorem Ju (n:Nat) (e:LL) (a f g h:Int) (i j l o p q r:LL) (k:Exit→St→Option R):∀ (m:Nat) (b c:Int) (d:LL),X7 (lB (Qa n) n ZO) m (V8 e b a f a g c h i j l o p q r d) k=ZN n e a f g h i j l o p q r (k .ret (Y8)) (fun b c s d=>k (.exit 2) (Vb e b a f a g c s h i j l o p q r d)) m b c d
 | 0,_,_,_=>rfl
 | m+1,b,c,d=>(lS (by kernel_rfl) m k).trans ((RY n e b a f g c h i j l o p q r d (WB (lB (Qa n) n ZO) m k)).trans (cg3 (fun t u v=>V5 n e b a f g c h i j l o p q r d t u v ) rfl (funext fun w=>funext fun x=>funext fun y=>Ju n e a f g h i j l o p q r k m w x y) rfl))
theorem RC (n:Nat) (a:LL) (b c d p q:Int) (r:Bool) (e:Int) (f g h i j l m o:LL) (k:Exit→St→Option R):(Q9 2 (Q9 1 (Xf (Qa n) n UT k))) (.exit 2) (Vb a b c d c p q r e f g h i j l m o)=Km n a b c d p q r e f g h i j l m o (fun s=>k .normal (YY a b d s e f g h i j l m o)):=by kernel_rfl
theorem RX (n:Nat) (a:LL) (m b l c:Int) (d e f g h i j o:LL) (k:Exit→St→Option R):Qi (Qa n) n YU (YY a m b l c d e f g h i j o) k=Vg n a m b l c d e f g h i j o (k .ret (Y8)) (fun p u q=>k .normal (YY a p b u c d e f g h i j q)) (fun v=>k (.exit 0) (ZR a m b l v c d e f g h i j o)):=
 (RK n a m b l c d e f g h i j o k).trans (cg2 (fun r s=>Ve n a m b l c d e f g h i j o r s ) (funext fun t=>(Ju n a l b t c d e f g h i j (Q9 2 (Q9 1 (Xf (Qa n) n UT k))) n m (0:Int) o).trans (cg2 (fun r s=>ZN n a l b t c d e f g h i j r s n m (0:Int) o) rfl (funext fun p=>funext fun w=>funext fun x=>funext fun q=>(RC n a p l b t w x c d e f g h i j q k)))) rfl)
theorem Jv (n:Nat) (d:LL) (e f:Int) (g h i j l o p:LL) (k:Exit→St→Option R):∀ (m:Nat) (a b:Int) (c:LL),X7 (lB (Qa n) n YU) m (YY d a e b f g h i j l o p c) k=YV n d e f g h i j l o p (k .ret (Y8)) (fun a b q c=>k (.exit 0) (ZR d a e b q f g h i j l o p c)) m a b c
 | 0,_,_,_=>rfl
 | m+1,a,b,c=>(lS (by kernel_rfl) m k).trans ((RX n d a e b f g h i j l o p c (WB (lB (Qa n) n YU) m k)).trans (cg3 (fun r s t=>Vg n d a e b f g h i j l o p c r s t ) rfl (funext fun u=>funext fun v=>funext fun w=>Jv n d e f g h i j l o p k m u v w) rfl))
theorem RU (n:Nat) (l:LL) (a m o:Int) (p:Bool) (b:Int) (c d e f g h i j:LL) (k:Exit→St→Option R):(Q9 0 (Xf (Qa n) n UU k)) (.exit 0) (ZR l a m o p b c d e f g h i j)=ZK n l a m o p b c d e f g h i j (fun q=>X7 (lB (Qa n) n ZG) n ⟨158,[(4,.ptr 4 0),(7,.arr 32),(8,dI a),(140,dI q),(141,dI (0:Int))],[(4,.box [dI b,dL 5 c,dL 2 d,dL 4 e,dL 7 f,dL 4 g,dL 5 h,dL 3 i]),(32,.arr 3 1 j)]⟩ (Q9 4 (Xf (Qa n) n V6 k))):=by kernel_rfl
theorem RT (n:Nat) (a b m c:Int) (d e f g h i j l:LL) (k:Exit→St→Option R):Qi (Qa n) n ZG (Vh a b m c d e f g h i j l) k=V4 n a b m c d e f g h i j l (k .ret (Y8)) (fun o=>k .normal (Vh a b o c d e f g h i j l)) (fun p=>k (.exit 4) (Vf a b m p c d e f g h i j l)):=by kernel_rfl
theorem Jh (n:Nat) (b c d:Int) (e f g h i j l o:LL) (k:Exit→St→Option R):∀ (m:Nat) (a:Int),X7 (lB (Qa n) n ZG) m (Vh b c a d e f g h i j l o) k=YR n b c d e f g h i j l o (k .ret (Y8)) (fun a p=>k (.exit 4) (Vf b c a p d e f g h i j l o)) m a
 | 0,_=>rfl
 | m+1,a=>(lS (by kernel_rfl) m k).trans ((RT n b c a d e f g h i j l o (WB (lB (Qa n) n ZG) m k)).trans (cg3 (fun q r s=>V4 n b c a d e f g h i j l o q r s ) rfl (funext fun t=>Jh n b c d e f g h i j l o k m t) rfl))
theorem SO (n:Nat) (a b c:Int) (d:Bool) (e:Int) (f g h i j l m o:LL) (k:Exit→St→Option R):(Q9 4 (Xf (Qa n) n V6 k)) (.exit 4) (Vf a b c d e f g h i j l m o)=Uw n a b c d e f g h i j l m o (fun p=>k .ret ⟨158,[(2,dB p)],[]⟩):=by kernel_rfl
theorem SX (n:Nat) (a0:LL) (k:Exit→St→Option R):Qi (Qa n) n V1 ⟨158,[(0,dL 1 a0)],[]⟩ k=Uv n a0 (fun u=>k .ret ⟨158,[(2,dB u)],[]⟩):=
 (RL n a0 k).trans (cg2 (fun a j=>ZV n a0 a j ) rfl (funext fun o=>funext fun p=>funext fun b=>funext fun c=>funext fun d=>funext fun e=>funext fun f=>funext fun g=>funext fun h=>funext fun i=>funext fun r=>(Jv n o p b c d e f g h i (Q9 0 (Xf (Qa n) n UU k)) n (0:Int) (0:Int) r).trans (cg2 (fun a j=>YV n o p b c d e f g h i a j n (0:Int) (0:Int) r) rfl (funext fun l=>funext fun s=>funext fun t=>funext fun m=>(RU n o l p s t b c d e f g h i m k).trans (cg1 (fun a=>ZK n o l p s t b c d e f g h i m a ) (funext fun q=>(Jh n l q b c d e f g h i m (Q9 4 (Xf (Qa n) n V6 k)) n (0:Int)).trans (cg2 (fun a j=>YR n l q b c d e f g h i m a j n (0:Int)) rfl (funext fun v=>funext fun w=>(SO n l q v w b c d e f g h i m k)))))))))
theorem law19_OccupancyRotations_vfn (n:Nat) (a0:LL) (K:AV→Option R):vfn (Qa n) n Tryz.f3 [.d (D.sl 1 a0)] [] (Wc [[0]] K)=Ja n a0 (fun a=>K (.d (D.bool a))):=
 Eq.trans (b:=Qi (Qa n) n V1 ⟨158,[(0,dL 1 a0)],[]⟩ (K3 gtt [.tmp 2] (Wc [[0]] K))) VP ((SX n a0 (K3 gtt [.tmp 2] (Wc [[0]] K))).trans (by kernel_rfl))

end Go.Vx
