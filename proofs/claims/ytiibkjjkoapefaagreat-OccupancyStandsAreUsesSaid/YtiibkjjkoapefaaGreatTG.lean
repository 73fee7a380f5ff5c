/- Part of a proof. No conditions of their own. -/
import Derived.Test.YtiibkjjkoapefaaGreatTF
import Derived.Test.YtiibkjjkoapefaaGreatTC
import Derived.Test.YtiibkjjkoapefaaGreatTE
import Derived.Test.YtiibkjjkoapefaaGreatTB
import Derived.Test.YtiibkjjkoapefaaGreatTD
import Derived.Maps.Own
import Derived.Maps.Views
import Derived.StringKeys
import Derived.WalkKit
import Derived.Deep.AppendLies
import Derived.Laws.Rows
import Derived.OneCell
import Derived.Lib.LaidTab
import Derived.Orders
import Derived.LoopTactic
import Derived.Lib.Builder
import Derived.Carry
import Derived.Deep.RegionHeld3
import Derived.Deep.RegionLaw
import Derived.StillTailTactics
import Derived.OrdersHeld
import Derived.Test.YtiibkjjkoapefaaGreatProg
import Derived.RegionTactic
import Derived.BigRegion
import Derived.Deep.RegionLawGrows
import Derived.MapKept
import Derived.Deep.RegionWith
import Derived.Laws.CopyOwn
import Derived.Deep.OwnRows
set_option linter.unusedVariables false
set_option linter.unusedSimpArgs false
set_option linter.unusedSectionVars false
noncomputable section
abbrev Qk3:=@Go.Lib.cell_of_heap
abbrev Qk4:=@List.getElem?_eq_some_iff
abbrev Qk5:=@Go.Lib.alloc_old
abbrev Qk6:=@List.mem_of_getElem?
abbrev Qk7:=@List.getElem?_cons_zero
abbrev Qk8:=@Nat.lt_of_lt_of_le
abbrev Qk9:=@Nat.le_of_ble_eq_true
abbrev Qka:=@Bool.and_eq_true
abbrev Qkb:=@List.mem_replicate
abbrev Qkc:=@Option.map_eq_some_iff
abbrev Qkd:=@List.getElem?_eq_getElem
abbrev Qke:=@List.take_of_length_le
abbrev Qkf:=@Array.getElem?_eq_some_iff
abbrev Qkg:=@Nat.le_refl
abbrev Qkh:=@Go.Proofs.Tryz.underlying3
abbrev Qki:=@Array.getElem?_toList
abbrev Qkj:=@Nat.zero_add
abbrev Qkk:=@List.getElem?_set
set_option maxRecDepth 100000
namespace Go.Vx
open Go.Proofs
variable (n:Nat)
def Pd:BZ9:=Xa [⟨56,RM n⟩] [(2,⟨[],[],[(5,1005,110,6)],[],[]⟩)]
def AD:LZ9:=mkU (Pd n).ok nT 7 Tryz.f28 [(1,.l 1),(2,.ptr 2 0),(5,.arr 1005),(6,tI),(7,.ptr 7 0),(8,tI)] [(2,bT 36 []),(7,.box [.x,.x,.x,.x]),(1005,.arr 110 6)] 35075857 [xE 2 [(27,.b)]] @Uy n
def BY:LZ9:=mkU (Pd n).ok [AD n n] 3 Tryz.f28 [(1,.l 1),(2,.ptr 2 0),(5,.arr 1005),(6,tI)] [(2,bT 36 []),(1005,.arr 110 6)] 118348 [xE 0 [(15,.b)]] @Uu n
def Q1z:EZ9 28:=mkW (Pd n).ok [BY n n] 28 Tryz.f28 [eA [qI,qL 5,qL 2,qL 4,qL 7,qL 4,qL 5,qL 3],sL 1] [eR 1005 110 6] [] 247 0 @Sd n
def KF:BZ9:=Xa [⟨56,RM n⟩] [(2,⟨[],[],[(3,1003,110,6)],[],[]⟩)]
def Ax:LZ9:=mkU (KF n).ok nT 3 Tryz.f29 [(1,.ptr 1 0),(3,.arr 1003),(4,tI)] [(1,bT 36 []),(1003,.arr 110 6)] 39692 [xE 0 [(14,.b)]] @Uv n
def Ay:LZ9:=mkU (KF n).ok nT 8 Tryz.f29 [(1,.ptr 1 0),(3,.arr 1003),(6,tI)] [(1,bT 36 []),(1003,.arr 110 6)] 40178 [xE 2 [(53,.b)]] @ZY n
def BU:LZ9:=mkU (KF n).ok nT 13 Tryz.f29 [(1,.ptr 1 0),(3,.arr 1003),(8,tI)] [(1,bT 36 []),(1003,.arr 110 6)] 41636 [xE 4 [(93,.b)]] @Za n
def Q1m:EZ9 29:=mkD (KF n).ok [Ax n n,Ay n n,BU n n] 29 Tryz.f29 135 @SS n
def Hr:BZ9:=Xa [⟨57,Dj n⟩] [(2,⟨[],[],[(9,1009,159,3)],[],[]⟩)]
def Du:LZ9:=mkU (Hr n).ok nT 7 Tryz.f31 [(0,.l 1),(1,.l 4),(2,tI),(3,tI),(9,.arr 1009),(10,tI),(11,.b),(12,tI)] [(1009,.arr 159 3)] 2065 [xE 2 [(28,.b)]] @YN n
def Dt:LZ9:=mkU (Hr n).ok [Du n n] 3 Tryz.f31 [(0,.l 1),(1,.l 4),(2,tI),(3,tI),(9,.arr 1009),(10,tI)] [(1009,.arr 159 3)] 688 [xE 0 [(22,.b)]] @ZH n
def CE:EZ9 31:=mkD (Hr n).ok [Dt n n] 31 Tryz.f31 0 @Gm n
def Db (n:Nat):BZ9:=Xa [] []
def Q2V:LZ9:=mkU (Db n).ok nT 2 Tryz.f101 [(0,.l 3),(1,tI),(4,.ptr 4 0),(6,tI)] [(4,.box [.ci .i64 0,.ci .i64 0,.ci .i64 0])] 22 [.f .ret [(4,.ptr 4 0),(5,.cb true)] [(4,.box [.x,.x,.x])] [0,0,0],xE 0 [(10,.b)]] @Uk n
def Q50:EZ9 101:=mkF (Db n).ok [Q2V n n] 101 Tryz.f101 [sL 3,sI] [eT 2,eA [qX,qX,qX],sB] 0 @Bl n
def EN:EZ9 59:=mkD (Xa [] []).ok nT 59 Tryz.f59 0 @Fk n
def Ka:BZ9:=Xa [⟨54,Td n⟩,⟨55,Ri n⟩,⟨101,Q50 n⟩,⟨59,EN n⟩] []
def Er:LZ9:=mkU (Ka n).ok nT 13 Tryz.f58 [(0,tI),(1,.l 3),(2,.l 3),(8,.arr 26),(9,tI),(10,.ptr 10 0),(12,tI),(13,tI)] [(10,.box [.x,.x,.x]),(26,.arr 4 1)] 46525 [xE 2 [(70,.b)]] @Z4 n
def E4:LZ9:=mkU (Ka n).ok [Er n n] 7 Tryz.f58 [(0,tI),(1,.l 3),(2,.l 3),(8,.arr 26),(9,tI)] [(26,.arr 4 1)] 229 [xE 0 [(30,.b)]] @Y1 n
def DG:EZ9 58:=mkD (Ka n).ok [E4 n n] 58 Tryz.f58 0 @KG n
def G6:BZ9:=Xa [⟨58,DG n⟩,⟨59,EN n⟩] [(13,⟨[],[],[(12,1012,108,2)],[],[]⟩)]
def CY:LZ9:=mkU (G6 n).ok nT 6 Tryz.f30 [(0,tI),(8,.l 1),(10,tI),(11,tI)] [] 76 [xE 0 [(27,.b)]] @Wv n
def Bg:LZ9:=mkU (G6 n).ok nT 18 Tryz.f30 [(0,tI),(8,.l 1),(12,.arr 1012),(13,tI),(14,tI)] [(1012,.arr 108 2)] 67 [xE 4 [(65,.b)]] @WF n
def CN:LZ9:=mkU (G6 n).ok [Bg n n] 14 Tryz.f30 [(0,tI),(8,.l 1),(12,.arr 1012),(13,tI)] [(1012,.arr 108 2)] 76 [xE 2 [(41,.b)]] @Yg n
def An:EZ9 30:=mkD (G6 n).ok [CY n n,CN n n] 30 Tryz.f30 0 @KQ n
def ZZ:BZ9:=Xa [⟨24,Q1B n⟩,⟨25,Q3s n⟩,⟨26,Q1I n⟩,⟨27,Q1n n⟩,⟨28,Q1z n⟩,⟨29,Q1m n⟩,⟨31,CE n⟩,⟨30,An n⟩] [(18,⟨[],[],[],[(12,1,1121,100,3)],[]⟩),(21,⟨[],[],[],[(12,1,1121,100,3)],[]⟩)]
def AG:LZ9:=mkU (ZZ n).ok nT 7 Tryz.f11 [(3,.ptr 3 0),(4,.ptr 4 0),(6,.l 1),(7,.l 1),(9,tI)] [(3,bT 36 []),(4,.box [.ci .i64 0,.nil,.nil])] 46 [.f .ret [(4,.ptr 4 0),(5,.ci .i64 13)] [(4,.box [.ci .i64 0,.nil,.nil])] [],xE 0 [(39,.b)]] @UH n
def Aw:LZ9:=mkU (ZZ n).ok nT 13 Tryz.f11 [(3,.ptr 3 0),(4,.ptr 4 0),(6,.l 1),(7,.l 1),(10,.l 4),(11,tI)] [(3,bT 36 []),(4,.box [.ci .i64 0,.nil,.nil])] 145 [.f .ret [(4,.ptr 4 0),(5,.ci .i64 13)] [(4,.box [.ci .i64 0,.nil,.nil])] [],xE 2 [(57,.b)]] @UJ n
def BX:LZ9:=mkU (ZZ n).ok nT 22 Tryz.f11 [(3,.ptr 3 0),(4,.ptr 4 0),(6,.l 1),(7,.l 1),(10,.l 4),(12,.ptr 12 0),(13,tI),(14,tI)] [(3,bT 36 []),(4,.box [tI,.nil,.nil]),(12,.box [tI,.arr 1121,.nil]),(1121,.arr 100 3)] 28704564 [xE 6 [(88,.b)]] @Vw n
def AC:LZ9:=mkU (ZZ n).ok [BX n n] 19 Tryz.f11 [(3,.ptr 3 0),(4,.ptr 4 0),(6,.l 1),(7,.l 1),(10,.l 4),(12,.ptr 12 0),(13,tI)] [(3,bT 36 []),(4,.box [.ci .i64 0,.nil,.nil]),(12,.box [tI,.arr 1121,.nil]),(1121,.arr 100 3)] 3190887 [xE 4 [(77,.b)]] @Wb n
def Ar:LZ9:=mkU (ZZ n).ok nT 36 Tryz.f11 [(3,.ptr 3 0),(4,.ptr 4 0),(6,.l 1),(10,.l 4),(12,.ptr 12 0),(15,tI),(16,tI),(17,.l 2),(19,tI)] [(3,bT 36 []),(4,.box [tI,.nil,.nil]),(12,.box [tI,.arr 1121,.arr 107]),(107,.arr 110 6),(1121,.arr 100 3)] 86094045 [xE 12 [(145,.b)]] @UD n
def AF:LZ9:=mkU (ZZ n).ok [Ar n n] 30 Tryz.f11 [(3,.ptr 3 0),(4,.ptr 4 0),(6,.l 1),(10,.l 4),(12,.ptr 12 0),(15,tI),(16,tI)] [(3,bT 36 []),(4,.box [tI,.nil,.nil]),(12,.box [tI,.arr 1121,.arr 107]),(107,.arr 110 6),(1121,.arr 100 3)] 9566086 [.f .ret [(4,.ptr 4 0),(5,.ci .i64 13)] [(4,.box [.ci .i64 0,.nil,.nil])] [],xE 10 [(120,.b)]] @Vt n
def A9:LZ9:=mkU (ZZ n).ok [AF n n] 27 Tryz.f11 [(3,.ptr 3 0),(4,.ptr 4 0),(6,.l 1),(10,.l 4),(12,.ptr 12 0),(15,tI)] [(3,bT 36 []),(4,.box [.ci .i64 0,.nil,.nil]),(12,.box [tI,.arr 1121,.arr 107]),(107,.arr 110 6),(1121,.arr 100 3)] 1062931 [.f .ret [(4,.ptr 4 0),(5,.ci .i64 13)] [(4,.box [.ci .i64 0,.nil,.nil])] [],xE 8 [(112,.b)]] @Uz n
def Q1w:EZ9 11:=mkD (ZZ n).ok [AG n n,Aw n n,AC n n,A9 n n] 11 Tryz.f11 0 @T8 n
def AT:EZ9 102:=mkD (Xa [] []).ok nT 102 Tryz.f102 0 @HP n
def Mi:BZ9:=Xa [⟨102,AT n⟩] []
def Ao:LZ9:=mkU (Mi n).ok nT 4 Tryz.f60 [(1,.ptr 1 0),(3,tI)] [(1,.box [tI,.l 3,.l 6])] 41 [.f .ret [(2,.cb false)] [] [],xE 0 [(25,.b)]] @Vu n
def So:EZ9 60:=mkD (Mi n).ok [Ao n n] 60 Tryz.f60 0 @Ur n
def Q7e:EZ9 61:=mkD (Xa [] []).ok nT 61 Tryz.f61 0 @Q0Y n
def PU (n:Nat):BZ9:=Xa [] []
def Ez:LZ9:=mkU (PU n).ok nT 5 Tryz.f158 [(0,.arr 1000000),(5,tI),(6,tI),(22,tI),(23,tI)] [(1000000,.arr 3 1)] 229 [xE 0 [(24,.b)]] @Z6 n
def DS:EZ9 158:=Q75 (mkW (PU n).ok [Ez n n] 158 Tryz.f158 [eR 1000000 3 1,eA [qI,qI,qI,qI,qI,qI]] [sB] [(1,eK 1000000 3 1)] 0 0 @Jz n)
def Ww:BZ9:=Xa [⟨60,So n⟩,⟨158,DS n⟩] []
def MU:LZ9:=mkU (Ww n).ok nT 5 Tryz.f103 [(1,.ptr 1 0),(3,.arr 16),(18,tI),(19,tI)] [(1,.box [tI,.l 3,.l 6]),(16,.arr 3 1)] 493 [xE 0 [(20,.b)]] @Z8 n
def My:LZ9:=mkU (Ww n).ok nT 10 Tryz.f103 [(1,.ptr 1 0),(3,.arr 16),(5,tI)] [(1,.box [tI,.l 3,.l 6]),(16,.arr 3 1)] 191 [xE 2 [(31,.b)]] @Z5 n
def Mr:LZ9:=mkU (Ww n).ok nT 20 Tryz.f103 [(3,.arr 16),(6,.arr 43),(7,tI),(8,tI),(9,tI),(45,tI),(46,tI)] [(16,.arr 3 1),(43,.arr 3 1)] 1722 [xE 6 [(54,.b)]] @Yq n
def Mq:LZ9:=mkU (Ww n).ok [Mr n n] 16 Tryz.f103 [(3,.arr 16),(6,.arr 43),(7,tI),(45,tI),(46,tI)] [(16,.arr 3 1),(43,.arr 3 1)] 212 [xE 4 [(47,.b)]] @Yr n
def Lu:EZ9 103:=mkD (Ww n).ok [MU n n,My n n,Mq n n] 103 Tryz.f103 0 @JE n
def Gw:BZ9:=Xa [⟨103,Lu n⟩] []
def Fi:LZ9:=mkU (Gw n).ok nT 8 Tryz.f62 [(7,.l 1),(8,.ptr 25 0),(9,tI),(10,tI),(27,tI),(28,tI)] [(19,.arr 3 1),(23,.arr 4 1),(25,bT 116 [(3,.arr 23),(10,.nil),(11,.arr 19)])] 1480 [xE 2 [(39,.b)]] @YG n
def F4:LZ9:=mkU (Gw n).ok [Fi n n] 4 Tryz.f62 [(7,.l 1),(8,.ptr 25 0),(27,tI),(28,tI)] [(19,.arr 3 1),(23,.arr 4 1),(25,.box [tI,.l 3,.l 6,.arr 23,tI,.ci .i64 0,.cb false,.b,.cb false,.ci .i64 0,.nil,.arr 19])] 184 [xE 0 [(29,.b)]] @Zw n
def E2:EZ9 62:=mkW (Gw n).ok [F4 n n] 62 Tryz.f62 [eA [qI,qL 3,qL 6],sI,sB] [eP 25 12,sI,sL 3,sL 6,eR 23 4 1,sI,sI,sB,sB,sB,sI,eN,eR 19 3 1] [] 0 0 @GC n
def LH:BZ9:=Xa [⟨60,So n⟩,⟨102,AT n⟩] []
def Q0O:LZ9:=mkU (LH n).ok nT 4 Tryz.f159 [(1,.l 1),(2,.ptr 2 0),(5,tI)] [(2,.box [tI,.l 3,.l 6])] 16 [.f .ret [(4,.cb false)] [] [],xE 0 [(20,.b)]] @J8 n
def Q2R:EZ9 159:=mkD (LH n).ok [Q0O n n] 159 Tryz.f159 0 @NB n
def L9:EZ9 160:=mkD (Xa [⟨59,EN n⟩] []).ok nT 160 Tryz.f160 790 @Tp n
def Lh:BZ9:=Xa [⟨159,Q2R n⟩,⟨160,L9 n⟩] []
def Q1N:LZ9:=mkU (Lh n).ok nT 5 Tryz.f104 [(1,.l 1),(2,.ptr 2 0),(6,tI),(7,tI)] [(2,.box [tI,.l 3,.l 6])] 295 [xE 0 [(16,.b)]] @J0 n
def Q3C:EZ9 104:=mkD (Lh n).ok [Q1N n n] 104 Tryz.f104 0 @NZ n
def VI:BZ9:=Xa [⟨160,L9 n⟩] []
def HE:LZ9:=mkU (VI n).ok nT 3 Tryz.f105 [(0,.ptr 1000000 0),(1,tI),(5,tI),(6,tI)] [(98003,.arr 4 1),(98011,.arr 3 1),(1000000,bT 116 [(3,.arr 98003),(11,.arr 98011)])] 2536 [.f .ret [(4,.cb true)] [(98003,.arr 4 1),(98011,.arr 3 1),(1000000,bT 116 [(3,.arr 98003),(11,.arr 98011)])] [4,5,6,7,8,9,10,11,12,13,14,15],xE 0 [(16,.b)]] @QY n
def Tk:EZ9 105:=mkW (VI n).ok [HE n n] 105 Tryz.f105 (pT 1000000 116 [(3,eR 1000001 4 1),(11,eR 1000002 3 1)] [sI]) [sB] [] 1146 8190 @Zg n
noncomputable abbrev ZU:List Sp:=(pT 1000000 116 [(3,eR 1000001 4 1),(11,eR 1000002 3 1)] [sI])
abbrev ZT:List Sp:=[sB,eI 1000000 12,sI,sL 3,sL 6,eR 98003 4 1,sI,sI,sB,sB,sB,sI,sL 1,eR 98011 3 1,eG 1000001,eG 1000002]
noncomputable abbrev Vl (n d:Nat):LF (lts ZU) (Option (HT (lts ZT))):=Xk n d
def G1 (n d:Nat) (ih:Ve Tryz.prog 63 (Qec ZU ZT (Vl n d))):BZ9:=Xa [⟨104,Q3C n⟩,⟨105,Tk n⟩,⟨63,⟨_,ih⟩⟩] [(5,⟨[],[],[],[],[98010]⟩),(1000000017,⟨[],[],[],[],[]⟩)]
def Px (n d:Nat) (ih:Ve Tryz.prog 63 (Qec ZU ZT (Vl n d))):LZ9:=mkU (G1 n d ih).ok nT 10 Tryz.f63 [(0,.ptr 1000000 0),(1,tI),(5,tI),(6,tI)] [(98003,.arr 4 1),(98011,.arr 3 1),(1000000,bT 116 [(3,.arr 98003),(11,.arr 98011)])] 14348902 [.f .ret [(4,.cb false)] [(98003,.arr 4 1),(98011,.arr 3 1),(1000000,bT 116 [(3,.arr 98003),(11,.arr 98011)])] [0,0,0,0,0,0,0,0,0,0,0,0],xE 0 [(59,.b)]] (fun R n=>@Xc R n (Xk n d)) n
theorem UV (n:Nat):∀ d,Ve Tryz.prog 63 (Qec ZU ZT (Vl n d))
 | 0=>Q90 Tryz.f63 _ _ _ (fun v r h=>nomatch (show none=some r from h)) (by intro v;kernel_rfl) (by kernel_rfl) (by kernel_rfl) (by kernel_rfl) (by kernel_rfl)
 | d+1=>QcR (G1 n d (UV n d)).ok [Px n d (UV n d) n] Tryz.f63 _ _ _ (by intro v;kernel_rfl) (by intro v;kernel_rfl) (by kernel_rfl) (by kernel_rfl) (by kernel_rfl) (by kernel_rfl) (by kernel_rfl) (by kernel_rfl)
def Sz:EZ9 63:=⟨_,UV n n⟩
def Q4E:EZ9 32:=mkX (Xa [⟨60,So n⟩,⟨61,Q7e n⟩,⟨62,E2 n⟩,⟨63,Sz n⟩] []).ok nT 32 Tryz.f32 [eA [qI,qL 3,qL 6],sI,sB] [eT 2,eU,sI] [eT 2,eP 50018 12,sI,sL 3,sL 6,eR 50020 4 1,sI,sI,sB,sB,sB,sI,sL 1,eR 100020 3 1,sI] 0 @Lc n
def DP:EZ9 12:=mkD (Xa [⟨32,Q4E n⟩] []).ok nT 12 Tryz.f12 0 @UF n
def Ac:EZ9 5:=mkD (Xa [⟨10,Q3P n⟩,⟨11,Q1w n⟩,⟨12,DP n⟩] []).ok nT 5 Tryz.f5 0 @JV n
end Go.Vx
namespace Go.Vx
open Go.RowKit Go.Maps Go.WideMaps
theorem XR {P:Program} {f:Nat} {e:TK} (hE:Ve P f e) {aj:List AV} {dl:Dl} (h:e Dl 0 true aj (fun _=>none) some=some dl):Zi P f aj (fun _=>none) dl:=by
 obtain ⟨d,k1,a⟩:=hE Dl 0 true aj _ some dl h;cases k1;exact a rfl
theorem Cj {P:Program} {f:Nat} {aj:List AV} {hl:Nat->Option Ob} {av:AV} (h:Zi P f aj hl ⟨av,[],[]⟩) {S:Nat->Prop} {w:World} (hS:∀ b,S b->b<w.heap.size) {args:List Value} (hA:ArgsRd (fun _=>none) S (fun _=>none) w args aj) :
  Calls P f args.toArray w fun e w'=>∃ v S',e = .returned v/\RdA (fun _=>none) S' (fun _=>none) w' tm0 v av/\RowKit.Below w.heap.size w w':=by
 refine (h.2 (fun _=>none) S (fun _=>none) w args ⟨fun l o h=>(by cases h),fun l l' b h=>(by cases h),fun l b h=>(by cases h),hS⟩ hA (fun l hl=>(by rcases hl with hl | hl <;> simp [wrL] at hl))).mono fun e w' ⟨v,β',S',he,hc⟩=>?_
 have hβ:β'=fun _=>none:=funext fun l=>hc.bsame l (by simp [wrL])
 subst hβ;refine ⟨v,S',he,?_,⟨hc.fr.os,hc.fr.tape,hc.fr.output,hc.fr.size,fun b hb=>hc.fr.block b hb (fun ⟨l,a,_⟩=>by simp [wrL] at a)⟩⟩;exact hc.res.mono (fun _ h=>h) (fun _ _=>rfl) (fun l _=>⟨rfl,fun h=>h,fun e s rows h=>(by cases h),fun b cs ty fz h=>(by cases h),fun t f h=>(by cases h)⟩) (fun _ _=>rfl)
theorem Kf {P:Program} {f:Nat} {aj:List AV} {hl:Nat->Option Ob} {r:Bool} (h:Zi P f aj hl ⟨.d (D.bool r),[],[]⟩) {S:Nat->Prop} {w:World} (hS:∀ b,S b->b<w.heap.size) {args:List Value} (hA:ArgsRd (fun _=>none) S (fun _=>none) w args aj) :
  Calls P f args.toArray w fun e w'=>e = .returned (.bool r)/\RowKit.Below w.heap.size w w':=by
 refine (Cj h hS hA).mono fun e w' ⟨v,S',he,hr,hb⟩=>⟨?_,hb⟩
 cases hr with
 |d v x hx=>cases hx;exact he
 |dang v av l hl=>cases hl
theorem Gz {P:Program} {f:Nat} {aj:List AV} {hl:Nat->Option Ob} {k:IntKind} {r:Int} (h:Zi P f aj hl ⟨.d (D.int k r),[],[]⟩) {S:Nat->Prop} {w:World} (hS:∀ b,S b->b<w.heap.size) {args:List Value} (hA:ArgsRd (fun _=>none) S (fun _=>none) w args aj) :
  Calls P f args.toArray w fun e w'=>e = .returned (.int k r)/\RowKit.Below w.heap.size w w':=by
 refine (Cj h hS hA).mono fun e w' ⟨v,S',he,hr,hb⟩=>⟨?_,hb⟩
 cases hr with
 |d v x hx=>cases hx;exact he
 |dang v av l hl=>cases hl
def Q1Q (w:World) (P:Program) (b n:Nat) (aj:List (List UInt8)):Prop:=
 ∃ D:DataW Unit,w.ownsMap P 9 (plainElem P 4) b n D/\Go.Maps.IsMap D/\∀ s,D.atKey (.string s) (.lit (.bool false)) = .lit (.bool (aj.contains s))
theorem Q1Q.made (P:Program) (w:World):Q1Q (w.alloc (.map #[] 0)) P w.heap.size 0 []:=
 ⟨.map [],World.ownsMap_made w P 9 _,Go.Maps.isMap_empty,fun s=>rfl⟩
section
variable {P:Program} (h9:P.underlying 9=some .string) (h4:P.underlying 4=some .bool) {T:TypeId} (hT:P.underlying T=some (.map 9 4))
include h9 h4 hT
theorem Q1Q.lookup {w:World} {b n:Nat} {aj:List (List UInt8)} (h:Q1Q w P b n aj) (hz:(zeroValue 4).run P w = .ok (.bool false) w) {s:List UInt8} (hs:s.length<=maxLen) :
  (Instr.lookup T (.map (some b)) (.string ⟨⟨s⟩⟩) false).run P w = .ok (.bool (aj.contains s)) w:=by
 obtain ⟨D,hD,_,hat⟩:=h;obtain ⟨v,ps,an,hv⟩:=hD.lookup (string_keyed h9) hT hz (zd:=.lit (.bool false)) (zp:=[]) (plainElem_bool h4 false) (keyOf_string_mk (s:=⟨⟨s⟩⟩) h9 hs);have e:=hat s;simp only at hv;rw [e] at hv;unfold plainElem at hv;rw [h4] at hv;cases v <;> simp at hv;rw [an,hv.1];simp
theorem Q1Q.update {w:World} {b n:Nat} {aj:List (List UInt8)} (h:Q1Q w P b n aj) (hn:n<maxLen) {s:List UInt8} (hs:s.length<=maxLen) :
  ∃ w',(Instr.mapUpdate T (.map (some b)) (.string ⟨⟨s⟩⟩) (.bool true)).run P w = .ok () w'/\Q1Q w' P b (n+1) (s::aj)/\w.grownBy w' (some b):=by
 obtain ⟨D,hD,hm,hat⟩:=h;obtain ⟨w',an,ak,hg⟩:=hD.update (string_keyed h9) hT hn (keyOf_string_mk (s:=⟨⟨s⟩⟩) h9 hs) (plainElem_bool (H:=Unit) h4 true);refine ⟨w',an,⟨_,ak,hm.put _ _,fun t=>?_⟩,hg⟩;have hk:WideAt.IsKeyLit (.string s):=(string_keyed h9).key (keyOf_string_mk (s:=⟨⟨s⟩⟩) h9 hs);by_cases e:t=s
 ·subst e;rw [show (ByteArray.mk ⟨t⟩).data.toList=t from rfl,Go.Maps.atKey_put_same hm hk];simp
 ·rw [show (ByteArray.mk ⟨s⟩).data.toList=s from rfl,Go.Maps.atKey_put_other (by simpa using e),hat t];simp [e]
end
theorem Q1Q.kept {P:Program} {w w':World} {b n:Nat} {aj:List (List UInt8)} {row:Option Nat} (h:Q1Q w P b n aj) (hg:w.grownBy w' row) (ak:some b≠row):Q1Q w' P b n aj:=by
 obtain ⟨D,hD,hm,hat⟩:=h;exact ⟨D,hD.kept hg ak,hm,hat⟩
theorem Q1Q.lt {P:Program} {w:World} {b n:Nat} {aj:List (List UInt8)} (h:Q1Q w P b n aj):b<w.heap.size:=by
 obtain ⟨D,hD,hm,hat⟩:=h;exact hD.lt
theorem Wd {w w':World} (h:RowKit.Below w.heap.size w w'):w.grownBy w' none:=⟨h.os,h.tape,h.output,h.size,fun b hb _=>h.block b hb⟩
def Gi:Code->List Code
 |.region i o d=>[.region i o d]
 |.loop c=>Gi c
 |.seq a b=>Gi a++Gi b
 |.block _ c=>Gi c
 |.scope c=>Gi c
 |.cond _ a b=>Gi a++Gi b
 |_=>[]
def Q5x (Q:Act->World->Prop):Exit->Act->World->Prop
 |.normal,a,w=>Q a w
 |_,_,_=>False
theorem Sg {P : Program} {f : Nat} {fn : Func} (hf : P.funcs[f]? = some fn) (hb : fn.body.isSome = true) (hn : (fn.name == "runtime.NumGoroutine") = false) {avs : List AV} {av : AV} {hl : Nat -> Option Ob} {rd : List Nat} (hlf : lf av = true) (hA : lfL avs = true)
  (h:∀ (S:Nat->Prop) (w:World) (args:List Value),(∀ b,S b->b<w.heap.size)->ArgsRd (fun _=>none) S (fun _=>none) w args avs->Calls P f args.toArray w fun e w'=>∃ (v:Value) (S':Nat->Prop),e = .returned v/\(∀ b,S b->S' b)/\(∀ b,S' b->S b\/w.heap.size<=b)/\(∀ b,S' b->b<w'.heap.size) /\
   RdA (fun _=>none) S' (fun _=>none) w' tm0 v av/\RowKit.Below w.heap.size w w'):Zi P f avs hl ⟨av,[],rd⟩:=by
 refine ⟨⟨fn,hf,hb,hn⟩,fun β S h' w args hO hAr _=>?_⟩;refine (h S w args hO.sb ⟨hAr.1,fun i v av' a h2=>LC (Q06 hA h2) (fun _ h=>h) (fun _ _=>rfl) (hAr.2 i v av' a h2)⟩).mono fun e w' ⟨v,S',he,hs,hsf,hsb,hr,hbel⟩=>?_
 refine ⟨v,β,S',he,⟨hs,fun b hS=>(hsf b hS).elim .inl fun h=>.inr (.inl h),hsb,Q4Q hbel,fun _ _=>rfl,fun l o hl'=>by simp [wrL] at hl',fun l hl'=>by simp [wrL] at hl',fun l b hl'=>by simp [wrL] at hl',fun l l' b hl'=>by simp [wrL] at hl',fun l hl'=>by simp [wrL] at hl',?_,fun t=>Q3D t _ hlf⟩⟩;exact LC hlf (fun _ h=>h) (fun _ _=>rfl) hr
end Go.Vx
namespace Go.Vx
def dV:D->Value
 |.int k n=>.int k n
 |.bool b=>.bool b
 |.str s=>.string ⟨⟨s⟩⟩
 |.sl _ _=>undef
def cellsOf (l:LL):List Value:=l.flatMap fun r=>r.map dV
theorem Q3u (l:LL) (r:List D):cellsOf (l++[r])=cellsOf l++r.map dV:=by simp [cellsOf]
structure NestK (e1 e2 k:Nat) (w:World) (B:Nat) (v:Value) (hd:List Value) (ll:List LL):Prop where
 row:w.ownsRow B e1 1 v ll.length hd
 each:∀ (i:Nat) (h:Value) (l:LL),hd[i]? = some h->ll[i]? = some l->w.ownsRow B e2 k h l.length (cellsOf l)
 outer:∀ (i:Nat) (h:Value) (b:Nat),hd[i]? = some h->h.ownBlock=some b->v.ownBlock≠some b
 apart:∀ (i j:Nat) (h h':Value) (b:Nat),hd[i]? = some h->hd[j]? = some h'->h.ownBlock=some b->h'.ownBlock=some b->i=j
section
variable {e1 e2 k:Nat}
theorem NestK.len {w:World} {B:Nat} {v:Value} {hd:List Value} {ll:List LL} (h:NestK e1 e2 k w B v hd ll):hd.length=ll.length:=by have:=h.row.1;omega
theorem NestK.kept {w w':World} {B:Nat} {v:Value} {hd:List Value} {ll:List LL} {row:Option Nat} (h:NestK e1 e2 k w B v hd ll) (hg:w.grownBy w' row)
  (a:v.ownBlock=none\/v.ownBlock≠row) (h2:∀ x∈hd,x.ownBlock=none\/x.ownBlock≠row):NestK e1 e2 k w' B v hd ll:=
 ⟨h.row.kept hg a,fun i x l hx hl=>(h.each i x l hx hl).kept hg (h2 x (Qk6 hx)),h.outer,h.apart⟩
theorem NestK.blk {w:World} {B:Nat} {v:Value} {hd:List Value} {ll:List LL} (h:NestK e1 e2 k w B v hd ll) {i:Nat} {x:Value} {b:Nat} (hx:hd[i]? = some x) (hb:x.ownBlock=some b):B<=b/\b<w.heap.size:=by
 have hi:i<ll.length:=by rw [<- h.len];exact (Qk4.1 hx).1
 exact (h.each i x ll[i] hx (Qkd hi)).lt b hb
theorem Q3h {w:World} {base e n:Nat} {v:Value} {xs:List Value} {b i:Nat} (h:w.ownsRow base e 1 v n xs) (hb:v.ownBlock=some b) (hi:i<n) (u:Value):(w.setCell ⟨b,i,none⟩ u).ownsRow base e 1 v n (xs.set i u):=by
 obtain ⟨a,h2⟩:=h;refine ⟨by simpa using a,?_⟩;rcases h2 with ⟨rfl,rfl⟩ | ⟨g,cap,aj,rfl,hg,hh,hn,hc,hs,ht⟩
 ·omega
 ·simp [Value.ownBlock] at hb;subst hb;refine .inr ⟨g,cap,_,rfl,hg,heap_setCell_same w g i aj e u hh,hn,hc,by simpa using hs,?_⟩;rw [<- ht];simp [List.take_set]
theorem Ld {w:World} {base e s n:Nat} {v:Value} {xs:List Value} (h:w.ownsRow base e s v n xs) {a:Addr} (ha:v.ownBlock≠some a.block) (u:Value):(w.setCell a u).ownsRow base e s v n xs:=by
 refine ⟨h.1,?_⟩;rcases h.2 with h2 | ⟨g,cap,aj,rfl,hg,hh,hn,hc,hs,ht⟩
 ·exact .inl h2
 ·refine .inr ⟨g,cap,aj,rfl,hg,?_,hn,hc,hs,ht⟩;rw [heap_setCell_other w a g u (fun e=>ha (by simp [Value.ownBlock,e]))];exact hh
theorem NestK.grow {w w1:World} {B:Nat} {v x x':Value} {hd:List Value} {ll:List LL} {l:LL} {s:List D} {g H i vb:Nat} (h:NestK e1 e2 k w B v hd ll)
  (hx:hd[i]? = some x) (hl:ll[i]? = some l) (az:w1.ownsRow B e2 k x' (l.length+1) (cellsOf l++s.map dV)) (hg:w.grownBy w1 x.ownBlock) (ak:x'.ownBlock=some g) (hat:x.ownBlock=some g\/g=H) (hH:w.heap.size=H)
  (hv:v.ownBlock=some vb):NestK e1 e2 k (w1.setCell ⟨vb,i,none⟩ x') B v (hd.set i x') (ll.set i (l++[s])):=by
 have hi:i<ll.length:=(Qk4.1 hl).1;have a5:=(h.row.lt vb hv).2;have a2:g≠vb:=by
  intro e;subst e;rcases hat with a | a
  ·exact h.outer i x g hx a hv
  ·omega
 have aq:w1.ownsRow B e1 1 v ll.length hd:=by
  refine h.row.kept hg (.inr fun e=>?_);rw [hv] at e;exact h.outer i x vb hx e.symm hv
 have ax:∀ (j:Nat) (y:Value) (b:Nat),hd[j]? = some y->y.ownBlock=some b->j≠i->b≠g:=by
  intro j y b hy hb a3 e;subst e;rcases hat with a | a
  ·exact a3 (h.apart j i y x b hy hx hb a)
  ·have:=(h.blk hy hb).2;omega
 refine ⟨?_,fun j y k hy hk=>?_,fun j y b hy hb=>?_,fun j k y z b hy hz ao an=>?_⟩
 ·rw [List.length_set];exact Q3h aq hv hi x'
 ·rw [Qkk] at hy hk;by_cases e:i=j
  ·subst e;have a:i<hd.length:=by rw [h.len];exact hi
   simp only [if_true,a,hi,Option.some.injEq] at hy hk;subst hy hk;refine Ld (by simpa [Q3u] using az) ?_ _;rw [ak];intro e;exact a2 (Option.some.inj e)
  ·rw [if_neg e] at hy hk;refine Ld ((h.each j y k hy hk).kept hg ?_) ?_ _
   ·cases hb:y.ownBlock with
    |none=>exact .inl rfl
    |some b=>exact .inr fun e2=>e (h.apart j i y x b hy hx hb e2.symm).symm
   ·intro e2;exact h.outer j y vb hy e2 hv
 ·rw [Qkk] at hy;by_cases e:i=j
  ·subst e;have a:i<hd.length:=by rw [h.len];exact hi
   simp only [if_true,a,Option.some.injEq] at hy;subst hy;rw [ak] at hb;cases hb;rw [hv];intro e2;exact a2 (Option.some.inj e2).symm
  ·rw [if_neg e] at hy;exact h.outer j y b hy hb
 ·rw [Qkk] at hy hz;have a:i<hd.length:=by rw [h.len];exact hi
  by_cases e:i=j
  ·by_cases e2:i=k
   ·omega
   ·subst e;rw [if_neg e2] at hz;simp only [if_true,a,Option.some.injEq] at hy;subst hy;rw [ak] at ao;cases ao;exact absurd rfl (ax k z g hz an (fun h=>e2 h.symm))
  ·rw [if_neg e] at hy;by_cases e2:i=k
   ·subst e2;simp only [if_true,a,Option.some.injEq] at hz;subst hz;rw [ak] at an;cases an;exact absurd rfl (ax j y g hy ao (fun h=>e h.symm))
   ·rw [if_neg e2] at hz;exact h.apart j k y z b hy hz ao an
end
def D7 (k:Nat) (r:List D):Bool:=Nat.beq r.length k&&r.all fun | .int .i64 _=>true | _=>false
theorem Q0n {k:Nat}:∀ (l:LL) (i j:Nat) (r:List D) (x:D),(∀ r∈l,r.length=k)->l[i]? = some r->r[j]? = some x->(cellsOf l)[i*k+j]? = some (dV x)
 |[],i,j,r,x,_,a,_=>by simp at a
 |b::l,0,j,r,x,hk,a,h2=>by
  simp only [Qk7,Option.some.injEq] at a;subst a;have hj:=(Qk4.1 h2).1;simp only [cellsOf,List.flatMap_cons,Nat.zero_mul,Qkj];rw [List.getElem?_append_left (by simpa using hj),List.getElem?_map,h2];rfl
 |b::l,i+1,j,r,x,hk,a,h2=>by
  have ih:=Q0n l i j r x (fun q hq=>hk q (by simp [hq])) (by simpa using a) h2;have c:=hk b (by simp);simp only [cellsOf,List.flatMap_cons];rw [List.getElem?_append_right (by simp [c];rw [Nat.succ_mul];omega)];rw [show (i+1)*k+j-(b.map dV).length=i*k+j by simp [c];rw [Nat.succ_mul];omega];exact ih
theorem QeN {w:World} {B e k:Nat} {x:Value} {l:LL} (h:w.ownsRow B e k x l.length (cellsOf l)) (hk:∀ r∈l,D7 k r=true) {S:Nat->Prop} (hS:∀ b,x.ownBlock=some b->S b):Rd S w x (.sl k l):=by
 have aj:∀ r∈l,r.length=k:=fun r hr=>by
  have:=hk r hr;simp only [D7,Qka] at this;exact Nat.eq_of_beq_eq_true this.1
 rcases h.2 with ⟨rfl,c⟩ | ⟨g,cap,ak,rfl,hg,hh,hn,hc,hs,ht⟩
 ·have:l=[]:=List.eq_nil_of_length_eq_zero c;subst this;exact .sl0 none 0 k
 ·refine .sl ⟨g,0,none⟩ cap k l (fun i j=>dV ((l.getD i []).getD j (.bool false))) (hS g rfl) hn (fun i r hi=>aj r (Qk6 hi)) (fun i j r y hi hj=>?_) (fun i j r y hi hj=>?_)
  ·have a:=Q0n l i j r y aj hi hj;have aq:i*k+j<ak.size:=by
    have d:=(Qk4.1 a).1;rw [h.1] at d;have:l.length*k<=cap*k:=Nat.mul_le_mul_right k hn;omega
   rw [KZ,Qkj,cell_of_row w g (i*k+j) ak e (0,0) hh];rw [<- ht,List.getElem?_take] at a;split at a
   ·rw [<- Qki,a];simp [List.getD,hi,hj]
   ·cases a
  ·have hq:=hk r (Qk6 hi);simp only [D7,Qka,List.all_eq_true] at hq;have hy:=hq.2 y (Qk6 hj);simp only [List.getD,hi,hj,Option.getD_some];split at hy
   ·exact .int _ _
   ·cases hy
end Go.Vx
set_option maxRecDepth 100000
namespace Go.Vx
open Go.Proofs
variable (n:Nat)
def Gh:EZ9 210:=mkD (Xa [] []).ok nT 210 Tryz.f210 0 @Xi n
def DR:EZ9 212:=mkD (Xa [] []).ok nT 212 Tryz.f212 0 @Pi n
def BD:EZ9 213:=mkD (Xa [] []).ok nT 213 Tryz.f213 0 @LR n
def Fx:BZ9:=Xa [⟨212,DR n⟩,⟨213,BD n⟩] []
def Q1F:LZ9:=mkU (Fx n).ok nT 4 Tryz.f167 [(0,.t),(19,tI),(20,tI)] [] 22 [.f .ret [(2,.cb false)] [] [],xE 0 [(21,.b)]] @Sf n
def TR:EZ9 167:=mkD (Fx n).ok [Q1F n n] 167 Tryz.f167 0 @Kp n
end Go.Vx
namespace Go.Vx
open Go.Proofs Go.RowKit
theorem Q70 {n:Nat} {s:List UInt8} (h:Kp n s some=some true) (w:World):Calls Tryz.prog 167 #[.string ⟨⟨s⟩⟩] w fun e w'=>e = .returned (.bool true)/\RowKit.Below w.heap.size w w':=by
 have he:(TR n).E Dl 0 true [.d (.str s)] (fun _=>none) some=some ⟨.d (.bool true),[],[]⟩:=by
  show gb true (Kp n s some) false (fun r=>(some ⟨.d (D.bool r),[],[]⟩:Option Dl))=_;rw [h];rfl
 refine Kf (XR ((TR n).ok) he) (S:=fun _=>False) (fun _ h=>h.elim) (args:=[.string ⟨⟨s⟩⟩]) ⟨rfl,fun i v av a h2=>?_⟩
 match i,a,h2 with
 |0,a,h2=>
  simp only [Qk7,Option.some.injEq] at a h2;subst a h2;exact .d _ _ (.str ⟨⟨s⟩⟩)
set_option maxHeartbeats 4000000 in
set_option maxRecDepth 100000 in
theorem Tryz.checkName_calls {N:Nat} (w:World) (b n:Nat) (aj:List (List UInt8)) (s:List UInt8) (h:Q1Q w Tryz.prog b n aj) (hn:n<1000) (hs:Qb4 N aj s=true) :
  Calls Tryz.prog 209 #[.string ⟨⟨s⟩⟩,.map (some b)] w fun e w'=>e = .returned (.int .i64 0)/\Q1Q w' Tryz.prog b (n+1) (s::aj)/\w.grownBy w' (some b):=by
 simp only [Qb4,Qka,Bool.not_eq_true'] at hs;obtain ⟨⟨hl,hN⟩,hc⟩:=hs;have hl:=Qk9 hl;have ao:s.length<=maxLen:=by unfold maxLen;omega
 have ar:n<maxLen:=by unfold maxLen;omega
 have hz:∀ w:World,(zeroValue 4).run Tryz.prog w = .ok (.bool false) w:=fun w=>by kernel_rfl
 go_enter Tryz.func209,Tryz.ntmps209
 go_wp2_with (go_at_call 167;refine (Q70 (Ni hN) _).mono ?_)
 rintro e w1 ⟨rfl,hB⟩;have c:=h.kept (Wd hB) (by simp);have an:=c.lookup Tryz.underlying9 Tryz.underlying4 Tryz.underlying288 (hz w1) ao;rw [hc] at an;obtain ⟨d,au,h2,a⟩:=c.update Tryz.underlying9 Tryz.underlying4 Tryz.underlying288 ar ao
 go_wp2
 refine bodyPost_ret (results_tmp rfl _ _ _) rfl ?_;exact ⟨rfl,h2,⟨a.os.trans hB.os,a.tape.trans hB.tape,a.output.trans hB.output,Nat.le_trans hB.size a.size,fun k hk aq=>(a.block k (Qk8 hk hB.size) aq).trans (hB.block k hk)⟩⟩
end Go.Vx
namespace Go.Vx
open Go.Proofs Go.RowKit
theorem Q7U {β:Nat->Option Nat} {S:Nat->Prop} {h:Nat->Option Ob} {w:World} {b:Value} {a0:AV} (c:RdA β S h w tm0 b a0):ArgsRd β S h w [b] [a0]:=by
 refine ⟨rfl,fun i v av a h2=>?_⟩
 match i,a,h2 with
 |0,a,h2=>simp only [Qk7,Option.some.injEq] at a h2;subst a h2;exact c
theorem Kn {β:Nat->Option Nat} {S:Nat->Prop} {h:Nat->Option Ob} {w:World} {b c:Value} {a0 a1:AV} (d:RdA β S h w tm0 b a0) (aj:RdA β S h w tm0 c a1):ArgsRd β S h w [b,c] [a0,a1]:=by
 refine ⟨rfl,fun i v av a h2=>?_⟩
 match i,a,h2 with
 |0,a,h2=>simp only [Qk7,Option.some.injEq] at a h2;subst a h2;exact d
 |1,a,h2=>simp only [List.getElem?_cons_succ,Qk7,Option.some.injEq] at a h2;subst a h2;exact aj
theorem Q7S {β:Nat->Option Nat} {S:Nat->Prop} {h:Nat->Option Ob} {w:World} {b c d:Value} {a0 a1 a2:AV} (e:RdA β S h w tm0 b a0) (ak:RdA β S h w tm0 c a1) (aj:RdA β S h w tm0 d a2):ArgsRd β S h w [b,c,d] [a0,a1,a2]:=by
 refine ⟨rfl,fun i v av a h2=>?_⟩
 match i,a,h2 with
 |0,a,h2=>simp only [Qk7,Option.some.injEq] at a h2;subst a h2;exact e
 |1,a,h2=>simp only [List.getElem?_cons_succ,Qk7,Option.some.injEq] at a h2;subst a h2;exact ak
 |2,a,h2=>simp only [List.getElem?_cons_succ,Qk7,Option.some.injEq] at a h2;subst a h2;exact aj
inductive RdLs (S:Nat->Prop) (w:World):List Value->List D->Prop
 |nil:RdLs S w [] []
 |cons {v:Value} {x:D} {vs:List Value} {xs:List D} (h:Rd S w v x) (t:RdLs S w vs xs):RdLs S w (v::vs) (x::xs)
theorem RdLs.agg {S:Nat->Prop} {w:World}:∀ {vs:List Value} {xs:List D},RdLs S w vs xs->RdA (fun _=>none) S (fun _=>none) w tm0 (.agg vs.toArray) (.ag (xs.map .d))
 |vs,xs,h=>by
  have hl:∀ {vs:List Value} {xs:List D},RdLs S w vs xs->vs.length=xs.length:=by
   intro vs xs h;induction h with
   |nil=>rfl
   |cons _ _ ih=>simp [ih]
  have hr:∀ {vs:List Value} {xs:List D},RdLs S w vs xs->∀ (i:Nat) (x:D),xs[i]? = some x->Rd S w (vs.toArray.getD i undef) x:=by
   intro vs xs h;induction h with
   |nil=>intro i x hx;simp at hx
   |cons a t ih=>
    intro i x hx;cases i with
    |zero=>simp only [Qk7,Option.some.injEq] at hx;subst hx;simpa using a
    |succ i=>
     have:=ih i x (by simpa using hx);simpa using this
  refine .ag _ _ (by simp [hl h]) fun i x hx=>?_
  rw [List.getElem?_map,Qkc] at hx;obtain ⟨d,hd,rfl⟩:=hx;exact .d _ _ (hr h i d hd)
theorem Rd.keep {S:Nat->Prop} {w w':World} {v:Value} {x:D} {m:Nat} (h:Rd S w v x) (hS:∀ b,S b->b<m) (hw:∀ b,b<m->w'.heap[b]? = w.heap[b]?):Rd S w' v x:=h.mono (fun _ h=>h) fun b hb=>hw b (hS b hb)
theorem Gc {S:Nat->Prop} {w:World} {v:Value} {k:Nat} {rows:LL} (h:Rd S w v (.sl k rows)):∃ ad cap,v = .slice ad rows.length cap:=by
 cases h with
 |sl0 a cap=>exact ⟨a,cap,rfl⟩
 |sl ad cap=>exact ⟨some ad,cap,rfl⟩
theorem Q68 {S:Nat->Prop} {w:World} {ad:Option Addr} {n cap k:Nat} {rows:LL} (h:Rd S w (.slice ad n cap) (.sl k rows)) {i:Nat} {row:List D} (hi:rows[i]? = some row) :
  ∃ a,ad=some a/\S a.block/\row.length=k/\∀ (j:Nat) (x:D),row[j]? = some x->∃ v,w.cell? (a.add (i*k+j))=some v/\Rd S w v x:=by
 cases h with
 |sl0 a cap=>simp at hi
 |sl a cap _ _ c hS ak aj hc hr=>exact ⟨a,rfl,hS,aj i row hi,fun j x hx=>⟨_,hc i j row x hi hx,hr i j row x hi hx⟩⟩
theorem Bw {n:Nat} {w w1 a:World} {b:Nat} (h:Below n w w1) (hn:n<=w.heap.size) (hb:n<=b) (hg:w1.grownBy a (some b)):Below n w a:=
 ⟨hg.os.trans h.os,hg.tape.trans h.tape,hg.output.trans h.output,Nat.le_trans h.size hg.size,fun k hk=>(hg.block k (by have:=h.size;omega) (by simp;omega)).trans (h.block k hk)⟩
theorem Ub {n:Nat} {w w1:World} (h:Below n w w1) (hn:n<=w.heap.size) (o:Obj):Below n w (w1.alloc o):=
 ⟨h.os,h.tape,h.output,by have:=h.size;simp;omega,fun k hk=>(Qk5 w1 o k (by have:=h.size;omega)).trans (h.block k hk)⟩
theorem Ux {n:Nat} {w w1 a:World} (h:Below n w w1) (hn:n<=w.heap.size) (h2:Below w1.heap.size w1 a):Below n w a:=
 ⟨h2.os.trans h.os,h2.tape.trans h.tape,h2.output.trans h.output,Nat.le_trans h.size h2.size,fun k hk=>(h2.block k (by have:=h.size;omega)).trans (h.block k hk)⟩
theorem J7 (ad:Addr) (i j:Nat) (hj:j≠0):ad.add (i+j)=⟨(ad.add i).block,(ad.add i).off+j,none⟩:=by
 have a:(ad.add i).add j=ad.add (i+j):=by
  unfold Addr.add;by_cases hi:i=0 <;> simp [hi,hj,Nat.add_assoc]
 rw [<- a];generalize ad.add i=x;unfold Addr.add;rw [if_neg hj]
theorem Q0D {N:Nat} {aj:List (List UInt8)} {l:LL} {j:Nat} (hj:j<l.length) (h:TU N aj (l.drop j)=true) :
  ∃ s,l[j]? = some [D.str s]/\Qb4 N aj s=true/\TU N (s::aj) (l.drop (j+1))=true:=by
 rw [List.drop_eq_getElem_cons hj] at h;unfold TU at h;split at h
 ·rename_i s e;simp only [Qka] at h;exact ⟨s,by rw [Qkd hj,e],h.1,h.2⟩
 ·cases h
theorem Q2U {N:Nat} {l0 l1 l2 f:LL} {aj:List (List UInt8)} {l:LL} {j:Nat} (hj:j<l.length) (h:Pf N l0 l1 l2 f aj (l.drop j)=true) :
  ∃ s a b c d,l[j]? = some [D.str s,.int .i64 a,.int .i64 b,.int .i64 c,.int .i64 d]/\Qb4 N aj s=true/\Xi N l0 l1 l2 f s a b c d some=some true/\Pf N l0 l1 l2 f (s::aj) (l.drop (j+1))=true:=by
 rw [List.drop_eq_getElem_cons hj] at h;unfold Pf at h;split at h
 ·rename_i s a b c d e;simp only [Qka] at h;exact ⟨s,a,b,c,d,by rw [Qkd hj,e],h.1.1,Ni h.1.2,h.2⟩
 ·cases h
theorem Qb3 {S:Nat->Prop} {w:World} {v:Value} {s:List UInt8} (h:Rd S w v (.str s)):v = .string ⟨⟨s⟩⟩:=by cases h;rfl
theorem GV {S:Nat->Prop} {w:World} {v:Value} {k:IntKind} {n:Int} (h:Rd S w v (.int k n)):v = .int k n:=by cases h;rfl
theorem Q6w {N:Nat} {l0 l1 l2 f:LL} {s:List UInt8} {a b c d:Int} (h:Xi N l0 l1 l2 f s a b c d some=some true) {S:Nat->Prop} {w:World} (hS:∀ b,S b->b<w.heap.size) {g i j k:Value}
  (l:Rd S w g (.sl 1 l0)) (m:Rd S w i (.sl 1 l1)) (h2:Rd S w j (.sl 5 l2)) (n:Rd S w k (.sl 6 f)) :
  Calls Tryz.prog 210 #[.agg #[g,i,j,k],.agg #[.string ⟨⟨s⟩⟩,.int .i64 a,.int .i64 b,.int .i64 c,.int .i64 d]] w fun e w'=>e = .returned (.bool true)/\RowKit.Below w.heap.size w w':=by
 have he:(Gh N).E Dl 0 true [.ag ([D.sl 1 l0,.sl 1 l1,.sl 5 l2,.sl 6 f].map .d),.ag ([D.str s,.int .i64 a,.int .i64 b,.int .i64 c,.int .i64 d].map .d)] (fun _=>none) some=some ⟨.d (.bool true),[],[]⟩:=by
  show gb true (Xi N l0 l1 l2 f s a b c d some) false (fun r=>(some ⟨.d (D.bool r),[],[]⟩:Option Dl))=_;rw [h];rfl
 exact Kf (XR ((Gh N).ok) he) hS (Kn (RdLs.agg (.cons l (.cons m (.cons h2 (.cons n .nil))))) (RdLs.agg (.cons (.str ⟨⟨s⟩⟩) (.cons (.int _ _) (.cons (.int _ _) (.cons (.int _ _) (.cons (.int _ _) .nil)))))))
set_option maxHeartbeats 8000000 in
set_option maxRecDepth 100000 in
theorem Tryz.layout_calls {N:Nat} (S:Nat->Prop) (w:World) (hS:∀ b,S b->b<w.heap.size) (l0 l1 l2 d:LL) (x y z v3:Value) (h0:Rd S w x (.sl 1 l0)) (h1:Rd S w y (.sl 1 l1)) (h2:Rd S w z (.sl 5 l2)) (h3:Rd S w v3 (.sl 6 d)) (bj:Pg N l0 l1 l2 d=true)
  (hL:∀ w':World,(∀ b,S b->b<w'.heap.size)->Rd S w' x (.sl 1 l0)->Rd S w' y (.sl 1 l1)->Rd S w' z (.sl 5 l2)->Rd S w' v3 (.sl 6 d)->Calls Tryz.prog 211 #[.agg #[x,y,z,v3]] w' fun e b3=>e = .returned (.int .i64 0)/\Below w'.heap.size w' b3) :
  Calls Tryz.prog 166 #[.agg #[x,y,z,v3]] w fun e w'=>e = .returned (.int .i64 0)/\Below w.heap.size w w':=by
 simp only [Pg,Qka,Bool.not_eq_true'] at bj;obtain ⟨⟨⟨⟨⟨⟨⟨⟨m0,m1⟩,m2⟩,m3⟩,m4⟩,n0⟩,n1⟩,ns⟩,nl⟩:=bj;have m0:=Qk9 m0;have m1:=Qk9 m1;have m2:=Qk9 m2;have m3:=Qk9 m3;have m4:l2.length≠0:=fun e=>by rw [e] at m4;cases m4
 obtain ⟨g,h,rfl⟩:=Gc h0;obtain ⟨m,n,rfl⟩:=Gc h1;obtain ⟨q,p,rfl⟩:=Gc h2;obtain ⟨r,t,rfl⟩:=Gc h3;have q0:¬ (24:Int)<(l0.length:Int):=by omega
 have q1:¬ (48:Int)<(l1.length:Int):=by omega
 have q2:¬ (96:Int)<(l2.length:Int):=by omega
 have q3:¬ (192:Int)<(d.length:Int):=by omega
 have q4:¬ ((l2.length:Int)=0):=by omega
 have a5:(w.alloc (.cells #[.slice g l0.length h,.slice m l1.length n,.slice q l2.length p,.slice r d.length t] 27)).heap[w.heap.size]? = some (.cells #[.slice g l0.length h,.slice m l1.length n,.slice q l2.length p,.slice r d.length t] 27 (0,0)):=heap_alloc_new w _;have aq:Below w.heap.size w (w.alloc (.cells #[.slice g l0.length h,.slice m l1.length n,.slice q l2.length p,.slice r d.length t] 27)):=Ub (Below.refl _ _) (Qkg _) _;have br:(w.alloc (.cells #[.slice g l0.length h,.slice m l1.length n,.slice q l2.length p,.slice r d.length t] 27)).heap.size=w.heap.size+1:=by simp
 have cr:∀ w:World,(Instr.makeMap 288 none).run Tryz.prog w = .ok (.map (some w.heap.size)) (w.alloc (.map #[] 0)):=fun w=>run_makeMap 288 w
 go_enter Tryz.func166,Tryz.ntmps166
 go_wp2
 generalize w.alloc (.cells #[.slice g l0.length h,.slice m l1.length n,.slice q l2.length p,.slice r d.length t] 27)=w1 at *
 go_loopw [40] (fun i wr=>∃ k:Nat,k<=2/\i = .int .i64 k/\Below (w.heap.size+1) w1 wr)
  (fun i _=>2-(intOf i).toNat)
 case atStart=>exact ⟨0,by omega,rfl,Below.refl _ _⟩
 case round=>
  obtain ⟨k,hk,rfl,hF⟩:=hrel;by_cases b0:k<2
  ·have cf:((k:Int)<2):=by omega
   obtain ⟨ad,l,cap,ce,hv,hl,hm⟩:∃ (ad:Option Addr) (l:LL) (cap:Nat),(∀ w:World,(Instr.index 287 (.agg #[.slice g l0.length h,.slice m l1.length n]) (.int .i64 k)).run Tryz.prog w = .ok (.slice ad l.length cap) w)/\Rd S w (.slice ad l.length cap) (.sl 1 l)/\TU N [] l=true/\l.length<=48:=by
    obtain rfl | rfl:k=0\/k=1:=by omega
    ·exact ⟨g,l0,h,fun _=>rfl,h0,n0,by omega⟩
    ·exact ⟨m,l1,n,fun _=>rfl,h1,n1,by omega⟩
   have ah:w.heap.size+1<=wr.heap.size:=by have:=hF.size;omega
   have hM:=Q1Q.made Tryz.prog wr;have a7:=Ub hF (by omega) (.map #[] 0)
   go_wp2
   generalize wr.alloc (.map #[] 0)=w2 at *
   generalize wr.heap.size=b at *
   clear hF
   go_loopw [46] (fun i wr=>∃ (j:Nat) (ak:List (List UInt8)),j<=l.length/\i = .int .i64 j/\Q1Q wr Tryz.prog b j ak/\TU N ak (l.drop j)=true/\Below (w.heap.size+1) w1 wr)
    (fun i _=>l.length-(intOf i).toNat)
   case atStart=>exact ⟨0,[],by omega,rfl,hM,hl,a7⟩
   case round=>
    obtain ⟨j,ak,hj,rfl,a3,bc,ao⟩:=hrel;by_cases az:j<l.length
    ·have bm:((j:Int)<(l.length:Int)):=by omega
     obtain ⟨s,a4,hN,ax⟩:=Q0D az bc;have a8:=Rd.keep (w':=wr) hv hS fun c hc=>(ao.block c (by omega)).trans (aq.block c hc)
     obtain ⟨a,rfl,_,_,aj⟩:=Q68 a8 a4;obtain ⟨u,hc,hu⟩:=aj 0 _ rfl;rw [Qb3 hu,Nat.mul_one,Nat.add_zero] at hc
     go_wp2_with (go_at_call 209;refine (Tryz.checkName_calls wr b j ak s a3 (by omega) hN).mono ?_)
     rintro e f ⟨rfl,bb,v⟩;have ay:=Bw ao (by omega) ah v
     go_wp2
     go_roundw
     all_goals first
      |exact ⟨j+1,s::ak,az,by go_num,bb,ax,ay⟩
      |(simp [intOf];omega)
    ·go_wp2
     go_roundw
     all_goals first
      |exact ⟨k+1,b0,by go_num,ao⟩
      |(simp [intOf];omega)
  ·skip
   have ah:w.heap.size+1<=wr.heap.size:=by have:=hF.size;omega
   have hM:=Q1Q.made Tryz.prog wr;have a7:=Ub hF (by omega) (.map #[] 0);have an:=(a7.block _ (Nat.lt_succ_self _)).trans a5;have c2:(wr.alloc (.map #[] 0)).cell? ⟨w.heap.size,2,none⟩=some (.slice q l2.length p):=by rw [Qk3 an];rfl
   go_wp2
   clear an c2;generalize wr.alloc (.map #[] 0)=w2 at *
   generalize wr.heap.size=b at *
   go_loopw [62] (fun i wr=>∃ (j:Nat) (ak:List (List UInt8)),j<=l2.length/\i = .int .i64 j/\Q1Q wr Tryz.prog b j ak/\Pf N l0 l1 l2 d ak (l2.drop j)=true/\Below (w.heap.size+1) w1 wr)
    (fun i _=>l2.length-(intOf i).toNat)
   case atStart=>exact ⟨0,[],by omega,rfl,hM,ns,a7⟩
   case round=>
    obtain ⟨j,ak,hj,rfl,a3,bc,ao⟩:=hrel;by_cases az:j<l2.length
    ·have bm:((j:Int)<(l2.length:Int)):=by omega
     obtain ⟨s,sa,sb,sc,sd,a4,hN,bn,ax⟩:=Q2U az bc;have bz:∀ c,c<w.heap.size->wr.heap[c]? = w.heap[c]?:=fun c hc=>(ao.block c (by omega)).trans (aq.block c hc)
     have a8:=Rd.keep (w':=wr) h2 hS bz;obtain ⟨a,rfl,_,_,aj⟩:=Q68 a8 a4;obtain ⟨u0,x0,y0⟩:=aj 0 _ rfl;obtain ⟨u1,x1,y1⟩:=aj 1 _ rfl;obtain ⟨cp,x2,y2⟩:=aj 2 _ rfl;obtain ⟨c7,x3,y3⟩:=aj 3 _ rfl;obtain ⟨c3,x4,y4⟩:=aj 4 _ rfl;rw [Qb3 y0,Nat.add_zero] at x0;rw [GV y1,J7 _ _ _ (by decide)] at x1;rw [GV y2,J7 _ _ _ (by decide)] at x2;rw [GV y3,J7 _ _ _ (by decide)] at x3;rw [GV y4,J7 _ _ _ (by decide)] at x4;clear aj y0 y1 y2 y3 y4 a8;have ar:wr.grownBy (wr.alloc (.cells #[.string ⟨⟨s⟩⟩,.int .i64 sa,.int .i64 sb,.int .i64 sc,.int .i64 sd] 49)) none:=World.grownBy_alloc wr _ none;have bi:=Ub ao (by omega) (.cells #[.string ⟨⟨s⟩⟩,.int .i64 sa,.int .i64 sb,.int .i64 sc,.int .i64 sd] 49);have bl:=a3.kept ar (by simp);have au:(wr.alloc (.cells #[.string ⟨⟨s⟩⟩,.int .i64 sa,.int .i64 sb,.int .i64 sc,.int .i64 sd] 49)).heap[wr.heap.size]? = some (.cells #[.string ⟨⟨s⟩⟩,.int .i64 sa,.int .i64 sb,.int .i64 sc,.int .i64 sd] 49 (0,0)):=heap_alloc_new wr _;have cz:b<wr.heap.size:=a3.lt;have bv:w.heap.size+1<=wr.heap.size:=by have:=ao.size;omega
     go_wp2_with (go_at_call 209;refine (Tryz.checkName_calls (wr.alloc (.cells #[.string ⟨⟨s⟩⟩,.int .i64 sa,.int .i64 sb,.int .i64 sc,.int .i64 sd] 49)) b j ak s bl (by omega) hN).mono ?_)
     rintro e f ⟨rfl,bb,v⟩;have ay:=Bw bi (by omega) ah v;have an:=(ay.block _ (Nat.lt_succ_self _)).trans a5;have a2:=(v.block wr.heap.size (by simp) (by simp;omega)).trans au;clear bi bl au ar v a3 ao;have z0:f.cell? ⟨w.heap.size,0,none⟩=some (.slice g l0.length h):=by rw [Qk3 an];rfl
     have z1:f.cell? ⟨w.heap.size,1,none⟩=some (.slice m l1.length n):=by rw [Qk3 an];rfl
     have z2:f.cell? ⟨w.heap.size,2,none⟩=some (.slice (some a) l2.length p):=by rw [Qk3 an];rfl
     have z3:f.cell? ⟨w.heap.size,3,none⟩=some (.slice r d.length t):=by rw [Qk3 an];rfl
     have y0:f.cell? ⟨wr.heap.size,0,none⟩=some (.string ⟨⟨s⟩⟩):=by rw [Qk3 a2];rfl
     have y1:f.cell? ⟨wr.heap.size,1,none⟩=some (.int .i64 sa):=by rw [Qk3 a2];rfl
     have y2:f.cell? ⟨wr.heap.size,2,none⟩=some (.int .i64 sb):=by rw [Qk3 a2];rfl
     have y3:f.cell? ⟨wr.heap.size,3,none⟩=some (.int .i64 sc):=by rw [Qk3 a2];rfl
     have y4:f.cell? ⟨wr.heap.size,4,none⟩=some (.int .i64 sd):=by rw [Qk3 a2];rfl
     have o:∀ c,c<w.heap.size->f.heap[c]? = w.heap[c]?:=fun c hc=>(ay.block c (by omega)).trans (aq.block c hc)
     have a9:∀ c,S c->c<f.heap.size:=fun c hc=>by have:=hS c hc;have:=ay.size;omega
     have g0:=Rd.keep h0 hS o;have g1:=Rd.keep h1 hS o;have g2:=Rd.keep h2 hS o;have g3:=Rd.keep h3 hS o
     go_wp2_with (go_at_call 210;refine (Q6w bn a9 g0 g1 g2 g3).mono ?_)
     rintro e w4 ⟨rfl,a6⟩;have bp:=bb.kept (Wd a6) (by simp);have aw:=Ux ay (by omega) a6
     go_wp2
     go_roundw
     all_goals first
      |exact ⟨j+1,s::ak,az,by go_num,bp,ax,aw⟩
      |(simp [intOf];omega)
    ·have an:=(ao.block _ (Nat.lt_succ_self _)).trans a5;have z0:wr.cell? ⟨w.heap.size,0,none⟩=some (.slice g l0.length h):=by rw [Qk3 an];rfl
     have z1:wr.cell? ⟨w.heap.size,1,none⟩=some (.slice m l1.length n):=by rw [Qk3 an];rfl
     have z2:wr.cell? ⟨w.heap.size,2,none⟩=some (.slice q l2.length p):=by rw [Qk3 an];rfl
     have z3:wr.cell? ⟨w.heap.size,3,none⟩=some (.slice r d.length t):=by rw [Qk3 an];rfl
     have o:∀ c,c<w.heap.size->wr.heap[c]? = w.heap[c]?:=fun c hc=>(ao.block c (by omega)).trans (aq.block c hc)
     have a9:∀ c,S c->c<wr.heap.size:=fun c hc=>by have:=hS c hc;have:=ao.size;omega
     have ba:=hL wr a9 (Rd.keep h0 hS o) (Rd.keep h1 hS o) (Rd.keep h2 hS o) (Rd.keep h3 hS o)
     go_wp2_with (go_at_call 211;refine ba.mono ?_)
     rintro e w4 ⟨rfl,a6⟩;have aw:=Ux ao (by omega) a6
     go_wp2
     refine bodyPost_ret (results_tmp rfl _ _ _) rfl ?_;exact ⟨rfl,aw.os.trans aq.os,aw.tape.trans aq.tape,aw.output.trans aq.output,by have:=aw.size;omega,fun c hc=>(aw.block c (by omega)).trans (aq.block c hc)⟩
end Go.Vx
set_option maxRecDepth 100000
namespace Go.Vx
open Go.Proofs
variable (n:Nat)
def HW:EZ9 237:=mkD (Xa [] []).ok nT 237 Tryz.f237 0 @L0 n
def R4:BZ9:=Xa [⟨237,HW n⟩] []
def DC:LZ9:=mkU (R4 n).ok nT 2 Tryz.f239 [(4,.ptr 4 0),(5,.ptr 5 0),(11,.l 6),(12,tI),(13,tI)] [(4,.box [tI,tI]),(5,.box [tI,tI])] 1102 [.f .ret [(6,.cb true)] [] [],xE 0 [(14,.b)]] @Hg n
def RR:EZ9 239:=mkD (R4 n).ok [DC n n] 239 Tryz.f239 0 @Gt n
def Fu:EZ9 240:=mkD (Xa [] []).ok nT 240 Tryz.f240 0 @JO n
def Hy:EZ9 236:=mkD (Xa [] []).ok nT 236 Tryz.f236 0 @Yc n
end Go.Vx
namespace Go.Vx
variable {R:Type}
def Hm (n:Nat) (a b:Int) (K:Int->oP R):oP R:= K (wJ ((wJ (2*a))+b))
end Go.Vx
set_option maxRecDepth 100000
namespace Go.Vx
open Go.Proofs
variable (n:Nat)
def TQ:EZ9 238:=mkD (Xa [] []).ok nT 238 Tryz.f238 0 @Hm n
end Go.Vx
namespace Go.Vx
open Go.Proofs Go.RowKit
theorem Q6Y {w w':World} {a:Addr} {u:Value} (hB:Below w.heap.size w w') (h:w.cell? a=some u):w'.cell? a=some u:=by
 rw [World.cell?_of_block (hB.block a.block (World.block_lt_of_cell? w a h))];exact h
theorem NM (w:World):Below w.heap.size w w.drew:=⟨rfl,rfl,rfl,Qkg _,fun _ _=>rfl⟩
theorem NG {w w1 a:World} (h:Below w.heap.size w w1) (h2:Below w1.heap.size w1 a):Below w.heap.size w a:=Ux h (Qkg _) h2
theorem Q5O {β:Nat->Option Nat} {S:Nat->Prop} {h:Nat->Option Ob} {w:World} {tm:Nat->Value} {v:Value} {k:IntKind} {n:Int} (h:RdA β S h w tm v (.d (.int k n))):v = .int k n:=by
 cases h with
 |d _ _ q=>exact GV q
 |dang _ _ _ hl=>cases hl
theorem Q7k {β:Nat->Option Nat} {S:Nat->Prop} {h:Nat->Option Ob} {w:World} {tm:Nat->Value} {v:Value} {k k':IntKind} {n m:Int} (h:RdA β S h w tm v (.ag [.d (.int k n),.d (.int k' m)])):v = .agg #[.int k n,.int k' m]:=by
 cases h with
 |ag cs l hl hr=>
  have c:=Q5O (hr 0 _ rfl);have d:=Q5O (hr 1 _ rfl);obtain ⟨l⟩:=cs
  match l,hl with
  |[a,b],_=>
   simp at c d;rw [c,d]
 |dang _ _ _ hl=>cases hl
theorem Tryz.index_calls (w:World) (a b:Int) (a0:0<=a) (a1:a<1000) (b0:0<=b) (b1:b<=1) :
  Calls Tryz.prog 238 #[.agg #[.int .i64 a,.int .i64 b]] w fun e w'=>e = .returned (.int .i64 (2*a+b))/\Below w.heap.size w w':=by
 have e1:IntKind.i64.wrap (2*a)=2*a:=by rw [IntKind.wrap_i64];omega
 have e2:IntKind.i64.wrap (2*a+b)=2*a+b:=by rw [IntKind.wrap_i64];omega
 have hp:Hm 0 a b some=some (2*a+b):=by
  show some (IntKind.i64.wrap (IntKind.i64.wrap (2*a)+b))=_;rw [e1,e2]
 have he:(TQ 0).E Dl 0 true [.ag ([D.int .i64 a,D.int .i64 b].map .d)] (fun _=>none) some=some ⟨.d (D.int .i64 (2*a+b)),[],[]⟩:=by
  show gb true (Hm 0 a b some) 0 (fun r=>(some ⟨.d (D.int .i64 r),[],[]⟩:Option Dl))=_;rw [hp];rfl
 exact Gz (S:=fun _=>False) (XR ((TQ 0).ok) he) (fun _ h=>h.elim) (Q7U (RdLs.agg (.cons (.int _ _) (.cons (.int _ _) .nil))))
set_option maxHeartbeats 4000000 in
theorem Tryz.ends_calls (w:World) (a ae b be p q:Int) :
  Calls Tryz.prog 237 #[.agg #[.int .i64 a,.int .i64 ae,.int .i64 b,.int .i64 be,.int .i64 p,.int .i64 q]] w fun e w'=>e = .returned (.tuple #[.agg #[.int .i64 a,.int .i64 ae],.agg #[.int .i64 b,.int .i64 be]])/\Below w.heap.size w w':=by
 have he:(HW 0).E Dl 0 true [.ag ([D.int .i64 a,D.int .i64 ae,D.int .i64 b,D.int .i64 be,D.int .i64 p,D.int .i64 q].map .d)] (fun _=>none) some=some ⟨.tup [.ag ([D.int .i64 a,D.int .i64 ae].map .d),.ag ([D.int .i64 b,D.int .i64 be].map .d)],[],[]⟩:=rfl;refine (Cj (S:=fun _=>False) (XR ((HW 0).ok) he) (fun _ h=>h.elim) (Q7U (RdLs.agg (.cons (.int _ _) (.cons (.int _ _) (.cons (.int _ _) (.cons (.int _ _) (.cons (.int _ _) (.cons (.int _ _) .nil))))))))).mono fun e w' ⟨v,S',f,h2,g⟩=>⟨?_,g⟩
 rw [f];cases h2 with
 |tup cs l hl hr=>
  have c:=Q7k (hr 0 _ rfl);have d:=Q7k (hr 1 _ rfl);obtain ⟨l⟩:=cs
  match l,hl with
  |[a,b],_=>
   simp at c d;rw [c,d]
 |dang v av l hl=>cases hl
theorem Gf {e1 e2 k:Nat} {w w':World} {B:Nat} {v:Value} {hd:List Value} {ll:List LL} (h:NestK e1 e2 k w B v hd ll) (hg:w.grownBy w' none):NestK e1 e2 k w' B v hd ll:=
 h.kept hg (Classical.em _) (fun x _=>Classical.em _)
structure Grew (w w':World) (vb:Nat) (x x':Value):Prop where
 own:∀ b,x'.ownBlock=some b->x.ownBlock=some b\/w.heap.size<=b
 os:w'.os=w.os
 tape:w'.tape=w.tape
 output:w'.output=w.output
 size:w.heap.size<=w'.heap.size
 block:∀ b,b<w.heap.size->b≠vb->x.ownBlock≠some b->w'.heap[b]? = w.heap[b]?
theorem Q3b {w W1 W2:World} {B vb N i n g c:Nat} {x:Value} {hd:List Value} {ll:List LL} {l:LL} {row:List D} (hN:NestK 25 186 6 w B (.slice (some ⟨vb,0,none⟩) N N) hd ll) (hx:hd[i]? = some x) (hl:ll[i]? = some l) (hn:n=l.length)
  (a:w.grownBy W1 none) (ak:W2.ownsRow B 186 6 (.slice (some ⟨g,0,none⟩) (n+1) c) (n+1) (cellsOf l++row.map dV)) (aj:W1.grownBy W2 x.ownBlock) (hat:x.ownBlock=some g\/g=W1.heap.size) :
  NestK 25 186 6 (W2.setCell ⟨vb,i,none⟩ (.slice (some ⟨g,0,none⟩) (n+1) c)) B (.slice (some ⟨vb,0,none⟩) N N) (hd.set i (.slice (some ⟨g,0,none⟩) (n+1) c)) (ll.set i (l++[row])) /\
   Grew w (W2.setCell ⟨vb,i,none⟩ (.slice (some ⟨g,0,none⟩) (n+1) c)) vb x (.slice (some ⟨g,0,none⟩) (n+1) c):=by
 subst hn;have d:=Gf hN a;have s1:=a.size;have s2:=aj.size;refine ⟨d.grow hx hl ak aj rfl hat rfl rfl,⟨fun b hb=>?_,?_,?_,?_,?_,fun b hb h2 f=>?_⟩⟩
 ·simp only [Value.ownBlock,Option.some.injEq] at hb;subst hb;rcases hat with h | h
  ·exact .inl h
  ·exact .inr (by omega)
 ·exact aj.os.trans a.os
 ·exact aj.tape.trans a.tape
 ·exact aj.output.trans a.output
 ·simp;omega
 ·rw [heap_setCell_other _ _ _ _ (fun e=>h2 e)];rw [aj.block b (by omega) (fun e=>f e.symm),a.block b hb (by simp)]
noncomputable def QbS:Code:=(Gi (Tryz.f211.body.getD .skip)).getD 8 .skip
set_option maxHeartbeats 8000000 in
set_option maxRecDepth 100000 in
theorem Tryz.links_r8 (f g u2 h i u8 u9 j k l m n o p q r s t u v x y z aa ab ac ad ag cf cg ch ci cj ck cm cn ah ai aj ak al am an ao ap aq ar au av aw ax ay az ba bb bc bd bg bh bi bj a2 bk bl bm bn bo bp bq br bt bu bv bx bz ca cb:Value) (vb N c d:Nat) (a ae b be:Int) (w:World) (c0:w.cell? ⟨c,0,none⟩=some (.int .i64 a)) (c1:w.cell? ⟨c,1,none⟩=some (.int .i64 ae)) (d0:w.cell? ⟨d,0,none⟩=some (.int .i64 b)) (d1:w.cell? ⟨d,1,none⟩=some (.int .i64 be)) (a0:0<=a) (a1:a<1000) (e0:0<=ae) (e1:ae<=1) (b0:0<=b) (b1:b<1000) (f0:0<=be) (f1:be<=1) (h1:2*a+ae<(N:Int)) (h2:2*b+be<(N:Int)) :
  Code.wp Tryz.prog QbS (Q5x fun act w'=>∃ (co cp cq cr cs ct cu cv:Value) ,act=⟨(f::g::u2::.slice (some ⟨vb,0,none⟩) N N::h::i::.pointer (some ⟨c,0,none⟩)::.pointer (some ⟨d,0,none⟩)::.pointer (some ⟨vb,(2*a+ae).toNat,none⟩)::.pointer (some ⟨vb,(2*b+be).toNat,none⟩)::j::k::l::m::n::o::p::q::r::s::t::u::v::x::y::z::aa::ab::ac::ad::ag::co::cp::cq::cr::cs::ct::cu::cv::ah::ai::aj::ak::al::am::an::ao::ap::aq::ar::au::av::aw::ax::ay::az::ba::bb::bc::bd::bg::bh::bi::bj::a2::bk::bl::bm::bn::bo::bp::bq::br::bt::bu::bv::bx::bz::ca::cb::[]).toArray,[]⟩/\Below w.heap.size w w') ⟨(f::g::u2::.slice (some ⟨vb,0,none⟩) N N::h::i::.pointer (some ⟨c,0,none⟩)::.pointer (some ⟨d,0,none⟩)::u8::u9::j::k::l::m::n::o::p::q::r::s::t::u::v::x::y::z::aa::ab::ac::ad::ag::cf::cg::ch::ci::cj::ck::cm::cn::ah::ai::aj::ak::al::am::an::ao::ap::aq::ar::au::av::aw::ax::ay::az::ba::bb::bc::bd::bg::bh::bi::bj::a2::bk::bl::bm::bn::bo::bp::bq::br::bt::bu::bv::bx::bz::ca::cb::[]).toArray,[]⟩ w:=by
 conv=>arg 2;whnf
 have mixed:Tryz.prog.follows .mixedOrders=true:=by kernel_rfl
 have y0:w.drew.cell? ⟨c,0,none⟩=some (.int .i64 a):=c0;have y1:w.drew.cell? ⟨c,1,none⟩=some (.int .i64 ae):=c1;have y2:w.drew.cell? ⟨d,0,none⟩=some (.int .i64 b):=d0;have y3:w.drew.cell? ⟨d,1,none⟩=some (.int .i64 be):=d1;have g1:0<=2*a+ae:=by omega
 have g2:0<=2*b+be:=by omega
 clear c0 c1 d0 d1
 go_region_held3 (fun w'=>w'.cell? ⟨c,0,none⟩=some (.int .i64 a)/\w'.cell? ⟨c,1,none⟩=some (.int .i64 ae)/\w'.cell? ⟨d,0,none⟩=some (.int .i64 b)/\w'.cell? ⟨d,1,none⟩=some (.int .i64 be))
  (first
   |exact ⟨y0,y1,y2,y3⟩
   |(refine ⟨?_,?_,?_,?_⟩ <;> (repeat (first | assumption | refine Q6Y (by assumption) ?_))))
  (first
   |(go_at_call 238;refine (Tryz.index_calls _ _ _ (by assumption) (by assumption) (by assumption) (by assumption)).mono ?_;rintro e W1 ⟨rfl,df⟩))
 all_goals
  dsimp only [Q5x];refine ⟨_,_,_,_,_,_,_,_,rfl,?_⟩
  repeat (first | exact NM _ | refine NG ?_ (by assumption))
noncomputable def Q9O:Code:=(Gi (Tryz.f211.body.getD .skip)).getD 11 .skip
set_option maxHeartbeats 8000000 in
set_option maxRecDepth 100000 in
theorem Tryz.links_r11 (f g u2 u3 h j k l m o p q r s t u v x y z aa ab ac ag ah ai aj ak al am an ao ap aq ar au av aw ax ay ci cj ck cm cn co cp az ba bb bc bd bg bh bi bj bk bl bm bn bo a2 bp bq br bt bu bv bx bz ca cb cc ce cf cg ch:Value) (vb i c d n cap:Nat) (ad:Option Addr) (a ae b be:Int) (w:World) (c0:w.cell? ⟨c,0,none⟩=some (.int .i64 a)) (c1:w.cell? ⟨c,1,none⟩=some (.int .i64 ae)) (d0:w.cell? ⟨d,0,none⟩=some (.int .i64 b)) (d1:w.cell? ⟨d,1,none⟩=some (.int .i64 be)) (cx:w.cell? ⟨vb,i,none⟩=some (.slice ad n cap))
  (hc:Calls Tryz.prog 239 #[.slice ad n cap,.agg #[.int .i64 a,.int .i64 ae],.agg #[.int .i64 b,.int .i64 be]] w.drew fun e w'=>e = .returned (.bool false)/\Below w.drew.heap.size w.drew w') :
  Code.wp Tryz.prog Q9O (Q5x fun act w'=>∃ (cq cr cs ct cu cv:Value) ,act=⟨(f::g::u2::u3::h::j::.pointer (some ⟨c,0,none⟩)::.pointer (some ⟨d,0,none⟩)::.pointer (some ⟨vb,i,none⟩)::k::l::m::o::p::q::r::s::t::u::v::x::y::z::aa::ab::ac::ag::ah::ai::aj::ak::al::am::an::ao::ap::aq::ar::au::av::aw::ax::ay::.bool false::cq::cr::cs::ct::cu::cv::az::ba::bb::bc::bd::bg::bh::bi::bj::bk::bl::bm::bn::bo::a2::bp::bq::br::bt::bu::bv::bx::bz::ca::cb::cc::ce::cf::cg::ch::[]).toArray,[]⟩/\Below w.heap.size w w') ⟨(f::g::u2::u3::h::j::.pointer (some ⟨c,0,none⟩)::.pointer (some ⟨d,0,none⟩)::.pointer (some ⟨vb,i,none⟩)::k::l::m::o::p::q::r::s::t::u::v::x::y::z::aa::ab::ac::ag::ah::ai::aj::ak::al::am::an::ao::ap::aq::ar::au::av::aw::ax::ay::ci::cj::ck::cm::cn::co::cp::az::ba::bb::bc::bd::bg::bh::bi::bj::bk::bl::bm::bn::bo::a2::bp::bq::br::bt::bu::bv::bx::bz::ca::cb::cc::ce::cf::cg::ch::[]).toArray,[]⟩ w:=by
 conv=>arg 2;whnf
 have mixed:Tryz.prog.follows .mixedOrders=true:=by kernel_rfl
 have y0:w.drew.cell? ⟨c,0,none⟩=some (.int .i64 a):=c0;have y1:w.drew.cell? ⟨c,1,none⟩=some (.int .i64 ae):=c1;have y2:w.drew.cell? ⟨d,0,none⟩=some (.int .i64 b):=d0;have y3:w.drew.cell? ⟨d,1,none⟩=some (.int .i64 be):=d1;have y4:w.drew.cell? ⟨vb,i,none⟩=some (.slice ad n cap):=cx;clear c0 c1 d0 d1 cx
 go_region_law (first
   |(go_simp;refine hc.mono ?_;rintro e W1 ⟨rfl,cw⟩))
 all_goals
  dsimp only [Q5x];refine ⟨_,_,_,_,_,_,rfl,?_⟩;exact NG (NM w) cw
noncomputable def Q9L:Code:=(Gi (Tryz.f211.body.getD .skip)).getD 13 .skip
set_option maxHeartbeats 8000000 in
set_option maxRecDepth 100000 in
theorem Tryz.links_r13 (d f u2 u3 g h j k l m o r s t u v x y z aa ab ac ag ah ai aj ak al am an ao ap aq ar au av aw ax ay az ba bb bc bd bg bh bi bj cp cq cr cs ct cu cv bk bl bm bn bo bp bq a2 br bt bu bv bx bz ca cb cc ce cf cg ch ci cj:Value) (vb i c n cap:Nat) (ad:Option Addr) (a ae b be p q:Int) (w:World) (c0:w.cell? ⟨c,0,none⟩=some (.int .i64 a)) (c1:w.cell? ⟨c,1,none⟩=some (.int .i64 ae)) (c2:w.cell? ⟨c,2,none⟩=some (.int .i64 b)) (c3:w.cell? ⟨c,3,none⟩=some (.int .i64 be)) (c4:w.cell? ⟨c,4,none⟩=some (.int .i64 p)) (c5:w.cell? ⟨c,5,none⟩=some (.int .i64 q)) (cx:w.cell? ⟨vb,i,none⟩=some (.slice ad n cap))
  (hc:Calls Tryz.prog 240 #[.agg #[.int .i64 a,.int .i64 ae,.int .i64 b,.int .i64 be,.int .i64 p,.int .i64 q],.slice ad n cap] w.drew fun e w'=>e = .returned (.bool true)/\Below w.drew.heap.size w.drew w') :
  Code.wp Tryz.prog Q9L (Q5x fun act w'=>∃ (cw cy cz da db dc:Value) ,act=⟨(d::f::u2::u3::g::.pointer (some ⟨c,0,none⟩)::h::j::.pointer (some ⟨vb,i,none⟩)::k::l::m::o::r::s::t::u::v::x::y::z::aa::ab::ac::ag::ah::ai::aj::ak::al::am::an::ao::ap::aq::ar::au::av::aw::ax::ay::az::ba::bb::bc::bd::bg::bh::bi::bj::.bool false::cw::cy::cz::da::db::dc::bk::bl::bm::bn::bo::bp::bq::a2::br::bt::bu::bv::bx::bz::ca::cb::cc::ce::cf::cg::ch::ci::cj::[]).toArray,[]⟩/\Below w.heap.size w w') ⟨(d::f::u2::u3::g::.pointer (some ⟨c,0,none⟩)::h::j::.pointer (some ⟨vb,i,none⟩)::k::l::m::o::r::s::t::u::v::x::y::z::aa::ab::ac::ag::ah::ai::aj::ak::al::am::an::ao::ap::aq::ar::au::av::aw::ax::ay::az::ba::bb::bc::bd::bg::bh::bi::bj::cp::cq::cr::cs::ct::cu::cv::bk::bl::bm::bn::bo::bp::bq::a2::br::bt::bu::bv::bx::bz::ca::cb::cc::ce::cf::cg::ch::ci::cj::[]).toArray,[]⟩ w:=by
 conv=>arg 2;whnf
 have mixed:Tryz.prog.follows .mixedOrders=true:=by kernel_rfl
 have y0:w.drew.cell? ⟨c,0,none⟩=some (.int .i64 a):=c0;have y1:w.drew.cell? ⟨c,1,none⟩=some (.int .i64 ae):=c1;have y2:w.drew.cell? ⟨c,2,none⟩=some (.int .i64 b):=c2;have y3:w.drew.cell? ⟨c,3,none⟩=some (.int .i64 be):=c3;have y5:w.drew.cell? ⟨c,4,none⟩=some (.int .i64 p):=c4;have y6:w.drew.cell? ⟨c,5,none⟩=some (.int .i64 q):=c5;have y4:w.drew.cell? ⟨vb,i,none⟩=some (.slice ad n cap):=cx;clear c0 c1 c2 c3 c4 c5 cx
 go_region_law (first
   |(go_simp;refine hc.mono ?_;rintro e W1 ⟨rfl,dd⟩))
 all_goals
  dsimp only [Q5x];refine ⟨_,_,_,_,_,_,rfl,?_⟩;exact NG (NM w) dd
noncomputable def Q9N:Code:=(Gi (Tryz.f211.body.getD .skip)).getD 14 .skip
set_option maxHeartbeats 8000000 in
set_option maxRecDepth 100000 in
theorem Tryz.links_r14 (d f u2 u3 g h j k l m o r s t u v x y z aa ab ac ag ah ai aj ak al am an ao ap aq ar au av aw ax ay az ba bb bc bd bg bh bi bj cp bk bl bm bn bo bp cq cr cs ct cu cv bq a2 br bt bu bv bx bz ca cb cc ce cf cg ch ci cj:Value) (vb i c n cap:Nat) (ad:Option Addr) (a ae b be p q:Int) (w:World) (c0:w.cell? ⟨c,0,none⟩=some (.int .i64 a)) (c1:w.cell? ⟨c,1,none⟩=some (.int .i64 ae)) (c2:w.cell? ⟨c,2,none⟩=some (.int .i64 b)) (c3:w.cell? ⟨c,3,none⟩=some (.int .i64 be)) (c4:w.cell? ⟨c,4,none⟩=some (.int .i64 p)) (c5:w.cell? ⟨c,5,none⟩=some (.int .i64 q)) (cx:w.cell? ⟨vb,i,none⟩=some (.slice ad n cap))
  (hc:Calls Tryz.prog 240 #[.agg #[.int .i64 a,.int .i64 ae,.int .i64 b,.int .i64 be,.int .i64 p,.int .i64 q],.slice ad n cap] w.drew fun e w'=>e = .returned (.bool true)/\Below w.drew.heap.size w.drew w') :
  Code.wp Tryz.prog Q9N (Q5x fun act w'=>∃ (cw cy cz da db dc:Value) ,act=⟨(d::f::u2::u3::g::.pointer (some ⟨c,0,none⟩)::h::j::k::.pointer (some ⟨vb,i,none⟩)::l::m::o::r::s::t::u::v::x::y::z::aa::ab::ac::ag::ah::ai::aj::ak::al::am::an::ao::ap::aq::ar::au::av::aw::ax::ay::az::ba::bb::bc::bd::bg::bh::bi::bj::.bool false::bk::bl::bm::bn::bo::bp::cw::cy::cz::da::db::dc::bq::a2::br::bt::bu::bv::bx::bz::ca::cb::cc::ce::cf::cg::ch::ci::cj::[]).toArray,[]⟩/\Below w.heap.size w w') ⟨(d::f::u2::u3::g::.pointer (some ⟨c,0,none⟩)::h::j::k::.pointer (some ⟨vb,i,none⟩)::l::m::o::r::s::t::u::v::x::y::z::aa::ab::ac::ag::ah::ai::aj::ak::al::am::an::ao::ap::aq::ar::au::av::aw::ax::ay::az::ba::bb::bc::bd::bg::bh::bi::bj::cp::bk::bl::bm::bn::bo::bp::cq::cr::cs::ct::cu::cv::bq::a2::br::bt::bu::bv::bx::bz::ca::cb::cc::ce::cf::cg::ch::ci::cj::[]).toArray,[]⟩ w:=by
 conv=>arg 2;whnf
 have mixed:Tryz.prog.follows .mixedOrders=true:=by kernel_rfl
 have y0:w.drew.cell? ⟨c,0,none⟩=some (.int .i64 a):=c0;have y1:w.drew.cell? ⟨c,1,none⟩=some (.int .i64 ae):=c1;have y2:w.drew.cell? ⟨c,2,none⟩=some (.int .i64 b):=c2;have y3:w.drew.cell? ⟨c,3,none⟩=some (.int .i64 be):=c3;have y5:w.drew.cell? ⟨c,4,none⟩=some (.int .i64 p):=c4;have y6:w.drew.cell? ⟨c,5,none⟩=some (.int .i64 q):=c5;have y4:w.drew.cell? ⟨vb,i,none⟩=some (.slice ad n cap):=cx;clear c0 c1 c2 c3 c4 c5 cx
 go_region_law (first
   |(go_simp;refine hc.mono ?_;rintro e W1 ⟨rfl,dd⟩))
 all_goals
  dsimp only [Q5x];refine ⟨_,_,_,_,_,_,rfl,?_⟩;exact NG (NM w) dd
noncomputable def Qai:Code:=(Gi (Tryz.f211.body.getD .skip)).getD 16 .skip
set_option maxHeartbeats 8000000 in
set_option maxRecDepth 100000 in
theorem Tryz.links_r16 (m n u2 u3 o r s t v x y z aa ab ac ag ah ai aj ak al am an ao ap aq ar au av aw ax ay az ba bb bc bd bg bh bi bj bk bl bm bn bo bp bq br bt bu bv bx bz ca cb cc ce cf cg ch ct b4 cu cv cw cx cy cz ci cj ck cm cn co cp cq cr:Value) (B vb N i c cap:Nat) (ad:Option Addr) (a ae b be p q:Int) (hd:List Value) (ll:List LL) (l:LL) (w:World) (c0:w.cell? ⟨c,0,none⟩=some (.int .i64 a)) (c1:w.cell? ⟨c,1,none⟩=some (.int .i64 ae)) (c2:w.cell? ⟨c,2,none⟩=some (.int .i64 b)) (c3:w.cell? ⟨c,3,none⟩=some (.int .i64 be)) (c4:w.cell? ⟨c,4,none⟩=some (.int .i64 p)) (c5:w.cell? ⟨c,5,none⟩=some (.int .i64 q))
  (hN:NestK 25 186 6 w B (.slice (some ⟨vb,0,none⟩) N N) hd ll) (hx:hd[i]? = some (.slice ad l.length cap)) (hl:ll[i]? = some l) (dz:l.length<=1000) (hB:B<=w.heap.size) (ea:c≠vb) (eb:(Value.slice ad l.length cap).ownBlock≠some c) :
  Code.wp Tryz.prog Qai (Q5x fun act w'=>∃ (dd de df dg dh di dj dk:Value) (xx:Value),act=⟨(m::n::u2::u3::o::.pointer (some ⟨c,0,none⟩)::r::s::.pointer (some ⟨vb,i,none⟩)::t::v::x::y::z::aa::ab::ac::ag::ah::ai::aj::ak::al::am::an::ao::ap::aq::ar::au::av::aw::ax::ay::az::ba::bb::bc::bd::bg::bh::bi::bj::bk::bl::bm::bn::bo::bp::bq::br::bt::bu::bv::bx::bz::ca::cb::cc::ce::cf::cg::ch::dd::de::df::dg::dh::di::dj::dk::ci::cj::ck::cm::cn::co::cp::cq::cr::[]).toArray,[]⟩/\NestK 25 186 6 w' B (.slice (some ⟨vb,0,none⟩) N N) (hd.set i xx) (ll.set i (l++[[D.int .i64 a,.int .i64 ae,.int .i64 b,.int .i64 be,.int .i64 p,.int .i64 q]]))/\Grew w w' vb (.slice ad l.length cap) xx) ⟨(m::n::u2::u3::o::.pointer (some ⟨c,0,none⟩)::r::s::.pointer (some ⟨vb,i,none⟩)::t::v::x::y::z::aa::ab::ac::ag::ah::ai::aj::ak::al::am::an::ao::ap::aq::ar::au::av::aw::ax::ay::az::ba::bb::bc::bd::bg::bh::bi::bj::bk::bl::bm::bn::bo::bp::bq::br::bt::bu::bv::bx::bz::ca::cb::cc::ce::cf::cg::ch::ct::b4::cu::cv::cw::cx::cy::cz::ci::cj::ck::cm::cn::co::cp::cq::cr::[]).toArray,[]⟩ w:=by
 conv=>arg 2;whnf
 have mixed:Tryz.prog.follows .mixedOrders=true:=by kernel_rfl
 obtain ⟨i0,hi,dn⟩:=Qkc.1 (show (Tryz.prog.info? 186).map (fun i=>(i.zero,i.size,i.bytes))=some (some (.agg #[.int .i64 0,.int .i64 0,.int .i64 0,.int .i64 0,.int .i64 0,.int .i64 0]),6,48) by kernel_rfl);obtain ⟨hz,f⟩:=Prod.mk.inj dn;obtain ⟨f,dp⟩:=Prod.mk.inj f;have a9:=(hN.row.lt vb rfl).2;have b3:=hN.each _ _ _ hx hl;have dq:w.cell? ⟨vb,i,none⟩=some (.slice ad l.length cap):=by
  have:=hN.row.cells (g:=vb) rfl i _ hx;rwa [KZ,Qkj] at this
 have a7:(Value.slice ad l.length cap).ownBlock≠some vb:=fun e=>hN.outer _ _ _ hx e rfl
 obtain ⟨a5,b0⟩:∃ a5,w.drew.heap[vb]? = some (.cells a5 25 (0,0)):=by
  rcases hN.row.2 with ⟨e,_⟩ | ⟨g,dc,a5,e,_,hg,_⟩
  ·cases e
  ·cases e;exact ⟨a5,hg⟩
 have q1:l.length+1<=maxLen:=by unfold maxLen;omega
 have q2:(l.length+1)*48<=140737488355328:=by omega
 have q3:∀ u∈[Value.int .i64 a,.int .i64 ae,.int .i64 b,.int .i64 be,.int .i64 p,.int .i64 q],u.oneCell'=true:=by simp [Value.oneCell']
 have y0:w.drew.cell? ⟨c,0,none⟩=some (.int .i64 a):=c0;have y1:w.drew.cell? ⟨c,1,none⟩=some (.int .i64 ae):=c1;have y2:w.drew.cell? ⟨c,2,none⟩=some (.int .i64 b):=c2;have y3:w.drew.cell? ⟨c,3,none⟩=some (.int .i64 be):=c3;have y5:w.drew.cell? ⟨c,4,none⟩=some (.int .i64 p):=c4;have y6:w.drew.cell? ⟨c,5,none⟩=some (.int .i64 q):=c5;have y4:w.drew.cell? ⟨vb,i,none⟩=some (.slice ad l.length cap):=dq;have d:w.drew.grownBy (w.drew.alloc (.cells #[.int .i64 a,.int .i64 ae,.int .i64 b,.int .i64 be,.int .i64 p,.int .i64 q] 186)) none:=World.grownBy_alloc _ _ none;have dw:w.drew.ownsRow B 186 6 (.slice ad l.length cap) l.length (cellsOf l):=b3;have dx:(w.drew.alloc (.cells #[.int .i64 a,.int .i64 ae,.int .i64 b,.int .i64 be,.int .i64 p,.int .i64 q] 186)).ownsRow B 186 6 (.slice ad l.length cap) l.length (cellsOf l):=World.ownsRow.kept (w:=w.drew) dw d (Classical.em _);have dy:∀ (j:Nat) (u:Value),[Value.int .i64 a,.int .i64 ae,.int .i64 b,.int .i64 be,.int .i64 p,.int .i64 q][j]? = some u->(w.drew.alloc (.cells #[.int .i64 a,.int .i64 ae,.int .i64 b,.int .i64 be,.int .i64 p,.int .i64 q] 186)).cell? ((⟨w.drew.heap.size,0,none⟩:Addr).add j)=some u:=World.news_of_block (heap_alloc_new _ _);have h:w.drew.heap.size<=(w.drew.alloc (.cells #[.int .i64 a,.int .i64 ae,.int .i64 b,.int .i64 be,.int .i64 p,.int .i64 q] 186)).heap.size:=d.size;have b1:B<=(w.drew.alloc (.cells #[.int .i64 a,.int .i64 ae,.int .i64 b,.int .i64 be,.int .i64 p,.int .i64 q] 186)).heap.size:=Nat.le_trans hB h;have a2:vb<w.drew.heap.size:=a9;have a6:=(d.block vb a2 (fun e=>by cases e)).trans b0;have k:=d.cell_far ⟨vb,i,none⟩ a2 (fun e=>by cases e);have k:=k.trans y4;have c8:(1:Nat)*6=6:=rfl
 go_region_law (first
   |(refine step_append_lies (w.drew.alloc (.cells #[.int .i64 a,.int .i64 ae,.int .i64 b,.int .i64 be,.int .i64 p,.int .i64 q] 186)) (by rfl) _ _ 25 (by rfl) B 186 i0 (.agg #[.int .i64 0,.int .i64 0,.int .i64 0,.int .i64 0,.int .i64 0,.int .i64 0]) 6 48 Tryz.underlying25 hi hz f dp (by rfl) (by decide) _ l.length (cellsOf l) (by rfl) dx ⟨w.drew.heap.size,0,none⟩ 1 1 [Value.int .i64 a,.int .i64 ae,.int .i64 b,.int .i64 be,.int .i64 p,.int .i64 q] (by rfl) rfl dy q3 (by decide) q1 q2 b1 _ rfl ?_;intro g c2 W2 a8 a4 hat e5;
     have rx:=(a4.cell_far ⟨vb,i,none⟩ (Qk8 a2 h) (fun e=>a7 e.symm)).trans k;
     have rf:=frozen_of_row W2 vb i a5 25 ((a4.block vb (Qk8 a2 h) (fun e=>a7 e.symm)).trans a6)))
 all_goals
  dsimp only [Q5x];have E:=Q3b (w:=w.drew) (row:=[D.int .i64 a,.int .i64 ae,.int .i64 b,.int .i64 be,.int .i64 p,.int .i64 q]) ⟨hN.row,hN.each,hN.outer,hN.apart⟩ hx hl rfl d a8 a4 hat;exact ⟨_,_,_,_,_,_,_,_,_,rfl,E.1,⟨E.2.own,E.2.os,E.2.tape,E.2.output,E.2.size,E.2.block⟩⟩
noncomputable def Qa9:Code:=(Gi (Tryz.f211.body.getD .skip)).getD 17 .skip
set_option maxHeartbeats 8000000 in
set_option maxRecDepth 100000 in
theorem Tryz.links_r17 (m n u2 u3 o r s t v x y z aa ab ac ag ah ai aj ak al am an ao ap aq ar au av aw ax ay az ba bb bc bd bg bh bi bj bk bl bm bn bo bp bq br bt bu bv bx bz ca cb cc ce cf cg ch ci b1 cj ck cm cn co cp cs ct cu cv cw cx cy cz cq:Value) (B vb N i c cap:Nat) (ad:Option Addr) (a ae b be p q:Int) (hd:List Value) (ll:List LL) (l:LL) (w:World) (c0:w.cell? ⟨c,0,none⟩=some (.int .i64 a)) (c1:w.cell? ⟨c,1,none⟩=some (.int .i64 ae)) (c2:w.cell? ⟨c,2,none⟩=some (.int .i64 b)) (c3:w.cell? ⟨c,3,none⟩=some (.int .i64 be)) (c4:w.cell? ⟨c,4,none⟩=some (.int .i64 p)) (c5:w.cell? ⟨c,5,none⟩=some (.int .i64 q))
  (hN:NestK 25 186 6 w B (.slice (some ⟨vb,0,none⟩) N N) hd ll) (hx:hd[i]? = some (.slice ad l.length cap)) (hl:ll[i]? = some l) (dz:l.length<=1000) (hB:B<=w.heap.size) (ea:c≠vb) (eb:(Value.slice ad l.length cap).ownBlock≠some c) :
  Code.wp Tryz.prog Qa9 (Q5x fun act w'=>∃ (dd de df dg dh di dj dk:Value) (xx:Value),act=⟨(m::n::u2::u3::o::.pointer (some ⟨c,0,none⟩)::r::s::t::.pointer (some ⟨vb,i,none⟩)::v::x::y::z::aa::ab::ac::ag::ah::ai::aj::ak::al::am::an::ao::ap::aq::ar::au::av::aw::ax::ay::az::ba::bb::bc::bd::bg::bh::bi::bj::bk::bl::bm::bn::bo::bp::bq::br::bt::bu::bv::bx::bz::ca::cb::cc::ce::cf::cg::ch::ci::b1::cj::ck::cm::cn::co::cp::dd::de::df::dg::dh::di::dj::dk::cq::[]).toArray,[]⟩/\NestK 25 186 6 w' B (.slice (some ⟨vb,0,none⟩) N N) (hd.set i xx) (ll.set i (l++[[D.int .i64 a,.int .i64 ae,.int .i64 b,.int .i64 be,.int .i64 p,.int .i64 q]]))/\Grew w w' vb (.slice ad l.length cap) xx) ⟨(m::n::u2::u3::o::.pointer (some ⟨c,0,none⟩)::r::s::t::.pointer (some ⟨vb,i,none⟩)::v::x::y::z::aa::ab::ac::ag::ah::ai::aj::ak::al::am::an::ao::ap::aq::ar::au::av::aw::ax::ay::az::ba::bb::bc::bd::bg::bh::bi::bj::bk::bl::bm::bn::bo::bp::bq::br::bt::bu::bv::bx::bz::ca::cb::cc::ce::cf::cg::ch::ci::b1::cj::ck::cm::cn::co::cp::cs::ct::cu::cv::cw::cx::cy::cz::cq::[]).toArray,[]⟩ w:=by
 conv=>arg 2;whnf
 have mixed:Tryz.prog.follows .mixedOrders=true:=by kernel_rfl
 obtain ⟨i0,hi,dn⟩:=Qkc.1 (show (Tryz.prog.info? 186).map (fun i=>(i.zero,i.size,i.bytes))=some (some (.agg #[.int .i64 0,.int .i64 0,.int .i64 0,.int .i64 0,.int .i64 0,.int .i64 0]),6,48) by kernel_rfl);obtain ⟨hz,f⟩:=Prod.mk.inj dn;obtain ⟨f,dp⟩:=Prod.mk.inj f;have a9:=(hN.row.lt vb rfl).2;have b4:=hN.each _ _ _ hx hl;have dq:w.cell? ⟨vb,i,none⟩=some (.slice ad l.length cap):=by
  have:=hN.row.cells (g:=vb) rfl i _ hx;rwa [KZ,Qkj] at this
 have a7:(Value.slice ad l.length cap).ownBlock≠some vb:=fun e=>hN.outer _ _ _ hx e rfl
 obtain ⟨a5,b0⟩:∃ a5,w.drew.heap[vb]? = some (.cells a5 25 (0,0)):=by
  rcases hN.row.2 with ⟨e,_⟩ | ⟨g,db,a5,e,_,hg,_⟩
  ·cases e
  ·cases e;exact ⟨a5,hg⟩
 have q1:l.length+1<=maxLen:=by unfold maxLen;omega
 have q2:(l.length+1)*48<=140737488355328:=by omega
 have q3:∀ u∈[Value.int .i64 a,.int .i64 ae,.int .i64 b,.int .i64 be,.int .i64 p,.int .i64 q],u.oneCell'=true:=by simp [Value.oneCell']
 have y0:w.drew.cell? ⟨c,0,none⟩=some (.int .i64 a):=c0;have y1:w.drew.cell? ⟨c,1,none⟩=some (.int .i64 ae):=c1;have y2:w.drew.cell? ⟨c,2,none⟩=some (.int .i64 b):=c2;have y3:w.drew.cell? ⟨c,3,none⟩=some (.int .i64 be):=c3;have y5:w.drew.cell? ⟨c,4,none⟩=some (.int .i64 p):=c4;have y6:w.drew.cell? ⟨c,5,none⟩=some (.int .i64 q):=c5;have y4:w.drew.cell? ⟨vb,i,none⟩=some (.slice ad l.length cap):=dq;have d:w.drew.grownBy (w.drew.alloc (.cells #[.int .i64 a,.int .i64 ae,.int .i64 b,.int .i64 be,.int .i64 p,.int .i64 q] 186)) none:=World.grownBy_alloc _ _ none;have dw:w.drew.ownsRow B 186 6 (.slice ad l.length cap) l.length (cellsOf l):=b4;have dx:(w.drew.alloc (.cells #[.int .i64 a,.int .i64 ae,.int .i64 b,.int .i64 be,.int .i64 p,.int .i64 q] 186)).ownsRow B 186 6 (.slice ad l.length cap) l.length (cellsOf l):=World.ownsRow.kept (w:=w.drew) dw d (Classical.em _);have dy:∀ (j:Nat) (u:Value),[Value.int .i64 a,.int .i64 ae,.int .i64 b,.int .i64 be,.int .i64 p,.int .i64 q][j]? = some u->(w.drew.alloc (.cells #[.int .i64 a,.int .i64 ae,.int .i64 b,.int .i64 be,.int .i64 p,.int .i64 q] 186)).cell? ((⟨w.drew.heap.size,0,none⟩:Addr).add j)=some u:=World.news_of_block (heap_alloc_new _ _);have h:w.drew.heap.size<=(w.drew.alloc (.cells #[.int .i64 a,.int .i64 ae,.int .i64 b,.int .i64 be,.int .i64 p,.int .i64 q] 186)).heap.size:=d.size;have b2:B<=(w.drew.alloc (.cells #[.int .i64 a,.int .i64 ae,.int .i64 b,.int .i64 be,.int .i64 p,.int .i64 q] 186)).heap.size:=Nat.le_trans hB h;have a2:vb<w.drew.heap.size:=a9;have a6:=(d.block vb a2 (fun e=>by cases e)).trans b0;have k:=d.cell_far ⟨vb,i,none⟩ a2 (fun e=>by cases e);have k:=k.trans y4;have c7:(1:Nat)*6=6:=rfl
 go_region_law (first
   |(refine step_append_lies (w.drew.alloc (.cells #[.int .i64 a,.int .i64 ae,.int .i64 b,.int .i64 be,.int .i64 p,.int .i64 q] 186)) (by rfl) _ _ 25 (by rfl) B 186 i0 (.agg #[.int .i64 0,.int .i64 0,.int .i64 0,.int .i64 0,.int .i64 0,.int .i64 0]) 6 48 Tryz.underlying25 hi hz f dp (by rfl) (by decide) _ l.length (cellsOf l) (by rfl) dx ⟨w.drew.heap.size,0,none⟩ 1 1 [Value.int .i64 a,.int .i64 ae,.int .i64 b,.int .i64 be,.int .i64 p,.int .i64 q] (by rfl) rfl dy q3 (by decide) q1 q2 b2 _ rfl ?_;intro g c2 W2 a8 a4 hat e3;
     have rx:=(a4.cell_far ⟨vb,i,none⟩ (Qk8 a2 h) (fun e=>a7 e.symm)).trans k;
     have rf:=frozen_of_row W2 vb i a5 25 ((a4.block vb (Qk8 a2 h) (fun e=>a7 e.symm)).trans a6)))
 all_goals
  dsimp only [Q5x];have E:=Q3b (w:=w.drew) (row:=[D.int .i64 a,.int .i64 ae,.int .i64 b,.int .i64 be,.int .i64 p,.int .i64 q]) ⟨hN.row,hN.each,hN.outer,hN.apart⟩ hx hl rfl d a8 a4 hat;exact ⟨_,_,_,_,_,_,_,_,_,rfl,E.1,⟨E.2.own,E.2.os,E.2.tape,E.2.output,E.2.size,E.2.block⟩⟩
end Go.Vx
namespace Go.Vx
open Go.Proofs Go.RowKit
theorem Q6M {N:Nat} {l0 l1 l2 c:LL} {a ae b be p q:Int} (h:Yc N l0 l1 l2 c a ae b be p q some=some true) {S:Nat->Prop} {w:World} (hS:∀ b,S b->b<w.heap.size) {d f g i:Value}
  (j:Rd S w d (.sl 1 l0)) (k:Rd S w f (.sl 1 l1)) (h2:Rd S w g (.sl 5 l2)) (l:Rd S w i (.sl 6 c)) :
  Calls Tryz.prog 236 #[.agg #[d,f,g,i],.agg #[.int .i64 a,.int .i64 ae,.int .i64 b,.int .i64 be,.int .i64 p,.int .i64 q]] w fun e w'=>e = .returned (.bool true)/\RowKit.Below w.heap.size w w':=by
 have he:(Hy N).E Dl 0 true [.ag ([D.sl 1 l0,.sl 1 l1,.sl 5 l2,.sl 6 c].map .d),.ag ([D.int .i64 a,.int .i64 ae,.int .i64 b,.int .i64 be,.int .i64 p,.int .i64 q].map .d)] (fun _=>none) some=some ⟨.d (.bool true),[],[]⟩:=by
  show gb true (Yc N l0 l1 l2 c a ae b be p q some) false (fun r=>(some ⟨.d (D.bool r),[],[]⟩:Option Dl))=_;rw [h];rfl
 exact Kf (XR ((Hy N).ok) he) hS (Kn (RdLs.agg (.cons j (.cons k (.cons h2 (.cons l .nil))))) (RdLs.agg (.cons (.int _ _) (.cons (.int _ _) (.cons (.int _ _) (.cons (.int _ _) (.cons (.int _ _) (.cons (.int _ _) .nil))))))))
theorem Q21 {N:Nat} {x:LL} {a ae b be:Int} (h:Gt N x a ae b be some=some false) {S:Nat->Prop} {w:World} (hS:∀ b,S b->b<w.heap.size) {v:Value} (hv:Rd S w v (.sl 6 x)) :
  Calls Tryz.prog 239 #[v,.agg #[.int .i64 a,.int .i64 ae],.agg #[.int .i64 b,.int .i64 be]] w fun e w'=>e = .returned (.bool false)/\RowKit.Below w.heap.size w w':=by
 have he:(RR N).E Dl 0 true [.d (.sl 6 x),.ag ([D.int .i64 a,.int .i64 ae].map .d),.ag ([D.int .i64 b,.int .i64 be].map .d)] (fun _=>none) some=some ⟨.d (.bool false),[],[]⟩:=by
  show gb true (Gt N x a ae b be some) false (fun r=>(some ⟨.d (D.bool r),[],[]⟩:Option Dl))=_;rw [h];rfl
 exact Kf (XR ((RR N).ok) he) hS (Q7S (.d _ _ hv) (RdLs.agg (.cons (.int _ _) (.cons (.int _ _) .nil))) (RdLs.agg (.cons (.int _ _) (.cons (.int _ _) .nil))))
theorem Q0g {N:Nat} {x:LL} {a ae b be p q:Int} (h:JO N a ae b be p q x some=some true) {S:Nat->Prop} {w:World} (hS:∀ b,S b->b<w.heap.size) {v:Value} (hv:Rd S w v (.sl 6 x)) :
  Calls Tryz.prog 240 #[.agg #[.int .i64 a,.int .i64 ae,.int .i64 b,.int .i64 be,.int .i64 p,.int .i64 q],v] w fun e w'=>e = .returned (.bool true)/\RowKit.Below w.heap.size w w':=by
 have he:(Fu N).E Dl 0 true [.ag ([D.int .i64 a,.int .i64 ae,.int .i64 b,.int .i64 be,.int .i64 p,.int .i64 q].map .d),.d (.sl 6 x)] (fun _=>none) some=some ⟨.d (.bool true),[],[]⟩:=by
  show gb true (JO N a ae b be p q x some) false (fun r=>(some ⟨.d (D.bool r),[],[]⟩:Option Dl))=_;rw [h];rfl
 exact Kf (XR ((Fu N).ok) he) hS (Kn (RdLs.agg (.cons (.int _ _) (.cons (.int _ _) (.cons (.int _ _) (.cons (.int _ _) (.cons (.int _ _) (.cons (.int _ _) .nil))))))) (.d _ _ hv))
theorem Q1b {N:Nat} {l0 l1 l2 d:LL} {st:List LL} {l:LL} {j:Nat} (hj:j<l.length) (h:KJ N l0 l1 l2 d st (l.drop j)=true) :
  ∃ a ae b be p q x y,l[j]? = some [D.int .i64 a,.int .i64 ae,.int .i64 b,.int .i64 be,.int .i64 p,.int .i64 q]/\((0<=a/\a<l2.length)/\(0<=ae/\ae<=1)/\(0<=b/\b<l2.length)/\(0<=be/\be<=1)) /\
   Yc N l0 l1 l2 d a ae b be p q some=some true/\(2*a+ae).toNat≠(2*b+be).toNat/\st[(2*a+ae).toNat]? = some x/\st[(2*b+be).toNat]? = some y /\
   Gt N x a ae b be some=some false/\JO N a ae b be p q x some=some true/\JO N a ae b be p q y some=some true/\x.length<=1/\y.length<=1 /\
   KJ N l0 l1 l2 d ((st.set (2*a+ae).toNat (x++[[D.int .i64 a,.int .i64 ae,.int .i64 b,.int .i64 be,.int .i64 p,.int .i64 q]])).set (2*b+be).toNat (y++[[D.int .i64 a,.int .i64 ae,.int .i64 b,.int .i64 be,.int .i64 p,.int .i64 q]])) (l.drop (j+1))=true:=by
 rw [List.drop_eq_getElem_cons hj] at h;unfold KJ at h;split at h
 ·rename_i a ae b be p q e;simp only [Qka,Bool.not_eq_true',decide_eq_true_eq] at h;obtain ⟨⟨⟨g1,f⟩,g⟩,c⟩:=h;split at c
  ·rename_i x y hx hy;simp only [Qka] at c;obtain ⟨⟨⟨⟨⟨k1,i⟩,k⟩,m⟩,n⟩,o⟩:=c;refine ⟨a,ae,b,be,p,q,x,y,by rw [Qkd hj,e],?_,Ni f,?_,hx,hy,Q8y k1,Ni i,Ni k,Qk9 m,Qk9 n,by rw [<- e];exact o⟩
   ·obtain ⟨⟨⟨⟨⟨⟨⟨r,s⟩,t⟩,u⟩,v⟩,z⟩,z7⟩,z8⟩:=g1;exact ⟨⟨r,s⟩,⟨t,u⟩,⟨v,z⟩,⟨z7,z8⟩⟩
   ·exact Nat.ne_of_beq_eq_false g
  ·cases c
 ·cases h
theorem Q6X {w w1:World} {B N vb:Nat} (h:w1.ownsRow B 25 1 (.slice (some ⟨vb,0,none⟩) N N) N (List.replicate N (.slice none 0 0))):NestK 25 186 6 w1 B (.slice (some ⟨vb,0,none⟩) N N) (List.replicate N (.slice none 0 0)) (List.replicate N []):=by
 refine ⟨by simpa using h,fun i x l hx hl=>?_,fun i x b hx hb=>?_,fun i j x y b hx hy aj ao=>?_⟩
 ·have e1:=Qk6 hx;have e2:=Qk6 hl;obtain ⟨_,rfl⟩:=Qkb.1 e1;obtain ⟨_,rfl⟩:=Qkb.1 e2;exact World.ownsRow_nil w1 B 186 6
 ·obtain ⟨_,rfl⟩:=Qkb.1 (Qk6 hx);cases hb
 ·obtain ⟨_,rfl⟩:=Qkb.1 (Qk6 hx);cases aj
theorem Q8w {w:World} {B i:Nat} {v:Value} {hd:List Value} {ll:List LL} {l:LL} (h:NestK 25 186 6 w B v hd ll) (hl:ll[i]? = some l):∃ (ad:Option Addr) (cap:Nat),hd[i]? = some (.slice ad l.length cap):=by
 have hi:i<hd.length:=by rw [h.len];exact (Qk4.1 hl).1
 have hx:=Qkd hi;rcases (h.each i hd[i] l hx hl).2 with ⟨e,a⟩ | ⟨g,cap,ak,e,_⟩
 ·exact ⟨none,0,by rw [hx,e,a]⟩
 ·exact ⟨some ⟨g,0,none⟩,cap,by rw [hx,e]⟩
theorem Q52 {w:World} {B i:Nat} {v x:Value} {hd:List Value} {ll:List LL} {l:LL} (h:NestK 25 186 6 w B v hd ll) (hx:hd[i]? = some x) (hl:ll[i]? = some l) (aj:∀ l∈ll,∀ r∈l,D7 6 r=true) :
  (∀ b,x.ownBlock=some b->b<w.drew.heap.size)/\Rd (fun b=>x.ownBlock=some b) w.drew x (.sl 6 l):=
 ⟨fun b hb=>(h.blk hx hb).2,Rd.mono (w:=w) (w':=w.drew) (fun _ h=>h) (fun _ _=>rfl) (QeN (w:=w) (h.each i x l hx hl) (aj l (Qk6 hl)) (fun _ h=>h))⟩
theorem B6 {w:World} {B vb N i:Nat} {x:Value} {hd:List Value} {ll:List LL} (h:NestK 25 186 6 w B (.slice (some ⟨vb,0,none⟩) N N) hd ll) (hx:hd[i]? = some x):w.cell? ⟨vb,i,none⟩=some x:=by
 have:=h.row.cells (g:=vb) rfl i _ hx;rwa [KZ,Qkj] at this
theorem Q7r {ll:List LL} {i:Nat} {x:LL} {row:List D} (h:∀ l∈ll,∀ r∈l,D7 6 r=true) (hx:ll[i]? = some x) (hr:D7 6 row=true):∀ l∈ll.set i (x++[row]),∀ r∈l,D7 6 r=true:=by
 intro l hl r aj;rcases List.mem_or_eq_of_mem_set hl with a | rfl
 ·exact h l a r aj
 ·rcases List.mem_append.1 aj with a | a
  ·exact h x (Qk6 hx) r a
  ·simp at a;subst a;exact hr
theorem AY {w0 w w':World} {n vb:Nat} {x x':Value} (h:Below n w0 w) (hg:Grew w w' vb x x') (hn:n<=w.heap.size) (hv:n<=vb) (hx:∀ c,x.ownBlock=some c->n<=c):Below n w0 w':=
 ⟨hg.os.trans h.os,hg.tape.trans h.tape,hg.output.trans h.output,Nat.le_trans h.size hg.size,fun k hk=>(hg.block k (by omega) (by omega) (fun e=>by have:=hx k e;omega)).trans (h.block k hk)⟩
theorem Q9r {a ae b be:Int} (h:¬ (a=b/\ae=be)) (w:World):(binOp .eql 314 (.agg #[.int .i64 a,.int .i64 ae]) (.agg #[.int .i64 b,.int .i64 be])).run Tryz.prog w = .ok (.bool false) w:=by
 go_simp
 exact fun e1 e2=>h ⟨e1,e2⟩
set_option maxHeartbeats 16000000 in
set_option maxRecDepth 100000 in
theorem Tryz.links_calls {N:Nat} (S:Nat->Prop) (w:World) (hS:∀ b,S b->b<w.heap.size) (l0 l1 l2 f:LL) (v0 v1 v2 v3:Value) (h0:Rd S w v0 (.sl 1 l0)) (h1:Rd S w v1 (.sl 1 l1)) (h2:Rd S w v2 (.sl 5 l2)) (h3:Rd S w v3 (.sl 6 f))
  (m2:l2.length<=96) (m3:f.length<=192) (c5:KJ N l0 l1 l2 f (List.replicate (2*l2.length) []) f=true) :
  Calls Tryz.prog 211 #[.agg #[v0,v1,v2,v3]] w fun e w'=>e = .returned (.int .i64 0)/\Below w.heap.size w w':=by
 obtain ⟨z,aa,rfl⟩:=Gc h0;obtain ⟨ab,ac,rfl⟩:=Gc h1;obtain ⟨t,u,rfl⟩:=Gc h2;obtain ⟨ad,v,rfl⟩:=Gc h3;obtain ⟨i0,hi,cg⟩:=Qkc.1 (show (Tryz.prog.info? 25).map (fun i=>(i.zero,i.size,i.bytes))=some (some (.slice none 0 0),1,24) by kernel_rfl);obtain ⟨hz,av⟩:=Prod.mk.inj cg;obtain ⟨av,ch⟩:=Prod.mk.inj av;have dd:∀ w:World,∃ w',(Instr.makeSlice 311 (.int .i64 (2*(l2.length:Int))) (.int .i64 (2*(l2.length:Int)))).run Tryz.prog w = .ok (.slice (some ⟨w.heap.size,0,none⟩) (2*l2.length) (2*l2.length)) w' /\
   w'.ownsRow w.heap.size 25 1 (.slice (some ⟨w.heap.size,0,none⟩) (2*l2.length) (2*l2.length)) (2*l2.length) (List.replicate (2*l2.length) (.slice none 0 0))/\w.grownBy w' none:=by
  intro w;obtain ⟨w',r1,r2,r3⟩:=run_make_full w w.heap.size 311 25 i0 (.slice none 0 0) 1 Tryz.underlying311 hi hz av .i64 .i64 (2*l2.length) (by rw [ch];omega) (by unfold maxLen;omega) (Qkg _);refine ⟨w',by rw [<- r1];simp,?_,r3⟩;have e:(madeCells (Value.slice none 0 0).cells (2*l2.length*1)).toList=List.replicate (2*l2.length) (.slice none 0 0):=by
   apply List.ext_getElem
   ·simp [size_madeCells]
   ·intro i h1 h2;simp [madeCells,Value.cells,Nat.mod_one]
  rw [<- e];exact r2
 have fy:wrap64 (2*(l2.length:Int))=2*(l2.length:Int):=by unfold wrap64;omega
 have bm:(w.alloc (.cells #[.slice z l0.length aa,.slice ab l1.length ac,.slice t l2.length u,.slice ad f.length v] 27)).heap[w.heap.size]? = some (.cells #[.slice z l0.length aa,.slice ab l1.length ac,.slice t l2.length u,.slice ad f.length v] 27 (0,0)):=heap_alloc_new w _;have a7:Below w.heap.size w (w.alloc (.cells #[.slice z l0.length aa,.slice ab l1.length ac,.slice t l2.length u,.slice ad f.length v] 27)):=Ub (Below.refl _ _) (Qkg _) _;have bg:(w.alloc (.cells #[.slice z l0.length aa,.slice ab l1.length ac,.slice t l2.length u,.slice ad f.length v] 27)).heap.size=w.heap.size+1:=by simp
 obtain ⟨w2,b7,bl,aw⟩:=dd (w.alloc (.cells #[.slice z l0.length aa,.slice ab l1.length ac,.slice t l2.length u,.slice ad f.length v] 27));have a4:=(aw.block w.heap.size (by simp) (by simp)).trans bm;have az:Below w.heap.size w w2:=⟨aw.os.trans a7.os,aw.tape.trans a7.tape,aw.output.trans a7.output,Nat.le_trans a7.size aw.size,fun b hb=>(aw.block b (by omega) (by simp)).trans (a7.block b hb)⟩;have ec:=aw.size;rw [bg] at b7 bl ec;have c4:=Q6X (w:=w) bl;clear dd aw bl;have y2:(w.alloc (.cells #[.slice z l0.length aa,.slice ab l1.length ac,.slice t l2.length u,.slice ad f.length v] 27)).cell? ⟨w.heap.size,2,none⟩=some (.slice t l2.length u):=by rw [Qk3 bm];rfl
 have z3:w2.cell? ⟨w.heap.size,3,none⟩=some (.slice ad f.length v):=by rw [Qk3 a4];rfl
 go_enter Tryz.func211,Tryz.ntmps211
 go_wp2
 clear b7 bm y2 z3 a7 bg;generalize ef:w.heap.size=H0 at *
 go_loopw [18] (fun i wr=>∃ (j:Nat) (hd:List Value) (ll:List LL),j<=f.length/\i = .int .i64 j/\NestK 25 186 6 wr (H0+1) (.slice (some ⟨H0+1,0,none⟩) (2*l2.length) (2*l2.length)) hd ll/\ll.length=2*l2.length /\
   KJ N l0 l1 l2 f ll (f.drop j)=true/\(∀ l∈ll,∀ r∈l,D7 6 r=true)/\wr.heap[H0]? = some (.cells #[.slice z l0.length aa,.slice ab l1.length ac,.slice t l2.length u,.slice ad f.length v] 27 (0,0))/\Below H0 w wr)
  (fun i _=>f.length-(intOf i).toNat)
 case atStart=>
  refine ⟨0,_,_,Nat.zero_le _,rfl,c4,by simp,by simpa using c5,fun l hl r hr=>?_,a4,az⟩;obtain ⟨_,rfl⟩:=Qkb.1 hl;cases hr
 case round=>
  obtain ⟨j,hd,ll,hj,rfl,hN,cz,d6,a5,c9,hF⟩:=hrel;clear c4 c5 a4 az;by_cases d4:j<f.length
  ·have e3:((j:Int)<(f.length:Int)):=by omega
   obtain ⟨a,ae,b,be,p,q,x,y,ed,⟨⟨cn,dk⟩,⟨co,cp⟩,⟨cq,dl⟩,⟨cr,cs⟩⟩,b3,cj,hx,hy,ck,ct,cu,fm,f5,cw⟩:=Q1b d4 d6;have d7:∀ c,c<H0->wr.heap[c]? = w.heap[c]?:=fun c hc=>hF.block c hc
   have gi:∀ c,S c->c<wr.heap.size:=fun c hc=>by have:=hS c hc;have:=hF.size;omega
   have bi:=Rd.keep (w':=wr) h3 hS d7;obtain ⟨a3,rfl,_,_,ar⟩:=Q68 bi ed;obtain ⟨u0,x0,q0⟩:=ar 0 _ rfl;obtain ⟨u1,x1,q1⟩:=ar 1 _ rfl;obtain ⟨fp,x2,q2⟩:=ar 2 _ rfl;obtain ⟨f8,x3,q3⟩:=ar 3 _ rfl;obtain ⟨f0,x4,q4⟩:=ar 4 _ rfl;obtain ⟨fw,x5,q5⟩:=ar 5 _ rfl;rw [GV q0,Nat.add_zero] at x0;rw [GV q1,J7 _ _ _ (by decide)] at x1;rw [GV q2,J7 _ _ _ (by decide)] at x2;rw [GV q3,J7 _ _ _ (by decide)] at x3;rw [GV q4,J7 _ _ _ (by decide)] at x4;rw [GV q5,J7 _ _ _ (by decide)] at x5;clear ar q0 q1 q2 q3 q4 q5 bi;have dq:H0+1<=wr.heap.size:=(Qkf.1 c9).1;have gf:H0+1<wr.heap.size:=(hN.row.lt (H0+1) rfl).2;obtain ⟨bo,bq,a9⟩:=Q8w hN hx;obtain ⟨b4,b2,b0⟩:=Q8w hN hy;have a6:∀ c,(Value.slice bo x.length bq).ownBlock=some c->H0+1<=c/\c<wr.heap.size:=fun c hc=>hN.blk a9 hc
   have bk:∀ c,(Value.slice b4 y.length b2).ownBlock=some c->H0+1<=c/\c<wr.heap.size:=fun c hc=>hN.blk b0 hc
   have bp:wr.grownBy (wr.alloc (.cells #[.int .i64 a,.int .i64 ae,.int .i64 b,.int .i64 be,.int .i64 p,.int .i64 q] 186)) none:=World.grownBy_alloc wr _ none;have ag:(wr.alloc (.cells #[.int .i64 a,.int .i64 ae,.int .i64 b,.int .i64 be,.int .i64 p,.int .i64 q] 186)).heap[wr.heap.size]? = some (.cells #[.int .i64 a,.int .i64 ae,.int .i64 b,.int .i64 be,.int .i64 p,.int .i64 q] 186 (0,0)):=heap_alloc_new wr _;have dj:=Gf hN bp;have cx:=Ub hF (by omega) (.cells #[.int .i64 a,.int .i64 ae,.int .i64 b,.int .i64 be,.int .i64 p,.int .i64 q] 186);have al:=(bp.block H0 (by omega) (by simp)).trans c9;have dr:(wr.alloc (.cells #[.int .i64 a,.int .i64 ae,.int .i64 b,.int .i64 be,.int .i64 p,.int .i64 q] 186)).heap.size=wr.heap.size+1:=by simp
   generalize ee:wr.alloc (.cells #[.int .i64 a,.int .i64 ae,.int .i64 b,.int .i64 be,.int .i64 p,.int .i64 q] 186)=W1 at *
   generalize ds:wr.heap.size=d at *
   have an:∀ c,c<H0->W1.heap[c]? = w.heap[c]?:=fun c hc=>cx.block c hc
   have b9:∀ c,S c->c<W1.heap.size:=fun c hc=>by have:=hS c hc;omega
   have k0:=Rd.keep (w':=W1) h0 hS an;have k1:=Rd.keep (w':=W1) h1 hS an;have k2:=Rd.keep (w':=W1) h2 hS an;have k3:=Rd.keep (w':=W1) h3 hS an;have z0:W1.cell? ⟨H0,0,none⟩=some (.slice z l0.length aa):=by rw [Qk3 al];rfl
   have z1:W1.cell? ⟨H0,1,none⟩=some (.slice ab l1.length ac):=by rw [Qk3 al];rfl
   have z2:W1.cell? ⟨H0,2,none⟩=some (.slice t l2.length u):=by rw [Qk3 al];rfl
   have z3:W1.cell? ⟨H0,3,none⟩=some (.slice (some a3) f.length v):=by rw [Qk3 al];rfl
   have c0:W1.cell? ⟨d,0,none⟩=some (.int .i64 a):=by rw [Qk3 ag];rfl
   have c1:W1.cell? ⟨d,1,none⟩=some (.int .i64 ae):=by rw [Qk3 ag];rfl
   have g:W1.cell? ⟨d,2,none⟩=some (.int .i64 b):=by rw [Qk3 ag];rfl
   have m:W1.cell? ⟨d,3,none⟩=some (.int .i64 be):=by rw [Qk3 ag];rfl
   have n:W1.cell? ⟨d,4,none⟩=some (.int .i64 p):=by rw [Qk3 ag];rfl
   have o:W1.cell? ⟨d,5,none⟩=some (.int .i64 q):=by rw [Qk3 ag];rfl
   go_wp2_with (go_at_call 236;refine (Q6M b3 b9 k0 k1 k2 k3).mono ?_)
   rintro e W2 ⟨rfl,az⟩;have ah:=(az.block d (by omega)).trans ag;have bt:=(az.block H0 (by omega)).trans al;have c7:=Gf dj (Wd az);have dp:=Ux cx (by omega) az;have dt:=az.size;clear c0 c1 g m n o z0 z1 z2 z3 k0 k1 k2 k3 an b9 ag al dj cx;have c0:W2.cell? ⟨d,0,none⟩=some (.int .i64 a):=by rw [Qk3 ah];rfl
   have c1:W2.cell? ⟨d,1,none⟩=some (.int .i64 ae):=by rw [Qk3 ah];rfl
   have g:W2.cell? ⟨d,2,none⟩=some (.int .i64 b):=by rw [Qk3 ah];rfl
   have m:W2.cell? ⟨d,3,none⟩=some (.int .i64 be):=by rw [Qk3 ah];rfl
   have n:W2.cell? ⟨d,4,none⟩=some (.int .i64 p):=by rw [Qk3 ah];rfl
   have o:W2.cell? ⟨d,5,none⟩=some (.int .i64 q):=by rw [Qk3 ah];rfl
   go_wp2_with (go_at_call 237;refine (Tryz.ends_calls W2 a ae b be p q).mono ?_)
   rintro e W3 ⟨rfl,bh⟩
   go_wp2
   clear c0 c1 g m n o;have du:=bh.size;have ao:W3.grownBy ((W3.alloc (.cells #[.int .i64 a,.int .i64 ae] 314)).alloc (.cells #[.int .i64 b,.int .i64 be] 314)) none:=⟨rfl,rfl,rfl,by simp;omega,fun k hk _=>by rw [Qk5 _ _ _ (by simp;omega),Qk5 _ _ _ hk]⟩;have c3:=Ub (Ub (Ux dp (by omega) bh) (by omega) (.cells #[.int .i64 a,.int .i64 ae] 314)) (by omega) (.cells #[.int .i64 b,.int .i64 be] 314);have bu:=(ao.block d (by omega) (by simp)).trans ((bh.block d (by omega)).trans ah);have bv:=(ao.block H0 (by omega) (by simp)).trans ((bh.block H0 (by omega)).trans bt);have c6:=Gf (Gf c7 (Wd bh)) ao;have ap:((W3.alloc (.cells #[.int .i64 a,.int .i64 ae] 314)).alloc (.cells #[.int .i64 b,.int .i64 be] 314)).heap[W3.heap.size]? = some (.cells #[.int .i64 a,.int .i64 ae] 314 (0,0)):=by
    rw [Qk5 _ _ _ (by simp)];exact heap_alloc_new _ _
   have aq:((W3.alloc (.cells #[.int .i64 a,.int .i64 ae] 314)).alloc (.cells #[.int .i64 b,.int .i64 be] 314)).heap[W3.heap.size+1]? = some (.cells #[.int .i64 b,.int .i64 be] 314 (0,0)):=by
    have:=heap_alloc_new (W3.alloc (.cells #[.int .i64 a,.int .i64 ae] 314)) (.cells #[.int .i64 b,.int .i64 be] 314);simpa using this
   have dw:((W3.alloc (.cells #[.int .i64 a,.int .i64 ae] 314)).alloc (.cells #[.int .i64 b,.int .i64 be] 314)).heap.size=W3.heap.size+2:=by simp
   clear ao ah bt c7 dp;generalize d8:(W3.alloc (.cells #[.int .i64 a,.int .i64 ae] 314)).alloc (.cells #[.int .i64 b,.int .i64 be] 314)=W4 at *
   generalize es:W3.heap.size=s at *
   have e6:d<W2.heap.size:=by omega
   clear d8 ee;have c0:W4.cell? ⟨s,0,none⟩=some (.int .i64 a):=by rw [Qk3 ap];rfl
   have c1:W4.cell? ⟨s,1,none⟩=some (.int .i64 ae):=by rw [Qk3 ap];rfl
   have d0:W4.cell? ⟨s+1,0,none⟩=some (.int .i64 b):=by rw [Qk3 aq];rfl
   have d1:W4.cell? ⟨s+1,1,none⟩=some (.int .i64 be):=by rw [Qk3 aq];rfl
   refine Code.wp_mono ?_ (Tryz.links_r8 _ _ _ _ _ _ _ _ _ _ _ _ _ _ _ _ _ _ _ _ _ _ _ _ _ _ _ _ _ _ _ _ _ _ _ _ _ _ _ _ _ _ _ _ _ _ _ _ _ _ _ _ _ _ _ _ _ _ _ _ _ _ _ _ _ _ _ _ _ _ _ _ _ _ _ _ _ (H0+1) (2*l2.length) s (s+1) a ae b be W4 c0 c1 d0 d1 cn (by omega) co cp cq (by omega) cr cs (by omega) (by omega));clear c0 c1 d0 d1;rintro e act W5 h;cases e with
   |normal=>
    obtain ⟨_,_,_,_,_,_,_,_,rfl,a2⟩:=h;have fc:=a2.size;have cy:=Ux c3 (by omega) a2;have bx:=(a2.block d (by omega)).trans bu;have bz:=(a2.block H0 (by omega)).trans bv;have bn:=Gf c6 (Wd a2);have ax:=(a2.block s (by omega)).trans ap;have ay:=(a2.block (s+1) (by omega)).trans aq;clear c3 bu bv c6 ap aq a2;have eu:=Q9r (a:=a) (ae:=ae) (b:=b) (be:=be) (fun h=>cj (by rw [h.1,h.2]));generalize fk:(2*a+ae).toNat=ia at *
    generalize f2:(2*b+be).toNat=ib at *
    have c0:W5.cell? ⟨s,0,none⟩=some (.int .i64 a):=by rw [Qk3 ax];rfl
    have c1:W5.cell? ⟨s,1,none⟩=some (.int .i64 ae):=by rw [Qk3 ax];rfl
    have d0:W5.cell? ⟨s+1,0,none⟩=some (.int .i64 b):=by rw [Qk3 ay];rfl
    have d1:W5.cell? ⟨s+1,1,none⟩=some (.int .i64 be):=by rw [Qk3 ay];rfl
    dsimp only [Exit.then]
    go_wp2
    have jx:=Q52 bn a9 hx a5;have au:=B6 bn a9;refine Code.wp_mono ?_ (Tryz.links_r11 _ _ _ _ _ _ _ _ _ _ _ _ _ _ _ _ _ _ _ _ _ _ _ _ _ _ _ _ _ _ _ _ _ _ _ _ _ _ _ _ _ _ _ _ _ _ _ _ _ _ _ _ _ _ _ _ _ _ _ _ _ _ _ _ _ _ _ _ _ _ _ _ _ _ _ _ _ (H0+1) ia s (s+1) x.length bq bo a ae b be W5 c0 c1 d0 d1 au (Q21 ck jx.1 jx.2));clear c0 c1 d0 d1 jx au;rintro e act W6 h;cases e with
    |normal=>
     obtain ⟨_,_,_,_,_,_,rfl,a8⟩:=h;have dx:=a8.size;have de:=Ux cy (by omega) a8;have ai:=(a8.block d (by omega)).trans bx;have ca:=(a8.block H0 (by omega)).trans bz;have br:=Gf bn (Wd a8);clear cy bx bz bn ax ay a8;dsimp only [Exit.then]
     go_wp2
     have c0:W6.cell? ⟨d,0,none⟩=some (.int .i64 a):=by rw [Qk3 ai];rfl
     have c1:W6.cell? ⟨d,1,none⟩=some (.int .i64 ae):=by rw [Qk3 ai];rfl
     have g:W6.cell? ⟨d,2,none⟩=some (.int .i64 b):=by rw [Qk3 ai];rfl
     have m:W6.cell? ⟨d,3,none⟩=some (.int .i64 be):=by rw [Qk3 ai];rfl
     have n:W6.cell? ⟨d,4,none⟩=some (.int .i64 p):=by rw [Qk3 ai];rfl
     have o:W6.cell? ⟨d,5,none⟩=some (.int .i64 q):=by rw [Qk3 ai];rfl
     have jx:=Q52 br a9 hx a5;have au:=B6 br a9;refine Code.wp_mono ?_ (Tryz.links_r13 _ _ _ _ _ _ _ _ _ _ _ _ _ _ _ _ _ _ _ _ _ _ _ _ _ _ _ _ _ _ _ _ _ _ _ _ _ _ _ _ _ _ _ _ _ _ _ _ _ _ _ _ _ _ _ _ _ _ _ _ _ _ _ _ _ _ _ _ _ _ _ _ _ _ _ _ _ _ (H0+1) ia d x.length bq bo a ae b be p q W6 c0 c1 g m n o au (Q0g ct jx.1 jx.2));clear c0 c1 g m n o jx au;rintro e act W7 h;cases e with
     |normal=>
      obtain ⟨_,_,_,_,_,_,rfl,bb⟩:=h;have dy:=bb.size;have c2:=Ux de (by omega) bb;have aj:=(bb.block d (by omega)).trans ai;have cb:=(bb.block H0 (by omega)).trans ca;have b1:=Gf br (Wd bb);clear de ai ca br bb;dsimp only [Exit.then]
      go_wp2
      have c0:W7.cell? ⟨d,0,none⟩=some (.int .i64 a):=by rw [Qk3 aj];rfl
      have c1:W7.cell? ⟨d,1,none⟩=some (.int .i64 ae):=by rw [Qk3 aj];rfl
      have g:W7.cell? ⟨d,2,none⟩=some (.int .i64 b):=by rw [Qk3 aj];rfl
      have m:W7.cell? ⟨d,3,none⟩=some (.int .i64 be):=by rw [Qk3 aj];rfl
      have n:W7.cell? ⟨d,4,none⟩=some (.int .i64 p):=by rw [Qk3 aj];rfl
      have o:W7.cell? ⟨d,5,none⟩=some (.int .i64 q):=by rw [Qk3 aj];rfl
      have jx:=Q52 b1 b0 hy a5;have au:=B6 b1 b0;refine Code.wp_mono ?_ (Tryz.links_r14 _ _ _ _ _ _ _ _ _ _ _ _ _ _ _ _ _ _ _ _ _ _ _ _ _ _ _ _ _ _ _ _ _ _ _ _ _ _ _ _ _ _ _ _ _ _ _ _ _ _ _ _ _ _ _ _ _ _ _ _ _ _ _ _ _ _ _ _ _ _ _ _ _ _ _ _ _ _ (H0+1) ib d y.length b2 b4 a ae b be p q W7 c0 c1 g m n o au (Q0g cu jx.1 jx.2));clear c0 c1 g m n o jx au;rintro e act W8 h;cases e with
      |normal=>
       obtain ⟨_,_,_,_,_,_,rfl,ba⟩:=h;have dz:=ba.size;have c8:=Ux c2 (by omega) ba;have ak:=(ba.block d (by omega)).trans aj;have cc:=(ba.block H0 (by omega)).trans cb;have di:=Gf b1 (Wd ba);clear c2 aj cb b1 ba;dsimp only [Exit.then]
       go_wp2
       have c0:W8.cell? ⟨d,0,none⟩=some (.int .i64 a):=by rw [Qk3 ak];rfl
       have c1:W8.cell? ⟨d,1,none⟩=some (.int .i64 ae):=by rw [Qk3 ak];rfl
       have g:W8.cell? ⟨d,2,none⟩=some (.int .i64 b):=by rw [Qk3 ak];rfl
       have m:W8.cell? ⟨d,3,none⟩=some (.int .i64 be):=by rw [Qk3 ak];rfl
       have n:W8.cell? ⟨d,4,none⟩=some (.int .i64 p):=by rw [Qk3 ak];rfl
       have o:W8.cell? ⟨d,5,none⟩=some (.int .i64 q):=by rw [Qk3 ak];rfl
       refine Code.wp_mono ?_ (Tryz.links_r16 _ _ _ _ _ _ _ _ _ _ _ _ _ _ _ _ _ _ _ _ _ _ _ _ _ _ _ _ _ _ _ _ _ _ _ _ _ _ _ _ _ _ _ _ _ _ _ _ _ _ _ _ _ _ _ _ _ _ _ _ _ _ _ _ _ _ _ _ _ _ _ _ _ _ _ _ _ _ (H0+1) (H0+1) (2*l2.length) ia d bq bo a ae b be p q hd ll x W8 c0 c1 g m n o di a9 hx (by omega) (by omega) (by omega) (fun e=>by have:=(a6 d e).2;omega));clear c0 c1 g m n o;rintro e act W9 h;cases e with
       |normal=>
        obtain ⟨_,_,_,_,_,_,_,_,xx,rfl,eh,bj⟩:=h;have ea:=bj.size;have eg:=AY c8 bj (by omega) (by omega) (fun c hc=>by have:=(a6 c hc).1;omega);have am:=(bj.block d (by omega) (by omega) (fun e=>by have:=(a6 d e).2;omega)).trans ak;have df:=(bj.block H0 (by omega) (by omega) (fun e=>by have:=(a6 H0 e).1;omega)).trans cc;clear c8 ak cc di bj;have dg:(hd.set ia xx)[ib]? = some (.slice b4 y.length b2):=by rw [Qkk,if_neg cj];exact b0
        have ce:(ll.set ia (x++[[D.int .i64 a,.int .i64 ae,.int .i64 b,.int .i64 be,.int .i64 p,.int .i64 q]]))[ib]? = some y:=by rw [Qkk,if_neg cj];exact hy
        dsimp only [Exit.then]
        go_wp2
        have c0:W9.cell? ⟨d,0,none⟩=some (.int .i64 a):=by rw [Qk3 am];rfl
        have c1:W9.cell? ⟨d,1,none⟩=some (.int .i64 ae):=by rw [Qk3 am];rfl
        have g:W9.cell? ⟨d,2,none⟩=some (.int .i64 b):=by rw [Qk3 am];rfl
        have m:W9.cell? ⟨d,3,none⟩=some (.int .i64 be):=by rw [Qk3 am];rfl
        have n:W9.cell? ⟨d,4,none⟩=some (.int .i64 p):=by rw [Qk3 am];rfl
        have o:W9.cell? ⟨d,5,none⟩=some (.int .i64 q):=by rw [Qk3 am];rfl
        refine Code.wp_mono ?_ (Tryz.links_r17 _ _ _ _ _ _ _ _ _ _ _ _ _ _ _ _ _ _ _ _ _ _ _ _ _ _ _ _ _ _ _ _ _ _ _ _ _ _ _ _ _ _ _ _ _ _ _ _ _ _ _ _ _ _ _ _ _ _ _ _ _ _ _ _ _ _ _ _ _ _ _ _ _ _ _ _ _ _ (H0+1) (H0+1) (2*l2.length) ib d b2 b4 a ae b be p q _ _ y W9 c0 c1 g m n o eh dg ce (by omega) (by omega) (by omega) (fun e=>by have:=(bk d e).2;omega));clear c0 c1 g m n o;rintro e act W10 h;cases e with
        |normal=>
         obtain ⟨_,_,_,_,_,_,_,_,yy,rfl,db,cf⟩:=h;have dc:=AY eg cf (by omega) (by omega) (fun c hc=>by have:=(bk c hc).1;omega);have dh:=(cf.block H0 (by omega) (by omega) (fun e=>by have:=(bk H0 e).1;omega)).trans df;have b5:=Q7r (Q7r a5 hx (by rfl)) ce (row:=[D.int .i64 a,.int .i64 ae,.int .i64 b,.int .i64 be,.int .i64 p,.int .i64 q]) (by rfl)
         go_wp2
         refine ⟨⟨j+1,_,_,by omega,by rw [Int.natCast_add];rfl,db,by simpa using cz,cw,b5,dh,dc⟩,?_⟩;simp only [intOf];omega
        |_=>exact h.elim
       |_=>exact h.elim
      |_=>exact h.elim
     |_=>exact h.elim
    |_=>exact h.elim
   |_=>exact h.elim
  ·go_wp2
   refine bodyPost_ret (results_tmp rfl _ _ _) rfl ?_;rw [<- ef] at hF;exact ⟨rfl,hF⟩
end Go.Vx
namespace Go.Vx
open Go.Proofs Go.RowKit
theorem Qhw {S:Nat->Prop} {w:World} {xs:List D}:∀ {vs:List Value},vs.length=xs.length->(∀ (i:Nat) (v:Value) (x:D),vs[i]? = some v->xs[i]? = some x->Rd S w v x)->RdLs S w vs xs:=by
 induction xs with
 |nil=>intro vs h _;have:vs=[]:=List.eq_nil_of_length_eq_zero h;subst this;exact .nil
 |cons x xs ih=>
  intro vs h hr
  match vs,h with
  |v::vs,h=>exact .cons (hr 0 v x rfl rfl) (ih (by simpa using h) fun i u y a h2=>hr (i+1) u y (by simpa using a) (by simpa using h2))
theorem Q3S {β:Nat->Option Nat} {S:Nat->Prop} {h:Nat->Option Ob} {w:World} {tm:Nat->Value} {v:Value} {xs:List D} (hv:RdA β S h w tm v (.ag (xs.map .d))):∃ vs:List Value,v = .agg vs.toArray/\RdLs S w vs xs:=by
 cases hv with
 |ag cs l hl hr=>
  obtain ⟨vs⟩:=cs;refine ⟨vs,rfl,Qhw (by simpa using hl) fun i u x a h2=>?_⟩;have:=hr i (.d x) (by simp [h2]);simp [Array.getD,(Qk4.1 a).1] at this;rw [(Qk4.1 a).2] at this;cases this with
  |d _ _ q=>exact q
  |dang _ _ _ hl=>cases hl
 |dang v av l hl=>cases hl
theorem Q9V {β:Nat->Option Nat} {S:Nat->Prop} {h:Nat->Option Ob} {w:World} {args:List Value} {a:AV} (hA:ArgsRd β S h w args [a]):∃ v,args=[v]/\RdA β S h w tm0 v a:=Q6S hA
theorem Q5t {β:Nat->Option Nat} {S:Nat->Prop} {h:Nat->Option Ob} {w:World} {args:List Value} {a b:AV} (hA:ArgsRd β S h w args [a,b]):∃ v u,args=[v,u]/\RdA β S h w tm0 v a/\RdA β S h w tm0 u b:=by
 obtain ⟨c,h2⟩:=hA
 match args,c with
 |[v,u],_=>exact ⟨v,u,rfl,h2 0 v a rfl rfl,h2 1 u b rfl rfl⟩
theorem Q1D (n:Nat) (l0 l1 l2 a:LL) (res:Int) {hl:Nat->Option Ob} (h:Zp n l0 l1 l2 a some=some res):Zi Tryz.prog 166 [.ag [.d (D.sl 1 l0),.d (D.sl 1 l1),.d (D.sl 5 l2),.d (D.sl 6 a)]] hl ⟨.d (D.int .i64 res),[],[]⟩:=by
 obtain ⟨ak,h⟩:=XB h;injection h with h
 subst h;refine Sg (fn:=Tryz.f166) (by kernel_rfl) (by kernel_rfl) (by kernel_rfl) rfl rfl fun S w args hS hA=>?_
 obtain ⟨v,rfl,hv⟩:=Q9V hA;obtain ⟨vs,rfl,hr⟩:=Q3S (xs:=[D.sl 1 l0,.sl 1 l1,.sl 5 l2,.sl 6 a]) hv;cases hr with
 |cons c t=>
  cases t with
  |cons d t=>
   cases t with
   |cons h2 t=>
    cases t with
    |cons f t=>
     cases t;have aj:=ak;simp only [Pg,Qka,Bool.not_eq_true'] at aj;obtain ⟨⟨⟨⟨⟨⟨⟨⟨l,m⟩,g⟩,i⟩,o⟩,p⟩,q⟩,ns⟩,nl⟩:=aj;refine (Tryz.layout_calls S w hS l0 l1 l2 a _ _ _ _ c d h2 f ak fun w' an k0 k1 j k=>Tryz.links_calls S w' an l0 l1 l2 a _ _ _ _ k0 k1 j k (Qk9 g) (Qk9 i) nl).mono fun e w' ⟨he,hB⟩=>?_
     exact ⟨_,S,he,fun b h=>h,fun b h=>.inl h,fun b h=>Qk8 (hS b h) hB.size,.d _ _ (.int _ _),hB⟩
end Go.Vx
namespace Go.Vx
variable {R:Type}
def LO (n:Nat) (a0 g e h b i f j:Int) (K:Bool->oP R):oP R:= gb true (Je n (wJ ((wJ ((wJ (e-f))-j))+1)) a0 Tu2) (0,0) fun a=>gb true (KC n (wJ ((wJ ((wJ (e+h))-f))-1)) a0 Tu2) (0,0) fun c=>bif decide (a.1>c.1) then K false else bif (g != i) then K true else bif (b == 0) then K (bif decide (a.1<0) then true else (decide (c.1>0))) else bif (b == 1) then K false else gb (!(decide (a.1<c.1))) (nz b) () fun u3=>K (bif decide (a.1<c.1) then true else ((Int.tmod a.1 b) != 0))
end Go.Vx
set_option maxRecDepth 100000
namespace Go.Vx
open Go.Proofs
variable (n:Nat)
def Tx:EZ9 106:=mkD (Xa [] []).ok nT 106 Tryz.f106 0 @Je n
def Rh:EZ9 107:=mkD (Xa [] []).ok nT 107 Tryz.f107 0 @KC n
def Hu:EZ9 64:=mkD (Xa [⟨106,Tx n⟩,⟨107,Rh n⟩] []).ok nT 64 Tryz.f64 1090 @LO n
def P3 (n:Nat):BZ9:=Xa [] []
def Lb:LZ9:=mkU (P3 n).ok nT 4 Tryz.f33 [(13,.l 5),(14,tI),(15,tI)] [] 22 [.f .ret [(4,.cb false)] [] [],xE 0 [(16,.b)]] @Gy n
def Kj:EZ9 33:=mkD (P3 n).ok [Lb n n] 33 Tryz.f33 0 @N8 n
end Go.Vx
namespace Go.Proofs
open Go.RowKit Go.Vx
theorem Bi:Instr.findNow (.int .i64) (.int .i64 (0:Int)) ([]:List MapEntry) 0=some none:=rfl
theorem Ea {w:World} {b aj:Nat} (hb:w.heap[b]? = some (.map #[] aj)):(Instr.lookup 168 (.map (some b)) (.int .i64 0) false).run Tryz.prog w = .ok (.slice none 0 0) w:=by
 have hc:(Instr.checkKey true 10000 3 (.int .i64 0)).run Tryz.prog w = .ok () w:=MapKept.run_checkKey (k:=.int .i64 0) Qkh (by simp [MapKept.IsKey]) true 9999;have hz:(zeroValue 22).run Tryz.prog w = .ok (.slice none 0 0) w:=Tryz.zeroValue22 w;simp [Instr.lookup,run_underlying Tryz.underlying168,MapKept.run_getObj_map hb,hc,MapKept.run_findKey Qkh Bi,hz,Result.andThen]
theorem Q77 {w:World} {b aj:Nat} (v:Value) (hb:w.heap[b]? = some (.map #[] aj)):(Instr.mapUpdate 168 (.map (some b)) (.int .i64 0) v).run Tryz.prog w = .ok () { w with heap:=w.heap.setIfInBounds b (.map #[{ key:=.int .i64 0,val:=v,born:=aj }] (aj+1)) }:=by
 have hc:(Instr.checkKey false 10000 3 (.int .i64 0)).run Tryz.prog w = .ok () w:=MapKept.run_checkKey (k:=.int .i64 0) Qkh (by simp [MapKept.IsKey]) false 9999;simp [Instr.mapUpdate,run_underlying Tryz.underlying168,MapKept.run_getObj_map hb,hc,MapKept.run_findKey Qkh Bi,MapKept.run_setObj_map _ hb,Result.andThen]
theorem EP {w:World} {a:Addr} {v:Value} (h:w.cell? a=some v):a.block<w.heap.size:=by
 by_cases hb:a.block<w.heap.size
 ·exact hb
 ·unfold World.cell? at h;rw [Array.getElem?_eq_none (by omega)] at h;simp at h
theorem Xu {w w':World} {a:Addr} {v:Value} (h:w.cell? a=some v) (hb:w'.heap[a.block]? = w.heap[a.block]?):w'.cell? a=some v:=by
 unfold World.cell? at *
 rw [hb];exact h
def VF (w wr:World):Prop:=w.heap.size+3<=wr.heap.size/\Below w.heap.size w wr/\wr.cell? ⟨w.heap.size+1,0,none⟩=some (.int .i64 0)/\∃ g c,wr.heap[w.heap.size]? = some (.map #[{ key:=.int .i64 0,val:=.slice (some ⟨g,0,none⟩) 1 c,born:=0 }] 1)/\wr.cell? ⟨g,0,none⟩=some (.int .i64 0)
theorem QgO {w w2 w1 w':World} {v':Value} {B:Nat} (gs:w2.heap.size=w.heap.size+3) (gB:Below w.heap.size w w2) (g2:w2.heap[w.heap.size+1]? = some (.cells #[.int .i64 0] 3 (0,0))) (aw:∀ k,k<w2.heap.size->w1.heap[k]? = w2.heap[k]?) (ho:w1.os=w2.os) (ht:w1.tape=w2.tape) (hu:w1.output=w2.output) (hz:w2.heap.size<=w1.heap.size) (hB:w.heap.size+3<=B) (an:w'.ownsRow B 3 1 v' (0+1) ([]++[.int .i64 0])) (aj:w1.grownBy w' none) :
  VF w { heap:=w'.heap.setIfInBounds w.heap.size (.map #[{ key:=.int .i64 0,val:=v',born:=0 }] 1),tape:=w'.tape,drawn:=w'.drawn,os:=w'.os,output:=w'.output }:=by
 have a2:=aj.size;obtain ⟨_,⟨_,h⟩ | ⟨g,cap,ao,rfl,hg,hh,h1,_,h2,h3⟩⟩:=an
 ·omega
 have hk:∀ k,k<w2.heap.size->k≠w.heap.size->(w'.heap.setIfInBounds w.heap.size (Obj.map #[{ key:=.int .i64 0,val:=.slice (some ⟨g,0,none⟩) (0+1) cap,born:=0 }] 1))[k]? = w2.heap[k]?:=fun k hk ar=>by
  rw [Array.getElem?_setIfInBounds_ne (Ne.symm ar)];exact (aj.block k (by omega) (by simp)).trans (aw k hk)
 refine ⟨by simp;omega,⟨aj.os.trans (ho.trans gB.os),aj.tape.trans (ht.trans gB.tape),aj.output.trans (hu.trans gB.output),by simp;omega,fun k au=>(hk k (by omega) (by omega)).trans (gB.block k au)⟩,?_,g,cap,?_,?_⟩
 ·rw [Qk3 ((hk _ (by omega) (by omega)).trans g2)];rfl
 ·simp only [Array.getElem?_setIfInBounds];rw [if_pos trivial,if_pos (by omega)]
 ·have ax:(w'.heap.setIfInBounds w.heap.size (Obj.map #[{ key:=.int .i64 0,val:=.slice (some ⟨g,0,none⟩) (0+1) cap,born:=0 }] 1))[g]? = some (.cells ao 3 (0,0)):=by
   rw [Array.getElem?_setIfInBounds_ne (by omega)];exact hh
  rw [Qk3 ax];have:(ao.toList.take ((0+1)*1))[0]? = some (.int .i64 0):=by rw [h3];rfl
  rw [List.getElem?_take,if_pos (by omega),Qki] at this;exact this
theorem Q0d {w:World} {b aj:Nat} {v:Value} (hb:w.heap[b]? = some (.map #[{ key:=.int .i64 0,val:=v,born:=0 }] aj)):(Instr.lookup 168 (.map (some b)) (.int .i64 0) false).run Tryz.prog w = .ok v w:=by
 have hc:(Instr.checkKey false 10000 3 (.int .i64 0)).run Tryz.prog w = .ok () w:=MapKept.run_checkKey (k:=.int .i64 0) Qkh (by simp [MapKept.IsKey]) false 9999;have hf:Instr.findNow (.int .i64) (.int .i64 (0:Int)) [({ key:=.int .i64 0,val:=v,born:=0 }:MapEntry)] 0=some (some (0,v)):=rfl;simp [Instr.lookup,run_underlying Tryz.underlying168,MapKept.run_getObj_map hb,hc,MapKept.run_findKey Qkh hf,Result.andThen]
theorem i3:∃ i,Tryz.prog.info? 3=some i/\i.zero=some (.int .i64 0)/\i.size=1/\i.bytes=8:=by
 have h:(Tryz.prog.info? 3).map (fun i=>(i.zero,i.size,i.bytes))=some (some (.int .i64 0),1,8):=by kernel_rfl
 obtain ⟨i,h1,h2⟩:=Qkc.1 h;simp only [Prod.mk.injEq] at h2;exact ⟨i,h1,h2⟩
theorem Q6D (w:World):Calls Tryz.prog 64 #[.int .i64 5,.agg #[.int .i64 0,.int .i64 3,.int .i64 1,.int .i64 2,.int .i64 0],.agg #[.int .i64 0,.int .i64 3,.int .i64 1,.int .i64 2,.int .i64 0]] w fun e w'=>e = .returned (.bool false)/\RowKit.Below w.heap.size w w':=by
 have he:(Hu 9).E Dl 0 true [.d (.int .i64 5),.ag ([D.int .i64 0,.int .i64 3,.int .i64 1,.int .i64 2,.int .i64 0].map .d),.ag ([D.int .i64 0,.int .i64 3,.int .i64 1,.int .i64 2,.int .i64 0].map .d)] (fun _=>none) some=some ⟨.d (.bool false),[],[]⟩:=by kernel_rfl
 have hu:RdLs (fun _=>False) w [.int .i64 0,.int .i64 3,.int .i64 1,.int .i64 2,.int .i64 0] [D.int .i64 0,.int .i64 3,.int .i64 1,.int .i64 2,.int .i64 0]:=.cons (.int _ _) (.cons (.int _ _) (.cons (.int _ _) (.cons (.int _ _) (.cons (.int _ _) .nil))));exact Kf (XR ((Hu 9).ok) he) (S:=fun _=>False) (fun _ h=>h.elim) (Q7S (.d _ _ (.int _ _)) hu.agg hu.agg)
set_option maxHeartbeats 1000000 in
set_option maxRecDepth 100000 in
theorem Tryz.visit1 (w:World) (a:Addr) (cap:Nat) (fv:Value) (h0:w.cell? a=some (.int .i64 0)) (h1:w.cell? ⟨a.block,a.off+1,none⟩=some (.int .i64 3)) (h2:w.cell? ⟨a.block,a.off+2,none⟩=some (.int .i64 1)) (h3:w.cell? ⟨a.block,a.off+3,none⟩=some (.int .i64 2)) (h4:w.cell? ⟨a.block,a.off+4,none⟩=some (.int .i64 0)) :
  Calls Tryz.prog 34 #[.int .i64 5,.slice (some a) 1 cap,fv] w fun e w'=>e = .returned (.tuple #[])/\Below w.heap.size w w':=by
 have aj:=EP h0;have br:∀ w:World,(Instr.makeMap 168 none).run Tryz.prog w = .ok (.map (some w.heap.size)) (w.alloc (.map #[] 0)):=fun w=>run_makeMap 168 w
 have b1:∀ w:World,(Instr.makeSlice 22 (.int .i64 1) (.int .i64 1)).run Tryz.prog w = .ok (.slice (some ⟨w.heap.size,0,none⟩) 1 1) (w.alloc (.cells #[.int .i64 0] 3)):=fun w=>by kernel_rfl
 go_enter Tryz.func34,Tryz.ntmps34
 go_wp2
 go_loopw [8,9,20] (fun i8 i9 i wr=>i = .int .i64 0/\wr.heap.size=w.heap.size+2/\wr.heap[w.heap.size]? = some (.map #[] 0)/\wr.heap[w.heap.size+1]? = some (.cells #[.int .i64 0] 3 (0,0))/\Below w.heap.size w wr\/i = .int .i64 1/\VF w wr)
  (fun _ _ i _=>1-(intOf i).toNat)
 case atStart=>exact .inl ⟨rfl,by simp,by rw [Qk5 _ _ _ (by simp)];exact heap_alloc_new w _,by rw [show w.heap.size+1=(w.alloc (.map #[] 0)).heap.size by simp];exact heap_alloc_new _ _,⟨rfl,rfl,rfl,by simp;omega,fun k hk=>by rw [Qk5 _ _ _ (by simp;omega),Qk5 _ _ _ hk]⟩⟩
 case round=>
  rcases hrel with ⟨rfl,hs,hM,hP,hB⟩ | ⟨rfl,hV⟩
  ·have d0:=Xu h0 (hB.block _ aj);have d1:=Xu h1 (hB.block _ aj);have d2:=Xu h2 (hB.block _ aj);have d3:=Xu h3 (hB.block _ aj);have d4:=Xu h4 (hB.block _ aj);have f1:(wr.alloc (.cells #[.int .i64 0,.int .i64 3,.int .i64 1,.int .i64 2,.int .i64 0] 45)).heap[w.heap.size]? = some (.map #[] 0):=by rw [Qk5 _ _ _ (by omega)];exact hM
   have ar:=Ea f1;have f2:(wr.alloc (.cells #[.int .i64 0,.int .i64 3,.int .i64 1,.int .i64 2,.int .i64 0] 45)).heap[w.heap.size+1]? = some (.cells #[.int .i64 0] 3 (0,0)):=by rw [Qk5 _ _ _ (by omega)];exact hP
   have f3:(wr.alloc (.cells #[.int .i64 0,.int .i64 3,.int .i64 1,.int .i64 2,.int .i64 0] 45)).cell? ⟨w.heap.size+1,0,none⟩=some (.int .i64 0):=by rw [Qk3 f2];rfl
   have f4:=Lib.frozen_of_heap f2 0
   go_wp2
   have ao:∀ k,k≠w.heap.size+1->(wr.setCell ⟨w.heap.size+1,0,none⟩ (.int .i64 0)).heap[k]? = wr.heap[k]?:=fun k hk=>Below.heap_setCell wr ⟨w.heap.size+1,0,none⟩ _ k hk
   have au:(wr.setCell ⟨w.heap.size+1,0,none⟩ (.int .i64 0)).heap.size=w.heap.size+2:=by simp [World.setCell,hs]
   have g1:((wr.setCell ⟨w.heap.size+1,0,none⟩ (.int .i64 0)).alloc (.cells #[.int .i64 0,.int .i64 3,.int .i64 1,.int .i64 2,.int .i64 0] 45)).heap[w.heap.size]? = some (.map #[] 0):=by rw [Qk5 _ _ _ (by omega),ao _ (by omega)];exact hM
   have g2:((wr.setCell ⟨w.heap.size+1,0,none⟩ (.int .i64 0)).alloc (.cells #[.int .i64 0,.int .i64 3,.int .i64 1,.int .i64 2,.int .i64 0] 45)).heap[w.heap.size+1]? = some (.cells #[.int .i64 0] 3 (0,0)):=by rw [Qk5 _ _ _ (by omega)];unfold World.setCell;dsimp only;rw [Array.getElem?_modify,if_pos rfl,hP];rfl
   have g3:((wr.setCell ⟨w.heap.size+1,0,none⟩ (.int .i64 0)).alloc (.cells #[.int .i64 0,.int .i64 3,.int .i64 1,.int .i64 2,.int .i64 0] 45)).heap[w.heap.size+2]? = some (.cells #[.int .i64 0,.int .i64 3,.int .i64 1,.int .i64 2,.int .i64 0] 45 (0,0)):=by rw [<- au];exact heap_alloc_new _ _
   have gB:Below w.heap.size w ((wr.setCell ⟨w.heap.size+1,0,none⟩ (.int .i64 0)).alloc (.cells #[.int .i64 0,.int .i64 3,.int .i64 1,.int .i64 2,.int .i64 0] 45)):=⟨hB.os,hB.tape,hB.output,by simp [World.setCell];omega,fun k hk=>by rw [Qk5 _ _ _ (by omega),ao _ (by omega)];exact hB.block k hk⟩;have gs:((wr.setCell ⟨w.heap.size+1,0,none⟩ (.int .i64 0)).alloc (.cells #[.int .i64 0,.int .i64 3,.int .i64 1,.int .i64 2,.int .i64 0] 45)).heap.size=w.heap.size+3:=by simp [World.setCell,hs]
   generalize ((wr.setCell ⟨w.heap.size+1,0,none⟩ (.int .i64 0)).alloc (.cells #[.int .i64 0,.int .i64 3,.int .i64 1,.int .i64 2,.int .i64 0] 45))=w2 at *
   clear hM hP hB hs d0 d1 d2 d3 d4 f1 ar f2 f3 f4 ao au;have q1:(w2.alloc (.cells #[.int .i64 0] 3)).heap[w.heap.size]? = some (.map #[] 0):=by rw [Qk5 _ _ _ (by omega)];exact g1
   have bj:=Ea (w:=w2.drew) g1;have bi:=Ea (w:=(w2.alloc (.cells #[.int .i64 0] 3)).drew) q1;have q2:(w2.alloc (.cells #[.int .i64 0] 3)).drew.cell? ⟨w.heap.size+3,0,none⟩=some (.int .i64 0):=by
    have:=Qk3 (heap_alloc_new w2 (.cells #[.int .i64 0] 3)) 0;rw [gs] at this;exact this
   obtain ⟨i0,bg,a7,bh,bc⟩:∃ i,Tryz.prog.info? 3=some i/\i.zero=some (.int .i64 0)/\i.size=1/\i.bytes=8:=i3;have e3:w2.cell? ⟨w.heap.size+2,0,none⟩=some (.int .i64 0):=by rw [Qk3 g3];rfl
   go_region_law (refine step_append_grows rfl (.tmp 39) (.tmp 41) 22 rfl 3 i0 (.int .i64 0) 1 8 Tryz.underlying22 bg a7 bh bc rfl (by decide) none 0 0 [] (by simp [Act.eval,Act.put]) (fun _=>⟨rfl,rfl⟩) rfl (by simp) ⟨w.heap.size+3,0,none⟩ 1 1 [.int .i64 0] (by simp [Act.eval,Act.put,gs]) rfl (fun j u hj=>by rcases j with _ | j <;> simp at hj;subst hj;exact q2) (by simp [Value.oneCell']) (by decide) (by decide) (by decide) ?_;intro v' w' ay an;have b3:=Q77 (w:=w') v' ((an.block w.heap.size (by simp;omega) (by simp)).trans q1);have e4:w'.cell? ⟨w.heap.size+2,0,none⟩=some (.int .i64 0):=Xu e3 ((an.block (w.heap.size+2) (by simp;omega) (by simp)).trans (Qk5 w2 _ _ (by omega))))
   all_goals
    have hV:=QgO gs gB g2 (w1:=(w2.alloc (.cells #[.int .i64 0] 3)).drew) (fun k hk=>Qk5 w2 _ k hk) rfl rfl rfl (by simp) (by simp <;> omega) ay an
    go_wp2
    go_roundw
    all_goals first
     |exact .inr ⟨by go_num,hV⟩
     |(simp [intOf] <;> omega)
  ·go_wp2
   go_loopw [10,11,13,46] (fun bx bp ba i wr=>i = .int .i64 0/\VF w wr\/i = .int .i64 1/\Below w.heap.size w wr)
    (fun _ _ _ i _=>1-(intOf i).toNat)
   case atStart=>exact .inl ⟨rfl,hV⟩
   case round=>
    rcases hrel with ⟨rfl,hV⟩ | ⟨rfl,hB⟩
    ·obtain ⟨hs,hB,hP,g,c,hM,hG⟩:=hV;have d0:=Xu h0 (hB.block _ aj);have d1:=Xu h1 (hB.block _ aj);have d2:=Xu h2 (hB.block _ aj);have d3:=Xu h3 (hB.block _ aj);have d4:=Xu h4 (hB.block _ aj)
     go_wp2
     have k0:w.heap.size<wr.heap.size:=by omega
     have k1:(wr.alloc (.cells #[.int .i64 0,.int .i64 3,.int .i64 1,.int .i64 2,.int .i64 0] 45)).heap[w.heap.size]? = some (.map #[{ key:=.int .i64 0,val:=.slice (some ⟨g,0,none⟩) 1 c,born:=0 }] 1):=(Qk5 wr _ _ k0).trans hM;have k2:=Xu hP (Qk5 wr (.cells #[.int .i64 0,.int .i64 3,.int .i64 1,.int .i64 2,.int .i64 0] 45) _ (EP hP));have k4:=Xu hG (Qk5 wr (.cells #[.int .i64 0,.int .i64 3,.int .i64 1,.int .i64 2,.int .i64 0] 45) _ (EP hG));have hu:=heap_alloc_new wr (.cells #[.int .i64 0,.int .i64 3,.int .i64 1,.int .i64 2,.int .i64 0] 45);have kB:Below w.heap.size w (wr.alloc (.cells #[.int .i64 0,.int .i64 3,.int .i64 1,.int .i64 2,.int .i64 0] 45)):=⟨hB.os,hB.tape,hB.output,by simp;omega,fun k hk=>(Qk5 wr _ _ (by omega)).trans (hB.block k hk)⟩;generalize (wr.alloc (.cells #[.int .i64 0,.int .i64 3,.int .i64 1,.int .i64 2,.int .i64 0] 45))=w3 at *
     generalize wr.heap.size=ub at *
     clear hM hP hG hB d0 d1 d2 d3 d4;have ar:=Q0d (w:=w3.drew) k1;have bk:=Q0d k1;have u0:w3.cell? ⟨ub,0,none⟩=some (.int .i64 0):=by rw [Qk3 hu];rfl
     have u1:w3.cell? ⟨ub,1,none⟩=some (.int .i64 3):=by rw [Qk3 hu];rfl
     have u2:w3.cell? ⟨ub,2,none⟩=some (.int .i64 1):=by rw [Qk3 hu];rfl
     have u3:w3.cell? ⟨ub,3,none⟩=some (.int .i64 2):=by rw [Qk3 hu];rfl
     have u4:w3.cell? ⟨ub,4,none⟩=some (.int .i64 0):=by rw [Qk3 hu];rfl
     have d0:=Xu h0 (kB.block _ aj);have d1:=Xu h1 (kB.block _ aj);have d2:=Xu h2 (kB.block _ aj);have d3:=Xu h3 (kB.block _ aj);have d4:=Xu h4 (kB.block _ aj)
     go_region
     go_wp2
     go_loopw [13,61] (fun ba i wr=>i = .int .i64 0/\wr=w3.drew\/i = .int .i64 1/\Below w.heap.size w wr)
      (fun _ i _=>1-(intOf i).toNat)
     case atStart=>exact .inl ⟨rfl,rfl⟩
     case round=>
      rcases hrel with ⟨rfl,rfl⟩ | ⟨rfl,hB⟩
      ·go_wp2
       first | go_region_with (go_at_call 64;refine (Q6D _).mono ?_;rintro e w4 ⟨rfl,a8⟩) | done
       all_goals
        have bb:Below w.heap.size w w4:=Ux (w1:=w3.drew.drew) ⟨kB.os,kB.tape,kB.output,kB.size,kB.block⟩ (Qkg _) a8
        go_wp2
        go_roundw
        all_goals first
         |exact .inr ⟨by go_num,bb⟩
         |(simp [intOf] <;> omega)
      ·go_wp2
       go_roundw
       all_goals first
        |exact .inr ⟨by go_num,hB⟩
        |(simp [intOf] <;> omega)
    ·go_wp2
     go_end0
     exact ⟨rfl,hB⟩
abbrev LU:LL:=[[D.int .i64 0,.int .i64 3,.int .i64 1,.int .i64 2,.int .i64 0]]
theorem Q44 {S:Nat->Prop} {w:World} (hS:∀ b,S b->b<w.heap.size) {v:Value} (hv:Rd S w v (.sl 5 LU)):Calls Tryz.prog 33 #[.int .i64 5,v] w fun e w'=>e = .returned (.bool true)/\RowKit.Below w.heap.size w w':=by
 have he:(Kj 9).E Dl 0 true [.d (.int .i64 5),.d (.sl 5 LU)] (fun _=>none) some=some ⟨.d (.bool true),[],[]⟩:=by kernel_rfl
 exact Kf (XR ((Kj 9).ok) he) hS (Kn (.d _ _ (.int _ _)) (.d _ _ hv))
set_option maxHeartbeats 1000000 in
set_option maxRecDepth 100000 in
theorem Tryz.free1 {S:Nat->Prop} {w:World} (hS:∀ b,S b->b<w.heap.size) (a:Addr) (cap:Nat) (hv:Rd S w (.slice (some a) 1 cap) (.sl 5 LU)) (h0:w.cell? a=some (.int .i64 0)) (h1:w.cell? ⟨a.block,a.off+1,none⟩=some (.int .i64 3)) (h2:w.cell? ⟨a.block,a.off+2,none⟩=some (.int .i64 1)) (h3:w.cell? ⟨a.block,a.off+3,none⟩=some (.int .i64 2)) (h4:w.cell? ⟨a.block,a.off+4,none⟩=some (.int .i64 0)) :
  Calls Tryz.prog 13 #[.int .i64 5,.slice (some a) 1 cap] w fun e w'=>e = .returned (.bool true)/\Below w.heap.size w w':=by
 have ak:=EP h0
 go_enter Tryz.func13,Tryz.ntmps13
 go_wp2_with (go_at_call 33;refine (Q44 hS hv).mono ?_)
 rintro e w1 ⟨rfl,hB⟩;have hk:∀ k,k<w.heap.size->(w1.alloc (.cells #[.bool true] 4)).heap[k]? = w.heap[k]?:=fun k hk=>(Qk5 w1 _ k (by have:=hB.size;omega)).trans (hB.block k hk)
 have d0:=Xu h0 (hk _ ak);have d1:=Xu h1 (hk _ ak);have d2:=Xu h2 (hk _ ak);have d3:=Xu h3 (hk _ ak);have d4:=Xu h4 (hk _ ak);have hw:=heap_alloc_new w1 (.cells #[.bool true] 4);have aw:w.heap.size<=w1.heap.size:=hB.size;have ax:(w1.alloc (.cells #[.bool true] 4)).heap.size=w1.heap.size+1:=by simp
 go_wp2_with (go_at_call 34;refine (Tryz.visit1 (w1.alloc (.cells #[.bool true] 4)) a cap _ d0 d1 d2 d3 d4).mono ?_)
 rintro e w2 ⟨rfl,aj⟩;have hf:w2.cell? ⟨w1.heap.size,0,none⟩=some (.bool true):=by rw [Qk3 ((aj.block _ (by omega)).trans hw)];rfl
 go_wp2
 refine bodyPost_ret (results_tmp rfl _ _ _) rfl ?_;exact ⟨rfl,aj.os.trans hB.os,aj.tape.trans hB.tape,aj.output.trans hB.output,by have:=aj.size;omega,fun k ao=>(aj.block k (by omega)).trans (hk k ao)⟩
theorem Q9G {t:Int} {rows:LL} (h:QcE t rows=true):t=5/\rows=LU:=by
 unfold QcE at h;split at h
 ·simp only [Qka,decide_eq_true_eq] at h;obtain ⟨rfl,rfl,rfl,rfl,rfl,rfl⟩:=h;exact ⟨rfl,rfl⟩
 ·cases h
theorem rdD {S:Nat->Prop} {w:World} {v:Value} {x:Go.Vx.D} (h:RdA (fun _=>none) S (fun _=>none) w tm0 v (.d x)):Rd S w v x:=by
 cases h with
 |d _ _ q=>exact q
 |dang v av l hl=>cases hl
theorem Q4p (n:Nat) (a0:Int) (a1:LL) (res:Bool) {hl:Nat->Option Ob} (h:Po n a0 a1 some=some res):Zi Tryz.prog 13 [.d (.int .i64 a0),.d (.sl 5 a1)] hl ⟨.d (.bool res),[],[]⟩:=by
 obtain ⟨ao,h⟩:=XB h;injection h with h
 subst h;obtain ⟨rfl,rfl⟩:=Q9G ao;refine Sg (fn:=Tryz.f13) (by kernel_rfl) (by kernel_rfl) (by kernel_rfl) rfl rfl fun S w args hS hA=>?_
 obtain ⟨v,u,rfl,hv,hu⟩:=Q5t hA;have hv:=GV (rdD hv);subst hv;have hu:=rdD hu;obtain ⟨ad,cap,rfl⟩:=Gc hu;obtain ⟨a,rfl,ha,_,aj⟩:=Q68 (i:=0) hu rfl;obtain ⟨u0,x0,y0⟩:=aj 0 _ rfl;obtain ⟨u1,x1,y1⟩:=aj 1 _ rfl;obtain ⟨u2,x2,y2⟩:=aj 2 _ rfl;obtain ⟨u3,x3,y3⟩:=aj 3 _ rfl;obtain ⟨u4,x4,y4⟩:=aj 4 _ rfl;have e0:a.add (0*5)=a:=by simp [Addr.add]
 rw [GV y0,Nat.add_zero,e0] at x0;rw [GV y1,J7 _ _ _ (by decide),e0] at x1;rw [GV y2,J7 _ _ _ (by decide),e0] at x2;rw [GV y3,J7 _ _ _ (by decide),e0] at x3;rw [GV y4,J7 _ _ _ (by decide),e0] at x4;refine (Tryz.free1 hS a cap hu x0 x1 x2 x3 x4).mono fun e w' ⟨he,hB⟩=>?_
 exact ⟨_,S,he,fun b h=>h,fun b h=>.inl h,fun b h=>Qk8 (hS b h) hB.size,.d _ _ (.bool _),hB⟩
end Go.Proofs
namespace Go.Vx
open Go.Proofs
variable (n:Nat)
def Hk (n:Nat):TK:=fun _ _ g aj _ k=>match aj with
 | [c0,c1]=>prI g .i64 c0 fun a0=>prS g 5 c1 fun a1=>gb g (Po n a0 a1 some) false fun r=>k ⟨.d (D.bool r),[],[]⟩
 | _=>none
theorem E3 (n:Nat):Ve Tryz.prog 13 (Hk n):=by
  intro R ak g an hl k r h
  unfold Hk at h
  split at h
  rotate_left
  · cases h
  obtain ⟨a0,h,a⟩:=C9 h
  obtain ⟨a1,h,b⟩:=WN h
  obtain ⟨res,h,hr⟩:=QM h
  exact ⟨_,h,fun hg=>Zi.conv (.cons (a hg) (.cons (b hg) .nil)) (Q4p n a0 a1 res (hr hg))⟩
end Go.Vx
set_option maxRecDepth 100000
namespace Go.Vx
open Go.Proofs
variable (n:Nat)
def L3:EZ9 36:=mkD (Xa [] []).ok nT 36 Tryz.f36 0 @Ta n
def FY:EZ9 117:=mkD (Xa [] []).ok nT 117 Tryz.f117 0 @Nw n
def EL:EZ9 118:=mkD (Xa [] []).ok nT 118 Tryz.f118 0 @RQ n
def T5:EZ9 66:=mkD (Xa [⟨117,FY n⟩,⟨118,EL n⟩] []).ok nT 66 Tryz.f66 0 @G4 n
def RO:EZ9 143:=mkD (Xa [] []).ok nT 143 Tryz.f143 0 @Vi n
def A6:EZ9 114:=mkD (Xa [⟨143,RO n⟩] []).ok nT 114 Tryz.f114 0 @D5 n
def Y6:BZ9:=Xa [⟨114,A6 n⟩] []
def Jk:LZ9:=mkU (Y6 n).ok nT 4 Tryz.f108 [(0,.arr 1000000),(1,tI),(2,tI),(6,tI),(7,tI)] [(1000000,.arr 3 1)] 217 [xE 2 [(30,.b)]] @Ya n
def Jh:LZ9:=mkU (Y6 n).ok [Jk n n] 1 Tryz.f108 [(0,.arr 1000000),(1,tI),(2,tI),(6,tI)] [(1000000,.arr 3 1)] 76 [xE 0 [(12,.b)]] @Y9 n
def Js:EZ9 108:=Q75 (mkW (Y6 n).ok [Jh n n] 108 Tryz.f108 [eR 1000000 3 1,sI,sI] [eT 0] [(1,eK 1000000 3 1)] 0 0 @WU n)
def V3:BZ9:=Xa [⟨108,Js n⟩] []
def Ki:LZ9:=mkU (V3 n).ok nT 2 Tryz.f65 [(0,.arr 1000000),(1,tI),(2,tI),(3,tI),(8,.cb true),(9,.cb true)] [(1000000,.arr 3 1)] 40 [.f .ret [] [(1000000,.arr 3 1)] [0]] @UZ n
def H5:EZ9 65:=Q75 (mkW (V3 n).ok [Ki n n] 65 Tryz.f65 [eR 1000000 3 1,sI,sI,sI] [eT 0] [(1,eK 1000000 3 1)] 0 0 @VJ n)
def S8:EZ9 37:=Q75 (mkW (Xa [⟨66,T5 n⟩,⟨65,H5 n⟩] []).ok nT 37 Tryz.f37 [eR 1000000 3 1] [eT 0] [(1,eK 1000000 3 1)] 0 0 @GZ n)
def Up (n:Nat):BZ9:=Xa [] []
def P7:LZ9:=mkU (Up n).ok nT 9 Tryz.f38 [(0,.l 1),(3,tI),(4,.l 1),(5,tI)] [] 67 [xE 2 [(32,.b)]] @Uq n
def Pj:LZ9:=mkU (Up n).ok [P7 n n] 4 Tryz.f38 [(0,.l 1),(3,tI)] [] 7 [xE 0 [(13,.b)]] @Uo n
def Pw:EZ9 38:=mkD (Up n).ok [Pj n n] 38 Tryz.f38 0 @GY n
def RZ:BZ9:=Xa [⟨33,Kj n⟩,⟨36,L3 n⟩,⟨37,S8 n⟩,⟨38,Pw n⟩] [(5,⟨[],[],[(9,1009,3,1)],[],[]⟩),(11,⟨[],[],[],[],[1009]⟩)]
def B4:LZ9:=mkU (RZ n).ok nT 6 Tryz.f15 [(0,tI),(2,tI),(9,.arr 1009),(10,tI),(20,.l 5),(21,tI),(22,tI)] [(1009,.arr 3 1)] 2065 [xE 0 [(23,.b)]] @Gr n
def A4:EZ9 15:=mkD (RZ n).ok [B4 n n] 15 Tryz.f15 0 @D9 n
def R9 (n:Nat):BZ9:=Xa [] []
def Dy:LZ9:=mkU (R9 n).ok nT 4 Tryz.f14 [(0,.l 1),(1,.l 1),(12,tI),(13,tI)] [] 67 [.f .ret [(4,.cb false)] [] [],xE 0 [(14,.b)]] @Hs n
def CO:EZ9 14:=mkD (R9 n).ok [Dy n n] 14 Tryz.f14 0 @LS n
def Q1k:EZ9 6:=mkD (Xa [⟨13,⟨Hk n,E3 n⟩⟩,⟨15,A4 n⟩,⟨14,CO n⟩] [(1,⟨[],[],[],[],[3]⟩)]).ok nT 6 Tryz.f6 0 @Ti n
end Go.Vx
namespace Go.Proofs
open Go.RowKit
theorem As {P:Program} {w:World} (a:Addr) (m:Mode) (f:Fn) (x y:Array Value):(store a (.func f x y) m).run P w=stored P w a (.func f x y) m:=run_store P w a _ m rfl
attribute [local go_sem] As
def KI (r:Nat->Int):Nat->Nat->Int
 |0,_=>0
 |n+1,k=>if r k=0 then KI r n (k+1) else r k
theorem Sa (r:Nat->Int):∀ (n k m:Nat),(∀ j,k<=j->j<k+m->r j=0)->KI r (m+n) k=KI r n (k+m)
 |n,k,0,_=>by simp
 |n,k,m+1,h=>by
  rw [show m+1+n=(m+n)+1 by omega];simp only [KI];rw [if_pos (h k (Qkg _) (by omega)),Sa r n (k+1) m (fun j a h2=>h j (by omega) (by omega))];rw [show k+1+m=k+(m+1) by omega]
theorem Below.of {n:Nat} {w w':World} (a:w'.os=w.os) (h2:w'.tape=w.tape) (c:w'.output=w.output) (d:w.heap.size<=w'.heap.size) (e:∀ b,b<n->w'.heap[b]? = w.heap[b]?):Below n w w':=by
 exact ⟨a,h2,c,d,e⟩
set_option maxHeartbeats 4000000 in
set_option maxRecDepth 100000 in
theorem Tryz.plancheck_calls (w:World) (a0 a1 a2 d p0 p1 g l m n o p:Value) (r:Nat->Int)
  (h:∀ k:Nat,k<8->∀ w':World,w.heap.size<=w'.heap.size->(∀ b,b<w.heap.size->w'.heap[b]? = w.heap[b]?) ->
   Calls Tryz.prog (119+k) #[.agg #[a0,a1,a2,d],.agg #[p0,p1,g,l,m,n,o,p]] w' fun e ax=>e = .returned (.int .i64 (r k))/\Below w'.heap.size w' ax)
  (c:∀ x∈[a0,a1,a2,d,p0,p1,g,l,m,n,o,p],x.oneCell'=true) :
  Calls Tryz.prog 67 #[.agg #[a0,a1,a2,d],.agg #[p0,p1,g,l,m,n,o,p]] w fun e w'=>e = .returned (.int .i64 (KI r 8 0))/\Below w.heap.size w w':=by
 go_enter Tryz.func67,Tryz.ntmps67
 go_wp2
 go_loopw [11] (fun i wr=>∃ k:Nat,k<=8/\i = .int .i64 k/\(∀ j,j<k->r j=0)/\wr.heap[w.heap.size]? = some (.cells #[a0,a1,a2,d] 27 (0,0))/\wr.heap[w.heap.size+1]? = some (.cells #[p0,p1,g,l,m,n,o,p] 36 (0,0))/\Below w.heap.size w wr)
  (fun i _=>8-(intOf i).toNat)
 case atStart=>
  refine ⟨0,by omega,rfl,fun j hj=>absurd hj (by omega),?_,?_,?_⟩
  ·rw [Qk5 _ _ _ (by simp;omega),Qk5 _ _ _ (by simp)];exact heap_alloc_new w _
  ·rw [Qk5 _ _ _ (by simp),show w.heap.size+1=(w.alloc (.cells #[a0,a1,a2,d] 27)).heap.size by simp];exact heap_alloc_new _ _
  ·refine Below.of rfl rfl rfl (by simp;omega) fun b hb=>?_
   rw [Qk5 _ _ _ (by simp;omega),Qk5 _ _ _ (by simp;omega),Qk5 _ _ _ hb]
 case round=>
  obtain ⟨k,hk,rfl,hz,f,a,hB⟩:=hrel;by_cases aq:k<8
  ·have az:((k:Int)<8):=by omega
   have c0:wr.cell? ⟨w.heap.size,0,none⟩=some a0:=by rw [Qk3 f];rfl
   have c1:wr.cell? ⟨w.heap.size,1,none⟩=some a1:=by rw [Qk3 f];rfl
   have s:wr.cell? ⟨w.heap.size,2,none⟩=some a2:=by rw [Qk3 f];rfl
   have t:wr.cell? ⟨w.heap.size,3,none⟩=some d:=by rw [Qk3 f];rfl
   have d0:wr.cell? ⟨w.heap.size+1,0,none⟩=some p0:=by rw [Qk3 a];rfl
   have d1:wr.cell? ⟨w.heap.size+1,1,none⟩=some p1:=by rw [Qk3 a];rfl
   have u:wr.cell? ⟨w.heap.size+1,2,none⟩=some g:=by rw [Qk3 a];rfl
   have v:wr.cell? ⟨w.heap.size+1,3,none⟩=some l:=by rw [Qk3 a];rfl
   have y:wr.cell? ⟨w.heap.size+1,4,none⟩=some m:=by rw [Qk3 a];rfl
   have z:wr.cell? ⟨w.heap.size+1,5,none⟩=some n:=by rw [Qk3 a];rfl
   have d6:wr.cell? ⟨w.heap.size+1,6,none⟩=some o:=by rw [Qk3 a];rfl
   have d7:wr.cell? ⟨w.heap.size+1,7,none⟩=some p:=by rw [Qk3 a];rfl
   have hw:wrap64 ((k:Int)+1)=((k+1:Nat):Int):=by unfold wrap64;omega
   have ay:∀ w:World,(Instr.index 221 (.agg #[.func (.func 119) #[] #[],.func (.func 120) #[] #[],.func (.func 121) #[] #[],.func (.func 122) #[] #[],.func (.func 123) #[] #[],.func (.func 124) #[] #[],.func (.func 125) #[] #[],.func (.func 126) #[] #[]]) (.int .i64 k)).run Tryz.prog w = .ok (.func (.func (119+k)) #[] #[]) w:=by
    intro w;obtain rfl | rfl | rfl | rfl | rfl | rfl | rfl | rfl:k=0\/k=1\/k=2\/k=3\/k=4\/k=5\/k=6\/k=7:=by omega
    all_goals rfl
   have a3:∀ (w:World) (ar:Array Value),(callFunc (119+k) ar).run Tryz.prog w = .ok (.enter (119+k) ar) w:=by
    intro w ar;obtain rfl | rfl | rfl | rfl | rfl | rfl | rfl | rfl:k=0\/k=1\/k=2\/k=3\/k=4\/k=5\/k=6\/k=7:=by omega
    all_goals rfl
   have hc:=h k aq wr hB.size hB.block;clear hw
   go_wp2
   refine hc.mono ?_;rintro e q ⟨rfl,aj⟩;have ao:Below w.heap.size w q:=hB.trans ⟨aj.os,aj.tape,aj.output,aj.size,fun b hb=>aj.block b (Qk8 hb hB.size)⟩;have l0:=(Qkf.1 f).1;have l1:=(Qkf.1 a).1;by_cases hr:r k=0
   ·rw [hr]
    go_wp2
    go_roundw
    case rel=>
     refine ⟨k+1,by omega,rfl,fun j hj=>?_,(aj.block _ l0).trans f,(aj.block _ l1).trans a,ao⟩;by_cases e:j=k
     ·rw [e];exact hr
     ·exact hz j (by omega)
    case measure=>simp [intOf];omega
   ·have ak:KI r 8 0=r k:=by
     have e:=Sa r (8-k) 0 k fun j _ h2=>hz j (by omega)
     rw [show k+(8-k)=8 by omega] at e;rw [e,show 8-k=(7-k)+1 by omega,Qkj];simp [KI,hr]
    go_wp2
    refine bodyPost_ret (results_tmp rfl _ _ _) rfl ?_;exact ⟨by rw [ak];rfl,ao⟩
  ·have ak:KI r 8 0=0:=by
    have e:=Sa r 0 0 8 fun j _ h2=>hz j (by omega)
    exact e
   go_wp2
   refine bodyPost_ret (results_tmp rfl _ _ _) rfl ?_;exact ⟨by rw [ak];rfl,hB⟩
end Go.Proofs
namespace Go.Vx
open Go.Proofs
variable (n:Nat)
def Ju (n:Nat):TK:=fun _ _ g aj _ k=>match aj with
 | [c0]=>
  prG c0 fun l0=>(match l0 with
  | [a,b,c,d]=>prS g 1 a fun e=>prS g 1 b fun f=>prS g 5 c fun h=>prS g 6 d fun i=>
  gb g (Zp n e f h i some) 0 fun r=>k ⟨.d (D.int .i64 r),[],[]⟩
  | _=>none)
 | _=>none
theorem Tf (n:Nat):Ve Tryz.prog 166 (Ju n):=by
  intro R ak g an hl k r h
  unfold Ju at h
  split at h
  rotate_left
  · cases h
  replace h:=Q1g h
  obtain ⟨l0,h,e⟩:=h
  subst e
  split at h
  rotate_left
  · cases h
  replace h:=WN h
  obtain ⟨a,h,f⟩:=h
  replace h:=WN h
  obtain ⟨b,h,i⟩:=h
  replace h:=WN h
  obtain ⟨c,h,j⟩:=h
  replace h:=WN h
  obtain ⟨d,h,l⟩:=h
  replace h:=QM h
  obtain ⟨res,h,hr⟩:=h
  exact ⟨_,h,fun hg=>Zi.conv (avs':=[.ag [.d (D.sl 1 a),.d (D.sl 1 b),.d (D.sl 5 c),.d (D.sl 6 d)]]) (.cons (.ag (.cons (f hg) (.cons (i hg) (.cons (j hg) (.cons (l hg) .nil))))) .nil) (Q1D n a b c d res (hr hg))⟩
end Go.Vx
set_option maxRecDepth 100000
namespace Go.Vx
open Go.Proofs
variable (n:Nat)
def P4:BZ9:=Xa [⟨166,⟨Ju n,Tf n⟩⟩] []
def LA:LZ9:=mkU (P4 n).ok nT 12 Tryz.f119 [(3,.ptr 3 0),(41,.l 4),(42,tI),(43,tI)] [(3,bT 36 [])] 22 [.f .ret [(4,.ci .i64 7)] [] [],xE 1 [(44,.b)]] @ZA n
def Pz:EZ9 119:=mkD (P4 n).ok [LA n n] 119 Tryz.f119 0 @UO n
def GL:EZ9 169:=mkW (Xa [] []).ok nT 169 Tryz.f169 (eA [qT,qI,qI,qI,qI]::pT 1000000 72 [] []) [sB] [] 990 62 @Va n
def Xs:BZ9:=Xa [⟨169,GL n⟩] []
def YQ:LZ9:=mkU (Xs n).ok nT 2 Tryz.f214 [(0,.l 5),(1,.fn 169 [.ptr 1000000 0]),(7,tI),(8,tI)] [(1000000,bT 72 [])] 49 [.f .ret [(4,tI)] [(1000000,bT 72 [])] [0,4,5,6,7,8],xE 0 [(9,.b)]] @QH n
def YV:EZ9 214:=mkW (Xs n).ok [YQ n n] 214 Tryz.f214 (sL 5::eF 169 1::pT 1000000 72 [] []) [sI] [] 60 62 @XG n
def YL:EZ9 168:=mkW (Xa [⟨214,YV n⟩] []).ok nT 168 Tryz.f168 (sL 5::eF 169 1::pT 1000000 72 [] []) [sB] [] 60 62 @Xr n
def Hd:EZ9 170:=mkD (Xa [] []).ok nT 170 Tryz.f170 0 @Ut n
def Tm:BZ9:=Xa [⟨167,TR n⟩,⟨168,YL n⟩,⟨170,Hd n⟩] []
def Mt:LZ9:=mkU (Tm n).ok nT 2 Tryz.f120 [(3,.ptr 3 0),(8,.l 5),(9,tI),(10,tI)] [(3,bT 36 [])] 103 [.f .ret [(4,tI)] [] [0],xE 0 [(11,.b)]] @JG n
def TV:EZ9 120:=mkD (Tm n).ok [Mt n n] 120 Tryz.f120 0 @U4 n
def Au:EZ9 241:=mkD (Xa [] []).ok nT 241 Tryz.f241 0 @RH n
def BB:EZ9 254:=mkD (Xa [] []).ok nT 254 Tryz.f254 0 @SM n
def DJ:EZ9 255:=mkD (Xa [] []).ok nT 255 Tryz.f255 0 @Mj n
def Tw:BZ9:=Xa [⟨254,BB n⟩,⟨255,DJ n⟩] []
def MG:LZ9:=mkU (Tw n).ok nT 3 Tryz.f242 [(8,.ptr 8 0),(9,.ptr 9 0),(20,.l 6),(21,tI),(22,tI)] [(8,.box [tI,tI]),(9,.box [tI,tI])] 1102 [.f .ret [(6,tI),(7,.cb true)] [] [0],xE 0 [(23,.b)]] @JP n
def Fl:EZ9 242:=mkD (Tw n).ok [MG n n] 242 Tryz.f242 0 @JD n
def GB:BZ9:=Xa [⟨166,⟨Ju n,Tf n⟩⟩,⟨241,Au n⟩,⟨242,Fl n⟩] [(24,⟨[],[],[(11,1011,3,1)],[],[]⟩)]
def CX:LZ9:=mkU (GB n).ok nT 10 Tryz.f215 [(2,.ptr 2 0),(3,.ptr 3 0),(40,.l 2),(41,tI),(42,tI)] [(2,bT 27 []),(3,.box [.l 2,tI])] 1102 [.f .ret [(4,.nil),(5,.ci .i64 4)] [] [],xE 1 [(43,.b)]] @WK n
def BA:LZ9:=mkU (GB n).ok nT 17 Tryz.f215 [(2,.ptr 2 0),(3,.ptr 3 0),(8,.arr 54),(56,.l 2),(57,tI),(58,tI)] [(2,bT 27 []),(3,.box [.l 2,tI]),(54,.arr 4 1)] 39388 [.f .ret [(4,.nil),(5,.ci .i64 5)] [] [],xE 3 [(59,.b)]] @Gb n
def B0:LZ9:=mkU (GB n).ok nT 25 Tryz.f215 [(2,.ptr 2 0),(3,.ptr 3 0),(11,.arr 1011),(74,.l 2),(75,tI),(76,tI)] [(2,bT 27 []),(3,.box [.l 2,tI]),(1011,.arr 3 1)] 42655 [.f .ret [(4,.nil),(5,.ci .i64 11)] [] [],xE 5 [(77,.b)]] @Wz n
def Aj:EZ9 215:=mkD (GB n).ok [CX n n,BA n n,B0 n n] 215 Tryz.f215 0 @KY n
def Lt:EZ9 171:=mkD (Xa [⟨215,Aj n⟩] []).ok nT 171 Tryz.f171 0 @Tv n
def Tt:BZ9:=Xa [⟨171,Lt n⟩] []
def MT:LZ9:=mkU (Tt n).ok nT 2 Tryz.f121 [(2,.ptr 2 0),(9,.l 2),(10,tI),(11,tI)] [(2,bT 27 [])] 1102 [.f .ret [(4,tI)] [] [0],xE 0 [(12,.b)]] @YW n
def TZ:EZ9 121:=mkD (Tt n).ok [MT n n] 121 Tryz.f121 0 @U2 n
def K9:EZ9 173:=mkW (Xa [] []).ok nT 173 Tryz.f173 (eA [qT,qI,qI,qL 4]::pT 1000000 83 [] []) [sB] [] 238 30 @ZL n
def XA:BZ9:=Xa [⟨173,K9 n⟩] []
def Zb:LZ9:=mkU (XA n).ok nT 2 Tryz.f216 [(0,.l 4),(1,.fn 173 [.ptr 1000000 0]),(7,tI),(8,tI)] [(1000000,bT 83 [])] 49 [.f .ret [(4,tI)] [(1000000,bT 83 [])] [0,4,5,6,7],xE 0 [(9,.b)]] @Qa n
def Zj:EZ9 216:=mkW (XA n).ok [Zb n n] 216 Tryz.f216 (sL 4::eF 173 1::pT 1000000 83 [] []) [sI] [] 28 30 @QS n
def YP:EZ9 172:=mkW (Xa [⟨216,Zj n⟩] []).ok nT 172 Tryz.f172 (sL 4::eF 173 1::pT 1000000 83 [] []) [sB] [] 28 30 @Qn n
def Fo:EZ9 174:=mkD (Xa [] []).ok nT 174 Tryz.f174 0 @T9 n
def R1:EZ9 177:=mkD (Xa [] []).ok nT 177 Tryz.f177 0 @Kb n
end Go.Vx
namespace Go.Vx
variable {R:Type}
def N7 (n:Nat) (a0 a1:Int) (K:Int->Int->oP R):oP R:= gb true (B8 32) () fun a=>K (IntKind.wrap .u32 (shR .u64 (IntKind.wrap .u64 ((IntKind.wrap .u64 a0)*(IntKind.wrap .u64 a1))) 32)) (IntKind.wrap .u32 (IntKind.wrap .u64 ((IntKind.wrap .u64 a0)*(IntKind.wrap .u64 a1))))
end Go.Vx
namespace Go.Vx
variable {R:Type}
def Tl (n:Nat) (a0 a1:Int) (K:Int->Int->oP R):oP R:= gb true (B8 32) () fun a=>gb true (B8 32) () fun u2=>gb true (B8 32) () fun u3=>gb true (B8 32) () fun b=>gb true (B8 32) () fun c=>K (IntKind.wrap .u64 ((IntKind.wrap .u64 ((IntKind.wrap .u64 ((shR .u64 a0 32)*(shR .u64 a1 32)))+(shR .u64 (IntKind.wrap .u64 ((IntKind.wrap .u64 ((shR .u64 a0 32)*(Q5S .u64 a1 4294967295)))+(shR .u64 (IntKind.wrap .u64 ((Q5S .u64 a0 4294967295)*(Q5S .u64 a1 4294967295))) 32))) 32)))+(shR .u64 (IntKind.wrap .u64 ((Q5S .u64 (IntKind.wrap .u64 ((IntKind.wrap .u64 ((shR .u64 a0 32)*(Q5S .u64 a1 4294967295)))+(shR .u64 (IntKind.wrap .u64 ((Q5S .u64 a0 4294967295)*(Q5S .u64 a1 4294967295))) 32))) 4294967295)+(IntKind.wrap .u64 ((Q5S .u64 a0 4294967295)*(shR .u64 a1 32))))) 32))) (IntKind.wrap .u64 (a0*a1))
end Go.Vx
namespace Go.Vx
variable {R:Type}
def HY (n:Nat) (a0 a1:Int) (K:Int->Int->oP R):oP R:= bif false then gb true (N7 n (IntKind.wrap .u32 a0) (IntKind.wrap .u32 a1) Tu2) (0,0) fun a=>K (IntKind.wrap .u64 a.1) (IntKind.wrap .u64 a.2) else gb true (Tl n a0 a1 Tu2) (0,0) fun c=>K c.1 c.2
end Go.Vx
set_option maxRecDepth 100000
namespace Go.Vx
open Go.Proofs
variable (n:Nat)
def EF:EZ9 268:=mkD (Xa [] []).ok nT 268 Tryz.f268 0 @N7 n
def Ef:EZ9 269:=mkD (Xa [] []).ok nT 269 Tryz.f269 0 @Tl n
def RP:EZ9 263:=mkD (Xa [⟨268,EF n⟩,⟨269,Ef n⟩] []).ok nT 263 Tryz.f263 0 @HY n
end Go.Vx
namespace Go.Vx
open Go.Proofs Go.RowKit
section
variable {P:Program}
theorem Q0u (w:World) (dT sT ty aj:TypeId) (g o ak aq k:Nat) (a:Addr) (ao au:Nat) (an:Array Value) (t:TypeId) (cs:List Value)
  (hu:P.underlying dT=some (.slice aj)) (hs:(P.info? aj).map (·.size)=some k)
  (hg:w.heap[g]? = some (.cells an t (0,0))) (hn:cs.length=Nat.min ao ak*k)
  (aw:∀ j v,cs[j]? = some v->w.cell? (a.add j)=some v) (ar:o+cs.length<=an.size) (b:∀ v∈cs,v.oneCell'=true) :
  (Builtin.copy_ #[dT,sT] ty #[.slice (some ⟨g,o,none⟩) ak aq,.slice (some a) ao au]).run P w =
   .ok (goInt (Nat.min ao ak)) (w.setRow g (an.toList.take o++cs++an.toList.drop (o+cs.length)).toArray):=by
 have hl:=run_loadCells_list (P:=P) w a cs aw;have ax:=run_storeCells_at P g o t cs 0 an w hg (by simpa using ar) b;cases hq:P.info? aj with
 |none=>simp [hq] at hs
 |some i=>
  have hi:i.size=k:=by simpa [hq] using hs
  simp [Builtin.copy_,run_underlying hu,Builtin.lenOf,Builtin.firstCells,sizeOf,typeInfo,hq,hi,<- hn,hl,ax]
theorem Q3i (w:World) (dT sT ty aj:TypeId) (g o ak aq k:Nat) (a:Addr) (an ar:Nat) (ao:Array Value) (t:TypeId) (cs:List Value) (m:Nat)
  (hu:P.underlying dT=some (.slice aj)) (hs:(P.info? aj).map (·.size)=some k)
  (hg:w.heap[g]? = some (.cells ao t (0,0))) (hm:Nat.min an ak=m) (hn:cs.length=m*k)
  (aw:∀ j v,cs[j]? = some v->w.cell? (a.add j)=some v) (au:o+cs.length<=ao.size) (c:∀ v∈cs,v.oneCell'=true) :
  ∃ w',(Builtin.copy_ #[dT,sT] ty #[.slice (some ⟨g,o,none⟩) ak aq,.slice (some a) an ar]).run P w = .ok (.int .i64 (m:Int)) w' /\
   w'.heap[g]? = some (.cells (splice ao.toList o cs).toArray t (0,0))/\(∀ n,n<=g->∀ w0:World,Below n w0 w->Below n w0 w'):=by
 subst hm;refine ⟨_,Q0u w dT sT ty aj g o ak aq k a an ar ao t cs hu hs hg hn aw au c,by simpa [splice] using setRow_heap w g _ _ t _ hg,fun n hn w0 h=>⟨h.os,h.tape,h.output,by simpa [World.setRow] using h.size,fun b hb=>(setRow_other w g b _ (by omega)).trans (h.block b hb)⟩⟩
theorem BZ {w:World} {au:Array Oper} {o:Oper} {a:Act} {K:Act->World->Prop} {Q:Exit->Act->World->Prop} {E:Prop} (az:o.guard=none) (d s:Operand) (dT sT:TypeId)
  (ho:o.op = .call { callee:=.builtin .copy,args:=#[d,s],argTypes:=#[dT,sT] }) (aj:TypeId) (k:Nat) (hu:P.underlying dT=some (.slice aj)) (a2:(P.info? aj).map (·.size)=some k)
  (g off ak aq:Nat) (ad:Addr) (an ar:Nat) (hd:a.eval d = .slice (some ⟨g,off,none⟩) ak aq) (hs:a.eval s = .slice (some ad) an ar)
  (ao:Array Value) (t:TypeId) (hg:w.heap[g]? = some (.cells ao t (0,0))) (cs:List Value) (m:Nat) (hm:Nat.min an ak=m) (hn:cs.length=m*k)
  (ay:∀ j v,cs[j]? = some v->w.cell? (ad.add j)=some v) (aw:off+cs.length<=ao.size) (b:∀ v∈cs,v.oneCell'=true)
  (h:∀ w',w'.heap[g]? = some (.cells (splice ao.toList off cs).toArray t (0,0))->(∀ n,n<=g->∀ w0:World,Below n w0 w->Below n w0 w')->K (a.put o.dst (.int .i64 (m:Int))) w') :
  if Region.wanted o (yielded au a.tmps)=true then Oper.wp P o a w K Q else E:=by
 have hw:Region.wanted o (yielded au a.tmps)=true:=by simp [Region.wanted,az]
 rw [if_pos hw];obtain ⟨w',ax,h2,c⟩:=Q3i (P:=P) w dT sT o.type aj g off ak aq k ad an ar ao t cs m hu a2 hg hm hn ay aw b;unfold Oper.wp;simp [execOp,ho,resolve,invoke,builtin,hd,hs,ax,Result.andThen];exact h w' h2 c
end
def Ma (a b:Value):Nat->List Value
 |0=>[]
 |m+1=>a::b::Ma a b m
theorem UN (a b:Value):∀ m,(Ma a b m).length=m*2
 |0=>rfl
 |m+1=>by simp [Ma,UN a b m];omega
theorem Q0L (a b:Value) (k:Nat):∀ m,Ma a b (m+k)=Ma a b m++Ma a b k
 |0=>by simp [Ma]
 |m+1=>by rw [show m+1+k=(m+k)+1 by omega];simp [Ma,Q0L a b k m]
theorem Q8q (a b:Value) {m k:Nat} (h:m<=k):(Ma a b k).take (m*2)=Ma a b m:=by
 obtain ⟨d,rfl⟩:=Nat.exists_eq_add_of_le h;rw [Q0L,List.take_append_of_le_length (by rw [UN];omega),Qke (by rw [UN];omega)]
theorem Q0A {a b:Value}:∀ {m:Nat} {v:Value},v∈Ma a b m->v=a\/v=b
 |m+1,v,h=>by
  simp only [Ma,List.mem_cons] at h;rcases h with h | h | h
  ·exact .inl h
  ·exact .inr h
  ·exact Q0A h
theorem Q8Y (a b:Value):∀ (m i:Nat),i<m->(Ma a b m)[i*2]? = some a/\(Ma a b m)[i*2+1]? = some b
 |m+1,0,h=>by simp [Ma]
 |m+1,i+1,h=>by
  have:=Q8Y a b m i (by omega);rw [show (i+1)*2=i*2+1+1 by omega];simpa [Ma] using this
theorem mul_one (c:Nat) (hc:c<=100000):HY 0 1 (c:Int) (fun a b=>some (a,b))=some (0,(c:Int)):=by
 have d:shR .u64 1 (32:Int)=0:=by decide
 have h2:shR .u64 (c:Int) (32:Int)=0:=by
  show (c:Int).fdiv (2 ^ (min (32:Int).toNat IntKind.u64.bits))=0;rw [show (min (32:Int).toNat IntKind.u64.bits)=32 from rfl,Int.fdiv_eq_ediv_of_nonneg _ (by decide)];omega
 have e:Q5S .u64 1 (4294967295:Int)=1:=by decide
 have f:Q5S .u64 (c:Int) (4294967295:Int)=(c:Int):=by
  unfold Q5S;rw [BitVec.toNat_and,IntKind.wrap_u64];have e1:(BitVec.ofInt IntKind.u64.bits (c:Int)).toNat=c:=by
   rw [BitVec.toNat_ofInt];show ((c:Int) % ((2 ^ 64:Nat):Int)).toNat=c;omega
  have e2:(BitVec.ofInt IntKind.u64.bits (4294967295:Int)).toNat=2 ^ 32-1:=by decide
  rw [e1,e2,Nat.and_two_pow_sub_one_eq_mod];omega
 have w0:IntKind.u64.wrap 0=0:=by decide
 have wc:IntKind.u64.wrap (c:Int)=(c:Int):=by rw [IntKind.wrap_u64];omega
 have s0:shR .u64 0 (32:Int)=0:=by decide
 have a0:Q5S .u64 0 (4294967295:Int)=0:=by decide
 simp only [HY,Tl,cond_false,B8,d,h2,e,f,gb,Int.zero_mul,Int.one_mul,Int.mul_zero,Int.add_zero,w0,wc,s0,a0];rfl
theorem Q4D {β:Nat->Option Nat} {S:Nat->Prop} {h:Nat->Option Ob} {w:World} {tm:Nat->Value} {v:Value} {k:IntKind} {n:Int} (h:RdA β S h w tm v (.d (.int k n))):v = .int k n:=by
 cases h with
 |d _ _ q=>exact GV q
 |dang _ _ _ hl=>cases hl
theorem Q7Z (c:Nat) (hc:c<=100000) (w:World):Calls Tryz.prog 263 #[.int .u64 1,.int .u64 (c:Int)] w fun e w'=>e = .returned (.tuple #[.int .u64 0,.int .u64 c])/\RowKit.Below w.heap.size w w':=by
 have he:(RP 0).E Dl 0 true [.d (.int .u64 1),.d (.int .u64 (c:Int))] (fun _=>none) some=some ⟨.tup [.d (D.int .u64 0),.d (D.int .u64 (c:Int))],[],[]⟩:=by
  show gb true (HY 0 1 (c:Int) (fun g i=>some (g,i))) (0,0) (fun r=>(some ⟨.tup [.d (D.int .u64 r.1),.d (D.int .u64 r.2)],[],[]⟩:Option Dl))=_;rw [mul_one c hc];rfl
 refine (Cj (S:=fun _=>False) (XR ((RP 0).ok) he) (fun _ h=>h.elim) (Kn (.d _ _ (.int _ _)) (.d _ _ (.int _ _)))).mono fun e w' ⟨v,S',j,h2,k⟩=>⟨?_,k⟩
 rw [j];cases h2 with
 |tup cs l hl hr=>
  have d:=Q4D (hr 0 _ rfl);have f:=Q4D (hr 1 _ rfl);obtain ⟨l⟩:=cs
  match l,hl with
  |[a,b],_=>
   simp at d f;rw [d,f]
 |dang v av l hl=>cases hl
noncomputable def Qcr:Code:=(Gi (Tryz.f256.body.getD .skip)).getD 9 .skip
set_option maxHeartbeats 8000000 in
set_option maxRecDepth 100000 in
theorem Tryz.repeat_r9 (d f u2 u3 g i l o p q r s t u x y z aa ab ac ad ae ag ah ai aj ak al am an ao ap aq ar au av ax ay az ba bb bc bd be bg aw a b:Value) (H c m k:Nat) (cu:Array Value) (w:World) (bh:m<c) (b5:(m:Int)<(c:Int)) (hk:Nat.min m (c-m)=k) (a3:w.heap[H]? = some (.cells cu 283 (0,0))) (h0:(0:Int)<=(m:Int)) (cf:(m:Int)<=(c:Int))
  (a7:∀ (j:Nat) (v:Value),(Ma a b k)[j]? = some v->w.drew.cell? ((⟨H,0,none⟩:Addr).add j)=some v) (a6:m*2+(Ma a b k).length<=cu.size) (a5:∀ v∈Ma a b k,v.oneCell'=true) (cj:IntKind.i64.wrap ((m:Int)+(k:Int))=((m+k:Nat):Int)) :
  Code.wp Tryz.prog Qcr (Q5x fun act w'=>∃ (bi bj bk bl bm bn bo bp bq:Value),act=⟨(d::f::u2::u3::g::i::l::.slice (some ⟨H,0,none⟩) c c::.int .i64 ((m:Int)+(k:Int))::o::p::q::r::s::t::u::x::y::z::aa::ab::ac::ad::ae::ag::ah::ai::aj::ak::al::am::an::ao::ap::aq::ar::au::av::bi::bj::bk::bl::bm::bn::bo::bp::bq::aw::[]).toArray,[]⟩/\w'.heap[H]? = some (.cells (splice cu.toList (m*2) (Ma a b k)).toArray 283 (0,0))/\(∀ n,n<=H->∀ w0:World,Below n w0 w->Below n w0 w')) ⟨(d::f::u2::u3::g::i::l::.slice (some ⟨H,0,none⟩) c c::.int .i64 (m:Int)::o::p::q::r::s::t::u::x::y::z::aa::ab::ac::ad::ae::ag::ah::ai::aj::ak::al::am::an::ao::ap::aq::ar::au::av::ax::ay::az::ba::bb::bc::bd::be::bg::aw::[]).toArray,[]⟩ w:=by
 conv=>arg 2;whnf
 have mixed:Tryz.prog.follows .mixedOrders=true:=by kernel_rfl
 have a8:(Tryz.prog.info? 283).map (·.size)=some 2:=by kernel_rfl
 have bv:c=m->0=m*2:=fun e=>absurd e (Nat.ne_of_gt bh)
 have a2:w.drew.heap[H]? = some (.cells cu 283 (0,0)):=a3
 go_region_law (first
  |(refine BZ (by rfl) _ _ 239 239 (by rfl) 283 2 Tryz.underlying239 a8 H (m*2) (c-m) (c-m) ⟨H,0,none⟩ m c (by go_simp;exact bv) (by go_simp) cu 283 a2 (Ma a b k) k hk (UN _ _ _) a7 a6 a5 ?_;intro w3 a9 br))
 all_goals
  dsimp only [Q5x];exact ⟨_,_,_,_,_,_,_,_,_,rfl,a9,fun n hn w0 h=>br n hn w0 (h.trans ⟨rfl,rfl,rfl,Qkg _,fun _ _=>rfl⟩)⟩
theorem Q6F {a b:Value} {m k:Nat} {L:List Value} (aj:L.take (m*2)=Ma a b m):(splice L (m*2) (Ma a b k)).take ((m+k)*2)=Ma a b (m+k):=by
 simp only [splice];rw [aj,List.take_append,Qke (by rw [UN];omega),UN,List.take_append_of_le_length (by rw [UN];omega),Qke (by rw [UN];omega),Q0L]
theorem QdM {m k c:Nat} (h:m+k<=c) (hk:0<k):c-(intOf (.int .i64 ((m:Int)+(k:Int)))).toNat<c-(intOf (.int .i64 (m:Int))).toNat:=by
 simp only [intOf];omega
set_option maxHeartbeats 4000000 in
set_option maxRecDepth 100000 in
theorem Tryz.repeat_calls (w:World) (ad:Addr) (cap c:Nat) (b d:Value) (hc:c<=100000) (o:w.cell? (ad.add 0)=some b) (r:w.cell? (ad.add 1)=some d) (o0:b.oneCell'=true) (o1:d.oneCell'=true) :
  Calls Tryz.prog 256 #[.slice (some ad) 1 cap,.int .i64 (c:Int)] w fun e w'=>∃ (H:Nat) (aj:Array Value),e = .returned (.slice (some ⟨H,0,none⟩) c c)/\w.heap.size<=H/\w'.heap[H]? = some (.cells aj 283 (0,0))/\aj.size=c*2/\aj.toList=Ma b d c/\Below w.heap.size w w':=by
 obtain ⟨s,hi,t⟩:=Qkc.1 (show (Tryz.prog.info? 283).map (fun i=>(i.zero.isSome,i.size,i.bytes))=some (true,2,16) by kernel_rfl);obtain ⟨hz,g⟩:=Prod.mk.inj t;obtain ⟨g,u⟩:=Prod.mk.inj g;obtain ⟨z,hz⟩:=Option.isSome_iff_exists.1 hz;have ay:∀ w:World,∃ aj:Array Value,aj.size=c*2/\(Instr.makeSlice 239 (.int .i64 (c:Int)) (.int .i64 (c:Int))).run Tryz.prog w = .ok (.slice (some ⟨w.heap.size,0,none⟩) c c) (w.alloc (.cells aj 283)):=by
  intro w;refine ⟨madeCells z.cells (c*2),size_madeCells _ _,?_⟩;have:=run_make (P:=Tryz.prog) w 239 283 s z Tryz.underlying239 hi hz .i64 .i64 (c:Int) (c:Int) (by omega) (by omega) (by rw [u];omega) (by omega);rw [g] at this;exact this
 have a6:(Tryz.prog.info? 283).map (·.size)=some 2:=by rw [hi];simp [g]
 have bx:IntKind.u64.wrap (c:Int)=(c:Int):=by rw [IntKind.wrap_u64];omega
 have bq:IntKind.i64.wrap (c:Int)=(c:Int):=by rw [IntKind.wrap_i64];omega
 have g0:(0:Int)<=(c:Int):=by omega
 have g1:¬ (9223372036854775807:Int)<(c:Int):=by omega
 go_enter Tryz.func256,Tryz.ntmps256
 go_wp2_with (go_at_call 263;refine (Q7Z c hc _).mono ?_)
 rintro e w1 rfl hB;obtain ⟨aj,bc,a8⟩:=ay w1;clear ay;have au:=Ub hB (Qkg _) (.cells aj 283);have a3:∀ a:Addr,a.block<w.heap.size->(w1.alloc (.cells aj 283)).cell? a=w.cell? a:=fun a ha=>Xu (au.block _ ha)
 have bz:=fun (j:Nat)=>Jt ad j
 have ba:ad.block<w.heap.size:=by have:=World.block_lt_of_cell? w _ o;rwa [Jt] at this
 have hH:(w1.alloc (.cells aj 283)).heap[w1.heap.size]? = some (.cells aj 283 (0,0)):=heap_alloc_new w1 _;obtain ⟨f,p⟩:∃ f,Nat.min 1 c=f:=⟨_,rfl⟩;have q:f<=1/\f<=c/\(0<c->0<f):=by rw [<- p];simp only [Nat.min_def];split <;> omega
 obtain ⟨w2,az,bh,bm⟩:=Q3i (P:=Tryz.prog) (w1.alloc (.cells aj 283)) 239 239 3 283 w1.heap.size 0 c c 2 ad 1 cap aj 283 (Ma b d f) f Tryz.underlying239 a6 hH p (UN _ _ _)
  (fun j v hj=>by
   have l:=(Qk4.1 hj).1;rw [UN] at l;rw [a3 _ (by rw [Jt];exact ba)];have hm:f=1:=by omega
   subst hm;obtain rfl | rfl:j=0\/j=1:=by omega
   ·simp [Ma] at hj;rw [<- hj];exact o
   ·simp [Ma] at hj;rw [<- hj];exact r)
  (by rw [UN];omega) (fun v hv=>by rcases Q0A hv with rfl | rfl <;> assumption)
 have bb:=bm w.heap.size hB.size w au;have aw:=hB.size;generalize bo:w1.heap.size=H at *
 go_wp2
 go_loopw [8] (fun i wr=>∃ (m:Nat) (cu:Array Value),i = .int .i64 (m:Int)/\m<=c/\(0<c->0<m)/\wr.heap[H]? = some (.cells cu 283 (0,0))/\cu.size=c*2/\cu.toList.take (m*2)=Ma b d m/\Below w.heap.size w wr)
  (fun i _=>c-(intOf i).toNat)
 case atStart=>
  refine ⟨f,_,rfl,q.2.1,q.2.2,bh,?_,?_,bb⟩
  ·simp only [List.size_toArray];rw [length_splice _ _ _ (by rw [UN];simp;omega)];simpa using bc
  ·simp only [splice,List.take_zero,List.nil_append];rw [List.take_append_of_le_length (by rw [UN];exact Qkg _),Qke (by rw [UN];exact Qkg _)]
 case round=>
  obtain ⟨m,cu,rfl,bv,bl,ak,aq,ar,hF⟩:=hrel;clear a8 az;by_cases x:m<c
  ·have a2:((m:Int)<(c:Int)):=by omega
   have hp:0<m:=bl (by omega);obtain ⟨k,hk⟩:∃ k,Nat.min m (c-m)=k:=⟨_,rfl⟩;have n:k<=m/\m+k<=c/\0<k:=by rw [<- hk];simp only [Nat.min_def];split <;> omega
   have e1:(if c=m then (some ⟨H,0,none⟩:Option Addr) else (some (⟨H,0,none⟩:Addr)).map (·.add (m*2)))=some ⟨H,m*2,none⟩:=by
    rw [if_neg (by omega)];simp [KZ]
   have a4:∀ (j:Nat) (v:Value),(Ma b d k)[j]? = some v->wr.drew.cell? ((⟨H,0,none⟩:Addr).add j)=some v:=by
    intro j v hj;have l:=(Qk4.1 hj).1;rw [UN] at l;rw [KZ,Qkj];show wr.cell? _=_;rw [cell_of_row wr H j cu 283 (0,0) ak,<- Qki];have e:(cu.toList.take (m*2))[j]? = some v:=by
     rw [ar];have e2:=Q8q b d n.1;rw [<- e2,List.getElem?_take,if_pos l] at hj;exact hj
    rw [List.getElem?_take] at e;split at e
    ·exact e
    ·cases e
   have ao:m*2+(Ma b d k).length<=cu.size:=by rw [UN];omega
   have ax:∀ v∈Ma b d k,v.oneCell'=true:=fun v hv=>by rcases Q0A hv with rfl | rfl <;> assumption
   have a5:wr.drew.heap[H]? = some (.cells cu 283 (0,0)):=ak;have bj:IntKind.i64.wrap ((m:Int)+(k:Int))=((m+k:Nat):Int):=by rw [IntKind.wrap_i64];omega
   go_wp2
   refine Code.wp_mono ?_ (Tryz.repeat_r9 _ _ _ _ _ _ _ _ _ _ _ _ _ _ _ _ _ _ _ _ _ _ _ _ _ _ _ _ _ _ _ _ _ _ _ _ _ _ _ _ _ _ _ _ _ _ b d H c m k cu wr x a2 hk ak (by omega) (by omega) a4 ao ax bj);rintro e act w3 h;cases e with
   |normal=>
    obtain ⟨_,_,_,_,_,_,_,_,_,rfl,a9,bi⟩:=h
    go_wp2
    refine ⟨⟨m+k,_,by rw [Int.natCast_add],n.2.1,fun _=>Qk8 hp (Nat.le_add_right m k),a9,?_,?_,bi _ aw w hF⟩,?_⟩
    ·simp only [List.size_toArray];rw [length_splice _ _ _ (by simpa using ao)];simpa using aq
    ·exact Q6F ar
    ·exact QdM n.2.1 n.2.2
   |_=>exact h.elim
  ·have y:m=c:=by omega
   subst y
   go_wp2
   refine bodyPost_ret (results_tmp rfl _ _ _) rfl ?_;refine ⟨H,cu,rfl,aw,ak,aq,?_,hF⟩;rw [<- ar,Qke (by simpa using Nat.le_of_eq aq)]
theorem Qbd {S:Nat->Prop} {w:World} {v:Value} {x:D} (h:Rd S w v x):v.oneCell'=true:=by cases h <;> rfl
theorem Q9t {S:Nat->Prop} {w:World} {H c:Nat} {aj:Array Value} {a d:Value} {f g:D} (k:Rd S w a f) (l:Rd S w d g) (hH:w.heap[H]? = some (.cells aj 283 (0,0))) (ak:aj.toList=Ma a d c) :
  Rd (fun b=>S b\/b=H) w (.slice (some ⟨H,0,none⟩) c c) (.sl 2 (List.replicate c [f,g])):=by
 have e:=Rd.sl (S:=fun b=>S b\/b=H) (w:=w) ⟨H,0,none⟩ c 2 (List.replicate c [f,g]) (fun i j=>if j=0 then a else d) (.inr rfl) (by simp) (fun i r hr=>?_) (fun i j r x hr hx=>?_) (fun i j r x hr hx=>?_)
 ·simpa using e
 ·obtain ⟨_,rfl⟩:=Qkb.1 (Qk6 hr);rfl
 ·have hi:i<c:=by have:=(Qk4.1 hr).1;simpa using this
  obtain ⟨_,rfl⟩:=Qkb.1 (Qk6 hr);have hj:=(Qk4.1 hx).1;simp at hj;rw [KZ,Qkj,cell_of_row w H _ aj 283 (0,0) hH,<- Qki,ak];have:=Q8Y a d c i hi;obtain rfl | rfl:j=0\/j=1:=by omega
  ·simpa using this.1
  ·simpa using this.2
 ·obtain ⟨_,rfl⟩:=Qkb.1 (Qk6 hr);have hj:=(Qk4.1 hx).1;simp at hj;obtain rfl | rfl:j=0\/j=1:=by omega
  ·simp at hx;subst hx;simpa using k.mono (fun _ h=>.inl h) (fun _ _=>rfl)
  ·simp at hx;subst hx;simpa using l.mono (fun _ h=>.inl h) (fun _ _=>rfl)
theorem Q1f (n:Nat) (a0:LL) (a1:Int) (res:LL) {hl:Nat->Option Ob} (h:Qd n a0 a1 some=some res):Zi Tryz.prog 256 [.d (D.sl 2 a0),.d (D.int .i64 a1)] hl ⟨.d (D.sl 2 res),[],[]⟩:=by
 unfold Qd at h;obtain ⟨hc,h⟩:=XB h;simp only [Qka,decide_eq_true_eq] at hc;obtain ⟨⟨e1,hp⟩,hq⟩:=hc;have e1:=Nat.eq_of_beq_eq_true e1;injection h with h
 obtain ⟨c,rfl⟩:=Int.eq_ofNat_of_zero_le hp
 match a0,e1 with
 |[row],_=>
  subst h;refine Sg (fn:=Tryz.f256) (by kernel_rfl) (by kernel_rfl) (by kernel_rfl) rfl rfl fun S w args hS hA=>?_
  obtain ⟨hl,hA⟩:=hA
  match args,hl with
  |[j,k],_=>
   have a:=hA 0 _ _ rfl rfl;have i:=Q4D (hA 1 _ _ rfl rfl);subst i;cases a with
   |dang _ _ _ hl=>cases hl
   |d _ _ a=>
    cases a with
    |sl ad cap _ _ cf a2 ax ar aj ao=>
     have an:=ar 0 row rfl
     match row,an with
     |[l,m],_=>
      have k0:=aj 0 0 _ _ rfl rfl;have k1:=aj 0 1 _ _ rfl rfl;have f:=ao 0 0 _ _ rfl rfl;have g:=ao 0 1 _ _ rfl rfl;refine (Tryz.repeat_calls w ad cap c (cf 0 0) (cf 0 1) (by omega) k0 k1 (Qbd f) (Qbd g)).mono fun e w' ⟨H,a3,he,hH,ak,a4,au,hB⟩=>?_
      have az:H<w'.heap.size:=(Qkf.1 ak).1;refine ⟨_,fun b=>S b\/b=H,he,fun b h=>.inl h,fun b h=>h.elim .inl fun e=>.inr (by omega),fun b h=>h.elim (fun h=>Qk8 (hS b h) hB.size) (fun e=>by omega),.d _ _ ?_,hB⟩;exact Q9t (Rd.mono (fun _ h=>h) (fun b hb=>hB.block b (hS b hb)) f) (Rd.mono (fun _ h=>h) (fun b hb=>hB.block b (hS b hb)) g) ak au
end Go.Vx
namespace Go.Vx
open Go.Proofs
variable (n:Nat)
def X8 (n:Nat):TK:=fun _ _ g aj _ k=>match aj with
 | [c0,c1]=>prS g 2 c0 fun a0=>prI g .i64 c1 fun a1=>
  gb g (Qd n a0 a1 some) [] fun r=>k ⟨.d (D.sl 2 r),[],[]⟩
 | _=>none
theorem Wh (n:Nat):Ve Tryz.prog 256 (X8 n):=by
  intro R ak g an hl k r h
  unfold X8 at h
  split at h
  rotate_left
  · cases h
  replace h:=WN h
  obtain ⟨a0,h,a⟩:=h
  replace h:=C9 h
  obtain ⟨a1,h,b⟩:=h
  replace h:=QM h
  obtain ⟨res,h,hr⟩:=h
  exact ⟨_,h,fun hg=>Zi.conv (avs':=[.d (D.sl 2 a0),.d (D.int .i64 a1)]) (.cons (a hg) (.cons (b hg) .nil)) (Q1f n a0 a1 res (hr hg))⟩
end Go.Vx
set_option maxRecDepth 100000
namespace Go.Vx
open Go.Proofs
variable (n:Nat)
def Mk:BZ9:=Xa [⟨171,Lt n⟩,⟨256,⟨X8 n,Wh n⟩⟩] [(5,⟨[],[],[(8,1008,283,2)],[],[]⟩)]
def BS:LZ9:=mkU (Mk n).ok nT 6 Tryz.f243 [(2,.ptr 2 0),(3,.ptr 3 0),(8,.arr 1008),(27,.l 2),(28,tI),(29,tI)] [(2,bT 27 []),(3,.box [.l 2,tI]),(1008,.arr 283 2)] 39631 [xE 0 [(30,.b)]] @Wa n
def Q1H:EZ9 243:=mkD (Mk n).ok [BS n n] 243 Tryz.f243 0 @Si n
def Hz:EZ9 229:=mkD (Xa [] []).ok nT 229 Tryz.f229 0 @Uf n
def RK:BZ9:=Xa [⟨243,Q1H n⟩,⟨170,Hd n⟩,⟨229,Hz n⟩] []
def CS:LZ9:=mkU (RK n).ok nT 7 Tryz.f218 [(3,.ptr 3 0),(5,.ptr 5 0),(6,.ptr 6 0),(8,.l 2),(9,tI),(29,.l 2),(30,tI),(31,tI)] [(3,bT 27 []),(5,bT 72 []),(6,.box [.nil,.ci .i64 0])] 61434 [.f .ret [(6,.ptr 6 0),(7,.ci .i64 12)] [(6,.box [.nil,.ci .i64 0])] [],xE 0 [(32,.b)]] @WC n
def Ml:EZ9 218:=mkD (RK n).ok [CS n n] 218 Tryz.f218 0 @KX n
def N6:EZ9 183:=mkD (Xa [⟨218,Ml n⟩] []).ok nT 183 Tryz.f183 0 @G7 n
def RN:EZ9 179:=mkD (Xa [] []).ok nT 179 Tryz.f179 0 @T2 n
def MO:EZ9 178:=mkD (Xa [] []).ok nT 178 Tryz.f178 0 @PM n
def DN:EZ9 175:=mkD (Xa [⟨177,R1 n⟩,⟨183,N6 n⟩,⟨179,RN n⟩,⟨178,MO n⟩] []).ok nT 175 Tryz.f175 0 @Jy n
def Gk:BZ9:=Xa [⟨167,TR n⟩,⟨172,YP n⟩,⟨174,Fo n⟩,⟨175,DN n⟩] []
def Fz:LZ9:=mkU (Gk n).ok nT 15 Tryz.f122 [(2,.ptr 2 0),(3,.ptr 3 0),(6,.ptr 6 0),(10,.l 4),(11,tI),(12,tI),(50,tI),(51,tI)] [(2,bT 27 []),(3,bT 36 []),(6,bT 83 [])] 5230176669 [.f .ret [(4,tI)] [] [0],xE 3 [(52,.b)]] @Zz n
def LG:LZ9:=mkU (Gk n).ok [Fz n n] 2 Tryz.f122 [(2,.ptr 2 0),(3,.ptr 3 0),(10,.l 4),(11,tI),(12,tI)] [(2,bT 27 []),(3,bT 36 [])] 7174462 [.f .ret [(4,tI)] [] [0],xE 0 [(13,.b)]] @Zy n
def S9:EZ9 122:=mkD (Gk n).ok [LG n n] 122 Tryz.f122 0 @V1 n
def Mh:EZ9 180:=mkD (Xa [] []).ok nT 180 Tryz.f180 0 @JS n
def Mc:EZ9 176:=mkD (Xa [⟨180,Mh n⟩] []).ok nT 176 Tryz.f176 0 @Uc n
def Hw:BZ9:=Xa [⟨176,Mc n⟩,⟨177,R1 n⟩,⟨174,Fo n⟩,⟨178,MO n⟩,⟨179,RN n⟩] []
def M3:LZ9:=mkU (Hw n).ok nT 2 Tryz.f123 [(2,.ptr 2 0),(3,.ptr 3 0),(10,.l 7),(11,tI),(12,tI)] [(2,bT 27 []),(3,bT 36 [])] 7173625 [.f .ret [(4,tI)] [] [0],xE 0 [(13,.b)]] @YK n
def Tq:EZ9 123:=mkD (Hw n).ok [M3 n n] 123 Tryz.f123 0 @Wp n
def Kh:EZ9 182:=mkW (Xa [] []).ok nT 182 Tryz.f182 (eA [qI,qI,qI,qI]::pT 1000000 147 [] []) [sB] [] 204 30 @ZI n
def XE:BZ9:=Xa [⟨182,Kh n⟩] []
def Ze:LZ9:=mkU (XE n).ok nT 2 Tryz.f217 [(0,.l 4),(1,.fn 182 [.ptr 1000000 0]),(7,tI),(8,tI)] [(1000000,bT 147 [])] 130 [.f .ret [(4,tI)] [(1000000,bT 147 [])] [0,4,5,6,7],xE 0 [(9,.b)]] @Qb n
def Zk:EZ9 217:=mkW (XE n).ok [Ze n n] 217 Tryz.f217 (sL 4::eF 182 1::pT 1000000 147 [] []) [sI] [] 24 30 @QT n
def YR:EZ9 181:=mkW (Xa [⟨217,Zk n⟩] []).ok nT 181 Tryz.f181 (sL 4::eF 182 1::pT 1000000 147 [] []) [sB] [] 24 30 @Ql n
def TM:BZ9:=Xa [⟨180,Mh n⟩,⟨177,R1 n⟩,⟨181,YR n⟩,⟨178,MO n⟩,⟨179,RN n⟩] []
def LY:LZ9:=mkU (TM n).ok nT 2 Tryz.f124 [(3,.ptr 3 0),(10,.l 4),(11,tI),(12,tI)] [(3,bT 36 [])] 88582 [.f .ret [(4,tI)] [] [0],xE 0 [(13,.b)]] @ZF n
def PN:EZ9 124:=mkD (TM n).ok [LY n n] 124 Tryz.f124 0 @V0 n
def P0:BZ9:=Xa [⟨176,Mc n⟩] []
def F0:LZ9:=mkU (P0 n).ok nT 2 Tryz.f125 [(3,.ptr 3 0),(8,.l 5),(9,tI),(10,tI)] [(3,bT 36 [])] 88582 [.f .ret [(4,.ci .i64 4)] [] [],xE 0 [(11,.b)]] @Zt n
def PW:EZ9 125:=mkD (P0 n).ok [F0 n n] 125 Tryz.f125 0 @US n
def Ht (n:Nat):BZ9:=Xa [] []
def M8:LZ9:=mkU (Ht n).ok nT 2 Tryz.f126 [(2,.ptr 2 0),(8,.l 3),(9,tI),(10,tI)] [(2,bT 27 [])] 49 [.f .ret [(4,.ci .i64 4)] [] [],xE 0 [(11,.b)]] @YJ n
def T7:EZ9 126:=mkD (Ht n).ok [M8 n n] 126 Tryz.f126 0 @Wi n
end Go.Vx
namespace Go.Vx
open Go.Proofs Go.RowKit
theorem Q6U {S:Nat->Prop} {w:World} {v:Value} {x:D} (h:Rd S w v x):v.oneCell'=true:=by cases h <;> rfl
theorem RdLs.one {S:Nat->Prop} {w:World} {vs:List Value} {xs:List D} (h:RdLs S w vs xs):∀ x∈vs,x.oneCell'=true:=by
 induction h with
 |nil=>simp
 |cons h _ ih=>
  intro x hx;rcases List.mem_cons.1 hx with rfl | hx
  ·exact Q6U h
  ·exact ih x hx
theorem RdLs.len {S:Nat->Prop} {w:World} {vs:List Value} {xs:List D} (h:RdLs S w vs xs):vs.length=xs.length:=by
 induction h with
 |nil=>rfl
 |cons _ _ ih=>simp [ih]
theorem RdLs.keep {S:Nat->Prop} {w w':World} {m:Nat} {vs:List Value} {xs:List D} (h:RdLs S w vs xs) (hS:∀ b,S b->b<m) (hw:∀ b,b<m->w'.heap[b]? = w.heap[b]?):RdLs S w' vs xs:=by
 induction h with
 |nil=>exact .nil
 |cons h _ ih=>exact .cons (Rd.keep h hS hw) ih
def Hb (a b c d:LL):List D:=[D.sl 1 a,D.sl 1 b,D.sl 5 c,D.sl 6 d]
def KV (a:Int) (b c d e f g h:LL):List D:=[D.int .i64 a,D.sl 5 b,D.sl 2 c,D.sl 4 d,D.sl 7 e,D.sl 4 f,D.sl 5 g,D.sl 3 h]
theorem DW {n:Nat} {a c d f:LL} {g:Int} {i j k l m o p:LL} (h:UO n a c d f g i j k l m o p some=some 0) {S:Nat->Prop} {w:World} (hS:∀ b,S b->b<w.heap.size) {vs us:List Value} (q:RdLs S w vs (Hb a c d f)) (s:RdLs S w us (KV g i j k l m o p)) :
  Calls Tryz.prog 119 #[.agg vs.toArray,.agg us.toArray] w fun e w'=>e = .returned (.int .i64 0)/\Below w.heap.size w w':=by
 have he:(Pz n).E Dl 0 true [.ag ((Hb a c d f).map .d),.ag ((KV g i j k l m o p).map .d)] (fun _=>none) some=some ⟨.d (.int .i64 0),[],[]⟩:=by
  show gb true (UO n a c d f g i j k l m o p some) 0 (fun r=>(some ⟨.d (D.int .i64 r),[],[]⟩:Option Dl))=_;rw [h];rfl
 exact Gz (XR ((Pz n).ok) he) hS (Kn (RdLs.agg q) (RdLs.agg s))
theorem EB {n:Nat} {a c d f:LL} {g:Int} {i j k l m o p:LL} (h:U4 n a c d f g i j k l m o p some=some 0) {S:Nat->Prop} {w:World} (hS:∀ b,S b->b<w.heap.size) {vs us:List Value} (q:RdLs S w vs (Hb a c d f)) (s:RdLs S w us (KV g i j k l m o p)) :
  Calls Tryz.prog 120 #[.agg vs.toArray,.agg us.toArray] w fun e w'=>e = .returned (.int .i64 0)/\Below w.heap.size w w':=by
 have he:(TV n).E Dl 0 true [.ag ((Hb a c d f).map .d),.ag ((KV g i j k l m o p).map .d)] (fun _=>none) some=some ⟨.d (.int .i64 0),[],[]⟩:=by
  show gb true (U4 n a c d f g i j k l m o p some) 0 (fun r=>(some ⟨.d (D.int .i64 r),[],[]⟩:Option Dl))=_;rw [h];rfl
 exact Gz (XR ((TV n).ok) he) hS (Kn (RdLs.agg q) (RdLs.agg s))
theorem EK {n:Nat} {a c d f:LL} {g:Int} {i j k l m o p:LL} (h:U2 n a c d f g i j k l m o p some=some 0) {S:Nat->Prop} {w:World} (hS:∀ b,S b->b<w.heap.size) {vs us:List Value} (q:RdLs S w vs (Hb a c d f)) (s:RdLs S w us (KV g i j k l m o p)) :
  Calls Tryz.prog 121 #[.agg vs.toArray,.agg us.toArray] w fun e w'=>e = .returned (.int .i64 0)/\Below w.heap.size w w':=by
 have he:(TZ n).E Dl 0 true [.ag ((Hb a c d f).map .d),.ag ((KV g i j k l m o p).map .d)] (fun _=>none) some=some ⟨.d (.int .i64 0),[],[]⟩:=by
  show gb true (U2 n a c d f g i j k l m o p some) 0 (fun r=>(some ⟨.d (D.int .i64 r),[],[]⟩:Option Dl))=_;rw [h];rfl
 exact Gz (XR ((TZ n).ok) he) hS (Kn (RdLs.agg q) (RdLs.agg s))
theorem DY {n:Nat} {a c d f:LL} {g:Int} {i j k l m o p:LL} (h:V1 n a c d f g i j k l m o p some=some 0) {S:Nat->Prop} {w:World} (hS:∀ b,S b->b<w.heap.size) {vs us:List Value} (q:RdLs S w vs (Hb a c d f)) (s:RdLs S w us (KV g i j k l m o p)) :
  Calls Tryz.prog 122 #[.agg vs.toArray,.agg us.toArray] w fun e w'=>e = .returned (.int .i64 0)/\Below w.heap.size w w':=by
 have he:(S9 n).E Dl 0 true [.ag ((Hb a c d f).map .d),.ag ((KV g i j k l m o p).map .d)] (fun _=>none) some=some ⟨.d (.int .i64 0),[],[]⟩:=by
  show gb true (V1 n a c d f g i j k l m o p some) 0 (fun r=>(some ⟨.d (D.int .i64 r),[],[]⟩:Option Dl))=_;rw [h];rfl
 exact Gz (XR ((S9 n).ok) he) hS (Kn (RdLs.agg q) (RdLs.agg s))
theorem Lz {n:Nat} {a c d f:LL} {g:Int} {i j k l m o p:LL} (h:Wp n a c d f g i j k l m o p some=some 0) {S:Nat->Prop} {w:World} (hS:∀ b,S b->b<w.heap.size) {vs us:List Value} (q:RdLs S w vs (Hb a c d f)) (s:RdLs S w us (KV g i j k l m o p)) :
  Calls Tryz.prog 123 #[.agg vs.toArray,.agg us.toArray] w fun e w'=>e = .returned (.int .i64 0)/\Below w.heap.size w w':=by
 have he:(Tq n).E Dl 0 true [.ag ((Hb a c d f).map .d),.ag ((KV g i j k l m o p).map .d)] (fun _=>none) some=some ⟨.d (.int .i64 0),[],[]⟩:=by
  show gb true (Wp n a c d f g i j k l m o p some) 0 (fun r=>(some ⟨.d (D.int .i64 r),[],[]⟩:Option Dl))=_;rw [h];rfl
 exact Gz (XR ((Tq n).ok) he) hS (Kn (RdLs.agg q) (RdLs.agg s))
theorem Dp {n:Nat} {a c d f:LL} {g:Int} {i j k l m o p:LL} (h:V0 n a c d f g i j k l m o p some=some 0) {S:Nat->Prop} {w:World} (hS:∀ b,S b->b<w.heap.size) {vs us:List Value} (q:RdLs S w vs (Hb a c d f)) (s:RdLs S w us (KV g i j k l m o p)) :
  Calls Tryz.prog 124 #[.agg vs.toArray,.agg us.toArray] w fun e w'=>e = .returned (.int .i64 0)/\Below w.heap.size w w':=by
 have he:(PN n).E Dl 0 true [.ag ((Hb a c d f).map .d),.ag ((KV g i j k l m o p).map .d)] (fun _=>none) some=some ⟨.d (.int .i64 0),[],[]⟩:=by
  show gb true (V0 n a c d f g i j k l m o p some) 0 (fun r=>(some ⟨.d (D.int .i64 r),[],[]⟩:Option Dl))=_;rw [h];rfl
 exact Gz (XR ((PN n).ok) he) hS (Kn (RdLs.agg q) (RdLs.agg s))
theorem Dm {n:Nat} {a c d f:LL} {g:Int} {i j k l m o p:LL} (h:US n a c d f g i j k l m o p some=some 0) {S:Nat->Prop} {w:World} (hS:∀ b,S b->b<w.heap.size) {vs us:List Value} (q:RdLs S w vs (Hb a c d f)) (s:RdLs S w us (KV g i j k l m o p)) :
  Calls Tryz.prog 125 #[.agg vs.toArray,.agg us.toArray] w fun e w'=>e = .returned (.int .i64 0)/\Below w.heap.size w w':=by
 have he:(PW n).E Dl 0 true [.ag ((Hb a c d f).map .d),.ag ((KV g i j k l m o p).map .d)] (fun _=>none) some=some ⟨.d (.int .i64 0),[],[]⟩:=by
  show gb true (US n a c d f g i j k l m o p some) 0 (fun r=>(some ⟨.d (D.int .i64 r),[],[]⟩:Option Dl))=_;rw [h];rfl
 exact Gz (XR ((PW n).ok) he) hS (Kn (RdLs.agg q) (RdLs.agg s))
theorem Fe {n:Nat} {a c d f:LL} {g:Int} {i j k l m o p:LL} (h:Wi n a c d f g i j k l m o p some=some 0) {S:Nat->Prop} {w:World} (hS:∀ b,S b->b<w.heap.size) {vs us:List Value} (q:RdLs S w vs (Hb a c d f)) (s:RdLs S w us (KV g i j k l m o p)) :
  Calls Tryz.prog 126 #[.agg vs.toArray,.agg us.toArray] w fun e w'=>e = .returned (.int .i64 0)/\Below w.heap.size w w':=by
 have he:(T7 n).E Dl 0 true [.ag ((Hb a c d f).map .d),.ag ((KV g i j k l m o p).map .d)] (fun _=>none) some=some ⟨.d (.int .i64 0),[],[]⟩:=by
  show gb true (Wi n a c d f g i j k l m o p some) 0 (fun r=>(some ⟨.d (D.int .i64 r),[],[]⟩:Option Dl))=_;rw [h];rfl
 exact Gz (XR ((T7 n).ok) he) hS (Kn (RdLs.agg q) (RdLs.agg s))
theorem Fq:∀ (n k:Nat),KI (fun _=>0) n k=0
 |0,_=>rfl
 |n+1,k=>by simp [KI,Fq n (k+1)]
theorem Q4u (n:Nat) (a c d f:LL) (g:Int) (i j l m o p q:LL) (res:Int) {hl:Nat->Option Ob} (h:J9 n a c d f g i j l m o p q some=some res):Zi Tryz.prog 67 [.ag [.d (D.sl 1 a),.d (D.sl 1 c),.d (D.sl 5 d),.d (D.sl 6 f)],.ag [.d (D.int .i64 g),.d (D.sl 5 i),.d (D.sl 2 j),.d (D.sl 4 l),.d (D.sl 7 m),.d (D.sl 4 o),.d (D.sl 5 p),.d (D.sl 3 q)]] hl ⟨.d (D.int .i64 res),[],[]⟩:=by
 obtain ⟨aq,h⟩:=XB h;injection h with h
 subst h;simp only [Q8E,Qka] at aq;obtain ⟨⟨⟨⟨⟨⟨⟨k0,k1⟩,k2⟩,k3⟩,k4⟩,k5⟩,k6⟩,k7⟩:=aq;refine Sg (fn:=Tryz.f67) (by kernel_rfl) (by kernel_rfl) (by kernel_rfl) rfl rfl fun S w args hS hA=>?_
 obtain ⟨v,u,rfl,hv,hu⟩:=Q5t hA;obtain ⟨vs,rfl,hr⟩:=Q3S (xs:=Hb a c d f) hv;obtain ⟨us,rfl,hq⟩:=Q3S (xs:=KV g i j l m o p q) hu;have am:=hr.len;have an:=hq.len
 match vs,us,am,an with
 |[r,s,t,y],[z,u1,u2,u3,u4,u5,u6,u7],_,_=>
  refine (Tryz.plancheck_calls w r s t y z u1 u2 u3 u4 u5 u6 u7 (fun _=>0) (fun k hk w' hs hw=>?_) (fun x hx=>?_)).mono fun e w' ⟨he,hB⟩=>?_
  ·have ak:∀ b,S b->b<w'.heap.size:=fun b hb=>Qk8 (hS b hb) hs
   have aj:=hr.keep hS hw;have ao:=hq.keep hS hw;obtain rfl | rfl | rfl | rfl | rfl | rfl | rfl | rfl:k=0\/k=1\/k=2\/k=3\/k=4\/k=5\/k=6\/k=7:=by omega
   ·exact DW (VO k0) ak aj ao
   ·exact EB (VO k1) ak aj ao
   ·exact EK (VO k2) ak aj ao
   ·exact DY (VO k3) ak aj ao
   ·exact Lz (VO k4) ak aj ao
   ·exact Dp (VO k5) ak aj ao
   ·exact Dm (VO k6) ak aj ao
   ·exact Fe (VO k7) ak aj ao
  ·rcases List.mem_append.1 (show x∈[r,s,t,y]++[z,u1,u2,u3,u4,u5,u6,u7] from hx) with h | h
   ·exact hr.one x h
   ·exact hq.one x h
  ·rw [Fq] at he;exact ⟨_,S,he,fun b h=>h,fun b h=>.inl h,fun b h=>Qk8 (hS b h) hB.size,.d _ _ (.int _ _),hB⟩
end Go.Vx
namespace Go.Vx
open Go.Proofs
variable (n:Nat)
def TX (n:Nat):TK:=fun _ _ g aj _ k=>match aj with
 | [c0,c1]=>
  prG c0 fun l0=>(match l0 with
  | [a,b,c,d]=>prS g 1 a fun e=>prS g 1 b fun f=>prS g 5 c fun h=>prS g 6 d fun i=>
  prG c1 fun l1=>(match l1 with
  | [j,l,m,o,p,q,s,t]=>prI g .i64 j fun u=>prS g 5 l fun v=>prS g 2 m fun x=>prS g 4 o fun y=>prS g 7 p fun z=>prS g 4 q fun aa=>prS g 5 s fun ab=>prS g 3 t fun ac=>
  gb g (J9 n e f h i u v x y z aa ab ac some) 0 fun r=>k ⟨.d (D.int .i64 r),[],[]⟩
  | _=>none)
  | _=>none)
 | _=>none
theorem F9 (n:Nat):Ve Tryz.prog 67 (TX n):=by
  intro R ak g an hl k r h
  unfold TX at h
  split at h
  rotate_left
  · cases h
  replace h:=Q1g h
  obtain ⟨l0,h,q⟩:=h
  subst q
  split at h
  rotate_left
  · cases h
  replace h:=WN h
  obtain ⟨a,h,s⟩:=h
  replace h:=WN h
  obtain ⟨b,h,t⟩:=h
  replace h:=WN h
  obtain ⟨c,h,u⟩:=h
  replace h:=WN h
  obtain ⟨d,h,v⟩:=h
  replace h:=Q1g h
  obtain ⟨l1,h,e1⟩:=h
  subst e1
  split at h
  rotate_left
  · cases h
  replace h:=C9 h
  obtain ⟨e,h,x⟩:=h
  replace h:=WN h
  obtain ⟨f,h,y⟩:=h
  replace h:=WN h
  obtain ⟨i,h,z⟩:=h
  replace h:=WN h
  obtain ⟨j,h,aa⟩:=h
  replace h:=WN h
  obtain ⟨l,h,ab⟩:=h
  replace h:=WN h
  obtain ⟨m,h,ac⟩:=h
  replace h:=WN h
  obtain ⟨o,h,ad⟩:=h
  replace h:=WN h
  obtain ⟨p,h,ae⟩:=h
  replace h:=QM h
  obtain ⟨res,h,hr⟩:=h
  exact ⟨_,h,fun hg=>Zi.conv (avs':=[.ag [.d (D.sl 1 a),.d (D.sl 1 b),.d (D.sl 5 c),.d (D.sl 6 d)],.ag [.d (D.int .i64 e),.d (D.sl 5 f),.d (D.sl 2 i),.d (D.sl 4 j),.d (D.sl 7 l),.d (D.sl 4 m),.d (D.sl 5 o),.d (D.sl 3 p)]]) (.cons (.ag (.cons (s hg) (.cons (t hg) (.cons (u hg) (.cons (v hg) .nil))))) (.cons (.ag (.cons (x hg) (.cons (y hg) (.cons (z hg) (.cons (aa hg) (.cons (ab hg) (.cons (ac hg) (.cons (ad hg) (.cons (ae hg) .nil))))))))) .nil)) (Q4u n a b c d e f i j l m o p res (hr hg))⟩
end Go.Vx
set_option maxRecDepth 100000
namespace Go.Vx
open Go.Proofs
variable (n:Nat)
def YZ (n:Nat):BZ9:=Xa [] []
def K3:LZ9:=mkU (YZ n).ok nT 5 Tryz.f68 [(0,.ptr 1000000 0),(2,tI),(9,.l 4),(10,tI),(11,tI),(34,tI),(35,tI)] [(98012,.arr 3 1),(98013,.arr 93 1),(98014,.arr 3 1),(98015,.arr 224 4),(98017,.arr 100 3),(98018,.arr 110 6),(1000000,bT 175 [(12,.arr 98012),(13,.arr 98013),(14,.arr 98014),(15,.arr 98015),(17,.arr 98017),(18,.arr 98018)])] 118666 [xE 2 [(36,.b)]] @X2 n
def Km:LZ9:=mkU (YZ n).ok [K3 n n] 1 Tryz.f68 [(0,.ptr 1000000 0),(9,.l 4),(10,tI),(11,tI)] [(98012,.arr 3 1),(98013,.arr 93 1),(98014,.arr 3 1),(98015,.arr 224 4),(98017,.arr 100 3),(98018,.arr 110 6),(1000000,bT 175 [(12,.arr 98012),(13,.arr 98013),(14,.arr 98014),(15,.arr 98015),(17,.arr 98017),(18,.arr 98018)])] 4450 [xE 0 [(12,.b)]] @QJ n
def KU:EZ9 68:=mkW (YZ n).ok [Km n n] 68 Tryz.f68 (pT 1000000 175 [(12,eR 1000001 3 1),(13,eR 1000002 93 1),(14,eR 1000003 3 1),(15,eR 1000004 224 4),(17,eR 1000005 100 3),(18,eR 1000006 110 6)] []) [eT 0] [] 388991 389119 @Yv n
def Nh (n:Nat):BZ9:=Xa [] []
def Bk:LZ9:=mkU (Nh n).ok nT 2 Tryz.f127 [(1,tI),(8,.l 4),(9,tI),(10,tI)] [] 67 [.f .ret [(4,tI)] [] [0],xE 0 [(11,.b)]] @UX n
def BW:EZ9 127:=mkD (Nh n).ok [Bk n n] 127 Tryz.f127 0 @KN n
def HA:BZ9:=Xa [⟨170,Hd n⟩] []
def M5:LZ9:=mkU (HA n).ok nT 6 Tryz.f260 [(0,.l 2),(1,tI),(17,.l 2),(18,tI),(19,tI)] [] 198 [.f .ret [(6,.ci .i64 4)] [] [],xE 1 [(20,.b)]] @YH n
def MW:EZ9 260:=mkD (HA n).ok [M5 n n] 260 Tryz.f260 0 @J6 n
def S7 (n:Nat):BZ9:=Xa [] []
def Es:LZ9:=mkU (S7 n).ok nT 3 Tryz.f265 [(7,tI),(20,.l 2),(21,tI),(22,tI)] [] 68 [xE 0 [(23,.b)]] @Wr n
def Dq:EZ9 265:=mkD (S7 n).ok [Es n n] 265 Tryz.f265 0 @JB n
def Bs:EZ9 266:=mkD (Xa [] []).ok nT 266 Tryz.f266 0 @HQ n
def Bm:EZ9 267:=mkD (Xa [] []).ok nT 267 Tryz.f267 0 @HB n
def JK:BZ9:=Xa [⟨265,Dq n⟩,⟨266,Bs n⟩,⟨267,Bm n⟩] []
def MF:LZ9:=mkU (JK n).ok nT 5 Tryz.f261 [(0,.l 2),(1,tI),(5,.ptr 5 0),(7,tI),(8,.arr 20),(9,tI),(10,tI)] [(5,bT 72 []),(20,.arr 3 1)] 147730 [xE 0 [(29,.b)]] @Yp n
def MX:LZ9:=mkU (JK n).ok nT 12 Tryz.f261 [(0,.l 2),(1,tI),(5,.ptr 5 0),(8,.arr 20),(13,tI)] [(5,bT 72 []),(20,.arr 3 1)] 16411 [xE 2 [(68,.b)]] @Z0 n
def LX:EZ9 261:=mkW (JK n).ok [MF n n,MX n n] 261 Tryz.f261 [sL 2,sI,eA [qT,qI,qI,qI,qI]] [eR 20 3 1] [] 0 0 @JF n
def F3 (n:Nat):BZ9:=Xa [] []
def Q17:LZ9:=mkU (F3 n).ok nT 3 Tryz.f262 [(0,tI),(3,tI),(4,tI)] [] 25 [xE 0 [(7,.b)]] @Vh n
def Q2P:EZ9 262:=mkD (F3 n).ok [Q17 n n] 262 Tryz.f262 0 @PL n
def TY:BZ9:=Xa [⟨260,MW n⟩,⟨261,LX n⟩,⟨262,Q2P n⟩] []
def Fg:LZ9:=mkU (TY n).ok nT 6 Tryz.f251 [(9,.arr 50022),(23,.arr 50022),(24,tI),(25,tI)] [(50022,.arr 3 1)] 25 [xE 0 [(26,.b)]] @ZB n
def EO:EZ9 251:=mkD (TY n).ok [Fg n n] 251 Tryz.f251 0 @Ga n
def PP:BZ9:=Xa [⟨251,EO n⟩,⟨106,Tx n⟩] []
def FU:LZ9:=mkU (PP n).ok nT 6 Tryz.f228 [(8,.l 1),(10,.arr 26),(11,tI)] [(26,.arr 3 1)] 25 [xE 0 [(30,.b)]] @Wu n
def DQ:EZ9 228:=mkD (PP n).ok [FU n n] 228 Tryz.f228 0 @Jo n
def FD:EZ9 197:=mkD (Xa [⟨106,Tx n⟩] []).ok nT 197 Tryz.f197 0 @JH n
def PY:BZ9:=Xa [⟨218,Ml n⟩,⟨228,DQ n⟩,⟨229,Hz n⟩,⟨197,FD n⟩] [(7,⟨[],[],[(6,1006,3,1),(7,1007,3,1)],[],[]⟩)]
def Eu:LZ9:=mkU (PY n).ok nT 8 Tryz.f196 [(3,.ptr 3 0),(5,.ptr 5 0),(6,.arr 1006),(7,.arr 1007),(11,.l 1),(13,.l 2),(14,tI),(38,.l 2),(39,tI),(40,tI)] [(3,bT 27 []),(5,bT 72 []),(1006,.arr 3 1),(1007,.arr 3 1)] 114975580 [xE 0 [(41,.b)]] @XP n
def DA:EZ9 196:=mkD (PY n).ok [Eu n n] 196 Tryz.f196 0 @KK n
def BH:EZ9 198:=mkD (Xa [⟨107,Rh n⟩] []).ok nT 198 Tryz.f198 0 @Vf n
def MV:EZ9 199:=mkW (Xa [] []).ok nT 199 Tryz.f199 [eA [qL 1,qL 1,qL 5,qL 6]] [eR 10 159 3] [] 0 0 @J1 n
def SB:EZ9 200:=Q75 (mkW (Xa [] []).ok nT 200 Tryz.f200 [eR 1000000 159 3,sI,sI,sI] [eT 0] [(1,eK 1000000 159 3)] 0 0 @Xm n)
def Q2s:EZ9 252:=mkD (Xa [⟨166,⟨Ju n,Tf n⟩⟩] []).ok nT 252 Tryz.f252 0 @NF n
def Ah:EZ9 253:=mkD (Xa [] []).ok nT 253 Tryz.f253 0 @Nf n
def Me:BZ9:=Xa [⟨252,Q2s n⟩,⟨237,HW n⟩,⟨253,Ah n⟩] [(7,⟨[],[],[(6,1006,202,4)],[],[]⟩)]
def Az:LZ9:=mkU (Me n).ok nT 8 Tryz.f230 [(5,.ptr 5 0),(6,.arr 1006),(23,.l 6),(24,tI),(25,tI)] [(5,.box [tI,tI]),(1006,.arr 202 4)] 616 [xE 0 [(26,.b)]] @Wf n
def Q1p:EZ9 230:=mkD (Me n).ok [Az n n] 230 Tryz.f230 0 @MM n
def G0:BZ9:=Xa [⟨230,Q1p n⟩] []
def S5:LZ9:=mkU (G0 n).ok nT 2 Tryz.f201 [(5,.ptr 5 0),(11,.l 4),(12,tI),(13,tI)] [(5,.box [tI,tI])] 130 [.f .ret [(6,tI)] [] [0],xE 0 [(14,.b)]] @Zu n
def SG:EZ9 201:=mkD (G0 n).ok [S5 n n] 201 Tryz.f201 0 @Zl n
def GX (n:Nat):BZ9:=Xa [] [(2,⟨[],[],[(3,1003,159,3)],[],[]⟩)]
def Ru:LZ9:=mkU (GX n).ok nT 3 Tryz.f202 [(3,.arr 1003),(6,.l 3),(7,tI),(8,tI)] [(1003,.arr 159 3)] 76 [xE 0 [(9,.b)]] @XQ n
def N5:EZ9 202:=mkW (GX n).ok [Ru n n] 202 Tryz.f202 [sL 3] [eR 1003 159 3] [] 0 0 @Vk n
def Vc:BZ9:=Xa [⟨196,DA n⟩,⟨197,FD n⟩,⟨198,BH n⟩,⟨199,MV n⟩,⟨200,SB n⟩,⟨201,SG n⟩,⟨202,N5 n⟩] []
def SK:LZ9:=mkU (Vc n).ok nT 7 Tryz.f144 [(4,tI),(5,.ptr 5 0),(6,.ptr 6 0),(13,.l 1),(14,.l 1),(15,tI),(17,tI),(18,.arr 48),(19,tI)] [(5,bT 27 []),(6,.box [.l 2,tI]),(48,.arr 159 3)] 1063461 [xE 0 [(51,.b)]] @XI n
def SI:LZ9:=mkU (Vc n).ok nT 14 Tryz.f144 [(5,.ptr 5 0),(6,.ptr 6 0),(15,tI),(17,tI),(18,.arr 84),(20,.ptr 20 0),(21,.arr 50095),(97,.l 2),(98,tI),(99,tI)] [(5,bT 27 []),(6,.box [.l 2,tI]),(20,.box [.ci .i64 0,tI,tI]),(84,.arr 159 3),(50095,.arr 159 3)] 13492776 [xE 2 [(100,.b)]] @Qj n
def K2:EZ9 144:=mkD (Vc n).ok [SK n n,SI n n] 144 Tryz.f144 0 @ZN n
def B9:EZ9 128:=mkD (Xa [⟨183,N6 n⟩,⟨144,K2 n⟩] []).ok nT 128 Tryz.f128 0 @ZX n
def Hh:BZ9:=Xa [⟨67,⟨TX n,F9 n⟩⟩,⟨127,BW n⟩,⟨128,B9 n⟩] [(5,⟨[],[],[(7,1007,93,1),(8,1008,3,1)],[],[]⟩)]
def DM:LZ9:=mkU (Hh n).ok nT 9 Tryz.f69 [(2,.ptr 2 0),(3,.ptr 3 0),(7,.arr 1007),(8,.arr 1008),(9,tI),(10,.ptr 10 0),(23,.l 4),(24,tI),(25,tI),(31,.l 4),(32,tI),(33,tI)] [(2,bT 27 []),(3,bT 36 []),(10,.box [.x,.x,.x,.x]),(1007,.arr 93 1),(1008,.arr 3 1)] 788594406049 [.f .ret [(4,.nil),(5,.nil),(6,tI)] [] [0],xE 2 [(34,.b)]] @XZ n
def Dx:LZ9:=mkU (Hh n).ok [DM n n] 6 Tryz.f69 [(2,.ptr 2 0),(3,.ptr 3 0),(7,.arr 1007),(8,.arr 1008),(23,.l 4),(24,tI),(25,tI)] [(2,bT 27 []),(3,bT 36 []),(1007,.arr 93 1),(1008,.arr 3 1)] 121965718 [.f .ret [(4,.nil),(5,.nil),(6,tI)] [] [0],xE 0 [(26,.b)]] @ZG n
def Bq:EZ9 69:=mkD (Hh n).ok [Dx n n] 69 Tryz.f69 0 @HN n
def Jx:EZ9 130:=mkW (Xa [] []).ok nT 130 Tryz.f130 (pT 1000000 175 [(12,eR 1000001 3 1),(15,eR 1000002 224 4),(17,eR 1000003 100 3),(18,eR 1000004 110 6)] [sI,sI]) [sI] [] 520191 1048574 @XJ n
def HU:EZ9 129:=mkW (Xa [] []).ok nT 129 Tryz.f129 (pT 1000000 175 [(12,eR 1000001 3 1),(15,eR 1000002 224 4),(17,eR 1000003 100 3),(18,eR 1000004 110 6)] [sI,sI,sI,sI,sI]) [eT 0] [] 475135 491519 @Y3 n
def P9:EZ9 131:=mkW (Xa [⟨130,Jx n⟩] []).ok nT 131 Tryz.f131 (pT 1000000 175 [(12,eR 1000001 3 1),(15,eR 1000002 224 4),(17,eR 1000003 100 3),(18,eR 1000004 110 6)] [sI]) [sI] [] 520063 1048574 @ZW n
def Yb:BZ9:=Xa [⟨130,Jx n⟩,⟨129,HU n⟩,⟨131,P9 n⟩] []
def KM:LZ9:=mkU (Yb n).ok nT 4 Tryz.f70 [(0,.ptr 1000000 0),(2,tI),(13,.l 4),(14,tI),(15,tI),(26,.l 4),(27,tI),(28,tI)] [(98012,.arr 3 1),(98015,.arr 224 4),(98017,.arr 100 3),(98018,.arr 110 6),(1000000,bT 175 [(12,.arr 98012),(15,.arr 98015),(17,.arr 98017),(18,.arr 98018)])] 282429553573 [xE 2 [(29,.b)]] @Xd n
def KS:LZ9:=mkU (Yb n).ok [KM n n] 1 Tryz.f70 [(0,.ptr 1000000 0),(13,.l 4),(14,tI),(15,tI)] [(98012,.arr 3 1),(98015,.arr 224 4),(98017,.arr 100 3),(98018,.arr 110 6),(1000000,bT 175 [(12,.arr 98012),(15,.arr 98015),(17,.arr 98017),(18,.arr 98018)])] 3486784612 [xE 0 [(16,.b)]] @Qw n
def H6:LZ9:=mkU (Yb n).ok nT 10 Tryz.f70 [(0,.ptr 1000000 0),(56,.l 4),(57,tI),(58,tI)] [(98012,.arr 3 1),(98015,.arr 224 4),(98017,.arr 100 3),(98018,.arr 110 6),(1000000,bT 175 [(12,.arr 98012),(15,.arr 98015),(17,.arr 98017),(18,.arr 98018)])] 3491567581 [xE 4 [(59,.b)]] @Xb n
def Hj:EZ9 70:=mkW (Yb n).ok [KS n n,H6 n n] 70 Tryz.f70 (pT 1000000 175 [(12,eR 1000001 3 1),(15,eR 1000002 224 4),(17,eR 1000003 100 3),(18,eR 1000004 110 6)] []) [eT 0] [] 470399 491519 @YA n
def Rm (n:Nat):BZ9:=Xa [] []
def Dv:LZ9:=mkU (Rm n).ok nT 3 Tryz.f184 [(3,tI),(6,.l 3),(7,tI),(8,tI)] [] 68 [.f .ret [(2,.cb false)] [] [],xE 0 [(9,.b)]] @U5 n
def RE:EZ9 184:=mkD (Rm n).ok [Dv n n] 184 Tryz.f184 0 @Jc n
def Rf:BZ9:=Xa [⟨184,RE n⟩] []
def DE:LZ9:=mkU (Rf n).ok nT 4 Tryz.f132 [(0,tI),(18,.l 3),(19,tI),(20,tI)] [] 67 [.f .ret [(4,.cb false)] [] [],xE 0 [(21,.b)]] @U9 n
def Bj:EZ9 132:=mkD (Rf n).ok [DE n n] 132 Tryz.f132 0 @HG n
def VL:EZ9 134:=mkW (Xa [] []).ok nT 134 Tryz.f134 (eA [qI,qI,qI]::eA [qI,qI,qI]::pT 1000000 224 [] (eP 1000001 1::sB::eP 1000002 1::pT 1000003 175 [(12,eR 1000004 3 1),(17,eR 1000005 100 3),(18,eR 1000006 110 6)] [])) [eT 0] [] 1073707209 16777199 @Y2 n
def WW:BZ9:=Xa [⟨134,VL n⟩] []
def TD:LZ9:=mkU (WW n).ok nT 5 Tryz.f133 [(0,.ptr 1000000 0),(2,.fn 134 [.ptr 1000004 0,.ptr 1000005 0,.ptr 1000006 0]),(4,.ptr 4 0),(7,.ptr 7 0),(17,.l 3),(18,tI),(19,tI),(30,.l 3),(31,tI),(32,tI)] [(4,bT 224 []),(7,.box [.x,.x,.x]),(98012,.arr 3 1),(98017,.arr 100 3),(98018,.arr 110 6),(1000000,bT 175 [(12,.arr 98012),(17,.arr 98017),(18,.arr 98018)]),(1000004,bT 224 []),(1000005,.box [.b]),(1000006,.box [.ptr 1000000 0])] 366898000880223711 [xE 2 [(33,.b)]] @QE n
def Ty:LZ9:=mkU (WW n).ok [TD n n] 2 Tryz.f133 [(0,.ptr 1000000 0),(2,.fn 134 [.ptr 1000004 0,.ptr 1000005 0,.ptr 1000006 0]),(4,.ptr 4 0),(17,.l 3),(18,tI),(19,tI)] [(4,bT 224 []),(98012,.arr 3 1),(98017,.arr 100 3),(98018,.arr 110 6),(1000000,bT 175 [(12,.arr 98012),(17,.arr 98017),(18,.arr 98018)]),(1000004,bT 224 []),(1000005,.box [.b]),(1000006,.box [.ptr 1000000 0])] 503320819852066 [xE 0 [(20,.b)]] @Xf n
def Pm:EZ9 133:=mkW (WW n).ok [Ty n n] 133 Tryz.f133 (pT 1000000 175 [(12,eR 1000001 3 1),(17,eR 1000002 100 3),(18,eR 1000003 110 6)] (eA [qI,qI,qI,qI]::eF 134 3::pT 1000004 224 [] [eP 1000005 1,sB,eP 1000006 1,eS 1000000])) [eT 0] [] 29876207 8388607 @ZQ n
def WI:BZ9:=Xa [⟨132,Bj n⟩,⟨133,Pm n⟩] [(5,⟨[],[],[],[],[98015]⟩),(7,⟨[],[],[],[],[98015]⟩)]
def Tn:LZ9:=mkU (WI n).ok nT 2 Tryz.f71 [(1,.ptr 1 0),(11,.l 1),(12,tI),(13,tI)] [(1,.box [.ptr 1000000 0]),(98012,.arr 3 1),(98015,.arr 224 4),(98017,.arr 100 3),(98018,.arr 110 6),(1000000,bT 175 [(12,.arr 98012),(15,.arr 98015),(17,.arr 98017),(18,.arr 98018)])] 177169 [.f .ret [(2,.cb false)] [(98012,.arr 3 1),(98017,.arr 100 3),(98018,.arr 110 6),(1000000,bT 175 [(12,.arr 98012),(17,.arr 98017),(18,.arr 98018)])] [4,6,7,8,9,10,11,12,13,14,15,16,17,18,19,20,21,5,22],xE 0 [(14,.b)]] @Xw n
def Ts:LZ9:=mkU (WI n).ok nT 8 Tryz.f71 [(1,.ptr 1 0),(29,.l 4),(30,tI),(31,tI)] [(1,.box [.ptr 1000000 0]),(98012,.arr 3 1),(98017,.arr 100 3),(98018,.arr 110 6),(1000000,bT 175 [(12,.arr 98012),(17,.arr 98017),(18,.arr 98018)])] 387479560 [.f .ret [(2,.cb false)] [(98012,.arr 3 1),(98017,.arr 100 3),(98018,.arr 110 6),(1000000,bT 175 [(12,.arr 98012),(17,.arr 98017),(18,.arr 98018)])] [4,5,6,7,8,9,10,11,12,13,14,15,16,17,18,19,20,21,22],xE 2 [(32,.b)]] @X7 n
def Tz:EZ9 71:=mkW (WI n).ok [Tn n n,Ts n n] 71 Tryz.f71 (pT 1000000 175 [(12,eR 1000001 3 1),(15,eR 1000002 224 4),(17,eR 1000003 100 3),(18,eR 1000004 110 6)] []) [sB] [(17,sL 4)] 483311 1048574 @ZC n
def Jw:EZ9 130:=mkW (Xa [] []).ok nT 130 Tryz.f130 (pT 1000000 175 [(12,eR 1000001 3 1),(17,eR 1000002 100 3),(18,eR 1000003 110 6)] [sI,sI]) [sI] [] 520191 1048574 @QW n
def Rb:EZ9 136:=mkD (Xa [] []).ok nT 136 Tryz.f136 0 @Yj n
def Ds:EZ9 137:=mkD (Xa [] []).ok nT 137 Tryz.f137 0 @Uw n
def JY:EZ9 135:=mkW (Xa [] []).ok nT 135 Tryz.f135 (pT 1000000 175 [(12,eR 1000001 3 1),(17,eR 1000002 100 3),(18,eR 1000003 110 6)] [sI,sI,sI,sI,sI,sI]) [eT 0] [] 262143 262143 @X9 n
def Pe:EZ9 131:=mkW (Xa [⟨130,Jw n⟩] []).ok nT 131 Tryz.f131 (pT 1000000 175 [(12,eR 1000001 3 1),(17,eR 1000002 100 3),(18,eR 1000003 110 6)] [sI]) [sI] [] 520063 1048574 @Vb n
def QV:BZ9:=Xa [⟨130,Jw n⟩,⟨136,Rb n⟩,⟨137,Ds n⟩,⟨135,JY n⟩,⟨131,Pe n⟩] []
def GK:LZ9:=mkU (QV n).ok nT 4 Tryz.f72 [(0,.ptr 1000000 0),(2,tI),(3,.ptr 3 0),(20,.l 4),(21,tI),(22,tI),(28,.l 4),(29,tI),(30,tI)] [(3,.box [.x,.x,.x,.x]),(98012,.arr 3 1),(98017,.arr 100 3),(98018,.arr 110 6),(1000000,bT 175 [(12,.arr 98012),(17,.arr 98017),(18,.arr 98018)])] 7625600931295 [xE 2 [(31,.b)]] @Qr n
def GN:LZ9:=mkU (QV n).ok [GK n n] 1 Tryz.f72 [(0,.ptr 1000000 0),(20,.l 4),(21,tI),(22,tI)] [(98012,.arr 3 1),(98017,.arr 100 3),(98018,.arr 110 6),(1000000,bT 175 [(12,.arr 98012),(17,.arr 98017),(18,.arr 98018)])] 1162262002 [xE 0 [(23,.b)]] @QA n
def GM:LZ9:=mkU (QV n).ok nT 14 Tryz.f72 [(0,.ptr 1000000 0),(84,.l 7),(85,tI),(86,tI)] [(98012,.arr 3 1),(98017,.arr 100 3),(98018,.arr 110 6),(1000000,bT 175 [(12,.arr 98012),(17,.arr 98017),(18,.arr 98018)])] 535 [xE 4 [(87,.b)]] @QC n
def GR:LZ9:=mkU (QV n).ok nT 20 Tryz.f72 [(0,.ptr 1000000 0),(119,.l 4),(120,tI),(121,tI)] [(98012,.arr 3 1),(98017,.arr 100 3),(98018,.arr 110 6),(1000000,bT 175 [(12,.arr 98012),(17,.arr 98017),(18,.arr 98018)])] 1594858 [xE 6 [(122,.b)]] @QB n
def GT:LZ9:=mkU (QV n).ok nT 25 Tryz.f72 [(0,.ptr 1000000 0),(146,.l 5),(147,tI),(148,tI)] [(98012,.arr 3 1),(98017,.arr 100 3),(98018,.arr 110 6),(1000000,bT 175 [(12,.arr 98012),(17,.arr 98017),(18,.arr 98018)])] 535 [xE 8 [(149,.b)]] @QD n
def Kk:EZ9 72:=mkW (QV n).ok [GN n n,GM n n,GR n n,GT n n] 72 Tryz.f72 (pT 1000000 175 [(12,eR 1000001 3 1),(17,eR 1000002 100 3),(18,eR 1000003 110 6)] []) [eT 0] [] 239743 262143 @Ym n
def Ug:EZ9 185:=mkW (Xa [] []).ok nT 185 Tryz.f185 [eA [qI,qI,qI],eA [qI,qI,qI],eP 1000000 1,eM 1000001 228] [eT 0] [(2,eH 1000001)] 62 0 @Xq n
def WY:BZ9:=Xa [⟨185,Ug n⟩] []
def TB:LZ9:=mkU (WY n).ok nT 5 Tryz.f133 [(0,.ptr 1000000 0),(2,.fn 185 [.ptr 1000004 0]),(4,.ptr 4 0),(7,.ptr 7 0),(17,.l 3),(18,tI),(19,tI),(30,.l 3),(31,tI),(32,tI)] [(4,bT 224 []),(7,.box [.x,.x,.x]),(98012,.arr 3 1),(98017,.arr 100 3),(98018,.arr 110 6),(1000000,bT 175 [(12,.arr 98012),(17,.arr 98017),(18,.arr 98018)]),(1000004,.box [.arr 1000005]),(1000005,.mp 228)] 3706040378478474 [xE 2 [(33,.b)]] @QU n
def TE:LZ9:=mkU (WY n).ok [TB n n] 2 Tryz.f133 [(0,.ptr 1000000 0),(2,.fn 185 [.ptr 1000004 0]),(4,.ptr 4 0),(17,.l 3),(18,tI),(19,tI)] [(4,bT 224 []),(98012,.arr 3 1),(98017,.arr 100 3),(98018,.arr 110 6),(1000000,bT 175 [(12,.arr 98012),(17,.arr 98017),(18,.arr 98018)]),(1000004,.box [.arr 1000005]),(1000005,.mp 228)] 5115112716613 [xE 0 [(20,.b)]] @Xh n
def Pc:EZ9 133:=mkW (WY n).ok [TE n n] 133 Tryz.f133 (pT 1000000 175 [(12,eR 1000001 3 1),(17,eR 1000002 100 3),(18,eR 1000003 110 6)] [eA [qI,qI,qI,qI],eF 185 1,eP 1000004 1,eM 1000005 228]) [eT 0] [(22,eH 1000005)] 4710399 524287 @ZR n
def WA:BZ9:=Xa [⟨133,Pc n⟩] []
def JQ:LZ9:=mkU (WA n).ok nT 3 Tryz.f138 [(0,.ptr 1000000 0),(1,tI),(2,tI),(7,.ptr 7 0),(14,.l 4),(15,tI),(16,tI)] [(7,.box [.arr 10]),(10,.mp 228),(98012,.arr 3 1),(98017,.arr 100 3),(98018,.arr 110 6),(1000000,bT 175 [(12,.arr 98012),(17,.arr 98017),(18,.arr 98018)])] 10460353891 [xE 0 [(17,.b)]] @Qs n
def G2:EZ9 138:=mkW (WA n).ok [JQ n n] 138 Tryz.f138 (pT 1000000 175 [(12,eR 1000001 3 1),(17,eR 1000002 100 3),(18,eR 1000003 110 6)] [sI,sI]) [eM 10 228] [] 483327 1048574 @XV n
def KW (n:Nat):BZ9:=Xa [] [(2,⟨[],[],[(5,1005,159,3)],[],[]⟩)]
def RW:LZ9:=mkU (KW n).ok nT 3 Tryz.f140 [(1,.arr 1000000),(5,.arr 1005),(8,.l 3),(9,tI),(10,tI)] [(1005,.arr 159 3),(1000000,.mp 228)] 157 [xE 0 [(11,.b)]] @XX n
def M6:EZ9 140:=Q75 (mkW (KW n).ok [RW n n] 140 Tryz.f140 [sL 3,eM 1000000 228] [eR 1005 159 3] [] 0 0 @Uh n)
def Kz:EZ9 244:=mkD (Xa [] []).ok nT 244 Tryz.f244 0 @UP n
def Rv:EZ9 245:=mkW (Xa [] [(2,⟨[],[],[(8,96001,267,2)],[],[]⟩)]).ok nT 245 Tryz.f245 [eN,sI,sI,sI] [eR 96001 267 2] [] 0 0 @Jj n
def Aq:EZ9 221:=mkW (Xa [⟨244,Kz n⟩,⟨36,L3 n⟩,⟨245,Rv n⟩] [(2,⟨[],[],[(6,50016,267,2)],[],[]⟩)]).ok nT 221 Tryz.f221 [sI,sI,sI] [eT 2,eR 50016 267 2,sI] [] 0 0 @TL n
def R5:BZ9:=Xa [⟨244,Kz n⟩] []
def Dn:LZ9:=mkU (R5 n).ok nT 5 Tryz.f223 [(0,tI),(5,tI),(11,.l 2),(12,tI),(13,tI)] [] 205 [.f .ret [(4,.cb false)] [] [],xE 0 [(14,.b)]] @U8 n
def Ns:EZ9 223:=mkD (R5 n).ok [Dn n n] 223 Tryz.f223 0 @Gg n
def R3:BZ9:=Xa [⟨244,Kz n⟩,⟨223,Ns n⟩] []
def DI:LZ9:=mkU (R3 n).ok nT 4 Tryz.f246 [(0,tI),(10,.l 1),(11,tI),(12,tI)] [] 67 [.f .ret [(4,.ci .i64 1)] [] [],xE 0 [(13,.b)]] @U1 n
def Bx:EZ9 246:=mkD (R3 n).ok [DI n n] 246 Tryz.f246 0 @HJ n
def Wq:EZ9 259:=mkW (Xa [] [(6,⟨[],[],[(4,96001,267,2)],[],[]⟩)]).ok nT 259 Tryz.f259 [eN,sI] [eR 96001 267 2] [] 0 0 @Qz n
def X0:BZ9:=Xa [⟨259,Wq n⟩] []
def Wl:LZ9:=mkU (X0 n).ok nT 3 Tryz.f248 [(0,.l 1),(3,tI),(9,.l 1),(10,tI),(11,tI)] [] 204 [xE 0 [(12,.b)]] @Qf n
def Wm:LZ9:=mkU (X0 n).ok nT 11 Tryz.f248 [(6,.arr 50024),(25,.l 1),(26,tI),(27,tI)] [(50024,.arr 267 2)] 76 [xE 2 [(28,.b)]] @Qg n
def WJ:EZ9 248:=mkW (X0 n).ok [Wl n n,Wm n n] 248 Tryz.f248 [sL 1] [eR 50024 267 2] [] 0 0 @QF n
def PR:EZ9 78:=mkD (Xa [⟨143,RO n⟩] []).ok nT 78 Tryz.f78 0 @VV n
def TC:EZ9 258:=mkD (Xa [⟨78,PR n⟩] []).ok nT 258 Tryz.f258 0 @UQ n
def X5:BZ9:=Xa [⟨258,TC n⟩] []
def WE:LZ9:=mkU (X5 n).ok nT 4 Tryz.f270 [(0,.arr 1000000),(1,tI),(2,tI),(3,.fn 258 []),(8,tI),(9,tI)] [(1000000,.arr 267 2)] 217 [xE 2 [(34,.b)]] @Qh n
def Wy:LZ9:=mkU (X5 n).ok [WE n n] 1 Tryz.f270 [(0,.arr 1000000),(1,tI),(2,tI),(3,.fn 258 []),(8,tI)] [(1000000,.arr 267 2)] 76 [xE 0 [(14,.b)]] @Q6 n
def WS:EZ9 270:=Q75 (mkW (X5 n).ok [Wy n n] 270 Tryz.f270 [eR 1000000 267 2,sI,sI,eF 258 0] [eT 0] [(1,eK 1000000 267 2)] 0 0 @Xj n)
def Ys:BZ9:=Xa [⟨270,WS n⟩] []
def UT:LZ9:=mkU (Ys n).ok nT 2 Tryz.f264 [(0,.arr 1000000),(1,tI),(2,tI),(3,tI),(4,.fn 258 []),(10,.cb true),(11,.cb true)] [(1000000,.arr 267 2)] 40 [.f .ret [] [(1000000,.arr 267 2)] [0]] @Xz n
def V4:EZ9 264:=Q75 (mkW (Ys n).ok [UT n n] 264 Tryz.f264 [eR 1000000 267 2,sI,sI,sI,eF 258 0] [eT 0] [(1,eK 1000000 267 2)] 0 0 @XK n)
def Zq:EZ9 257:=Q75 (mkW (Xa [⟨66,T5 n⟩,⟨264,V4 n⟩] []).ok nT 257 Tryz.f257 [eR 1000000 267 2,eF 258 0] [eT 0] [(1,eK 1000000 267 2)] 0 0 @Qt n)
def Th:BZ9:=Xa [⟨257,Zq n⟩] [(3,⟨[],[],[(3,1003,267,2)],[],[]⟩)]
def Mz:LZ9:=mkU (Th n).ok nT 4 Tryz.f247 [(3,.arr 1003),(9,.arr 1000000),(10,tI),(11,tI)] [(1003,.arr 267 2),(1000000,.arr 267 2)] 52 [xE 0 [(12,.b)]] @X6 n
def Fp:EZ9 247:=Q75 (mkW (Th n).ok [Mz n n] 247 Tryz.f247 [eR 1000000 267 2] [eR 1003 267 2] [(1,eK 1000000 267 2)] 0 0 @Ho n)
def CZ:EZ9 222:=mkW (Xa [⟨246,Bx n⟩,⟨248,WJ n⟩,⟨247,Fp n⟩] [(3,⟨[],[],[(6,50021,267,2)],[],[]⟩)]).ok nT 222 Tryz.f222 [sI,sL 2,sL 2] [eT 2,eR 50021 267 2,sI] [] 0 0 @HR n
def G5:EZ9 220:=mkW (Xa [⟨221,Aq n⟩,⟨222,CZ n⟩] []).ok nT 220 Tryz.f220 [eA [qI,qI,qI],eA [qI,qI,qI],eP 1000000 1,sI,eP 1000001 1,eR 1000002 267 2] [eT 0] [] 9 1 @Z2 n
def Hv:BZ9:=Xa [⟨220,G5 n⟩] []
def M4:LZ9:=mkU (Hv n).ok nT 0 Tryz.f219 [(0,.l 3),(1,.l 3),(2,.fn 220 [.ptr 1000000 0,.ptr 1000001 0])] [(98040,.arr 267 2),(1000000,.box [tI]),(1000001,.box [.arr 98040])] 53 [xE 0 [(15,.b)]] @Qo n
def Mx:EZ9 219:=mkW (Hv n).ok [M4 n n] 219 Tryz.f219 [sL 3,sL 3,eF 220 2,eP 1000000 1,sI,eP 1000001 1,eR 1000002 267 2] [eT 0] [] 0 1 @Kx n
def MH:EZ9 186:=mkW (Xa [⟨184,RE n⟩,⟨219,Mx n⟩] [(3,⟨[],[],[(6,50024,267,2)],[],[]⟩),(6,⟨[],[],[(6,50024,267,2)],[],[]⟩),(7,⟨[],[],[],[(8,0,2320,267,2)],[]⟩)]).ok nT 186 Tryz.f186 [sI,sL 3,sL 3] [eT 2,eR 50024 267 2,sI] [] 0 0 @Ja n
def DT:EZ9 249:=mkD (Xa [] []).ok nT 249 Tryz.f249 0 @Pk n
def Re:BZ9:=Xa [⟨249,DT n⟩] []
def Dr:LZ9:=mkU (Re n).ok nT 3 Tryz.f224 [(3,tI),(6,.l 2),(7,tI),(8,tI)] [] 68 [xE 0 [(9,.b)]] @ZJ n
def BC:EZ9 224:=mkD (Re n).ok [Dr n n] 224 Tryz.f224 0 @Ss n
def CR:EZ9 187:=mkD (Xa [⟨223,Ns n⟩,⟨224,BC n⟩] []).ok nT 187 Tryz.f187 0 @HX n
def GE:BZ9:=Xa [⟨186,MH n⟩,⟨187,CR n⟩] [(8,⟨[],[],[],[],[50018]⟩),(11,⟨[],[],[(11,1011,108,2)],[],[]⟩)]
def F1:LZ9:=mkU (GE n).ok nT 12 Tryz.f139 [(0,tI),(11,.arr 1011),(65,.l 2),(66,tI),(67,tI)] [(1011,.arr 108 2)] 229 [xE 0 [(68,.b)]] @Zs n
def Lo:LZ9:=mkU (GE n).ok nT 12 Tryz.f139 [(0,tI),(11,.arr 1011),(65,.arr 50018),(66,tI),(67,tI)] [(1011,.arr 108 2),(50018,.arr 267 2)] 157 [xE 0 [(68,.b)]] @YD n
def Ek:EZ9 139:=mkD (GE n).ok [orL (Lo n n) (F1 n n)] 139 Tryz.f139 0 @WD n
def XS:BZ9:=Xa [⟨138,G2 n⟩,⟨140,M6 n⟩,⟨139,Ek n⟩,⟨136,Rb n⟩,⟨135,JY n⟩] []
def GG:LZ9:=mkU (XS n).ok nT 12 Tryz.f73 [(0,.ptr 1000000 0),(3,tI),(4,tI),(14,tI),(15,tI),(63,.l 2),(64,tI),(65,tI)] [(98012,.arr 3 1),(98017,.arr 100 3),(98018,.arr 110 6),(1000000,bT 175 [(12,.arr 98012),(17,.arr 98017),(18,.arr 98018)])] 41152 [xE 4 [(66,.b)]] @Qx n
def Gu:LZ9:=mkU (XS n).ok [GG n n] 5 Tryz.f73 [(0,.ptr 1000000 0),(3,tI),(4,tI),(14,tI),(15,tI)] [(98012,.arr 3 1),(98017,.arr 100 3),(98018,.arr 110 6),(1000000,bT 175 [(12,.arr 98012),(17,.arr 98017),(18,.arr 98018)])] 11622793282 [.f .ret [(2,tI)] [(98012,.arr 3 1),(98017,.arr 100 3),(98018,.arr 110 6),(1000000,bT 175 [(12,.arr 98012),(17,.arr 98017),(18,.arr 98018)])] [0,5,6,0,8,9,10,11,12,13,14,15,16,17,18,19,20,21,22,23],xE 2 [(26,.b)]] @QO n
def Gp:LZ9:=mkU (XS n).ok [Gu n n] 2 Tryz.f73 [(0,.ptr 1000000 0),(14,tI),(15,tI)] [(98012,.arr 3 1),(98017,.arr 100 3),(98018,.arr 110 6),(1000000,bT 175 [(12,.arr 98012),(17,.arr 98017),(18,.arr 98018)])] 1291421482 [.f .ret [(2,tI)] [(98012,.arr 3 1),(98017,.arr 100 3),(98018,.arr 110 6),(1000000,bT 175 [(12,.arr 98012),(17,.arr 98017),(18,.arr 98018)])] [0,3,4,0,6,7,8,9,10,11,12,13,14,15,16,17,18,19,20,21],xE 0 [(16,.b)]] @Qp n
def GS:EZ9 73:=mkW (XS n).ok [Gp n n] 73 Tryz.f73 (pT 1000000 175 [(12,eR 1000001 3 1),(17,eR 1000002 100 3),(18,eR 1000003 110 6)] []) [sI] [] 221167 524286 @Yd n
def Cs:EZ9 39:=mkD (Xa [⟨67,⟨TX n,F9 n⟩⟩,⟨68,KU n⟩,⟨69,Bq n⟩,⟨70,Hj n⟩,⟨71,Tz n⟩,⟨72,Kk n⟩,⟨73,GS n⟩] [(3,⟨[],[],[],[(20,12,2812,3,1),(20,13,2813,93,1),(20,14,2814,3,1),(20,15,2815,224,4),(20,17,2817,100,3),(20,18,2818,110,6)],[]⟩)]).ok nT 39 Tryz.f39 0 @GI n
def Ec:EZ9 141:=mkD (Xa [] []).ok nT 141 Tryz.f141 0 @G8 n
def Rk:BZ9:=Xa [⟨141,Ec n⟩] []
def DO:LZ9:=mkU (Rk n).ok nT 4 Tryz.f74 [(1,.ptr 1 0),(26,.l 6),(27,tI),(28,tI)] [(1,.box [tI,.l 3,.l 6])] 373 [.f .ret [(2,.cb false)] [] [],xE 0 [(29,.b)]] @U7 n
def CK:EZ9 74:=mkD (Rk n).ok [DO n n] 74 Tryz.f74 0 @T0 n
def Nt:BZ9:=Xa [⟨74,CK n⟩] []
def B3:LZ9:=mkU (Nt n).ok nT 4 Tryz.f40 [(2,.ptr 2 0),(18,.l 1),(19,tI),(20,tI)] [(2,.box [tI,.l 3,.l 6])] 49 [.f .ret [(4,.cb false)] [] [],xE 0 [(21,.b)]] @V2 n
def A0:EZ9 40:=mkD (Nt n).ok [B3 n n] 40 Tryz.f40 0 @JU n
def G3 (n:Nat):BZ9:=Xa [] []
def Fv:LZ9:=mkU (G3 n).ok nT 3 Tryz.f41 [(1,.ptr 1 0),(3,.arr 10),(12,tI),(13,tI)] [(1,bT 36 []),(10,.arr 3 1)] 118105 [xE 0 [(14,.b)]] @Gx n
def F2:LZ9:=mkU (G3 n).ok nT 8 Tryz.f41 [(3,.arr 10),(21,.l 4),(22,tI),(23,tI)] [(10,.arr 3 1)] 76 [xE 2 [(24,.b)]] @Ge n
def PS:EZ9 41:=mkD (G3 n).ok [Fv n n,F2 n n] 41 Tryz.f41 215 @Zm n
def Wg (n:Nat):BZ9:=Xa [] [(1,⟨[],[],[],[(8,0,1080,3,1)],[]⟩)]
def Jr:LZ9:=mkU (Wg n).ok nT 2 Tryz.f75 [(2,.ptr 1000000 0),(3,.ptr 1000002 0),(4,.ptr 1000003 0),(5,.ptr 1000004 0),(8,.ptr 8 0),(9,tI)] [(8,.box [.arr 1080,.b]),(1080,.arr 3 1),(98000,.arr 4 1),(98160,.arr 129 2),(1000000,.box [.arr 98000]),(1000002,.box [.l 1]),(1000003,bT 36 []),(1000004,.box [.arr 98160])] 177464 [xE 0 [(17,.b)]] @XC n
def JJ:EZ9 75:=mkW (Wg n).ok [Jr n n] 75 Tryz.f75 (sI::sB::eP 1000000 1::eR 1000001 4 1::eP 1000002 1::sL 1::pT 1000003 36 [] [eP 1000004 1,eR 1000005 129 2]) [eT 0] [] 3568 1022 @YE n
def GO:EZ9 77:=mkD (Xa [⟨78,PR n⟩] []).ok nT 77 Tryz.f77 0 @V9 n
def QP:BZ9:=Xa [⟨77,GO n⟩] []
def ZM:LZ9:=mkU (QP n).ok nT 4 Tryz.f188 [(0,.arr 1000000),(1,tI),(2,tI),(3,.fn 77 []),(8,tI),(9,tI)] [(1000000,.arr 129 2)] 217 [xE 2 [(34,.b)]] @QQ n
def ZK:LZ9:=mkU (QP n).ok [ZM n n] 1 Tryz.f188 [(0,.arr 1000000),(1,tI),(2,tI),(3,.fn 77 []),(8,tI)] [(1000000,.arr 129 2)] 76 [xE 0 [(14,.b)]] @QR n
def ZO:EZ9 188:=Q75 (mkW (QP n).ok [ZK n n] 188 Tryz.f188 [eR 1000000 129 2,sI,sI,eF 77 0] [eT 0] [(1,eK 1000000 129 2)] 0 0 @XU n)
def Y4:BZ9:=Xa [⟨188,ZO n⟩] []
def WX:LZ9:=mkU (Y4 n).ok nT 2 Tryz.f142 [(0,.arr 1000000),(1,tI),(2,tI),(3,tI),(4,.fn 77 []),(10,.cb true),(11,.cb true)] [(1000000,.arr 129 2)] 40 [.f .ret [] [(1000000,.arr 129 2)] [0]] @Y5 n
def Uj:EZ9 142:=Q75 (mkW (Y4 n).ok [WX n n] 142 Tryz.f142 [eR 1000000 129 2,sI,sI,sI,eF 77 0] [eT 0] [(1,eK 1000000 129 2)] 0 0 @Yo n)
def Yx:EZ9 76:=Q75 (mkW (Xa [⟨66,T5 n⟩,⟨142,Uj n⟩] []).ok nT 76 Tryz.f76 [eR 1000000 129 2,eF 77 0] [eT 0] [(1,eK 1000000 129 2)] 0 0 @Xn n)
def WP:BZ9:=Xa [⟨41,PS n⟩,⟨75,JJ n⟩,⟨76,Yx n⟩] [(11,⟨[],[],[],[(7,0,1070,129,2)],[]⟩),(14,⟨[],[],[],[(7,0,2280,129,2)],[]⟩)]
def Rs:LZ9:=mkU (WP n).ok nT 4 Tryz.f42 [(1,.ptr 1 0),(3,.ptr 3 0),(4,.arr 17),(19,.l 4),(20,tI),(21,tI)] [(1,bT 36 []),(3,.box [.l 1]),(17,.arr 4 1)] 1062904 [xE 0 [(22,.b)]] @VD n
def Rr:LZ9:=mkU (WP n).ok nT 12 Tryz.f42 [(1,.ptr 1 0),(4,.arr 17),(7,.ptr 7 0),(8,.ptr 8 0),(9,.fn 75 [.ptr 8 0,.ptr 3 0,.ptr 1 0,.ptr 7 0]),(37,tI),(38,tI)] [(1,bT 36 []),(3,.box [.l 1]),(7,.box [.arr 1070]),(8,.box [.arr 33]),(17,.arr 4 1),(33,.arr 4 1),(1070,.arr 129 2)] 4489918 [xE 2 [(39,.b)]] @WO n
def Rw:LZ9:=mkU (WP n).ok nT 18 Tryz.f42 [(7,.ptr 7 0),(8,.ptr 8 0),(9,.fn 75 [.ptr 8 0,.ptr 3 0,.ptr 1 0,.ptr 7 0]),(52,tI),(53,tI)] [(1,bT 36 []),(3,.box [.l 1]),(7,.box [.arr 1070]),(8,.box [.arr 33]),(33,.arr 4 1),(1070,.arr 129 2)] 1478419 [xE 4 [(54,.b)]] @WM n
def N4:EZ9 42:=mkD (WP n).ok [Rs n n,Rr n n,Rw n n] 42 Tryz.f42 215 @XH n
def V5:EZ9 145:=mkW (Xa [⟨36,L3 n⟩] []).ok nT 145 Tryz.f145 (pT 1000000 125 [(18,eR 1000001 3 1),(20,eR 1000002 45 5)] [sI]) [sI] [] 2043903 4194302 @Xo n
def VM:EZ9 83:=mkW (Xa [⟨145,V5 n⟩] []).ok nT 83 Tryz.f83 (pT 1000000 125 [(18,eR 1000001 3 1),(20,eR 1000002 45 5)] [sI,sI]) [eT 2,sI,sB] [] 1126015 8388604 @QZ n
def Jp:EZ9 82:=mkW (Xa [⟨145,V5 n⟩] []).ok nT 82 Tryz.f82 (pT 1000000 125 [(18,eR 1000001 3 1),(20,eR 1000002 45 5)] [sI,sI]) [sI] [] 1781759 4194302 @Xl n
def WB:BZ9:=Xa [⟨83,VM n⟩,⟨82,Jp n⟩] []
def Tb:LZ9:=mkU (WB n).ok nT 8 Tryz.f79 [(0,.ptr 1000000 0),(5,tI),(7,tI),(15,.l 1),(16,tI),(17,tI),(30,tI),(31,tI)] [(98018,.arr 3 1),(98020,.arr 45 5),(1000000,bT 125 [(18,.arr 98018),(20,.arr 98020)])] 10554668572604 [xE 2 [(32,.b)]] @Xy n
def Tc:LZ9:=mkU (WB n).ok [Tb n n] 5 Tryz.f79 [(0,.ptr 1000000 0),(5,tI),(15,.l 1),(16,tI),(17,tI)] [(98018,.arr 3 1),(98020,.arr 45 5),(1000000,bT 125 [(18,.arr 98018),(20,.arr 98020)])] 390913650842 [xE 0 [(18,.b)]] @X4 n
def TF:EZ9 79:=mkW (WB n).ok [Tc n n] 79 Tryz.f79 (pT 1000000 125 [(18,eR 1000001 3 1),(20,eR 1000002 45 5)] [eA [qL 1,qB]]) [sI] [] 1126015 4194302 @ZE n
def VA:EZ9 80:=mkW (Xa [] []).ok nT 80 Tryz.f80 (sI::sI::sI::eP 1000000 1::pT 1000001 125 [(18,eR 1000002 3 1),(20,eR 1000003 45 5)] [eP 1000004 1,sI,eP 1000005 1,sI]) [eT 0] [] 8388600 7340031 @Q8 n
def Em:EZ9 81:=mkD (Xa [⟨144,K2 n⟩] []).ok nT 81 Tryz.f81 0 @VU n
def Yw:BZ9:=Xa [⟨79,TF n⟩,⟨80,VA n⟩,⟨81,Em n⟩,⟨82,Jp n⟩,⟨83,VM n⟩] []
def HZ:LZ9:=mkU (Yw n).ok nT 17 Tryz.f43 [(3,.ptr 3 0),(5,.ptr 5 0),(7,.fn 80 [.ptr 3 0,.ptr 4 0,.ptr 6 0]),(8,tI),(9,tI),(10,tI),(11,.ptr 11 0),(12,tI),(14,.ptr 14 0),(16,tI),(46,.l 1),(47,tI),(48,tI),(77,.l 4),(78,tI),(79,tI),(128,.l 3),(129,tI),(130,tI)] [(3,.box [.ptr 1000000 0]),(4,.box [tI]),(5,.box [.l 1,.b]),(6,.box [tI]),(11,.box [.x,.x,.x,.x,.x]),(14,.box [.x,.x]),(98018,.arr 3 1),(98020,.arr 45 5),(1000000,bT 125 [(18,.arr 98018),(20,.arr 98020)])] 5083869477025 [xE 4 [(131,.b)]] @QI n
def HS:LZ9:=mkU (Yw n).ok [HZ n n] 9 Tryz.f43 [(3,.ptr 3 0),(5,.ptr 5 0),(7,.fn 80 [.ptr 3 0,.ptr 4 0,.ptr 6 0]),(8,tI),(9,tI),(10,tI),(11,.ptr 11 0),(46,.l 1),(47,tI),(48,tI),(77,.l 4),(78,tI),(79,tI)] [(3,.box [.ptr 1000000 0]),(4,.box [tI]),(5,.box [.l 1,.b]),(6,.box [tI]),(11,.box [.x,.x,.x,.x,.x]),(98018,.arr 3 1),(98020,.arr 45 5),(1000000,bT 125 [(18,.arr 98018),(20,.arr 98020)])] 2019825192481251836 [xE 2 [(80,.b)]] @Qm n
def HF:LZ9:=mkU (Yw n).ok [HS n n] 5 Tryz.f43 [(3,.ptr 3 0),(5,.ptr 5 0),(7,.fn 80 [.ptr 3 0,.ptr 4 0,.ptr 6 0]),(8,tI),(46,.l 1),(47,tI),(48,tI)] [(3,.box [.ptr 1000000 0]),(4,.box [tI]),(5,.box [.l 1,.b]),(6,.box [tI]),(98018,.arr 3 1),(98020,.arr 45 5),(1000000,bT 125 [(18,.arr 98018),(20,.arr 98020)])] 34205931341042 [xE 0 [(49,.b)]] @Xp n
def Te:EZ9 43:=mkW (Yw n).ok [HF n n] 43 Tryz.f43 (pT 1000000 125 [(18,eR 1000001 3 1),(20,eR 1000002 45 5)] [sI,eA [qL 1,qB]]) [eT 0] [] 11792 1048575 @Zc n
def Ko:BZ9:=Xa [⟨39,Cs n⟩,⟨40,A0 n⟩,⟨41,PS n⟩,⟨42,N4 n⟩,⟨43,Te n⟩] [(8,⟨[],[],[],[(39,18,1408,3,1)],[]⟩),(15,⟨[],[],[],[(39,20,503920,45,5)],[]⟩)]
def FV:LZ9:=mkU (Ko n).ok nT 9 Tryz.f16 [(5,.ptr 5 0),(12,.ptr 39 0),(13,tI),(41,.l 4),(42,tI),(43,tI)] [(5,bT 36 []),(39,bT 125 [(18,.arr 1408),(19,.ci .i64 0),(20,.nil)]),(1408,.arr 3 1)] 411782264189366 [xE 0 [(44,.b)]] @XO n
def E6:LZ9:=mkU (Ko n).ok nT 16 Tryz.f16 [(12,.ptr 39 0),(68,.l 2),(69,tI),(70,tI)] [(39,bT 125 [(18,.arr 1408),(20,.arr 503920)]),(1408,.arr 3 1),(503920,.arr 45 5)] 235307989435 [xE 2 [(71,.b)]] @Xv n
def Rq:EZ9 16:=mkD (Ko n).ok [FV n n,E6 n n] 16 Tryz.f16 0 @Zf n
def DD:EZ9 7:=mkD (Xa [⟨16,Rq n⟩] []).ok nT 7 Tryz.f7 0 @P8 n
def Lj:EZ9 9:=mkD (Xa [⟨16,Rq n⟩] []).ok nT 9 Tryz.f9 0 @Hq n
def law19_OccupancyStandsAreUses_VB:BZ9:=Xa [⟨5,Ac n⟩,⟨6,Q1k n⟩,⟨7,DD n⟩,⟨9,Lj n⟩] []
def law19_OccupancyStandsAreUses_l1:LZ9:=mkU (law19_OccupancyStandsAreUses_VB n).ok nT 10 Tryz.f4 [(3,.ptr 3 0),(7,.l 5),(9,.l 5),(11,tI),(50,tI),(51,tI)] [(3,bT 27 [])] 211 [xE 0 [(52,.b)]] @QK n
def law19_OccupancyStandsAreUses_l2:LZ9:=mkU (law19_OccupancyStandsAreUses_VB n).ok nT 16 Tryz.f4 [(3,.ptr 3 0),(9,.l 5),(11,tI),(73,tI),(74,tI)] [(3,bT 27 [])] 793 [.f .ret [(2,.cb false)] [] [],xE 2 [(75,.b)]] @X1 n
end Go.Vx
