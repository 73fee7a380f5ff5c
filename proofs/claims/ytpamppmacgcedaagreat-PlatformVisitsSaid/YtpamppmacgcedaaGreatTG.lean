/- Part of a proof. No conditions of their own. -/
import Derived.Test.YtpamppmacgcedaaGreatTF
import Derived.Test.YtpamppmacgcedaaGreatTC
import Derived.Test.YtpamppmacgcedaaGreatTD
import Derived.Test.YtpamppmacgcedaaGreatTE
import Derived.Test.YtpamppmacgcedaaGreatTB
import Derived.Maps.Own
import Derived.Maps.Views
import Derived.StringKeys
import Derived.WalkKit
import Derived.Deep.AppendLies
import Derived.Laws.Rows
import Derived.OneCell
import Derived.Lib.LaidTab
import Derived.Orders
import Derived.LoopTactic
import Derived.Lib.Builder
import Derived.Carry
import Derived.Deep.RegionHeld3
import Derived.Deep.RegionLaw
import Derived.StillTailTactics
import Derived.OrdersHeld
import Derived.Test.YtpamppmacgcedaaGreatProg
import Derived.Laws.CopyOwn
import Derived.Deep.OwnRows
set_option linter.unusedVariables false
set_option linter.unusedSimpArgs false
set_option linter.unusedSectionVars false
noncomputable section
abbrev Qku:=@Go.Lib.cell_of_heap
abbrev Qkv:=@List.getElem?_eq_some_iff
abbrev Qkw:=@Bool.and_eq_true
abbrev Qkx:=@List.mem_of_getElem?
abbrev Qky:=@List.getElem?_cons_zero
abbrev Qkz:=@Option.bind_eq_some_iff
abbrev QkA:=@Nat.lt_of_lt_of_le
abbrev QkB:=@Nat.le_of_ble_eq_true
abbrev QkC:=@List.mem_replicate
abbrev QkD:=@List.nil_append
abbrev QkE:=@List.cons_append
abbrev QkF:=@Option.map_none
abbrev QkG:=@Option.map_some
abbrev QkH:=@List.getElem?_eq_getElem
abbrev QkI:=@Go.Lib.alloc_old
abbrev QkJ:=@List.take_of_length_le
abbrev QkK:=@Option.map_eq_some_iff
abbrev QkL:=@Array.getElem?_eq_some_iff
abbrev QkM:=@Nat.le_refl
abbrev QkN:=@Nat.zero_add
abbrev QkO:=@List.getElem?_set
set_option maxRecDepth 100000
namespace Go.Vx
open Go.Proofs
variable (n:Nat)
def Kw:BZ9:=Xa [⟨64,Rm n⟩,⟨41,Kx n⟩] []
def Nr:LZ9:=mkU (Kw n).ok nT 4 Tryz.f42 [(0,.ptr 1000000 0),(1,tI),(2,.l 1),(3,.b),(8,tI),(16,tI),(17,tI)] [(98000,.arr 9 1),(98001,.arr 9 1),(98002,.arr 72 5),(98003,.arr 166 6),(98004,.arr 22 1),(98005,.arr 22 1),(98006,.arr 22 1),(1000000,.box [.arr 98000,.arr 98001,.arr 98002,.arr 98003,.arr 98004,.arr 98005,.arr 98006])] 39973 [xE 0 [(18,.b)]] @QC n
def NM:EZ9 42:=mkW (Kw n).ok [Nr n n] 42 Tryz.f42 [eP 1000000 7,eR 1000001 9 1,eR 1000002 9 1,eR 1000003 72 5,eR 1000004 166 6,eR 1000005 22 1,eR 1000006 22 1,eR 1000007 22 1,sI,sL 1,sB] [eT 0] [] 117 117 @VD n
def KH:BZ9:=Xa [⟨13,ZW n⟩,⟨38,Mc n⟩,⟨39,Mh n⟩,⟨40,NX n⟩,⟨41,Kx n⟩,⟨42,NM n⟩] [(3,⟨[],[],[],[(14,0,501400,9,1),(14,1,501401,9,1),(14,2,501402,72,5),(14,3,501403,166,6),(14,4,501404,22,1),(14,5,501405,22,1),(14,6,501406,22,1)],[]⟩),(8,⟨[],[],[(6,1006,3,1)],[],[]⟩),(19,⟨[],[],[(10,1010,3,1)],[],[]⟩)]
def Q5U:LZ9:=mkU (KH n).ok nT 9 Tryz.f12 [(0,.ptr 1000000 0),(3,.ptr 14 0),(4,tI),(5,tI),(6,.arr 1006),(7,tI)] [(14,.box [.arr 32,.arr 501401,.arr 501402,.arr 501403,.arr 501404,.arr 501405,.arr 501406]),(32,.arr 9 1),(1006,.arr 3 1),(501401,.arr 9 1),(501402,.arr 72 5),(501403,.arr 166 6),(501404,.arr 22 1),(501405,.arr 22 1),(501406,.arr 22 1),(1000000,.box [.l 1,tI])] 1241670 [xE 2 [(40,.b)]] @G9 n
def Q5K:LZ9:=mkU (KH n).ok [Q5U n n] 4 Tryz.f12 [(0,.ptr 1000000 0),(3,.ptr 14 0),(4,tI),(5,tI)] [(14,.box [.arr 501400,.arr 501401,.arr 501402,.arr 501403,.arr 501404,.arr 501405,.arr 501406]),(501400,.arr 9 1),(501401,.arc 9 1),(501402,.arr 72 5),(501403,.arc 166 6),(501404,.arr 22 1),(501405,.arc 22 1),(501406,.arc 22 1),(1000000,.box [.l 1,tI])] 1942 [xE 0 [(20,.b)]] @UY n
def Q5E:LZ9:=mkU (KH n).ok nT 20 Tryz.f12 [(0,.ptr 1000000 0),(3,.ptr 14 0),(4,tI),(9,tI),(10,.arr 1010),(11,tI)] [(14,.box [.arr 501400,.arr 501401,.arr 501402,.arr 501403,.arr 501404,.arr 501405,.arr 501406]),(1010,.arr 3 1),(501400,.arr 9 1),(501401,.arr 9 1),(501402,.arr 72 5),(501403,.arr 166 6),(501404,.arr 22 1),(501405,.arr 22 1),(501406,.arr 22 1),(1000000,.box [.l 1,tI])] 1241562 [xE 6 [(80,.b)]] @G7 n
def Q4K:LZ9:=mkU (KH n).ok nT 24 Tryz.f12 [(0,.ptr 1000000 0),(3,.ptr 14 0),(4,tI),(9,tI),(10,.arr 1010),(12,tI)] [(14,.box [.arr 501400,.arr 501401,.arr 501402,.arr 501403,.arr 501404,.arr 501405,.arr 501406]),(1010,.arr 3 1),(501400,.arr 9 1),(501401,.arr 9 1),(501402,.arr 72 5),(501403,.arr 166 6),(501404,.arr 22 1),(501405,.arr 22 1),(501406,.arr 22 1),(1000000,.box [.l 1,tI])] 4419 [xE 8 [(98,.b)]] @SY n
def Q58:LZ9:=mkU (KH n).ok [Q5E n n,Q4K n n] 16 Tryz.f12 [(0,.ptr 1000000 0),(3,.ptr 14 0),(4,tI),(9,tI)] [(14,.box [.arr 501400,.arr 501401,.arr 501402,.arr 501403,.arr 501404,.arr 501405,.arr 501406]),(501400,.arr 9 1),(501401,.arr 9 1),(501402,.arr 72 5),(501403,.arr 166 6),(501404,.arr 22 1),(501405,.arr 22 1),(501406,.arc 22 1),(1000000,.box [.l 1,tI])] 51739 [xE 4 [(73,.b)]] @UO n
def Q7s:EZ9 12:=mkW (KH n).ok [Q5K n n,Q58 n n] 12 Tryz.f12 [eP 1000000 2,sL 1,sI] [eP 14 7,eR 501400 9 1,eR 501401 9 1,eR 501402 72 5,eR 501403 166 6,eR 501404 22 1,eR 501405 22 1,eR 501406 22 1] [] 0 128 @B8 n
def Vl (n:Nat):BZ9:=Xa [] []
def SK:LZ9:=mkU (Vl n).ok nT 6 Tryz.f44 [(1,tI),(3,tI),(10,.ptr 10 0),(11,.l 1),(12,.arr 98004),(13,.ptr 13 0),(48,tI),(49,tI)] [(10,.box [.nil,.ci .i64 0]),(13,.box [.arr 45,.ci .i64 0]),(45,.arr 137 2),(98000,.arr 9 1),(98001,.arr 9 1),(98002,.arr 72 5),(98003,.arr 166 6),(98004,.arr 22 1),(98005,.arr 22 1),(98006,.arr 22 1),(1000000,.box [.arr 98000,.arr 98001,.arr 98002,.arr 98003,.arr 98004,.arr 98005,.arr 98006])] 684 [xE 0 [(50,.b)]] @ZU n
def Sj:LZ9:=mkU (Vl n).ok nT 14 Tryz.f44 [(1,tI),(2,tI),(10,.ptr 10 0),(11,.l 1),(12,.arr 98004),(13,.ptr 13 0),(15,tI)] [(10,.box [.nil,.ci .i64 0]),(13,.box [.arr 104,.ci .i64 0]),(104,.arr 137 2),(98000,.arr 9 1),(98001,.arr 9 1),(98002,.arr 72 5),(98003,.arr 166 6),(98004,.arr 22 1),(98005,.arr 22 1),(98006,.arr 22 1),(1000000,.box [.arr 98000,.arr 98001,.arr 98002,.arr 98003,.arr 98004,.arr 98005,.arr 98006])] 225 [xE 2 [(110,.b)]] @Wc n
def RO:EZ9 44:=mkW (Vl n).ok [SK n n,Sj n n] 44 Tryz.f44 [eP 1000000 7,eR 1000001 9 1,eR 1000002 9 1,eR 1000003 72 5,eR 1000004 166 6,eR 1000005 22 1,eR 1000006 22 1,eR 1000007 22 1,sI,sI,sI,sB] [eO 2,eR 96001 137 2,sI] [] 79 508 @YO n
def VL:BZ9:=Xa [⟨38,Mc n⟩,⟨13,ZW n⟩,⟨44,RO n⟩] [(7,⟨[],[],[],[(10,3,1103,132,4)],[]⟩)]
def Re:LZ9:=mkU (VL n).ok nT 3 Tryz.f14 [(0,.ptr 1000000 0),(1,.ptr 1000008 0),(2,.ptr 1000009 0),(3,.b),(4,tI),(10,.ptr 10 0),(11,.ac 11 0 0),(25,tI)] [(10,.box [.t,.ci .i64 0,tI,.nil]),(11,.arr 126 1),(98000,.arr 9 1),(98001,.arr 9 1),(98002,.arr 72 5),(98003,.arr 166 6),(98004,.arr 22 1),(98005,.arr 22 1),(98006,.arr 22 1),(98361,.arr 59 5),(98362,.arr 129 2),(98363,.arr 70 4),(98364,.arr 67 7),(98365,.arr 135 4),(98366,.arr 75 5),(98367,.arr 77 3),(1000000,.box [.arr 98000,.arr 98001,.arr 98002,.arr 98003,.arr 98004,.arr 98005,.arr 98006]),(1000008,.box [.l 1,tI]),(1000009,.box [tI,.arr 98361,.arr 98362,.arr 98363,.arr 98364,.arr 98365,.arr 98366,.arr 98367])] 24407491311 [xE 0 [(26,.b)]] @Ws n
def RK:LZ9:=mkU (VL n).ok nT 8 Tryz.f14 [(0,.ptr 1000000 0),(1,.ptr 1000008 0),(2,.ptr 1000009 0),(3,.b),(4,tI),(10,.ptr 10 0),(11,.ac 11 0 0),(13,tI)] [(10,.box [.t,.ci .i64 0,tI,.arr 1103]),(11,.arr 126 1),(1103,.arr 132 4),(98000,.arr 9 1),(98001,.arr 9 1),(98002,.arr 72 5),(98003,.arr 166 6),(98004,.arr 22 1),(98005,.arr 22 1),(98006,.arr 22 1),(98361,.arr 59 5),(98362,.arr 129 2),(98363,.arr 70 4),(98364,.arr 67 7),(98365,.arr 135 4),(98366,.arr 75 5),(98367,.arr 77 3),(1000000,.box [.arr 98000,.arr 98001,.arr 98002,.arr 98003,.arr 98004,.arr 98005,.arr 98006]),(1000008,.box [.l 1,tI]),(1000009,.box [tI,.arr 98361,.arr 98362,.arr 98363,.arr 98364,.arr 98365,.arr 98366,.arr 98367])] 73251880546 [xE 2 [(35,.b)]] @QH n
def No:EZ9 14:=mkW (VL n).ok [Re n n,RK n n] 14 Tryz.f14 [eP 1000000 7,eR 1000001 9 1,eR 1000002 9 1,eR 1000003 72 5,eR 1000004 166 6,eR 1000005 22 1,eR 1000006 22 1,eR 1000007 22 1,eP 1000008 2,sL 1,sI,eP 1000009 8,sI,eR 1000010 59 5,eR 1000011 129 2,eR 1000012 70 4,eR 1000013 67 7,eR 1000014 135 4,eR 1000015 75 5,eR 1000016 77 3,sB,sI] [eT 0] [] 124495 124671 @V8 n
def Aj:EZ9 16:=mkD (Xa [] []).ok nT 16 Tryz.f16 0 @M7 n
def C2:EZ9 17:=mkD (Xa [] []).ok nT 17 Tryz.f17 0 @Sl n
def HX:BZ9:=Xa [⟨13,ZW n⟩,⟨16,Aj n⟩,⟨17,C2 n⟩] []
def CI:LZ9:=mkU (HX n).ok nT 5 Tryz.f15 [(0,.ptr 1000000 0),(1,.ptr 1000001 0),(4,.ac 4 0 0),(5,.ac 5 0 0),(6,tI),(13,tI),(14,tI),(21,tI),(22,tI)] [(4,.arr 133 1),(5,.arr 133 1),(98041,.arr 59 5),(98042,.arr 129 2),(98043,.arr 70 4),(98044,.arr 67 7),(98045,.arr 135 4),(98046,.arr 75 5),(98047,.arr 77 3),(1000000,.box [.l 1,tI]),(1000001,.box [tI,.arr 98041,.arr 98042,.arr 98043,.arr 98044,.arr 98045,.arr 98046,.arr 98047])] 79097176 [xE 2 [(23,.b)]] @YG n
def CK:LZ9:=mkU (HX n).ok [CI n n] 2 Tryz.f15 [(0,.ptr 1000000 0),(1,.ptr 1000001 0),(4,.ac 4 0 0),(5,.ac 5 0 0),(13,tI),(14,tI)] [(4,.arr 133 1),(5,.arr 133 1),(98041,.arr 59 5),(98042,.arr 129 2),(98043,.arr 70 4),(98044,.arr 67 7),(98045,.arr 135 4),(98046,.arr 75 5),(98047,.arr 77 3),(1000000,.box [.l 1,tI]),(1000001,.box [tI,.arr 98041,.arr 98042,.arr 98043,.arr 98044,.arr 98045,.arr 98046,.arr 98047])] 2929525 [xE 0 [(15,.b)]] @Us n
def Bq:EZ9 15:=mkW (HX n).ok [CK n n] 15 Tryz.f15 [eP 1000000 2,sL 1,sI,eP 1000001 8,sI,eR 1000002 59 5,eR 1000003 129 2,eR 1000004 70 4,eR 1000005 67 7,eR 1000006 135 4,eR 1000007 75 5,eR 1000008 77 3] [eT 0] [] 0 893 @TF n
def Hq:BZ9:=Xa [⟨11,AI n⟩,⟨12,Q7s n⟩,⟨13,ZW n⟩,⟨14,No n⟩,⟨15,Bq n⟩,⟨16,Aj n⟩,⟨17,C2 n⟩] [(4,⟨[],[],[],[(6,2,500602,129,2),(6,3,500603,70,4),(6,4,500604,67,7),(6,5,500605,135,4),(6,6,500606,75,5),(6,7,500607,77,3)],[]⟩)]
def Q3s:LZ9:=mkU (Hq n).ok nT 5 Tryz.f4 [(2,.ptr 2 0),(3,.ptr 3 0),(4,.ptr 50013 0),(5,.ptr 50015 0),(6,.ptr 6 0),(7,tI)] [(2,.box [.nil,.nil,.nil,.nil]),(3,.box [.ci .i64 0,.nil,.nil,.nil,.nil,.nil,.nil,.nil]),(6,.box [tI,.arr 37,.arr 500602,.arr 500603,.arr 500604,.arr 500605,.arr 500606,.arr 500607]),(37,.arr 59 5),(50013,.box [.l 1,tI]),(50015,.box [.arr 100015,.arr 150015,.arr 200015,.arr 250015,.arr 300015,.arr 350015,.arr 400015]),(100015,.arr 9 1),(150015,.arr 9 1),(200015,.arr 72 5),(250015,.arr 166 6),(300015,.arr 22 1),(350015,.arr 22 1),(400015,.arr 22 1),(500602,.arr 129 2),(500603,.arr 70 4),(500604,.arc 67 7),(500605,.arc 135 4),(500606,.arc 75 5),(500607,.arc 77 3)] 4330451 [xE 0 [(43,.b)]] @Gk n
def Q31:LZ9:=mkU (Hq n).ok nT 10 Tryz.f4 [(2,.ptr 2 0),(3,.ptr 3 0),(4,.ptr 50013 0),(5,.ptr 50015 0),(6,.ptr 6 0),(8,tI)] [(2,.box [.nil,.nil,.nil,.nil]),(3,.box [.ci .i64 0,.nil,.nil,.nil,.nil,.nil,.nil,.nil]),(6,.box [tI,.arr 50061,.arr 100061,.arr 150061,.arr 200061,.arr 250061,.arr 300061,.arr 350061]),(50013,.box [.l 1,tI]),(50015,.box [.arr 100015,.arr 150015,.arr 200015,.arr 250015,.arr 300015,.arr 350015,.arr 400015]),(50061,.arr 59 5),(100015,.arr 9 1),(100061,.arr 129 2),(150015,.arr 9 1),(150061,.arr 70 4),(200015,.arr 72 5),(200061,.arr 67 7),(250015,.arr 166 6),(250061,.arr 135 4),(300015,.arr 22 1),(300061,.arc 75 5),(350015,.arr 22 1),(350061,.arc 77 3),(400015,.arr 22 1)] 676661 [xE 2 [(71,.b)]] @Jj n
def Q3U:LZ9:=mkU (Hq n).ok nT 22 Tryz.f4 [(2,.ptr 2 0),(3,.ptr 3 0),(4,.ptr 50013 0),(5,.ptr 50015 0),(6,.ptr 6 0),(10,tI)] [(2,.box [.nil,.nil,.nil,.nil]),(3,.box [tI,.nil,.nil,.nil,.nil,.nil,.nil,.nil]),(6,.box [tI,.arr 50061,.arr 100061,.arr 150061,.arr 200061,.arr 250061,.arr 175,.arr 350061]),(175,.arr 75 5),(50013,.box [.l 1,tI]),(50015,.box [.arr 100015,.arr 150015,.arr 200015,.arr 250015,.arr 300015,.arr 350015,.arr 400015]),(50061,.arr 59 5),(100015,.arr 9 1),(100061,.arr 129 2),(150015,.arr 9 1),(150061,.arr 70 4),(200015,.arr 72 5),(200061,.arr 67 7),(250015,.arr 166 6),(250061,.arr 135 4),(300015,.arr 22 1),(350015,.arr 22 1),(350061,.arr 77 3),(400015,.arr 22 1)] 258283082 [xE 4 [(180,.b)]] @Vs n
def Q4t:LZ9:=mkU (Hq n).ok nT 22 Tryz.f4 [(2,.ptr 2 0),(3,.ptr 3 0),(4,.ptr 50013 0),(5,.ptr 50015 0),(6,.ptr 6 0),(10,tI)] [(2,.box [.nil,.nil,.nil,.nil]),(3,.box [tI,.nil,.nil,.nil,.nil,.nil,.nil,.nil]),(6,.box [tI,.arr 50061,.arr 100061,.arr 150061,.arr 200061,.arr 250061,.arr 300061,.arr 350061]),(50013,.box [.l 1,tI]),(50015,.box [.arr 100015,.arr 150015,.arr 200015,.arr 250015,.arr 300015,.arr 350015,.arr 400015]),(50061,.arr 59 5),(100015,.arr 9 1),(100061,.arr 129 2),(150015,.arr 9 1),(150061,.arr 70 4),(200015,.arr 72 5),(200061,.arr 67 7),(250015,.arr 166 6),(250061,.arr 135 4),(300015,.arr 22 1),(300061,.arr 75 5),(350015,.arr 22 1),(350061,.arr 77 3),(400015,.arr 22 1)] 258281246 [.f (.exit 4) [(2,.ptr 2 0),(3,.ptr 3 0),(4,.ptr 50013 0),(5,.ptr 50015 0),(6,.ptr 6 0),(10,tI),(180,.b)] [(2,.box [.nil,.nil,.nil,.nil]),(3,.box [tI,.nil,.nil,.nil,.nil,.nil,.nil,.nil]),(6,.box [tI,.arr 50061,.arr 100061,.arr 150061,.arr 200061,.arr 250061,.arr 300061,.arr 350061]),(50013,.box [.l 1,tI]),(50015,.box [.arr 100015,.arr 150015,.arr 200015,.arr 250015,.arr 300015,.arr 350015,.arr 400015]),(50061,.arr 59 5),(100015,.arr 9 1),(100061,.arr 129 2),(150015,.arr 9 1),(150061,.arr 70 4),(200015,.arr 72 5),(200061,.arr 67 7),(250015,.arr 166 6),(250061,.arr 135 4),(300015,.arr 22 1),(350015,.arr 22 1),(350061,.arr 77 3),(400015,.arr 22 1),(300061,.arr 75 5)] [0,0,2,3,4,0,6,7,8,9,10,11,12,13,14,15,17,0,19,16]] @Ho n
def Q4J:EZ9 4:=mkD (Hq n).ok [Q3s n n,Q31 n n,orL (Q3U n n) (Q4t n n)] 4 Tryz.f4 0 @SD n
def Q1U:EZ9 155:=mkD (Xa [] []).ok nT 155 Tryz.f155 0 @LA n
def Q4o:EZ9 156:=mkD (Xa [] []).ok nT 156 Tryz.f156 0 @Q15 n
def DS:BZ9:=Xa [⟨155,Q1U n⟩,⟨156,Q4o n⟩] []
def Q4d:LZ9:=mkU (DS n).ok nT 4 Tryz.f106 [(0,.t),(3,tI)] [] 7 [.f .ret [(2,.cb false)] [] [],xE 0 [(21,.b)]] @NL n
def LO:EZ9 106:=mkD (DS n).ok [Q4d n n] 106 Tryz.f106 0 @M1 n
def Ek:BZ9:=Xa [⟨106,LO n⟩] []
def Q1L:LZ9:=mkU (Ek n).ok nT 4 Tryz.f102 [(0,.l 1),(1,tI),(5,tI)] [] 22 [.f .ret [(4,.ci .i64 5)] [] [],xE 0 [(14,.b)]] @Rf n
def Q2O:EZ9 102:=mkD (Ek n).ok [Q1L n n] 102 Tryz.f102 0 @Mp n
def T9 (n:Nat):BZ9:=Xa [] [(2,⟨[],[],[(3,1003,9,1)],[],[]⟩)]
def MR:LZ9:=mkU (T9 n).ok nT 3 Tryz.f103 [(1,.ptr 1 0),(3,.arr 1003),(4,tI)] [(1,bT 27 []),(1003,.arr 9 1)] 515 [xE 0 [(9,.b)]] @Z7 n
def Ll:EZ9 103:=mkD (T9 n).ok [MR n n] 103 Tryz.f103 0 @H7 n
def Q3l:EZ9 104:=mkD (Xa [] []).ok nT 104 Tryz.f104 0 @KG n
def Q0W:EZ9 153:=mkD (Xa [] []).ok nT 153 Tryz.f153 0 @CT n
def DP:BZ9:=Xa [⟨153,Q0W n⟩] []
def Q3Z:LZ9:=mkU (DP n).ok nT 4 Tryz.f154 [(1,tI),(3,.ptr 3 0),(5,.ptr 5 0),(7,.ptr 7 0),(8,tI),(9,.ptr 9 0),(10,tI)] [(3,bT 27 []),(5,.box [tI,tI]),(7,.box [.x,.x,.x,.x,.x,.x]),(9,.box [.x,.x,.x,.x,.x,.x])] 10446013798 [xE 0 [(19,.b)]] @PC n
def Q5f:EZ9 154:=mkD (DP n).ok [Q3Z n n] 154 Tryz.f154 0 @Bu n
def Sq:BZ9:=Xa [⟨104,Q3l n⟩,⟨153,Q0W n⟩,⟨154,Q5f n⟩] []
def EF:LZ9:=mkU (Sq n).ok nT 9 Tryz.f105 [(1,tI),(2,.ptr 2 0),(7,.ptr 7 0),(8,.ptr 8 0),(9,tI)] [(2,bT 27 []),(7,.box [tI,tI]),(8,.box [tI,tI])] 29410 [.f .ret [(4,.ci .i64 5)] [] [],xE 0 [(85,.b)]] @H5 n
def C8:EZ9 105:=mkD (Sq n).ok [EF n n] 105 Tryz.f105 0 @JX n
def GO:BZ9:=Xa [⟨102,Q2O n⟩,⟨103,Ll n⟩,⟨104,Q3l n⟩,⟨105,C8 n⟩] []
def Q2j:LZ9:=mkU (GO n).ok nT 6 Tryz.f65 [(1,.ptr 1 0),(3,tI)] [(1,bT 27 [])] 5 [.f .ret [(2,tI)] [] [0],xE 0 [(43,.b)]] @Ra n
def Q22:LZ9:=mkU (GO n).ok nT 12 Tryz.f65 [(1,.ptr 1 0),(5,tI)] [(1,bT 27 [])] 11 [.f .ret [(2,tI)] [] [0],xE 2 [(57,.b)]] @Ri n
def Q1Y:LZ9:=mkU (GO n).ok nT 19 Tryz.f65 [(1,.ptr 1 0),(7,.l 1),(8,tI)] [(1,bT 27 [])] 97 [.f .ret [(2,tI)] [] [0],xE 4 [(73,.b)]] @Jw n
def Q2A:LZ9:=mkU (GO n).ok nT 28 Tryz.f65 [(1,.ptr 1 0),(11,tI)] [(1,bT 27 [])] 122 [.f .ret [(2,tI)] [] [0],xE 6 [(117,.b)]] @Jo n
def DM:EZ9 65:=mkD (GO n).ok [Q2j n n,Q22 n n,Q1Y n n,Q2A n n] 65 Tryz.f65 0 @Gh n
def DN (n:Nat):BZ9:=Xa [] []
def Q48:LZ9:=mkU (DN n).ok nT 4 Tryz.f66 [(1,.ptr 1 0),(3,tI)] [(1,bT 36 [])] 83 [.f .ret [(2,.cb true)] [] [],xE 0 [(48,.b)]] @Gn n
def Q5n:EZ9 66:=mkD (DN n).ok [Q48 n n] 66 Tryz.f66 0 @Fa n
def TW:EZ9 49:=mkD (Xa [] []).ok nT 49 Tryz.f49 0 @J4 n
def Eu:EZ9 74:=mkD (Xa [] []).ok nT 74 Tryz.f74 0 @HU n
def KX:EZ9 107:=mkD (Xa [⟨74,Eu n⟩] []).ok nT 107 Tryz.f107 0 @Yj n
def PI:BZ9:=Xa [⟨106,LO n⟩,⟨107,KX n⟩] []
def FD:LZ9:=mkU (PI n).ok nT 4 Tryz.f67 [(1,tI),(2,.ptr 2 0),(5,tI)] [(2,bT 36 [])] 34 [.f .ret [(4,.ci .i64 5)] [] [],xE 0 [(16,.b)]] @Kh n
def EG:EZ9 67:=mkD (PI n).ok [FD n n] 67 Tryz.f67 0 @GM n
def Ld (n:Nat):BZ9:=Xa [] [(5,⟨[],[],[(6,1006,184,4)],[],[]⟩)]
def Q03:LZ9:=mkU (Ld n).ok nT 6 Tryz.f113 [(2,.ptr 2 0),(5,.ptr 5 0),(6,.arr 1006),(7,tI)] [(2,bT 27 []),(5,.box [tI,tI]),(1006,.arr 184 4)] 5429 [xE 0 [(22,.b)]] @ZB n
def Q2g:EZ9 113:=mkD (Ld n).ok [Q03 n n] 113 Tryz.f113 0 @BQ n
def Lc:BZ9:=Xa [⟨113,Q2g n⟩] []
def Q07:LZ9:=mkU (Lc n).ok nT 3 Tryz.f79 [(5,.ptr 5 0),(6,.ptr 6 0),(8,.l 4),(9,tI)] [(5,.box [tI,tI]),(6,.box [.ci .i64 0,.ci .i64 0,.ci .i64 0,.ci .i64 0])] 43 [.f .ret [(6,.ptr 6 0),(7,.cb true)] [(6,.box [.x,.x,.x,.x])] [0,0,0,0],xE 0 [(16,.b)]] @PZ n
def FI:EZ9 79:=mkF (Lc n).ok [Q07 n n] 79 Tryz.f79 [eA [qL 1,qL 1,qL 5,qL 6],eA [qI,qI],eA [qI,qI]] [eT 2,eA [qX,qX,qX,qX],sB] 0 @G4 n
def UG:BZ9:=Xa [⟨65,DM n⟩,⟨74,Eu n⟩,⟨79,FI n⟩] []
def F1:LZ9:=mkU (UG n).ok nT 8 Tryz.f68 [(2,.ptr 2 0),(3,.ptr 3 0),(5,tI)] [(2,bT 27 []),(3,.box [.l 2,tI])] 272 [.f .ret [(4,.ci .i64 4)] [] [],xE 0 [(39,.b)]] @Z4 n
def LZ:LZ9:=mkU (UG n).ok nT 16 Tryz.f68 [(2,.ptr 2 0),(3,.ptr 3 0),(6,tI),(7,tI)] [(2,bT 27 []),(3,.box [.l 2,tI])] 736 [.f .ret [(4,.ci .i64 5)] [] [],xE 4 [(73,.b)]] @Ka n
def Fi:LZ9:=mkU (UG n).ok [LZ n n] 13 Tryz.f68 [(2,.ptr 2 0),(3,.ptr 3 0),(6,tI)] [(2,bT 27 []),(3,.box [.l 2,tI])] 245 [.f .ret [(4,.ci .i64 5)] [] [],xE 2 [(68,.b)]] @Ja n
def FF:LZ9:=mkU (UG n).ok nT 21 Tryz.f68 [(2,.ptr 2 0),(3,.ptr 3 0),(8,tI)] [(2,bT 27 []),(3,.box [.l 2,tI])] 365 [.f .ret [(4,.ci .i64 11)] [] [],xE 6 [(93,.b)]] @YX n
def S9:EZ9 68:=mkD (UG n).ok [F1 n n,Fi n n,FF n n] 68 Tryz.f68 0 @Ji n
def R9:EZ9 108:=mkD (Xa [] []).ok nT 108 Tryz.f108 0 @KE n
def Rl:BZ9:=Xa [⟨68,S9 n⟩] [(5,⟨[],[],[(8,1008,241,2)],[],[]⟩)]
def Q1Z:LZ9:=mkU (Rl n).ok nT 13 Tryz.f111 [(2,.ptr 2 0),(3,.ptr 3 0),(8,.arr 1008),(9,tI),(10,.ptr 10 0),(11,tI),(12,tI)] [(2,bT 27 []),(3,.box [.l 2,tI]),(10,.box [.x,.x,.x,.x,.x]),(1008,.arr 241 2)] 9802155 [xE 2 [(53,.b)]] @UD n
def Q1W:LZ9:=mkU (Rl n).ok [Q1Z n n] 6 Tryz.f111 [(2,.ptr 2 0),(3,.ptr 3 0),(8,.arr 1008),(9,tI)] [(2,bT 27 []),(3,.box [.l 2,tI]),(1008,.arr 241 2)] 5375 [xE 0 [(26,.b)]] @UL n
def DG:EZ9 111:=mkD (Rl n).ok [Q1W n n] 111 Tryz.f111 0 @So n
def DC:BZ9:=Xa [⟨111,DG n⟩,⟨107,KX n⟩] []
def Q3q:LZ9:=mkU (DC n).ok nT 7 Tryz.f73 [(3,.ptr 3 0),(4,.ptr 4 0),(5,.ptr 5 0),(10,tI)] [(3,bT 27 []),(4,.box [.l 2,tI]),(5,bT 59 [])] 7562 [.f .ret [(6,.ci .i64 12)] [] [],xE 0 [(31,.b)]] @Gu n
def Lv:EZ9 73:=mkD (DC n).ok [Q3q n n] 73 Tryz.f73 0 @SL n
def PF:EZ9 109:=mkD (Xa [] []).ok nT 109 Tryz.f109 0 @Gr n
def Rw:EZ9 110:=mkD (Xa [] []).ok nT 110 Tryz.f110 0 @Vi n
def KD:BZ9:=Xa [⟨106,LO n⟩,⟨49,TW n⟩,⟨108,R9 n⟩,⟨73,Lv n⟩,⟨109,PF n⟩,⟨110,Rw n⟩] []
def D8:LZ9:=mkU (KD n).ok nT 5 Tryz.f69 [(2,tI),(3,.ptr 3 0),(4,.ptr 4 0),(7,.ptr 7 0),(8,tI)] [(3,bT 27 []),(4,bT 36 []),(7,.box [.x,.x,.x,.x])] 4802659 [.f .ret [(6,.ci .i64 5)] [] [],xE 0 [(24,.b)]] @WX n
def Dt:LZ9:=mkU (KD n).ok nT 14 Tryz.f69 [(3,.ptr 3 0),(4,.ptr 4 0),(7,.ptr 7 0),(9,tI)] [(3,bT 27 []),(4,bT 36 []),(7,.box [.x,.x,.x,.x])] 48626852 [.f .ret [(6,tI)] [] [0],xE 2 [(58,.b)]] @WL n
def CM:EZ9 69:=mkD (KD n).ok [D8 n n,Dt n n] 69 Tryz.f69 0 @H9 n
def As:EZ9 72:=mkD (Xa [⟨49,TW n⟩] []).ok nT 72 Tryz.f72 0 @JQ n
def Hi:EZ9 48:=mkF (Xa [] []).ok nT 48 Tryz.f48 [eA [qI,qL 5,qL 2,qL 4,qL 7,qL 4,qL 5,qL 3],sI,sI] [eA [qX,qX]] 0 @Y1 n
def FZ:EZ9 70:=mkD (Xa [⟨72,As n⟩,⟨108,R9 n⟩,⟨49,TW n⟩,⟨48,Hi n⟩,⟨110,Rw n⟩,⟨109,PF n⟩] []).ok nT 70 Tryz.f70 0 @HZ n
def Sd:BZ9:=Xa [⟨49,TW n⟩,⟨108,R9 n⟩,⟨48,Hi n⟩,⟨110,Rw n⟩,⟨109,PF n⟩] []
def EY:LZ9:=mkU (Sd n).ok nT 5 Tryz.f71 [(1,tI),(2,.ptr 2 0),(5,.ptr 5 0),(6,tI)] [(2,bT 36 []),(5,.box [.x,.x,.x,.x])] 238390 [.f .ret [(4,.ci .i64 5)] [] [],xE 0 [(43,.b)]] @WY n
def C4:EZ9 71:=mkD (Sd n).ok [EY n n] 71 Tryz.f71 0 @He n
def YL:BZ9:=Xa [⟨65,DM n⟩,⟨66,Q5n n⟩,⟨49,TW n⟩,⟨67,EG n⟩,⟨68,S9 n⟩,⟨69,CM n⟩,⟨70,FZ n⟩,⟨71,C4 n⟩,⟨72,As n⟩] []
def Dm:LZ9:=mkU (YL n).ok nT 8 Tryz.f45 [(2,.ptr 2 0),(3,.ptr 3 0),(5,tI)] [(2,bT 27 []),(3,bT 36 [])] 797042 [.f .ret [(4,tI)] [] [0],xE 0 [(32,.b)]] @WP n
def ED:LZ9:=mkU (YL n).ok nT 14 Tryz.f45 [(2,.ptr 2 0),(3,.ptr 3 0),(7,tI)] [(2,bT 27 []),(3,bT 36 [])] 2309 [.f .ret [(4,tI)] [] [0],xE 2 [(45,.b)]] @WK n
def EH:LZ9:=mkU (YL n).ok nT 20 Tryz.f45 [(2,.ptr 2 0),(3,.ptr 3 0),(9,tI)] [(2,bT 27 []),(3,bT 36 [])] 797162 [.f .ret [(4,tI)] [] [0],xE 4 [(62,.b)]] @WO n
def DA:LZ9:=mkU (YL n).ok nT 26 Tryz.f45 [(2,.ptr 2 0),(3,.ptr 3 0),(11,tI)] [(2,bT 27 []),(3,bT 36 [])] 797162 [.f .ret [(4,tI)] [] [0],xE 6 [(76,.b)]] @Zu n
def EO:LZ9:=mkU (YL n).ok nT 32 Tryz.f45 [(2,.ptr 2 0),(3,.ptr 3 0),(13,tI)] [(2,bT 27 []),(3,bT 36 [])] 797042 [.f .ret [(4,tI)] [] [0],xE 8 [(94,.b)]] @Zq n
def ES:LZ9:=mkU (YL n).ok nT 38 Tryz.f45 [(2,.ptr 2 0),(3,.ptr 3 0),(15,tI)] [(2,bT 27 []),(3,bT 36 [])] 797042 [.f .ret [(4,.ci .i64 4)] [] [],xE 10 [(107,.b)]] @Zm n
def ET:LZ9:=mkU (YL n).ok nT 44 Tryz.f45 [(2,.ptr 2 0),(3,.ptr 3 0),(17,tI)] [(2,bT 27 []),(3,bT 36 [])] 531446 [.f .ret [(4,.ci .i64 4)] [] [],xE 12 [(158,.b)]] @Zs n
def CH:EZ9 45:=mkD (YL n).ok [Dm n n,ED n n,EH n n,DA n n,EO n n,ES n n,ET n n] 45 Tryz.f45 0 @Zw n
def FG (n:Nat):BZ9:=Xa [] []
def Q1B:LZ9:=mkU (FG n).ok nT 2 Tryz.f46 [(1,tI),(2,.ptr 2 0),(4,.ptr 4 0),(6,tI)] [(2,bT 36 []),(4,.box [.ci .i64 0,.ci .i64 0,.ci .i64 0,.ci .i64 0])] 2194 [.f .ret [(4,.ptr 4 0),(5,.cb true)] [(4,.box [.x,.x,.x,.x])] [0,0,0,0],xE 0 [(11,.b)]] @Jq n
def Py:EZ9 46:=mkF (FG n).ok [Q1B n n] 46 Tryz.f46 [eA [qI,qL 5,qL 2,qL 4,qL 7,qL 4,qL 5,qL 3],sI] [eT 2,eA [qX,qX,qX,qX],sB] 223 @KT n
def AL:BZ9:=Xa [⟨107,KX n⟩,⟨74,Eu n⟩] []
def Q4O:LZ9:=mkU (AL n).ok nT 6 Tryz.f196 [(0,.l 2),(1,tI),(7,tI)] [] 19 [.f .ret [(6,.ci .i64 4)] [] [],xE 0 [(17,.b)]] @KF n
def Q7v:EZ9 196:=mkD (AL n).ok [Q4O n n] 196 Tryz.f196 0 @CS n
def Ex (n:Nat):BZ9:=Xa [] []
def Q1q:LZ9:=mkU (Ex n).ok nT 3 Tryz.f197 [(0,.l 2),(1,tI),(7,tI),(8,tI)] [] 76 [xE 0 [(18,.b)]] @Jm n
def Q36:EZ9 197:=mkD (Ex n).ok [Q1q n n] 197 Tryz.f197 0 @Sc n
def Q3e:EZ9 198:=mkD (Xa [] []).ok nT 198 Tryz.f198 0 @MI n
def Q3H:EZ9 199:=mkD (Xa [] []).ok nT 199 Tryz.f199 0 @MF n
def DI (n:Nat):BZ9:=Xa [] []
def Q4z:LZ9:=mkU (DI n).ok nT 4 Tryz.f200 [(0,tI),(3,tI),(4,tI)] [] 25 [xE 0 [(10,.b)]] @Je n
def Q4L:EZ9 200:=mkD (DI n).ok [Q4z n n] 200 Tryz.f200 0 @Mi n
def JJ:BZ9:=Xa [⟨196,Q7v n⟩,⟨197,Q36 n⟩,⟨198,Q3e n⟩,⟨199,Q3H n⟩,⟨200,Q4L n⟩] []
def Q0u:LZ9:=mkU (JJ n).ok nT 7 Tryz.f157 [(0,.l 2),(1,tI),(5,.ptr 5 0),(9,tI),(10,.arr 29),(11,tI)] [(5,bT 59 []),(29,.arr 3 1)] 49234 [xE 0 [(32,.b)]] @UX n
def Q02:LZ9:=mkU (JJ n).ok nT 12 Tryz.f157 [(0,.l 2),(1,tI),(5,.ptr 5 0),(9,tI),(10,.arr 29),(13,tI)] [(5,bT 59 []),(29,.arr 3 1)] 49234 [xE 2 [(57,.b)]] @V2 n
def Q0g:LZ9:=mkU (JJ n).ok nT 16 Tryz.f157 [(0,.l 2),(1,tI),(5,.ptr 5 0),(9,tI),(10,.arr 29),(14,tI)] [(5,bT 59 []),(29,.arr 3 1)] 49225 [xE 4 [(86,.b)]] @V5 n
def Q09:LZ9:=mkU (JJ n).ok nT 20 Tryz.f157 [(9,tI),(10,.arr 29),(15,tI)] [(29,.arr 3 1)] 25 [xE 6 [(116,.b)]] @VV n
def Q2d:EZ9 157:=mkD (JJ n).ok [Q0u n n,Q02 n n,Q0g n n,Q09 n n] 157 Tryz.f157 0 @Rp n
def Lu:EZ9 76:=mkD (Xa [] []).ok nT 76 Tryz.f76 0 @JI n
def En:BZ9:=Xa [⟨157,Q2d n⟩,⟨76,Lu n⟩] []
def Q1E:LZ9:=mkU (En n).ok nT 6 Tryz.f112 [(8,.l 1),(10,.arr 24),(11,tI)] [(24,.arr 3 1)] 25 [xE 0 [(28,.b)]] @Js n
def Q3W:EZ9 112:=mkD (En n).ok [Q1E n n] 112 Tryz.f112 0 @S7 n
def Md:BZ9:=Xa [⟨73,Lv n⟩,⟨111,DG n⟩,⟨112,Q3W n⟩,⟨76,Lu n⟩] [(7,⟨[],[],[(6,1006,3,1),(7,1007,3,1)],[],[]⟩)]
def B9:LZ9:=mkU (Md n).ok nT 8 Tryz.f75 [(3,.ptr 3 0),(4,.ptr 4 0),(5,.ptr 5 0),(6,.arr 1006),(7,.arr 1007),(14,.l 1),(16,tI),(17,tI)] [(3,bT 27 []),(4,.box [.l 2,tI]),(5,bT 59 []),(1006,.arr 3 1),(1007,.arr 3 1)] 38331817 [xE 0 [(46,.b)]] @ZJ n
def AQ:EZ9 75:=mkD (Md n).ok [B9 n n] 75 Tryz.f75 0 @PK n
def Q4B:EZ9 77:=mkD (Xa [] []).ok nT 77 Tryz.f77 0 @J2 n
def Ff:EZ9 78:=mkW (Xa [] []).ok nT 78 Tryz.f78 [eP 1000000 2,eR 1000001 4 1,eR 1000002 146 3,sI,sI,sI] [eT 0] [] 0 0 @Zb n
def NW:BZ9:=Xa [⟨73,Lv n⟩,⟨74,Eu n⟩,⟨75,AQ n⟩,⟨76,Lu n⟩,⟨77,Q4B n⟩,⟨78,Ff n⟩,⟨79,FI n⟩] [(31,⟨[],[],[(27,1027,146,3)],[],[]⟩)]
def Q3y:LZ9:=mkU (NW n).ok nT 12 Tryz.f47 [(3,tI),(4,tI),(5,.ptr 5 0),(6,.ptr 6 0),(14,.l 1),(15,.l 1),(16,tI),(18,tI),(19,.ptr 65 0),(20,tI),(21,tI),(22,tI)] [(5,bT 27 []),(6,.box [.l 2,tI]),(61,.arr 4 1),(63,.arr 146 3),(65,.box [.arr 61,.arr 63])] 117191245 [xE 0 [(73,.b)]] @WB n
def Q3O:LZ9:=mkU (NW n).ok nT 32 Tryz.f47 [(16,tI),(18,tI),(19,.ptr 65 0),(27,.arr 1027),(28,tI)] [(61,.arr 4 1),(63,.arr 146 3),(65,.box [.arr 61,.arr 63]),(1027,.arr 146 3)] 615 [xE 3 [(173,.b)]] @Vt n
def Az:EZ9 47:=mkD (NW n).ok [Q3y n n,Q3O n n] 47 Tryz.f47 0 @Ki n
def S5:BZ9:=Xa [⟨45,CH n⟩,⟨46,Py n⟩,⟨48,Hi n⟩,⟨47,Az n⟩] [(5,⟨[],[],[(7,1007,82,1),(8,1008,3,1)],[],[]⟩)]
def Q0e:LZ9:=mkU (S5 n).ok nT 10 Tryz.f18 [(2,.ptr 2 0),(3,.ptr 3 0),(7,.arr 1007),(8,.arr 1008),(9,tI),(10,.ptr 10 0),(11,tI)] [(2,bT 27 []),(3,bT 36 []),(10,.box [.x,.x,.x,.x]),(1007,.arr 82 1),(1008,.arr 3 1)] 3245244469 [xE 2 [(39,.b)]] @YV n
def Q0b:LZ9:=mkU (S5 n).ok [Q0e n n] 6 Tryz.f18 [(2,.ptr 2 0),(3,.ptr 3 0),(7,.arr 1007),(8,.arr 1008),(9,tI)] [(2,bT 27 []),(3,bT 36 []),(1007,.arr 82 1),(1008,.arr 3 1)] 13551746 [xE 0 [(27,.b)]] @V1 n
def Q2u:EZ9 18:=mkD (S5 n).ok [Q0b n n] 18 Tryz.f18 0 @Rr n
def Sr (n:Nat):BZ9:=Xa [] []
def D1:LZ9:=mkU (Sr n).ok nT 2 Tryz.f50 [(0,.l 3),(3,tI)] [] 7 [.f .ret [(2,.cb false)] [] [],xE 0 [(7,.b)]] @Zj n
def N7:EZ9 50:=mkD (Sr n).ok [D1 n n] 50 Tryz.f50 0 @J1 n
def Fh:BZ9:=Xa [⟨49,TW n⟩,⟨50,N7 n⟩] []
def Q1s:LZ9:=mkU (Fh n).ok nT 4 Tryz.f19 [(0,tI),(1,.l 3),(5,tI)] [] 22 [.f .ret [(4,.cb false)] [] [],xE 0 [(17,.b)]] @JA n
def Q4n:EZ9 19:=mkD (Fh n).ok [Q1s n n] 19 Tryz.f19 0 @MK n
def Fc (n:Nat):BZ9:=Xa [] []
def Q2F:LZ9:=mkU (Fc n).ok nT 3 Tryz.f51 [(1,tI),(2,.ptr 2 0),(5,tI),(6,tI)] [(2,bT 36 [])] 754 [xE 0 [(9,.b)]] @JC n
def Gi:EZ9 51:=mkD (Fc n).ok [Q2F n n] 51 Tryz.f51 247 @Z5 n
def PV:BZ9:=Xa [⟨51,Gi n⟩,⟨46,Py n⟩] [(2,⟨[],[],[(5,1005,87,4)],[],[]⟩)]
def Q0t:LZ9:=mkU (PV n).ok nT 7 Tryz.f20 [(1,.l 1),(2,.ptr 2 0),(5,.arr 1005),(6,tI),(7,.ptr 7 0),(8,tI)] [(2,bT 36 []),(7,.box [.x,.x,.x,.x]),(1005,.arr 87 4)] 33488095 [xE 2 [(29,.b)]] @Wy n
def Q05:LZ9:=mkU (PV n).ok [Q0t n n] 3 Tryz.f20 [(1,.l 1),(2,.ptr 2 0),(5,.arr 1005),(6,tI)] [(2,bT 36 []),(1005,.arr 87 4)] 120535 [xE 0 [(17,.b)]] @UP n
def Q2C:EZ9 20:=mkD (PV n).ok [Q05 n n] 20 Tryz.f20 215 @R5 n
def TP (n:Nat):BZ9:=Xa [] []
def LC:LZ9:=mkU (TP n).ok nT 2 Tryz.f80 [(0,.l 3),(1,tI),(4,.ptr 4 0),(6,tI)] [(4,.box [.ci .i64 0,.ci .i64 0,.ci .i64 0])] 22 [.f .ret [(4,.ptr 4 0),(5,.cb true)] [(4,.box [.x,.x,.x])] [0,0,0],xE 0 [(10,.b)]] @Zi n
def E6:EZ9 80:=mkF (TP n).ok [LC n n] 80 Tryz.f80 [sL 3,sI] [eT 2,eA [qX,qX,qX],sB] 0 @VR n
def C3:EZ9 52:=mkF (Xa [⟨80,E6 n⟩] []).ok nT 52 Tryz.f52 [sL 1,eA [qI,qI,qI,qI],sI] [eT 3,eA [qX,qX,qX],eA [qX,qX,qX],sB] 16 @Sa n
def MZ:BZ9:=Xa [⟨52,C3 n⟩] []
def Q00:LZ9:=mkU (MZ n).ok nT 2 Tryz.f21 [(0,.l 1),(2,tI),(4,.ptr 4 0),(7,tI)] [(4,bT 87 [])] 1102 [.f .ret [(6,.cb false)] [] [],xE 0 [(18,.b)]] @UZ n
def Q2f:EZ9 21:=mkD (MZ n).ok [Q00 n n] 21 Tryz.f21 0 @RJ n
def PS:BZ9:=Xa [⟨51,Gi n⟩] [(2,⟨[],[],[(5,1005,99,6)],[],[]⟩)]
def Q0w:LZ9:=mkU (PS n).ok nT 7 Tryz.f22 [(1,.l 1),(2,.ptr 2 0),(5,.arr 1005),(6,tI),(7,.ptr 7 0),(8,tI)] [(2,bT 36 []),(7,.box [.x,.x,.x,.x]),(1005,.arr 99 6)] 35075857 [xE 2 [(27,.b)]] @UV n
def AW:LZ9:=mkU (PS n).ok [Q0w n n] 3 Tryz.f22 [(1,.l 1),(2,.ptr 2 0),(5,.arr 1005),(6,tI)] [(2,bT 36 []),(1005,.arr 99 6)] 118348 [xE 0 [(15,.b)]] @US n
def Q2r:EZ9 22:=mkW (PS n).ok [AW n n] 22 Tryz.f22 [eA [qI,qL 5,qL 2,qL 4,qL 7,qL 4,qL 5,qL 3],sL 1] [eR 1005 99 6] [] 247 0 @R0 n
def Hc:BZ9:=Xa [⟨51,Gi n⟩] [(2,⟨[],[],[(3,1003,99,6)],[],[]⟩)]
def Q0q:LZ9:=mkU (Hc n).ok nT 3 Tryz.f23 [(1,.ptr 1 0),(3,.arr 1003),(4,tI)] [(1,bT 36 []),(1003,.arr 99 6)] 39692 [xE 0 [(14,.b)]] @UT n
def Q0r:LZ9:=mkU (Hc n).ok nT 8 Tryz.f23 [(1,.ptr 1 0),(3,.arr 1003),(6,tI)] [(1,bT 36 []),(1003,.arr 99 6)] 40178 [xE 2 [(53,.b)]] @Ww n
def AR:LZ9:=mkU (Hc n).ok nT 13 Tryz.f23 [(1,.ptr 1 0),(3,.arr 1003),(8,tI)] [(1,bT 36 []),(1003,.arr 99 6)] 41636 [xE 4 [(93,.b)]] @Zy n
def Q2e:EZ9 23:=mkD (Hc n).ok [Q0q n n,Q0r n n,AR n n] 23 Tryz.f23 135 @RH n
def T3:BZ9:=Xa [⟨52,C3 n⟩] [(2,⟨[],[],[(9,1009,146,3)],[],[]⟩)]
def Ce:LZ9:=mkU (T3 n).ok nT 7 Tryz.f25 [(0,.l 1),(1,.l 4),(2,tI),(3,tI),(9,.arr 1009),(10,tI),(11,.b),(12,tI)] [(1009,.arr 146 3)] 2065 [xE 2 [(28,.b)]] @Zc n
def Cd:LZ9:=mkU (T3 n).ok [Ce n n] 3 Tryz.f25 [(0,.l 1),(1,.l 4),(2,tI),(3,tI),(9,.arr 1009),(10,tI)] [(1009,.arr 146 3)] 688 [xE 0 [(22,.b)]] @Wh n
def Bo:EZ9 25:=mkD (T3 n).ok [Cd n n] 25 Tryz.f25 0 @GR n
def DV (n:Nat):BZ9:=Xa [] []
def Q3Q:LZ9:=mkU (DV n).ok nT 2 Tryz.f81 [(0,.l 3),(1,tI),(4,.ptr 4 0),(6,tI)] [(4,.box [.ci .i64 0,.ci .i64 0,.ci .i64 0])] 22 [.f .ret [(4,.ptr 4 0),(5,.cb true)] [(4,.box [.x,.x,.x])] [0,0,0],xE 0 [(10,.b)]] @UN n
def Q5O:EZ9 81:=mkF (DV n).ok [Q3Q n n] 81 Tryz.f81 [sL 3,sI] [eT 2,eA [qX,qX,qX],sB] 0 @Ac n
def ML:EZ9 33:=mkD (Xa [] []).ok nT 33 Tryz.f33 0 @MJ n
def KK:BZ9:=Xa [⟨49,TW n⟩,⟨50,N7 n⟩,⟨81,Q5O n⟩,⟨33,ML n⟩] []
def Df:LZ9:=mkU (KK n).ok nT 13 Tryz.f53 [(0,tI),(1,.l 3),(2,.l 3),(8,.arr 26),(9,tI),(10,.ptr 10 0),(12,tI),(13,tI)] [(10,.box [.x,.x,.x]),(26,.arr 4 1)] 46525 [xE 2 [(70,.b)]] @Zt n
def EN:LZ9:=mkU (KK n).ok [Df n n] 7 Tryz.f53 [(0,tI),(1,.l 3),(2,.l 3),(8,.arr 26),(9,tI)] [(26,.arr 4 1)] 229 [xE 0 [(30,.b)]] @Yo n
def Ct:EZ9 53:=mkD (KK n).ok [EN n n] 53 Tryz.f53 0 @Hd n
def GB:BZ9:=Xa [⟨53,Ct n⟩,⟨33,ML n⟩] [(13,⟨[],[],[(12,1012,97,2)],[],[]⟩)]
def BM:LZ9:=mkU (GB n).ok nT 6 Tryz.f24 [(0,tI),(8,.l 1),(10,tI),(11,tI)] [] 76 [xE 0 [(27,.b)]] @U0 n
def A7:LZ9:=mkU (GB n).ok nT 18 Tryz.f24 [(0,tI),(8,.l 1),(12,.arr 1012),(13,tI),(14,tI)] [(1012,.arr 97 2)] 67 [xE 4 [(65,.b)]] @U9 n
def Bz:LZ9:=mkU (GB n).ok [A7 n n] 14 Tryz.f24 [(0,tI),(8,.l 1),(12,.arr 1012),(13,tI)] [(1012,.arr 97 2)] 76 [xE 2 [(41,.b)]] @YA n
def Q0i:EZ9 24:=mkD (GB n).ok [BM n n,Bz n n] 24 Tryz.f24 0 @Hp n
def Wx:BZ9:=Xa [⟨18,Q2u n⟩,⟨19,Q4n n⟩,⟨20,Q2C n⟩,⟨21,Q2f n⟩,⟨22,Q2r n⟩,⟨23,Q2e n⟩,⟨25,Bo n⟩,⟨24,Q0i n⟩] [(18,⟨[],[],[],[(12,1,1121,89,3)],[]⟩),(21,⟨[],[],[],[(12,1,1121,89,3)],[]⟩)]
def Q0y:LZ9:=mkU (Wx n).ok nT 7 Tryz.f5 [(3,.ptr 3 0),(4,.ptr 4 0),(6,.l 1),(7,.l 1),(9,tI)] [(3,bT 36 []),(4,.box [.ci .i64 0,.nil,.nil])] 46 [.f .ret [(4,.ptr 4 0),(5,.ci .i64 13)] [(4,.box [.ci .i64 0,.nil,.nil])] [],xE 0 [(39,.b)]] @V3 n
def Q0p:LZ9:=mkU (Wx n).ok nT 13 Tryz.f5 [(3,.ptr 3 0),(4,.ptr 4 0),(6,.l 1),(7,.l 1),(10,.l 4),(11,tI)] [(3,bT 36 []),(4,.box [.ci .i64 0,.nil,.nil])] 145 [.f .ret [(4,.ptr 4 0),(5,.ci .i64 13)] [(4,.box [.ci .i64 0,.nil,.nil])] [],xE 2 [(57,.b)]] @V4 n
def AU:LZ9:=mkU (Wx n).ok nT 22 Tryz.f5 [(3,.ptr 3 0),(4,.ptr 4 0),(6,.l 1),(7,.l 1),(10,.l 4),(12,.ptr 12 0),(13,tI),(14,tI)] [(3,bT 36 []),(4,.box [tI,.nil,.nil]),(12,.box [tI,.arr 1121,.nil]),(1121,.arr 89 3)] 28704564 [xE 6 [(88,.b)]] @J3 n
def Q0v:LZ9:=mkU (Wx n).ok [AU n n] 19 Tryz.f5 [(3,.ptr 3 0),(4,.ptr 4 0),(6,.l 1),(7,.l 1),(10,.l 4),(12,.ptr 12 0),(13,tI)] [(3,bT 36 []),(4,.box [.ci .i64 0,.nil,.nil]),(12,.box [tI,.arr 1121,.nil]),(1121,.arr 89 3)] 3190887 [xE 4 [(77,.b)]] @WA n
def Q0m:LZ9:=mkU (Wx n).ok nT 36 Tryz.f5 [(3,.ptr 3 0),(4,.ptr 4 0),(6,.l 1),(10,.l 4),(12,.ptr 12 0),(15,tI),(16,tI),(17,.l 2),(19,tI)] [(3,bT 36 []),(4,.box [tI,.nil,.nil]),(12,.box [tI,.arr 1121,.arr 107]),(107,.arr 99 6),(1121,.arr 89 3)] 86094045 [xE 12 [(145,.b)]] @V0 n
def Q0x:LZ9:=mkU (Wx n).ok [Q0m n n] 30 Tryz.f5 [(3,.ptr 3 0),(4,.ptr 4 0),(6,.l 1),(10,.l 4),(12,.ptr 12 0),(15,tI),(16,tI)] [(3,bT 36 []),(4,.box [tI,.nil,.nil]),(12,.box [tI,.arr 1121,.arr 107]),(107,.arr 99 6),(1121,.arr 89 3)] 9566086 [.f .ret [(4,.ptr 4 0),(5,.ci .i64 13)] [(4,.box [.ci .i64 0,.nil,.nil])] [],xE 10 [(120,.b)]] @VZ n
def Q06:LZ9:=mkU (Wx n).ok [Q0x n n] 27 Tryz.f5 [(3,.ptr 3 0),(4,.ptr 4 0),(6,.l 1),(10,.l 4),(12,.ptr 12 0),(15,tI)] [(3,bT 36 []),(4,.box [.ci .i64 0,.nil,.nil]),(12,.box [tI,.arr 1121,.arr 107]),(107,.arr 99 6),(1121,.arr 89 3)] 1062931 [.f .ret [(4,.ptr 4 0),(5,.ci .i64 13)] [(4,.box [.ci .i64 0,.nil,.nil])] [],xE 8 [(112,.b)]] @UW n
def Eh:EZ9 5:=mkD (Wx n).ok [Q0y n n,Q0p n n,Q0v n n,Q06 n n] 5 Tryz.f5 0 @VE n
def Fl:BZ9:=Xa [⟨11,AI n⟩,⟨13,ZW n⟩] []
def Q2i:LZ9:=mkU (Fl n).ok nT 4 Tryz.f6 [(2,.ptr 2 0),(5,.ptr 50009 0),(6,.arr 13),(15,tI),(16,tI)] [(2,.box [tI,.l 3,.l 6]),(13,.arr 3 1),(50009,.box [.l 1,tI])] 5605 [xE 0 [(17,.b)]] @Ju n
def Q2Y:EZ9 6:=mkD (Fl n).ok [Q2i n n] 6 Tryz.f6 0 @ST n
end Go.Vx
namespace Go.Vx
open Go.RowKit Go.Maps Go.WideMaps
theorem Yv {P:Program} {f:Nat} {e:Kf} (hE:Uo P f e) {ac:List AV} {dl:Dl} (h:e Dl 0 true ac (fun _=>none) some=some dl):Wn P f ac (fun _=>none) dl:=by
 obtain ⟨d,k1,a⟩:=hE Dl 0 true ac _ some dl h;cases k1;exact a rfl
theorem B2 {P:Program} {f:Nat} {ac:List AV} {hl:Nat->Option Ob} {av:AV} (h:Wn P f ac hl ⟨av,[],[]⟩) {S:Nat->Prop} {w:World} (hS:∀ b,S b->b<w.heap.size) {args:List Value} (hA:ArgsRd (fun _=>none) S (fun _=>none) w args ac) :
  Calls P f args.toArray w fun e w'=>∃ v S',e = .returned v/\RdA (fun _=>none) S' (fun _=>none) w' tm0 v av/\RowKit.Below w.heap.size w w':=by
 refine (h.2 (fun _=>none) S (fun _=>none) w args ⟨fun l o h=>(by cases h),fun l l' b h=>(by cases h),fun l b h=>(by cases h),hS⟩ hA (fun l hl=>(by rcases hl with hl | hl <;> simp [wrL] at hl))).mono fun e w' ⟨v,β',S',he,hc⟩=>?_
 have hβ:β'=fun _=>none:=funext fun l=>hc.bsame l (by simp [wrL])
 subst hβ;refine ⟨v,S',he,?_,⟨hc.fr.os,hc.fr.tape,hc.fr.output,hc.fr.size,fun b hb=>hc.fr.block b hb (fun ⟨l,a,_⟩=>by simp [wrL] at a)⟩⟩;exact hc.res.mono (fun _ h=>h) (fun _ _=>rfl) (fun l _=>⟨rfl,fun h=>h,fun e s rows h=>(by cases h),fun b cs ty fz h=>(by cases h),fun t f h=>(by cases h)⟩) (fun _ _=>rfl)
theorem Sx {P:Program} {f:Nat} {ac:List AV} {hl:Nat->Option Ob} {r:Bool} (h:Wn P f ac hl ⟨.d (D.bool r),[],[]⟩) {S:Nat->Prop} {w:World} (hS:∀ b,S b->b<w.heap.size) {args:List Value} (hA:ArgsRd (fun _=>none) S (fun _=>none) w args ac) :
  Calls P f args.toArray w fun e w'=>e = .returned (.bool r)/\RowKit.Below w.heap.size w w':=by
 refine (B2 h hS hA).mono fun e w' ⟨v,S',he,hr,hb⟩=>⟨?_,hb⟩
 cases hr with
 |d v x hx=>cases hx;exact he
 |dang v av l hl=>cases hl
theorem K5 {P:Program} {f:Nat} {ac:List AV} {hl:Nat->Option Ob} {k:IntKind} {r:Int} (h:Wn P f ac hl ⟨.d (D.int k r),[],[]⟩) {S:Nat->Prop} {w:World} (hS:∀ b,S b->b<w.heap.size) {args:List Value} (hA:ArgsRd (fun _=>none) S (fun _=>none) w args ac) :
  Calls P f args.toArray w fun e w'=>e = .returned (.int k r)/\RowKit.Below w.heap.size w w':=by
 refine (B2 h hS hA).mono fun e w' ⟨v,S',he,hr,hb⟩=>⟨?_,hb⟩
 cases hr with
 |d v x hx=>cases hx;exact he
 |dang v av l hl=>cases hl
def Q2I (w:World) (P:Program) (b n:Nat) (ac:List (List UInt8)):Prop:=
 ∃ D:DataW Unit,w.ownsMap P 9 (plainElem P 4) b n D/\Go.Maps.IsMap D/\∀ s,D.atKey (.string s) (.lit (.bool false)) = .lit (.bool (ac.contains s))
theorem Q2I.made (P:Program) (w:World):Q2I (w.alloc (.map #[] 0)) P w.heap.size 0 []:=
 ⟨.map [],World.ownsMap_made w P 9 _,Go.Maps.isMap_empty,fun s=>rfl⟩
section
variable {P:Program} (h9:P.underlying 9=some .string) (h4:P.underlying 4=some .bool) {T:TypeId} (hT:P.underlying T=some (.map 9 4))
include h9 h4 hT
theorem Q2I.lookup {w:World} {b n:Nat} {ac:List (List UInt8)} (h:Q2I w P b n ac) (hz:(zeroValue 4).run P w = .ok (.bool false) w) {s:List UInt8} (hs:s.length<=maxLen) :
  (Instr.lookup T (.map (some b)) (.string ⟨⟨s⟩⟩) false).run P w = .ok (.bool (ac.contains s)) w:=by
 obtain ⟨D,hD,_,hat⟩:=h;obtain ⟨v,ps,ak,hv⟩:=hD.lookup (string_keyed h9) hT hz (zd:=.lit (.bool false)) (zp:=[]) (plainElem_bool h4 false) (keyOf_string_mk (s:=⟨⟨s⟩⟩) h9 hs);have e:=hat s;simp only at hv;rw [e] at hv;unfold plainElem at hv;rw [h4] at hv;cases v <;> simp at hv;rw [ak,hv.1];simp
theorem Q2I.update {w:World} {b n:Nat} {ac:List (List UInt8)} (h:Q2I w P b n ac) (hn:n<maxLen) {s:List UInt8} (hs:s.length<=maxLen) :
  ∃ w',(Instr.mapUpdate T (.map (some b)) (.string ⟨⟨s⟩⟩) (.bool true)).run P w = .ok () w'/\Q2I w' P b (n+1) (s::ac)/\w.grownBy w' (some b):=by
 obtain ⟨D,hD,hm,hat⟩:=h;obtain ⟨w',ak,aj,hg⟩:=hD.update (string_keyed h9) hT hn (keyOf_string_mk (s:=⟨⟨s⟩⟩) h9 hs) (plainElem_bool (H:=Unit) h4 true);refine ⟨w',ak,⟨_,aj,hm.put _ _,fun t=>?_⟩,hg⟩;have hk:WideAt.IsKeyLit (.string s):=(string_keyed h9).key (keyOf_string_mk (s:=⟨⟨s⟩⟩) h9 hs);by_cases e:t=s
 ·subst e;rw [show (ByteArray.mk ⟨t⟩).data.toList=t from rfl,Go.Maps.atKey_put_same hm hk];simp
 ·rw [show (ByteArray.mk ⟨s⟩).data.toList=s from rfl,Go.Maps.atKey_put_other (by simpa using e),hat t];simp [e]
end
theorem Q2I.kept {P:Program} {w w':World} {b n:Nat} {ac:List (List UInt8)} {row:Option Nat} (h:Q2I w P b n ac) (hg:w.grownBy w' row) (aj:some b≠row):Q2I w' P b n ac:=by
 obtain ⟨D,hD,hm,hat⟩:=h;exact ⟨D,hD.kept hg aj,hm,hat⟩
theorem Q2I.lt {P:Program} {w:World} {b n:Nat} {ac:List (List UInt8)} (h:Q2I w P b n ac):b<w.heap.size:=by
 obtain ⟨D,hD,hm,hat⟩:=h;exact hD.lt
theorem WC {w w':World} (h:RowKit.Below w.heap.size w w'):w.grownBy w' none:=⟨h.os,h.tape,h.output,h.size,fun b hb _=>h.block b hb⟩
def GL:Code->List Code
 |.region i o d=>[.region i o d]
 |.loop c=>GL c
 |.seq a b=>GL a++GL b
 |.block _ c=>GL c
 |.scope c=>GL c
 |.cond _ a b=>GL a++GL b
 |_=>[]
def Q6k (Q:Act->World->Prop):Exit->Act->World->Prop
 |.normal,a,w=>Q a w
 |_,_,_=>False
theorem Ln {P : Program} {f : Nat} {fn : Func} (hf : P.funcs[f]? = some fn) (hb : fn.body.isSome = true) (hn : (fn.name == "runtime.NumGoroutine") = false) {avs : List AV} {av : AV} {hl : Nat -> Option Ob} {rd : List Nat} (hlf : lf av = true) (hA : lfL avs = true)
  (h:∀ (S:Nat->Prop) (w:World) (args:List Value),(∀ b,S b->b<w.heap.size)->ArgsRd (fun _=>none) S (fun _=>none) w args avs->Calls P f args.toArray w fun e w'=>∃ (v:Value) (S':Nat->Prop),e = .returned v/\(∀ b,S b->S' b)/\(∀ b,S' b->S b\/w.heap.size<=b)/\(∀ b,S' b->b<w'.heap.size) /\
   RdA (fun _=>none) S' (fun _=>none) w' tm0 v av/\RowKit.Below w.heap.size w w'):Wn P f avs hl ⟨av,[],rd⟩:=by
 refine ⟨⟨fn,hf,hb,hn⟩,fun β S h' w args hO hAr _=>?_⟩;refine (h S w args hO.sb ⟨hAr.1,fun i v av' a h2=>Fu (Q0X hA h2) (fun _ h=>h) (fun _ _=>rfl) (hAr.2 i v av' a h2)⟩).mono fun e w' ⟨v,S',he,hs,hsf,hsb,hr,hbel⟩=>?_
 refine ⟨v,β,S',he,⟨hs,fun b hS=>(hsf b hS).elim .inl fun h=>.inr (.inl h),hsb,Q5G hbel,fun _ _=>rfl,fun l o hl'=>by simp [wrL] at hl',fun l hl'=>by simp [wrL] at hl',fun l b hl'=>by simp [wrL] at hl',fun l l' b hl'=>by simp [wrL] at hl',fun l hl'=>by simp [wrL] at hl',?_,fun t=>Q4y t _ hlf⟩⟩;exact Fu hlf (fun _ h=>h) (fun _ _=>rfl) hr
end Go.Vx
namespace Go.Vx
def dV:D->Value
 |.int k n=>.int k n
 |.bool b=>.bool b
 |.str s=>.string ⟨⟨s⟩⟩
 |.sl _ _=>undef
def cellsOf (l:LL):List Value:=l.flatMap fun r=>r.map dV
theorem Q4p (l:LL) (r:List D):cellsOf (l++[r])=cellsOf l++r.map dV:=by simp [cellsOf]
structure NestK (e1 e2 k:Nat) (w:World) (B:Nat) (v:Value) (hd:List Value) (ll:List LL):Prop where
 row:w.ownsRow B e1 1 v ll.length hd
 each:∀ (i:Nat) (h:Value) (l:LL),hd[i]? = some h->ll[i]? = some l->w.ownsRow B e2 k h l.length (cellsOf l)
 outer:∀ (i:Nat) (h:Value) (b:Nat),hd[i]? = some h->h.ownBlock=some b->v.ownBlock≠some b
 apart:∀ (i j:Nat) (h h':Value) (b:Nat),hd[i]? = some h->hd[j]? = some h'->h.ownBlock=some b->h'.ownBlock=some b->i=j
section
variable {e1 e2 k:Nat}
theorem NestK.len {w:World} {B:Nat} {v:Value} {hd:List Value} {ll:List LL} (h:NestK e1 e2 k w B v hd ll):hd.length=ll.length:=by have:=h.row.1;omega
theorem NestK.kept {w w':World} {B:Nat} {v:Value} {hd:List Value} {ll:List LL} {row:Option Nat} (h:NestK e1 e2 k w B v hd ll) (hg:w.grownBy w' row)
  (a:v.ownBlock=none\/v.ownBlock≠row) (h2:∀ x∈hd,x.ownBlock=none\/x.ownBlock≠row):NestK e1 e2 k w' B v hd ll:=
 ⟨h.row.kept hg a,fun i x l hx hl=>(h.each i x l hx hl).kept hg (h2 x (Qkx hx)),h.outer,h.apart⟩
theorem NestK.blk {w:World} {B:Nat} {v:Value} {hd:List Value} {ll:List LL} (h:NestK e1 e2 k w B v hd ll) {i:Nat} {x:Value} {b:Nat} (hx:hd[i]? = some x) (hb:x.ownBlock=some b):B<=b/\b<w.heap.size:=by
 have hi:i<ll.length:=by rw [<- h.len];exact (Qkv.1 hx).1
 exact (h.each i x ll[i] hx (QkH hi)).lt b hb
theorem Q4b {w:World} {base e n:Nat} {v:Value} {xs:List Value} {b i:Nat} (h:w.ownsRow base e 1 v n xs) (hb:v.ownBlock=some b) (hi:i<n) (u:Value):(w.setCell ⟨b,i,none⟩ u).ownsRow base e 1 v n (xs.set i u):=by
 obtain ⟨a,h2⟩:=h;refine ⟨by simpa using a,?_⟩;rcases h2 with ⟨rfl,rfl⟩ | ⟨g,cap,ac,rfl,hg,hh,hn,hc,hs,ht⟩
 ·omega
 ·simp [Value.ownBlock] at hb;subst hb;refine .inr ⟨g,cap,_,rfl,hg,heap_setCell_same w g i ac e u hh,hn,hc,by simpa using hs,?_⟩;rw [<- ht];simp [List.take_set]
theorem F5 {w:World} {base e s n:Nat} {v:Value} {xs:List Value} (h:w.ownsRow base e s v n xs) {a:Addr} (ha:v.ownBlock≠some a.block) (u:Value):(w.setCell a u).ownsRow base e s v n xs:=by
 refine ⟨h.1,?_⟩;rcases h.2 with h2 | ⟨g,cap,ac,rfl,hg,hh,hn,hc,hs,ht⟩
 ·exact .inl h2
 ·refine .inr ⟨g,cap,ac,rfl,hg,?_,hn,hc,hs,ht⟩;rw [heap_setCell_other w a g u (fun e=>ha (by simp [Value.ownBlock,e]))];exact hh
theorem NestK.grow {w c:World} {B:Nat} {v x x':Value} {hd:List Value} {ll:List LL} {l:LL} {s:List D} {g H i vb:Nat} (h:NestK e1 e2 k w B v hd ll)
  (hx:hd[i]? = some x) (hl:ll[i]? = some l) (ax:c.ownsRow B e2 k x' (l.length+1) (cellsOf l++s.map dV)) (hg:w.grownBy c x.ownBlock) (aj:x'.ownBlock=some g) (hat:x.ownBlock=some g\/g=H) (hH:w.heap.size=H)
  (hv:v.ownBlock=some vb):NestK e1 e2 k (c.setCell ⟨vb,i,none⟩ x') B v (hd.set i x') (ll.set i (l++[s])):=by
 have hi:i<ll.length:=(Qkv.1 hl).1;have a2:=(h.row.lt vb hv).2;have ay:g≠vb:=by
  intro e;subst e;rcases hat with a | a
  ·exact h.outer i x g hx a hv
  ·omega
 have an:c.ownsRow B e1 1 v ll.length hd:=by
  refine h.row.kept hg (.inr fun e=>?_);rw [hv] at e;exact h.outer i x vb hx e.symm hv
 have au:∀ (j:Nat) (y:Value) (b:Nat),hd[j]? = some y->y.ownBlock=some b->j≠i->b≠g:=by
  intro j y b hy hb az e;subst e;rcases hat with a | a
  ·exact az (h.apart j i y x b hy hx hb a)
  ·have:=(h.blk hy hb).2;omega
 refine ⟨?_,fun j y k hy hk=>?_,fun j y b hy hb=>?_,fun j k y z b hy hz al ak=>?_⟩
 ·rw [List.length_set];exact Q4b an hv hi x'
 ·rw [QkO] at hy hk;by_cases e:i=j
  ·subst e;have a:i<hd.length:=by rw [h.len];exact hi
   simp only [if_true,a,hi,Option.some.injEq] at hy hk;subst hy hk;refine F5 (by simpa [Q4p] using ax) ?_ _;rw [aj];intro e;exact ay (Option.some.inj e)
  ·rw [if_neg e] at hy hk;refine F5 ((h.each j y k hy hk).kept hg ?_) ?_ _
   ·cases hb:y.ownBlock with
    |none=>exact .inl rfl
    |some b=>exact .inr fun e2=>e (h.apart j i y x b hy hx hb e2.symm).symm
   ·intro e2;exact h.outer j y vb hy e2 hv
 ·rw [QkO] at hy;by_cases e:i=j
  ·subst e;have a:i<hd.length:=by rw [h.len];exact hi
   simp only [if_true,a,Option.some.injEq] at hy;subst hy;rw [aj] at hb;cases hb;rw [hv];intro e2;exact ay (Option.some.inj e2).symm
  ·rw [if_neg e] at hy;exact h.outer j y b hy hb
 ·rw [QkO] at hy hz;have a:i<hd.length:=by rw [h.len];exact hi
  by_cases e:i=j
  ·by_cases e2:i=k
   ·omega
   ·subst e;rw [if_neg e2] at hz;simp only [if_true,a,Option.some.injEq] at hy;subst hy;rw [aj] at al;cases al;exact absurd rfl (au k z g hz ak (fun h=>e2 h.symm))
  ·rw [if_neg e] at hy;by_cases e2:i=k
   ·subst e2;simp only [if_true,a,Option.some.injEq] at hz;subst hz;rw [aj] at ak;cases ak;exact absurd rfl (au j y g hy al (fun h=>e h.symm))
   ·rw [if_neg e2] at hz;exact h.apart j k y z b hy hz al ak
end
def DT (k:Nat) (r:List D):Bool:=Nat.beq r.length k&&r.all fun | .int .i64 _=>true | _=>false
theorem Q1f {k:Nat}:∀ (l:LL) (i j:Nat) (r:List D) (x:D),(∀ r∈l,r.length=k)->l[i]? = some r->r[j]? = some x->(cellsOf l)[i*k+j]? = some (dV x)
 |[],i,j,r,x,_,a,_=>by simp at a
 |b::l,0,j,r,x,hk,a,h2=>by
  simp only [Qky,Option.some.injEq] at a;subst a;have hj:=(Qkv.1 h2).1;simp only [cellsOf,List.flatMap_cons,Nat.zero_mul,QkN];rw [List.getElem?_append_left (by simpa using hj),List.getElem?_map,h2];rfl
 |b::l,i+1,j,r,x,hk,a,h2=>by
  have ih:=Q1f l i j r x (fun q hq=>hk q (by simp [hq])) (by simpa using a) h2;have c:=hk b (by simp);simp only [cellsOf,List.flatMap_cons];rw [List.getElem?_append_right (by simp [c];rw [Nat.succ_mul];omega)];rw [show (i+1)*k+j-(b.map dV).length=i*k+j by simp [c];rw [Nat.succ_mul];omega];exact ih
theorem Qfp {w:World} {B e k:Nat} {x:Value} {l:LL} (h:w.ownsRow B e k x l.length (cellsOf l)) (hk:∀ r∈l,DT k r=true) {S:Nat->Prop} (hS:∀ b,x.ownBlock=some b->S b):Rd S w x (.sl k l):=by
 have ac:∀ r∈l,r.length=k:=fun r hr=>by
  have:=hk r hr;simp only [DT,Qkw] at this;exact Nat.eq_of_beq_eq_true this.1
 rcases h.2 with ⟨rfl,c⟩ | ⟨g,cap,aj,rfl,hg,hh,hn,hc,hs,ht⟩
 ·have:l=[]:=List.eq_nil_of_length_eq_zero c;subst this;exact .sl0 none 0 k
 ·refine .sl ⟨g,0,none⟩ cap k l (fun i j=>dV ((l.getD i []).getD j (.bool false))) (hS g rfl) hn (fun i r hi=>ac r (Qkx hi)) (fun i j r y hi hj=>?_) (fun i j r y hi hj=>?_)
  ·have a:=Q1f l i j r y ac hi hj;have an:i*k+j<aj.size:=by
    have d:=(Qkv.1 a).1;rw [h.1] at d;have:l.length*k<=cap*k:=Nat.mul_le_mul_right k hn;omega
   rw [HD,QkN,cell_of_row w g (i*k+j) aj e (0,0) hh];rw [<- ht,List.getElem?_take] at a;split at a
   ·rw [<- Array.getElem?_toList,a];simp [List.getD,hi,hj]
   ·cases a
  ·have hq:=hk r (Qkx hi);simp only [DT,Qkw,List.all_eq_true] at hq;have hy:=hq.2 y (Qkx hj);simp only [List.getD,hi,hj,Option.getD_some];split at hy
   ·exact .int _ _
   ·cases hy
end Go.Vx
set_option maxRecDepth 100000
namespace Go.Vx
open Go.Proofs
variable (n:Nat)
def GK:EZ9 176:=mkD (Xa [] []).ok nT 176 Tryz.f176 0 @Xx n
def CF:EZ9 178:=mkD (Xa [] []).ok nT 178 Tryz.f178 0 @PX n
def Ax:EZ9 179:=mkD (Xa [] []).ok nT 179 Tryz.f179 0 @FH n
def Ej:BZ9:=Xa [⟨178,CF n⟩,⟨179,Ax n⟩] []
def Q2z:LZ9:=mkU (Ej n).ok nT 4 Tryz.f127 [(0,.t),(19,tI),(20,tI)] [] 22 [.f .ret [(2,.cb false)] [] [],xE 0 [(21,.b)]] @R2 n
def Pu:EZ9 127:=mkD (Ej n).ok [Q2z n n] 127 Tryz.f127 0 @KV n
end Go.Vx
namespace Go.Vx
open Go.Proofs Go.RowKit
theorem Q7L {n:Nat} {s:List UInt8} (h:KV n s some=some true) (w:World):Calls Tryz.prog 127 #[.string ⟨⟨s⟩⟩] w fun e w'=>e = .returned (.bool true)/\RowKit.Below w.heap.size w w':=by
 have he:(Pu n).E Dl 0 true [.d (.str s)] (fun _=>none) some=some ⟨.d (.bool true),[],[]⟩:=by
  show gb true (KV n s some) false (fun r=>(some ⟨.d (D.bool r),[],[]⟩:Option Dl))=_;rw [h];rfl
 refine Sx (Yv ((Pu n).ok) he) (S:=fun _=>False) (fun _ h=>h.elim) (args:=[.string ⟨⟨s⟩⟩]) ⟨rfl,fun i v av a h2=>?_⟩
 match i,a,h2 with
 |0,a,h2=>
  simp only [Qky,Option.some.injEq] at a h2;subst a h2;exact .d _ _ (.str ⟨⟨s⟩⟩)
set_option maxHeartbeats 4000000 in
set_option maxRecDepth 100000 in
theorem Tryz.checkName_calls {N:Nat} (w:World) (b n:Nat) (ac:List (List UInt8)) (s:List UInt8) (h:Q2I w Tryz.prog b n ac) (hn:n<1000) (hs:QbJ N ac s=true) :
  Calls Tryz.prog 175 #[.string ⟨⟨s⟩⟩,.map (some b)] w fun e w'=>e = .returned (.int .i64 0)/\Q2I w' Tryz.prog b (n+1) (s::ac)/\w.grownBy w' (some b):=by
 simp only [QbJ,Qkw,Bool.not_eq_true'] at hs;obtain ⟨⟨hl,hN⟩,hc⟩:=hs;have hl:=QkB hl;have al:s.length<=maxLen:=by unfold maxLen;omega
 have ao:n<maxLen:=by unfold maxLen;omega
 have hz:∀ w:World,(zeroValue 4).run Tryz.prog w = .ok (.bool false) w:=fun w=>by kernel_rfl
 go_enter Tryz.func175,Tryz.ntmps175
 go_wp2_with (go_at_call 127;refine (Q7L (M6 hN) _).mono ?_)
 rintro e d ⟨rfl,hB⟩;have c:=h.kept (WC hB) (by simp);have ak:=c.lookup Tryz.underlying9 Tryz.underlying4 Tryz.underlying253 (hz d) al;rw [hc] at ak;obtain ⟨f,aq,h2,a⟩:=c.update Tryz.underlying9 Tryz.underlying4 Tryz.underlying253 ao al
 go_wp2
 refine bodyPost_ret (results_tmp rfl _ _ _) rfl ?_;exact ⟨rfl,h2,⟨a.os.trans hB.os,a.tape.trans hB.tape,a.output.trans hB.output,Nat.le_trans hB.size a.size,fun k hk an=>(a.block k (QkA hk hB.size) an).trans (hB.block k hk)⟩⟩
theorem Q8E {β:Nat->Option Nat} {S:Nat->Prop} {h:Nat->Option Ob} {w:World} {b:Value} {a0:AV} (c:RdA β S h w tm0 b a0):ArgsRd β S h w [b] [a0]:=by
 refine ⟨rfl,fun i v av a h2=>?_⟩
 match i,a,h2 with
 |0,a,h2=>simp only [Qky,Option.some.injEq] at a h2;subst a h2;exact c
theorem T0 {β:Nat->Option Nat} {S:Nat->Prop} {h:Nat->Option Ob} {w:World} {b c:Value} {a0 a1:AV} (d:RdA β S h w tm0 b a0) (ac:RdA β S h w tm0 c a1):ArgsRd β S h w [b,c] [a0,a1]:=by
 refine ⟨rfl,fun i v av a h2=>?_⟩
 match i,a,h2 with
 |0,a,h2=>simp only [Qky,Option.some.injEq] at a h2;subst a h2;exact d
 |1,a,h2=>simp only [List.getElem?_cons_succ,Qky,Option.some.injEq] at a h2;subst a h2;exact ac
theorem Qct {β:Nat->Option Nat} {S:Nat->Prop} {h:Nat->Option Ob} {w:World} {b c d:Value} {a0 a1 a2:AV} (e:RdA β S h w tm0 b a0) (aj:RdA β S h w tm0 c a1) (ac:RdA β S h w tm0 d a2):ArgsRd β S h w [b,c,d] [a0,a1,a2]:=by
 refine ⟨rfl,fun i v av a h2=>?_⟩
 match i,a,h2 with
 |0,a,h2=>simp only [Qky,Option.some.injEq] at a h2;subst a h2;exact e
 |1,a,h2=>simp only [List.getElem?_cons_succ,Qky,Option.some.injEq] at a h2;subst a h2;exact aj
 |2,a,h2=>simp only [List.getElem?_cons_succ,Qky,Option.some.injEq] at a h2;subst a h2;exact ac
inductive RdLs (S:Nat->Prop) (w:World):List Value->List D->Prop
 |nil:RdLs S w [] []
 |cons {v:Value} {x:D} {vs:List Value} {xs:List D} (h:Rd S w v x) (t:RdLs S w vs xs):RdLs S w (v::vs) (x::xs)
theorem RdLs.agg {S:Nat->Prop} {w:World}:∀ {vs:List Value} {xs:List D},RdLs S w vs xs->RdA (fun _=>none) S (fun _=>none) w tm0 (.agg vs.toArray) (.ag (xs.map .d))
 |vs,xs,h=>by
  have hl:∀ {vs:List Value} {xs:List D},RdLs S w vs xs->vs.length=xs.length:=by
   intro vs xs h;induction h with
   |nil=>rfl
   |cons _ _ ih=>simp [ih]
  have hr:∀ {vs:List Value} {xs:List D},RdLs S w vs xs->∀ (i:Nat) (x:D),xs[i]? = some x->Rd S w (vs.toArray.getD i undef) x:=by
   intro vs xs h;induction h with
   |nil=>intro i x hx;simp at hx
   |cons a t ih=>
    intro i x hx;cases i with
    |zero=>simp only [Qky,Option.some.injEq] at hx;subst hx;simpa using a
    |succ i=>
     have:=ih i x (by simpa using hx);simpa using this
  refine .ag _ _ (by simp [hl h]) fun i x hx=>?_
  rw [List.getElem?_map,QkK] at hx;obtain ⟨d,hd,rfl⟩:=hx;exact .d _ _ (hr h i d hd)
theorem Rd.keep {S:Nat->Prop} {w w':World} {v:Value} {x:D} {m:Nat} (h:Rd S w v x) (hS:∀ b,S b->b<m) (hw:∀ b,b<m->w'.heap[b]? = w.heap[b]?):Rd S w' v x:=h.mono (fun _ h=>h) fun b hb=>hw b (hS b hb)
theorem Hr {S:Nat->Prop} {w:World} {v:Value} {k:Nat} {rows:LL} (h:Rd S w v (.sl k rows)):∃ ad cap,v = .slice ad rows.length cap:=by
 cases h with
 |sl0 a cap=>exact ⟨a,cap,rfl⟩
 |sl ad cap=>exact ⟨some ad,cap,rfl⟩
theorem Q9I {S:Nat->Prop} {w:World} {ad:Option Addr} {n cap k:Nat} {rows:LL} (h:Rd S w (.slice ad n cap) (.sl k rows)) {i:Nat} {row:List D} (hi:rows[i]? = some row) :
  ∃ a,ad=some a/\S a.block/\row.length=k/\∀ (j:Nat) (x:D),row[j]? = some x->∃ v,w.cell? (a.add (i*k+j))=some v/\Rd S w v x:=by
 cases h with
 |sl0 a cap=>simp at hi
 |sl a cap _ _ c hS aj ac hc hr=>exact ⟨a,rfl,hS,ac i row hi,fun j x hx=>⟨_,hc i j row x hi hx,hr i j row x hi hx⟩⟩
theorem Ap {n:Nat} {w a c:World} {b:Nat} (h:Below n w a) (hn:n<=w.heap.size) (hb:n<=b) (hg:a.grownBy c (some b)):Below n w c:=
 ⟨hg.os.trans h.os,hg.tape.trans h.tape,hg.output.trans h.output,Nat.le_trans h.size hg.size,fun k hk=>(hg.block k (by have:=h.size;omega) (by simp;omega)).trans (h.block k hk)⟩
theorem UE {n:Nat} {w a:World} (h:Below n w a) (hn:n<=w.heap.size) (o:Obj):Below n w (a.alloc o):=
 ⟨h.os,h.tape,h.output,by have:=h.size;simp;omega,fun k hk=>(QkI a o k (by have:=h.size;omega)).trans (h.block k hk)⟩
theorem VG {n:Nat} {w a b:World} (h:Below n w a) (hn:n<=w.heap.size) (h2:Below a.heap.size a b):Below n w b:=
 ⟨h2.os.trans h.os,h2.tape.trans h.tape,h2.output.trans h.output,Nat.le_trans h.size h2.size,fun k hk=>(h2.block k (by have:=h.size;omega)).trans (h.block k hk)⟩
theorem Tt (ad:Addr) (i j:Nat) (hj:j≠0):ad.add (i+j)=⟨(ad.add i).block,(ad.add i).off+j,none⟩:=by
 have a:(ad.add i).add j=ad.add (i+j):=by
  unfold Addr.add;by_cases hi:i=0 <;> simp [hi,hj,Nat.add_assoc]
 rw [<- a];generalize ad.add i=x;unfold Addr.add;rw [if_neg hj]
theorem Q1w {N:Nat} {ac:List (List UInt8)} {l:LL} {j:Nat} (hj:j<l.length) (h:Pv N ac (l.drop j)=true) :
  ∃ s,l[j]? = some [D.str s]/\QbJ N ac s=true/\Pv N (s::ac) (l.drop (j+1))=true:=by
 rw [List.drop_eq_getElem_cons hj] at h;unfold Pv at h;split at h
 ·rename_i s e;simp only [Qkw] at h;exact ⟨s,by rw [QkH hj,e],h.1,h.2⟩
 ·cases h
theorem Q3P {N:Nat} {l0 l1 l2 f:LL} {ac:List (List UInt8)} {l:LL} {j:Nat} (hj:j<l.length) (h:HW N l0 l1 l2 f ac (l.drop j)=true) :
  ∃ s a b c d,l[j]? = some [D.str s,.int .i64 a,.int .i64 b,.int .i64 c,.int .i64 d]/\QbJ N ac s=true/\Xx N l0 l1 l2 f s a b c d some=some true/\HW N l0 l1 l2 f (s::ac) (l.drop (j+1))=true:=by
 rw [List.drop_eq_getElem_cons hj] at h;unfold HW at h;split at h
 ·rename_i s a b c d e;simp only [Qkw] at h;exact ⟨s,a,b,c,d,by rw [QkH hj,e],h.1.1,M6 h.1.2,h.2⟩
 ·cases h
theorem QbI {S:Nat->Prop} {w:World} {v:Value} {s:List UInt8} (h:Rd S w v (.str s)):v = .string ⟨⟨s⟩⟩:=by cases h;rfl
theorem RU {S:Nat->Prop} {w:World} {v:Value} {k:IntKind} {n:Int} (h:Rd S w v (.int k n)):v = .int k n:=by cases h;rfl
theorem Q7h {N:Nat} {l0 l1 l2 f:LL} {s:List UInt8} {a b c d:Int} (h:Xx N l0 l1 l2 f s a b c d some=some true) {S:Nat->Prop} {w:World} (hS:∀ b,S b->b<w.heap.size) {g i j k:Value}
  (l:Rd S w g (.sl 1 l0)) (m:Rd S w i (.sl 1 l1)) (h2:Rd S w j (.sl 5 l2)) (n:Rd S w k (.sl 6 f)) :
  Calls Tryz.prog 176 #[.agg #[g,i,j,k],.agg #[.string ⟨⟨s⟩⟩,.int .i64 a,.int .i64 b,.int .i64 c,.int .i64 d]] w fun e w'=>e = .returned (.bool true)/\RowKit.Below w.heap.size w w':=by
 have he:(GK N).E Dl 0 true [.ag ([D.sl 1 l0,.sl 1 l1,.sl 5 l2,.sl 6 f].map .d),.ag ([D.str s,.int .i64 a,.int .i64 b,.int .i64 c,.int .i64 d].map .d)] (fun _=>none) some=some ⟨.d (.bool true),[],[]⟩:=by
  show gb true (Xx N l0 l1 l2 f s a b c d some) false (fun r=>(some ⟨.d (D.bool r),[],[]⟩:Option Dl))=_;rw [h];rfl
 exact Sx (Yv ((GK N).ok) he) hS (T0 (RdLs.agg (.cons l (.cons m (.cons h2 (.cons n .nil))))) (RdLs.agg (.cons (.str ⟨⟨s⟩⟩) (.cons (.int _ _) (.cons (.int _ _) (.cons (.int _ _) (.cons (.int _ _) .nil)))))))
set_option maxHeartbeats 8000000 in
set_option maxRecDepth 100000 in
theorem Tryz.layout_calls {N:Nat} (S:Nat->Prop) (w:World) (hS:∀ b,S b->b<w.heap.size) (l0 l1 l2 d:LL) (x y z v3:Value) (h0:Rd S w x (.sl 1 l0)) (h1:Rd S w y (.sl 1 l1)) (h2:Rd S w z (.sl 5 l2)) (h3:Rd S w v3 (.sl 6 d)) (bc:P2 N l0 l1 l2 d=true)
  (hL:∀ w':World,(∀ b,S b->b<w'.heap.size)->Rd S w' x (.sl 1 l0)->Rd S w' y (.sl 1 l1)->Rd S w' z (.sl 5 l2)->Rd S w' v3 (.sl 6 d)->Calls Tryz.prog 177 #[.agg #[x,y,z,v3]] w' fun e br=>e = .returned (.int .i64 0)/\Below w'.heap.size w' br) :
  Calls Tryz.prog 126 #[.agg #[x,y,z,v3]] w fun e w'=>e = .returned (.int .i64 0)/\Below w.heap.size w w':=by
 simp only [P2,Qkw,Bool.not_eq_true'] at bc;obtain ⟨⟨⟨⟨⟨⟨⟨⟨m0,m1⟩,m2⟩,m3⟩,m4⟩,n0⟩,n1⟩,ns⟩,nl⟩:=bc;have m0:=QkB m0;have m1:=QkB m1;have m2:=QkB m2;have m3:=QkB m3;have m4:l2.length≠0:=fun e=>by rw [e] at m4;cases m4
 obtain ⟨g,h,rfl⟩:=Hr h0;obtain ⟨m,n,rfl⟩:=Hr h1;obtain ⟨q,p,rfl⟩:=Hr h2;obtain ⟨r,t,rfl⟩:=Hr h3;have q0:¬ (24:Int)<(l0.length:Int):=by omega
 have q1:¬ (48:Int)<(l1.length:Int):=by omega
 have q2:¬ (96:Int)<(l2.length:Int):=by omega
 have q3:¬ (192:Int)<(d.length:Int):=by omega
 have q4:¬ ((l2.length:Int)=0):=by omega
 have a1:(w.alloc (.cells #[.slice g l0.length h,.slice m l1.length n,.slice q l2.length p,.slice r d.length t] 27)).heap[w.heap.size]? = some (.cells #[.slice g l0.length h,.slice m l1.length n,.slice q l2.length p,.slice r d.length t] 27 (0,0)):=heap_alloc_new w _;have an:Below w.heap.size w (w.alloc (.cells #[.slice g l0.length h,.slice m l1.length n,.slice q l2.length p,.slice r d.length t] 27)):=UE (Below.refl _ _) (QkM _) _;have bt:(w.alloc (.cells #[.slice g l0.length h,.slice m l1.length n,.slice q l2.length p,.slice r d.length t] 27)).heap.size=w.heap.size+1:=by simp
 have cg:∀ w:World,(Instr.makeMap 253 none).run Tryz.prog w = .ok (.map (some w.heap.size)) (w.alloc (.map #[] 0)):=fun w=>run_makeMap 253 w
 go_enter Tryz.func126,Tryz.ntmps126
 go_wp2
 generalize w.alloc (.cells #[.slice g l0.length h,.slice m l1.length n,.slice q l2.length p,.slice r d.length t] 27)=w1 at *
 go_loopw [40] (fun i wr=>∃ k:Nat,k<=2/\i = .int .i64 k/\Below (w.heap.size+1) w1 wr)
  (fun i _=>2-(intOf i).toNat)
 case atStart=>exact ⟨0,by omega,rfl,Below.refl _ _⟩
 case round=>
  obtain ⟨k,hk,rfl,hF⟩:=hrel;by_cases bo:k<2
  ·have b6:((k:Int)<2):=by omega
   obtain ⟨ad,l,cap,b5,hv,hl,hm⟩:∃ (ad:Option Addr) (l:LL) (cap:Nat),(∀ w:World,(Instr.index 252 (.agg #[.slice g l0.length h,.slice m l1.length n]) (.int .i64 k)).run Tryz.prog w = .ok (.slice ad l.length cap) w)/\Rd S w (.slice ad l.length cap) (.sl 1 l)/\Pv N [] l=true/\l.length<=48:=by
    obtain rfl | rfl:k=0\/k=1:=by omega
    ·exact ⟨g,l0,h,fun _=>rfl,h0,n0,by omega⟩
    ·exact ⟨m,l1,n,fun _=>rfl,h1,n1,by omega⟩
   have ai:w.heap.size+1<=wr.heap.size:=by have:=hF.size;omega
   have hM:=Q2I.made Tryz.prog wr;have a3:=UE hF Zzq (.map #[] 0)
   go_wp2
   generalize wr.alloc (.map #[] 0)=w2 at *
   generalize wr.heap.size=b at *
   clear hF
   go_loopw [46] (fun i wr=>∃ (j:Nat) (aj:List (List UInt8)),j<=l.length/\i = .int .i64 j/\Q2I wr Tryz.prog b j aj/\Pv N aj (l.drop j)=true/\Below (w.heap.size+1) w1 wr)
    (fun i _=>l.length-(intOf i).toNat)
   case atStart=>exact ⟨0,[],by omega,rfl,hM,hl,a3⟩
   case round=>
    obtain ⟨j,aj,hj,rfl,ay,a8,al⟩:=hrel;by_cases aw:j<l.length
    ·have bh:((j:Int)<(l.length:Int)):=by omega
     obtain ⟨s,az,hN,aq⟩:=Q1w aw a8;have a4:=Rd.keep (w':=wr) hv hS fun c hc=>(al.block c Zzq).trans (an.block c hc)
     obtain ⟨a,rfl,_,_,ac⟩:=Q9I a4 az;obtain ⟨u,hc,hu⟩:=ac 0 _ rfl;rw [QbI hu,Nat.mul_one,Nat.add_zero] at hc
     go_wp2_with (go_at_call 175;refine (Tryz.checkName_calls wr b j aj s ay Zzq hN).mono ?_)
     rintro e f ⟨rfl,a7,v⟩;have ar:=Ap al Zzq ai v
     go_wp2
     go_roundw
     all_goals first
      |exact ⟨j+1,s::aj,aw,by go_num,a7,aq,ar⟩
      |(simp [intOf];omega)
    ·go_wp2
     go_roundw
     all_goals first
      |exact ⟨k+1,bo,by go_num,al⟩
      |(simp [intOf];omega)
  ·skip
   have ai:w.heap.size+1<=wr.heap.size:=by have:=hF.size;omega
   have hM:=Q2I.made Tryz.prog wr;have a3:=UE hF Zzq (.map #[] 0);have ak:=(a3.block _ (Nat.lt_succ_self _)).trans a1;have c2:(wr.alloc (.map #[] 0)).cell? ⟨w.heap.size,2,none⟩=some (.slice q l2.length p):=by rw [Qku ak];rfl
   go_wp2
   clear ak c2;generalize wr.alloc (.map #[] 0)=w2 at *
   generalize wr.heap.size=b at *
   go_loopw [62] (fun i wr=>∃ (j:Nat) (aj:List (List UInt8)),j<=l2.length/\i = .int .i64 j/\Q2I wr Tryz.prog b j aj/\HW N l0 l1 l2 d aj (l2.drop j)=true/\Below (w.heap.size+1) w1 wr)
    (fun i _=>l2.length-(intOf i).toNat)
   case atStart=>exact ⟨0,[],by omega,rfl,hM,ns,a3⟩
   case round=>
    obtain ⟨j,aj,hj,rfl,ay,a8,al⟩:=hrel;by_cases aw:j<l2.length
    ·have bh:((j:Int)<(l2.length:Int)):=by omega
     obtain ⟨s,sa,sb,sc,sd,az,hN,bi,aq⟩:=Q3P aw a8;have bn:∀ c,c<w.heap.size->wr.heap[c]? = w.heap[c]?:=fun c hc=>(al.block c Zzq).trans (an.block c hc)
     have a4:=Rd.keep (w':=wr) h2 hS bn;obtain ⟨a,rfl,_,_,ac⟩:=Q9I a4 az;obtain ⟨u0,x0,y0⟩:=ac 0 _ rfl;obtain ⟨u1,x1,y1⟩:=ac 1 _ rfl;obtain ⟨ce,x2,y2⟩:=ac 2 _ rfl;obtain ⟨cv,x3,y3⟩:=ac 3 _ rfl;obtain ⟨cp,x4,y4⟩:=ac 4 _ rfl;rw [QbI y0,Nat.add_zero] at x0;rw [RU y1,Tt _ _ _ (by decide)] at x1;rw [RU y2,Tt _ _ _ (by decide)] at x2;rw [RU y3,Tt _ _ _ (by decide)] at x3;rw [RU y4,Tt _ _ _ (by decide)] at x4;clear ac y0 y1 y2 y3 y4 a4;have au:wr.grownBy (wr.alloc (.cells #[.string ⟨⟨s⟩⟩,.int .i64 sa,.int .i64 sb,.int .i64 sc,.int .i64 sd] 72)) none:=World.grownBy_alloc wr _ none;have bb:=UE al Zzq (.cells #[.string ⟨⟨s⟩⟩,.int .i64 sa,.int .i64 sb,.int .i64 sc,.int .i64 sd] 72);have bg:=ay.kept au (by simp);have av:(wr.alloc (.cells #[.string ⟨⟨s⟩⟩,.int .i64 sa,.int .i64 sb,.int .i64 sc,.int .i64 sd] 72)).heap[wr.heap.size]? = some (.cells #[.string ⟨⟨s⟩⟩,.int .i64 sa,.int .i64 sb,.int .i64 sc,.int .i64 sd] 72 (0,0)):=heap_alloc_new wr _;have co:b<wr.heap.size:=ay.lt;have bx:w.heap.size+1<=wr.heap.size:=by have:=al.size;omega
     go_wp2_with (go_at_call 175;refine (Tryz.checkName_calls (wr.alloc (.cells #[.string ⟨⟨s⟩⟩,.int .i64 sa,.int .i64 sb,.int .i64 sc,.int .i64 sd] 72)) b j aj s bg Zzq hN).mono ?_)
     rintro e f ⟨rfl,a7,v⟩;have ar:=Ap bb Zzq ai v;have ak:=(ar.block _ (Nat.lt_succ_self _)).trans a1;have ax:=(v.block wr.heap.size (by simp) (by simp;omega)).trans av;clear bb bg av au v ay al;have z0:f.cell? ⟨w.heap.size,0,none⟩=some (.slice g l0.length h):=by rw [Qku ak];rfl
     have z1:f.cell? ⟨w.heap.size,1,none⟩=some (.slice m l1.length n):=by rw [Qku ak];rfl
     have z2:f.cell? ⟨w.heap.size,2,none⟩=some (.slice (some a) l2.length p):=by rw [Qku ak];rfl
     have z3:f.cell? ⟨w.heap.size,3,none⟩=some (.slice r d.length t):=by rw [Qku ak];rfl
     have y0:f.cell? ⟨wr.heap.size,0,none⟩=some (.string ⟨⟨s⟩⟩):=by rw [Qku ax];rfl
     have y1:f.cell? ⟨wr.heap.size,1,none⟩=some (.int .i64 sa):=by rw [Qku ax];rfl
     have y2:f.cell? ⟨wr.heap.size,2,none⟩=some (.int .i64 sb):=by rw [Qku ax];rfl
     have y3:f.cell? ⟨wr.heap.size,3,none⟩=some (.int .i64 sc):=by rw [Qku ax];rfl
     have y4:f.cell? ⟨wr.heap.size,4,none⟩=some (.int .i64 sd):=by rw [Qku ax];rfl
     have o:∀ c,c<w.heap.size->f.heap[c]? = w.heap[c]?:=fun c hc=>(ar.block c Zzq).trans (an.block c hc)
     have a5:∀ c,S c->c<f.heap.size:=fun c hc=>by have:=hS c hc;have:=ar.size;omega
     have g0:=Rd.keep h0 hS o;have g1:=Rd.keep h1 hS o;have g2:=Rd.keep h2 hS o;have g3:=Rd.keep h3 hS o
     go_wp2_with (go_at_call 176;refine (Q7h bi a5 g0 g1 g2 g3).mono ?_)
     rintro e w4 ⟨rfl,a2⟩;have bk:=a7.kept (WC a2) (by simp);have ao:=VG ar Zzq a2
     go_wp2
     go_roundw
     all_goals first
      |exact ⟨j+1,s::aj,aw,by go_num,bk,aq,ao⟩
      |(simp [intOf];omega)
    ·have ak:=(al.block _ (Nat.lt_succ_self _)).trans a1;have z0:wr.cell? ⟨w.heap.size,0,none⟩=some (.slice g l0.length h):=by rw [Qku ak];rfl
     have z1:wr.cell? ⟨w.heap.size,1,none⟩=some (.slice m l1.length n):=by rw [Qku ak];rfl
     have z2:wr.cell? ⟨w.heap.size,2,none⟩=some (.slice q l2.length p):=by rw [Qku ak];rfl
     have z3:wr.cell? ⟨w.heap.size,3,none⟩=some (.slice r d.length t):=by rw [Qku ak];rfl
     have o:∀ c,c<w.heap.size->wr.heap[c]? = w.heap[c]?:=fun c hc=>(al.block c Zzq).trans (an.block c hc)
     have a5:∀ c,S c->c<wr.heap.size:=fun c hc=>by have:=hS c hc;have:=al.size;omega
     have a6:=hL wr a5 (Rd.keep h0 hS o) (Rd.keep h1 hS o) (Rd.keep h2 hS o) (Rd.keep h3 hS o)
     go_wp2_with (go_at_call 177;refine a6.mono ?_)
     rintro e w4 ⟨rfl,a2⟩;have ao:=VG al Zzq a2
     go_wp2
     refine bodyPost_ret (results_tmp rfl _ _ _) rfl ?_;exact ⟨rfl,ao.os.trans an.os,ao.tape.trans an.tape,ao.output.trans an.output,by have:=ao.size;omega,fun c hc=>(ao.block c Zzq).trans (an.block c hc)⟩

end Go.Vx
set_option maxRecDepth 100000
namespace Go.Vx
open Go.Proofs
variable (n:Nat)
def TD:EZ9 213:=mkD (Xa [] []).ok nT 213 Tryz.f213 0 @LW n
def RW:BZ9:=Xa [⟨213,TD n⟩] []
def Cp:LZ9:=mkU (RW n).ok nT 2 Tryz.f215 [(4,.ptr 4 0),(5,.ptr 5 0),(11,.l 6),(12,tI),(13,tI)] [(4,.box [tI,tI]),(5,.box [tI,tI])] 1102 [.f .ret [(6,.cb true)] [] [],xE 0 [(14,.b)]] @HR n
def NG:EZ9 215:=mkD (RW n).ok [Cp n n] 215 Tryz.f215 0 @GY n
def Ee:EZ9 216:=mkD (Xa [] []).ok nT 216 Tryz.f216 0 @Gc n
def Ta:EZ9 212:=mkD (Xa [] []).ok nT 212 Tryz.f212 0 @Yx n
end Go.Vx
namespace Go.Vx
variable {R:Type}
def HY (n:Nat) (a b:Int) (K:Int->oP R):oP R:= K (wJ ((wJ (2*a))+b))
end Go.Vx
set_option maxRecDepth 100000
namespace Go.Vx
open Go.Proofs
variable (n:Nat)
def Ps:EZ9 214:=mkD (Xa [] []).ok nT 214 Tryz.f214 0 @HY n
end Go.Vx
namespace Go.Vx
open Go.Proofs Go.RowKit
theorem Q7J {w w':World} {a:Addr} {u:Value} (hB:Below w.heap.size w w') (h:w.cell? a=some u):w'.cell? a=some u:=by
 rw [World.cell?_of_block (hB.block a.block (World.block_lt_of_cell? w a h))];exact h
theorem Mz (w:World):Below w.heap.size w w.drew:=⟨rfl,rfl,rfl,QkM _,fun _ _=>rfl⟩
theorem Mu {w a b:World} (h:Below w.heap.size w a) (h2:Below a.heap.size a b):Below w.heap.size w b:=VG h (QkM _) h2
theorem Q6B {β:Nat->Option Nat} {S:Nat->Prop} {h:Nat->Option Ob} {w:World} {tm:Nat->Value} {v:Value} {k:IntKind} {n:Int} (h:RdA β S h w tm v (.d (.int k n))):v = .int k n:=by
 cases h with
 |d _ _ q=>exact RU q
 |dang _ _ _ hl=>cases hl
theorem Q85 {β:Nat->Option Nat} {S:Nat->Prop} {h:Nat->Option Ob} {w:World} {tm:Nat->Value} {v:Value} {k k':IntKind} {n m:Int} (h:RdA β S h w tm v (.ag [.d (.int k n),.d (.int k' m)])):v = .agg #[.int k n,.int k' m]:=by
 cases h with
 |ag cs l hl hr=>
  have c:=Q6B (hr 0 _ rfl);have d:=Q6B (hr 1 _ rfl);obtain ⟨l⟩:=cs
  match l,hl with
  |[a,b],_=>
   simp at c d;rw [c,d]
 |dang _ _ _ hl=>cases hl
theorem Tryz.index_calls (w:World) (a b:Int) (a0:0<=a) (a1:a<1000) (b0:0<=b) (b1:b<=1) :
  Calls Tryz.prog 214 #[.agg #[.int .i64 a,.int .i64 b]] w fun e w'=>e = .returned (.int .i64 (2*a+b))/\Below w.heap.size w w':=by
 have e1:IntKind.i64.wrap (2*a)=2*a:=by rw [IntKind.wrap_i64];omega
 have e2:IntKind.i64.wrap (2*a+b)=2*a+b:=by rw [IntKind.wrap_i64];omega
 have hp:HY 0 a b some=some (2*a+b):=by
  show some (IntKind.i64.wrap (IntKind.i64.wrap (2*a)+b))=_;rw [e1,e2]
 have he:(Ps 0).E Dl 0 true [.ag ([D.int .i64 a,D.int .i64 b].map .d)] (fun _=>none) some=some ⟨.d (D.int .i64 (2*a+b)),[],[]⟩:=by
  show gb true (HY 0 a b some) 0 (fun r=>(some ⟨.d (D.int .i64 r),[],[]⟩:Option Dl))=_;rw [hp];rfl
 exact K5 (S:=fun _=>False) (Yv ((Ps 0).ok) he) (fun _ h=>h.elim) (Q8E (RdLs.agg (.cons (.int _ _) (.cons (.int _ _) .nil))))
set_option maxHeartbeats 4000000 in
theorem Tryz.ends_calls (w:World) (a ae b be p q:Int) :
  Calls Tryz.prog 213 #[.agg #[.int .i64 a,.int .i64 ae,.int .i64 b,.int .i64 be,.int .i64 p,.int .i64 q]] w fun e w'=>e = .returned (.tuple #[.agg #[.int .i64 a,.int .i64 ae],.agg #[.int .i64 b,.int .i64 be]])/\Below w.heap.size w w':=by
 have he:(TD 0).E Dl 0 true [.ag ([D.int .i64 a,D.int .i64 ae,D.int .i64 b,D.int .i64 be,D.int .i64 p,D.int .i64 q].map .d)] (fun _=>none) some=some ⟨.tup [.ag ([D.int .i64 a,D.int .i64 ae].map .d),.ag ([D.int .i64 b,D.int .i64 be].map .d)],[],[]⟩:=rfl;refine (B2 (S:=fun _=>False) (Yv ((TD 0).ok) he) (fun _ h=>h.elim) (Q8E (RdLs.agg (.cons (.int _ _) (.cons (.int _ _) (.cons (.int _ _) (.cons (.int _ _) (.cons (.int _ _) (.cons (.int _ _) .nil))))))))).mono fun e w' ⟨v,S',f,h2,g⟩=>⟨?_,g⟩
 rw [f];cases h2 with
 |tup cs l hl hr=>
  have c:=Q85 (hr 0 _ rfl);have d:=Q85 (hr 1 _ rfl);obtain ⟨l⟩:=cs
  match l,hl with
  |[a,b],_=>
   simp at c d;rw [c,d]
 |dang v av l hl=>cases hl
theorem GI {e1 e2 k:Nat} {w w':World} {B:Nat} {v:Value} {hd:List Value} {ll:List LL} (h:NestK e1 e2 k w B v hd ll) (hg:w.grownBy w' none):NestK e1 e2 k w' B v hd ll:=
 h.kept hg (Classical.em _) (fun x _=>Classical.em _)
structure Grew (w w':World) (vb:Nat) (x x':Value):Prop where
 own:∀ b,x'.ownBlock=some b->x.ownBlock=some b\/w.heap.size<=b
 os:w'.os=w.os
 tape:w'.tape=w.tape
 output:w'.output=w.output
 size:w.heap.size<=w'.heap.size
 block:∀ b,b<w.heap.size->b≠vb->x.ownBlock≠some b->w'.heap[b]? = w.heap[b]?
theorem Q44 {w W1 W2:World} {B vb N i n g c:Nat} {x:Value} {hd:List Value} {ll:List LL} {l:LL} {row:List D} (hN:NestK 25 166 6 w B (.slice (some ⟨vb,0,none⟩) N N) hd ll) (hx:hd[i]? = some x) (hl:ll[i]? = some l) (hn:n=l.length)
  (a:w.grownBy W1 none) (aj:W2.ownsRow B 166 6 (.slice (some ⟨g,0,none⟩) (n+1) c) (n+1) (cellsOf l++row.map dV)) (ac:W1.grownBy W2 x.ownBlock) (hat:x.ownBlock=some g\/g=W1.heap.size) :
  NestK 25 166 6 (W2.setCell ⟨vb,i,none⟩ (.slice (some ⟨g,0,none⟩) (n+1) c)) B (.slice (some ⟨vb,0,none⟩) N N) (hd.set i (.slice (some ⟨g,0,none⟩) (n+1) c)) (ll.set i (l++[row])) /\
   Grew w (W2.setCell ⟨vb,i,none⟩ (.slice (some ⟨g,0,none⟩) (n+1) c)) vb x (.slice (some ⟨g,0,none⟩) (n+1) c):=by
 subst hn;have d:=GI hN a;have s1:=a.size;have s2:=ac.size;refine ⟨d.grow hx hl aj ac rfl hat rfl rfl,⟨fun b hb=>?_,?_,?_,?_,?_,fun b hb h2 f=>?_⟩⟩
 ·simp only [Value.ownBlock,Option.some.injEq] at hb;subst hb;rcases hat with h | h
  ·exact .inl h
  ·exact .inr Zzq
 ·exact ac.os.trans a.os
 ·exact ac.tape.trans a.tape
 ·exact ac.output.trans a.output
 ·simp;omega
 ·rw [heap_setCell_other _ _ _ _ (fun e=>h2 e)];rw [ac.block b Zzq (fun e=>f e.symm),a.block b hb (by simp)]
noncomputable def Qdp:Code:=(GL (Tryz.f177.body.getD .skip)).getD 8 .skip
set_option maxHeartbeats 8000000 in
set_option maxRecDepth 100000 in
theorem Tryz.links_r8 (f g u2 h i u8 u9 j k l m n o p q r s t u v x y z aa ab ac ad ag cf cg ch ci cj ck cm cn ah ai aj ak al am an ao ap aq ar au av aw ax ay az ba bb bc bd bg bh bi bj a2 bk bl bm bn bo bp bq br bt bu bv bx bz ca cb:Value) (vb N c d:Nat) (a ae b be:Int) (w:World) (c0:w.cell? ⟨c,0,none⟩=some (.int .i64 a)) (c1:w.cell? ⟨c,1,none⟩=some (.int .i64 ae)) (d0:w.cell? ⟨d,0,none⟩=some (.int .i64 b)) (d1:w.cell? ⟨d,1,none⟩=some (.int .i64 be)) (a0:0<=a) (a1:a<1000) (e0:0<=ae) (e1:ae<=1) (b0:0<=b) (b1:b<1000) (f0:0<=be) (f1:be<=1) (h1:2*a+ae<(N:Int)) (h2:2*b+be<(N:Int)) :
  Code.wp Tryz.prog Qdp (Q6k fun act w'=>∃ (co cp cq cr cs ct cu cv:Value) ,act=⟨(f::g::u2::.slice (some ⟨vb,0,none⟩) N N::h::i::.pointer (some ⟨c,0,none⟩)::.pointer (some ⟨d,0,none⟩)::.pointer (some ⟨vb,(2*a+ae).toNat,none⟩)::.pointer (some ⟨vb,(2*b+be).toNat,none⟩)::j::k::l::m::n::o::p::q::r::s::t::u::v::x::y::z::aa::ab::ac::ad::ag::co::cp::cq::cr::cs::ct::cu::cv::ah::ai::aj::ak::al::am::an::ao::ap::aq::ar::au::av::aw::ax::ay::az::ba::bb::bc::bd::bg::bh::bi::bj::a2::bk::bl::bm::bn::bo::bp::bq::br::bt::bu::bv::bx::bz::ca::cb::[]).toArray,[]⟩/\Below w.heap.size w w') ⟨(f::g::u2::.slice (some ⟨vb,0,none⟩) N N::h::i::.pointer (some ⟨c,0,none⟩)::.pointer (some ⟨d,0,none⟩)::u8::u9::j::k::l::m::n::o::p::q::r::s::t::u::v::x::y::z::aa::ab::ac::ad::ag::cf::cg::ch::ci::cj::ck::cm::cn::ah::ai::aj::ak::al::am::an::ao::ap::aq::ar::au::av::aw::ax::ay::az::ba::bb::bc::bd::bg::bh::bi::bj::a2::bk::bl::bm::bn::bo::bp::bq::br::bt::bu::bv::bx::bz::ca::cb::[]).toArray,[]⟩ w:=by
 conv=>arg 2;whnf
 have mixed:Tryz.prog.follows .mixedOrders=true:=by kernel_rfl
 have y0:w.drew.cell? ⟨c,0,none⟩=some (.int .i64 a):=c0;have y1:w.drew.cell? ⟨c,1,none⟩=some (.int .i64 ae):=c1;have y2:w.drew.cell? ⟨d,0,none⟩=some (.int .i64 b):=d0;have y3:w.drew.cell? ⟨d,1,none⟩=some (.int .i64 be):=d1;have g1:0<=2*a+ae:=by omega
 have g2:0<=2*b+be:=by omega
 clear c0 c1 d0 d1
 go_region_held3 (fun w'=>w'.cell? ⟨c,0,none⟩=some (.int .i64 a)/\w'.cell? ⟨c,1,none⟩=some (.int .i64 ae)/\w'.cell? ⟨d,0,none⟩=some (.int .i64 b)/\w'.cell? ⟨d,1,none⟩=some (.int .i64 be))
  (first
   |exact ⟨y0,y1,y2,y3⟩
   |(refine ⟨?_,?_,?_,?_⟩ <;> (repeat (first | assumption | refine Q7J (by assumption) ?_))))
  (first
   |(go_at_call 214;refine (Tryz.index_calls _ _ _ (by assumption) (by assumption) (by assumption) (by assumption)).mono ?_;rintro e W1 ⟨rfl,df⟩))
 all_goals
  dsimp only [Q6k];refine ⟨_,_,_,_,_,_,_,_,rfl,?_⟩
  repeat (first | exact Mz _ | refine Mu ?_ (by assumption))
noncomputable def Qau:Code:=(GL (Tryz.f177.body.getD .skip)).getD 11 .skip
set_option maxHeartbeats 8000000 in
set_option maxRecDepth 100000 in
theorem Tryz.links_r11 (f g u2 u3 h j k l m o p q r s t u v x y z aa ab ac ag ah ai aj ak al am an ao ap aq ar au av aw ax ay ci cj ck cm cn co cp az ba bb bc bd bg bh bi bj bk bl bm bn bo a1 bp bq br bt bu bv bx bz ca cb cc ce cf cg ch:Value) (vb i c d n cap:Nat) (ad:Option Addr) (a ae b be:Int) (w:World) (c0:w.cell? ⟨c,0,none⟩=some (.int .i64 a)) (c1:w.cell? ⟨c,1,none⟩=some (.int .i64 ae)) (d0:w.cell? ⟨d,0,none⟩=some (.int .i64 b)) (d1:w.cell? ⟨d,1,none⟩=some (.int .i64 be)) (cx:w.cell? ⟨vb,i,none⟩=some (.slice ad n cap))
  (hc:Calls Tryz.prog 215 #[.slice ad n cap,.agg #[.int .i64 a,.int .i64 ae],.agg #[.int .i64 b,.int .i64 be]] w.drew fun e w'=>e = .returned (.bool false)/\Below w.drew.heap.size w.drew w') :
  Code.wp Tryz.prog Qau (Q6k fun act w'=>∃ (cq cr cs ct cu cv:Value) ,act=⟨(f::g::u2::u3::h::j::.pointer (some ⟨c,0,none⟩)::.pointer (some ⟨d,0,none⟩)::.pointer (some ⟨vb,i,none⟩)::k::l::m::o::p::q::r::s::t::u::v::x::y::z::aa::ab::ac::ag::ah::ai::aj::ak::al::am::an::ao::ap::aq::ar::au::av::aw::ax::ay::.bool false::cq::cr::cs::ct::cu::cv::az::ba::bb::bc::bd::bg::bh::bi::bj::bk::bl::bm::bn::bo::a1::bp::bq::br::bt::bu::bv::bx::bz::ca::cb::cc::ce::cf::cg::ch::[]).toArray,[]⟩/\Below w.heap.size w w') ⟨(f::g::u2::u3::h::j::.pointer (some ⟨c,0,none⟩)::.pointer (some ⟨d,0,none⟩)::.pointer (some ⟨vb,i,none⟩)::k::l::m::o::p::q::r::s::t::u::v::x::y::z::aa::ab::ac::ag::ah::ai::aj::ak::al::am::an::ao::ap::aq::ar::au::av::aw::ax::ay::ci::cj::ck::cm::cn::co::cp::az::ba::bb::bc::bd::bg::bh::bi::bj::bk::bl::bm::bn::bo::a1::bp::bq::br::bt::bu::bv::bx::bz::ca::cb::cc::ce::cf::cg::ch::[]).toArray,[]⟩ w:=by
 conv=>arg 2;whnf
 have mixed:Tryz.prog.follows .mixedOrders=true:=by kernel_rfl
 have y0:w.drew.cell? ⟨c,0,none⟩=some (.int .i64 a):=c0;have y1:w.drew.cell? ⟨c,1,none⟩=some (.int .i64 ae):=c1;have y2:w.drew.cell? ⟨d,0,none⟩=some (.int .i64 b):=d0;have y3:w.drew.cell? ⟨d,1,none⟩=some (.int .i64 be):=d1;have y4:w.drew.cell? ⟨vb,i,none⟩=some (.slice ad n cap):=cx;clear c0 c1 d0 d1 cx
 go_region_law (first
   |(go_simp;refine hc.mono ?_;rintro e W1 ⟨rfl,cw⟩))
 all_goals
  dsimp only [Q6k];refine ⟨_,_,_,_,_,_,rfl,?_⟩;exact Mu (Mz w) cw
noncomputable def QaC:Code:=(GL (Tryz.f177.body.getD .skip)).getD 13 .skip
set_option maxHeartbeats 8000000 in
set_option maxRecDepth 100000 in
theorem Tryz.links_r13 (d f u2 u3 g h j k l m o r s t u v x y z aa ab ac ag ah ai aj ak al am an ao ap aq ar au av aw ax ay az ba bb bc bd bg bh bi bj cp cq cr cs ct cu cv bk bl bm bn bo bp bq a1 br bt bu bv bx bz ca cb cc ce cf cg ch ci cj:Value) (vb i c n cap:Nat) (ad:Option Addr) (a ae b be p q:Int) (w:World) (c0:w.cell? ⟨c,0,none⟩=some (.int .i64 a)) (c1:w.cell? ⟨c,1,none⟩=some (.int .i64 ae)) (c2:w.cell? ⟨c,2,none⟩=some (.int .i64 b)) (c3:w.cell? ⟨c,3,none⟩=some (.int .i64 be)) (c4:w.cell? ⟨c,4,none⟩=some (.int .i64 p)) (c5:w.cell? ⟨c,5,none⟩=some (.int .i64 q)) (cx:w.cell? ⟨vb,i,none⟩=some (.slice ad n cap))
  (hc:Calls Tryz.prog 216 #[.agg #[.int .i64 a,.int .i64 ae,.int .i64 b,.int .i64 be,.int .i64 p,.int .i64 q],.slice ad n cap] w.drew fun e w'=>e = .returned (.bool true)/\Below w.drew.heap.size w.drew w') :
  Code.wp Tryz.prog QaC (Q6k fun act w'=>∃ (cw cy cz da db dc:Value) ,act=⟨(d::f::u2::u3::g::.pointer (some ⟨c,0,none⟩)::h::j::.pointer (some ⟨vb,i,none⟩)::k::l::m::o::r::s::t::u::v::x::y::z::aa::ab::ac::ag::ah::ai::aj::ak::al::am::an::ao::ap::aq::ar::au::av::aw::ax::ay::az::ba::bb::bc::bd::bg::bh::bi::bj::.bool false::cw::cy::cz::da::db::dc::bk::bl::bm::bn::bo::bp::bq::a1::br::bt::bu::bv::bx::bz::ca::cb::cc::ce::cf::cg::ch::ci::cj::[]).toArray,[]⟩/\Below w.heap.size w w') ⟨(d::f::u2::u3::g::.pointer (some ⟨c,0,none⟩)::h::j::.pointer (some ⟨vb,i,none⟩)::k::l::m::o::r::s::t::u::v::x::y::z::aa::ab::ac::ag::ah::ai::aj::ak::al::am::an::ao::ap::aq::ar::au::av::aw::ax::ay::az::ba::bb::bc::bd::bg::bh::bi::bj::cp::cq::cr::cs::ct::cu::cv::bk::bl::bm::bn::bo::bp::bq::a1::br::bt::bu::bv::bx::bz::ca::cb::cc::ce::cf::cg::ch::ci::cj::[]).toArray,[]⟩ w:=by
 conv=>arg 2;whnf
 have mixed:Tryz.prog.follows .mixedOrders=true:=by kernel_rfl
 have y0:w.drew.cell? ⟨c,0,none⟩=some (.int .i64 a):=c0;have y1:w.drew.cell? ⟨c,1,none⟩=some (.int .i64 ae):=c1;have y2:w.drew.cell? ⟨c,2,none⟩=some (.int .i64 b):=c2;have y3:w.drew.cell? ⟨c,3,none⟩=some (.int .i64 be):=c3;have y5:w.drew.cell? ⟨c,4,none⟩=some (.int .i64 p):=c4;have y6:w.drew.cell? ⟨c,5,none⟩=some (.int .i64 q):=c5;have y4:w.drew.cell? ⟨vb,i,none⟩=some (.slice ad n cap):=cx;clear c0 c1 c2 c3 c4 c5 cx
 go_region_law (first
   |(go_simp;refine hc.mono ?_;rintro e W1 ⟨rfl,dd⟩))
 all_goals
  dsimp only [Q6k];refine ⟨_,_,_,_,_,_,rfl,?_⟩;exact Mu (Mz w) dd
noncomputable def Qba:Code:=(GL (Tryz.f177.body.getD .skip)).getD 14 .skip
set_option maxHeartbeats 8000000 in
set_option maxRecDepth 100000 in
theorem Tryz.links_r14 (d f u2 u3 g h j k l m o r s t u v x y z aa ab ac ag ah ai aj ak al am an ao ap aq ar au av aw ax ay az ba bb bc bd bg bh bi bj cp bk bl bm bn bo bp cq cr cs ct cu cv bq a1 br bt bu bv bx bz ca cb cc ce cf cg ch ci cj:Value) (vb i c n cap:Nat) (ad:Option Addr) (a ae b be p q:Int) (w:World) (c0:w.cell? ⟨c,0,none⟩=some (.int .i64 a)) (c1:w.cell? ⟨c,1,none⟩=some (.int .i64 ae)) (c2:w.cell? ⟨c,2,none⟩=some (.int .i64 b)) (c3:w.cell? ⟨c,3,none⟩=some (.int .i64 be)) (c4:w.cell? ⟨c,4,none⟩=some (.int .i64 p)) (c5:w.cell? ⟨c,5,none⟩=some (.int .i64 q)) (cx:w.cell? ⟨vb,i,none⟩=some (.slice ad n cap))
  (hc:Calls Tryz.prog 216 #[.agg #[.int .i64 a,.int .i64 ae,.int .i64 b,.int .i64 be,.int .i64 p,.int .i64 q],.slice ad n cap] w.drew fun e w'=>e = .returned (.bool true)/\Below w.drew.heap.size w.drew w') :
  Code.wp Tryz.prog Qba (Q6k fun act w'=>∃ (cw cy cz da db dc:Value) ,act=⟨(d::f::u2::u3::g::.pointer (some ⟨c,0,none⟩)::h::j::k::.pointer (some ⟨vb,i,none⟩)::l::m::o::r::s::t::u::v::x::y::z::aa::ab::ac::ag::ah::ai::aj::ak::al::am::an::ao::ap::aq::ar::au::av::aw::ax::ay::az::ba::bb::bc::bd::bg::bh::bi::bj::.bool false::bk::bl::bm::bn::bo::bp::cw::cy::cz::da::db::dc::bq::a1::br::bt::bu::bv::bx::bz::ca::cb::cc::ce::cf::cg::ch::ci::cj::[]).toArray,[]⟩/\Below w.heap.size w w') ⟨(d::f::u2::u3::g::.pointer (some ⟨c,0,none⟩)::h::j::k::.pointer (some ⟨vb,i,none⟩)::l::m::o::r::s::t::u::v::x::y::z::aa::ab::ac::ag::ah::ai::aj::ak::al::am::an::ao::ap::aq::ar::au::av::aw::ax::ay::az::ba::bb::bc::bd::bg::bh::bi::bj::cp::bk::bl::bm::bn::bo::bp::cq::cr::cs::ct::cu::cv::bq::a1::br::bt::bu::bv::bx::bz::ca::cb::cc::ce::cf::cg::ch::ci::cj::[]).toArray,[]⟩ w:=by
 conv=>arg 2;whnf
 have mixed:Tryz.prog.follows .mixedOrders=true:=by kernel_rfl
 have y0:w.drew.cell? ⟨c,0,none⟩=some (.int .i64 a):=c0;have y1:w.drew.cell? ⟨c,1,none⟩=some (.int .i64 ae):=c1;have y2:w.drew.cell? ⟨c,2,none⟩=some (.int .i64 b):=c2;have y3:w.drew.cell? ⟨c,3,none⟩=some (.int .i64 be):=c3;have y5:w.drew.cell? ⟨c,4,none⟩=some (.int .i64 p):=c4;have y6:w.drew.cell? ⟨c,5,none⟩=some (.int .i64 q):=c5;have y4:w.drew.cell? ⟨vb,i,none⟩=some (.slice ad n cap):=cx;clear c0 c1 c2 c3 c4 c5 cx
 go_region_law (first
   |(go_simp;refine hc.mono ?_;rintro e W1 ⟨rfl,dd⟩))
 all_goals
  dsimp only [Q6k];refine ⟨_,_,_,_,_,_,rfl,?_⟩;exact Mu (Mz w) dd
noncomputable def Qbo:Code:=(GL (Tryz.f177.body.getD .skip)).getD 16 .skip
set_option maxHeartbeats 8000000 in
set_option maxRecDepth 100000 in
theorem Tryz.links_r16 (m n u2 u3 o r s t v x y z aa ab ac ag ah ai aj ak al am an ao ap aq ar au av aw ax ay az ba bb bc bd bg bh bi bj bk bl bm bn bo bp bq br bt bu bv bx bz ca cb cc ce cf cg ch ct b3 cu cv cw cx cy cz ci cj ck cm cn co cp cq cr:Value) (B vb N i c cap:Nat) (ad:Option Addr) (a ae b be p q:Int) (hd:List Value) (ll:List LL) (l:LL) (w:World) (c0:w.cell? ⟨c,0,none⟩=some (.int .i64 a)) (c1:w.cell? ⟨c,1,none⟩=some (.int .i64 ae)) (c2:w.cell? ⟨c,2,none⟩=some (.int .i64 b)) (c3:w.cell? ⟨c,3,none⟩=some (.int .i64 be)) (c4:w.cell? ⟨c,4,none⟩=some (.int .i64 p)) (c5:w.cell? ⟨c,5,none⟩=some (.int .i64 q))
  (hN:NestK 25 166 6 w B (.slice (some ⟨vb,0,none⟩) N N) hd ll) (hx:hd[i]? = some (.slice ad l.length cap)) (hl:ll[i]? = some l) (dz:l.length<=1000) (hB:B<=w.heap.size) (ea:c≠vb) (eb:(Value.slice ad l.length cap).ownBlock≠some c) :
  Code.wp Tryz.prog Qbo (Q6k fun act w'=>∃ (dd de df dg dh di dj dk:Value) (xx:Value),act=⟨(m::n::u2::u3::o::.pointer (some ⟨c,0,none⟩)::r::s::.pointer (some ⟨vb,i,none⟩)::t::v::x::y::z::aa::ab::ac::ag::ah::ai::aj::ak::al::am::an::ao::ap::aq::ar::au::av::aw::ax::ay::az::ba::bb::bc::bd::bg::bh::bi::bj::bk::bl::bm::bn::bo::bp::bq::br::bt::bu::bv::bx::bz::ca::cb::cc::ce::cf::cg::ch::dd::de::df::dg::dh::di::dj::dk::ci::cj::ck::cm::cn::co::cp::cq::cr::[]).toArray,[]⟩/\NestK 25 166 6 w' B (.slice (some ⟨vb,0,none⟩) N N) (hd.set i xx) (ll.set i (l++[[D.int .i64 a,.int .i64 ae,.int .i64 b,.int .i64 be,.int .i64 p,.int .i64 q]]))/\Grew w w' vb (.slice ad l.length cap) xx) ⟨(m::n::u2::u3::o::.pointer (some ⟨c,0,none⟩)::r::s::.pointer (some ⟨vb,i,none⟩)::t::v::x::y::z::aa::ab::ac::ag::ah::ai::aj::ak::al::am::an::ao::ap::aq::ar::au::av::aw::ax::ay::az::ba::bb::bc::bd::bg::bh::bi::bj::bk::bl::bm::bn::bo::bp::bq::br::bt::bu::bv::bx::bz::ca::cb::cc::ce::cf::cg::ch::ct::b3::cu::cv::cw::cx::cy::cz::ci::cj::ck::cm::cn::co::cp::cq::cr::[]).toArray,[]⟩ w:=by
 conv=>arg 2;whnf
 have mixed:Tryz.prog.follows .mixedOrders=true:=by kernel_rfl
 obtain ⟨i0,hi,dn⟩:=QkK.1 (show (Tryz.prog.info? 166).map (fun i=>(i.zero,i.size,i.bytes))=some (some (.agg #[.int .i64 0,.int .i64 0,.int .i64 0,.int .i64 0,.int .i64 0,.int .i64 0]),6,48) by kernel_rfl);obtain ⟨hz,f⟩:=Prod.mk.inj dn;obtain ⟨f,dp⟩:=Prod.mk.inj f;have a8:=(hN.row.lt vb rfl).2;have b2:=hN.each _ _ _ hx hl;have dq:w.cell? ⟨vb,i,none⟩=some (.slice ad l.length cap):=by
  have:=hN.row.cells (g:=vb) rfl i _ hx;rwa [HD,QkN] at this
 have a6:(Value.slice ad l.length cap).ownBlock≠some vb:=fun e=>hN.outer _ _ _ hx e rfl
 obtain ⟨a4,a9⟩:∃ a4,w.drew.heap[vb]? = some (.cells a4 25 (0,0)):=by
  rcases hN.row.2 with ⟨e,_⟩ | ⟨g,db,a4,e,_,hg,_⟩
  ·cases e
  ·cases e;exact ⟨a4,hg⟩
 have q1:l.length+1<=maxLen:=by unfold maxLen;omega
 have q2:(l.length+1)*48<=140737488355328:=by omega
 have q3:∀ u∈[Value.int .i64 a,.int .i64 ae,.int .i64 b,.int .i64 be,.int .i64 p,.int .i64 q],u.oneCell'=true:=by simp [Value.oneCell']
 have y0:w.drew.cell? ⟨c,0,none⟩=some (.int .i64 a):=c0;have y1:w.drew.cell? ⟨c,1,none⟩=some (.int .i64 ae):=c1;have y2:w.drew.cell? ⟨c,2,none⟩=some (.int .i64 b):=c2;have y3:w.drew.cell? ⟨c,3,none⟩=some (.int .i64 be):=c3;have y5:w.drew.cell? ⟨c,4,none⟩=some (.int .i64 p):=c4;have y6:w.drew.cell? ⟨c,5,none⟩=some (.int .i64 q):=c5;have y4:w.drew.cell? ⟨vb,i,none⟩=some (.slice ad l.length cap):=dq;have d:w.drew.grownBy (w.drew.alloc (.cells #[.int .i64 a,.int .i64 ae,.int .i64 b,.int .i64 be,.int .i64 p,.int .i64 q] 166)) none:=World.grownBy_alloc _ _ none;have dw:w.drew.ownsRow B 166 6 (.slice ad l.length cap) l.length (cellsOf l):=b2;have dx:(w.drew.alloc (.cells #[.int .i64 a,.int .i64 ae,.int .i64 b,.int .i64 be,.int .i64 p,.int .i64 q] 166)).ownsRow B 166 6 (.slice ad l.length cap) l.length (cellsOf l):=World.ownsRow.kept (w:=w.drew) dw d (Classical.em _);have dy:∀ (j:Nat) (u:Value),[Value.int .i64 a,.int .i64 ae,.int .i64 b,.int .i64 be,.int .i64 p,.int .i64 q][j]? = some u->(w.drew.alloc (.cells #[.int .i64 a,.int .i64 ae,.int .i64 b,.int .i64 be,.int .i64 p,.int .i64 q] 166)).cell? ((⟨w.drew.heap.size,0,none⟩:Addr).add j)=some u:=World.news_of_block (heap_alloc_new _ _);have h:w.drew.heap.size<=(w.drew.alloc (.cells #[.int .i64 a,.int .i64 ae,.int .i64 b,.int .i64 be,.int .i64 p,.int .i64 q] 166)).heap.size:=d.size;have b0:B<=(w.drew.alloc (.cells #[.int .i64 a,.int .i64 ae,.int .i64 b,.int .i64 be,.int .i64 p,.int .i64 q] 166)).heap.size:=Nat.le_trans hB h;have a1:vb<w.drew.heap.size:=a8;have a5:=(d.block vb a1 (fun e=>by cases e)).trans a9;have k:=d.cell_far ⟨vb,i,none⟩ a1 (fun e=>by cases e);have k:=k.trans y4;have c7:(1:Nat)*6=6:=rfl
 go_region_law (first
   |(refine step_append_lies (w.drew.alloc (.cells #[.int .i64 a,.int .i64 ae,.int .i64 b,.int .i64 be,.int .i64 p,.int .i64 q] 166)) (by rfl) _ _ 25 (by rfl) B 166 i0 (.agg #[.int .i64 0,.int .i64 0,.int .i64 0,.int .i64 0,.int .i64 0,.int .i64 0]) 6 48 Tryz.underlying25 hi hz f dp (by rfl) (by decide) _ l.length (cellsOf l) (by rfl) dx ⟨w.drew.heap.size,0,none⟩ 1 1 [Value.int .i64 a,.int .i64 ae,.int .i64 b,.int .i64 be,.int .i64 p,.int .i64 q] (by rfl) rfl dy q3 (by decide) q1 q2 b0 _ rfl ?_;intro g c2 W2 a7 a3 hat e7;
     have rx:=(a3.cell_far ⟨vb,i,none⟩ (QkA a1 h) (fun e=>a6 e.symm)).trans k;
     have rf:=frozen_of_row W2 vb i a4 25 ((a3.block vb (QkA a1 h) (fun e=>a6 e.symm)).trans a5)))
 all_goals
  dsimp only [Q6k];have E:=Q44 (w:=w.drew) (row:=[D.int .i64 a,.int .i64 ae,.int .i64 b,.int .i64 be,.int .i64 p,.int .i64 q]) ⟨hN.row,hN.each,hN.outer,hN.apart⟩ hx hl rfl d a7 a3 hat;exact ⟨_,_,_,_,_,_,_,_,_,rfl,E.1,⟨E.2.own,E.2.os,E.2.tape,E.2.output,E.2.size,E.2.block⟩⟩
noncomputable def Qbf:Code:=(GL (Tryz.f177.body.getD .skip)).getD 17 .skip
set_option maxHeartbeats 8000000 in
set_option maxRecDepth 100000 in
theorem Tryz.links_r17 (m n u2 u3 o r s t v x y z aa ab ac ag ah ai aj ak al am an ao ap aq ar au av aw ax ay az ba bb bc bd bg bh bi bj bk bl bm bn bo bp bq br bt bu bv bx bz ca cb cc ce cf cg ch ci b0 cj ck cm cn co cp cs ct cu cv cw cx cy cz cq:Value) (B vb N i c cap:Nat) (ad:Option Addr) (a ae b be p q:Int) (hd:List Value) (ll:List LL) (l:LL) (w:World) (c0:w.cell? ⟨c,0,none⟩=some (.int .i64 a)) (c1:w.cell? ⟨c,1,none⟩=some (.int .i64 ae)) (c2:w.cell? ⟨c,2,none⟩=some (.int .i64 b)) (c3:w.cell? ⟨c,3,none⟩=some (.int .i64 be)) (c4:w.cell? ⟨c,4,none⟩=some (.int .i64 p)) (c5:w.cell? ⟨c,5,none⟩=some (.int .i64 q))
  (hN:NestK 25 166 6 w B (.slice (some ⟨vb,0,none⟩) N N) hd ll) (hx:hd[i]? = some (.slice ad l.length cap)) (hl:ll[i]? = some l) (dz:l.length<=1000) (hB:B<=w.heap.size) (ea:c≠vb) (eb:(Value.slice ad l.length cap).ownBlock≠some c) :
  Code.wp Tryz.prog Qbf (Q6k fun act w'=>∃ (dd de df dg dh di dj dk:Value) (xx:Value),act=⟨(m::n::u2::u3::o::.pointer (some ⟨c,0,none⟩)::r::s::t::.pointer (some ⟨vb,i,none⟩)::v::x::y::z::aa::ab::ac::ag::ah::ai::aj::ak::al::am::an::ao::ap::aq::ar::au::av::aw::ax::ay::az::ba::bb::bc::bd::bg::bh::bi::bj::bk::bl::bm::bn::bo::bp::bq::br::bt::bu::bv::bx::bz::ca::cb::cc::ce::cf::cg::ch::ci::b0::cj::ck::cm::cn::co::cp::dd::de::df::dg::dh::di::dj::dk::cq::[]).toArray,[]⟩/\NestK 25 166 6 w' B (.slice (some ⟨vb,0,none⟩) N N) (hd.set i xx) (ll.set i (l++[[D.int .i64 a,.int .i64 ae,.int .i64 b,.int .i64 be,.int .i64 p,.int .i64 q]]))/\Grew w w' vb (.slice ad l.length cap) xx) ⟨(m::n::u2::u3::o::.pointer (some ⟨c,0,none⟩)::r::s::t::.pointer (some ⟨vb,i,none⟩)::v::x::y::z::aa::ab::ac::ag::ah::ai::aj::ak::al::am::an::ao::ap::aq::ar::au::av::aw::ax::ay::az::ba::bb::bc::bd::bg::bh::bi::bj::bk::bl::bm::bn::bo::bp::bq::br::bt::bu::bv::bx::bz::ca::cb::cc::ce::cf::cg::ch::ci::b0::cj::ck::cm::cn::co::cp::cs::ct::cu::cv::cw::cx::cy::cz::cq::[]).toArray,[]⟩ w:=by
 conv=>arg 2;whnf
 have mixed:Tryz.prog.follows .mixedOrders=true:=by kernel_rfl
 obtain ⟨i0,hi,dn⟩:=QkK.1 (show (Tryz.prog.info? 166).map (fun i=>(i.zero,i.size,i.bytes))=some (some (.agg #[.int .i64 0,.int .i64 0,.int .i64 0,.int .i64 0,.int .i64 0,.int .i64 0]),6,48) by kernel_rfl);obtain ⟨hz,f⟩:=Prod.mk.inj dn;obtain ⟨f,dp⟩:=Prod.mk.inj f;have a8:=(hN.row.lt vb rfl).2;have b3:=hN.each _ _ _ hx hl;have dq:w.cell? ⟨vb,i,none⟩=some (.slice ad l.length cap):=by
  have:=hN.row.cells (g:=vb) rfl i _ hx;rwa [HD,QkN] at this
 have a6:(Value.slice ad l.length cap).ownBlock≠some vb:=fun e=>hN.outer _ _ _ hx e rfl
 obtain ⟨a4,a9⟩:∃ a4,w.drew.heap[vb]? = some (.cells a4 25 (0,0)):=by
  rcases hN.row.2 with ⟨e,_⟩ | ⟨g,da,a4,e,_,hg,_⟩
  ·cases e
  ·cases e;exact ⟨a4,hg⟩
 have q1:l.length+1<=maxLen:=by unfold maxLen;omega
 have q2:(l.length+1)*48<=140737488355328:=by omega
 have q3:∀ u∈[Value.int .i64 a,.int .i64 ae,.int .i64 b,.int .i64 be,.int .i64 p,.int .i64 q],u.oneCell'=true:=by simp [Value.oneCell']
 have y0:w.drew.cell? ⟨c,0,none⟩=some (.int .i64 a):=c0;have y1:w.drew.cell? ⟨c,1,none⟩=some (.int .i64 ae):=c1;have y2:w.drew.cell? ⟨c,2,none⟩=some (.int .i64 b):=c2;have y3:w.drew.cell? ⟨c,3,none⟩=some (.int .i64 be):=c3;have y5:w.drew.cell? ⟨c,4,none⟩=some (.int .i64 p):=c4;have y6:w.drew.cell? ⟨c,5,none⟩=some (.int .i64 q):=c5;have y4:w.drew.cell? ⟨vb,i,none⟩=some (.slice ad l.length cap):=dq;have d:w.drew.grownBy (w.drew.alloc (.cells #[.int .i64 a,.int .i64 ae,.int .i64 b,.int .i64 be,.int .i64 p,.int .i64 q] 166)) none:=World.grownBy_alloc _ _ none;have dw:w.drew.ownsRow B 166 6 (.slice ad l.length cap) l.length (cellsOf l):=b3;have dx:(w.drew.alloc (.cells #[.int .i64 a,.int .i64 ae,.int .i64 b,.int .i64 be,.int .i64 p,.int .i64 q] 166)).ownsRow B 166 6 (.slice ad l.length cap) l.length (cellsOf l):=World.ownsRow.kept (w:=w.drew) dw d (Classical.em _);have dy:∀ (j:Nat) (u:Value),[Value.int .i64 a,.int .i64 ae,.int .i64 b,.int .i64 be,.int .i64 p,.int .i64 q][j]? = some u->(w.drew.alloc (.cells #[.int .i64 a,.int .i64 ae,.int .i64 b,.int .i64 be,.int .i64 p,.int .i64 q] 166)).cell? ((⟨w.drew.heap.size,0,none⟩:Addr).add j)=some u:=World.news_of_block (heap_alloc_new _ _);have h:w.drew.heap.size<=(w.drew.alloc (.cells #[.int .i64 a,.int .i64 ae,.int .i64 b,.int .i64 be,.int .i64 p,.int .i64 q] 166)).heap.size:=d.size;have b1:B<=(w.drew.alloc (.cells #[.int .i64 a,.int .i64 ae,.int .i64 b,.int .i64 be,.int .i64 p,.int .i64 q] 166)).heap.size:=Nat.le_trans hB h;have a1:vb<w.drew.heap.size:=a8;have a5:=(d.block vb a1 (fun e=>by cases e)).trans a9;have k:=d.cell_far ⟨vb,i,none⟩ a1 (fun e=>by cases e);have k:=k.trans y4;have c6:(1:Nat)*6=6:=rfl
 go_region_law (first
   |(refine step_append_lies (w.drew.alloc (.cells #[.int .i64 a,.int .i64 ae,.int .i64 b,.int .i64 be,.int .i64 p,.int .i64 q] 166)) (by rfl) _ _ 25 (by rfl) B 166 i0 (.agg #[.int .i64 0,.int .i64 0,.int .i64 0,.int .i64 0,.int .i64 0,.int .i64 0]) 6 48 Tryz.underlying25 hi hz f dp (by rfl) (by decide) _ l.length (cellsOf l) (by rfl) dx ⟨w.drew.heap.size,0,none⟩ 1 1 [Value.int .i64 a,.int .i64 ae,.int .i64 b,.int .i64 be,.int .i64 p,.int .i64 q] (by rfl) rfl dy q3 (by decide) q1 q2 b1 _ rfl ?_;intro g c2 W2 a7 a3 hat e5;
     have rx:=(a3.cell_far ⟨vb,i,none⟩ (QkA a1 h) (fun e=>a6 e.symm)).trans k;
     have rf:=frozen_of_row W2 vb i a4 25 ((a3.block vb (QkA a1 h) (fun e=>a6 e.symm)).trans a5)))
 all_goals
  dsimp only [Q6k];have E:=Q44 (w:=w.drew) (row:=[D.int .i64 a,.int .i64 ae,.int .i64 b,.int .i64 be,.int .i64 p,.int .i64 q]) ⟨hN.row,hN.each,hN.outer,hN.apart⟩ hx hl rfl d a7 a3 hat;exact ⟨_,_,_,_,_,_,_,_,_,rfl,E.1,⟨E.2.own,E.2.os,E.2.tape,E.2.output,E.2.size,E.2.block⟩⟩
theorem Q7x {N:Nat} {l0 l1 l2 c:LL} {a ae b be p q:Int} (h:Yx N l0 l1 l2 c a ae b be p q some=some true) {S:Nat->Prop} {w:World} (hS:∀ b,S b->b<w.heap.size) {d f g i:Value}
  (j:Rd S w d (.sl 1 l0)) (k:Rd S w f (.sl 1 l1)) (h2:Rd S w g (.sl 5 l2)) (l:Rd S w i (.sl 6 c)) :
  Calls Tryz.prog 212 #[.agg #[d,f,g,i],.agg #[.int .i64 a,.int .i64 ae,.int .i64 b,.int .i64 be,.int .i64 p,.int .i64 q]] w fun e w'=>e = .returned (.bool true)/\RowKit.Below w.heap.size w w':=by
 have he:(Ta N).E Dl 0 true [.ag ([D.sl 1 l0,.sl 1 l1,.sl 5 l2,.sl 6 c].map .d),.ag ([D.int .i64 a,.int .i64 ae,.int .i64 b,.int .i64 be,.int .i64 p,.int .i64 q].map .d)] (fun _=>none) some=some ⟨.d (.bool true),[],[]⟩:=by
  show gb true (Yx N l0 l1 l2 c a ae b be p q some) false (fun r=>(some ⟨.d (D.bool r),[],[]⟩:Option Dl))=_;rw [h];rfl
 exact Sx (Yv ((Ta N).ok) he) hS (T0 (RdLs.agg (.cons j (.cons k (.cons h2 (.cons l .nil))))) (RdLs.agg (.cons (.int _ _) (.cons (.int _ _) (.cons (.int _ _) (.cons (.int _ _) (.cons (.int _ _) (.cons (.int _ _) .nil))))))))
theorem Q2U {N:Nat} {x:LL} {a ae b be:Int} (h:GY N x a ae b be some=some false) {S:Nat->Prop} {w:World} (hS:∀ b,S b->b<w.heap.size) {v:Value} (hv:Rd S w v (.sl 6 x)) :
  Calls Tryz.prog 215 #[v,.agg #[.int .i64 a,.int .i64 ae],.agg #[.int .i64 b,.int .i64 be]] w fun e w'=>e = .returned (.bool false)/\RowKit.Below w.heap.size w w':=by
 have he:(NG N).E Dl 0 true [.d (.sl 6 x),.ag ([D.int .i64 a,.int .i64 ae].map .d),.ag ([D.int .i64 b,.int .i64 be].map .d)] (fun _=>none) some=some ⟨.d (.bool false),[],[]⟩:=by
  show gb true (GY N x a ae b be some) false (fun r=>(some ⟨.d (D.bool r),[],[]⟩:Option Dl))=_;rw [h];rfl
 exact Sx (Yv ((NG N).ok) he) hS (Qct (.d _ _ hv) (RdLs.agg (.cons (.int _ _) (.cons (.int _ _) .nil))) (RdLs.agg (.cons (.int _ _) (.cons (.int _ _) .nil))))
theorem Q18 {N:Nat} {x:LL} {a ae b be p q:Int} (h:Gc N a ae b be p q x some=some true) {S:Nat->Prop} {w:World} (hS:∀ b,S b->b<w.heap.size) {v:Value} (hv:Rd S w v (.sl 6 x)) :
  Calls Tryz.prog 216 #[.agg #[.int .i64 a,.int .i64 ae,.int .i64 b,.int .i64 be,.int .i64 p,.int .i64 q],v] w fun e w'=>e = .returned (.bool true)/\RowKit.Below w.heap.size w w':=by
 have he:(Ee N).E Dl 0 true [.ag ([D.int .i64 a,.int .i64 ae,.int .i64 b,.int .i64 be,.int .i64 p,.int .i64 q].map .d),.d (.sl 6 x)] (fun _=>none) some=some ⟨.d (.bool true),[],[]⟩:=by
  show gb true (Gc N a ae b be p q x some) false (fun r=>(some ⟨.d (D.bool r),[],[]⟩:Option Dl))=_;rw [h];rfl
 exact Sx (Yv ((Ee N).ok) he) hS (T0 (RdLs.agg (.cons (.int _ _) (.cons (.int _ _) (.cons (.int _ _) (.cons (.int _ _) (.cons (.int _ _) (.cons (.int _ _) .nil))))))) (.d _ _ hv))
theorem Q26 {N:Nat} {l0 l1 l2 d:LL} {st:List LL} {l:LL} {j:Nat} (hj:j<l.length) (h:Hh N l0 l1 l2 d st (l.drop j)=true) :
  ∃ a ae b be p q x y,l[j]? = some [D.int .i64 a,.int .i64 ae,.int .i64 b,.int .i64 be,.int .i64 p,.int .i64 q]/\((0<=a/\a<l2.length)/\(0<=ae/\ae<=1)/\(0<=b/\b<l2.length)/\(0<=be/\be<=1)) /\
   Yx N l0 l1 l2 d a ae b be p q some=some true/\(2*a+ae).toNat≠(2*b+be).toNat/\st[(2*a+ae).toNat]? = some x/\st[(2*b+be).toNat]? = some y /\
   GY N x a ae b be some=some false/\Gc N a ae b be p q x some=some true/\Gc N a ae b be p q y some=some true/\x.length<=1/\y.length<=1 /\
   Hh N l0 l1 l2 d ((st.set (2*a+ae).toNat (x++[[D.int .i64 a,.int .i64 ae,.int .i64 b,.int .i64 be,.int .i64 p,.int .i64 q]])).set (2*b+be).toNat (y++[[D.int .i64 a,.int .i64 ae,.int .i64 b,.int .i64 be,.int .i64 p,.int .i64 q]])) (l.drop (j+1))=true:=by
 rw [List.drop_eq_getElem_cons hj] at h;unfold Hh at h;split at h
 ·rename_i a ae b be p q e;simp only [Qkw,Bool.not_eq_true',decide_eq_true_eq] at h;obtain ⟨⟨⟨g1,f⟩,g⟩,c⟩:=h;split at c
  ·rename_i x y hx hy;simp only [Qkw] at c;obtain ⟨⟨⟨⟨⟨k1,i⟩,k⟩,m⟩,n⟩,o⟩:=c;refine ⟨a,ae,b,be,p,q,x,y,by rw [QkH hj,e],?_,M6 f,?_,hx,hy,Q9i k1,M6 i,M6 k,QkB m,QkB n,by rw [<- e];exact o⟩
   ·obtain ⟨⟨⟨⟨⟨⟨⟨r,s⟩,t⟩,u⟩,v⟩,z⟩,z7⟩,z8⟩:=g1;exact ⟨⟨r,s⟩,⟨t,u⟩,⟨v,z⟩,⟨z7,z8⟩⟩
   ·exact Nat.ne_of_beq_eq_false g
  ·cases c
 ·cases h
theorem Q7I {w a:World} {B N vb:Nat} (h:a.ownsRow B 25 1 (.slice (some ⟨vb,0,none⟩) N N) N (List.replicate N (.slice none 0 0))):NestK 25 166 6 a B (.slice (some ⟨vb,0,none⟩) N N) (List.replicate N (.slice none 0 0)) (List.replicate N []):=by
 refine ⟨by simpa using h,fun i x l hx hl=>?_,fun i x b hx hb=>?_,fun i j x y b hx hy ac al=>?_⟩
 ·have e1:=Qkx hx;have e2:=Qkx hl;obtain ⟨_,rfl⟩:=QkC.1 e1;obtain ⟨_,rfl⟩:=QkC.1 e2;exact World.ownsRow_nil a B 166 6
 ·obtain ⟨_,rfl⟩:=QkC.1 (Qkx hx);cases hb
 ·obtain ⟨_,rfl⟩:=QkC.1 (Qkx hx);cases ac
theorem Q9g {w:World} {B i:Nat} {v:Value} {hd:List Value} {ll:List LL} {l:LL} (h:NestK 25 166 6 w B v hd ll) (hl:ll[i]? = some l):∃ (ad:Option Addr) (cap:Nat),hd[i]? = some (.slice ad l.length cap):=by
 have hi:i<hd.length:=by rw [h.len];exact (Qkv.1 hl).1
 have hx:=QkH hi;rcases (h.each i hd[i] l hx hl).2 with ⟨e,a⟩ | ⟨g,cap,aj,e,_⟩
 ·exact ⟨none,0,by rw [hx,e,a]⟩
 ·exact ⟨some ⟨g,0,none⟩,cap,by rw [hx,e]⟩
theorem Q5Q {w:World} {B i:Nat} {v x:Value} {hd:List Value} {ll:List LL} {l:LL} (h:NestK 25 166 6 w B v hd ll) (hx:hd[i]? = some x) (hl:ll[i]? = some l) (ac:∀ l∈ll,∀ r∈l,DT 6 r=true) :
  (∀ b,x.ownBlock=some b->b<w.drew.heap.size)/\Rd (fun b=>x.ownBlock=some b) w.drew x (.sl 6 l):=
 ⟨fun b hb=>(h.blk hx hb).2,Rd.mono (w:=w) (w':=w.drew) (fun _ h=>h) (fun _ _=>rfl) (Qfp (w:=w) (h.each i x l hx hl) (ac l (Qkx hl)) (fun _ h=>h))⟩
theorem BU {w:World} {B vb N i:Nat} {x:Value} {hd:List Value} {ll:List LL} (h:NestK 25 166 6 w B (.slice (some ⟨vb,0,none⟩) N N) hd ll) (hx:hd[i]? = some x):w.cell? ⟨vb,i,none⟩=some x:=by
 have:=h.row.cells (g:=vb) rfl i _ hx;rwa [HD,QkN] at this
theorem Q8c {ll:List LL} {i:Nat} {x:LL} {row:List D} (h:∀ l∈ll,∀ r∈l,DT 6 r=true) (hx:ll[i]? = some x) (hr:DT 6 row=true):∀ l∈ll.set i (x++[row]),∀ r∈l,DT 6 r=true:=by
 intro l hl r ac;rcases List.mem_or_eq_of_mem_set hl with a | rfl
 ·exact h l a r ac
 ·rcases List.mem_append.1 ac with a | a
  ·exact h x (Qkx hx) r a
  ·simp at a;subst a;exact hr
theorem Q0P {w0 w w':World} {n vb:Nat} {x x':Value} (h:Below n w0 w) (hg:Grew w w' vb x x') (hn:n<=w.heap.size) (hv:n<=vb) (hx:∀ c,x.ownBlock=some c->n<=c):Below n w0 w':=
 ⟨hg.os.trans h.os,hg.tape.trans h.tape,hg.output.trans h.output,Nat.le_trans h.size hg.size,fun k hk=>(hg.block k Zzq Zzq (fun e=>by have:=hx k e;omega)).trans (h.block k hk)⟩
theorem Qa7 {a ae b be:Int} (h:¬ (a=b/\ae=be)) (w:World):(binOp .eql 288 (.agg #[.int .i64 a,.int .i64 ae]) (.agg #[.int .i64 b,.int .i64 be])).run Tryz.prog w = .ok (.bool false) w:=by
 go_simp
 exact fun e1 e2=>h ⟨e1,e2⟩
set_option maxHeartbeats 16000000 in
set_option maxRecDepth 100000 in
theorem Tryz.links_calls {N:Nat} (S:Nat->Prop) (w:World) (hS:∀ b,S b->b<w.heap.size) (l0 l1 l2 f:LL) (v0 v1 v2 v3:Value) (h0:Rd S w v0 (.sl 1 l0)) (h1:Rd S w v1 (.sl 1 l1)) (h2:Rd S w v2 (.sl 5 l2)) (h3:Rd S w v3 (.sl 6 f))
  (m2:l2.length<=96) (m3:f.length<=192) (c3:Hh N l0 l1 l2 f (List.replicate (2*l2.length) []) f=true) :
  Calls Tryz.prog 177 #[.agg #[v0,v1,v2,v3]] w fun e w'=>e = .returned (.int .i64 0)/\Below w.heap.size w w':=by
 obtain ⟨z,aa,rfl⟩:=Hr h0;obtain ⟨ab,ac,rfl⟩:=Hr h1;obtain ⟨t,u,rfl⟩:=Hr h2;obtain ⟨ad,v,rfl⟩:=Hr h3;obtain ⟨i0,hi,cg⟩:=QkK.1 (show (Tryz.prog.info? 25).map (fun i=>(i.zero,i.size,i.bytes))=some (some (.slice none 0 0),1,24) by kernel_rfl);obtain ⟨hz,av⟩:=Prod.mk.inj cg;obtain ⟨av,ch⟩:=Prod.mk.inj av;have db:∀ w:World,∃ w',(Instr.makeSlice 285 (.int .i64 (2*(l2.length:Int))) (.int .i64 (2*(l2.length:Int)))).run Tryz.prog w = .ok (.slice (some ⟨w.heap.size,0,none⟩) (2*l2.length) (2*l2.length)) w' /\
   w'.ownsRow w.heap.size 25 1 (.slice (some ⟨w.heap.size,0,none⟩) (2*l2.length) (2*l2.length)) (2*l2.length) (List.replicate (2*l2.length) (.slice none 0 0))/\w.grownBy w' none:=by
  intro w;obtain ⟨w',r1,r2,r3⟩:=run_make_full w w.heap.size 285 25 i0 (.slice none 0 0) 1 Tryz.underlying285 hi hz av .i64 .i64 (2*l2.length) (by rw [ch];omega) (by unfold maxLen;omega) (QkM _);refine ⟨w',by rw [<- r1];simp,?_,r3⟩;have e:(madeCells (Value.slice none 0 0).cells (2*l2.length*1)).toList=List.replicate (2*l2.length) (.slice none 0 0):=by
   apply List.ext_getElem
   ·simp [size_madeCells]
   ·intro i h1 h2;simp [madeCells,Value.cells,Nat.mod_one]
  rw [<- e];exact r2
 have fx:wrap64 (2*(l2.length:Int))=2*(l2.length:Int):=by unfold wrap64;omega
 have bk:(w.alloc (.cells #[.slice z l0.length aa,.slice ab l1.length ac,.slice t l2.length u,.slice ad f.length v] 27)).heap[w.heap.size]? = some (.cells #[.slice z l0.length aa,.slice ab l1.length ac,.slice t l2.length u,.slice ad f.length v] 27 (0,0)):=heap_alloc_new w _;have a6:Below w.heap.size w (w.alloc (.cells #[.slice z l0.length aa,.slice ab l1.length ac,.slice t l2.length u,.slice ad f.length v] 27)):=UE (Below.refl _ _) (QkM _) _;have bg:(w.alloc (.cells #[.slice z l0.length aa,.slice ab l1.length ac,.slice t l2.length u,.slice ad f.length v] 27)).heap.size=w.heap.size+1:=by simp
 obtain ⟨w2,b5,bj,aw⟩:=db (w.alloc (.cells #[.slice z l0.length aa,.slice ab l1.length ac,.slice t l2.length u,.slice ad f.length v] 27));have a2:=(aw.block w.heap.size (by simp) (by simp)).trans bk;have az:Below w.heap.size w w2:=⟨aw.os.trans a6.os,aw.tape.trans a6.tape,aw.output.trans a6.output,Nat.le_trans a6.size aw.size,fun b hb=>(aw.block b Zzq (by simp)).trans (a6.block b hb)⟩;have d9:=aw.size;rw [bg] at b5 bj d9;have c2:=Q7I (w:=w) bj;clear db aw bj;have y2:(w.alloc (.cells #[.slice z l0.length aa,.slice ab l1.length ac,.slice t l2.length u,.slice ad f.length v] 27)).cell? ⟨w.heap.size,2,none⟩=some (.slice t l2.length u):=by rw [Qku bk];rfl
 have z3:w2.cell? ⟨w.heap.size,3,none⟩=some (.slice ad f.length v):=by rw [Qku a2];rfl
 go_enter Tryz.func177,Tryz.ntmps177
 go_wp2
 clear b5 bk y2 z3 a6 bg;generalize ed:w.heap.size=H0 at *
 go_loopw [18] (fun i wr=>∃ (j:Nat) (hd:List Value) (ll:List LL),j<=f.length/\i = .int .i64 j/\NestK 25 166 6 wr (H0+1) (.slice (some ⟨H0+1,0,none⟩) (2*l2.length) (2*l2.length)) hd ll/\ll.length=2*l2.length /\
   Hh N l0 l1 l2 f ll (f.drop j)=true/\(∀ l∈ll,∀ r∈l,DT 6 r=true)/\wr.heap[H0]? = some (.cells #[.slice z l0.length aa,.slice ab l1.length ac,.slice t l2.length u,.slice ad f.length v] 27 (0,0))/\Below H0 w wr)
  (fun i _=>f.length-(intOf i).toNat)
 case atStart=>
  refine ⟨0,_,_,Nat.zero_le _,rfl,c2,by simp,by simpa using c3,fun l hl r hr=>?_,a2,az⟩;obtain ⟨_,rfl⟩:=QkC.1 hl;cases hr
 case round=>
  obtain ⟨j,hd,ll,hj,rfl,hN,cx,d4,a4,c7,hF⟩:=hrel;clear c2 c3 a2 az;by_cases d2:j<f.length
  ·have e2:((j:Int)<(f.length:Int)):=by omega
   obtain ⟨a,ae,b,be,p,q,x,y,eb,⟨⟨cn,dk⟩,⟨co,cp⟩,⟨cq,dl⟩,⟨cr,cs⟩⟩,b1,b9,hx,hy,cf,ct,cu,fk,f4,ck⟩:=Q26 d2 d4;have d5:∀ c,c<H0->wr.heap[c]? = w.heap[c]?:=fun c hc=>hF.block c hc
   have gh:∀ c,S c->c<wr.heap.size:=fun c hc=>by have:=hS c hc;have:=hF.size;omega
   have bi:=Rd.keep (w':=wr) h3 hS d5;obtain ⟨a3,rfl,_,_,ar⟩:=Q9I bi eb;obtain ⟨u0,x0,q0⟩:=ar 0 _ rfl;obtain ⟨u1,x1,q1⟩:=ar 1 _ rfl;obtain ⟨fo,x2,q2⟩:=ar 2 _ rfl;obtain ⟨f7,x3,q3⟩:=ar 3 _ rfl;obtain ⟨fz,x4,q4⟩:=ar 4 _ rfl;obtain ⟨fv,x5,q5⟩:=ar 5 _ rfl;rw [RU q0,Nat.add_zero] at x0;rw [RU q1,Tt _ _ _ (by decide)] at x1;rw [RU q2,Tt _ _ _ (by decide)] at x2;rw [RU q3,Tt _ _ _ (by decide)] at x3;rw [RU q4,Tt _ _ _ (by decide)] at x4;rw [RU q5,Tt _ _ _ (by decide)] at x5;clear ar q0 q1 q2 q3 q4 q5 bi;have dq:H0+1<=wr.heap.size:=(QkL.1 c7).1;have ge:H0+1<wr.heap.size:=(hN.row.lt (H0+1) rfl).2;obtain ⟨bm,bn,a8⟩:=Q9g hN hx;obtain ⟨b2,b0,bq⟩:=Q9g hN hy;have a5:∀ c,(Value.slice bm x.length bn).ownBlock=some c->H0+1<=c/\c<wr.heap.size:=fun c hc=>hN.blk a8 hc
   have bh:∀ c,(Value.slice b2 y.length b0).ownBlock=some c->H0+1<=c/\c<wr.heap.size:=fun c hc=>hN.blk bq hc
   have bp:wr.grownBy (wr.alloc (.cells #[.int .i64 a,.int .i64 ae,.int .i64 b,.int .i64 be,.int .i64 p,.int .i64 q] 166)) none:=World.grownBy_alloc wr _ none;have ag:(wr.alloc (.cells #[.int .i64 a,.int .i64 ae,.int .i64 b,.int .i64 be,.int .i64 p,.int .i64 q] 166)).heap[wr.heap.size]? = some (.cells #[.int .i64 a,.int .i64 ae,.int .i64 b,.int .i64 be,.int .i64 p,.int .i64 q] 166 (0,0)):=heap_alloc_new wr _;have de:=GI hN bp;have cm:=UE hF Zzq (.cells #[.int .i64 a,.int .i64 ae,.int .i64 b,.int .i64 be,.int .i64 p,.int .i64 q] 166);have al:=(bp.block H0 Zzq (by simp)).trans c7;have dr:(wr.alloc (.cells #[.int .i64 a,.int .i64 ae,.int .i64 b,.int .i64 be,.int .i64 p,.int .i64 q] 166)).heap.size=wr.heap.size+1:=by simp
   generalize ec:wr.alloc (.cells #[.int .i64 a,.int .i64 ae,.int .i64 b,.int .i64 be,.int .i64 p,.int .i64 q] 166)=W1 at *
   generalize ds:wr.heap.size=d at *
   have an:∀ c,c<H0->W1.heap[c]? = w.heap[c]?:=fun c hc=>cm.block c hc
   have b7:∀ c,S c->c<W1.heap.size:=fun c hc=>by have:=hS c hc;omega
   have k0:=Rd.keep (w':=W1) h0 hS an;have k1:=Rd.keep (w':=W1) h1 hS an;have k2:=Rd.keep (w':=W1) h2 hS an;have k3:=Rd.keep (w':=W1) h3 hS an;have z0:W1.cell? ⟨H0,0,none⟩=some (.slice z l0.length aa):=by rw [Qku al];rfl
   have z1:W1.cell? ⟨H0,1,none⟩=some (.slice ab l1.length ac):=by rw [Qku al];rfl
   have z2:W1.cell? ⟨H0,2,none⟩=some (.slice t l2.length u):=by rw [Qku al];rfl
   have z3:W1.cell? ⟨H0,3,none⟩=some (.slice (some a3) f.length v):=by rw [Qku al];rfl
   have c0:W1.cell? ⟨d,0,none⟩=some (.int .i64 a):=by rw [Qku ag];rfl
   have c1:W1.cell? ⟨d,1,none⟩=some (.int .i64 ae):=by rw [Qku ag];rfl
   have g:W1.cell? ⟨d,2,none⟩=some (.int .i64 b):=by rw [Qku ag];rfl
   have m:W1.cell? ⟨d,3,none⟩=some (.int .i64 be):=by rw [Qku ag];rfl
   have n:W1.cell? ⟨d,4,none⟩=some (.int .i64 p):=by rw [Qku ag];rfl
   have o:W1.cell? ⟨d,5,none⟩=some (.int .i64 q):=by rw [Qku ag];rfl
   go_wp2_with (go_at_call 212;refine (Q7x b1 b7 k0 k1 k2 k3).mono ?_)
   rintro e W2 ⟨rfl,az⟩;have ah:=(az.block d Zzq).trans ag;have bt:=(az.block H0 Zzq).trans al;have c5:=GI de (WC az);have dj:=VG cm Zzq az;have dt:=az.size;clear c0 c1 g m n o z0 z1 z2 z3 k0 k1 k2 k3 an b7 ag al de cm;have c0:W2.cell? ⟨d,0,none⟩=some (.int .i64 a):=by rw [Qku ah];rfl
   have c1:W2.cell? ⟨d,1,none⟩=some (.int .i64 ae):=by rw [Qku ah];rfl
   have g:W2.cell? ⟨d,2,none⟩=some (.int .i64 b):=by rw [Qku ah];rfl
   have m:W2.cell? ⟨d,3,none⟩=some (.int .i64 be):=by rw [Qku ah];rfl
   have n:W2.cell? ⟨d,4,none⟩=some (.int .i64 p):=by rw [Qku ah];rfl
   have o:W2.cell? ⟨d,5,none⟩=some (.int .i64 q):=by rw [Qku ah];rfl
   go_wp2_with (go_at_call 213;refine (Tryz.ends_calls W2 a ae b be p q).mono ?_)
   rintro e W3 ⟨rfl,bc⟩
   go_wp2
   clear c0 c1 g m n o;have du:=bc.size;have ao:W3.grownBy ((W3.alloc (.cells #[.int .i64 a,.int .i64 ae] 288)).alloc (.cells #[.int .i64 b,.int .i64 be] 288)) none:=⟨rfl,rfl,rfl,by simp;omega,fun k hk _=>by rw [QkI _ _ _ (by simp;omega),QkI _ _ _ hk]⟩;have cz:=UE (UE (VG dj Zzq bc) Zzq (.cells #[.int .i64 a,.int .i64 ae] 288)) Zzq (.cells #[.int .i64 b,.int .i64 be] 288);have bu:=(ao.block d Zzq (by simp)).trans ((bc.block d Zzq).trans ah);have bv:=(ao.block H0 Zzq (by simp)).trans ((bc.block H0 Zzq).trans bt);have c4:=GI (GI c5 (WC bc)) ao;have ap:((W3.alloc (.cells #[.int .i64 a,.int .i64 ae] 288)).alloc (.cells #[.int .i64 b,.int .i64 be] 288)).heap[W3.heap.size]? = some (.cells #[.int .i64 a,.int .i64 ae] 288 (0,0)):=by
    rw [QkI _ _ _ (by simp)];exact heap_alloc_new _ _
   have aq:((W3.alloc (.cells #[.int .i64 a,.int .i64 ae] 288)).alloc (.cells #[.int .i64 b,.int .i64 be] 288)).heap[W3.heap.size+1]? = some (.cells #[.int .i64 b,.int .i64 be] 288 (0,0)):=by
    have:=heap_alloc_new (W3.alloc (.cells #[.int .i64 a,.int .i64 ae] 288)) (.cells #[.int .i64 b,.int .i64 be] 288);simpa using this
   have dw:((W3.alloc (.cells #[.int .i64 a,.int .i64 ae] 288)).alloc (.cells #[.int .i64 b,.int .i64 be] 288)).heap.size=W3.heap.size+2:=by simp
   clear ao ah bt c5 dj;generalize d6:(W3.alloc (.cells #[.int .i64 a,.int .i64 ae] 288)).alloc (.cells #[.int .i64 b,.int .i64 be] 288)=W4 at *
   generalize eq:W3.heap.size=s at *
   have e5:d<W2.heap.size:=by omega
   clear d6 ec;have c0:W4.cell? ⟨s,0,none⟩=some (.int .i64 a):=by rw [Qku ap];rfl
   have c1:W4.cell? ⟨s,1,none⟩=some (.int .i64 ae):=by rw [Qku ap];rfl
   have d0:W4.cell? ⟨s+1,0,none⟩=some (.int .i64 b):=by rw [Qku aq];rfl
   have d1:W4.cell? ⟨s+1,1,none⟩=some (.int .i64 be):=by rw [Qku aq];rfl
   refine Code.wp_mono ?_ (Tryz.links_r8 _ _ _ _ _ _ _ _ _ _ _ _ _ _ _ _ _ _ _ _ _ _ _ _ _ _ _ _ _ _ _ _ _ _ _ _ _ _ _ _ _ _ _ _ _ _ _ _ _ _ _ _ _ _ _ _ _ _ _ _ _ _ _ _ _ _ _ _ _ _ _ _ _ _ _ _ _ (H0+1) (2*l2.length) s (s+1) a ae b be W4 c0 c1 d0 d1 cn Zzq co cp cq Zzq cr cs Zzq Zzq);clear c0 c1 d0 d1;rintro e act W5 h;cases e with
   |normal=>
    obtain ⟨_,_,_,_,_,_,_,_,rfl,a1⟩:=h;have fb:=a1.size;have cw:=VG cz Zzq a1;have bx:=(a1.block d Zzq).trans bu;have bz:=(a1.block H0 Zzq).trans bv;have bl:=GI c4 (WC a1);have ax:=(a1.block s Zzq).trans ap;have ay:=(a1.block (s+1) Zzq).trans aq;clear cz bu bv c4 ap aq a1;have et:=Qa7 (a:=a) (ae:=ae) (b:=b) (be:=be) (fun h=>b9 (by rw [h.1,h.2]));generalize fj:(2*a+ae).toNat=ia at *
    generalize f1:(2*b+be).toNat=ib at *
    have c0:W5.cell? ⟨s,0,none⟩=some (.int .i64 a):=by rw [Qku ax];rfl
    have c1:W5.cell? ⟨s,1,none⟩=some (.int .i64 ae):=by rw [Qku ax];rfl
    have d0:W5.cell? ⟨s+1,0,none⟩=some (.int .i64 b):=by rw [Qku ay];rfl
    have d1:W5.cell? ⟨s+1,1,none⟩=some (.int .i64 be):=by rw [Qku ay];rfl
    dsimp only [Exit.then]
    go_wp2
    have jx:=Q5Q bl a8 hx a4;have au:=BU bl a8;refine Code.wp_mono ?_ (Tryz.links_r11 _ _ _ _ _ _ _ _ _ _ _ _ _ _ _ _ _ _ _ _ _ _ _ _ _ _ _ _ _ _ _ _ _ _ _ _ _ _ _ _ _ _ _ _ _ _ _ _ _ _ _ _ _ _ _ _ _ _ _ _ _ _ _ _ _ _ _ _ _ _ _ _ _ _ _ _ _ (H0+1) ia s (s+1) x.length bn bm a ae b be W5 c0 c1 d0 d1 au (Q2U cf jx.1 jx.2));clear c0 c1 d0 d1 jx au;rintro e act W6 h;cases e with
    |normal=>
     obtain ⟨_,_,_,_,_,_,rfl,a7⟩:=h;have dx:=a7.size;have dc:=VG cw Zzq a7;have ai:=(a7.block d Zzq).trans bx;have ca:=(a7.block H0 Zzq).trans bz;have bo:=GI bl (WC a7);clear cw bx bz bl ax ay a7;dsimp only [Exit.then]
     go_wp2
     have c0:W6.cell? ⟨d,0,none⟩=some (.int .i64 a):=by rw [Qku ai];rfl
     have c1:W6.cell? ⟨d,1,none⟩=some (.int .i64 ae):=by rw [Qku ai];rfl
     have g:W6.cell? ⟨d,2,none⟩=some (.int .i64 b):=by rw [Qku ai];rfl
     have m:W6.cell? ⟨d,3,none⟩=some (.int .i64 be):=by rw [Qku ai];rfl
     have n:W6.cell? ⟨d,4,none⟩=some (.int .i64 p):=by rw [Qku ai];rfl
     have o:W6.cell? ⟨d,5,none⟩=some (.int .i64 q):=by rw [Qku ai];rfl
     have jx:=Q5Q bo a8 hx a4;have au:=BU bo a8;refine Code.wp_mono ?_ (Tryz.links_r13 _ _ _ _ _ _ _ _ _ _ _ _ _ _ _ _ _ _ _ _ _ _ _ _ _ _ _ _ _ _ _ _ _ _ _ _ _ _ _ _ _ _ _ _ _ _ _ _ _ _ _ _ _ _ _ _ _ _ _ _ _ _ _ _ _ _ _ _ _ _ _ _ _ _ _ _ _ _ (H0+1) ia d x.length bn bm a ae b be p q W6 c0 c1 g m n o au (Q18 ct jx.1 jx.2));clear c0 c1 g m n o jx au;rintro e act W7 h;cases e with
     |normal=>
      obtain ⟨_,_,_,_,_,_,rfl,ba⟩:=h;have dy:=ba.size;have cy:=VG dc Zzq ba;have aj:=(ba.block d Zzq).trans ai;have cb:=(ba.block H0 Zzq).trans ca;have br:=GI bo (WC ba);clear dc ai ca bo ba;dsimp only [Exit.then]
      go_wp2
      have c0:W7.cell? ⟨d,0,none⟩=some (.int .i64 a):=by rw [Qku aj];rfl
      have c1:W7.cell? ⟨d,1,none⟩=some (.int .i64 ae):=by rw [Qku aj];rfl
      have g:W7.cell? ⟨d,2,none⟩=some (.int .i64 b):=by rw [Qku aj];rfl
      have m:W7.cell? ⟨d,3,none⟩=some (.int .i64 be):=by rw [Qku aj];rfl
      have n:W7.cell? ⟨d,4,none⟩=some (.int .i64 p):=by rw [Qku aj];rfl
      have o:W7.cell? ⟨d,5,none⟩=some (.int .i64 q):=by rw [Qku aj];rfl
      have jx:=Q5Q br bq hy a4;have au:=BU br bq;refine Code.wp_mono ?_ (Tryz.links_r14 _ _ _ _ _ _ _ _ _ _ _ _ _ _ _ _ _ _ _ _ _ _ _ _ _ _ _ _ _ _ _ _ _ _ _ _ _ _ _ _ _ _ _ _ _ _ _ _ _ _ _ _ _ _ _ _ _ _ _ _ _ _ _ _ _ _ _ _ _ _ _ _ _ _ _ _ _ _ (H0+1) ib d y.length b0 b2 a ae b be p q W7 c0 c1 g m n o au (Q18 cu jx.1 jx.2));clear c0 c1 g m n o jx au;rintro e act W8 h;cases e with
      |normal=>
       obtain ⟨_,_,_,_,_,_,rfl,a9⟩:=h;have dz:=a9.size;have c6:=VG cy Zzq a9;have ak:=(a9.block d Zzq).trans aj;have cc:=(a9.block H0 Zzq).trans cb;have dd:=GI br (WC a9);clear cy aj cb br a9;dsimp only [Exit.then]
       go_wp2
       have c0:W8.cell? ⟨d,0,none⟩=some (.int .i64 a):=by rw [Qku ak];rfl
       have c1:W8.cell? ⟨d,1,none⟩=some (.int .i64 ae):=by rw [Qku ak];rfl
       have g:W8.cell? ⟨d,2,none⟩=some (.int .i64 b):=by rw [Qku ak];rfl
       have m:W8.cell? ⟨d,3,none⟩=some (.int .i64 be):=by rw [Qku ak];rfl
       have n:W8.cell? ⟨d,4,none⟩=some (.int .i64 p):=by rw [Qku ak];rfl
       have o:W8.cell? ⟨d,5,none⟩=some (.int .i64 q):=by rw [Qku ak];rfl
       refine Code.wp_mono ?_ (Tryz.links_r16 _ _ _ _ _ _ _ _ _ _ _ _ _ _ _ _ _ _ _ _ _ _ _ _ _ _ _ _ _ _ _ _ _ _ _ _ _ _ _ _ _ _ _ _ _ _ _ _ _ _ _ _ _ _ _ _ _ _ _ _ _ _ _ _ _ _ _ _ _ _ _ _ _ _ _ _ _ _ (H0+1) (H0+1) (2*l2.length) ia d bn bm a ae b be p q hd ll x W8 c0 c1 g m n o dd a8 hx Zzq Zzq Zzq (fun e=>by have:=(a5 d e).2;omega));clear c0 c1 g m n o;rintro e act W9 h;cases e with
       |normal=>
        obtain ⟨_,_,_,_,_,_,_,_,xx,rfl,ef,bd⟩:=h;have ea:=bd.size;have ee:=Q0P c6 bd Zzq Zzq (fun c hc=>by have:=(a5 c hc).1;omega);have am:=(bd.block d Zzq Zzq (fun e=>by have:=(a5 d e).2;omega)).trans ak;have df:=(bd.block H0 Zzq Zzq (fun e=>by have:=(a5 H0 e).1;omega)).trans cc;clear c6 ak cc dd bd;have dg:(hd.set ia xx)[ib]? = some (.slice b2 y.length b0):=by rw [QkO,if_neg b9];exact bq
        have ce:(ll.set ia (x++[[D.int .i64 a,.int .i64 ae,.int .i64 b,.int .i64 be,.int .i64 p,.int .i64 q]]))[ib]? = some y:=by rw [QkO,if_neg b9];exact hy
        dsimp only [Exit.then]
        go_wp2
        have c0:W9.cell? ⟨d,0,none⟩=some (.int .i64 a):=by rw [Qku am];rfl
        have c1:W9.cell? ⟨d,1,none⟩=some (.int .i64 ae):=by rw [Qku am];rfl
        have g:W9.cell? ⟨d,2,none⟩=some (.int .i64 b):=by rw [Qku am];rfl
        have m:W9.cell? ⟨d,3,none⟩=some (.int .i64 be):=by rw [Qku am];rfl
        have n:W9.cell? ⟨d,4,none⟩=some (.int .i64 p):=by rw [Qku am];rfl
        have o:W9.cell? ⟨d,5,none⟩=some (.int .i64 q):=by rw [Qku am];rfl
        refine Code.wp_mono ?_ (Tryz.links_r17 _ _ _ _ _ _ _ _ _ _ _ _ _ _ _ _ _ _ _ _ _ _ _ _ _ _ _ _ _ _ _ _ _ _ _ _ _ _ _ _ _ _ _ _ _ _ _ _ _ _ _ _ _ _ _ _ _ _ _ _ _ _ _ _ _ _ _ _ _ _ _ _ _ _ _ _ _ _ (H0+1) (H0+1) (2*l2.length) ib d b0 b2 a ae b be p q _ _ y W9 c0 c1 g m n o ef dg ce Zzq Zzq Zzq (fun e=>by have:=(bh d e).2;omega));clear c0 c1 g m n o;rintro e act W10 h;cases e with
        |normal=>
         obtain ⟨_,_,_,_,_,_,_,_,yy,rfl,c9,b8⟩:=h;have da:=Q0P ee b8 Zzq Zzq (fun c hc=>by have:=(bh c hc).1;omega);have dh:=(b8.block H0 Zzq Zzq (fun e=>by have:=(bh H0 e).1;omega)).trans df;have b3:=Q8c (Q8c a4 hx (by rfl)) ce (row:=[D.int .i64 a,.int .i64 ae,.int .i64 b,.int .i64 be,.int .i64 p,.int .i64 q]) (by rfl)
         go_wp2
         refine ⟨⟨j+1,_,_,by omega,by rw [Int.natCast_add];rfl,c9,by simpa using cx,ck,b3,dh,da⟩,?_⟩;simp only [intOf];omega
        |_=>exact h.elim
       |_=>exact h.elim
      |_=>exact h.elim
     |_=>exact h.elim
    |_=>exact h.elim
   |_=>exact h.elim
  ·go_wp2
   refine bodyPost_ret (results_tmp rfl _ _ _) rfl ?_;rw [<- ed] at hF;exact ⟨rfl,hF⟩

theorem QhX {S:Nat->Prop} {w:World} {xs:List D}:∀ {vs:List Value},vs.length=xs.length->(∀ (i:Nat) (v:Value) (x:D),vs[i]? = some v->xs[i]? = some x->Rd S w v x)->RdLs S w vs xs:=by
 induction xs with
 |nil=>intro vs h _;have:vs=[]:=List.eq_nil_of_length_eq_zero h;subst this;exact .nil
 |cons x xs ih=>
  intro vs h hr
  match vs,h with
  |v::vs,h=>exact .cons (hr 0 v x rfl rfl) (ih (by simpa using h) fun i u y a h2=>hr (i+1) u y (by simpa using a) (by simpa using h2))
theorem Q4N {β:Nat->Option Nat} {S:Nat->Prop} {h:Nat->Option Ob} {w:World} {tm:Nat->Value} {v:Value} {xs:List D} (hv:RdA β S h w tm v (.ag (xs.map .d))):∃ vs:List Value,v = .agg vs.toArray/\RdLs S w vs xs:=by
 cases hv with
 |ag cs l hl hr=>
  obtain ⟨vs⟩:=cs;refine ⟨vs,rfl,QhX (by simpa using hl) fun i u x a h2=>?_⟩;have:=hr i (.d x) (by simp [h2]);simp [Array.getD,(Qkv.1 a).1] at this;rw [(Qkv.1 a).2] at this;cases this with
  |d _ _ q=>exact q
  |dang _ _ _ hl=>cases hl
 |dang v av l hl=>cases hl
theorem Qax {β:Nat->Option Nat} {S:Nat->Prop} {h:Nat->Option Ob} {w:World} {args:List Value} {a:AV} (hA:ArgsRd β S h w args [a]):∃ v,args=[v]/\RdA β S h w tm0 v a:=Q7D hA
theorem QaB {β:Nat->Option Nat} {S:Nat->Prop} {h:Nat->Option Ob} {w:World} {args:List Value} {a b:AV} (hA:ArgsRd β S h w args [a,b]):∃ v u,args=[v,u]/\RdA β S h w tm0 v a/\RdA β S h w tm0 u b:=by
 obtain ⟨c,h2⟩:=hA
 match args,c with
 |[v,u],_=>exact ⟨v,u,rfl,h2 0 v a rfl rfl,h2 1 u b rfl rfl⟩
theorem Q2x (n:Nat) (l0 l1 l2 a:LL) (res:Int) {hl:Nat->Option Ob} (h:ZN n l0 l1 l2 a some=some res):Wn Tryz.prog 126 [.ag [.d (D.sl 1 l0),.d (D.sl 1 l1),.d (D.sl 5 l2),.d (D.sl 6 a)]] hl ⟨.d (D.int .i64 res),[],[]⟩:=by
 obtain ⟨aj,h⟩:=Qz h;injection h with h
 subst h;refine Ln (fn:=Tryz.f126) (by kernel_rfl) (by kernel_rfl) (by kernel_rfl) rfl rfl fun S w args hS hA=>?_
 obtain ⟨v,rfl,hv⟩:=Qax hA;obtain ⟨vs,rfl,hr⟩:=Q4N (xs:=[D.sl 1 l0,.sl 1 l1,.sl 5 l2,.sl 6 a]) hv;cases hr with
 |cons c t=>
  cases t with
  |cons d t=>
   cases t with
   |cons h2 t=>
    cases t with
    |cons f t=>
     cases t;have ac:=aj;simp only [P2,Qkw,Bool.not_eq_true'] at ac;obtain ⟨⟨⟨⟨⟨⟨⟨⟨l,m⟩,g⟩,i⟩,o⟩,p⟩,q⟩,ns⟩,nl⟩:=ac;refine (Tryz.layout_calls S w hS l0 l1 l2 a _ _ _ _ c d h2 f aj fun w' ak k0 k1 j k=>Tryz.links_calls S w' ak l0 l1 l2 a _ _ _ _ k0 k1 j k (QkB g) (QkB i) nl).mono fun e w' ⟨he,hB⟩=>?_
     exact ⟨_,S,he,fun b h=>h,fun b h=>.inl h,fun b h=>QkA (hS b h) hB.size,.d _ _ (.int _ _),hB⟩

end Go.Vx
namespace Go.Proofs
open Go.RowKit
theorem Q0n {P:Program} {w:World} (a:Addr) (m:Mode) (f:Fn) (x y:Array Value):(store a (.func f x y) m).run P w=stored P w a (.func f x y) m:=run_store P w a _ m rfl
attribute [local go_sem] Q0n
def Hg (r:Nat->Int):Nat->Nat->Int
 |0,_=>0
 |n+1,k=>if r k=0 then Hg r n (k+1) else r k
theorem SX (r:Nat->Int):∀ (n k m:Nat),(∀ j,k<=j->j<k+m->r j=0)->Hg r (m+n) k=Hg r n (k+m)
 |n,k,0,_=>by simp
 |n,k,m+1,h=>by
  rw [show m+1+n=(m+n)+1 by omega];simp only [Hg];rw [if_pos (h k (QkM _) Zzq),SX r n (k+1) m (fun j a h2=>h j Zzq Zzq)];rw [show k+1+m=k+(m+1) by omega]
theorem Below.of {n:Nat} {w w':World} (a:w'.os=w.os) (h2:w'.tape=w.tape) (c:w'.output=w.output) (d:w.heap.size<=w'.heap.size) (e:∀ b,b<n->w'.heap[b]? = w.heap[b]?):Below n w w':=by
 exact ⟨a,h2,c,d,e⟩
set_option maxHeartbeats 4000000 in
set_option maxRecDepth 100000 in
theorem Tryz.plancheck_calls (w:World) (a0 a1 a2 d p0 p1 g l m n o p:Value) (r:Nat->Int)
  (h:∀ k:Nat,k<8->∀ w':World,w.heap.size<=w'.heap.size->(∀ b,b<w.heap.size->w'.heap[b]? = w.heap[b]?) ->
   Calls Tryz.prog (86+k) #[.agg #[a0,a1,a2,d],.agg #[p0,p1,g,l,m,n,o,p]] w' fun e au=>e = .returned (.int .i64 (r k))/\Below w'.heap.size w' au)
  (c:∀ x∈[a0,a1,a2,d,p0,p1,g,l,m,n,o,p],x.oneCell'=true) :
  Calls Tryz.prog 55 #[.agg #[a0,a1,a2,d],.agg #[p0,p1,g,l,m,n,o,p]] w fun e w'=>e = .returned (.int .i64 (Hg r 8 0))/\Below w.heap.size w w':=by
 go_enter Tryz.func55,Tryz.ntmps55
 go_wp2
 go_loopw [11] (fun i wr=>∃ k:Nat,k<=8/\i = .int .i64 k/\(∀ j,j<k->r j=0)/\wr.heap[w.heap.size]? = some (.cells #[a0,a1,a2,d] 27 (0,0))/\wr.heap[w.heap.size+1]? = some (.cells #[p0,p1,g,l,m,n,o,p] 36 (0,0))/\Below w.heap.size w wr)
  (fun i _=>8-(intOf i).toNat)
 case atStart=>
  refine ⟨0,by omega,rfl,fun j hj=>absurd hj Zzq,?_,?_,?_⟩
  ·rw [QkI _ _ _ (by simp;omega),QkI _ _ _ (by simp)];exact heap_alloc_new w _
  ·rw [QkI _ _ _ (by simp),show w.heap.size+1=(w.alloc (.cells #[a0,a1,a2,d] 27)).heap.size by simp];exact heap_alloc_new _ _
  ·refine Below.of rfl rfl rfl (by simp;omega) fun b hb=>?_
   rw [QkI _ _ _ (by simp;omega),QkI _ _ _ (by simp;omega),QkI _ _ _ hb]
 case round=>
  obtain ⟨k,hk,rfl,hz,f,a,hB⟩:=hrel;by_cases an:k<8
  ·have ax:((k:Int)<8):=by omega
   have c0:wr.cell? ⟨w.heap.size,0,none⟩=some a0:=by rw [Qku f];rfl
   have c1:wr.cell? ⟨w.heap.size,1,none⟩=some a1:=by rw [Qku f];rfl
   have s:wr.cell? ⟨w.heap.size,2,none⟩=some a2:=by rw [Qku f];rfl
   have t:wr.cell? ⟨w.heap.size,3,none⟩=some d:=by rw [Qku f];rfl
   have d0:wr.cell? ⟨w.heap.size+1,0,none⟩=some p0:=by rw [Qku a];rfl
   have d1:wr.cell? ⟨w.heap.size+1,1,none⟩=some p1:=by rw [Qku a];rfl
   have u:wr.cell? ⟨w.heap.size+1,2,none⟩=some g:=by rw [Qku a];rfl
   have v:wr.cell? ⟨w.heap.size+1,3,none⟩=some l:=by rw [Qku a];rfl
   have y:wr.cell? ⟨w.heap.size+1,4,none⟩=some m:=by rw [Qku a];rfl
   have z:wr.cell? ⟨w.heap.size+1,5,none⟩=some n:=by rw [Qku a];rfl
   have d6:wr.cell? ⟨w.heap.size+1,6,none⟩=some o:=by rw [Qku a];rfl
   have d7:wr.cell? ⟨w.heap.size+1,7,none⟩=some p:=by rw [Qku a];rfl
   have hw:wrap64 ((k:Int)+1)=((k+1:Nat):Int):=by unfold wrap64;omega
   have aw:∀ w:World,(Instr.index 195 (.agg #[.func (.func 86) #[] #[],.func (.func 87) #[] #[],.func (.func 88) #[] #[],.func (.func 89) #[] #[],.func (.func 90) #[] #[],.func (.func 91) #[] #[],.func (.func 92) #[] #[],.func (.func 93) #[] #[]]) (.int .i64 k)).run Tryz.prog w = .ok (.func (.func (86+k)) #[] #[]) w:=by
    intro w;obtain rfl | rfl | rfl | rfl | rfl | rfl | rfl | rfl:k=0\/k=1\/k=2\/k=3\/k=4\/k=5\/k=6\/k=7:=by omega
    all_goals rfl
   have ay:∀ (w:World) (ar:Array Value),(callFunc (86+k) ar).run Tryz.prog w = .ok (.enter (86+k) ar) w:=by
    intro w ar;obtain rfl | rfl | rfl | rfl | rfl | rfl | rfl | rfl:k=0\/k=1\/k=2\/k=3\/k=4\/k=5\/k=6\/k=7:=by omega
    all_goals rfl
   have hc:=h k an wr hB.size hB.block;clear hw
   go_wp2
   refine hc.mono ?_;rintro e q ⟨rfl,ac⟩;have al:Below w.heap.size w q:=hB.trans ⟨ac.os,ac.tape,ac.output,ac.size,fun b hb=>ac.block b (QkA hb hB.size)⟩;have l0:=(QkL.1 f).1;have l1:=(QkL.1 a).1;by_cases hr:r k=0
   ·rw [hr]
    go_wp2
    go_roundw
    case rel=>
     refine ⟨k+1,by omega,rfl,fun j hj=>?_,(ac.block _ l0).trans f,(ac.block _ l1).trans a,al⟩;by_cases e:j=k
     ·rw [e];exact hr
     ·exact hz j Zzq
    case measure=>simp [intOf];omega
   ·have aj:Hg r 8 0=r k:=by
     have e:=SX r (8-k) 0 k fun j _ h2=>hz j Zzq
     rw [show k+(8-k)=8 by omega] at e;rw [e,show 8-k=(7-k)+1 by omega,QkN];simp [Hg,hr]
    go_wp2
    refine bodyPost_ret (results_tmp rfl _ _ _) rfl ?_;exact ⟨by rw [aj];rfl,al⟩
  ·have aj:Hg r 8 0=0:=by
    have e:=SX r 0 0 8 fun j _ h2=>hz j Zzq
    exact e
   go_wp2
   refine bodyPost_ret (results_tmp rfl _ _ _) rfl ?_;exact ⟨by rw [aj];rfl,hB⟩
end Go.Proofs
namespace Go.Vx
open Go.Proofs
variable (n:Nat)
def JP (n:Nat):Kf:=fun _ _ g ac _ k=>match ac with
 | [c0]=>
  prG c0 fun l0=>(match l0 with
  | [a,b,c,d]=>prS g 1 a fun e=>prS g 1 b fun f=>prS g 5 c fun h=>prS g 6 d fun i=>
  gb g (ZN n e f h i some) 0 fun r=>k ⟨.d (D.int .i64 r),[],[]⟩
  | _=>none)
 | _=>none
theorem TY (n:Nat):Uo Tryz.prog 126 (JP n):=by
  intro R aj g ak hl k r h
  unfold JP at h
  split at h
  rotate_left
  · cases h
  replace h:=B5 h
  obtain ⟨l0,h,e⟩:=h
  subst e
  split at h
  rotate_left
  · cases h
  replace h:=Uh h
  obtain ⟨a,h,f⟩:=h
  replace h:=Uh h
  obtain ⟨b,h,i⟩:=h
  replace h:=Uh h
  obtain ⟨c,h,j⟩:=h
  replace h:=Uh h
  obtain ⟨d,h,l⟩:=h
  replace h:=Qm h
  obtain ⟨res,h,hr⟩:=h
  exact ⟨_,h,fun hg=>Wn.conv (avs':=[.ag [.d (D.sl 1 a),.d (D.sl 1 b),.d (D.sl 5 c),.d (D.sl 6 d)]]) (.cons (.ag (.cons (f hg) (.cons (i hg) (.cons (j hg) (.cons (l hg) .nil))))) .nil) (Q2x n a b c d res (hr hg))⟩
end Go.Vx
set_option maxRecDepth 100000
namespace Go.Vx
open Go.Proofs
variable (n:Nat)
def PH:BZ9:=Xa [⟨126,⟨JP n,TY n⟩⟩] []
def Fq:LZ9:=mkU (PH n).ok nT 12 Tryz.f86 [(3,.ptr 3 0),(41,.l 4),(42,tI),(43,tI)] [(3,bT 36 [])] 22 [.f .ret [(4,.ci .i64 7)] [] [],xE 1 [(44,.b)]] @ZZ n
def Sb:EZ9 86:=mkD (PH n).ok [Fq n n] 86 Tryz.f86 0 @Vc n
def Kn:EZ9 129:=mkW (Xa [] []).ok nT 129 Tryz.f129 (eA [qT,qI,qI,qI,qI]::pT 1000000 59 [] []) [sB] [] 990 62 @Vy n
def XI:BZ9:=Xa [⟨129,Kn n⟩] []
def Zf:LZ9:=mkU (XI n).ok nT 2 Tryz.f180 [(0,.l 5),(1,.fn 129 [.ptr 1000000 0]),(7,tI),(8,tI)] [(1000000,bT 59 [])] 49 [.f .ret [(4,tI)] [(1000000,bT 59 [])] [0,4,5,6,7,8],xE 0 [(9,.b)]] @QR n
def Zk:EZ9 180:=mkW (XI n).ok [Zf n n] 180 Tryz.f180 (sL 5::eF 129 1::pT 1000000 59 [] []) [sI] [] 60 62 @Y0 n
def Za:EZ9 128:=mkW (Xa [⟨180,Zk n⟩] []).ok nT 128 Tryz.f128 (sL 5::eF 129 1::pT 1000000 59 [] []) [sB] [] 60 62 @XH n
def HM:EZ9 130:=mkD (Xa [] []).ok nT 130 Tryz.f130 0 @UR n
def P7:BZ9:=Xa [⟨127,Pu n⟩,⟨128,Za n⟩,⟨130,HM n⟩] []
def Lk:LZ9:=mkU (P7 n).ok nT 2 Tryz.f87 [(3,.ptr 3 0),(8,.l 5),(9,tI),(10,tI)] [(3,bT 36 [])] 103 [.f .ret [(4,tI)] [] [0],xE 0 [(11,.b)]] @G1 n
def Pw:EZ9 87:=mkD (P7 n).ok [Lk n n] 87 Tryz.f87 0 @Uw n
def Q0o:EZ9 217:=mkD (Xa [] []).ok nT 217 Tryz.f217 0 @Nx n
def Av:EZ9 237:=mkD (Xa [] []).ok nT 237 Tryz.f237 0 @Ry n
def Cw:EZ9 238:=mkD (Xa [] []).ok nT 238 Tryz.f238 0 @L7 n
def Pf:BZ9:=Xa [⟨237,Av n⟩,⟨238,Cw n⟩] []
def Ly:LZ9:=mkU (Pf n).ok nT 3 Tryz.f218 [(8,.ptr 8 0),(9,.ptr 9 0),(20,.l 6),(21,tI),(22,tI)] [(8,.box [tI,tI]),(9,.box [tI,tI])] 1102 [.f .ret [(6,tI),(7,.cb true)] [] [0],xE 0 [(23,.b)]] @Ge n
def E7:EZ9 218:=mkD (Pf n).ok [Ly n n] 218 Tryz.f218 0 @JY n
def K7:BZ9:=Xa [⟨126,⟨JP n,TY n⟩⟩,⟨217,Q0o n⟩,⟨218,E7 n⟩] [(24,⟨[],[],[(11,1011,3,1)],[],[]⟩)]
def BL:LZ9:=mkU (K7 n).ok nT 10 Tryz.f181 [(2,.ptr 2 0),(3,.ptr 3 0),(40,.l 2),(41,tI),(42,tI)] [(2,bT 27 []),(3,.box [.l 2,tI])] 1102 [.f .ret [(4,.nil),(5,.ci .i64 4)] [] [],xE 1 [(43,.b)]] @Ud n
def Au:LZ9:=mkU (K7 n).ok nT 17 Tryz.f181 [(2,.ptr 2 0),(3,.ptr 3 0),(8,.arr 54),(56,.l 2),(57,tI),(58,tI)] [(2,bT 27 []),(3,.box [.l 2,tI]),(54,.arr 4 1)] 39388 [.f .ret [(4,.nil),(5,.ci .i64 5)] [] [],xE 3 [(59,.b)]] @GG n
def BP:LZ9:=mkU (K7 n).ok nT 25 Tryz.f181 [(2,.ptr 2 0),(3,.ptr 3 0),(11,.arr 1011),(74,.l 2),(75,tI),(76,tI)] [(2,bT 27 []),(3,.box [.l 2,tI]),(1011,.arr 3 1)] 42655 [.f .ret [(4,.nil),(5,.ci .i64 11)] [] [],xE 5 [(77,.b)]] @U3 n
def Q0f:EZ9 181:=mkD (K7 n).ok [BL n n,Au n n,BP n n] 181 Tryz.f181 0 @HC n
def Fg:EZ9 131:=mkD (Xa [⟨181,Q0f n⟩] []).ok nT 131 Tryz.f131 0 @Pe n
def Pd:BZ9:=Xa [⟨131,Fg n⟩] []
def LP:LZ9:=mkU (Pd n).ok nT 2 Tryz.f88 [(2,.ptr 2 0),(9,.l 2),(10,tI),(11,tI)] [(2,bT 27 [])] 1102 [.f .ret [(4,tI)] [] [0],xE 0 [(12,.b)]] @Zl n
def PA:EZ9 88:=mkD (Pd n).ok [LP n n] 88 Tryz.f88 0 @Uu n
def KJ:EZ9 133:=mkW (Xa [] []).ok nT 133 Tryz.f133 (eA [qT,qI,qI,qL 4]::pT 1000000 70 [] []) [sB] [] 238 30 @Wk n
def XU:BZ9:=Xa [⟨133,KJ n⟩] []
def Zz:LZ9:=mkU (XU n).ok nT 2 Tryz.f182 [(0,.l 4),(1,.fn 133 [.ptr 1000000 0]),(7,tI),(8,tI)] [(1000000,bT 70 [])] 49 [.f .ret [(4,tI)] [(1000000,bT 70 [])] [0,4,5,6,7],xE 0 [(9,.b)]] @Qb n
def ZE:EZ9 182:=mkW (XU n).ok [Zz n n] 182 Tryz.f182 (sL 4::eF 133 1::pT 1000000 70 [] []) [sI] [] 28 30 @X3 n
def Ze:EZ9 132:=mkW (Xa [⟨182,ZE n⟩] []).ok nT 132 Tryz.f132 (sL 4::eF 133 1::pT 1000000 70 [] []) [sB] [] 28 30 @Qq n
def Ea:EZ9 134:=mkD (Xa [] []).ok nT 134 Tryz.f134 0 @TR n
def RQ:EZ9 137:=mkD (Xa [] []).ok nT 137 Tryz.f137 0 @KL n
end Go.Vx
namespace Go.Vx
variable {R:Type}
def NU (n:Nat) (a0 a1:Int) (K:Int->Int->oP R):oP R:= gb true (BY 32) () fun a=>K (IntKind.wrap .u32 (shR .u64 (IntKind.wrap .u64 ((IntKind.wrap .u64 a0)*(IntKind.wrap .u64 a1))) 32)) (IntKind.wrap .u32 (IntKind.wrap .u64 ((IntKind.wrap .u64 a0)*(IntKind.wrap .u64 a1))))
def P6 (n:Nat) (a0 a1:Int) (K:Int->Int->oP R):oP R:= gb true (BY 32) () fun a=>gb true (BY 32) () fun u2=>gb true (BY 32) () fun u3=>gb true (BY 32) () fun b=>gb true (BY 32) () fun c=>K (IntKind.wrap .u64 ((IntKind.wrap .u64 ((IntKind.wrap .u64 ((shR .u64 a0 32)*(shR .u64 a1 32)))+(shR .u64 (IntKind.wrap .u64 ((IntKind.wrap .u64 ((shR .u64 a0 32)*(Q6G .u64 a1 4294967295)))+(shR .u64 (IntKind.wrap .u64 ((Q6G .u64 a0 4294967295)*(Q6G .u64 a1 4294967295))) 32))) 32)))+(shR .u64 (IntKind.wrap .u64 ((Q6G .u64 (IntKind.wrap .u64 ((IntKind.wrap .u64 ((shR .u64 a0 32)*(Q6G .u64 a1 4294967295)))+(shR .u64 (IntKind.wrap .u64 ((Q6G .u64 a0 4294967295)*(Q6G .u64 a1 4294967295))) 32))) 4294967295)+(IntKind.wrap .u64 ((Q6G .u64 a0 4294967295)*(shR .u64 a1 32))))) 32))) (IntKind.wrap .u64 (a0*a1))

def TG (n:Nat) (a0 a1:Int) (K:Int->Int->oP R):oP R:= bif false then gb true (NU n (IntKind.wrap .u32 a0) (IntKind.wrap .u32 a1) Tu2) (0,0) fun a=>K (IntKind.wrap .u64 a.1) (IntKind.wrap .u64 a.2) else gb true (P6 n a0 a1 Tu2) (0,0) fun c=>K c.1 c.2

end Go.Vx
set_option maxRecDepth 100000
namespace Go.Vx
open Go.Proofs
variable (n:Nat)
def Dr:EZ9 262:=mkD (Xa [] []).ok nT 262 Tryz.f262 0 @NU n
def EZ:EZ9 263:=mkD (Xa [] []).ok nT 263 Tryz.f263 0 @P6 n
def ND:EZ9 257:=mkD (Xa [⟨262,Dr n⟩,⟨263,EZ n⟩] []).ok nT 257 Tryz.f257 0 @TG n
end Go.Vx
namespace Go.Vx
open Go.Proofs Go.RowKit
section
variable {P:Program}
theorem Q1n (w:World) (dT sT ty ac:TypeId) (g o aj an k:Nat) (a:Addr) (al aq:Nat) (ak:Array Value) (t:TypeId) (cs:List Value)
  (hu:P.underlying dT=some (.slice ac)) (hs:(P.info? ac).map (·.size)=some k)
  (hg:w.heap[g]? = some (.cells ak t (0,0))) (hn:cs.length=Nat.min al aj*k)
  (ar:∀ j v,cs[j]? = some v->w.cell? (a.add j)=some v) (ao:o+cs.length<=ak.size) (b:∀ v∈cs,v.oneCell'=true) :
  (Builtin.copy_ #[dT,sT] ty #[.slice (some ⟨g,o,none⟩) aj an,.slice (some a) al aq]).run P w =
   .ok (goInt (Nat.min al aj)) (w.setRow g (ak.toList.take o++cs++ak.toList.drop (o+cs.length)).toArray):=by
 have hl:=run_loadCells_list (P:=P) w a cs ar;have au:=run_storeCells_at P g o t cs 0 ak w hg (by simpa using ao) b;cases hq:P.info? ac with
 |none=>simp [hq] at hs
 |some i=>
  have hi:i.size=k:=by simpa [hq] using hs
  simp [Builtin.copy_,run_underlying hu,Builtin.lenOf,Builtin.firstCells,sizeOf,typeInfo,hq,hi,<- hn,hl,au]
theorem Q4c (w:World) (dT sT ty ac:TypeId) (g o aj an k:Nat) (a:Addr) (ak ao:Nat) (al:Array Value) (t:TypeId) (cs:List Value) (m:Nat)
  (hu:P.underlying dT=some (.slice ac)) (hs:(P.info? ac).map (·.size)=some k)
  (hg:w.heap[g]? = some (.cells al t (0,0))) (hm:Nat.min ak aj=m) (hn:cs.length=m*k)
  (ar:∀ j v,cs[j]? = some v->w.cell? (a.add j)=some v) (aq:o+cs.length<=al.size) (c:∀ v∈cs,v.oneCell'=true) :
  ∃ w',(Builtin.copy_ #[dT,sT] ty #[.slice (some ⟨g,o,none⟩) aj an,.slice (some a) ak ao]).run P w = .ok (.int .i64 (m:Int)) w' /\
   w'.heap[g]? = some (.cells (splice al.toList o cs).toArray t (0,0))/\(∀ n,n<=g->∀ w0:World,Below n w0 w->Below n w0 w'):=by
 subst hm;refine ⟨_,Q1n w dT sT ty ac g o aj an k a ak ao al t cs hu hs hg hn ar aq c,by simpa [splice] using setRow_heap w g _ _ t _ hg,fun n hn w0 h=>⟨h.os,h.tape,h.output,by simpa [World.setRow] using h.size,fun b hb=>(setRow_other w g b _ Zzq).trans (h.block b hb)⟩⟩
theorem AY {w:World} {aq:Array Oper} {o:Oper} {a:Act} {K:Act->World->Prop} {Q:Exit->Act->World->Prop} {E:Prop} (ax:o.guard=none) (d s:Operand) (dT sT:TypeId)
  (ho:o.op = .call { callee:=.builtin .copy,args:=#[d,s],argTypes:=#[dT,sT] }) (ac:TypeId) (k:Nat) (hu:P.underlying dT=some (.slice ac)) (ay:(P.info? ac).map (·.size)=some k)
  (g off aj an:Nat) (ad:Addr) (ak ao:Nat) (hd:a.eval d = .slice (some ⟨g,off,none⟩) aj an) (hs:a.eval s = .slice (some ad) ak ao)
  (al:Array Value) (t:TypeId) (hg:w.heap[g]? = some (.cells al t (0,0))) (cs:List Value) (m:Nat) (hm:Nat.min ak aj=m) (hn:cs.length=m*k)
  (aw:∀ j v,cs[j]? = some v->w.cell? (ad.add j)=some v) (ar:off+cs.length<=al.size) (b:∀ v∈cs,v.oneCell'=true)
  (h:∀ w',w'.heap[g]? = some (.cells (splice al.toList off cs).toArray t (0,0))->(∀ n,n<=g->∀ w0:World,Below n w0 w->Below n w0 w')->K (a.put o.dst (.int .i64 (m:Int))) w') :
  if Region.wanted o (yielded aq a.tmps)=true then Oper.wp P o a w K Q else E:=by
 have hw:Region.wanted o (yielded aq a.tmps)=true:=by simp [Region.wanted,ax]
 rw [if_pos hw];obtain ⟨w',au,h2,c⟩:=Q4c (P:=P) w dT sT o.type ac g off aj an k ad ak ao al t cs m hu ay hg hm hn aw ar b;unfold Oper.wp;simp [execOp,ho,resolve,invoke,builtin,hd,hs,au,Result.andThen];exact h w' h2 c
end
def MV (a b:Value):Nat->List Value
 |0=>[]
 |m+1=>a::b::MV a b m
theorem Vb (a b:Value):∀ m,(MV a b m).length=m*2
 |0=>rfl
 |m+1=>by simp [MV,Vb a b m];omega
theorem Q1F (a b:Value) (k:Nat):∀ m,MV a b (m+k)=MV a b m++MV a b k
 |0=>by simp [MV]
 |m+1=>by rw [show m+1+k=(m+k)+1 by omega];simp [MV,Q1F a b k m]
theorem Q9a (a b:Value) {m k:Nat} (h:m<=k):(MV a b k).take (m*2)=MV a b m:=by
 obtain ⟨d,rfl⟩:=Nat.exists_eq_add_of_le h;rw [Q1F,List.take_append_of_le_length (by rw [Vb];omega),QkJ (by rw [Vb];omega)]
theorem Q1t {a b:Value}:∀ {m:Nat} {v:Value},v∈MV a b m->v=a\/v=b
 |m+1,v,h=>by
  simp only [MV,List.mem_cons] at h;rcases h with h | h | h
  ·exact .inl h
  ·exact .inr h
  ·exact Q1t h
theorem Q9G (a b:Value):∀ (m i:Nat),i<m->(MV a b m)[i*2]? = some a/\(MV a b m)[i*2+1]? = some b
 |m+1,0,h=>by simp [MV]
 |m+1,i+1,h=>by
  have:=Q9G a b m i Zzq;rw [show (i+1)*2=i*2+1+1 by omega];simpa [MV] using this
theorem mul_one (c:Nat) (hc:c<=100000):TG 0 1 (c:Int) (fun a b=>some (a,b))=some (0,(c:Int)):=by
 have d:shR .u64 1 (32:Int)=0:=by decide
 have h2:shR .u64 (c:Int) (32:Int)=0:=by
  show (c:Int).fdiv (2 ^ (min (32:Int).toNat IntKind.u64.bits))=0;rw [show (min (32:Int).toNat IntKind.u64.bits)=32 from rfl,Int.fdiv_eq_ediv_of_nonneg _ (by decide)];omega
 have e:Q6G .u64 1 (4294967295:Int)=1:=by decide
 have f:Q6G .u64 (c:Int) (4294967295:Int)=(c:Int):=by
  unfold Q6G;rw [BitVec.toNat_and,IntKind.wrap_u64];have e1:(BitVec.ofInt IntKind.u64.bits (c:Int)).toNat=c:=by
   rw [BitVec.toNat_ofInt];show ((c:Int) % ((2 ^ 64:Nat):Int)).toNat=c;omega
  have e2:(BitVec.ofInt IntKind.u64.bits (4294967295:Int)).toNat=2 ^ 32-1:=by decide
  rw [e1,e2,Nat.and_two_pow_sub_one_eq_mod];omega
 have w0:IntKind.u64.wrap 0=0:=by decide
 have wc:IntKind.u64.wrap (c:Int)=(c:Int):=by rw [IntKind.wrap_u64];omega
 have s0:shR .u64 0 (32:Int)=0:=by decide
 have a0:Q6G .u64 0 (4294967295:Int)=0:=by decide
 simp only [TG,P6,cond_false,BY,d,h2,e,f,gb,Int.zero_mul,Int.one_mul,Int.mul_zero,Int.add_zero,w0,wc,s0,a0];rfl
theorem Q5t {β:Nat->Option Nat} {S:Nat->Prop} {h:Nat->Option Ob} {w:World} {tm:Nat->Value} {v:Value} {k:IntKind} {n:Int} (h:RdA β S h w tm v (.d (.int k n))):v = .int k n:=by
 cases h with
 |d _ _ q=>exact RU q
 |dang _ _ _ hl=>cases hl
theorem Q8J (c:Nat) (hc:c<=100000) (w:World):Calls Tryz.prog 257 #[.int .u64 1,.int .u64 (c:Int)] w fun e w'=>e = .returned (.tuple #[.int .u64 0,.int .u64 c])/\RowKit.Below w.heap.size w w':=by
 have he:(ND 0).E Dl 0 true [.d (.int .u64 1),.d (.int .u64 (c:Int))] (fun _=>none) some=some ⟨.tup [.d (D.int .u64 0),.d (D.int .u64 (c:Int))],[],[]⟩:=by
  show gb true (TG 0 1 (c:Int) (fun g i=>some (g,i))) (0,0) (fun r=>(some ⟨.tup [.d (D.int .u64 r.1),.d (D.int .u64 r.2)],[],[]⟩:Option Dl))=_;rw [mul_one c hc];rfl
 refine (B2 (S:=fun _=>False) (Yv ((ND 0).ok) he) (fun _ h=>h.elim) (T0 (.d _ _ (.int _ _)) (.d _ _ (.int _ _)))).mono fun e w' ⟨v,S',j,h2,k⟩=>⟨?_,k⟩
 rw [j];cases h2 with
 |tup cs l hl hr=>
  have d:=Q5t (hr 0 _ rfl);have f:=Q5t (hr 1 _ rfl);obtain ⟨l⟩:=cs
  match l,hl with
  |[a,b],_=>
   simp at d f;rw [d,f]
 |dang v av l hl=>cases hl
noncomputable def Qd7:Code:=(GL (Tryz.f250.body.getD .skip)).getD 9 .skip
set_option maxHeartbeats 8000000 in
set_option maxRecDepth 100000 in
theorem Tryz.repeat_r9 (d f u2 u3 g i l o p q r s t u x y z aa ab ac ad ae ag ah ai aj ak al am an ao ap aq ar au av ax ay az ba bb bc bd be bg aw a b:Value) (H c m k:Nat) (cu:Array Value) (w:World) (bh:m<c) (b3:(m:Int)<(c:Int)) (hk:Nat.min m (c-m)=k) (a2:w.heap[H]? = some (.cells cu 241 (0,0))) (h0:(0:Int)<=(m:Int)) (cf:(m:Int)<=(c:Int))
  (a6:∀ (j:Nat) (v:Value),(MV a b k)[j]? = some v->w.drew.cell? ((⟨H,0,none⟩:Addr).add j)=some v) (a5:m*2+(MV a b k).length<=cu.size) (a4:∀ v∈MV a b k,v.oneCell'=true) (cj:IntKind.i64.wrap ((m:Int)+(k:Int))=((m+k:Nat):Int)) :
  Code.wp Tryz.prog Qd7 (Q6k fun act w'=>∃ (bi bj bk bl bm bn bo bp bq:Value),act=⟨(d::f::u2::u3::g::i::l::.slice (some ⟨H,0,none⟩) c c::.int .i64 ((m:Int)+(k:Int))::o::p::q::r::s::t::u::x::y::z::aa::ab::ac::ad::ae::ag::ah::ai::aj::ak::al::am::an::ao::ap::aq::ar::au::av::bi::bj::bk::bl::bm::bn::bo::bp::bq::aw::[]).toArray,[]⟩/\w'.heap[H]? = some (.cells (splice cu.toList (m*2) (MV a b k)).toArray 241 (0,0))/\(∀ n,n<=H->∀ w0:World,Below n w0 w->Below n w0 w')) ⟨(d::f::u2::u3::g::i::l::.slice (some ⟨H,0,none⟩) c c::.int .i64 (m:Int)::o::p::q::r::s::t::u::x::y::z::aa::ab::ac::ad::ae::ag::ah::ai::aj::ak::al::am::an::ao::ap::aq::ar::au::av::ax::ay::az::ba::bb::bc::bd::be::bg::aw::[]).toArray,[]⟩ w:=by
 conv=>arg 2;whnf
 have mixed:Tryz.prog.follows .mixedOrders=true:=by kernel_rfl
 have a7:(Tryz.prog.info? 241).map (·.size)=some 2:=by kernel_rfl
 have br:c=m->0=m*2:=fun e=>absurd e (Nat.ne_of_gt bh)
 have a1:w.drew.heap[H]? = some (.cells cu 241 (0,0)):=a2
 go_region_law (first
  |(refine AY (by rfl) _ _ 207 207 (by rfl) 241 2 Tryz.underlying207 a7 H (m*2) (c-m) (c-m) ⟨H,0,none⟩ m c (by go_simp;exact br) (by go_simp) cu 241 a1 (MV a b k) k hk (Vb _ _ _) a6 a5 a4 ?_;intro w3 a8 a9))
 all_goals
  dsimp only [Q6k];exact ⟨_,_,_,_,_,_,_,_,_,rfl,a8,fun n hn w0 h=>a9 n hn w0 (h.trans ⟨rfl,rfl,rfl,QkM _,fun _ _=>rfl⟩)⟩
theorem Q7p {a b:Value} {m k:Nat} {L:List Value} (ac:L.take (m*2)=MV a b m):(splice L (m*2) (MV a b k)).take ((m+k)*2)=MV a b (m+k):=by
 simp only [splice];rw [ac,List.take_append,QkJ (by rw [Vb];omega),Vb,List.take_append_of_le_length (by rw [Vb];omega),QkJ (by rw [Vb];omega),Q1F]
theorem Qeo {m k c:Nat} (h:m+k<=c) (hk:0<k):c-(intOf (.int .i64 ((m:Int)+(k:Int)))).toNat<c-(intOf (.int .i64 (m:Int))).toNat:=by
 simp only [intOf];omega
set_option maxHeartbeats 4000000 in
set_option maxRecDepth 100000 in
theorem Tryz.repeat_calls (w:World) (ad:Addr) (cap c:Nat) (b d:Value) (hc:c<=100000) (p:w.cell? (ad.add 0)=some b) (s:w.cell? (ad.add 1)=some d) (o0:b.oneCell'=true) (o1:d.oneCell'=true) :
  Calls Tryz.prog 250 #[.slice (some ad) 1 cap,.int .i64 (c:Int)] w fun e w'=>∃ (H:Nat) (ac:Array Value),e = .returned (.slice (some ⟨H,0,none⟩) c c)/\w.heap.size<=H/\w'.heap[H]? = some (.cells ac 241 (0,0))/\ac.size=c*2/\ac.toList=MV b d c/\Below w.heap.size w w':=by
 obtain ⟨t,hi,u⟩:=QkK.1 (show (Tryz.prog.info? 241).map (fun i=>(i.zero.isSome,i.size,i.bytes))=some (true,2,16) by kernel_rfl);obtain ⟨hz,l⟩:=Prod.mk.inj u;obtain ⟨l,x⟩:=Prod.mk.inj l;obtain ⟨z,hz⟩:=Option.isSome_iff_exists.1 hz;have aw:∀ w:World,∃ ac:Array Value,ac.size=c*2/\(Instr.makeSlice 207 (.int .i64 (c:Int)) (.int .i64 (c:Int))).run Tryz.prog w = .ok (.slice (some ⟨w.heap.size,0,none⟩) c c) (w.alloc (.cells ac 241)):=by
  intro w;refine ⟨madeCells z.cells (c*2),size_madeCells _ _,?_⟩;have:=run_make (P:=Tryz.prog) w 207 241 t z Tryz.underlying207 hi hz .i64 .i64 (c:Int) (c:Int) Zzq Zzq (by rw [x];omega) Zzq;rw [l] at this;exact this
 have a3:(Tryz.prog.info? 241).map (·.size)=some 2:=by rw [hi];simp [l]
 have bp:IntKind.u64.wrap (c:Int)=(c:Int):=by rw [IntKind.wrap_u64];omega
 have bm:IntKind.i64.wrap (c:Int)=(c:Int):=by rw [IntKind.wrap_i64];omega
 have g0:(0:Int)<=(c:Int):=by omega
 have g1:¬ (9223372036854775807:Int)<(c:Int):=by omega
 go_enter Tryz.func250,Tryz.ntmps250
 go_wp2_with (go_at_call 257;refine (Q8J c hc _).mono ?_)
 rintro e g rfl hB;obtain ⟨ac,a9,a5⟩:=aw g;clear aw;have aq:=UE hB (QkM _) (.cells ac 241);have az:∀ a:Addr,a.block<w.heap.size->(g.alloc (.cells ac 241)).cell? a=w.cell? a:=fun a ha=>BN (aq.block _ ha)
 have bq:=fun (j:Nat)=>JO ad j
 have a7:ad.block<w.heap.size:=by have:=World.block_lt_of_cell? w _ p;rwa [JO] at this
 have hH:(g.alloc (.cells ac 241)).heap[g.heap.size]? = some (.cells ac 241 (0,0)):=heap_alloc_new g _;obtain ⟨f,q⟩:∃ f,Nat.min 1 c=f:=⟨_,rfl⟩;have r:f<=1/\f<=c/\(0<c->0<f):=by rw [<- q];simp only [Nat.min_def];split <;> omega
 obtain ⟨w2,ax,bb,bi⟩:=Q4c (P:=Tryz.prog) (g.alloc (.cells ac 241)) 207 207 3 241 g.heap.size 0 c c 2 ad 1 cap ac 241 (MV b d f) f Tryz.underlying207 a3 hH q (Vb _ _ _)
  (fun j v hj=>by
   have n:=(Qkv.1 hj).1;rw [Vb] at n;rw [az _ (by rw [JO];exact a7)];have hm:f=1:=by omega
   subst hm;obtain rfl | rfl:j=0\/j=1:=by omega
   ·simp [MV] at hj;rw [<- hj];exact p
   ·simp [MV] at hj;rw [<- hj];exact s)
  (by rw [Vb];omega) (fun v hv=>by rcases Q1t hv with rfl | rfl <;> assumption)
 have a8:=bi w.heap.size hB.size w aq;have ar:=hB.size;generalize bk:g.heap.size=H at *
 go_wp2
 go_loopw [8] (fun i wr=>∃ (m:Nat) (cu:Array Value),i = .int .i64 (m:Int)/\m<=c/\(0<c->0<m)/\wr.heap[H]? = some (.cells cu 241 (0,0))/\cu.size=c*2/\cu.toList.take (m*2)=MV b d m/\Below w.heap.size w wr)
  (fun i _=>c-(intOf i).toNat)
 case atStart=>
  refine ⟨f,_,rfl,r.2.1,r.2.2,bb,?_,?_,a8⟩
  ·simp only [List.size_toArray];rw [length_splice _ _ _ (by rw [Vb];simp;omega)];simpa using a9
  ·simp only [splice,List.take_zero,QkD];rw [List.take_append_of_le_length (by rw [Vb];exact QkM _),QkJ (by rw [Vb];exact QkM _)]
 case round=>
  obtain ⟨m,cu,rfl,bo,bh,aj,an,ao,hF⟩:=hrel;clear a5 ax;by_cases y:m<c
  ·have ay:((m:Int)<(c:Int)):=by omega
   have hp:0<m:=bh Zzq;obtain ⟨k,hk⟩:∃ k,Nat.min m (c-m)=k:=⟨_,rfl⟩;have o:k<=m/\m+k<=c/\0<k:=by rw [<- hk];simp only [Nat.min_def];split <;> omega
   have e1:(if c=m then (some ⟨H,0,none⟩:Option Addr) else (some (⟨H,0,none⟩:Addr)).map (·.add (m*2)))=some ⟨H,m*2,none⟩:=by
    rw [if_neg Zzq];simp [HD]
   have a1:∀ (j:Nat) (v:Value),(MV b d k)[j]? = some v->wr.drew.cell? ((⟨H,0,none⟩:Addr).add j)=some v:=by
    intro j v hj;have n:=(Qkv.1 hj).1;rw [Vb] at n;rw [HD,QkN];show wr.cell? _=_;rw [cell_of_row wr H j cu 241 (0,0) aj,<- Array.getElem?_toList];have e:(cu.toList.take (m*2))[j]? = some v:=by
     rw [ao];have e2:=Q9a b d o.1;rw [<- e2,List.getElem?_take,if_pos n] at hj;exact hj
    rw [List.getElem?_take] at e;split at e
    ·exact e
    ·cases e
   have al:m*2+(MV b d k).length<=cu.size:=by rw [Vb];omega
   have au:∀ v∈MV b d k,v.oneCell'=true:=fun v hv=>by rcases Q1t hv with rfl | rfl <;> assumption
   have a2:wr.drew.heap[H]? = some (.cells cu 241 (0,0)):=aj;have bd:IntKind.i64.wrap ((m:Int)+(k:Int))=((m+k:Nat):Int):=by rw [IntKind.wrap_i64];omega
   go_wp2
   refine Code.wp_mono ?_ (Tryz.repeat_r9 _ _ _ _ _ _ _ _ _ _ _ _ _ _ _ _ _ _ _ _ _ _ _ _ _ _ _ _ _ _ _ _ _ _ _ _ _ _ _ _ _ _ _ _ _ _ b d H c m k cu wr y ay hk aj Zzq Zzq a1 al au bd);rintro e act w3 h;cases e with
   |normal=>
    obtain ⟨_,_,_,_,_,_,_,_,_,rfl,a6,bc⟩:=h
    go_wp2
    refine ⟨⟨m+k,_,by rw [Int.natCast_add],o.2.1,fun _=>QkA hp (Nat.le_add_right m k),a6,?_,?_,bc _ ar w hF⟩,?_⟩
    ·simp only [List.size_toArray];rw [length_splice _ _ _ (by simpa using al)];simpa using an
    ·exact Q7p ao
    ·exact Qeo o.2.1 o.2.2
   |_=>exact h.elim
  ·have aa:m=c:=by omega
   subst aa
   go_wp2
   refine bodyPost_ret (results_tmp rfl _ _ _) rfl ?_;refine ⟨H,cu,rfl,ar,aj,an,?_,hF⟩;rw [<- ao,QkJ (by simpa using Nat.le_of_eq an)]
theorem QbP {S:Nat->Prop} {w:World} {v:Value} {x:D} (h:Rd S w v x):v.oneCell'=true:=by cases h <;> rfl
theorem Qa9 {S:Nat->Prop} {w:World} {H c:Nat} {ac:Array Value} {a d:Value} {f g:D} (k:Rd S w a f) (l:Rd S w d g) (hH:w.heap[H]? = some (.cells ac 241 (0,0))) (aj:ac.toList=MV a d c) :
  Rd (fun b=>S b\/b=H) w (.slice (some ⟨H,0,none⟩) c c) (.sl 2 (List.replicate c [f,g])):=by
 have e:=Rd.sl (S:=fun b=>S b\/b=H) (w:=w) ⟨H,0,none⟩ c 2 (List.replicate c [f,g]) (fun i j=>if j=0 then a else d) (.inr rfl) (by simp) (fun i r hr=>?_) (fun i j r x hr hx=>?_) (fun i j r x hr hx=>?_)
 ·simpa using e
 ·obtain ⟨_,rfl⟩:=QkC.1 (Qkx hr);rfl
 ·have hi:i<c:=by have:=(Qkv.1 hr).1;simpa using this
  obtain ⟨_,rfl⟩:=QkC.1 (Qkx hr);have hj:=(Qkv.1 hx).1;simp at hj;rw [HD,QkN,cell_of_row w H _ ac 241 (0,0) hH,<- Array.getElem?_toList,aj];have:=Q9G a d c i hi;obtain rfl | rfl:j=0\/j=1:=by omega
  ·simpa using this.1
  ·simpa using this.2
 ·obtain ⟨_,rfl⟩:=QkC.1 (Qkx hr);have hj:=(Qkv.1 hx).1;simp at hj;obtain rfl | rfl:j=0\/j=1:=by omega
  ·simp at hx;subst hx;simpa using k.mono (fun _ h=>.inl h) (fun _ _=>rfl)
  ·simp at hx;subst hx;simpa using l.mono (fun _ h=>.inl h) (fun _ _=>rfl)
theorem Q2a (n:Nat) (a0:LL) (a1:Int) (res:LL) {hl:Nat->Option Ob} (h:Qd n a0 a1 some=some res):Wn Tryz.prog 250 [.d (D.sl 2 a0),.d (D.int .i64 a1)] hl ⟨.d (D.sl 2 res),[],[]⟩:=by
 unfold Qd at h;obtain ⟨hc,h⟩:=Qz h;simp only [Qkw,decide_eq_true_eq] at hc;obtain ⟨⟨e1,hp⟩,hq⟩:=hc;have e1:=Nat.eq_of_beq_eq_true e1;injection h with h
 obtain ⟨c,rfl⟩:=Int.eq_ofNat_of_zero_le hp
 match a0,e1 with
 |[row],_=>
  subst h;refine Ln (fn:=Tryz.f250) (by kernel_rfl) (by kernel_rfl) (by kernel_rfl) rfl rfl fun S w args hS hA=>?_
  obtain ⟨hl,hA⟩:=hA
  match args,hl with
  |[j,k],_=>
   have a:=hA 0 _ _ rfl rfl;have i:=Q5t (hA 1 _ _ rfl rfl);subst i;cases a with
   |dang _ _ _ hl=>cases hl
   |d _ _ a=>
    cases a with
    |sl ad cap _ _ cf ay au ao ac al=>
     have ak:=ao 0 row rfl
     match row,ak with
     |[l,m],_=>
      have k0:=ac 0 0 _ _ rfl rfl;have k1:=ac 0 1 _ _ rfl rfl;have f:=al 0 0 _ _ rfl rfl;have g:=al 0 1 _ _ rfl rfl;refine (Tryz.repeat_calls w ad cap c (cf 0 0) (cf 0 1) Zzq k0 k1 (QbP f) (QbP g)).mono fun e w' ⟨H,az,he,hH,aj,a2,aq,hB⟩=>?_
      have ax:H<w'.heap.size:=(QkL.1 aj).1;refine ⟨_,fun b=>S b\/b=H,he,fun b h=>.inl h,fun b h=>h.elim .inl fun e=>.inr Zzq,fun b h=>h.elim (fun h=>QkA (hS b h) hB.size) (fun e=>by omega),.d _ _ ?_,hB⟩;exact Qa9 (Rd.mono (fun _ h=>h) (fun b hb=>hB.block b (hS b hb)) f) (Rd.mono (fun _ h=>h) (fun b hb=>hB.block b (hS b hb)) g) aj aq
end Go.Vx
namespace Go.Vx
open Go.Proofs
variable (n:Nat)
def Xl (n:Nat):Kf:=fun _ _ g ac _ k=>match ac with
 | [c0,c1]=>prS g 2 c0 fun a0=>prI g .i64 c1 fun a1=>
  gb g (Qd n a0 a1 some) [] fun r=>k ⟨.d (D.sl 2 r),[],[]⟩
 | _=>none
theorem WI (n:Nat):Uo Tryz.prog 250 (Xl n):=by
  intro R aj g ak hl k r h
  unfold Xl at h
  split at h
  rotate_left
  · cases h
  replace h:=Uh h
  obtain ⟨a0,h,a⟩:=h
  replace h:=V9 h
  obtain ⟨a1,h,b⟩:=h
  replace h:=Qm h
  obtain ⟨res,h,hr⟩:=h
  exact ⟨_,h,fun hg=>Wn.conv (avs':=[.d (D.sl 2 a0),.d (D.int .i64 a1)]) (.cons (a hg) (.cons (b hg) .nil)) (Q2a n a0 a1 res (hr hg))⟩
end Go.Vx
set_option maxRecDepth 100000
namespace Go.Vx
open Go.Proofs
variable (n:Nat)
def L9:BZ9:=Xa [⟨131,Fg n⟩,⟨250,⟨Xl n,WI n⟩⟩] [(5,⟨[],[],[(8,1008,241,2)],[],[]⟩)]
def AP:LZ9:=mkU (L9 n).ok nT 6 Tryz.f239 [(2,.ptr 2 0),(3,.ptr 3 0),(8,.arr 1008),(27,.l 2),(28,tI),(29,tI)] [(2,bT 27 []),(3,.box [.l 2,tI]),(1008,.arr 241 2)] 39631 [xE 0 [(30,.b)]] @Wz n
def Q2B:EZ9 239:=mkD (L9 n).ok [AP n n] 239 Tryz.f239 0 @R4 n
def Tb:EZ9 233:=mkD (Xa [] []).ok nT 233 Tryz.f233 0 @UH n
def NA:BZ9:=Xa [⟨239,Q2B n⟩,⟨130,HM n⟩,⟨233,Tb n⟩] []
def BF:LZ9:=mkU (NA n).ok nT 7 Tryz.f219 [(3,.ptr 3 0),(5,.ptr 5 0),(6,.ptr 6 0),(8,.l 2),(9,tI),(29,.l 2),(30,tI),(31,tI)] [(3,bT 27 []),(5,bT 59 []),(6,.box [.nil,.ci .i64 0])] 61434 [.f .ret [(6,.ptr 6 0),(7,.ci .i64 12)] [(6,.box [.nil,.ci .i64 0])] [],xE 0 [(32,.b)]] @U6 n
def Lb:EZ9 219:=mkD (NA n).ok [BF n n] 219 Tryz.f219 0 @HB n
def NT:EZ9 183:=mkD (Xa [⟨219,Lb n⟩] []).ok nT 183 Tryz.f183 0 @GC n
def NC:EZ9 139:=mkD (Xa [] []).ok nT 139 Tryz.f139 0 @TL n
def LI:EZ9 138:=mkD (Xa [] []).ok nT 138 Tryz.f138 0 @Su n
def CB:EZ9 135:=mkD (Xa [⟨137,RQ n⟩,⟨183,NT n⟩,⟨139,NC n⟩,⟨138,LI n⟩] []).ok nT 135 Tryz.f135 0 @JU n
def GN:BZ9:=Xa [⟨127,Pu n⟩,⟨132,Ze n⟩,⟨134,Ea n⟩,⟨135,CB n⟩] []
def El:LZ9:=mkU (GN n).ok nT 15 Tryz.f89 [(2,.ptr 2 0),(3,.ptr 3 0),(6,.ptr 6 0),(10,.l 4),(11,tI),(12,tI),(50,tI),(51,tI)] [(2,bT 27 []),(3,bT 36 []),(6,bT 70 [])] 5230176669 [.f .ret [(4,tI)] [] [0],xE 3 [(52,.b)]] @ZY n
def Fx:LZ9:=mkU (GN n).ok [El n n] 2 Tryz.f89 [(2,.ptr 2 0),(3,.ptr 3 0),(10,.l 4),(11,tI),(12,tI)] [(2,bT 27 []),(3,bT 36 [])] 7174462 [.f .ret [(4,tI)] [] [0],xE 0 [(13,.b)]] @ZX n
def SU:EZ9 89:=mkD (GN n).ok [Fx n n] 89 Tryz.f89 0 @Vp n
def L5:EZ9 140:=mkD (Xa [] []).ok nT 140 Tryz.f140 0 @Gj n
def MY:EZ9 136:=mkD (Xa [⟨140,L5 n⟩] []).ok nT 136 Tryz.f136 0 @UF n
def T8:BZ9:=Xa [⟨136,MY n⟩,⟨137,RQ n⟩,⟨134,Ea n⟩,⟨138,LI n⟩,⟨139,NC n⟩] []
def MN:LZ9:=mkU (T8 n).ok nT 2 Tryz.f90 [(2,.ptr 2 0),(3,.ptr 3 0),(10,.l 7),(11,tI),(12,tI)] [(2,bT 27 []),(3,bT 36 [])] 7173625 [.f .ret [(4,tI)] [] [0],xE 0 [(13,.b)]] @Z9 n
def Pa:EZ9 90:=mkD (T8 n).ok [MN n n] 90 Tryz.f90 0 @WQ n
def KO:EZ9 142:=mkW (Xa [] []).ok nT 142 Tryz.f142 (eA [qI,qI,qI,qI]::pT 1000000 135 [] []) [sB] [] 204 30 @Wi n
def XW:BZ9:=Xa [⟨142,KO n⟩] []
def ZC:LZ9:=mkU (XW n).ok nT 2 Tryz.f184 [(0,.l 4),(1,.fn 142 [.ptr 1000000 0]),(7,tI),(8,tI)] [(1000000,bT 135 [])] 130 [.f .ret [(4,tI)] [(1000000,bT 135 [])] [0,4,5,6,7],xE 0 [(9,.b)]] @Qc n
def ZF:EZ9 184:=mkW (XW n).ok [ZC n n] 184 Tryz.f184 (sL 4::eF 142 1::pT 1000000 135 [] []) [sI] [] 24 30 @X4 n
def Zh:EZ9 141:=mkW (Xa [⟨184,ZF n⟩] []).ok nT 141 Tryz.f141 (sL 4::eF 142 1::pT 1000000 135 [] []) [sB] [] 24 30 @Qo n
def Pp:BZ9:=Xa [⟨140,L5 n⟩,⟨137,RQ n⟩,⟨141,Zh n⟩,⟨138,LI n⟩,⟨139,NC n⟩] []
def FL:LZ9:=mkU (Pp n).ok nT 2 Tryz.f91 [(3,.ptr 3 0),(10,.l 4),(11,tI),(12,tI)] [(3,bT 36 [])] 88582 [.f .ret [(4,tI)] [] [0],xE 0 [(13,.b)]] @We n
def Sw:EZ9 91:=mkD (Pp n).ok [FL n n] 91 Tryz.f91 0 @Vo n
def PB:BZ9:=Xa [⟨136,MY n⟩] []
def FN:LZ9:=mkU (PB n).ok nT 2 Tryz.f92 [(3,.ptr 3 0),(8,.l 5),(9,tI),(10,tI)] [(3,bT 36 [])] 88582 [.f .ret [(4,.ci .i64 4)] [] [],xE 0 [(11,.b)]] @ZR n
def SI:EZ9 92:=mkD (PB n).ok [FN n n] 92 Tryz.f92 0 @Vh n
def T5 (n:Nat):BZ9:=Xa [] []
def MT:LZ9:=mkU (T5 n).ok nT 2 Tryz.f93 [(2,.ptr 2 0),(8,.l 3),(9,tI),(10,tI)] [(2,bT 27 [])] 49 [.f .ret [(4,.ci .i64 4)] [] [],xE 0 [(11,.b)]] @Z8 n
def TQ:EZ9 93:=mkD (T5 n).ok [MT n n] 93 Tryz.f93 0 @WJ n
end Go.Vx
namespace Go.Vx
open Go.Proofs Go.RowKit
theorem Q7F {S:Nat->Prop} {w:World} {v:Value} {x:D} (h:Rd S w v x):v.oneCell'=true:=by cases h <;> rfl
theorem RdLs.one {S:Nat->Prop} {w:World} {vs:List Value} {xs:List D} (h:RdLs S w vs xs):∀ x∈vs,x.oneCell'=true:=by
 induction h with
 |nil=>simp
 |cons h _ ih=>
  intro x hx;rcases List.mem_cons.1 hx with rfl | hx
  ·exact Q7F h
  ·exact ih x hx
theorem RdLs.len {S:Nat->Prop} {w:World} {vs:List Value} {xs:List D} (h:RdLs S w vs xs):vs.length=xs.length:=by
 induction h with
 |nil=>rfl
 |cons _ _ ih=>simp [ih]
theorem RdLs.keep {S:Nat->Prop} {w w':World} {m:Nat} {vs:List Value} {xs:List D} (h:RdLs S w vs xs) (hS:∀ b,S b->b<m) (hw:∀ b,b<m->w'.heap[b]? = w.heap[b]?):RdLs S w' vs xs:=by
 induction h with
 |nil=>exact .nil
 |cons h _ ih=>exact .cons (Rd.keep h hS hw) ih
def HJ (a b c d:LL):List D:=[D.sl 1 a,D.sl 1 b,D.sl 5 c,D.sl 6 d]
def Hz (a:Int) (b c d e f g h:LL):List D:=[D.int .i64 a,D.sl 5 b,D.sl 2 c,D.sl 4 d,D.sl 7 e,D.sl 4 f,D.sl 5 g,D.sl 3 h]
theorem CJ {n:Nat} {a c d f:LL} {g:Int} {i j k l m o p:LL} (h:Vc n a c d f g i j k l m o p some=some 0) {S:Nat->Prop} {w:World} (hS:∀ b,S b->b<w.heap.size) {vs us:List Value} (q:RdLs S w vs (HJ a c d f)) (s:RdLs S w us (Hz g i j k l m o p)) :
  Calls Tryz.prog 86 #[.agg vs.toArray,.agg us.toArray] w fun e w'=>e = .returned (.int .i64 0)/\Below w.heap.size w w':=by
 have he:(Sb n).E Dl 0 true [.ag ((HJ a c d f).map .d),.ag ((Hz g i j k l m o p).map .d)] (fun _=>none) some=some ⟨.d (.int .i64 0),[],[]⟩:=by
  show gb true (Vc n a c d f g i j k l m o p some) 0 (fun r=>(some ⟨.d (D.int .i64 r),[],[]⟩:Option Dl))=_;rw [h];rfl
 exact K5 (Yv ((Sb n).ok) he) hS (T0 (RdLs.agg q) (RdLs.agg s))
theorem Dp {n:Nat} {a c d f:LL} {g:Int} {i j k l m o p:LL} (h:Uw n a c d f g i j k l m o p some=some 0) {S:Nat->Prop} {w:World} (hS:∀ b,S b->b<w.heap.size) {vs us:List Value} (q:RdLs S w vs (HJ a c d f)) (s:RdLs S w us (Hz g i j k l m o p)) :
  Calls Tryz.prog 87 #[.agg vs.toArray,.agg us.toArray] w fun e w'=>e = .returned (.int .i64 0)/\Below w.heap.size w w':=by
 have he:(Pw n).E Dl 0 true [.ag ((HJ a c d f).map .d),.ag ((Hz g i j k l m o p).map .d)] (fun _=>none) some=some ⟨.d (.int .i64 0),[],[]⟩:=by
  show gb true (Uw n a c d f g i j k l m o p some) 0 (fun r=>(some ⟨.d (D.int .i64 r),[],[]⟩:Option Dl))=_;rw [h];rfl
 exact K5 (Yv ((Pw n).ok) he) hS (T0 (RdLs.agg q) (RdLs.agg s))
theorem Dw {n:Nat} {a c d f:LL} {g:Int} {i j k l m o p:LL} (h:Uu n a c d f g i j k l m o p some=some 0) {S:Nat->Prop} {w:World} (hS:∀ b,S b->b<w.heap.size) {vs us:List Value} (q:RdLs S w vs (HJ a c d f)) (s:RdLs S w us (Hz g i j k l m o p)) :
  Calls Tryz.prog 88 #[.agg vs.toArray,.agg us.toArray] w fun e w'=>e = .returned (.int .i64 0)/\Below w.heap.size w w':=by
 have he:(PA n).E Dl 0 true [.ag ((HJ a c d f).map .d),.ag ((Hz g i j k l m o p).map .d)] (fun _=>none) some=some ⟨.d (.int .i64 0),[],[]⟩:=by
  show gb true (Uu n a c d f g i j k l m o p some) 0 (fun r=>(some ⟨.d (D.int .i64 r),[],[]⟩:Option Dl))=_;rw [h];rfl
 exact K5 (Yv ((PA n).ok) he) hS (T0 (RdLs.agg q) (RdLs.agg s))
theorem CL {n:Nat} {a c d f:LL} {g:Int} {i j k l m o p:LL} (h:Vp n a c d f g i j k l m o p some=some 0) {S:Nat->Prop} {w:World} (hS:∀ b,S b->b<w.heap.size) {vs us:List Value} (q:RdLs S w vs (HJ a c d f)) (s:RdLs S w us (Hz g i j k l m o p)) :
  Calls Tryz.prog 89 #[.agg vs.toArray,.agg us.toArray] w fun e w'=>e = .returned (.int .i64 0)/\Below w.heap.size w w':=by
 have he:(SU n).E Dl 0 true [.ag ((HJ a c d f).map .d),.ag ((Hz g i j k l m o p).map .d)] (fun _=>none) some=some ⟨.d (.int .i64 0),[],[]⟩:=by
  show gb true (Vp n a c d f g i j k l m o p some) 0 (fun r=>(some ⟨.d (D.int .i64 r),[],[]⟩:Option Dl))=_;rw [h];rfl
 exact K5 (Yv ((SU n).ok) he) hS (T0 (RdLs.agg q) (RdLs.agg s))
theorem Fo {n:Nat} {a c d f:LL} {g:Int} {i j k l m o p:LL} (h:WQ n a c d f g i j k l m o p some=some 0) {S:Nat->Prop} {w:World} (hS:∀ b,S b->b<w.heap.size) {vs us:List Value} (q:RdLs S w vs (HJ a c d f)) (s:RdLs S w us (Hz g i j k l m o p)) :
  Calls Tryz.prog 90 #[.agg vs.toArray,.agg us.toArray] w fun e w'=>e = .returned (.int .i64 0)/\Below w.heap.size w w':=by
 have he:(Pa n).E Dl 0 true [.ag ((HJ a c d f).map .d),.ag ((Hz g i j k l m o p).map .d)] (fun _=>none) some=some ⟨.d (.int .i64 0),[],[]⟩:=by
  show gb true (WQ n a c d f g i j k l m o p some) 0 (fun r=>(some ⟨.d (D.int .i64 r),[],[]⟩:Option Dl))=_;rw [h];rfl
 exact K5 (Yv ((Pa n).ok) he) hS (T0 (RdLs.agg q) (RdLs.agg s))
theorem C9 {n:Nat} {a c d f:LL} {g:Int} {i j k l m o p:LL} (h:Vo n a c d f g i j k l m o p some=some 0) {S:Nat->Prop} {w:World} (hS:∀ b,S b->b<w.heap.size) {vs us:List Value} (q:RdLs S w vs (HJ a c d f)) (s:RdLs S w us (Hz g i j k l m o p)) :
  Calls Tryz.prog 91 #[.agg vs.toArray,.agg us.toArray] w fun e w'=>e = .returned (.int .i64 0)/\Below w.heap.size w w':=by
 have he:(Sw n).E Dl 0 true [.ag ((HJ a c d f).map .d),.ag ((Hz g i j k l m o p).map .d)] (fun _=>none) some=some ⟨.d (.int .i64 0),[],[]⟩:=by
  show gb true (Vo n a c d f g i j k l m o p some) 0 (fun r=>(some ⟨.d (D.int .i64 r),[],[]⟩:Option Dl))=_;rw [h];rfl
 exact K5 (Yv ((Sw n).ok) he) hS (T0 (RdLs.agg q) (RdLs.agg s))
theorem C6 {n:Nat} {a c d f:LL} {g:Int} {i j k l m o p:LL} (h:Vh n a c d f g i j k l m o p some=some 0) {S:Nat->Prop} {w:World} (hS:∀ b,S b->b<w.heap.size) {vs us:List Value} (q:RdLs S w vs (HJ a c d f)) (s:RdLs S w us (Hz g i j k l m o p)) :
  Calls Tryz.prog 92 #[.agg vs.toArray,.agg us.toArray] w fun e w'=>e = .returned (.int .i64 0)/\Below w.heap.size w w':=by
 have he:(SI n).E Dl 0 true [.ag ((HJ a c d f).map .d),.ag ((Hz g i j k l m o p).map .d)] (fun _=>none) some=some ⟨.d (.int .i64 0),[],[]⟩:=by
  show gb true (Vh n a c d f g i j k l m o p some) 0 (fun r=>(some ⟨.d (D.int .i64 r),[],[]⟩:Option Dl))=_;rw [h];rfl
 exact K5 (Yv ((SI n).ok) he) hS (T0 (RdLs.agg q) (RdLs.agg s))
theorem E2 {n:Nat} {a c d f:LL} {g:Int} {i j k l m o p:LL} (h:WJ n a c d f g i j k l m o p some=some 0) {S:Nat->Prop} {w:World} (hS:∀ b,S b->b<w.heap.size) {vs us:List Value} (q:RdLs S w vs (HJ a c d f)) (s:RdLs S w us (Hz g i j k l m o p)) :
  Calls Tryz.prog 93 #[.agg vs.toArray,.agg us.toArray] w fun e w'=>e = .returned (.int .i64 0)/\Below w.heap.size w w':=by
 have he:(TQ n).E Dl 0 true [.ag ((HJ a c d f).map .d),.ag ((Hz g i j k l m o p).map .d)] (fun _=>none) some=some ⟨.d (.int .i64 0),[],[]⟩:=by
  show gb true (WJ n a c d f g i j k l m o p some) 0 (fun r=>(some ⟨.d (D.int .i64 r),[],[]⟩:Option Dl))=_;rw [h];rfl
 exact K5 (Yv ((TQ n).ok) he) hS (T0 (RdLs.agg q) (RdLs.agg s))
theorem Eb:∀ (n k:Nat),Hg (fun _=>0) n k=0
 |0,_=>rfl
 |n+1,k=>by simp [Hg,Eb n (k+1)]
theorem Q5l (n:Nat) (a c d f:LL) (g:Int) (i j l m o p q:LL) (res:Int) {hl:Nat->Option Ob} (h:WS n a c d f g i j l m o p q some=some res):Wn Tryz.prog 55 [.ag [.d (D.sl 1 a),.d (D.sl 1 c),.d (D.sl 5 d),.d (D.sl 6 f)],.ag [.d (D.int .i64 g),.d (D.sl 5 i),.d (D.sl 2 j),.d (D.sl 4 l),.d (D.sl 7 m),.d (D.sl 4 o),.d (D.sl 5 p),.d (D.sl 3 q)]] hl ⟨.d (D.int .i64 res),[],[]⟩:=by
 obtain ⟨al,h⟩:=Qz h;injection h with h
 subst h;simp only [Q9o,Qkw] at al;obtain ⟨⟨⟨⟨⟨⟨⟨k0,k1⟩,k2⟩,k3⟩,k4⟩,k5⟩,k6⟩,k7⟩:=al;refine Ln (fn:=Tryz.f55) (by kernel_rfl) (by kernel_rfl) (by kernel_rfl) rfl rfl fun S w args hS hA=>?_
 obtain ⟨v,u,rfl,hv,hu⟩:=QaB hA;obtain ⟨vs,rfl,hr⟩:=Q4N (xs:=HJ a c d f) hv;obtain ⟨us,rfl,hq⟩:=Q4N (xs:=Hz g i j l m o p q) hu;have am:=hr.len;have an:=hq.len
 match vs,us,am,an with
 |[r,s,t,y],[z,u1,u2,u3,u4,u5,u6,u7],_,_=>
  refine (Tryz.plancheck_calls w r s t y z u1 u2 u3 u4 u5 u6 u7 (fun _=>0) (fun k hk w' hs hw=>?_) (fun x hx=>?_)).mono fun e w' ⟨he,hB⟩=>?_
  ·have aj:∀ b,S b->b<w'.heap.size:=fun b hb=>QkA (hS b hb) hs
   have ac:=hr.keep hS hw;have ak:=hq.keep hS hw;obtain rfl | rfl | rfl | rfl | rfl | rfl | rfl | rfl:k=0\/k=1\/k=2\/k=3\/k=4\/k=5\/k=6\/k=7:=by omega
   ·exact CJ (Jg k0) aj ac ak
   ·exact Dp (Jg k1) aj ac ak
   ·exact Dw (Jg k2) aj ac ak
   ·exact CL (Jg k3) aj ac ak
   ·exact Fo (Jg k4) aj ac ak
   ·exact C9 (Jg k5) aj ac ak
   ·exact C6 (Jg k6) aj ac ak
   ·exact E2 (Jg k7) aj ac ak
  ·rcases List.mem_append.1 (show x∈[r,s,t,y]++[z,u1,u2,u3,u4,u5,u6,u7] from hx) with h | h
   ·exact hr.one x h
   ·exact hq.one x h
  ·rw [Eb] at he;exact ⟨_,S,he,fun b h=>h,fun b h=>.inl h,fun b h=>QkA (hS b h) hB.size,.d _ _ (.int _ _),hB⟩
end Go.Vx
namespace Go.Vx
open Go.Proofs
variable (n:Nat)
def Hx (n:Nat):Kf:=fun _ _ g aj _ k=>match aj with
 | [c0,c1]=>
  prG c0 fun l0=>(match l0 with
  | [a,b,c,d]=>prS g 1 a fun e=>prS g 1 b fun f=>prS g 5 c fun h=>prS g 6 d fun i=>
  prG c1 fun l1=>(match l1 with
  | [j,l,m,o,p,q,s,t]=>prI g .i64 j fun u=>prS g 5 l fun v=>prS g 2 m fun x=>prS g 4 o fun y=>prS g 7 p fun z=>prS g 4 q fun aa=>prS g 5 s fun ab=>prS g 3 t fun ac=>
  gb g (WS n e f h i u v x y z aa ab ac some) 0 fun r=>k ⟨.d (D.int .i64 r),[],[]⟩
  | _=>none)
  | _=>none)
 | _=>none
theorem Ru (n:Nat):Uo Tryz.prog 55 (Hx n):=by
  intro R ak g al hl k r h
  unfold Hx at h
  split at h
  rotate_left
  · cases h
  replace h:=B5 h
  obtain ⟨l0,h,q⟩:=h
  subst q
  split at h
  rotate_left
  · cases h
  replace h:=Uh h
  obtain ⟨a,h,s⟩:=h
  replace h:=Uh h
  obtain ⟨b,h,t⟩:=h
  replace h:=Uh h
  obtain ⟨c,h,u⟩:=h
  replace h:=Uh h
  obtain ⟨d,h,v⟩:=h
  replace h:=B5 h
  obtain ⟨l1,h,e1⟩:=h
  subst e1
  split at h
  rotate_left
  · cases h
  replace h:=V9 h
  obtain ⟨e,h,x⟩:=h
  replace h:=Uh h
  obtain ⟨f,h,y⟩:=h
  replace h:=Uh h
  obtain ⟨i,h,z⟩:=h
  replace h:=Uh h
  obtain ⟨j,h,aa⟩:=h
  replace h:=Uh h
  obtain ⟨l,h,ab⟩:=h
  replace h:=Uh h
  obtain ⟨m,h,ac⟩:=h
  replace h:=Uh h
  obtain ⟨o,h,ad⟩:=h
  replace h:=Uh h
  obtain ⟨p,h,ae⟩:=h
  replace h:=Qm h
  obtain ⟨res,h,hr⟩:=h
  exact ⟨_,h,fun hg=>Wn.conv (avs':=[.ag [.d (D.sl 1 a),.d (D.sl 1 b),.d (D.sl 5 c),.d (D.sl 6 d)],.ag [.d (D.int .i64 e),.d (D.sl 5 f),.d (D.sl 2 i),.d (D.sl 4 j),.d (D.sl 7 l),.d (D.sl 4 m),.d (D.sl 5 o),.d (D.sl 3 p)]]) (.cons (.ag (.cons (s hg) (.cons (t hg) (.cons (u hg) (.cons (v hg) .nil))))) (.cons (.ag (.cons (x hg) (.cons (y hg) (.cons (z hg) (.cons (aa hg) (.cons (ab hg) (.cons (ac hg) (.cons (ad hg) (.cons (ae hg) .nil))))))))) .nil)) (Q5l n a b c d e f i j l m o p res (hr hg))⟩
end Go.Vx
set_option maxRecDepth 100000
namespace Go.Vx
open Go.Proofs
variable (n:Nat)
def Zo (n:Nat):BZ9:=Xa [] []
def KC:LZ9:=mkU (Zo n).ok nT 5 Tryz.f114 [(0,.ptr 1000000 0),(2,tI),(9,.l 4),(10,tI),(11,tI),(34,tI),(35,tI)] [(98012,.arr 3 1),(98013,.arr 82 1),(98014,.arr 3 1),(98015,.arr 244 4),(98017,.arr 89 3),(98018,.arr 99 6),(1000000,bT 217 [(12,.arr 98012),(13,.arr 98013),(14,.arr 98014),(15,.arr 98015),(17,.arr 98017),(18,.arr 98018)])] 118666 [xE 2 [(36,.b)]] @Xd n
def KS:LZ9:=mkU (Zo n).ok [KC n n] 1 Tryz.f114 [(0,.ptr 1000000 0),(9,.l 4),(10,tI),(11,tI)] [(98012,.arr 3 1),(98013,.arr 82 1),(98014,.arr 3 1),(98015,.arr 244 4),(98017,.arr 89 3),(98018,.arr 99 6),(1000000,bT 217 [(12,.arr 98012),(13,.arr 98013),(14,.arr 98014),(15,.arr 98015),(17,.arr 98017),(18,.arr 98018)])] 4450 [xE 0 [(12,.b)]] @QT n
def Hy:EZ9 114:=mkW (Zo n).ok [KS n n] 114 Tryz.f114 (pT 1000000 217 [(12,eR 1000001 3 1),(13,eR 1000002 82 1),(14,eR 1000003 3 1),(15,eR 1000004 244 4),(17,eR 1000005 89 3),(18,eR 1000006 99 6)] []) [eT 0] [] 388991 389119 @YP n
def M4 (n:Nat):BZ9:=Xa [] []
def Ab:LZ9:=mkU (M4 n).ok nT 2 Tryz.f158 [(1,tI),(8,.l 4),(9,tI),(10,tI)] [] 67 [.f .ret [(4,tI)] [] [0],xE 0 [(11,.b)]] @Vm n
def AT:EZ9 158:=mkD (M4 n).ok [Ab n n] 158 Tryz.f158 0 @Hm n
def Td:BZ9:=Xa [⟨130,HM n⟩] []
def MP:LZ9:=mkU (Td n).ok nT 6 Tryz.f254 [(0,.l 2),(1,tI),(17,.l 2),(18,tI),(19,tI)] [] 198 [.f .ret [(6,.ci .i64 4)] [] [],xE 1 [(20,.b)]] @Z6 n
def LS:EZ9 254:=mkD (Td n).ok [MP n n] 254 Tryz.f254 0 @Jx n
def SQ (n:Nat):BZ9:=Xa [] []
def Dg:LZ9:=mkU (SQ n).ok nT 3 Tryz.f259 [(7,tI),(20,.l 2),(21,tI),(22,tI)] [] 68 [xE 0 [(23,.b)]] @WU n
def Ca:EZ9 259:=mkD (SQ n).ok [Dg n n] 259 Tryz.f259 0 @JW n
def Al:EZ9 260:=mkD (Xa [] []).ok nT 260 Tryz.f260 0 @Tx n
def Ad:EZ9 261:=mkD (Xa [] []).ok nT 261 Tryz.f261 0 @Te n
def G6:BZ9:=Xa [⟨259,Ca n⟩,⟨260,Al n⟩,⟨261,Ad n⟩] []
def Lx:LZ9:=mkU (G6 n).ok nT 5 Tryz.f255 [(0,.l 2),(1,tI),(5,.ptr 5 0),(7,tI),(8,.arr 20),(9,tI),(10,tI)] [(5,bT 59 []),(20,.arr 3 1)] 147730 [xE 0 [(29,.b)]] @YH n
def LU:LZ9:=mkU (G6 n).ok nT 12 Tryz.f255 [(0,.l 2),(1,tI),(5,.ptr 5 0),(8,.arr 20),(13,tI)] [(5,bT 59 []),(20,.arr 3 1)] 16411 [xE 2 [(68,.b)]] @Zp n
def FK:EZ9 255:=mkW (G6 n).ok [Lx n n,LU n n] 255 Tryz.f255 [sL 2,sI,eA [qT,qI,qI,qI,qI]] [eR 20 3 1] [] 0 0 @G0 n
def FQ (n:Nat):BZ9:=Xa [] []
def Q21:LZ9:=mkU (FQ n).ok nT 3 Tryz.f256 [(0,tI),(3,tI),(4,tI)] [] 25 [xE 0 [(7,.b)]] @VK n
def Q3L:EZ9 256:=mkD (FQ n).ok [Q21 n n] 256 Tryz.f256 0 @Ss n
def Pz:BZ9:=Xa [⟨254,LS n⟩,⟨255,FK n⟩,⟨256,Q3L n⟩] []
def E5:LZ9:=mkU (Pz n).ok nT 6 Tryz.f247 [(9,.arr 50022),(23,.arr 50022),(24,tI),(25,tI)] [(50022,.arr 3 1)] 25 [xE 0 [(26,.b)]] @W0 n
def DB:EZ9 247:=mkD (Pz n).ok [E5 n n] 247 Tryz.f247 0 @GF n
def Mm:EZ9 234:=mkD (Xa [] []).ok nT 234 Tryz.f234 0 @Kg n
def SC:BZ9:=Xa [⟨247,DB n⟩,⟨234,Mm n⟩] []
def EI:LZ9:=mkU (SC n).ok nT 6 Tryz.f232 [(8,.l 1),(10,.arr 26),(11,tI)] [(26,.arr 3 1)] 25 [xE 0 [(30,.b)]] @WZ n
def CE:EZ9 232:=mkD (SC n).ok [EI n n] 232 Tryz.f232 0 @JK n
def Eo:EZ9 206:=mkD (Xa [⟨234,Mm n⟩] []).ok nT 206 Tryz.f206 0 @G3 n
def SJ:BZ9:=Xa [⟨219,Lb n⟩,⟨232,CE n⟩,⟨233,Tb n⟩,⟨206,Eo n⟩] [(7,⟨[],[],[(6,1006,3,1),(7,1007,3,1)],[],[]⟩)]
def Di:LZ9:=mkU (SJ n).ok nT 8 Tryz.f205 [(3,.ptr 3 0),(5,.ptr 5 0),(6,.arr 1006),(7,.arr 1007),(11,.l 1),(13,.l 2),(14,tI),(38,.l 2),(39,tI),(40,tI)] [(3,bT 27 []),(5,bT 59 []),(1006,.arr 3 1),(1007,.arr 3 1)] 114975580 [xE 0 [(41,.b)]] @Yd n
def Cm:EZ9 205:=mkD (SJ n).ok [Di n n] 205 Tryz.f205 0 @Hj n
def Cq:EZ9 235:=mkD (Xa [] []).ok nT 235 Tryz.f235 0 @PM n
def AC:EZ9 207:=mkD (Xa [⟨235,Cq n⟩] []).ok nT 207 Tryz.f207 0 @VH n
def LQ:EZ9 208:=mkW (Xa [] []).ok nT 208 Tryz.f208 [eA [qL 1,qL 1,qL 5,qL 6]] [eR 10 146 3] [] 0 0 @Jr n
def Gp (n:Nat):BZ9:=Xa [] [cO 0 [1,2,3,8] [1000000],cO 1 [1,2,3,8,20] [1000000],cO 2 [1,2,3,8] [1000000],cO 3 [] [1000000]]
def Vk:AV->List (Nat × Ob)->Option (LL):=fun av H=>(look H 1000000).bind fun a=>match av,a with
 | .tup [],.arr p0 p1 b=>bif Nat.beq p0 146&&(Nat.beq p1 3) then some b else none
 | _,_=>none
theorem S4 (n:Nat) (a:LL) (a1 a2 b:Int):vfnT (Gp n).C nT Tryz.f209 [.arr 1000000,.d (D.int .i64 a1),.d (D.int .i64 a2),.d (D.int .i64 b)] [(1000000,.arr 146 3 a)] Vk=Xb n a a1 a2 b some:=by kernel_rfl
def VJ (n:Nat):Kf:=fun _ aj g ac hl k=>match ac with
 | [.gd _ _ .nil]=>bif g then none else k ⟨.nil,[],[]⟩
 | [c0,c1,b,c]=>prR hl 146 3 c0 fun l0 a=>prI g .i64 c1 fun a1=>prI g .i64 b fun a2=>prI g .i64 c fun d=>
  bif Gq hl [(1000000,l0)] [] then gb g (Xb n a a1 a2 d some) [] fun r=>gb g (G2 r (List.length a)) () fun _=>k ⟨.tup [],[(l0,some (.arr 146 3 r))],[l0]⟩ else none
 | _=>none
theorem Sz (n:Nat):Uo Tryz.prog 209 (VJ n):=by
  intro R al g ao hl k r h
  unfold VJ at h
  split at h
  · exact JN h
  rotate_left
  · cases h
  obtain ⟨l0,a,h,d,e⟩:=To h
  obtain ⟨a1,h,f⟩:=V9 h
  obtain ⟨a2,h,i⟩:=V9 h
  obtain ⟨b,h,j⟩:=V9 h
  obtain ⟨hc,h⟩:=Qz h
  obtain ⟨res,h,hr⟩:=Qm h
  obtain ⟨_,h,ac⟩:=Qm h
  have hL:=h
  subst d
  refine ⟨_,hL,fun hg=>RM (K:=Vk) (res:=res) (Gp n).ok nT (fn:=Tryz.f209) (ρ:=[(1000000,l0)]) (ν:=[]) (avs':=[.arr 1000000,.d (D.int .i64 a1),.d (D.int .i64 a2),.d (D.int .i64 b)]) (H:=[(1000000,.arr 146 3 a)]) (.cons (.own rfl rfl) (.cons (.data rfl (f hg)) (.cons (.data rfl (i hg)) (.cons (.data rfl (j hg)) (.nil))))) hc (⟨⟨by decide,_,_,e,rfl,.arr _ _ _⟩,trivial⟩) ?_ ?_⟩
  · exact (S4 n a a1 a2 b).trans (hr hg)
  · intro av H' hx
    unfold Vk at hx
    simp only [Qkz] at hx
    obtain ⟨l,c,hx⟩:=hx
    split at hx
    rotate_left
    · cases hx
    replace hx:=Qz hx
    obtain ⟨ak,hx⟩:=hx
    simp only [Qkw,Nat.beq_eq] at ak
    obtain ⟨rfl,rfl⟩:=ak
    injection hx with hx
    subst hx
    refine ⟨rfl,?_,trivial,⟨Jn rfl c (VX (ac hg)),trivial⟩⟩
    simp only [QkE,QkD,HN,c,QkG,QkF]
    rfl
def Q3m:EZ9 248:=mkD (Xa [⟨126,⟨JP n,TY n⟩⟩] []).ok nT 248 Tryz.f248 0 @Mt n
def Q0d:EZ9 249:=mkD (Xa [] []).ok nT 249 Tryz.f249 0 @M0 n
def L0:BZ9:=Xa [⟨248,Q3m n⟩,⟨213,TD n⟩,⟨249,Q0d n⟩] [(7,⟨[],[],[(6,1006,184,4)],[],[]⟩)]
def Q0s:LZ9:=mkU (L0 n).ok nT 8 Tryz.f236 [(5,.ptr 5 0),(6,.arr 1006),(23,.l 6),(24,tI),(25,tI)] [(5,.box [tI,tI]),(1006,.arr 184 4)] 616 [xE 0 [(26,.b)]] @WE n
def Q2h:EZ9 236:=mkD (L0 n).ok [Q0s n n] 236 Tryz.f236 0 @LD n
def Gv:BZ9:=Xa [⟨236,Q2h n⟩] []
def SO:LZ9:=mkU (Gv n).ok nT 2 Tryz.f210 [(5,.ptr 5 0),(11,.l 4),(12,tI),(13,tI)] [(5,.box [tI,tI])] 130 [.f .ret [(6,tI)] [] [0],xE 0 [(14,.b)]] @ZS n
def Rq:EZ9 210:=mkD (Gv n).ok [SO n n] 210 Tryz.f210 0 @ZH n
def Ky (n:Nat):BZ9:=Xa [] [(2,⟨[],[],[(3,1003,146,3)],[],[]⟩)]
def Nl:LZ9:=mkU (Ky n).ok nT 3 Tryz.f211 [(3,.arr 1003),(6,.l 3),(7,tI),(8,tI)] [(1003,.arr 146 3)] 76 [xE 0 [(9,.b)]] @Ye n
def NS:EZ9 211:=mkW (Ky n).ok [Nl n n] 211 Tryz.f211 [sL 3] [eR 1003 146 3] [] 0 0 @VM n
def VA:BZ9:=Xa [⟨205,Cm n⟩,⟨206,Eo n⟩,⟨207,AC n⟩,⟨208,LQ n⟩,⟨209,⟨VJ n,Sz n⟩⟩,⟨210,Rq n⟩,⟨211,NS n⟩] []
def Rv:LZ9:=mkU (VA n).ok nT 7 Tryz.f173 [(4,tI),(5,.ptr 5 0),(6,.ptr 6 0),(13,.l 1),(14,.l 1),(15,tI),(17,tI),(18,.arr 48),(19,tI)] [(5,bT 27 []),(6,.box [.l 2,tI]),(48,.arr 146 3)] 1063461 [xE 0 [(51,.b)]] @Y3 n
def Rs:LZ9:=mkU (VA n).ok nT 14 Tryz.f173 [(5,.ptr 5 0),(6,.ptr 6 0),(15,tI),(17,tI),(18,.arr 84),(20,.ptr 20 0),(21,.arr 50095),(97,.l 2),(98,tI),(99,tI)] [(5,bT 27 []),(6,.box [.l 2,tI]),(20,.box [.ci .i64 0,tI,tI]),(84,.arr 146 3),(50095,.arr 146 3)] 13492776 [xE 2 [(100,.b)]] @Qk n
def Kz:EZ9 173:=mkD (VA n).ok [Rv n n,Rs n n] 173 Tryz.f173 0 @Wm n
def BZ:EZ9 159:=mkD (Xa [⟨183,NT n⟩,⟨173,Kz n⟩] []).ok nT 159 Tryz.f159 0 @Wu n
def HS:BZ9:=Xa [⟨55,⟨Hx n,Ru n⟩⟩,⟨158,AT n⟩,⟨159,BZ n⟩] [(5,⟨[],[],[(7,1007,82,1),(8,1008,3,1)],[],[]⟩)]
def CA:LZ9:=mkU (HS n).ok nT 9 Tryz.f115 [(2,.ptr 2 0),(3,.ptr 3 0),(7,.arr 1007),(8,.arr 1008),(9,tI),(10,.ptr 10 0),(23,.l 4),(24,tI),(25,tI),(31,.l 4),(32,tI),(33,tI)] [(2,bT 27 []),(3,bT 36 []),(10,.box [.x,.x,.x,.x]),(1007,.arr 82 1),(1008,.arr 3 1)] 788594406049 [.f .ret [(4,.nil),(5,.nil),(6,tI)] [] [0],xE 2 [(34,.b)]] @Yl n
def Cj:LZ9:=mkU (HS n).ok [CA n n] 6 Tryz.f115 [(2,.ptr 2 0),(3,.ptr 3 0),(7,.arr 1007),(8,.arr 1008),(23,.l 4),(24,tI),(25,tI)] [(2,bT 27 []),(3,bT 36 []),(1007,.arr 82 1),(1008,.arr 3 1)] 121965718 [.f .ret [(4,.nil),(5,.nil),(6,tI)] [] [0],xE 0 [(26,.b)]] @Wg n
def Ai:EZ9 115:=mkD (HS n).ok [Cj n n] 115 Tryz.f115 0 @Ts n
def JT:EZ9 161:=mkW (Xa [] []).ok nT 161 Tryz.f161 (pT 1000000 217 [(12,eR 1000001 3 1),(15,eR 1000002 244 4),(17,eR 1000003 89 3),(18,eR 1000004 99 6)] [sI,sI]) [sI] [] 520191 1048574 @Y5 n
def TB:EZ9 160:=mkW (Xa [] []).ok nT 160 Tryz.f160 (pT 1000000 217 [(12,eR 1000001 3 1),(15,eR 1000002 244 4),(17,eR 1000003 89 3),(18,eR 1000004 99 6)] [sI,sI,sI,sI,sI]) [eT 0] [] 475135 491519 @Yr n
def PO:EZ9 162:=mkW (Xa [⟨161,JT n⟩] []).ok nT 162 Tryz.f162 (pT 1000000 217 [(12,eR 1000001 3 1),(15,eR 1000002 244 4),(17,eR 1000003 89 3),(18,eR 1000004 99 6)] [sI]) [sI] [] 520063 1048574 @Wt n
def Yw:BZ9:=Xa [⟨161,JT n⟩,⟨160,TB n⟩,⟨162,PO n⟩] []
def Hl:LZ9:=mkU (Yw n).ok nT 4 Tryz.f116 [(0,.ptr 1000000 0),(2,tI),(13,.l 4),(14,tI),(15,tI),(26,.l 4),(27,tI),(28,tI)] [(98012,.arr 3 1),(98015,.arr 244 4),(98017,.arr 89 3),(98018,.arr 99 6),(1000000,bT 217 [(12,.arr 98012),(15,.arr 98015),(17,.arr 98017),(18,.arr 98018)])] 282429553573 [xE 2 [(29,.b)]] @Xp n
def Ht:LZ9:=mkU (Yw n).ok [Hl n n] 1 Tryz.f116 [(0,.ptr 1000000 0),(13,.l 4),(14,tI),(15,tI)] [(98012,.arr 3 1),(98015,.arr 244 4),(98017,.arr 89 3),(98018,.arr 99 6),(1000000,bT 217 [(12,.arr 98012),(15,.arr 98015),(17,.arr 98017),(18,.arr 98018)])] 3486784612 [xE 0 [(16,.b)]] @QE n
def HH:LZ9:=mkU (Yw n).ok nT 10 Tryz.f116 [(0,.ptr 1000000 0),(56,.l 4),(57,tI),(58,tI)] [(98012,.arr 3 1),(98015,.arr 244 4),(98017,.arr 89 3),(98018,.arr 99 6),(1000000,bT 217 [(12,.arr 98012),(15,.arr 98015),(17,.arr 98017),(18,.arr 98018)])] 3491567581 [xE 4 [(59,.b)]] @Xo n
def HV:EZ9 116:=mkW (Yw n).ok [Ht n n,HH n n] 116 Tryz.f116 (pT 1000000 217 [(12,eR 1000001 3 1),(15,eR 1000002 244 4),(17,eR 1000003 89 3),(18,eR 1000004 99 6)] []) [eT 0] [] 470399 491519 @YW n
def Na (n:Nat):BZ9:=Xa [] []
def Cg:LZ9:=mkU (Na n).ok nT 3 Tryz.f201 [(3,tI),(6,.l 3),(7,tI),(8,tI)] [] 68 [.f .ret [(2,.cb false)] [] [],xE 0 [(9,.b)]] @Ux n
def Nt:EZ9 201:=mkD (Na n).ok [Cg n n] 201 Tryz.f201 0 @JB n
def N6:BZ9:=Xa [⟨201,Nt n⟩] []
def Cr:LZ9:=mkU (N6 n).ok nT 4 Tryz.f163 [(0,tI),(18,.l 3),(19,tI),(20,tI)] [] 67 [.f .ret [(4,.cb false)] [] [],xE 0 [(21,.b)]] @UC n
def A9:EZ9 163:=mkD (N6 n).ok [Cr n n] 163 Tryz.f163 0 @Ti n
def Jb:EZ9 165:=mkW (Xa [] []).ok nT 165 Tryz.f165 (eA [qI,qI,qI]::eA [qI,qI,qI]::pT 1000000 244 [] (eP 1000001 1::sB::eP 1000002 1::pT 1000003 217 [(12,eR 1000004 3 1),(17,eR 1000005 89 3),(18,eR 1000006 99 6)] [])) [eT 0] [] 1073707209 16777199 @Yp n
def Up:BZ9:=Xa [⟨165,Jb n⟩] []
def Pk:LZ9:=mkU (Up n).ok nT 5 Tryz.f164 [(0,.ptr 1000000 0),(2,.fn 165 [.ptr 1000004 0,.ptr 1000005 0,.ptr 1000006 0]),(4,.ptr 4 0),(7,.ptr 7 0),(17,.l 3),(18,tI),(19,tI),(30,.l 3),(31,tI),(32,tI)] [(4,bT 244 []),(7,.box [.x,.x,.x]),(98012,.arr 3 1),(98017,.arr 89 3),(98018,.arr 99 6),(1000000,bT 217 [(12,.arr 98012),(17,.arr 98017),(18,.arr 98018)]),(1000004,bT 244 []),(1000005,.box [.b]),(1000006,.box [.ptr 1000000 0])] 366898000880223711 [xE 2 [(33,.b)]] @QP n
def Pg:LZ9:=mkU (Up n).ok [Pk n n] 2 Tryz.f164 [(0,.ptr 1000000 0),(2,.fn 165 [.ptr 1000004 0,.ptr 1000005 0,.ptr 1000006 0]),(4,.ptr 4 0),(17,.l 3),(18,tI),(19,tI)] [(4,bT 244 []),(98012,.arr 3 1),(98017,.arr 89 3),(98018,.arr 99 6),(1000000,bT 217 [(12,.arr 98012),(17,.arr 98017),(18,.arr 98018)]),(1000004,bT 244 []),(1000005,.box [.b]),(1000006,.box [.ptr 1000000 0])] 503320819852066 [xE 0 [(20,.b)]] @Xu n
def S1:EZ9 164:=mkW (Up n).ok [Pg n n] 164 Tryz.f164 (pT 1000000 217 [(12,eR 1000001 3 1),(17,eR 1000002 89 3),(18,eR 1000003 99 6)] (eA [qI,qI,qI,qI]::eF 165 3::pT 1000004 244 [] [eP 1000005 1,sB,eP 1000006 1,eS 1000000])) [eT 0] [] 29876207 8388607 @Wo n
def Ub:BZ9:=Xa [⟨163,A9 n⟩,⟨164,S1 n⟩] [(5,⟨[],[],[],[],[98015]⟩),(7,⟨[],[],[],[],[98015]⟩)]
def P8:LZ9:=mkU (Ub n).ok nT 2 Tryz.f117 [(1,.ptr 1 0),(11,.l 1),(12,tI),(13,tI)] [(1,.box [.ptr 1000000 0]),(98012,.arr 3 1),(98015,.arr 244 4),(98017,.arr 89 3),(98018,.arr 99 6),(1000000,bT 217 [(12,.arr 98012),(15,.arr 98015),(17,.arr 98017),(18,.arr 98018)])] 177169 [.f .ret [(2,.cb false)] [(98012,.arr 3 1),(98017,.arr 89 3),(98018,.arr 99 6),(1000000,bT 217 [(12,.arr 98012),(17,.arr 98017),(18,.arr 98018)])] [4,6,7,8,9,10,11,12,13,14,15,16,17,18,19,20,21,5,22],xE 0 [(14,.b)]] @XO n
def Pb:LZ9:=mkU (Ub n).ok nT 8 Tryz.f117 [(1,.ptr 1 0),(29,.l 4),(30,tI),(31,tI)] [(1,.box [.ptr 1000000 0]),(98012,.arr 3 1),(98017,.arr 89 3),(98018,.arr 99 6),(1000000,bT 217 [(12,.arr 98012),(17,.arr 98017),(18,.arr 98018)])] 387479560 [.f .ret [(2,.cb false)] [(98012,.arr 3 1),(98017,.arr 89 3),(98018,.arr 99 6),(1000000,bT 217 [(12,.arr 98012),(17,.arr 98017),(18,.arr 98018)])] [4,5,6,7,8,9,10,11,12,13,14,15,16,17,18,19,20,21,22],xE 2 [(32,.b)]] @Xk n
def Ph:EZ9 117:=mkW (Ub n).ok [P8 n n,Pb n n] 117 Tryz.f117 (pT 1000000 217 [(12,eR 1000001 3 1),(15,eR 1000002 244 4),(17,eR 1000003 89 3),(18,eR 1000004 99 6)] []) [sB] [(17,sL 4)] 483311 1048574 @Wa n
def JR:EZ9 161:=mkW (Xa [] []).ok nT 161 Tryz.f161 (pT 1000000 217 [(12,eR 1000001 3 1),(17,eR 1000002 89 3),(18,eR 1000003 99 6)] [sI,sI]) [sI] [] 520191 1048574 @X8 n
def N3:EZ9 167:=mkD (Xa [] []).ok nT 167 Tryz.f167 0 @YD n
def Cc:EZ9 168:=mkD (Xa [] []).ok nT 168 Tryz.f168 0 @UU n
def Gt:EZ9 166:=mkW (Xa [] []).ok nT 166 Tryz.f166 (pT 1000000 217 [(12,eR 1000001 3 1),(17,eR 1000002 89 3),(18,eR 1000003 99 6)] [sI,sI,sI,sI,sI,sI]) [eT 0] [] 262143 262143 @Xn n
def PU:EZ9 162:=mkW (Xa [⟨161,JR n⟩] []).ok nT 162 Tryz.f162 (pT 1000000 217 [(12,eR 1000001 3 1),(17,eR 1000002 89 3),(18,eR 1000003 99 6)] [sI]) [sI] [] 520063 1048574 @Vz n
def X7:BZ9:=Xa [⟨161,JR n⟩,⟨167,N3 n⟩,⟨168,Cc n⟩,⟨166,Gt n⟩,⟨162,PU n⟩] []
def Km:LZ9:=mkU (X7 n).ok nT 4 Tryz.f118 [(0,.ptr 1000000 0),(2,tI),(3,.ptr 3 0),(20,.l 4),(21,tI),(22,tI),(28,.l 4),(29,tI),(30,tI)] [(3,.box [.x,.x,.x,.x]),(98012,.arr 3 1),(98017,.arr 89 3),(98018,.arr 99 6),(1000000,bT 217 [(12,.arr 98012),(17,.arr 98017),(18,.arr 98018)])] 7625600931295 [xE 2 [(31,.b)]] @Qv n
def Kp:LZ9:=mkU (X7 n).ok [Km n n] 1 Tryz.f118 [(0,.ptr 1000000 0),(20,.l 4),(21,tI),(22,tI)] [(98012,.arr 3 1),(98017,.arr 89 3),(98018,.arr 99 6),(1000000,bT 217 [(12,.arr 98012),(17,.arr 98017),(18,.arr 98018)])] 1162262002 [xE 0 [(23,.b)]] @QL n
def Ko:LZ9:=mkU (X7 n).ok nT 14 Tryz.f118 [(0,.ptr 1000000 0),(84,.l 7),(85,tI),(86,tI)] [(98012,.arr 3 1),(98017,.arr 89 3),(98018,.arr 99 6),(1000000,bT 217 [(12,.arr 98012),(17,.arr 98017),(18,.arr 98018)])] 535 [xE 4 [(87,.b)]] @QN n
def Kt:LZ9:=mkU (X7 n).ok nT 20 Tryz.f118 [(0,.ptr 1000000 0),(119,.l 4),(120,tI),(121,tI)] [(98012,.arr 3 1),(98017,.arr 89 3),(98018,.arr 99 6),(1000000,bT 217 [(12,.arr 98012),(17,.arr 98017),(18,.arr 98018)])] 1594858 [xE 6 [(122,.b)]] @QM n
def Kv:LZ9:=mkU (X7 n).ok nT 25 Tryz.f118 [(0,.ptr 1000000 0),(146,.l 5),(147,tI),(148,tI)] [(98012,.arr 3 1),(98017,.arr 89 3),(98018,.arr 99 6),(1000000,bT 217 [(12,.arr 98012),(17,.arr 98017),(18,.arr 98018)])] 535 [xE 8 [(149,.b)]] @QO n
def KQ:EZ9 118:=mkW (X7 n).ok [Kp n n,Ko n n,Kt n n,Kv n n] 118 Tryz.f118 (pT 1000000 217 [(12,eR 1000001 3 1),(17,eR 1000002 89 3),(18,eR 1000003 99 6)] []) [eT 0] [] 239743 262143 @YF n
def UJ:EZ9 202:=mkW (Xa [] []).ok nT 202 Tryz.f202 [eA [qI,qI,qI],eA [qI,qI,qI],eP 1000000 1,eM 1000001 248] [eT 0] [(2,eH 1000001)] 62 0 @XF n
def Uq:BZ9:=Xa [⟨202,UJ n⟩] []
def Pi:LZ9:=mkU (Uq n).ok nT 5 Tryz.f164 [(0,.ptr 1000000 0),(2,.fn 202 [.ptr 1000004 0]),(4,.ptr 4 0),(7,.ptr 7 0),(17,.l 3),(18,tI),(19,tI),(30,.l 3),(31,tI),(32,tI)] [(4,bT 244 []),(7,.box [.x,.x,.x]),(98012,.arr 3 1),(98017,.arr 89 3),(98018,.arr 99 6),(1000000,bT 217 [(12,.arr 98012),(17,.arr 98017),(18,.arr 98018)]),(1000004,.box [.arr 1000005]),(1000005,.mp 248)] 3706040378478474 [xE 2 [(33,.b)]] @X5 n
def Pl:LZ9:=mkU (Uq n).ok [Pi n n] 2 Tryz.f164 [(0,.ptr 1000000 0),(2,.fn 202 [.ptr 1000004 0]),(4,.ptr 4 0),(17,.l 3),(18,tI),(19,tI)] [(4,bT 244 []),(98012,.arr 3 1),(98017,.arr 89 3),(98018,.arr 99 6),(1000000,bT 217 [(12,.arr 98012),(17,.arr 98017),(18,.arr 98018)]),(1000004,.box [.arr 1000005]),(1000005,.mp 248)] 5115112716613 [xE 0 [(20,.b)]] @Xw n
def PR:EZ9 164:=mkW (Uq n).ok [Pl n n] 164 Tryz.f164 (pT 1000000 217 [(12,eR 1000001 3 1),(17,eR 1000002 89 3),(18,eR 1000003 99 6)] [eA [qI,qI,qI,qI],eF 202 1,eP 1000004 1,eM 1000005 248]) [eT 0] [(22,eH 1000005)] 4710399 524287 @Wq n
def U4:BZ9:=Xa [⟨164,PR n⟩] []
def Gf:LZ9:=mkU (U4 n).ok nT 3 Tryz.f169 [(0,.ptr 1000000 0),(1,tI),(2,tI),(7,.ptr 7 0),(14,.l 4),(15,tI),(16,tI)] [(7,.box [.arr 10]),(10,.mp 248),(98012,.arr 3 1),(98017,.arr 89 3),(98018,.arr 99 6),(1000000,bT 217 [(12,.arr 98012),(17,.arr 98017),(18,.arr 98018)])] 10460353891 [xE 0 [(17,.b)]] @Qy n
def Gw:EZ9 169:=mkW (U4 n).ok [Gf n n] 169 Tryz.f169 (pT 1000000 217 [(12,eR 1000001 3 1),(17,eR 1000002 89 3),(18,eR 1000003 99 6)] [sI,sI]) [eM 10 248] [] 483327 1048574 @Yh n
def HA (n:Nat):BZ9:=Xa [] [(2,⟨[],[],[(5,1005,146,3)],[],[]⟩)]
def NK:LZ9:=mkU (HA n).ok nT 3 Tryz.f171 [(1,.arr 1000000),(5,.arr 1005),(8,.l 3),(9,tI),(10,tI)] [(1005,.arr 146 3),(1000000,.mp 248)] 157 [xE 0 [(11,.b)]] @Yk n
def MQ:EZ9 171:=Qid (mkW (HA n).ok [NK n n] 171 Tryz.f171 [sL 3,eM 1000000 248] [eR 1005 146 3] [] 0 0 @UK n)
def H8:EZ9 241:=mkD (Xa [] []).ok nT 241 Tryz.f241 0 @Vd n
def RT:EZ9 28:=mkD (Xa [] []).ok nT 28 Tryz.f28 0 @Hs n
def Nm:EZ9 242:=mkW (Xa [] [(2,⟨[],[],[(8,96001,280,2)],[],[]⟩)]).ok nT 242 Tryz.f242 [eN,sI,sI,sI] [eR 96001 280 2] [] 0 0 @JG n
def Q0l:EZ9 228:=mkW (Xa [⟨241,H8 n⟩,⟨28,RT n⟩,⟨242,Nm n⟩] [(2,⟨[],[],[(6,50016,280,2)],[],[]⟩)]).ok nT 228 Tryz.f228 [sI,sI,sI] [eT 2,eR 50016 280 2,sI] [] 0 0 @Po n
def RX:BZ9:=Xa [⟨241,H8 n⟩] []
def C7:LZ9:=mkU (RX n).ok nT 5 Tryz.f230 [(0,tI),(5,tI),(11,.l 2),(12,tI),(13,tI)] [] 205 [.f .ret [(4,.cb false)] [] [],xE 0 [(14,.b)]] @UA n
def Me:EZ9 230:=mkD (RX n).ok [C7 n n] 230 Tryz.f230 0 @GJ n
def RV:BZ9:=Xa [⟨241,H8 n⟩,⟨230,Me n⟩] []
def Cv:LZ9:=mkU (RV n).ok nT 4 Tryz.f243 [(0,tI),(10,.l 1),(11,tI),(12,tI)] [] 67 [.f .ret [(4,.ci .i64 1)] [] [],xE 0 [(13,.b)]] @Ut n
def Aq:EZ9 243:=mkD (RV n).ok [Cv n n] 243 Tryz.f243 0 @Tl n
def WT:EZ9 253:=mkW (Xa [] [(6,⟨[],[],[(4,96001,280,2)],[],[]⟩)]).ok nT 253 Tryz.f253 [eN,sI] [eR 96001 280 2] [] 0 0 @QJ n
def Xc:BZ9:=Xa [⟨253,WT n⟩] []
def WM:LZ9:=mkU (Xc n).ok nT 3 Tryz.f245 [(0,.l 1),(3,tI),(9,.l 1),(10,tI),(11,tI)] [] 204 [xE 0 [(12,.b)]] @Qf n
def WN:LZ9:=mkU (Xc n).ok nT 11 Tryz.f245 [(6,.arr 50024),(25,.l 1),(26,tI),(27,tI)] [(50024,.arr 280 2)] 76 [xE 2 [(28,.b)]] @Qg n
def Uc:EZ9 245:=mkW (Xc n).ok [WM n n,WN n n] 245 Tryz.f245 [sL 1] [eR 50024 280 2] [] 0 0 @QQ n
def EL:EZ9 193:=mkD (Xa [] []).ok nT 193 Tryz.f193 0 @Mj n
def Dy:EZ9 194:=mkD (Xa [] []).ok nT 194 Tryz.f194 0 @NE n
def Nv:EZ9 144:=mkD (Xa [⟨193,EL n⟩,⟨194,Dy n⟩] []).ok nT 144 Tryz.f144 0 @Tf n
def Bp:EZ9 145:=mkD (Xa [] []).ok nT 145 Tryz.f145 0 @GX n
def SE:EZ9 97:=mkD (Xa [⟨145,Bp n⟩] []).ok nT 97 Tryz.f97 0 @Jl n
def Pj:EZ9 252:=mkD (Xa [⟨97,SE n⟩] []).ok nT 252 Tryz.f252 0 @Ve n
def QG:BZ9:=Xa [⟨252,Pj n⟩] [cO 0 (rg1 0 4 [8]) [1000000],cO 1 (rg1 0 4 [8,14]) [1000000],cO 2 (rg1 0 4 [8]) [1000000],cO 3 (rg1 0 4 [8,9]) [1000000],cO 4 (rg1 0 4 [8,9,34]) [1000000],cO 5 (rg1 0 4 [8,9]) [1000000],cO 6 (rg1 0 4 [8,9]) [1000000]]
def U8:LZ9:=mkU (QG n).ok nT 4 Tryz.f264 [(0,.arr 1000000),(1,tI),(2,tI),(3,.fn 252 []),(8,tI),(9,tI)] [(1000000,.arr 280 2)] 217 [xE 2 [(34,.b)]] @Qh n
def Yi:LZ9:=mkU (QG n).ok [U8 n n] 1 Tryz.f264 [(0,.arr 1000000),(1,tI),(2,tI),(3,.fn 252 []),(8,tI)] [(1000000,.arr 280 2)] 76 [xE 0 [(14,.b)]] @Q7 n
def Xh:AV->List (Nat × Ob)->Option (LL):=fun av H=>(look H 1000000).bind fun a=>match av,a with
 | .tup [],.arr p0 p1 b=>bif Nat.beq p0 280&&(Nat.beq p1 2) then some b else none
 | _,_=>none
theorem WW (n:Nat) (a:LL) (a1 a2:Int):vfnT (QG n).C [Yi n n] Tryz.f264 [.arr 1000000,.d (D.int .i64 a1),.d (D.int .i64 a2),.fn 252 []] [(1000000,.arr 280 2 a)] Xh=QS n a a1 a2 some:=by kernel_rfl
def Xr (n:Nat):Kf:=fun _ aj g ac hl k=>match ac with
 | [.gd _ _ .nil]=>bif g then none else k ⟨.nil,[],[]⟩
 | [c0,c1,b,c]=>prR hl 280 2 c0 fun l0 a=>prI g .i64 c1 fun a1=>prI g .i64 b fun a2=>prF 252 c fun d=>(match d with
  | []=>
  bif Gq hl [(1000000,l0)] [] then gb g (QS n a a1 a2 some) [] fun r=>gb g (G2 r (List.length a)) () fun _=>k ⟨.tup [],[(l0,some (.arr 280 2 r))],[l0]⟩ else none
  | _=>none)
 | _=>none
theorem U2 (n:Nat):Uo Tryz.prog 264 (Xr n):=by
  intro R al g ao hl k r h
  unfold Xr at h
  split at h
  · exact JN h
  rotate_left
  · cases h
  obtain ⟨l0,a,h,c,d⟩:=To h
  obtain ⟨a1,h,e⟩:=V9 h
  obtain ⟨a2,h,f⟩:=V9 h
  obtain ⟨j,h,i⟩:=Mo h
  split at h
  rotate_left
  · cases h
  obtain ⟨hc,h⟩:=Qz h
  obtain ⟨res,h,hr⟩:=Qm h
  obtain ⟨_,h,ac⟩:=Qm h
  have hL:=h
  subst c i
  refine ⟨_,hL,fun hg=>RM (K:=Xh) (res:=res) (QG n).ok [Yi n n] (fn:=Tryz.f264) (ρ:=[(1000000,l0)]) (ν:=[]) (avs':=[.arr 1000000,.d (D.int .i64 a1),.d (D.int .i64 a2),.fn 252 []]) (H:=[(1000000,.arr 280 2 a)]) (.cons (.own rfl rfl) (.cons (.data rfl (e hg)) (.cons (.data rfl (f hg)) (.cons (.own rfl rfl) (.nil))))) hc (⟨⟨by decide,_,_,d,rfl,.arr _ _ _⟩,trivial⟩) ?_ ?_⟩
  · exact (WW n a a1 a2).trans (hr hg)
  · intro av H' hx
    unfold Xh at hx
    simp only [Qkz] at hx
    obtain ⟨l,b,hx⟩:=hx
    split at hx
    rotate_left
    · cases hx
    replace hx:=Qz hx
    obtain ⟨aj,hx⟩:=hx
    simp only [Qkw,Nat.beq_eq] at aj
    obtain ⟨rfl,rfl⟩:=aj
    injection hx with hx
    subst hx
    refine ⟨rfl,?_,trivial,⟨Jn rfl b (VX (ac hg)),trivial⟩⟩
    simp only [QkE,QkD,HN,b,QkG,QkF]
    rfl
def XL:BZ9:=Xa [⟨264,⟨Xr n,U2 n⟩⟩] [cO 0 (rg1 0 5 [10]) [1000000],cO 1 (rg1 0 5 [10,11]) [1000000],cO 2 (rg1 0 5 [10,11,12]) [1000000],cO 3 (rg1 0 5 [10,11,12,25]) [1000000],cO 4 [] [1000000],cO 5 (rg1 0 5 [10,11,12,32]) [1000000],cK 6 [],cO 7 (rg1 0 5 [10,11,12,39]) [1000000],cK 8 (rg1 0 5 [10,11,12]),cK 9 (rg1 0 5 [10,11,12]),cK 10 (rg1 0 5 (rg1 10 5 [])),cK 11 (rg1 0 5 (rg1 10 5 [56])),cK 12 (rg1 0 5 (rg1 10 4 [])),cK 13 (rg1 0 5 (rg1 10 4 [])),cK 14 (rg1 0 5 (rg1 10 5 [])),cK 15 (rg1 0 5 (rg1 10 4 [75])),cK 16 (rg1 0 5 (rg1 10 4 [80])),cK 17 (rg1 0 5 (rg1 10 4 [97])),cK 18 [0,2,3,4,10,11,15],cK 19 (rg1 0 5 [10,11]),cK 20 (rg1 0 5 [12,16,17]),cK 21 (rg1 0 5 [11,12,16]),cK 22 (rg1 0 5 [11,12,16,18,19]),cK 23 (rg1 0 5 [11,16,18,19,20]),cK 24 (rg1 0 5 [11,16,18,19,20,125]),cK 25 (rg1 0 5 [10,11,16]),cK 26 [0,2,3,4,10,11,16],cK 27 (rg1 0 5 [10,11]),cK 28 (rg1 0 5 [10,11,16]),cK 29 [0,1,3,4,10,11,16],cK 30 (rg1 0 5 [10,11])]
def YK:LZ9:=mkU (XL n).ok nT 2 Tryz.f258 [(0,.arr 1000000),(1,tI),(2,tI),(3,tI),(4,.fn 252 []),(10,.cb true),(11,.cb true)] [(1000000,.arr 280 2)] 40 [.f .ret [] [(1000000,.arr 280 2)] [0]] @XQ n
def XR:AV->List (Nat × Ob)->Option (LL):=fun av H=>(look H 1000000).bind fun a=>match av,a with
 | .tup [],.arr p0 p1 b=>bif Nat.beq p0 280&&(Nat.beq p1 2) then some b else none
 | _,_=>none
theorem V6 (n:Nat) (a:LL) (a1 a2 b:Int):vfnT (XL n).C [YK n n] Tryz.f258 [.arr 1000000,.d (D.int .i64 a1),.d (D.int .i64 a2),.d (D.int .i64 b),.fn 252 []] [(1000000,.arr 280 2 a)] XR=Xf n a a1 a2 b some:=by kernel_rfl
def XY (n:Nat):Kf:=fun _ aj g ac hl k=>match ac with
 | [.gd _ _ .nil]=>bif g then none else k ⟨.nil,[],[]⟩
 | [c0,c1,b,c,d]=>prR hl 280 2 c0 fun l0 a=>prI g .i64 c1 fun a1=>prI g .i64 b fun a2=>prI g .i64 c fun e=>prF 252 d fun f=>(match f with
  | []=>
  bif Gq hl [(1000000,l0)] [] then gb g (Xf n a a1 a2 e some) [] fun r=>gb g (G2 r (List.length a)) () fun _=>k ⟨.tup [],[(l0,some (.arr 280 2 r))],[l0]⟩ else none
  | _=>none)
 | _=>none
theorem Vg (n:Nat):Uo Tryz.prog 258 (XY n):=by
  intro R al g ao hl k r h
  unfold XY at h
  split at h
  · exact JN h
  rotate_left
  · cases h
  obtain ⟨l0,a,h,d,e⟩:=To h
  obtain ⟨a1,h,f⟩:=V9 h
  obtain ⟨a2,h,i⟩:=V9 h
  obtain ⟨b,h,j⟩:=V9 h
  obtain ⟨m,h,l⟩:=Mo h
  split at h
  rotate_left
  · cases h
  obtain ⟨hc,h⟩:=Qz h
  obtain ⟨res,h,hr⟩:=Qm h
  obtain ⟨_,h,ac⟩:=Qm h
  have hL:=h
  subst d l
  refine ⟨_,hL,fun hg=>RM (K:=XR) (res:=res) (XL n).ok [YK n n] (fn:=Tryz.f258) (ρ:=[(1000000,l0)]) (ν:=[]) (avs':=[.arr 1000000,.d (D.int .i64 a1),.d (D.int .i64 a2),.d (D.int .i64 b),.fn 252 []]) (H:=[(1000000,.arr 280 2 a)]) (.cons (.own rfl rfl) (.cons (.data rfl (f hg)) (.cons (.data rfl (i hg)) (.cons (.data rfl (j hg)) (.cons (.own rfl rfl) (.nil)))))) hc (⟨⟨by decide,_,_,e,rfl,.arr _ _ _⟩,trivial⟩) ?_ ?_⟩
  · exact (V6 n a a1 a2 b).trans (hr hg)
  · intro av H' hx
    unfold XR at hx
    simp only [Qkz] at hx
    obtain ⟨o,c,hx⟩:=hx
    split at hx
    rotate_left
    · cases hx
    replace hx:=Qz hx
    obtain ⟨ak,hx⟩:=hx
    simp only [Qkw,Nat.beq_eq] at ak
    obtain ⟨rfl,rfl⟩:=ak
    injection hx with hx
    subst hx
    refine ⟨rfl,?_,trivial,⟨Jn rfl c (VX (ac hg)),trivial⟩⟩
    simp only [QkE,QkD,HN,c,QkG,QkF]
    rfl
def XZ:BZ9:=Xa [⟨144,Nv n⟩,⟨258,⟨XY n,Vg n⟩⟩] [cO 0 [0,1,4] [1000000],cO 1 [] [1000000]]
def QW:AV->List (Nat × Ob)->Option (LL):=fun av H=>(look H 1000000).bind fun a=>match av,a with
 | .tup [],.arr p0 p1 b=>bif Nat.beq p0 280&&(Nat.beq p1 2) then some b else none
 | _,_=>none
theorem Zx (n:Nat) (a:LL):vfnT (XZ n).C nT Tryz.f251 [.arr 1000000,.fn 252 []] [(1000000,.arr 280 2 a)] QW=Qj n a some:=by kernel_rfl
def QX (n:Nat):Kf:=fun _ aj g ac hl k=>match ac with
 | [.gd _ _ .nil]=>bif g then none else k ⟨.nil,[],[]⟩
 | [c0,c1]=>prR hl 280 2 c0 fun l0 a=>prF 252 c1 fun b=>(match b with
  | []=>
  bif Gq hl [(1000000,l0)] [] then gb g (Qj n a some) [] fun r=>gb g (G2 r (List.length a)) () fun _=>k ⟨.tup [],[(l0,some (.arr 280 2 r))],[l0]⟩ else none
  | _=>none)
 | _=>none
theorem ZG (n:Nat):Uo Tryz.prog 251 (QX n):=by
  intro R al g ao hl k r h
  unfold QX at h
  split at h
  · exact JN h
  rotate_left
  · cases h
  obtain ⟨l0,a,h,c,d⟩:=To h
  obtain ⟨f,h,e⟩:=Mo h
  split at h
  rotate_left
  · cases h
  obtain ⟨hc,h⟩:=Qz h
  obtain ⟨res,h,hr⟩:=Qm h
  obtain ⟨_,h,ac⟩:=Qm h
  have hL:=h
  subst c e
  refine ⟨_,hL,fun hg=>RM (K:=QW) (res:=res) (XZ n).ok nT (fn:=Tryz.f251) (ρ:=[(1000000,l0)]) (ν:=[]) (avs':=[.arr 1000000,.fn 252 []]) (H:=[(1000000,.arr 280 2 a)]) (.cons (.own rfl rfl) (.cons (.own rfl rfl) (.nil))) hc (⟨⟨by decide,_,_,d,rfl,.arr _ _ _⟩,trivial⟩) ?_ ?_⟩
  · exact (Zx n a).trans (hr hg)
  · intro av H' hx
    unfold QW at hx
    simp only [Qkz] at hx
    obtain ⟨i,b,hx⟩:=hx
    split at hx
    rotate_left
    · cases hx
    replace hx:=Qz hx
    obtain ⟨aj,hx⟩:=hx
    simp only [Qkw,Nat.beq_eq] at aj
    obtain ⟨rfl,rfl⟩:=aj
    injection hx with hx
    subst hx
    refine ⟨rfl,?_,trivial,⟨Jn rfl b (VX (ac hg)),trivial⟩⟩
    simp only [QkE,QkD,HN,b,QkG,QkF]
    rfl
def Gb:BZ9:=Xa [⟨251,⟨QX n,ZG n⟩⟩] [cO 0 [0] [1000000],cO 1 [0] [1000000],cO 2 [0,3] [1000000],(3,⟨[3,9,10,11],[(1000000,1000000)],[(3,1003,280,2)],[],[]⟩),cO 4 (3::rg1 9 4 []) [1003,1000000],cO 5 [3,5,9,10,11] [5,1003,1000000],cO 6 [3,5,6,9,10,11] [5,1003,1000000],cO 7 [3,5,6,9,10,11,29] [5,1003,1000000],cO 8 [3,9,10,11] [1003,1000000],cO 9 [3,9,10,11] [45,1000000],cO 10 [3,9,10,11] [1003,1000000,45],cO 11 [2] [1003,1000000]]
def TZ:LZ9:=mkU (Gb n).ok nT 4 Tryz.f244 [(3,.arr 1003),(9,.arr 1000000),(10,tI),(11,tI)] [(1003,.arr 280 2),(1000000,.arr 280 2)] 52 [xE 0 [(12,.b)]] @Xi n
def Ga:AV->List (Nat × Ob)->Option (LL × LL):=fun av H=>(look H 1000000).bind fun a=>(look H 1003).bind fun b=>match av,a,b with
 | .arr p0,.arr p1 c d,.arr e f g=>bif Nat.beq p0 1003&&(Nat.beq p1 280&&(Nat.beq c 2&&(Nat.beq e 280&&(Nat.beq f 2)))) then some (g,d) else none
 | _,_,_=>none
theorem MW (n:Nat) (a:LL):vfnT (Gb n).C [TZ n n] Tryz.f244 [.arr 1000000] [(1000000,.arr 280 2 a)] Ga=JZ n a (fun b c=>some (b,c)):=by kernel_rfl
def K9 (n:Nat):Kf:=fun _ ac g aj hl k=>match aj with
 | [.gd _ _ .nil]=>bif g then none else k ⟨.nil,[],[]⟩
 | [c0]=>prR hl 280 2 c0 fun l0 a=>
  bif Gq hl [(1000000,l0)] [(1003,(ac+50000))] then gb g (JZ n a (fun b c=>some (b,c))) ([],[]) fun r=>gb g (G2 r.2 (List.length a)) () fun _=>k ⟨.arr (ac+50000),[(l0,some (.arr 280 2 r.2)),((ac+50000),some (.arr 280 2 r.1))],[l0]⟩ else none
 | _=>none
theorem LH (n:Nat):Uo Tryz.prog 244 (K9 n):=by
  intro R aj g ao hl k r h
  unfold K9 at h
  split at h
  · exact JN h
  rotate_left
  · cases h
  obtain ⟨l0,a,h,d,e⟩:=To h
  obtain ⟨hc,h⟩:=Qz h
  obtain ⟨res,h,hr⟩:=Qm h
  obtain ⟨_,h,ac⟩:=Qm h
  have hL:=h
  subst d
  refine ⟨_,hL,fun hg=>RM (K:=Ga) (res:=res) (Gb n).ok [TZ n n] (fn:=Tryz.f244) (ρ:=[(1000000,l0)]) (ν:=[(1003,(aj+50000))]) (avs':=[.arr 1000000]) (H:=[(1000000,.arr 280 2 a)]) (.cons (.own rfl rfl) (.nil)) hc (⟨⟨by decide,_,_,e,rfl,.arr _ _ _⟩,trivial⟩) ?_ ?_⟩
  · exact (MW n a).trans (hr hg)
  · intro av H' hx
    unfold Ga at hx
    simp only [Qkz] at hx
    obtain ⟨f,b,i,c,hx⟩:=hx
    split at hx
    rotate_left
    · cases hx
    replace hx:=Qz hx
    obtain ⟨ak,hx⟩:=hx
    simp only [Qkw,Nat.beq_eq] at ak
    obtain ⟨rfl,rfl,rfl,rfl,rfl⟩:=ak
    injection hx with hx
    subst hx
    refine ⟨rfl,?_,⟨by rw [c];rfl,trivial⟩,⟨Jn rfl b (VX (ac hg)),trivial⟩⟩
    simp only [QkE,QkD,HN,b,c,QkG,QkF]
    rfl
def BO:EZ9 229:=mkW (Xa [⟨243,Aq n⟩,⟨245,Uc n⟩,⟨244,⟨K9 n,LH n⟩⟩] [(3,⟨[],[],[(6,50021,280,2)],[],[]⟩)]).ok nT 229 Tryz.f229 [sI,sL 2,sL 2] [eT 2,eR 50021 280 2,sI] [] 0 0 @Ty n
def GA:EZ9 227:=mkW (Xa [⟨228,Q0l n⟩,⟨229,BO n⟩] []).ok nT 227 Tryz.f227 [eA [qI,qI,qI],eA [qI,qI,qI],eP 1000000 1,sI,eP 1000001 1,eR 1000002 280 2] [eT 0] [] 9 1 @Zr n
def T6:BZ9:=Xa [⟨227,GA n⟩] []
def MO:LZ9:=mkU (T6 n).ok nT 0 Tryz.f226 [(0,.l 3),(1,.l 3),(2,.fn 227 [.ptr 1000000 0,.ptr 1000001 0])] [(98040,.arr 280 2),(1000000,.box [tI]),(1000001,.box [.arr 98040])] 53 [xE 0 [(15,.b)]] @Qr n
def Lq:EZ9 226:=mkW (T6 n).ok [MO n n] 226 Tryz.f226 [sL 3,sL 3,eF 227 2,eP 1000000 1,sI,eP 1000001 1,eR 1000002 280 2] [eT 0] [] 0 1 @H6 n
def Lz:EZ9 203:=mkW (Xa [⟨201,Nt n⟩,⟨226,Lq n⟩] [(3,⟨[],[],[(6,50024,280,2)],[],[]⟩),(6,⟨[],[],[(6,50024,280,2)],[],[]⟩),(7,⟨[],[],[],[(8,0,2320,280,2)],[]⟩)]).ok nT 203 Tryz.f203 [sI,sL 3,sL 3] [eT 2,eR 50024 280 2,sI] [] 0 0 @Jz n
def CG:EZ9 246:=mkD (Xa [] []).ok nT 246 Tryz.f246 0 @PY n
def N5:BZ9:=Xa [⟨246,CG n⟩] []
def Cb:LZ9:=mkU (N5 n).ok nT 3 Tryz.f231 [(3,tI),(6,.l 2),(7,tI),(8,tI)] [] 68 [xE 0 [(9,.b)]] @Wj n
def Aw:EZ9 231:=mkD (N5 n).ok [Cb n n] 231 Tryz.f231 0 @Rc n
def BE:EZ9 204:=mkD (Xa [⟨230,Me n⟩,⟨231,Aw n⟩] []).ok nT 204 Tryz.f204 0 @TE n
def Kb:BZ9:=Xa [⟨203,Lz n⟩,⟨204,BE n⟩] [(8,⟨[],[],[],[],[50018]⟩),(11,⟨[],[],[(11,1011,97,2)],[],[]⟩)]
def FO:LZ9:=mkU (Kb n).ok nT 12 Tryz.f170 [(0,tI),(11,.arr 1011),(65,.l 2),(66,tI),(67,tI)] [(1011,.arr 97 2)] 229 [xE 0 [(68,.b)]] @ZQ n
def Fd:LZ9:=mkU (Kb n).ok nT 12 Tryz.f170 [(0,tI),(11,.arr 1011),(65,.arr 50018),(66,tI),(67,tI)] [(1011,.arr 97 2),(50018,.arr 280 2)] 157 [xE 0 [(68,.b)]] @Z1 n
def D4:EZ9 170:=mkD (Kb n).ok [orL (Fd n n) (FO n n)] 170 Tryz.f170 0 @U7 n
def Yf:BZ9:=Xa [⟨169,Gw n⟩,⟨171,MQ n⟩,⟨170,D4 n⟩,⟨167,N3 n⟩,⟨166,Gt n⟩] []
def Kk:LZ9:=mkU (Yf n).ok nT 12 Tryz.f119 [(0,.ptr 1000000 0),(3,tI),(4,tI),(14,tI),(15,tI),(63,.l 2),(64,tI),(65,tI)] [(98012,.arr 3 1),(98017,.arr 89 3),(98018,.arr 99 6),(1000000,bT 217 [(12,.arr 98012),(17,.arr 98017),(18,.arr 98018)])] 41152 [xE 4 [(66,.b)]] @QF n
def GZ:LZ9:=mkU (Yf n).ok [Kk n n] 5 Tryz.f119 [(0,.ptr 1000000 0),(3,tI),(4,tI),(14,tI),(15,tI)] [(98012,.arr 3 1),(98017,.arr 89 3),(98018,.arr 99 6),(1000000,bT 217 [(12,.arr 98012),(17,.arr 98017),(18,.arr 98018)])] 11622793282 [.f .ret [(2,tI)] [(98012,.arr 3 1),(98017,.arr 89 3),(98018,.arr 99 6),(1000000,bT 217 [(12,.arr 98012),(17,.arr 98017),(18,.arr 98018)])] [0,5,6,0,8,9,10,11,12,13,14,15,16,17,18,19,20,21,22,23],xE 2 [(26,.b)]] @QY n
def GV:LZ9:=mkU (Yf n).ok [GZ n n] 2 Tryz.f119 [(0,.ptr 1000000 0),(14,tI),(15,tI)] [(98012,.arr 3 1),(98017,.arr 89 3),(98018,.arr 99 6),(1000000,bT 217 [(12,.arr 98012),(17,.arr 98017),(18,.arr 98018)])] 1291421482 [.f .ret [(2,tI)] [(98012,.arr 3 1),(98017,.arr 89 3),(98018,.arr 99 6),(1000000,bT 217 [(12,.arr 98012),(17,.arr 98017),(18,.arr 98018)])] [0,3,4,0,6,7,8,9,10,11,12,13,14,15,16,17,18,19,20,21],xE 0 [(16,.b)]] @Qt n
def Ku:EZ9 119:=mkW (Yf n).ok [GV n n] 119 Tryz.f119 (pT 1000000 217 [(12,eR 1000001 3 1),(17,eR 1000002 89 3),(18,eR 1000003 99 6)] []) [sI] [] 221167 524286 @Yy n
def Be:EZ9 82:=mkD (Xa [⟨55,⟨Hx n,Ru n⟩⟩,⟨114,Hy n⟩,⟨115,Ai n⟩,⟨116,HV n⟩,⟨117,Ph n⟩,⟨118,KQ n⟩,⟨119,Ku n⟩] [(3,⟨[],[],[],[(20,12,2812,3,1),(20,13,2813,82,1),(20,14,2814,3,1),(20,15,2815,244,4),(20,17,2817,89,3),(20,18,2818,99,6)],[]⟩)]).ok nT 82 Tryz.f82 0 @VP n
def EW:EZ9 172:=mkD (Xa [] []).ok nT 172 Tryz.f172 0 @GD n
def N8:BZ9:=Xa [⟨172,EW n⟩] []
def CD:LZ9:=mkU (N8 n).ok nT 4 Tryz.f120 [(1,.ptr 1 0),(26,.l 6),(27,tI),(28,tI)] [(1,.box [tI,.l 3,.l 6])] 373 [.f .ret [(2,.cb false)] [] [],xE 0 [(29,.b)]] @Uz n
def Bw:EZ9 120:=mkD (N8 n).ok [CD n n] 120 Tryz.f120 0 @TJ n
def Mg:BZ9:=Xa [⟨120,Bw n⟩] []
def BS:LZ9:=mkU (Mg n).ok nT 4 Tryz.f83 [(2,.ptr 2 0),(18,.l 1),(19,tI),(20,tI)] [(2,.box [tI,.l 3,.l 6])] 49 [.f .ret [(4,.cb false)] [] [],xE 0 [(21,.b)]] @Vq n
def AZ:EZ9 83:=mkD (Mg n).ok [BS n n] 83 Tryz.f83 0 @Vu n
def Gy (n:Nat):BZ9:=Xa [] []
def Ef:LZ9:=mkU (Gy n).ok nT 3 Tryz.f84 [(1,.ptr 1 0),(3,.arr 10),(12,tI),(13,tI)] [(1,bT 36 []),(10,.arr 3 1)] 118105 [xE 0 [(14,.b)]] @K4 n
def FP:LZ9:=mkU (Gy n).ok nT 8 Tryz.f84 [(3,.arr 10),(21,.l 4),(22,tI),(23,tI)] [(10,.arr 3 1)] 76 [xE 2 [(24,.b)]] @GH n
def SF:EZ9 84:=mkD (Gy n).ok [Ef n n,FP n n] 84 Tryz.f84 215 @YY n
def WH (n:Nat):BZ9:=Xa [] [(1,⟨[],[],[],[(8,0,1080,3,1)],[]⟩)]
def JM:LZ9:=mkU (WH n).ok nT 2 Tryz.f94 [(2,.ptr 1000000 0),(3,.ptr 1000002 0),(4,.ptr 1000003 0),(5,.ptr 1000004 0),(8,.ptr 8 0),(9,tI)] [(8,.box [.arr 1080,.b]),(1080,.arr 3 1),(98000,.arr 4 1),(98160,.arr 109 2),(1000000,.box [.arr 98000]),(1000002,.box [.l 1]),(1000003,bT 36 []),(1000004,.box [.arr 98160])] 177464 [xE 0 [(17,.b)]] @XV n
def G5:EZ9 94:=mkW (WH n).ok [JM n n] 94 Tryz.f94 (sI::sB::eP 1000000 1::eR 1000001 4 1::eP 1000002 1::sL 1::pT 1000003 36 [] [eP 1000004 1,eR 1000005 109 2]) [eT 0] [] 3568 1022 @Z2 n
def Kq:EZ9 96:=mkD (Xa [⟨97,SE n⟩] []).ok nT 96 Tryz.f96 0 @Vw n
def Qw:BZ9:=Xa [⟨96,Kq n⟩] [cO 0 (rg1 0 4 [8]) [1000000],cO 1 (rg1 0 4 [8,14]) [1000000],cO 2 (rg1 0 4 [8]) [1000000],cO 3 (rg1 0 4 [8,9]) [1000000],cO 4 (rg1 0 4 [8,9,34]) [1000000],cO 5 (rg1 0 4 [8,9]) [1000000],cO 6 (rg1 0 4 [8,9]) [1000000]]
def Wl:LZ9:=mkU (Qw n).ok nT 4 Tryz.f185 [(0,.arr 1000000),(1,tI),(2,tI),(3,.fn 96 []),(8,tI),(9,tI)] [(1000000,.arr 109 2)] 217 [xE 2 [(34,.b)]] @QZ n
def Y7:LZ9:=mkU (Qw n).ok [Wl n n] 1 Tryz.f185 [(0,.arr 1000000),(1,tI),(2,tI),(3,.fn 96 []),(8,tI)] [(1000000,.arr 109 2)] 76 [xE 0 [(14,.b)]] @X2 n
def X0:AV->List (Nat × Ob)->Option (LL):=fun av H=>(look H 1000000).bind fun a=>match av,a with
 | .tup [],.arr p0 p1 b=>bif Nat.beq p0 109&&(Nat.beq p1 2) then some b else none
 | _,_=>none
theorem ZO (n:Nat) (a:LL) (a1 a2:Int):vfnT (Qw n).C [Y7 n n] Tryz.f185 [.arr 1000000,.d (D.int .i64 a1),.d (D.int .i64 a2),.fn 96 []] [(1000000,.arr 109 2 a)] X0=Xe n a a1 a2 some:=by kernel_rfl
def X6 (n:Nat):Kf:=fun _ aj g ac hl k=>match ac with
 | [.gd _ _ .nil]=>bif g then none else k ⟨.nil,[],[]⟩
 | [c0,c1,b,c]=>prR hl 109 2 c0 fun l0 a=>prI g .i64 c1 fun a1=>prI g .i64 b fun a2=>prF 96 c fun d=>(match d with
  | []=>
  bif Gq hl [(1000000,l0)] [] then gb g (Xe n a a1 a2 some) [] fun r=>gb g (G2 r (List.length a)) () fun _=>k ⟨.tup [],[(l0,some (.arr 109 2 r))],[l0]⟩ else none
  | _=>none)
 | _=>none
theorem Wf (n:Nat):Uo Tryz.prog 185 (X6 n):=by
  intro R al g ao hl k r h
  unfold X6 at h
  split at h
  · exact JN h
  rotate_left
  · cases h
  obtain ⟨l0,a,h,c,d⟩:=To h
  obtain ⟨a1,h,e⟩:=V9 h
  obtain ⟨a2,h,f⟩:=V9 h
  obtain ⟨j,h,i⟩:=Mo h
  split at h
  rotate_left
  · cases h
  obtain ⟨hc,h⟩:=Qz h
  obtain ⟨res,h,hr⟩:=Qm h
  obtain ⟨_,h,ac⟩:=Qm h
  have hL:=h
  subst c i
  refine ⟨_,hL,fun hg=>RM (K:=X0) (res:=res) (Qw n).ok [Y7 n n] (fn:=Tryz.f185) (ρ:=[(1000000,l0)]) (ν:=[]) (avs':=[.arr 1000000,.d (D.int .i64 a1),.d (D.int .i64 a2),.fn 96 []]) (H:=[(1000000,.arr 109 2 a)]) (.cons (.own rfl rfl) (.cons (.data rfl (e hg)) (.cons (.data rfl (f hg)) (.cons (.own rfl rfl) (.nil))))) hc (⟨⟨by decide,_,_,d,rfl,.arr _ _ _⟩,trivial⟩) ?_ ?_⟩
  · exact (ZO n a a1 a2).trans (hr hg)
  · intro av H' hx
    unfold X0 at hx
    simp only [Qkz] at hx
    obtain ⟨l,b,hx⟩:=hx
    split at hx
    rotate_left
    · cases hx
    replace hx:=Qz hx
    obtain ⟨aj,hx⟩:=hx
    simp only [Qkw,Nat.beq_eq] at aj
    obtain ⟨rfl,rfl⟩:=aj
    injection hx with hx
    subst hx
    refine ⟨rfl,?_,trivial,⟨Jn rfl b (VX (ac hg)),trivial⟩⟩
    simp only [QkE,QkD,HN,b,QkG,QkF]
    rfl
def Xv:BZ9:=Xa [⟨185,⟨X6 n,Wf n⟩⟩] [cO 0 (rg1 0 5 [10]) [1000000],cO 1 (rg1 0 5 [10,11]) [1000000],cO 2 (rg1 0 5 [10,11,12]) [1000000],cO 3 (rg1 0 5 [10,11,12,25]) [1000000],cO 4 [] [1000000],cO 5 (rg1 0 5 [10,11,12,32]) [1000000],cK 6 [],cO 7 (rg1 0 5 [10,11,12,39]) [1000000],cK 8 (rg1 0 5 [10,11,12]),cK 9 (rg1 0 5 [10,11,12]),cK 10 (rg1 0 5 (rg1 10 5 [])),cK 11 (rg1 0 5 (rg1 10 5 [56])),cK 12 (rg1 0 5 (rg1 10 4 [])),cK 13 (rg1 0 5 (rg1 10 4 [])),cK 14 (rg1 0 5 (rg1 10 5 [])),cK 15 (rg1 0 5 (rg1 10 4 [75])),cK 16 (rg1 0 5 (rg1 10 4 [80])),cK 17 (rg1 0 5 (rg1 10 4 [97])),cK 18 [0,2,3,4,10,11,15],cK 19 (rg1 0 5 [10,11]),cK 20 (rg1 0 5 [12,16,17]),cK 21 (rg1 0 5 [11,12,16]),cK 22 (rg1 0 5 [11,12,16,18,19]),cK 23 (rg1 0 5 [11,16,18,19,20]),cK 24 (rg1 0 5 [11,16,18,19,20,125]),cK 25 (rg1 0 5 [10,11,16]),cK 26 [0,2,3,4,10,11,16],cK 27 (rg1 0 5 [10,11]),cK 28 (rg1 0 5 [10,11,16]),cK 29 [0,1,3,4,10,11,16],cK 30 (rg1 0 5 [10,11])]
def Yq:LZ9:=mkU (Xv n).ok nT 2 Tryz.f143 [(0,.arr 1000000),(1,tI),(2,tI),(3,tI),(4,.fn 96 []),(10,.cb true),(11,.cb true)] [(1000000,.arr 109 2)] 40 [.f .ret [] [(1000000,.arr 109 2)] [0]] @Ys n
def Xt:AV->List (Nat × Ob)->Option (LL):=fun av H=>(look H 1000000).bind fun a=>match av,a with
 | .tup [],.arr p0 p1 b=>bif Nat.beq p0 109&&(Nat.beq p1 2) then some b else none
 | _,_=>none
theorem Ul (n:Nat) (a:LL) (a1 a2 b:Int):vfnT (Xv n).C [Yq n n] Tryz.f143 [.arr 1000000,.d (D.int .i64 a1),.d (D.int .i64 a2),.d (D.int .i64 b),.fn 96 []] [(1000000,.arr 109 2 a)] Xt=XG n a a1 a2 b some:=by kernel_rfl
def Xz (n:Nat):Kf:=fun _ aj g ac hl k=>match ac with
 | [.gd _ _ .nil]=>bif g then none else k ⟨.nil,[],[]⟩
 | [c0,c1,b,c,d]=>prR hl 109 2 c0 fun l0 a=>prI g .i64 c1 fun a1=>prI g .i64 b fun a2=>prI g .i64 c fun e=>prF 96 d fun f=>(match f with
  | []=>
  bif Gq hl [(1000000,l0)] [] then gb g (XG n a a1 a2 e some) [] fun r=>gb g (G2 r (List.length a)) () fun _=>k ⟨.tup [],[(l0,some (.arr 109 2 r))],[l0]⟩ else none
  | _=>none)
 | _=>none
theorem Un (n:Nat):Uo Tryz.prog 143 (Xz n):=by
  intro R al g ao hl k r h
  unfold Xz at h
  split at h
  · exact JN h
  rotate_left
  · cases h
  obtain ⟨l0,a,h,d,e⟩:=To h
  obtain ⟨a1,h,f⟩:=V9 h
  obtain ⟨a2,h,i⟩:=V9 h
  obtain ⟨b,h,j⟩:=V9 h
  obtain ⟨m,h,l⟩:=Mo h
  split at h
  rotate_left
  · cases h
  obtain ⟨hc,h⟩:=Qz h
  obtain ⟨res,h,hr⟩:=Qm h
  obtain ⟨_,h,ac⟩:=Qm h
  have hL:=h
  subst d l
  refine ⟨_,hL,fun hg=>RM (K:=Xt) (res:=res) (Xv n).ok [Yq n n] (fn:=Tryz.f143) (ρ:=[(1000000,l0)]) (ν:=[]) (avs':=[.arr 1000000,.d (D.int .i64 a1),.d (D.int .i64 a2),.d (D.int .i64 b),.fn 96 []]) (H:=[(1000000,.arr 109 2 a)]) (.cons (.own rfl rfl) (.cons (.data rfl (f hg)) (.cons (.data rfl (i hg)) (.cons (.data rfl (j hg)) (.cons (.own rfl rfl) (.nil)))))) hc (⟨⟨by decide,_,_,e,rfl,.arr _ _ _⟩,trivial⟩) ?_ ?_⟩
  · exact (Ul n a a1 a2 b).trans (hr hg)
  · intro av H' hx
    unfold Xt at hx
    simp only [Qkz] at hx
    obtain ⟨o,c,hx⟩:=hx
    split at hx
    rotate_left
    · cases hx
    replace hx:=Qz hx
    obtain ⟨ak,hx⟩:=hx
    simp only [Qkw,Nat.beq_eq] at ak
    obtain ⟨rfl,rfl⟩:=ak
    injection hx with hx
    subst hx
    refine ⟨rfl,?_,trivial,⟨Jn rfl c (VX (ac hg)),trivial⟩⟩
    simp only [QkE,QkD,HN,c,QkG,QkF]
    rfl
def Xs:BZ9:=Xa [⟨144,Nv n⟩,⟨143,⟨Xz n,Un n⟩⟩] [cO 0 [0,1,4] [1000000],cO 1 [] [1000000]]
def QB:AV->List (Nat × Ob)->Option (LL):=fun av H=>(look H 1000000).bind fun a=>match av,a with
 | .tup [],.arr p0 p1 b=>bif Nat.beq p0 109&&(Nat.beq p1 2) then some b else none
 | _,_=>none
theorem YM (n:Nat) (a:LL):vfnT (Xs n).C nT Tryz.f95 [.arr 1000000,.fn 96 []] [(1000000,.arr 109 2 a)] QB=QI n a some:=by kernel_rfl
def QD (n:Nat):Kf:=fun _ aj g ac hl k=>match ac with
 | [.gd _ _ .nil]=>bif g then none else k ⟨.nil,[],[]⟩
 | [c0,c1]=>prR hl 109 2 c0 fun l0 a=>prF 96 c1 fun b=>(match b with
  | []=>
  bif Gq hl [(1000000,l0)] [] then gb g (QI n a some) [] fun r=>gb g (G2 r (List.length a)) () fun _=>k ⟨.tup [],[(l0,some (.arr 109 2 r))],[l0]⟩ else none
  | _=>none)
 | _=>none
theorem YT (n:Nat):Uo Tryz.prog 95 (QD n):=by
  intro R al g ao hl k r h
  unfold QD at h
  split at h
  · exact JN h
  rotate_left
  · cases h
  obtain ⟨l0,a,h,c,d⟩:=To h
  obtain ⟨f,h,e⟩:=Mo h
  split at h
  rotate_left
  · cases h
  obtain ⟨hc,h⟩:=Qz h
  obtain ⟨res,h,hr⟩:=Qm h
  obtain ⟨_,h,ac⟩:=Qm h
  have hL:=h
  subst c e
  refine ⟨_,hL,fun hg=>RM (K:=QB) (res:=res) (Xs n).ok nT (fn:=Tryz.f95) (ρ:=[(1000000,l0)]) (ν:=[]) (avs':=[.arr 1000000,.fn 96 []]) (H:=[(1000000,.arr 109 2 a)]) (.cons (.own rfl rfl) (.cons (.own rfl rfl) (.nil))) hc (⟨⟨by decide,_,_,d,rfl,.arr _ _ _⟩,trivial⟩) ?_ ?_⟩
  · exact (YM n a).trans (hr hg)
  · intro av H' hx
    unfold QB at hx
    simp only [Qkz] at hx
    obtain ⟨i,b,hx⟩:=hx
    split at hx
    rotate_left
    · cases hx
    replace hx:=Qz hx
    obtain ⟨aj,hx⟩:=hx
    simp only [Qkw,Nat.beq_eq] at aj
    obtain ⟨rfl,rfl⟩:=aj
    injection hx with hx
    subst hx
    refine ⟨rfl,?_,trivial,⟨Jn rfl b (VX (ac hg)),trivial⟩⟩
    simp only [QkE,QkD,HN,b,QkG,QkF]
    rfl
def Uj:BZ9:=Xa [⟨84,SF n⟩,⟨94,G5 n⟩,⟨95,⟨QD n,YT n⟩⟩] [(11,⟨[],[],[],[(7,0,1070,109,2)],[]⟩),(14,⟨[],[],[],[(7,0,2280,109,2)],[]⟩)]
def Ni:LZ9:=mkU (Uj n).ok nT 4 Tryz.f56 [(1,.ptr 1 0),(3,.ptr 3 0),(4,.arr 17),(19,.l 4),(20,tI),(21,tI)] [(1,bT 36 []),(3,.box [.l 1]),(17,.arr 4 1)] 1062904 [xE 0 [(22,.b)]] @J7 n
def Nh:LZ9:=mkU (Uj n).ok nT 12 Tryz.f56 [(1,.ptr 1 0),(4,.arr 17),(7,.ptr 7 0),(8,.ptr 8 0),(9,.fn 94 [.ptr 8 0,.ptr 3 0,.ptr 1 0,.ptr 7 0]),(37,tI),(38,tI)] [(1,bT 36 []),(3,.box [.l 1]),(7,.box [.arr 1070]),(8,.box [.arr 33]),(17,.arr 4 1),(33,.arr 4 1),(1070,.arr 109 2)] 4489918 [xE 2 [(39,.b)]] @Ui n
def Nn:LZ9:=mkU (Uj n).ok nT 18 Tryz.f56 [(7,.ptr 7 0),(8,.ptr 8 0),(9,.fn 94 [.ptr 8 0,.ptr 3 0,.ptr 1 0,.ptr 7 0]),(52,tI),(53,tI)] [(1,bT 36 []),(3,.box [.l 1]),(7,.box [.arr 1070]),(8,.box [.arr 33]),(33,.arr 4 1),(1070,.arr 109 2)] 1478419 [xE 4 [(54,.b)]] @Ug n
def Hw:EZ9 56:=mkD (Uj n).ok [Ni n n,Nh n n,Nn n n] 56 Tryz.f56 215 @X1 n
def Vr:EZ9 174:=mkW (Xa [⟨28,RT n⟩] []).ok nT 174 Tryz.f174 (pT 1000000 193 [(18,eR 1000001 3 1),(20,eR 1000002 107 5)] [sI]) [sI] [] 2043903 4194302 @XB n
def Jd:EZ9 125:=mkW (Xa [⟨174,Vr n⟩] []).ok nT 125 Tryz.f125 (pT 1000000 193 [(18,eR 1000001 3 1),(20,eR 1000002 107 5)] [sI,sI]) [eT 2,sI,sB] [] 1126015 8388604 @X9 n
def JL:EZ9 124:=mkW (Xa [⟨174,Vr n⟩] []).ok nT 124 Tryz.f124 (pT 1000000 193 [(18,eR 1000001 3 1),(20,eR 1000002 107 5)] [sI,sI]) [sI] [] 1781759 4194302 @Xy n
def U5:BZ9:=Xa [⟨125,Jd n⟩,⟨124,JL n⟩] []
def TU:LZ9:=mkU (U5 n).ok nT 8 Tryz.f121 [(0,.ptr 1000000 0),(5,tI),(7,tI),(15,.l 1),(16,tI),(17,tI),(30,tI),(31,tI)] [(98018,.arr 3 1),(98020,.arr 107 5),(1000000,bT 193 [(18,.arr 98018),(20,.arr 98020)])] 10554668572604 [xE 2 [(32,.b)]] @XP n
def TV:LZ9:=mkU (U5 n).ok [TU n n] 5 Tryz.f121 [(0,.ptr 1000000 0),(5,tI),(15,.l 1),(16,tI),(17,tI)] [(98018,.arr 3 1),(98020,.arr 107 5),(1000000,bT 193 [(18,.arr 98018),(20,.arr 98020)])] 390913650842 [xE 0 [(18,.b)]] @Xg n
def Pm:EZ9 121:=mkW (U5 n).ok [TV n n] 121 Tryz.f121 (pT 1000000 193 [(18,eR 1000001 3 1),(20,eR 1000002 107 5)] [eA [qL 1,qB]]) [sI] [] 1126015 4194302 @Wd n
def J6:EZ9 122:=mkW (Xa [] []).ok nT 122 Tryz.f122 (sI::sI::sI::eP 1000000 1::pT 1000001 193 [(18,eR 1000002 3 1),(20,eR 1000003 107 5)] [eP 1000004 1,sI,eP 1000005 1,sI]) [eT 0] [] 8388600 7340031 @Qe n
def D7:EZ9 123:=mkD (Xa [⟨173,Kz n⟩] []).ok nT 123 Tryz.f123 0 @Jk n
def YQ:BZ9:=Xa [⟨121,Pm n⟩,⟨122,J6 n⟩,⟨123,D7 n⟩,⟨124,JL n⟩,⟨125,Jd n⟩] []
def TH:LZ9:=mkU (YQ n).ok nT 17 Tryz.f85 [(3,.ptr 3 0),(5,.ptr 5 0),(7,.fn 122 [.ptr 3 0,.ptr 4 0,.ptr 6 0]),(8,tI),(9,tI),(10,tI),(11,.ptr 11 0),(12,tI),(14,.ptr 14 0),(16,tI),(46,.l 1),(47,tI),(48,tI),(77,.l 4),(78,tI),(79,tI),(128,.l 3),(129,tI),(130,tI)] [(3,.box [.ptr 1000000 0]),(4,.box [tI]),(5,.box [.l 1,.b]),(6,.box [tI]),(11,.box [.x,.x,.x,.x,.x]),(14,.box [.x,.x]),(98018,.arr 3 1),(98020,.arr 107 5),(1000000,bT 193 [(18,.arr 98018),(20,.arr 98020)])] 5083869477025 [xE 4 [(131,.b)]] @YS n
def Tz:LZ9:=mkU (YQ n).ok [TH n n] 9 Tryz.f85 [(3,.ptr 3 0),(5,.ptr 5 0),(7,.fn 122 [.ptr 3 0,.ptr 4 0,.ptr 6 0]),(8,tI),(9,tI),(10,tI),(11,.ptr 11 0),(46,.l 1),(47,tI),(48,tI),(77,.l 4),(78,tI),(79,tI)] [(3,.box [.ptr 1000000 0]),(4,.box [tI]),(5,.box [.l 1,.b]),(6,.box [tI]),(11,.box [.x,.x,.x,.x,.x]),(98018,.arr 3 1),(98020,.arr 107 5),(1000000,bT 193 [(18,.arr 98018),(20,.arr 98020)])] 2019825192481251836 [xE 2 [(80,.b)]] @Qp n
def Th:LZ9:=mkU (YQ n).ok [Tz n n] 5 Tryz.f85 [(3,.ptr 3 0),(5,.ptr 5 0),(7,.fn 122 [.ptr 3 0,.ptr 4 0,.ptr 6 0]),(8,tI),(46,.l 1),(47,tI),(48,tI)] [(3,.box [.ptr 1000000 0]),(4,.box [tI]),(5,.box [.l 1,.b]),(6,.box [tI]),(98018,.arr 3 1),(98020,.arr 107 5),(1000000,bT 193 [(18,.arr 98018),(20,.arr 98020)])] 34205931341042 [xE 0 [(49,.b)]] @XC n
def TX:EZ9 85:=mkW (YQ n).ok [Th n n] 85 Tryz.f85 (pT 1000000 193 [(18,eR 1000001 3 1),(20,eR 1000002 107 5)] [sI,eA [qL 1,qB]]) [eT 0] [] 11792 1048575 @ZA n
def KU:BZ9:=Xa [⟨82,Be n⟩,⟨83,AZ n⟩,⟨84,SF n⟩,⟨56,Hw n⟩,⟨85,TX n⟩] [(8,⟨[],[],[],[(39,18,1408,3,1)],[]⟩),(15,⟨[],[],[],[(39,20,503920,107,5)],[]⟩)]
def EJ:LZ9:=mkU (KU n).ok nT 9 Tryz.f54 [(5,.ptr 5 0),(12,.ptr 39 0),(13,tI),(41,.l 4),(42,tI),(43,tI)] [(5,bT 36 []),(39,bT 193 [(18,.arr 1408),(19,.ci .i64 0),(20,.nil)]),(1408,.arr 3 1)] 411782264189366 [xE 0 [(44,.b)]] @Yc n
def EQ:LZ9:=mkU (KU n).ok nT 16 Tryz.f54 [(12,.ptr 39 0),(68,.l 2),(69,tI),(70,tI)] [(39,bT 193 [(18,.arr 1408),(20,.arr 503920)]),(1408,.arr 3 1),(503920,.arr 107 5)] 235307989435 [xE 2 [(71,.b)]] @XN n
def CC:EZ9 54:=mkD (KU n).ok [EJ n n,EQ n n] 54 Tryz.f54 0 @JV n
def F8:EZ9 26:=mkD (Xa [⟨54,CC n⟩] []).ok nT 26 Tryz.f26 0 @XK n
def Et:EZ9 27:=mkD (Xa [⟨55,⟨Hx n,Ru n⟩⟩,⟨56,Hw n⟩] []).ok nT 27 Tryz.f27 0 @T1 n
def Px (n:Nat):BZ9:=Xa [] [(2,⟨[],[],[(7,1007,3,1)],[],[]⟩)]
def E3:LZ9:=mkU (Px n).ok nT 3 Tryz.f29 [(1,tI),(2,tI),(7,.arr 1007),(11,.l 5),(12,tI),(13,tI)] [(1007,.arr 3 1)] 688 [xE 0 [(14,.b)]] @Z3 n
def Da:EZ9 29:=mkD (Px n).ok [E3 n n] 29 Tryz.f29 11 @P1 n
def PE:BZ9:=Xa [⟨26,F8 n⟩,⟨27,Et n⟩,⟨28,RT n⟩,⟨29,Da n⟩] [(8,⟨[],[],[(14,1014,113,3)],[],[]⟩)]
def Fp:LZ9:=mkU (PE n).ok nT 9 Tryz.f7 [(3,tI),(4,.ptr 4 0),(5,.ptr 5 0),(12,.l 2),(14,.arr 1014),(43,.l 5),(44,tI),(45,tI)] [(4,bT 27 []),(5,bT 36 []),(1014,.arr 113 3)] 258892888 [.f .ret [(8,.nil),(9,.ci .i64 7)] [] [],xE 0 [(46,.b)]] @XX n
def Dz:EZ9 7:=mkD (PE n).ok [Fp n n] 7 Tryz.f7 0 @XM n
def Q0L:EZ9 147:=mkD (Xa [] []).ok nT 147 Tryz.f147 0 @Tw n
def L6:BZ9:=Xa [⟨147,Q0L n⟩] []
def Q0j:LZ9:=mkU (L6 n).ok nT 4 Tryz.f146 [(1,.ptr 1 0),(3,tI)] [(1,.box [tI,.l 3,.l 6])] 41 [.f .ret [(2,.cb false)] [] [],xE 0 [(25,.b)]] @J0 n
def Q1N:EZ9 146:=mkD (L6 n).ok [Q0j n n] 146 Tryz.f146 0 @R3 n
def Fy:BZ9:=Xa [⟨146,Q1N n⟩,⟨147,Q0L n⟩] []
def Q1I:LZ9:=mkU (Fy n).ok nT 4 Tryz.f98 [(1,.l 1),(2,.ptr 2 0),(5,tI)] [(2,.box [tI,.l 3,.l 6])] 16 [.f .ret [(4,.cb false)] [] [],xE 0 [(20,.b)]] @Jy n
def Q3M:EZ9 98:=mkD (Fy n).ok [Q1I n n] 98 Tryz.f98 0 @Gl n
def DQ (n:Nat):BZ9:=Xa [] []
def Q3E:LZ9:=mkU (DQ n).ok nT 2 Tryz.f58 [(1,tI),(2,.ptr 2 0),(5,tI)] [(2,bT 36 [])] 2194 [.f .ret [(4,.cb true)] [] [],xE 0 [(10,.b)]] @NF n
def Q5r:EZ9 58:=mkD (DQ n).ok [Q3E n n] 58 Tryz.f58 223 @Q2W n
def SS:BZ9:=Xa [⟨46,Py n⟩] []
def EE:LZ9:=mkU (SS n).ok nT 3 Tryz.f60 [(1,tI),(2,.ptr 2 0),(4,.ptr 4 0),(5,.ptr 5 0),(6,tI)] [(2,bT 36 []),(4,.box [.nil,.cb false]),(5,.box [.arr 10,.cb false]),(10,.arr 3 1)] 120292 [.f .ret [(4,.ptr 4 0)] [(4,.box [.arr 10,.b]),(10,.arr 3 1)] [0,0]] @KI n
def Cn:EZ9 60:=mkD (SS n).ok [EE n n] 60 Tryz.f60 223 @Ha n
def HO (n:Nat):BZ9:=Xa [] [cO 0 [0,3] [3,1000000],cO 1 [0,3,7,8] [3,1000000],cO 2 [0,3,7,8,9] [3,1000000],cO 3 [0,3,4,7,8] [3,1000000],cO 4 [0,3,7,8] [3,1000000],cO 5 [0,3,7,8] [3,1000000]]
def Nd:LZ9:=mkU (HO n).ok nT 2 Tryz.f59 [(0,.arr 1000000),(3,.ptr 3 0),(7,tI),(8,tI)] [(3,.box [.l 1,.b]),(1000000,.arr 4 1)] 178 [xE 0 [(9,.b)]] @HQ n
def HP:AV->List (Nat × Ob)->Option (LL):=fun av H=>(look H 1000000).bind fun a=>match av,a with
 | .tup [],.arr p0 p1 b=>bif Nat.beq p0 4&&(Nat.beq p1 1) then some b else none
 | _,_=>none
theorem Db (n:Nat) (a b:LL) (c:Bool):vfnT (HO n).C [Nd n n] Tryz.f59 [.arr 1000000,.ag [.d (D.sl 1 b),.d (D.bool c)]] [(1000000,.arr 4 1 a)] HP=Tq n a b c some:=by kernel_rfl
def TN (n:Nat):Kf:=fun _ aj g ac hl k=>match ac with
 | [.gd _ _ .nil]=>bif g then none else k ⟨.nil,[],[]⟩
 | [c0,c1]=>prR hl 4 1 c0 fun l0 a=>prG c1 fun b=>(match b with
  | [c,d]=>prS g 1 c fun e=>prB g d fun f=>
  bif Gq hl [(1000000,l0)] [] then gb g (Tq n a e f some) [] fun r=>gb g (G2 r (List.length a)) () fun _=>k ⟨.tup [],[(l0,some (.arr 4 1 r))],[l0]⟩ else none
  | _=>none)
 | _=>none
theorem Cz (n:Nat):Uo Tryz.prog 59 (TN n):=by
  intro R al g ao hl k r h
  unfold TN at h
  split at h
  · exact JN h
  rotate_left
  · cases h
  obtain ⟨l0,a,h,e,f⟩:=To h
  obtain ⟨m,h,i⟩:=B5 h
  split at h
  rotate_left
  · cases h
  obtain ⟨b,h,j⟩:=Uh h
  obtain ⟨c,h,l⟩:=Q6b h
  obtain ⟨hc,h⟩:=Qz h
  obtain ⟨res,h,hr⟩:=Qm h
  obtain ⟨_,h,ac⟩:=Qm h
  have hL:=h
  subst e i
  refine ⟨_,hL,fun hg=>RM (K:=HP) (res:=res) (HO n).ok [Nd n n] (fn:=Tryz.f59) (ρ:=[(1000000,l0)]) (ν:=[]) (avs':=[.arr 1000000,.ag [.d (D.sl 1 b),.d (D.bool c)]]) (H:=[(1000000,.arr 4 1 a)]) (.cons (.own rfl rfl) (.cons (.data rfl (.ag (.cons (j hg) (.cons (l hg) (.nil))))) (.nil))) hc (⟨⟨by decide,_,_,f,rfl,.arr _ _ _⟩,trivial⟩) ?_ ?_⟩
  · exact (Db n a b c).trans (hr hg)
  · intro av H' hx
    unfold HP at hx
    simp only [Qkz] at hx
    obtain ⟨o,d,hx⟩:=hx
    split at hx
    rotate_left
    · cases hx
    replace hx:=Qz hx
    obtain ⟨aj,hx⟩:=hx
    simp only [Qkw,Nat.beq_eq] at aj
    obtain ⟨rfl,rfl⟩:=aj
    injection hx with hx
    subst hx
    refine ⟨rfl,?_,trivial,⟨Jn rfl d (VX (ac hg)),trivial⟩⟩
    simp only [QkE,QkD,HN,d,QkG,QkF]
    rfl
def GQ:BZ9:=Xa [⟨58,Q5r n⟩,⟨60,Cn n⟩,⟨59,⟨TN n,Cz n⟩⟩] [(18,⟨[],[],[(7,1007,109,2)],[],[]⟩)]
def BA:LZ9:=mkU (GQ n).ok nT 4 Tryz.f32 [(1,.ptr 1 0),(3,.arr 12),(4,.arr 16),(18,tI),(19,tI)] [(1,bT 36 []),(12,.arr 4 1),(16,.arr 4 1)] 474586 [xE 0 [(20,.b)]] @Gz n
def BJ:LZ9:=mkU (GQ n).ok nT 11 Tryz.f32 [(1,.ptr 1 0),(3,.arr 12),(4,.arr 16),(36,tI),(37,tI)] [(1,bT 36 []),(12,.arr 4 1),(16,.arr 4 1)] 474586 [xE 2 [(38,.b)]] @Kj n
def BX:LZ9:=mkU (GQ n).ok nT 19 Tryz.f32 [(1,.ptr 1 0),(3,.arr 12),(7,.arr 1007),(55,tI),(56,tI)] [(1,bT 36 []),(12,.arr 4 1),(1007,.arr 109 2)] 415537 [xE 4 [(57,.b)]] @GU n
def La:EZ9 32:=mkD (GQ n).ok [BA n n,BJ n n,BX n n] 32 Tryz.f32 215 @WF n
def Q1i:EZ9 225:=mkD (Xa [⟨33,ML n⟩] []).ok nT 225 Tryz.f225 790 @LN n
def JS:BZ9:=Xa [⟨225,Q1i n⟩] []
def PN:LZ9:=mkU (JS n).ok nT 2 Tryz.f195 [(0,.ptr 1000000 0),(1,tI),(2,tI),(3,tI),(9,tI)] [(98016,.arr 107 5),(98017,.arr 4 1),(1000000,bT 158 [(16,.arr 98016),(17,.arr 98017)])] 14334558160 [.f .ret [(8,tI)] [(98016,.arr 107 5),(98017,.arr 4 1),(1000000,bT 158 [(16,.arr 98016),(17,.arr 98017)])] [0,5,6,7,8,9,10,11,12,13,14,15,16,17,18,19,20,21,22],xE 0 [(18,.b)]] @Yb n
def Gs:EZ9 195:=mkW (JS n).ok [PN n n] 195 Tryz.f195 (pT 1000000 158 [(16,eR 1000001 107 5),(17,eR 1000002 4 1)] [sI,sI,sI]) [sI] [] 208895 524286 @Yz n
def Hu:EZ9 151:=mkW (Xa [⟨51,Gi n⟩,⟨195,Gs n⟩,⟨46,Py n⟩] []).ok nT 151 Tryz.f151 (pT 1000000 158 [(16,eR 1000001 107 5),(17,eR 1000002 4 1)] [sI,sI]) [eT 2,sI,sB] [] 208255 1048572 @YI n
def HG:EZ9 152:=mkW (Xa [⟨51,Gi n⟩,⟨195,Gs n⟩] []).ok nT 152 Tryz.f152 (pT 1000000 158 [(16,eR 1000001 107 5),(17,eR 1000002 4 1)] [sI,sI]) [sI] [] 208767 524286 @XA n
def VF:BZ9:=Xa [⟨151,Hu n⟩,⟨152,HG n⟩] []
def Rg:LZ9:=mkU (VF n).ok nT 8 Tryz.f148 [(0,.ptr 1000000 0),(3,.ptr 3 0),(5,tI),(6,tI),(15,tI),(16,tI),(32,tI),(33,tI)] [(3,.box [.l 1,.b]),(98016,.arr 107 5),(98017,.arr 4 1),(1000000,bT 158 [(16,.arr 98016),(17,.arr 98017)])] 1162390608464 [xE 2 [(34,.b)]] @Yn n
def R1:LZ9:=mkU (VF n).ok [Rg n n] 5 Tryz.f148 [(0,.ptr 1000000 0),(3,.ptr 3 0),(5,tI),(15,tI),(16,tI)] [(3,.box [.l 1,.b]),(98016,.arr 107 5),(98017,.arr 4 1),(1000000,bT 158 [(16,.arr 98016),(17,.arr 98017)])] 43051504019 [xE 0 [(17,.b)]] @Y2 n
def Nf:EZ9 148:=mkW (VF n).ok [R1 n n] 148 Tryz.f148 (pT 1000000 158 [(16,eR 1000001 107 5),(17,eR 1000002 4 1)] [eA [qL 1,qB]]) [sI] [] 208255 524286 @Va n
def Q1Q:EZ9 149:=mkD (Xa [⟨47,Az n⟩] []).ok nT 149 Tryz.f149 0 @RI n
def M2:EZ9 150:=mkW (Xa [] []).ok nT 150 Tryz.f150 (pT 1000000 158 [(16,eR 1000001 107 5),(17,eR 1000002 4 1)] [eA [qI,qI,qI,qI,qI],sB]) [eT 0] [] 65535 65535 @Xm n
def ZV:BZ9:=Xa [⟨148,Nf n⟩,⟨51,Gi n⟩,⟨48,Hi n⟩,⟨149,Q1Q n⟩,⟨109,PF n⟩,⟨150,M2 n⟩,⟨151,Hu n⟩,⟨152,HG n⟩,⟨110,Rw n⟩] []
def Sm:LZ9:=mkU (ZV n).ok nT 15 Tryz.f99 [(0,.ptr 1000000 0),(1,tI),(5,.ptr 5 0),(6,tI),(7,tI),(8,tI),(9,tI),(10,tI),(11,.ptr 11 0),(13,.l 3),(14,tI),(41,tI),(42,tI),(59,tI),(60,tI),(118,tI),(119,tI)] [(5,.box [.l 1,.b]),(11,.box [.x,.x]),(98016,.arr 107 5),(98017,.arr 4 1),(1000000,bT 158 [(16,.arr 98016),(17,.arr 98017)])] 3103084741 [xE 4 [(120,.b)]] @Xq n
def SG:LZ9:=mkU (ZV n).ok [Sm n n] 8 Tryz.f99 [(0,.ptr 1000000 0),(1,tI),(5,.ptr 5 0),(6,tI),(7,tI),(8,tI),(9,tI),(41,tI),(42,tI),(59,tI),(60,tI)] [(5,.box [.l 1,.b]),(98016,.arr 107 5),(98017,.arr 4 1),(1000000,bT 158 [(16,.arr 98016),(17,.arr 98017)])] 31773323548615 [xE 2 [(61,.b)]] @Qi n
def Sf:LZ9:=mkU (ZV n).ok [SG n n] 4 Tryz.f99 [(0,.ptr 1000000 0),(1,tI),(5,.ptr 5 0),(6,tI),(7,tI),(41,tI),(42,tI)] [(5,.box [.l 1,.b]),(98016,.arr 107 5),(98017,.arr 4 1),(1000000,bT 158 [(16,.arr 98016),(17,.arr 98017)])] 392263253950 [xE 0 [(43,.b)]] @Yg n
def RC:EZ9 99:=mkW (ZV n).ok [Sf n n] 99 Tryz.f99 (pT 1000000 158 [(16,eR 1000001 107 5),(17,eR 1000002 4 1)] [sI,eA [qL 1,qB]]) [eT 0] [] 8192 65535 @UM n
def FV:BZ9:=Xa [⟨5,Eh n⟩,⟨98,Q3M n⟩,⟨32,La n⟩,⟨99,RC n⟩] [(8,⟨[],[],[],[(31,16,503116,107,5),(31,17,503117,4,1)],[]⟩)]
def Q2o:LZ9:=mkU (FV n).ok nT 9 Tryz.f57 [(10,.ptr 31 0),(11,.l 2),(35,tI),(36,tI)] [(31,bT 158 [(16,.arr 503116),(17,.arr 503117)]),(503116,.arr 107 5),(503117,.arr 4 1)] 9836175757 [xE 0 [(37,.b)]] @Wp n
def Q4e:EZ9 57:=mkX (FV n).ok [Q2o n n] 57 Tryz.f57 [eA [qL 1,qL 1,qL 5,qL 6],eA [qI,qL 5,qL 2,qL 4,qL 7,qL 4,qL 5,qL 3],sL 1] [eT 2,eU,sI] [eT 2,eP 31 18,sL 1,sL 1,sL 5,sL 6,sI,sL 5,sL 2,sL 4,sL 7,sL 4,sL 5,sL 3,sI,sL 3,sL 6,sL 1,eR 503116 107 5,eR 503117 4 1,sI] 0 @VY n
def M3:BZ9:=Xa [⟨57,Q4e n⟩] [(5,⟨[],[],[(10,1010,107,5)],[],[]⟩)]
def Af:LZ9:=mkU (M3 n).ok nT 6 Tryz.f30 [(8,.ptr 50016 0),(10,.arr 1010),(26,tI),(27,tI)] [(1010,.arr 107 5),(50016,bT 158 [(16,.arr 100016),(17,.arr 150016)]),(100016,.arr 107 5),(150016,.arr 4 1)] 4649045893 [xE 0 [(28,.b)]] @YZ n
def AX:EZ9 30:=mkD (M3 n).ok [Af n n] 30 Tryz.f30 0 @Wv n
def Q7T:EZ9 31:=mkD (Xa [] []).ok nT 31 Tryz.f31 0 @CW n
def PG (n:Nat):BZ9:=Xa [] [(2,⟨[],[],[(7,1007,3,1)],[],[]⟩)]
def Em:LZ9:=mkU (PG n).ok nT 3 Tryz.f34 [(1,tI),(2,tI),(3,.ptr 3 0),(7,.arr 1007),(11,tI),(12,tI)] [(3,bT 27 []),(1007,.arr 3 1)] 13918 [xE 0 [(13,.b)]] @Z0 n
def EP:EZ9 34:=mkD (PG n).ok [Em n n] 34 Tryz.f34 11 @P0 n
def NO:BZ9:=Xa [⟨30,AX n⟩,⟨31,Q7T n⟩,⟨32,La n⟩,⟨33,ML n⟩,⟨34,EP n⟩] [(8,⟨[],[],[(13,1013,113,3)],[],[]⟩)]
def Am:LZ9:=mkU (NO n).ok nT 9 Tryz.f8 [(3,tI),(4,.ptr 4 0),(5,.ptr 5 0),(10,.l 5),(12,.l 2),(13,.arr 1013),(36,tI),(37,tI)] [(4,bT 27 []),(5,bT 36 []),(1013,.arr 113 3)] 258892888 [xE 0 [(38,.b)]] @YB n
def Q01:EZ9 8:=mkD (NO n).ok [Am n n] 8 Tryz.f8 0 @YN n
def N1 (n:Nat):BZ9:=Xa [] []
def Ck:LZ9:=mkU (N1 n).ok nT 4 Tryz.f35 [(0,.l 1),(1,.l 1),(12,tI),(13,tI)] [] 67 [.f .ret [(4,.cb false)] [] [],xE 0 [(14,.b)]] @UB n
def BB:EZ9 35:=mkD (N1 n).ok [Ck n n] 35 Tryz.f35 0 @Tp n
def PJ:BZ9:=Xa [⟨35,BB n⟩] []
def E8:LZ9:=mkU (PJ n).ok nT 4 Tryz.f9 [(0,.l 3),(1,.l 3),(12,tI),(13,tI)] [] 67 [.f .ret [(4,.cb false)] [] [],xE 0 [(14,.b)]] @Wb n
def D9:EZ9 9:=mkD (PJ n).ok [E8 n n] 9 Tryz.f9 0 @ZL n
def Q5y:EZ9 37:=mkD (Xa [] []).ok nT 37 Tryz.f37 0 @Ak n
def KM (n:Nat):BZ9:=Xa [] []
def Dv:LZ9:=mkU (KM n).ok nT 10 Tryz.f61 [(0,tI),(7,tI),(21,.l 3),(22,tI),(23,tI),(54,.l 1),(55,tI),(56,tI)] [] 5352 [.f .ret [(4,.cb false)] [] [],xE 2 [(57,.b)]] @KP n
def D5:LZ9:=mkU (KM n).ok [Dv n n] 4 Tryz.f61 [(0,tI),(21,.l 3),(22,tI),(23,tI)] [] 67 [.f .ret [(4,.cb false)] [] [],xE 0 [(24,.b)]] @KR n
def C5:EZ9 61:=mkD (KM n).ok [D5 n n] 61 Tryz.f61 0 @L8 n
def GS (n:Nat):BZ9:=Xa [] []
def Rz:LZ9:=mkU (GS n).ok nT 2 Tryz.f100 [(0,.l 1),(1,tI),(7,tI),(8,tI)] [] 67 [.f .ret [(4,tI)] [] [0],xE 0 [(9,.b)]] @VO n
def Ng:EZ9 100:=mkD (GS n).ok [Rz n n] 100 Tryz.f100 0 @Tc n
def S3:EZ9 62:=mkD (Xa [⟨100,Ng n⟩] []).ok nT 62 Tryz.f62 0 @K8 n
def F3:EZ9 101:=mkD (Xa [⟨28,RT n⟩] []).ok nT 101 Tryz.f101 72 @Nb n
def RZ:BZ9:=Xa [⟨101,F3 n⟩] []
def Cf:LZ9:=mkU (RZ n).ok nT 2 Tryz.f63 [(0,tI),(1,.l 3),(2,.l 1),(3,tI),(4,tI),(12,tI),(13,tI)] [] 1822 [.f .ret [(10,.cb false)] [] [],xE 0 [(14,.b)]] @T4 n
def BW:EZ9 63:=mkD (RZ n).ok [Cf n n] 63 Tryz.f63 0 @F4 n
def PL:BZ9:=Xa [⟨61,C5 n⟩,⟨62,S3 n⟩,⟨63,BW n⟩] []
def Fz:LZ9:=mkU (PL n).ok nT 4 Tryz.f36 [(0,tI),(1,.l 3),(2,.l 1),(20,.l 1),(21,tI),(22,tI)] [] 607 [.f .ret [(6,.cb false)] [] [],xE 0 [(23,.b)]] @K3 n
def Dx:EZ9 36:=mkD (PL n).ok [Fz n n] 36 Tryz.f36 0 @P5 n
def Q1R:EZ9 10:=mkD (Xa [⟨37,Q5y n⟩,⟨36,Dx n⟩] []).ok nT 10 Tryz.f10 0 @Pc n
def law20_PlatformVisits_VB:BZ9:=Xa [⟨4,Q4J n⟩,⟨5,Eh n⟩,⟨6,Q2Y n⟩,⟨7,Dz n⟩,⟨8,Q01 n⟩,⟨9,D9 n⟩,⟨10,Q1R n⟩] []
def law20_PlatformVisits_l1:LZ9:=mkU (law20_PlatformVisits_VB n).ok nT 7 Tryz.f3 [(2,tI),(9,.ptr 9 0),(10,.ptr 10 0),(13,.l 1),(14,tI)] [(9,bT 27 []),(10,bT 36 [])] 7174461 [.f .ret [(8,.cb false)] [] [],xE 0 [(43,.b)]] @Y4 n
end Go.Vx
