/- Part of a proof. No conditions of their own. -/
import Derived.Test.YtiibkjjkoapefaaGreatTD
import Derived.Test.YtiibkjjkoapefaaGreatTC
import Derived.Test.YtiibkjjkoapefaaGreatTB
set_option linter.unusedVariables false
set_option linter.unusedSimpArgs false
noncomputable section
abbrev QiP:=@cond_false
abbrev QiQ:=@List.getElem?_eq_getElem
abbrev QiR:=@Bool.not_false
abbrev QiS:=@Bool.not_true
abbrev QiT:=@cond_true
abbrev QiU:=@List.getElem?_eq_some_iff
abbrev QiV:=@if_pos
abbrev QiW:=@List.getElem_mem
abbrev QiX:=@if_neg
abbrev QiY:=@Int.eq_ofNat_of_zero_le
abbrev QiZ:=@List.getElem?_map
abbrev Qj0:=@List.mem_append
abbrev Qj1:=@List.length_cons
abbrev Qj2:=@Int.tmod_eq_emod_of_nonneg
abbrev Qj3:=@List.length_map
abbrev Qj4:=@List.length_nil
abbrev Qj5:=@Int.tdiv_eq_ediv_of_nonneg
abbrev Qj6:=@Bool.and_eq_true
abbrev Qj7:=@List.take_length
abbrev Qj8:=@List.map_append
abbrev Qj9:=@List.getElem?_eq_none
abbrev Qja:=@Nat.le_refl
set_option maxRecDepth 100000
namespace Go.Vx
open Go.Proofs
variable (n:Nat)
def Au:EZ9 241:=mkD (Xa [] []).ok nT 241 Tryz.f241 0 @RH n
def BA:EZ9 254:=mkD (Xa [] []).ok nT 254 Tryz.f254 0 @SN n
def DH:EZ9 255:=mkD (Xa [] []).ok nT 255 Tryz.f255 0 @Mj n
def Tw:BZ9:=Xa [⟨254,BA n⟩,⟨255,DH n⟩] []
def MG:LZ9:=mkU (Tw n).ok nT 3 Tryz.f242 [(8,.ptr 8 0),(9,.ptr 9 0),(20,.l 6),(21,tI),(22,tI)] [(8,.box [tI,tI]),(9,.box [tI,tI])] 1102 [.f .ret [(6,tI),(7,.cb true)] [] [0],xE 0 [(23,.b)]] @JP n
def Fj:EZ9 242:=mkD (Tw n).ok [MG n n] 242 Tryz.f242 0 @JD n
def K8:EZ9 173:=mkW (Xa [] []).ok nT 173 Tryz.f173 (eA [qT,qI,qI,qL 4]::pT 1000000 83 [] []) [sB] [] 238 30 @ZK n
def XA:BZ9:=Xa [⟨173,K8 n⟩] []
def Zb:LZ9:=mkU (XA n).ok nT 2 Tryz.f216 [(0,.l 4),(1,.fn 173 [.ptr 1000000 0]),(7,tI),(8,tI)] [(1000000,bT 83 [])] 49 [.f .ret [(4,tI)] [(1000000,bT 83 [])] [0,4,5,6,7],xE 0 [(9,.b)]] @Qa n
def Zi:EZ9 216:=mkW (XA n).ok [Zb n n] 216 Tryz.f216 (sL 4::eF 173 1::pT 1000000 83 [] []) [sI] [] 28 30 @QT n
def YP:EZ9 172:=mkW (Xa [⟨216,Zi n⟩] []).ok nT 172 Tryz.f172 (sL 4::eF 173 1::pT 1000000 83 [] []) [sB] [] 28 30 @Qo n
def Fl:EZ9 174:=mkD (Xa [] []).ok nT 174 Tryz.f174 0 @T9 n
def R2:EZ9 177:=mkD (Xa [] []).ok nT 177 Tryz.f177 0 @Ka n
def ED:EZ9 268:=mkD (Xa [] []).ok nT 268 Tryz.f268 0 @N7 n
def Ee:EZ9 269:=mkD (Xa [] []).ok nT 269 Tryz.f269 0 @Tk n
def RP:EZ9 263:=mkD (Xa [⟨268,ED n⟩,⟨269,Ee n⟩] []).ok nT 263 Tryz.f263 0 @HY n
def Hz:EZ9 229:=mkD (Xa [] []).ok nT 229 Tryz.f229 0 @Ue n
def RN:EZ9 179:=mkD (Xa [] []).ok nT 179 Tryz.f179 0 @T2 n
def MO:EZ9 178:=mkD (Xa [] []).ok nT 178 Tryz.f178 0 @PM n
def Mh:EZ9 180:=mkD (Xa [] []).ok nT 180 Tryz.f180 0 @JS n
def Mc:EZ9 176:=mkD (Xa [⟨180,Mh n⟩] []).ok nT 176 Tryz.f176 0 @Ub n
def Hw:BZ9:=Xa [⟨176,Mc n⟩,⟨177,R2 n⟩,⟨174,Fl n⟩,⟨178,MO n⟩,⟨179,RN n⟩] []
def M3:LZ9:=mkU (Hw n).ok nT 2 Tryz.f123 [(2,.ptr 2 0),(3,.ptr 3 0),(10,.l 7),(11,tI),(12,tI)] [(2,bT 27 []),(3,bT 36 [])] 7173625 [.f .ret [(4,tI)] [] [0],xE 0 [(13,.b)]] @YK n
def Tq:EZ9 123:=mkD (Hw n).ok [M3 n n] 123 Tryz.f123 0 @Wn n
def Kg:EZ9 182:=mkW (Xa [] []).ok nT 182 Tryz.f182 (eA [qI,qI,qI,qI]::pT 1000000 147 [] []) [sB] [] 204 30 @ZH n
def XE:BZ9:=Xa [⟨182,Kg n⟩] []
def Ze:LZ9:=mkU (XE n).ok nT 2 Tryz.f217 [(0,.l 4),(1,.fn 182 [.ptr 1000000 0]),(7,tI),(8,tI)] [(1000000,bT 147 [])] 130 [.f .ret [(4,tI)] [(1000000,bT 147 [])] [0,4,5,6,7],xE 0 [(9,.b)]] @Qb n
def Zj:EZ9 217:=mkW (XE n).ok [Ze n n] 217 Tryz.f217 (sL 4::eF 182 1::pT 1000000 147 [] []) [sI] [] 24 30 @QU n
def YR:EZ9 181:=mkW (Xa [⟨217,Zj n⟩] []).ok nT 181 Tryz.f181 (sL 4::eF 182 1::pT 1000000 147 [] []) [sB] [] 24 30 @Qm n
def TM:BZ9:=Xa [⟨180,Mh n⟩,⟨177,R2 n⟩,⟨181,YR n⟩,⟨178,MO n⟩,⟨179,RN n⟩] []
def LX:LZ9:=mkU (TM n).ok nT 2 Tryz.f124 [(3,.ptr 3 0),(10,.l 4),(11,tI),(12,tI)] [(3,bT 36 [])] 88582 [.f .ret [(4,tI)] [] [0],xE 0 [(13,.b)]] @ZE n
def PN:EZ9 124:=mkD (TM n).ok [LX n n] 124 Tryz.f124 0 @V0 n
def P0:BZ9:=Xa [⟨176,Mc n⟩] []
def LZ:LZ9:=mkU (P0 n).ok nT 2 Tryz.f125 [(3,.ptr 3 0),(8,.l 5),(9,tI),(10,tI)] [(3,bT 36 [])] 88582 [.f .ret [(4,.ci .i64 4)] [] [],xE 0 [(11,.b)]] @Zs n
def PW:EZ9 125:=mkD (P0 n).ok [LZ n n] 125 Tryz.f125 0 @US n
def Ht (n:Nat):BZ9:=Xa [] []
def M8:LZ9:=mkU (Ht n).ok nT 2 Tryz.f126 [(2,.ptr 2 0),(8,.l 3),(9,tI),(10,tI)] [(2,bT 27 [])] 49 [.f .ret [(4,.ci .i64 4)] [] [],xE 0 [(11,.b)]] @YJ n
def T7:EZ9 126:=mkD (Ht n).ok [M8 n n] 126 Tryz.f126 0 @Wg n
def YZ (n:Nat):BZ9:=Xa [] []
def K2:LZ9:=mkU (YZ n).ok nT 5 Tryz.f68 [(0,.ptr 1000000 0),(2,tI),(9,.l 4),(10,tI),(11,tI),(34,tI),(35,tI)] [(98012,.arr 3 1),(98013,.arr 93 1),(98014,.arr 3 1),(98015,.arr 224 4),(98017,.arr 100 3),(98018,.arr 110 6),(1000000,bT 175 [(12,.arr 98012),(13,.arr 98013),(14,.arr 98014),(15,.arr 98015),(17,.arr 98017),(18,.arr 98018)])] 118666 [xE 2 [(36,.b)]] @X2 n
def Km:LZ9:=mkU (YZ n).ok [K2 n n] 1 Tryz.f68 [(0,.ptr 1000000 0),(9,.l 4),(10,tI),(11,tI)] [(98012,.arr 3 1),(98013,.arr 93 1),(98014,.arr 3 1),(98015,.arr 224 4),(98017,.arr 100 3),(98018,.arr 110 6),(1000000,bT 175 [(12,.arr 98012),(13,.arr 98013),(14,.arr 98014),(15,.arr 98015),(17,.arr 98017),(18,.arr 98018)])] 4450 [xE 0 [(12,.b)]] @QK n
def KV:EZ9 68:=mkW (YZ n).ok [Km n n] 68 Tryz.f68 (pT 1000000 175 [(12,eR 1000001 3 1),(13,eR 1000002 93 1),(14,eR 1000003 3 1),(15,eR 1000004 224 4),(17,eR 1000005 100 3),(18,eR 1000006 110 6)] []) [eT 0] [] 388991 389119 @Yv n
def Nh (n:Nat):BZ9:=Xa [] []
def Bi:LZ9:=mkU (Nh n).ok nT 2 Tryz.f127 [(1,tI),(8,.l 4),(9,tI),(10,tI)] [] 67 [.f .ret [(4,tI)] [] [0],xE 0 [(11,.b)]] @UX n
def BW:EZ9 127:=mkD (Nh n).ok [Bi n n] 127 Tryz.f127 0 @KO n
def HA:BZ9:=Xa [⟨170,He n⟩] []
def M5:LZ9:=mkU (HA n).ok nT 6 Tryz.f260 [(0,.l 2),(1,tI),(17,.l 2),(18,tI),(19,tI)] [] 198 [.f .ret [(6,.ci .i64 4)] [] [],xE 1 [(20,.b)]] @YH n
def MW:EZ9 260:=mkD (HA n).ok [M5 n n] 260 Tryz.f260 0 @J6 n
def S7 (n:Nat):BZ9:=Xa [] []
def Er:LZ9:=mkU (S7 n).ok nT 3 Tryz.f265 [(7,tI),(20,.l 2),(21,tI),(22,tI)] [] 68 [xE 0 [(23,.b)]] @Wp n
def Do:EZ9 265:=mkD (S7 n).ok [Er n n] 265 Tryz.f265 0 @JB n
def Bq:EZ9 266:=mkD (Xa [] []).ok nT 266 Tryz.f266 0 @HQ n
def Bk:EZ9 267:=mkD (Xa [] []).ok nT 267 Tryz.f267 0 @HB n
def JK:BZ9:=Xa [⟨265,Do n⟩,⟨266,Bq n⟩,⟨267,Bk n⟩] []
def MF:LZ9:=mkU (JK n).ok nT 5 Tryz.f261 [(0,.l 2),(1,tI),(5,.ptr 5 0),(7,tI),(8,.arr 20),(9,tI),(10,tI)] [(5,bT 72 []),(20,.arr 3 1)] 147730 [xE 0 [(29,.b)]] @Yp n
def MX:LZ9:=mkU (JK n).ok nT 12 Tryz.f261 [(0,.l 2),(1,tI),(5,.ptr 5 0),(8,.arr 20),(13,tI)] [(5,bT 72 []),(20,.arr 3 1)] 16411 [xE 2 [(68,.b)]] @Z0 n
def LW:EZ9 261:=mkW (JK n).ok [MF n n,MX n n] 261 Tryz.f261 [sL 2,sI,eA [qT,qI,qI,qI,qI]] [eR 20 3 1] [] 0 0 @JF n
def F2 (n:Nat):BZ9:=Xa [] []
def Q17:LZ9:=mkU (F2 n).ok nT 3 Tryz.f262 [(0,tI),(3,tI),(4,tI)] [] 25 [xE 0 [(7,.b)]] @Vh n
def Q2O:EZ9 262:=mkD (F2 n).ok [Q17 n n] 262 Tryz.f262 0 @PL n
def TY:BZ9:=Xa [⟨260,MW n⟩,⟨261,LW n⟩,⟨262,Q2O n⟩] []
def Fe:LZ9:=mkU (TY n).ok nT 6 Tryz.f251 [(9,.arr 50022),(23,.arr 50022),(24,tI),(25,tI)] [(50022,.arr 3 1)] 25 [xE 0 [(26,.b)]] @ZA n
def EM:EZ9 251:=mkD (TY n).ok [Fe n n] 251 Tryz.f251 0 @Ga n
def PP:BZ9:=Xa [⟨251,EM n⟩,⟨106,Tx n⟩] []
def FS:LZ9:=mkU (PP n).ok nT 6 Tryz.f228 [(8,.l 1),(10,.arr 26),(11,tI)] [(26,.arr 3 1)] 25 [xE 0 [(30,.b)]] @Ws n
def DP:EZ9 228:=mkD (PP n).ok [FS n n] 228 Tryz.f228 0 @Jo n
def Fz:EZ9 197:=mkD (Xa [⟨106,Tx n⟩] []).ok nT 197 Tryz.f197 0 @JH n
def BH:EZ9 198:=mkD (Xa [⟨107,Ri n⟩] []).ok nT 198 Tryz.f198 0 @Vf n
def MV:EZ9 199:=mkW (Xa [] []).ok nT 199 Tryz.f199 [eA [qL 1,qL 1,qL 5,qL 6]] [eR 10 159 3] [] 0 0 @J1 n
def SC:EZ9 200:=Q73 (mkW (Xa [] []).ok nT 200 Tryz.f200 [eR 1000000 159 3,sI,sI,sI] [eT 0] [(1,eK 1000000 159 3)] 0 0 @Xm n)
def Ah:EZ9 253:=mkD (Xa [] []).ok nT 253 Tryz.f253 0 @Nf n
def GW (n:Nat):BZ9:=Xa [] [(2,⟨[],[],[(3,1003,159,3)],[],[]⟩)]
def Ru:LZ9:=mkU (GW n).ok nT 3 Tryz.f202 [(3,.arr 1003),(6,.l 3),(7,tI),(8,tI)] [(1003,.arr 159 3)] 76 [xE 0 [(9,.b)]] @XQ n
def N5:EZ9 202:=mkW (GW n).ok [Ru n n] 202 Tryz.f202 [sL 3] [eR 1003 159 3] [] 0 0 @Vk n
def Jx:EZ9 130:=mkW (Xa [] []).ok nT 130 Tryz.f130 (pT 1000000 175 [(12,eR 1000001 3 1),(15,eR 1000002 224 4),(17,eR 1000003 100 3),(18,eR 1000004 110 6)] [sI,sI]) [sI] [] 520191 1048574 @XJ n
def HU:EZ9 129:=mkW (Xa [] []).ok nT 129 Tryz.f129 (pT 1000000 175 [(12,eR 1000001 3 1),(15,eR 1000002 224 4),(17,eR 1000003 100 3),(18,eR 1000004 110 6)] [sI,sI,sI,sI,sI]) [eT 0] [] 475135 491519 @Y3 n
def P9:EZ9 131:=mkW (Xa [⟨130,Jx n⟩] []).ok nT 131 Tryz.f131 (pT 1000000 175 [(12,eR 1000001 3 1),(15,eR 1000002 224 4),(17,eR 1000003 100 3),(18,eR 1000004 110 6)] [sI]) [sI] [] 520063 1048574 @ZU n
def Yb:BZ9:=Xa [⟨130,Jx n⟩,⟨129,HU n⟩,⟨131,P9 n⟩] []
def KN:LZ9:=mkU (Yb n).ok nT 4 Tryz.f70 [(0,.ptr 1000000 0),(2,tI),(13,.l 4),(14,tI),(15,tI),(26,.l 4),(27,tI),(28,tI)] [(98012,.arr 3 1),(98015,.arr 224 4),(98017,.arr 100 3),(98018,.arr 110 6),(1000000,bT 175 [(12,.arr 98012),(15,.arr 98015),(17,.arr 98017),(18,.arr 98018)])] 282429553573 [xE 2 [(29,.b)]] @Xd n
def KT:LZ9:=mkU (Yb n).ok [KN n n] 1 Tryz.f70 [(0,.ptr 1000000 0),(13,.l 4),(14,tI),(15,tI)] [(98012,.arr 3 1),(98015,.arr 224 4),(98017,.arr 100 3),(98018,.arr 110 6),(1000000,bT 175 [(12,.arr 98012),(15,.arr 98015),(17,.arr 98017),(18,.arr 98018)])] 3486784612 [xE 0 [(16,.b)]] @Qx n
def H7:LZ9:=mkU (Yb n).ok nT 10 Tryz.f70 [(0,.ptr 1000000 0),(56,.l 4),(57,tI),(58,tI)] [(98012,.arr 3 1),(98015,.arr 224 4),(98017,.arr 100 3),(98018,.arr 110 6),(1000000,bT 175 [(12,.arr 98012),(15,.arr 98015),(17,.arr 98017),(18,.arr 98018)])] 3491567581 [xE 4 [(59,.b)]] @Xb n
def Hk:EZ9 70:=mkW (Yb n).ok [KT n n,H7 n n] 70 Tryz.f70 (pT 1000000 175 [(12,eR 1000001 3 1),(15,eR 1000002 224 4),(17,eR 1000003 100 3),(18,eR 1000004 110 6)] []) [eT 0] [] 470399 491519 @YA n
def Rn (n:Nat):BZ9:=Xa [] []
def Dt:LZ9:=mkU (Rn n).ok nT 3 Tryz.f184 [(3,tI),(6,.l 3),(7,tI),(8,tI)] [] 68 [.f .ret [(2,.cb false)] [] [],xE 0 [(9,.b)]] @U3 n
def RE:EZ9 184:=mkD (Rn n).ok [Dt n n] 184 Tryz.f184 0 @Jc n
def Rg:BZ9:=Xa [⟨184,RE n⟩] []
def DC:LZ9:=mkU (Rg n).ok nT 4 Tryz.f132 [(0,tI),(18,.l 3),(19,tI),(20,tI)] [] 67 [.f .ret [(4,.cb false)] [] [],xE 0 [(21,.b)]] @U7 n
def Bh:EZ9 132:=mkD (Rg n).ok [DC n n] 132 Tryz.f132 0 @HG n
def VL:EZ9 134:=mkW (Xa [] []).ok nT 134 Tryz.f134 (eA [qI,qI,qI]::eA [qI,qI,qI]::pT 1000000 224 [] (eP 1000001 1::sB::eP 1000002 1::pT 1000003 175 [(12,eR 1000004 3 1),(17,eR 1000005 100 3),(18,eR 1000006 110 6)] [])) [eT 0] [] 1073707209 16777199 @Y2 n
def WT:BZ9:=Xa [⟨134,VL n⟩] []
def TD:LZ9:=mkU (WT n).ok nT 5 Tryz.f133 [(0,.ptr 1000000 0),(2,.fn 134 [.ptr 1000004 0,.ptr 1000005 0,.ptr 1000006 0]),(4,.ptr 4 0),(7,.ptr 7 0),(17,.l 3),(18,tI),(19,tI),(30,.l 3),(31,tI),(32,tI)] [(4,bT 224 []),(7,.box [.x,.x,.x]),(98012,.arr 3 1),(98017,.arr 100 3),(98018,.arr 110 6),(1000000,bT 175 [(12,.arr 98012),(17,.arr 98017),(18,.arr 98018)]),(1000004,bT 224 []),(1000005,.box [.b]),(1000006,.box [.ptr 1000000 0])] 366898000880223711 [xE 2 [(33,.b)]] @QF n
def Ty:LZ9:=mkU (WT n).ok [TD n n] 2 Tryz.f133 [(0,.ptr 1000000 0),(2,.fn 134 [.ptr 1000004 0,.ptr 1000005 0,.ptr 1000006 0]),(4,.ptr 4 0),(17,.l 3),(18,tI),(19,tI)] [(4,bT 224 []),(98012,.arr 3 1),(98017,.arr 100 3),(98018,.arr 110 6),(1000000,bT 175 [(12,.arr 98012),(17,.arr 98017),(18,.arr 98018)]),(1000004,bT 224 []),(1000005,.box [.b]),(1000006,.box [.ptr 1000000 0])] 503320819852066 [xE 0 [(20,.b)]] @Xf n
def Pm:EZ9 133:=mkW (WT n).ok [Ty n n] 133 Tryz.f133 (pT 1000000 175 [(12,eR 1000001 3 1),(17,eR 1000002 100 3),(18,eR 1000003 110 6)] (eA [qI,qI,qI,qI]::eF 134 3::pT 1000004 224 [] [eP 1000005 1,sB,eP 1000006 1,eS 1000000])) [eT 0] [] 29876207 8388607 @ZO n
def WG:BZ9:=Xa [⟨132,Bh n⟩,⟨133,Pm n⟩] [(5,⟨[],[],[],[],[98015]⟩),(7,⟨[],[],[],[],[98015]⟩)]
def Tn:LZ9:=mkU (WG n).ok nT 2 Tryz.f71 [(1,.ptr 1 0),(11,.l 1),(12,tI),(13,tI)] [(1,.box [.ptr 1000000 0]),(98012,.arr 3 1),(98015,.arr 224 4),(98017,.arr 100 3),(98018,.arr 110 6),(1000000,bT 175 [(12,.arr 98012),(15,.arr 98015),(17,.arr 98017),(18,.arr 98018)])] 177169 [.f .ret [(2,.cb false)] [(98012,.arr 3 1),(98017,.arr 100 3),(98018,.arr 110 6),(1000000,bT 175 [(12,.arr 98012),(17,.arr 98017),(18,.arr 98018)])] [4,6,7,8,9,10,11,12,13,14,15,16,17,18,19,20,21,5,22],xE 0 [(14,.b)]] @Xw n
def Ts:LZ9:=mkU (WG n).ok nT 8 Tryz.f71 [(1,.ptr 1 0),(29,.l 4),(30,tI),(31,tI)] [(1,.box [.ptr 1000000 0]),(98012,.arr 3 1),(98017,.arr 100 3),(98018,.arr 110 6),(1000000,bT 175 [(12,.arr 98012),(17,.arr 98017),(18,.arr 98018)])] 387479560 [.f .ret [(2,.cb false)] [(98012,.arr 3 1),(98017,.arr 100 3),(98018,.arr 110 6),(1000000,bT 175 [(12,.arr 98012),(17,.arr 98017),(18,.arr 98018)])] [4,5,6,7,8,9,10,11,12,13,14,15,16,17,18,19,20,21,22],xE 2 [(32,.b)]] @X7 n
def Tz:EZ9 71:=mkW (WG n).ok [Tn n n,Ts n n] 71 Tryz.f71 (pT 1000000 175 [(12,eR 1000001 3 1),(15,eR 1000002 224 4),(17,eR 1000003 100 3),(18,eR 1000004 110 6)] []) [sB] [(17,sL 4)] 483311 1048574 @ZB n
def Jw:EZ9 130:=mkW (Xa [] []).ok nT 130 Tryz.f130 (pT 1000000 175 [(12,eR 1000001 3 1),(17,eR 1000002 100 3),(18,eR 1000003 110 6)] [sI,sI]) [sI] [] 520191 1048574 @QX n
def Rc:EZ9 136:=mkD (Xa [] []).ok nT 136 Tryz.f136 0 @Yj n
def Dq:EZ9 137:=mkD (Xa [] []).ok nT 137 Tryz.f137 0 @Uv n
def JY:EZ9 135:=mkW (Xa [] []).ok nT 135 Tryz.f135 (pT 1000000 175 [(12,eR 1000001 3 1),(17,eR 1000002 100 3),(18,eR 1000003 110 6)] [sI,sI,sI,sI,sI,sI]) [eT 0] [] 262143 262143 @X9 n
def Pe:EZ9 131:=mkW (Xa [⟨130,Jw n⟩] []).ok nT 131 Tryz.f131 (pT 1000000 175 [(12,eR 1000001 3 1),(17,eR 1000002 100 3),(18,eR 1000003 110 6)] [sI]) [sI] [] 520063 1048574 @Vb n
def QW:BZ9:=Xa [⟨130,Jw n⟩,⟨136,Rc n⟩,⟨137,Dq n⟩,⟨135,JY n⟩,⟨131,Pe n⟩] []
def GJ:LZ9:=mkU (QW n).ok nT 4 Tryz.f72 [(0,.ptr 1000000 0),(2,tI),(3,.ptr 3 0),(20,.l 4),(21,tI),(22,tI),(28,.l 4),(29,tI),(30,tI)] [(3,.box [.x,.x,.x,.x]),(98012,.arr 3 1),(98017,.arr 100 3),(98018,.arr 110 6),(1000000,bT 175 [(12,.arr 98012),(17,.arr 98017),(18,.arr 98018)])] 7625600931295 [xE 2 [(31,.b)]] @Qr n
def GM:LZ9:=mkU (QW n).ok [GJ n n] 1 Tryz.f72 [(0,.ptr 1000000 0),(20,.l 4),(21,tI),(22,tI)] [(98012,.arr 3 1),(98017,.arr 100 3),(98018,.arr 110 6),(1000000,bT 175 [(12,.arr 98012),(17,.arr 98017),(18,.arr 98018)])] 1162262002 [xE 0 [(23,.b)]] @QB n
def GL:LZ9:=mkU (QW n).ok nT 14 Tryz.f72 [(0,.ptr 1000000 0),(84,.l 7),(85,tI),(86,tI)] [(98012,.arr 3 1),(98017,.arr 100 3),(98018,.arr 110 6),(1000000,bT 175 [(12,.arr 98012),(17,.arr 98017),(18,.arr 98018)])] 535 [xE 4 [(87,.b)]] @QD n
def GQ:LZ9:=mkU (QW n).ok nT 20 Tryz.f72 [(0,.ptr 1000000 0),(119,.l 4),(120,tI),(121,tI)] [(98012,.arr 3 1),(98017,.arr 100 3),(98018,.arr 110 6),(1000000,bT 175 [(12,.arr 98012),(17,.arr 98017),(18,.arr 98018)])] 1594858 [xE 6 [(122,.b)]] @QC n
def GS:LZ9:=mkU (QW n).ok nT 25 Tryz.f72 [(0,.ptr 1000000 0),(146,.l 5),(147,tI),(148,tI)] [(98012,.arr 3 1),(98017,.arr 100 3),(98018,.arr 110 6),(1000000,bT 175 [(12,.arr 98012),(17,.arr 98017),(18,.arr 98018)])] 535 [xE 8 [(149,.b)]] @QE n
def Kk:EZ9 72:=mkW (QW n).ok [GM n n,GL n n,GQ n n,GS n n] 72 Tryz.f72 (pT 1000000 175 [(12,eR 1000001 3 1),(17,eR 1000002 100 3),(18,eR 1000003 110 6)] []) [eT 0] [] 239743 262143 @Ym n
def Uf:EZ9 185:=mkW (Xa [] []).ok nT 185 Tryz.f185 [eA [qI,qI,qI],eA [qI,qI,qI],eP 1000000 1,eM 1000001 228] [eT 0] [(2,eH 1000001)] 62 0 @Xq n
def WW:BZ9:=Xa [⟨185,Uf n⟩] []
def TB:LZ9:=mkU (WW n).ok nT 5 Tryz.f133 [(0,.ptr 1000000 0),(2,.fn 185 [.ptr 1000004 0]),(4,.ptr 4 0),(7,.ptr 7 0),(17,.l 3),(18,tI),(19,tI),(30,.l 3),(31,tI),(32,tI)] [(4,bT 224 []),(7,.box [.x,.x,.x]),(98012,.arr 3 1),(98017,.arr 100 3),(98018,.arr 110 6),(1000000,bT 175 [(12,.arr 98012),(17,.arr 98017),(18,.arr 98018)]),(1000004,.box [.arr 1000005]),(1000005,.mp 228)] 3706040378478474 [xE 2 [(33,.b)]] @QV n
def TE:LZ9:=mkU (WW n).ok [TB n n] 2 Tryz.f133 [(0,.ptr 1000000 0),(2,.fn 185 [.ptr 1000004 0]),(4,.ptr 4 0),(17,.l 3),(18,tI),(19,tI)] [(4,bT 224 []),(98012,.arr 3 1),(98017,.arr 100 3),(98018,.arr 110 6),(1000000,bT 175 [(12,.arr 98012),(17,.arr 98017),(18,.arr 98018)]),(1000004,.box [.arr 1000005]),(1000005,.mp 228)] 5115112716613 [xE 0 [(20,.b)]] @Xh n
def Pc:EZ9 133:=mkW (WW n).ok [TE n n] 133 Tryz.f133 (pT 1000000 175 [(12,eR 1000001 3 1),(17,eR 1000002 100 3),(18,eR 1000003 110 6)] [eA [qI,qI,qI,qI],eF 185 1,eP 1000004 1,eM 1000005 228]) [eT 0] [(22,eH 1000005)] 4710399 524287 @ZP n
def Wy:BZ9:=Xa [⟨133,Pc n⟩] []
def JQ:LZ9:=mkU (Wy n).ok nT 3 Tryz.f138 [(0,.ptr 1000000 0),(1,tI),(2,tI),(7,.ptr 7 0),(14,.l 4),(15,tI),(16,tI)] [(7,.box [.arr 10]),(10,.mp 228),(98012,.arr 3 1),(98017,.arr 100 3),(98018,.arr 110 6),(1000000,bT 175 [(12,.arr 98012),(17,.arr 98017),(18,.arr 98018)])] 10460353891 [xE 0 [(17,.b)]] @Qt n
def G2:EZ9 138:=mkW (Wy n).ok [JQ n n] 138 Tryz.f138 (pT 1000000 175 [(12,eR 1000001 3 1),(17,eR 1000002 100 3),(18,eR 1000003 110 6)] [sI,sI]) [eM 10 228] [] 483327 1048574 @XV n
def KX (n:Nat):BZ9:=Xa [] [(2,⟨[],[],[(5,1005,159,3)],[],[]⟩)]
def RW:LZ9:=mkU (KX n).ok nT 3 Tryz.f140 [(1,.arr 1000000),(5,.arr 1005),(8,.l 3),(9,tI),(10,tI)] [(1005,.arr 159 3),(1000000,.mp 228)] 157 [xE 0 [(11,.b)]] @XX n
def M6:EZ9 140:=Q73 (mkW (KX n).ok [RW n n] 140 Tryz.f140 [sL 3,eM 1000000 228] [eR 1005 159 3] [] 0 0 @Ug n)
def Kz:EZ9 244:=mkD (Xa [] []).ok nT 244 Tryz.f244 0 @UP n
def Rv:EZ9 245:=mkW (Xa [] [(2,⟨[],[],[(8,96001,267,2)],[],[]⟩)]).ok nT 245 Tryz.f245 [eN,sI,sI,sI] [eR 96001 267 2] [] 0 0 @Jj n
def Aq:EZ9 221:=mkW (Xa [⟨244,Kz n⟩,⟨36,L3 n⟩,⟨245,Rv n⟩] [(2,⟨[],[],[(6,50016,267,2)],[],[]⟩)]).ok nT 221 Tryz.f221 [sI,sI,sI] [eT 2,eR 50016 267 2,sI] [] 0 0 @TL n
def R7:BZ9:=Xa [⟨244,Kz n⟩] []
def Dk:LZ9:=mkU (R7 n).ok nT 5 Tryz.f223 [(0,tI),(5,tI),(11,.l 2),(12,tI),(13,tI)] [] 205 [.f .ret [(4,.cb false)] [] [],xE 0 [(14,.b)]] @U6 n
def Ns:EZ9 223:=mkD (R7 n).ok [Dk n n] 223 Tryz.f223 0 @Gg n
def R4:BZ9:=Xa [⟨244,Kz n⟩,⟨223,Ns n⟩] []
def DG:LZ9:=mkU (R4 n).ok nT 4 Tryz.f246 [(0,tI),(10,.l 1),(11,tI),(12,tI)] [] 67 [.f .ret [(4,.ci .i64 1)] [] [],xE 0 [(13,.b)]] @WZ n
def Bw:EZ9 246:=mkD (R4 n).ok [DG n n] 246 Tryz.f246 0 @HJ n
def Wo:EZ9 259:=mkW (Xa [] [(6,⟨[],[],[(4,96001,267,2)],[],[]⟩)]).ok nT 259 Tryz.f259 [eN,sI] [eR 96001 267 2] [] 0 0 @QA n
def X1:BZ9:=Xa [⟨259,Wo n⟩] []
def Wj:LZ9:=mkU (X1 n).ok nT 3 Tryz.f248 [(0,.l 1),(3,tI),(9,.l 1),(10,tI),(11,tI)] [] 204 [xE 0 [(12,.b)]] @Qf n
def Wk:LZ9:=mkU (X1 n).ok nT 11 Tryz.f248 [(6,.arr 50024),(25,.l 1),(26,tI),(27,tI)] [(50024,.arr 267 2)] 76 [xE 2 [(28,.b)]] @Qg n
def WH:EZ9 248:=mkW (X1 n).ok [Wj n n,Wk n n] 248 Tryz.f248 [sL 1] [eR 50024 267 2] [] 0 0 @QG n
def PR:EZ9 78:=mkD (Xa [⟨143,RO n⟩] []).ok nT 78 Tryz.f78 0 @VV n
def TC:EZ9 258:=mkD (Xa [⟨78,PR n⟩] []).ok nT 258 Tryz.f258 0 @UQ n
def X5:BZ9:=Xa [⟨258,TC n⟩] []
def WC:LZ9:=mkU (X5 n).ok nT 4 Tryz.f270 [(0,.arr 1000000),(1,tI),(2,tI),(3,.fn 258 []),(8,tI),(9,tI)] [(1000000,.arr 267 2)] 217 [xE 2 [(34,.b)]] @Qh n
def Ww:LZ9:=mkU (X5 n).ok [WC n n] 1 Tryz.f270 [(0,.arr 1000000),(1,tI),(2,tI),(3,.fn 258 []),(8,tI)] [(1000000,.arr 267 2)] 76 [xE 0 [(14,.b)]] @Q6 n
def WP:EZ9 270:=Q73 (mkW (X5 n).ok [Ww n n] 270 Tryz.f270 [eR 1000000 267 2,sI,sI,eF 258 0] [eT 0] [(1,eK 1000000 267 2)] 0 0 @Xj n)
def Ys:BZ9:=Xa [⟨270,WP n⟩] []
def UT:LZ9:=mkU (Ys n).ok nT 2 Tryz.f264 [(0,.arr 1000000),(1,tI),(2,tI),(3,tI),(4,.fn 258 []),(10,.cb true),(11,.cb true)] [(1000000,.arr 267 2)] 40 [.f .ret [] [(1000000,.arr 267 2)] [0]] @Xz n
def V4:EZ9 264:=Q73 (mkW (Ys n).ok [UT n n] 264 Tryz.f264 [eR 1000000 267 2,sI,sI,sI,eF 258 0] [eT 0] [(1,eK 1000000 267 2)] 0 0 @XK n)
def Zp:EZ9 257:=Q73 (mkW (Xa [⟨66,T5 n⟩,⟨264,V4 n⟩] []).ok nT 257 Tryz.f257 [eR 1000000 267 2,eF 258 0] [eT 0] [(1,eK 1000000 267 2)] 0 0 @Qu n)
def Th:BZ9:=Xa [⟨257,Zp n⟩] [(3,⟨[],[],[(3,1003,267,2)],[],[]⟩)]
def Mz:LZ9:=mkU (Th n).ok nT 4 Tryz.f247 [(3,.arr 1003),(9,.arr 1000000),(10,tI),(11,tI)] [(1003,.arr 267 2),(1000000,.arr 267 2)] 52 [xE 0 [(12,.b)]] @X6 n
def Fm:EZ9 247:=Q73 (mkW (Th n).ok [Mz n n] 247 Tryz.f247 [eR 1000000 267 2] [eR 1003 267 2] [(1,eK 1000000 267 2)] 0 0 @Hp n)
def CX:EZ9 222:=mkW (Xa [⟨246,Bw n⟩,⟨248,WH n⟩,⟨247,Fm n⟩] [(3,⟨[],[],[(6,50021,267,2)],[],[]⟩)]).ok nT 222 Tryz.f222 [sI,sL 2,sL 2] [eT 2,eR 50021 267 2,sI] [] 0 0 @HR n
def G5:EZ9 220:=mkW (Xa [⟨221,Aq n⟩,⟨222,CX n⟩] []).ok nT 220 Tryz.f220 [eA [qI,qI,qI],eA [qI,qI,qI],eP 1000000 1,sI,eP 1000001 1,eR 1000002 267 2] [eT 0] [] 9 1 @Z2 n
def Hv:BZ9:=Xa [⟨220,G5 n⟩] []
def M4:LZ9:=mkU (Hv n).ok nT 0 Tryz.f219 [(0,.l 3),(1,.l 3),(2,.fn 220 [.ptr 1000000 0,.ptr 1000001 0])] [(98040,.arr 267 2),(1000000,.box [tI]),(1000001,.box [.arr 98040])] 53 [xE 0 [(15,.b)]] @Qp n
def Mx:EZ9 219:=mkW (Hv n).ok [M4 n n] 219 Tryz.f219 [sL 3,sL 3,eF 220 2,eP 1000000 1,sI,eP 1000001 1,eR 1000002 267 2] [eT 0] [] 0 1 @Kx n
def MH:EZ9 186:=mkW (Xa [⟨184,RE n⟩,⟨219,Mx n⟩] [(3,⟨[],[],[(6,50024,267,2)],[],[]⟩),(6,⟨[],[],[(6,50024,267,2)],[],[]⟩),(7,⟨[],[],[],[(8,0,2320,267,2)],[]⟩)]).ok nT 186 Tryz.f186 [sI,sL 3,sL 3] [eT 2,eR 50024 267 2,sI] [] 0 0 @Ja n
def DS:EZ9 249:=mkD (Xa [] []).ok nT 249 Tryz.f249 0 @Pk n
def Rf:BZ9:=Xa [⟨249,DS n⟩] []
def Dp:LZ9:=mkU (Rf n).ok nT 3 Tryz.f224 [(3,tI),(6,.l 2),(7,tI),(8,tI)] [] 68 [xE 0 [(9,.b)]] @ZI n
def BB:EZ9 224:=mkD (Rf n).ok [Dp n n] 224 Tryz.f224 0 @Su n
def CP:EZ9 187:=mkD (Xa [⟨223,Ns n⟩,⟨224,BB n⟩] []).ok nT 187 Tryz.f187 0 @HX n
def GD:BZ9:=Xa [⟨186,MH n⟩,⟨187,CP n⟩] [(8,⟨[],[],[],[],[50018]⟩),(11,⟨[],[],[(11,1011,108,2)],[],[]⟩)]
def F0:LZ9:=mkU (GD n).ok nT 12 Tryz.f139 [(0,tI),(11,.arr 1011),(65,.l 2),(66,tI),(67,tI)] [(1011,.arr 108 2)] 229 [xE 0 [(68,.b)]] @Zr n
def Ln:LZ9:=mkU (GD n).ok nT 12 Tryz.f139 [(0,tI),(11,.arr 1011),(65,.arr 50018),(66,tI),(67,tI)] [(1011,.arr 108 2),(50018,.arr 267 2)] 157 [xE 0 [(68,.b)]] @YD n
def Ej:EZ9 139:=mkD (GD n).ok [orL (Ln n n) (F0 n n)] 139 Tryz.f139 0 @WB n
def XS:BZ9:=Xa [⟨138,G2 n⟩,⟨140,M6 n⟩,⟨139,Ej n⟩,⟨136,Rc n⟩,⟨135,JY n⟩] []
def GF:LZ9:=mkU (XS n).ok nT 12 Tryz.f73 [(0,.ptr 1000000 0),(3,tI),(4,tI),(14,tI),(15,tI),(63,.l 2),(64,tI),(65,tI)] [(98012,.arr 3 1),(98017,.arr 100 3),(98018,.arr 110 6),(1000000,bT 175 [(12,.arr 98012),(17,.arr 98017),(18,.arr 98018)])] 41152 [xE 4 [(66,.b)]] @Qy n
def Gt:LZ9:=mkU (XS n).ok [GF n n] 5 Tryz.f73 [(0,.ptr 1000000 0),(3,tI),(4,tI),(14,tI),(15,tI)] [(98012,.arr 3 1),(98017,.arr 100 3),(98018,.arr 110 6),(1000000,bT 175 [(12,.arr 98012),(17,.arr 98017),(18,.arr 98018)])] 11622793282 [.f .ret [(2,tI)] [(98012,.arr 3 1),(98017,.arr 100 3),(98018,.arr 110 6),(1000000,bT 175 [(12,.arr 98012),(17,.arr 98017),(18,.arr 98018)])] [0,5,6,0,8,9,10,11,12,13,14,15,16,17,18,19,20,21,22,23],xE 2 [(26,.b)]] @QP n
def Gp:LZ9:=mkU (XS n).ok [Gt n n] 2 Tryz.f73 [(0,.ptr 1000000 0),(14,tI),(15,tI)] [(98012,.arr 3 1),(98017,.arr 100 3),(98018,.arr 110 6),(1000000,bT 175 [(12,.arr 98012),(17,.arr 98017),(18,.arr 98018)])] 1291421482 [.f .ret [(2,tI)] [(98012,.arr 3 1),(98017,.arr 100 3),(98018,.arr 110 6),(1000000,bT 175 [(12,.arr 98012),(17,.arr 98017),(18,.arr 98018)])] [0,3,4,0,6,7,8,9,10,11,12,13,14,15,16,17,18,19,20,21],xE 0 [(16,.b)]] @Qq n
def GR:EZ9 73:=mkW (XS n).ok [Gp n n] 73 Tryz.f73 (pT 1000000 175 [(12,eR 1000001 3 1),(17,eR 1000002 100 3),(18,eR 1000003 110 6)] []) [sI] [] 221167 524286 @Yd n
def Eb:EZ9 141:=mkD (Xa [] []).ok nT 141 Tryz.f141 0 @G8 n
def Rl:BZ9:=Xa [⟨141,Eb n⟩] []
def DN:LZ9:=mkU (Rl n).ok nT 4 Tryz.f74 [(1,.ptr 1 0),(26,.l 6),(27,tI),(28,tI)] [(1,.box [tI,.l 3,.l 6])] 373 [.f .ret [(2,.cb false)] [] [],xE 0 [(29,.b)]] @U5 n
def CI:EZ9 74:=mkD (Rl n).ok [DN n n] 74 Tryz.f74 0 @T0 n
def Nt:BZ9:=Xa [⟨74,CI n⟩] []
def B1:LZ9:=mkU (Nt n).ok nT 4 Tryz.f40 [(2,.ptr 2 0),(18,.l 1),(19,tI),(20,tI)] [(2,.box [tI,.l 3,.l 6])] 49 [.f .ret [(4,.cb false)] [] [],xE 0 [(21,.b)]] @V2 n
def A0:EZ9 40:=mkD (Nt n).ok [B1 n n] 40 Tryz.f40 0 @JU n
def G3 (n:Nat):BZ9:=Xa [] []
def Ft:LZ9:=mkU (G3 n).ok nT 3 Tryz.f41 [(1,.ptr 1 0),(3,.arr 10),(12,tI),(13,tI)] [(1,bT 36 []),(10,.arr 3 1)] 118105 [xE 0 [(14,.b)]] @Gw n
def F1:LZ9:=mkU (G3 n).ok nT 8 Tryz.f41 [(3,.arr 10),(21,.l 4),(22,tI),(23,tI)] [(10,.arr 3 1)] 76 [xE 2 [(24,.b)]] @Ge n
def PS:EZ9 41:=mkD (G3 n).ok [Ft n n,F1 n n] 41 Tryz.f41 215 @Zl n
def We (n:Nat):BZ9:=Xa [] [(1,⟨[],[],[],[(8,0,1080,3,1)],[]⟩)]
def Jr:LZ9:=mkU (We n).ok nT 2 Tryz.f75 [(2,.ptr 1000000 0),(3,.ptr 1000002 0),(4,.ptr 1000003 0),(5,.ptr 1000004 0),(8,.ptr 8 0),(9,tI)] [(8,.box [.arr 1080,.b]),(1080,.arr 3 1),(98000,.arr 4 1),(98160,.arr 129 2),(1000000,.box [.arr 98000]),(1000002,.box [.l 1]),(1000003,bT 36 []),(1000004,.box [.arr 98160])] 177464 [xE 0 [(17,.b)]] @XC n
def JJ:EZ9 75:=mkW (We n).ok [Jr n n] 75 Tryz.f75 (sI::sB::eP 1000000 1::eR 1000001 4 1::eP 1000002 1::sL 1::pT 1000003 36 [] [eP 1000004 1,eR 1000005 129 2]) [eT 0] [] 3568 1022 @YE n
def GN:EZ9 77:=mkD (Xa [⟨78,PR n⟩] []).ok nT 77 Tryz.f77 0 @V9 n
def QQ:BZ9:=Xa [⟨77,GN n⟩] []
def ZL:LZ9:=mkU (QQ n).ok nT 4 Tryz.f188 [(0,.arr 1000000),(1,tI),(2,tI),(3,.fn 77 []),(8,tI),(9,tI)] [(1000000,.arr 129 2)] 217 [xE 2 [(34,.b)]] @QR n
def ZJ:LZ9:=mkU (QQ n).ok [ZL n n] 1 Tryz.f188 [(0,.arr 1000000),(1,tI),(2,tI),(3,.fn 77 []),(8,tI)] [(1000000,.arr 129 2)] 76 [xE 0 [(14,.b)]] @QS n
def ZN:EZ9 188:=Q73 (mkW (QQ n).ok [ZJ n n] 188 Tryz.f188 [eR 1000000 129 2,sI,sI,eF 77 0] [eT 0] [(1,eK 1000000 129 2)] 0 0 @XU n)
def Y4:BZ9:=Xa [⟨188,ZN n⟩] []
def WU:LZ9:=mkU (Y4 n).ok nT 2 Tryz.f142 [(0,.arr 1000000),(1,tI),(2,tI),(3,tI),(4,.fn 77 []),(10,.cb true),(11,.cb true)] [(1000000,.arr 129 2)] 40 [.f .ret [] [(1000000,.arr 129 2)] [0]] @Y5 n
def Ui:EZ9 142:=Q73 (mkW (Y4 n).ok [WU n n] 142 Tryz.f142 [eR 1000000 129 2,sI,sI,sI,eF 77 0] [eT 0] [(1,eK 1000000 129 2)] 0 0 @Yo n)
def Yx:EZ9 76:=Q73 (mkW (Xa [⟨66,T5 n⟩,⟨142,Ui n⟩] []).ok nT 76 Tryz.f76 [eR 1000000 129 2,eF 77 0] [eT 0] [(1,eK 1000000 129 2)] 0 0 @Xn n)
def WN:BZ9:=Xa [⟨41,PS n⟩,⟨75,JJ n⟩,⟨76,Yx n⟩] [(11,⟨[],[],[],[(7,0,1070,129,2)],[]⟩),(14,⟨[],[],[],[(7,0,2280,129,2)],[]⟩)]
def Rs:LZ9:=mkU (WN n).ok nT 4 Tryz.f42 [(1,.ptr 1 0),(3,.ptr 3 0),(4,.arr 17),(19,.l 4),(20,tI),(21,tI)] [(1,bT 36 []),(3,.box [.l 1]),(17,.arr 4 1)] 1062904 [xE 0 [(22,.b)]] @VD n
def Rr:LZ9:=mkU (WN n).ok nT 12 Tryz.f42 [(1,.ptr 1 0),(4,.arr 17),(7,.ptr 7 0),(8,.ptr 8 0),(9,.fn 75 [.ptr 8 0,.ptr 3 0,.ptr 1 0,.ptr 7 0]),(37,tI),(38,tI)] [(1,bT 36 []),(3,.box [.l 1]),(7,.box [.arr 1070]),(8,.box [.arr 33]),(17,.arr 4 1),(33,.arr 4 1),(1070,.arr 129 2)] 4489918 [xE 2 [(39,.b)]] @WM n
def Rw:LZ9:=mkU (WN n).ok nT 18 Tryz.f42 [(7,.ptr 7 0),(8,.ptr 8 0),(9,.fn 75 [.ptr 8 0,.ptr 3 0,.ptr 1 0,.ptr 7 0]),(52,tI),(53,tI)] [(1,bT 36 []),(3,.box [.l 1]),(7,.box [.arr 1070]),(8,.box [.arr 33]),(33,.arr 4 1),(1070,.arr 129 2)] 1478419 [xE 4 [(54,.b)]] @WK n
def N4:EZ9 42:=mkD (WN n).ok [Rs n n,Rr n n,Rw n n] 42 Tryz.f42 215 @XH n
def V5:EZ9 145:=mkW (Xa [⟨36,L3 n⟩] []).ok nT 145 Tryz.f145 (pT 1000000 125 [(18,eR 1000001 3 1),(20,eR 1000002 45 5)] [sI]) [sI] [] 2043903 4194302 @Xo n
def VM:EZ9 83:=mkW (Xa [⟨145,V5 n⟩] []).ok nT 83 Tryz.f83 (pT 1000000 125 [(18,eR 1000001 3 1),(20,eR 1000002 45 5)] [sI,sI]) [eT 2,sI,sB] [] 1126015 8388604 @X0 n
def Jp:EZ9 82:=mkW (Xa [⟨145,V5 n⟩] []).ok nT 82 Tryz.f82 (pT 1000000 125 [(18,eR 1000001 3 1),(20,eR 1000002 45 5)] [sI,sI]) [sI] [] 1781759 4194302 @Xl n
def Wz:BZ9:=Xa [⟨83,VM n⟩,⟨82,Jp n⟩] []
def Tb:LZ9:=mkU (Wz n).ok nT 8 Tryz.f79 [(0,.ptr 1000000 0),(5,tI),(7,tI),(15,.l 1),(16,tI),(17,tI),(30,tI),(31,tI)] [(98018,.arr 3 1),(98020,.arr 45 5),(1000000,bT 125 [(18,.arr 98018),(20,.arr 98020)])] 10554668572604 [xE 2 [(32,.b)]] @Xy n
def Tc:LZ9:=mkU (Wz n).ok [Tb n n] 5 Tryz.f79 [(0,.ptr 1000000 0),(5,tI),(15,.l 1),(16,tI),(17,tI)] [(98018,.arr 3 1),(98020,.arr 45 5),(1000000,bT 125 [(18,.arr 98018),(20,.arr 98020)])] 390913650842 [xE 0 [(18,.b)]] @X4 n
def TF:EZ9 79:=mkW (Wz n).ok [Tc n n] 79 Tryz.f79 (pT 1000000 125 [(18,eR 1000001 3 1),(20,eR 1000002 45 5)] [eA [qL 1,qB]]) [sI] [] 1126015 4194302 @ZD n
def VA:EZ9 80:=mkW (Xa [] []).ok nT 80 Tryz.f80 (sI::sI::sI::eP 1000000 1::pT 1000001 125 [(18,eR 1000002 3 1),(20,eR 1000003 45 5)] [eP 1000004 1,sI,eP 1000005 1,sI]) [eT 0] [] 8388600 7340031 @Q8 n
end Go.Vx
namespace Go.Vx
section
variable {R:Type}
theorem Q3e (x:Int):0<=IntKind.wrap .u64 x:=by
 have:=Int.emod_nonneg x (show (18446744073709551616:Int)≠0 by decide);simpa [IntKind.wrap,IntKind.bits,IntKind.signed] using this
theorem Qax {x:Int} (a:0<=x) (b:x<18446744073709551616):IntKind.wrap .u64 x=x:=by
 have:=Int.emod_eq_of_lt a b;simpa [IntKind.wrap,IntKind.bits,IntKind.signed] using this
def pick (v m:Int):Int:=(IntKind.wrap .u64 v).tmod m
theorem S8 (v:Int) {m:Int} (h:0<m):0<=pick v m/\pick v m<m:=by
 unfold pick;rw [Qj2 (Q3e v)];exact ⟨Int.emod_nonneg _ (by omega),Int.emod_lt_of_pos _ h⟩
theorem Qcd (n:Nat) (v:Int) {m:Int} (h:0<m) (hm:m<=9223372036854775807) (K:Int->oP R):Tm n v m K=K (pick v m):=by
 unfold Tm;rw [Qax (x:=m) (by omega) (by omega),EC (by omega)];simp -implicitDefEqProofs only [Q0];have:=S8 v h;unfold pick at this ⊢;rw [Q48 (by omega) (by omega)]
theorem Qao (n:Nat) {l:List Int} (hl:l.length<=9223372036854775807) {i:Nat} (hi:i<=l.length) {m:Int} (h:0<m) (hm:m<=9223372036854775807) :
  ∃ (v:Int) (j:Nat),0<=v/\v<m/\j<=l.length/\∀ (R:Type) (K:Int->Int->oP R),Q5 n (encI l) i m K=K v j:=by
 by_cases ac:i<l.length
 ·have hg:=QiQ ac;refine ⟨pick l[i] m,i+1,(S8 _ h).1,(S8 _ h).2,by omega,fun R K=>?_⟩;unfold Q5;rw [Q9 (by simp [Xg];omega),Q48 (x:=(i:Int)+1) (by omega) (by omega),Q48 (by omega) (by omega)];rw [show (i:Int)+1-1=(i:Int) by omega,HM hg];simp -implicitDefEqProofs only [Q0,List.getElem?_cons_zero,Q2,Qcd n _ h hm];rfl
 ·refine ⟨0,i,by omega,h,hi,fun R K=>?_⟩;unfold Q5;rw [QY (by simp [Xg];omega)]
end
def OkP {R:Type} (P:R->Prop) (E:oP R):Prop:=∃ v,E=some v/\P v
instance {R:Type}:Membership (oP R) (R->Prop):=⟨fun P E=>OkP P E⟩
theorem okI {R:Type} {P:R->Prop} {v:R} (h:P v):some v∈P:=⟨v,rfl,h⟩
theorem okB {R S:Type} {P:S->Prop} {E:oP R} {z:R} {f:R->Option S} (h:E∈(fun v=>f v∈P:R->Prop)):gb true E z f∈P:=by
 obtain ⟨v,e,h⟩:=h;rw [e];exact h
theorem Vq {R:Type} {n:Nat} {l:List Int} (hl:l.length<=9223372036854775807) {i:Nat} (hi:i<=l.length) {m:Int} (h:0<m) (hm:m<=9223372036854775807) {z:Int × Int} {f:Int × Int->oP R} {P:R->Prop}
  (H:∀ (v:Int) (j:Nat),0<=v->v<m->j<=l.length->f (v,(j:Int))∈P) :
  gb true (Q5 n (encI l) (i:Int) m Tu2) z f∈P:=by
 obtain ⟨v,j,c,d,hj,e⟩:=Qao n hl hi h hm;rw [e];exact H v j c d hj
structure Num (a b c:Int):Prop where
 a0:2<=a
 a1:a<=10
 b0:5000<=b
 b1:b<=35000
 c0 : -10<=c
 c1:c<=10
theorem Q7 {x:Int} (a : -9223372036854775808<=x) (b:x<=9223372036854775807):wJ x=x:=by
 simp only [IntKind.wrap_i64];omega
theorem Qdx {R:Type} {n:Nat} {l:List Int} (hl:l.length<=9223372036854775807) {i:Nat} (hi:i<=l.length) {nm:List UInt8} {st:Int} {z:List UInt8 × Int × Int × Int × Int × Int} {f:List UInt8 × Int × Int × Int × Int × Int->oP R} {P:R->Prop}
  (H:∀ (a b c:Int) (j:Nat),Num a b c->j<=l.length->f (nm,a,b,c,st,(j:Int))∈P) :
  gb true (Wv n (encI l) (i:Int) nm st Tu6) z f∈P:=by
 obtain ⟨v,j,u,y,hj,e⟩:=Qao n hl hi (show (0:Int)<9 by decide) (by decide);obtain ⟨d,j2,g0,g1,q,e2⟩:=Qao n hl hj (show (0:Int)<7 by decide) (by decide);obtain ⟨r,j3,k0,k1,s,t⟩:=Qao n hl q (show (0:Int)<21 by decide) (by decide);unfold Wv;rw [e,Q0,e2,Q0,t,Q0,Q0];rw [Q7 (x:=2+v) (by omega) (by omega),Q7 (x:=5000*d) (by omega) (by omega),Q7 (x:=5000+5000*d) (by omega) (by omega),Q7 (x:=r-10) (by omega) (by omega)];exact H _ _ _ _ ⟨by omega,by omega,by omega,by omega,by omega,by omega⟩ s
theorem two {v:Int} (a:0<=v) (b:v<2):v=0\/v=1:=by omega
theorem Cy {R:Type} (n:Nat) (a:List UInt8) (d:Nat) (hd:d<10) (ha:a.length<=100) (K:List UInt8->oP R):Vs n a (d:Int) K=K (a++[UInt8.ofNat (48+d)]):=by
 have:∀ d:Fin 10,∃ q,slB (List.length (bs [48,49,50,51,52,53,54,55,56,57])) (some (Int.tmod (d.val:Int) (10:Int))) (some (wJ ((Int.tmod (d.val:Int) (10:Int))+(1:Int))))=some q/\cut (bs [48,49,50,51,52,53,54,55,56,57]) q=[UInt8.ofNat (48+d.val)]:=by
  intro d
  match d with
  |0=>exact ⟨_,rfl,rfl⟩
  |1=>exact ⟨_,rfl,rfl⟩
  |2=>exact ⟨_,rfl,rfl⟩
  |3=>exact ⟨_,rfl,rfl⟩
  |4=>exact ⟨_,rfl,rfl⟩
  |5=>exact ⟨_,rfl,rfl⟩
  |6=>exact ⟨_,rfl,rfl⟩
  |7=>exact ⟨_,rfl,rfl⟩
  |8=>exact ⟨_,rfl,rfl⟩
  |9=>exact ⟨_,rfl,rfl⟩
 obtain ⟨q,b,h2⟩:=this ⟨d,hd⟩;unfold Vs;simp only at b h2;rw [b];have hz:nz (10:Int)=some ():=rfl;rw [hz,Q0,Q0,Q0,h2];have hs:Q8r (a.length+([UInt8.ofNat (48+d)]:List UInt8).length)=some ():=by
  unfold Q8r;rw [show Nat.ble (a.length+([UInt8.ofNat (48+d)]:List UInt8).length) 9223372036854775807=true from Nat.ble_eq_true_of_le (by simp;omega)];rfl
 rw [hs,Q0]
theorem XF {k:Nat} (h:k<=100000):Yf k=some ():=by
 unfold Yf;rw [show Nat.ble k 140737488355328=true from Nat.ble_eq_true_of_le (by omega)];rfl
theorem Qha {R:Type} {n:Nat} {e:LL} {s:List UInt8} {a b c d:Int} {z:Int × LL} {f:Int × LL->oP R} {P:R->Prop} (k:Nat) (hk:e.length=k) (h:k<=1000)
  (H:f ((k:Int),e++[[D.str s,D.int .i64 a,D.int .i64 b,D.int .i64 c,D.int .i64 d]])∈P) :
  gb true (Z9 n e s a b c d Tu2) z f∈P:=by
 unfold Z9;rw [XF (by simp;omega),Q0,Q0];have hl:(e++[[D.str s,D.int .i64 a,D.int .i64 b,D.int .i64 c,D.int .i64 d]]).length=k+1:=by simp [hk]
 rw [hl,Q7 (x:=((k+1:Nat):Int)-1) (by omega) (by omega),show ((k+1:Nat):Int)-1=(k:Int) by omega];exact H
theorem QhG {R:Type} {n:Nat} {e:LL} {s:List UInt8} {a b c d:Int} {z:Int × LL} {f:Int × LL->oP R} {P:R->Prop} (k:Nat) (hk:e.length=k) (h:k<=1000) (hn:Num a b c)
  (H:f ((k:Int),e++[[D.str s,D.int .i64 (a+2),D.int .i64 b,D.int .i64 c,D.int .i64 d]])∈P) :
  gb true (Z9 n e s (wJ (a+2)) b c d Tu2) z f∈P:=by
 have j:=hn.a0;have l:=hn.a1;rw [Q7 (x:=a+2) (by omega) (by omega)];exact Qha k hk h H
def Qhb (i k:Nat):List UInt8:=bs [84]++[UInt8.ofNat (48+i)]++[UInt8.ofNat (48+k)]
def nmL (i k:Nat):List UInt8:=bs [76]++[UInt8.ofNat (48+i)]++[UInt8.ofNat (48+k)]
abbrev RC:=Int × Int × Int
def secT (i k:Nat) (x:RC):List D:=[D.str (Qhb i k),Q4 (x.1+2),Q4 x.2.1,Q4 x.2.2,Q4 i]
def secL (i k:Nat) (x:RC):List D:=[D.str (nmL i k),Q4 x.1,Q4 x.2.1,Q4 x.2.2,Q4 (-1)]
def Yy (f:Nat->RC->List D):Nat->List RC->LL
 |k+1,x::y=>f (k+1) x::Yy f k y
 |_,_=>[]
def ups (k:Nat):Nat->List Nat
 |0=>[]
 |c+1=>k::ups (k+1) c
def ZQ (l:List Nat):LL:=l.map fun k=>[Q4 (k:Nat)]
def KM:List RC->Prop
 |[]=>True
 |x::r=>Num x.1 x.2.1 x.2.2/\KM r
section
variable {R:Type} {n:Nat} {l:List Int} (hl:l.length<=9223372036854775807) {P:R->Prop}
include hl
theorem Qg1 {i c k j m:Nat} {tl S:LL} {k0:Int->Bool->LL->LL->Int->oP R}
  (hi:i<10) (hc:c+1<10) (hk:S.length=k) (e:k<=500) (ht:tl.length<=500) (hj:j<=l.length)
  (H:∀ (x:RC) (j:Nat),Num x.1 x.2.1 x.2.2->j<=l.length->JN n i (encI l) k0 m (c:Int) (tl++[[Q4 k]]) (S++[secT i (c+1) x]) (j:Int)∈P) :
  JN n (i:Int) (encI l) k0 (m+1) ((c+1:Nat):Int) tl S (j:Int)∈P:=by
 unfold JN;rw [QY (by simp),Cy n _ i hi (by decide),Q0,Cy n _ (c+1) hc (by simp),Q0];refine Qdx hl hj fun a b d j hn hj=>?_
 dsimp only;refine QhG k hk (by omega) hn ?_;dsimp only;rw [XF (by simp;omega),Q0,Q7 (x:=((c+1:Nat):Int)-1) (by omega) (by omega),show ((c+1:Nat):Int)-1=(c:Int) by omega];exact H (a,b,d) j hn hj
theorem QcH {i c k j m:Nat} {S:LL} {k0:Int->Bool->LL->LL->Int->oP R}
  (hi:i<10) (hc:c=1\/c=2) (hk:S.length=k) (a:k<=400) (hj:j<=l.length)
  (H:∀ (x:List RC) (j:Nat),KM x->x.length=c->j<=l.length->k0 0 false (ZQ (ups k c)) (S++Yy (secT i) c x) (j:Int)∈P) :
  JN n (i:Int) (encI l) k0 (m+3) (c:Int) [] S (j:Int)∈P:=by
 rcases hc with rfl | rfl
 ·refine Qg1 hl (c:=0) hi (by omega) hk (by omega) (by simp) hj fun x j hx hj=>?_
  exact H [x] j ⟨hx,trivial⟩ rfl hj
 ·refine Qg1 hl (c:=1) hi (by omega) hk (by omega) (by simp) hj fun x j hx hj=>?_
  refine Qg1 hl (c:=0) (k:=k+1) hi (by omega) (by simp [hk]) (by omega) (by simp) hj fun y j hy hj=>?_
  have:=H [x,y] j ⟨hx,hy,trivial⟩ rfl hj;simp only [Yy,ups,ZQ,List.map_cons,List.map_nil] at this;show k0 0 false _ (S++[secT i 2 x]++[secT i 1 y]) (j:Int)∈P;rw [List.append_assoc S];exact this
end
def Q60 (a b:Int) (p q:Int):List D:=[Q4 a,Q4 1,Q4 b,Q4 0,Q4 p,Q4 q]
def lk (ac:Bool) (x t:Int) (p q:Int):List D:=bif ac then Q60 x t p q else Q60 t x p q
def nmP (k:Nat):List D:=[D.str (bs [80]++[UInt8.ofNat (48+k)])]
def Q2A (x:Nat) (ac:Bool) (aj k c:Nat):LL:=bif Nat.beq c 2 then [lk ac x k aj 0,lk ac x ((k+1:Nat):Int) aj 1] else [lk ac x k (-1) 0]
def Q1Q (ac c:Nat):LL:=bif Nat.beq c 2 then [nmP ac] else []
section
variable {R:Type} {n:Nat} {q2 q4:LL}
theorem QcW {a b c d:Int} (h:q4.length<=1000) (K:LL->oP R):Y8 n q4 a b c d K=K (q4++[Q60 a b c d]):=by
 unfold Y8;rw [XF (by simp;omega),Q0];rfl
theorem Qdq {k:Nat} (hk:q2.length=k) (h:k<10) (K:Int->LL->oP R):Zn n q2 K=K (k:Int) (q2++[nmP k]):=by
 unfold Zn;rw [hk,Cy n _ k h (by decide),Q0,XF (by simp;omega),Q0];have hl:(q2++[[D.str (bs [80]++[UInt8.ofNat (48+k)])]]).length=k+1:=by simp [hk]
 rw [hl,Q7 (x:=((k+1:Nat):Int)-1) (by omega) (by omega),show ((k+1:Nat):Int)-1=(k:Int) by omega];rfl
theorem QgC {a1 a:Int} {T:List Nat} {ac:Bool} {w:Int} {h t m:Nat} (hh:(h:Int)<a) (b:h<=1000) (ht:T[h]? = some t) (hq:q4.length<=1000) {k0:Int->Bool->LL->oP R} :
  Qw n a1 (ZQ T) ac w a k0 (m+1) (h:Int) q4=Qw n a1 (ZQ T) ac w a k0 m ((h+1:Nat):Int) (q4++[lk ac a1 t w h]):=by
 rw [Qw];rw [QY (by simp;omega),Q7 (x:=(h:Int)+1) (by omega) (by omega)];have hr:Q1 (ZQ T) (h:Int)=some [Q4 t]:=QL ht;cases ac
 ·rw [Q9 rfl,hr,Q0];show gb true (some (D.int .i64 (t:Int))) _ _=_;rw [Q0,Q2,Q0,QcW hq,Q0];rfl
 ·rw [QY rfl,hr,Q0];show gb true (some (D.int .i64 (t:Int))) _ _=_;rw [Q0,Q2,Q0,QcW hq,Q0];rfl
theorem QdE {a1 a:Int} {T:LL} {ac:Bool} {w:Int} {h m:Nat} (hh:¬ (h:Int)<a) {k0:Int->Bool->LL->oP R} :
  Qw n a1 T ac w a k0 (m+1) (h:Int) q4=k0 h false q4:=by
 rw [Qw,Q9 (by simp;omega)];simp [hh]
theorem QgX {m x k c p:Nat} {ac:Bool} (hc:c=1\/c=2) (hp:q2.length=p) (a:p<10) (hq:q4.length<=900) (K:LL->LL->oP R) :
  Vd (m+3) q2 q4 (x:Int) (ZQ (ups k c)) ac K=K (q2++Q1Q p c) (q4++Q2A x ac p k c):=by
 rcases hc with rfl | rfl
 ·show Qw (m+3) (x:Int) (ZQ [k]) ac (-1) (1:Int) _ (m+2+1) ((0:Nat):Int) q4=_;rw [QgC (by decide) (by decide) rfl (by omega),QdE (by decide)];rw [show Q1Q p 1=[] from rfl,List.append_nil];rfl
 ·show gb true (Zn (m+3) q2 _) _ _=_;rw [Qdq hp a,Q0];show Qw (m+3) (x:Int) (ZQ [k,k+1]) ac (p:Int) (2:Int) _ (m+2+1) ((0:Nat):Int) q4=_;rw [QgC (by decide) (by decide) rfl (by omega),QgC (by decide) (by decide) rfl (by simp;omega),QdE (by decide),List.append_assoc];rfl
end
def inL (s u:Nat):LL:=bif Nat.beq u 2 then [Q60 s ((s+1:Nat):Int) (-1) 0] else []
def pc (c:Nat):Nat:=bif Nat.beq c 2 then 1 else 0
theorem Q5s (p c:Nat):(Q1Q p c).length=pc c:=by unfold Q1Q pc;cases Nat.beq c 2 <;> rfl
theorem QbW {c:Nat}:pc c<=1:=by unfold pc;cases Nat.beq c 2 <;> simp
theorem Q1I {x p k c:Nat} {e:Bool}:(Q2A x e p k c).length<=2:=by unfold Q2A;cases Nat.beq c 2 <;> simp
theorem Q4f {s u:Nat}:(inL s u).length<=1:=by unfold inL;cases Nat.beq u 2 <;> simp
section
variable {R:Type} {n:Nat} {l:List Int} (hl:l.length<=9223372036854775807) {P:R->Prop}
include hl
theorem Qcz {i c k j m:Nat} {tl S:LL} {k0:Int->Bool->LL->LL->Int->oP R}
  (hi:i<10) (hc:c+1<10) (hk:S.length=k) (e:k<=500) (ht:tl.length<=500) (hj:j<=l.length)
  (H:∀ (x:RC) (j:Nat),Num x.1 x.2.1 x.2.2->j<=l.length->JL n i (encI l) k0 m (c:Int) (tl++[[Q4 k]]) (S++[secL i (c+1) x]) (j:Int)∈P) :
  JL n (i:Int) (encI l) k0 (m+1) ((c+1:Nat):Int) tl S (j:Int)∈P:=by
 unfold JL;rw [QY (by simp),Cy n _ i hi (by decide),Q0,Cy n _ (c+1) hc (by simp),Q0];refine Qdx hl hj fun a b d j hn hj=>?_
 dsimp only;refine Qha k hk (by omega) ?_;dsimp only;rw [XF (by simp;omega),Q0,Q7 (x:=((c+1:Nat):Int)-1) (by omega) (by omega),show ((c+1:Nat):Int)-1=(c:Int) by omega];exact H (a,b,d) j hn hj
theorem QaI {i c k j m:Nat} {S:LL} {k0:Int->Bool->LL->LL->Int->oP R}
  (hi:i<10) (hc:c=1\/c=2) (hk:S.length=k) (a:k<=400) (hj:j<=l.length)
  (H:∀ (x:List RC) (j:Nat),KM x->x.length=c->j<=l.length->k0 0 false (ZQ (ups k c)) (S++Yy (secL i) c x) (j:Int)∈P) :
  JL n (i:Int) (encI l) k0 (m+3) (c:Int) [] S (j:Int)∈P:=by
 rcases hc with rfl | rfl
 ·refine Qcz hl (c:=0) hi (by omega) hk (by omega) (by simp) hj fun x j hx hj=>?_
  exact H [x] j ⟨hx,trivial⟩ rfl hj
 ·refine Qcz hl (c:=1) hi (by omega) hk (by omega) (by simp) hj fun x j hx hj=>?_
  refine Qcz hl (c:=0) (k:=k+1) hi (by omega) (by simp [hk]) (by omega) (by simp) hj fun y j hy hj=>?_
  have:=H [x,y] j ⟨hx,hy,trivial⟩ rfl hj;simp only [Yy,ups,ZQ,List.map_cons,List.map_nil] at this;show k0 0 false _ (S++[secL i 2 x]++[secL i 1 y]) (j:Int)∈P;rw [List.append_assoc S];exact this
end
section
variable {R:Type} {n:Nat}
theorem inA {s u m:Nat} {a:LL} (hu:u=1\/u=2) (hq:a.length<=900) {k0:Int->Bool->LL->oP R} :
  Sc n (ZQ (ups s u)) k0 (m+3) 0 a=k0 ((u-1:Nat):Int) false (a++inL s u):=by
 rcases hu with rfl | rfl
 ·rw [show inL s 1=[] from rfl,List.append_nil];rfl
 ·show gb true (Y8 n a (s:Int) ((s+1:Nat):Int) (-1) 0 _) _ _=_;rw [QcW (by omega),Q0];rfl
end
theorem QfS {R:Type} {m:Nat} {l:List Int} (hl:l.length<=9223372036854775807) {P:R->Prop} {a:Int} {g s p k c k' c' j:Nat} {Pt Se Li Tr Bt:LL} {k0:Int->Bool->LL->LL->LL->LL->Int->oP R} {n:Nat}
  (hg:g<8) (hw:(g:Int)+1<a) (hs:Se.length=s) (i:s<=300) (hp:Pt.length=p) (o:p<8) (hL:Li.length<=300) (hB:Bt.length<=300)
  (hT:Tr[g]? = some [D.sl 1 (ZQ (ups k c))]) (aj:Tr[g+1]? = some [D.sl 1 (ZQ (ups k' c'))]) (hc:c=1\/c=2) (ao:c'=1\/c'=2) (hj:j<=l.length)
  (H:∀ (u:Nat) (x:List RC) (j:Nat),(u=1\/u=2)->KM x->x.length=u->j<=l.length ->
   Ul (m+3) a Tr (encI l) k0 n ((g+1:Nat):Int) ((Pt++Q1Q p c)++Q1Q (p+pc c) c') (Se++Yy (secL g) u x) (((Li++inL s u)++Q2A s false p k c)++Q2A (s+u-1) true (p+pc c) k' c') (Bt++[[D.sl 1 (ZQ (ups s u))]]) (j:Int)∈P) :
  Ul (m+3) a Tr (encI l) k0 (n+1) (g:Int) Pt Se Li Bt (j:Int)∈P:=by
 unfold Ul;have aq:wJ ((g:Int)+1)=((g+1:Nat):Int):=by rw [Q7 (by omega) (by omega)];omega
 rw [aq,QY (by simp;omega)];refine Vq hl hj (by decide) (by decide) fun v j b d hj=>?_
 obtain ⟨u,hu,hv⟩:∃ u:Nat,(u=1\/u=2)/\wJ (1+v)=(u:Int):=by
  rcases two b d with rfl | rfl
  ·exact ⟨1,.inl rfl,rfl⟩
  ·exact ⟨2,.inr rfl,rfl⟩
 dsimp only;rw [hv];refine QaI hl (by omega) hu hs (by omega) hj fun x j hx ak hj=>?_
 rw [inA hu (by omega)];have e:(0:Int).toNat=0:=rfl;have an:(ZQ (ups s u)).length=u:=by rcases hu with rfl | rfl <;> rfl
 have f:(ZQ (ups s u))[0]? = some [Q4 s]:=by rcases hu with rfl | rfl <;> rfl
 have e1:(ZQ (ups s u))[u-1]? = some [Q4 ((s+u-1:Nat):Int)]:=by rcases hu with rfl | rfl <;> rfl
 have ay:g<Tr.length:=(QiU.1 hT).1;have au:g+1<Tr.length:=(QiU.1 aj).1;have h:wJ ((u:Int)-1)=((u-1:Nat):Int):=by rcases hu with rfl | rfl <;> rfl
 rw [an,Y0 (by omega) (by omega),Q0,e,f,Q0];show gb true (some (Q4 s)) _ _∈P;rw [Q0,Q2,Q0,Y0 (by omega) (by omega),Q0,Int.toNat_natCast,hT,Q0];show gb true (some (D.sl 1 (ZQ (ups k c)))) _ _∈P;rw [Q0,QH,Q0,QgX hc hp (by omega) (by have:=@Q4f s u;simp;omega),Q0];dsimp only;rw [h,Y0 (by omega) (by omega),Q0,Int.toNat_natCast,e1,Q0];show gb true (some (Q4 ((s+u-1:Nat):Int))) _ _∈P;rw [Q0,Q2,Q0,Y0 (by omega) (by omega),Q0,Int.toNat_natCast,aj,Q0];show gb true (some (D.sl 1 (ZQ (ups k' c')))) _ _∈P;rw [Q0,QH,Q0,QgX (p:=p+pc c) ao (by simp [hp,Q5s]) (by have:=@QbW c;omega) (by have:=@Q4f s u;have:=@Q1I s p k c false;simp;omega),Q0];dsimp only;rw [XF (by simp;omega),Q0];exact H u x j hu hx ak hj
def nmS (k:Nat):List D:=[D.str (bs [83]++[UInt8.ofNat (48+k)])]
theorem Xe {f:Nat->RC->List D}:∀ {c:Nat} {x:List RC},x.length=c->(Yy f c x).length=c
 |0,[],_=>rfl
 |c+1,a::x,h=>by simp [Yy];exact Xe (by simpa using h)
section
variable {R:Type} {m:Nat} {l:List Int} (hl:l.length<=9223372036854775807) {P:R->Prop}
include hl
theorem Lx {a:Int} {i k j:Nat} {b d e:LL} {k0:Int->Bool->LL->LL->LL->Int->oP R} {n:Nat}
  (hi:i<10) (hw:(i:Int)<a) (hk:d.length=k) (g:k<=400) (f:b.length<=400) (h2:e.length<=400) (hj:j<=l.length)
  (H:∀ (c:Nat) (x:List RC) (j:Nat),(c=1\/c=2)->KM x->x.length=c->j<=l.length ->
   UA (m+3) a (encI l) k0 n ((i+1:Nat):Int) (b++[nmS i]) (d++Yy (secT i) c x) (e++[[D.sl 1 (ZQ (ups k c))]]) (j:Int)∈P) :
  UA (m+3) a (encI l) k0 (n+1) (i:Int) b d e (j:Int)∈P:=by
 unfold UA;rw [QY (by simp;omega),Cy _ _ i hi (by decide),Q0,XF (by simp;omega),Q0];refine Vq hl hj (by decide) (by decide) fun v j h f hj=>?_
 obtain ⟨c,hc,hv⟩:∃ c:Nat,(c=1\/c=2)/\wJ (1+v)=(c:Int):=by
  rcases two h f with rfl | rfl
  ·exact ⟨1,.inl rfl,rfl⟩
  ·exact ⟨2,.inr rfl,rfl⟩
 dsimp only;rw [hv];refine QcH hl hi hc hk g hj fun x j hx ac hj=>?_
 rw [XF (by simp;omega),Q0,Q7 (x:=(i:Int)+1) (by omega) (by omega)];exact H c x j hc hx ac hj
omit hl in
theorem r7e {n m:Nat} {b a:Int} {g c d e:LL} {f:Int} {k0:Int->Bool->LL->LL->LL->Int->oP R} (h:¬ a<b) :
  UA n b g k0 (m+1) a c d e f=k0 a false c d e f:=by
 rw [UA,Q9 (by simp;omega)];simp [h]
omit hl in
theorem Qh5 {n m:Nat} {b a:Int} {i j c d e f:LL} {g:Int} {k0:Int->Bool->LL->LL->LL->LL->Int->oP R} (h:¬ wJ (a+1)<b) :
  Ul n b i j k0 (m+1) a c d e f g=k0 a false c d e f g:=by
 rw [Ul,Q9 (by simp;omega)];simp [h]
theorem QfX {i:Nat} (hi:i<=l.length) {k0:LL->LL->LL->LL->LL->LL->Int->oP R}
  (H:∀ (c0 c1 a:Nat) (b d e:List RC) (j:Nat),(c0=1\/c0=2)->(c1=1\/c1=2)->(a=1\/a=2)->KM b->KM d->KM e->b.length=c0->d.length=c1->e.length=a->j<=l.length ->
   k0 [nmS 0,nmS 1] (Q1Q 0 c0++Q1Q (pc c0) c1) ((Yy (secT 0) c0 b++Yy (secT 1) c1 d)++Yy (secL 0) a e)
    ((inL (c0+c1) a++Q2A (c0+c1) false 0 0 c0)++Q2A (c0+c1+a-1) true (pc c0) c0 c1)
    [[D.sl 1 (ZQ (ups 0 c0))],[D.sl 1 (ZQ (ups c0 c1))]] [[D.sl 1 (ZQ (ups (c0+c1) a))]] (j:Int)∈P) :
  UA (m+3) 2 (encI l) (fun _ _ r t h u=>
   Ul (m+3) 2 h (encI l) (fun _ _ v x y z aa=>k0 r v x y h z aa) (m+3) (0:Int) [] t [] [] u)
   (m+3) (0:Int) [] [] [] (i:Int)∈P:=by
 refine Lx hl (i:=0) (by decide) (by decide) rfl (by decide) (by decide) (by decide) hi fun c0 b j n ab f hj=>?_
 refine Lx hl (i:=1) (k:=c0) (by decide) (by decide) (by simp [Xe f]) (by omega) (by simp) (by simp) hj fun c1 d j o ac q hj=>?_
 rw [r7e (by decide)];refine QfS hl (g:=0) (s:=c0+c1) (p:=0) (k:=0) (c:=c0) (k':=c0) (c':=c1) (by decide) (by decide) (by simp [Xe f,Xe q]) (by omega) rfl (by decide) (by decide) (by decide) rfl rfl n o hj fun a e j ad ae aj hj=>?_
 rw [Qh5 (by decide)];have:=H c0 c1 a b d e j n o ad ab ac ae f q aj hj;simpa [Nat.add_assoc] using this
theorem Qg0 {i:Nat} (hi:i<=l.length) {k0:LL->LL->LL->LL->LL->LL->Int->oP R}
  (H:∀ (c0 c1 a b d:Nat) (e f h n o:List RC) (j:Nat),(c0=1\/c0=2)->(c1=1\/c1=2)->(a=1\/a=2)->(b=1\/b=2)->(d=1\/d=2)->KM e->KM f->KM h->KM n->KM o->e.length=c0->f.length=c1->h.length=a->n.length=b->o.length=d->j<=l.length ->
   k0 [nmS 0,nmS 1,nmS 2] ((Q1Q 0 c0++Q1Q (pc c0) c1)++Q1Q (pc c0+pc c1) c1++Q1Q (pc c0+pc c1+pc c1) a)
    ((((Yy (secT 0) c0 e++Yy (secT 1) c1 f)++Yy (secT 2) a h)++Yy (secL 0) b n)++Yy (secL 1) d o)
    (((inL (c0+c1+a) b++Q2A (c0+c1+a) false 0 0 c0)++Q2A (c0+c1+a+b-1) true (pc c0) c0 c1)++inL (c0+c1+a+b) d++Q2A (c0+c1+a+b) false (pc c0+pc c1) c0 c1++Q2A (c0+c1+a+b+d-1) true (pc c0+pc c1+pc c1) (c0+c1) a)
    [[D.sl 1 (ZQ (ups 0 c0))],[D.sl 1 (ZQ (ups c0 c1))],[D.sl 1 (ZQ (ups (c0+c1) a))]] [[D.sl 1 (ZQ (ups (c0+c1+a) b))],[D.sl 1 (ZQ (ups (c0+c1+a+b) d))]] (j:Int)∈P) :
  UA (m+4) 3 (encI l) (fun _ _ aa ab v ac=>
   Ul (m+4) 3 v (encI l) (fun _ _ ad ae ag ah ai=>k0 aa ad ae ag v ah ai) (m+4) (0:Int) [] ab [] [] ac)
   (m+4) (0:Int) [] [] [] (i:Int)∈P:=by
 refine Lx hl (m:=m+1) (i:=0) (by decide) (by decide) rfl (by decide) (by decide) (by decide) hi fun c0 e j x aj q hj=>?_
 refine Lx hl (m:=m+1) (i:=1) (k:=c0) (by decide) (by decide) (by simp [Xe q]) (by omega) (by simp) (by simp) hj fun c1 f j t ak r hj=>?_
 refine Lx hl (m:=m+1) (i:=2) (k:=c0+c1) (by decide) (by decide) (by simp [Xe q,Xe r]) (by omega) (by simp) (by simp) hj fun a h j y al u hj=>?_
 rw [r7e (by decide)];refine QfS hl (m:=m+1) (g:=0) (s:=c0+c1+a) (p:=0) (k:=0) (c:=c0) (k':=c0) (c':=c1) (by decide) (by decide) (by simp [Xe q,Xe r,Xe u,Nat.add_assoc]) (by omega) rfl (by decide) (by decide) (by decide) rfl rfl x t hj fun b n j am an z hj=>?_
 have b0:=@QbW c0;have b1:=@QbW c1;have f0:=@Q4f (c0+c1+a) b;have f1:=@Q1I (c0+c1+a) 0 0 c0 false;have f2:=@Q1I (c0+c1+a+b-1) (pc c0) c0 c1 true;refine QfS hl (m:=m+1) (g:=1) (s:=c0+c1+a+b) (p:=pc c0+pc c1) (k:=c0) (c:=c1) (k':=c0+c1) (c':=a) (by decide) (by decide) (by simp [Xe q,Xe r,Xe u,Xe z,Nat.add_assoc]) (by omega) (by simp [Q5s]) (by omega) (by simp;omega) (by simp) rfl rfl t y hj fun d o j ao ap aq hj=>?_
 rw [Qh5 (by decide)];have:=H c0 c1 a b d e f h n o j x t y am ao aj ak al an ap q r u z aq hj;simpa [Nat.add_assoc] using this
end
def Qbd:Option Bool->Bool
 |some true=>true
 |_=>false
def Qh6:Option Bool->Bool
 |some false=>true
 |_=>false
def Q7e:Option Int->Bool
 |some n=>n == 0
 |none=>false
theorem Ni {o:Option Bool} (h:Qbd o=true):o=some true:=by
 match o,h with
 |some true,_=>rfl
theorem Q8w {o:Option Bool} (h:Qh6 o=true):o=some false:=by
 match o,h with
 |some false,_=>rfl
theorem VO {o:Option Int} (h:Q7e o=true):o=some 0:=by
 match o,h with
 |some n,h=>simp only [Q7e,beq_iff_eq] at h;rw [h]
end Go.Vx
namespace Go.Vx
variable {R:Type} (n:Nat)
def Qb2 (ac:List (List UInt8)) (s:List UInt8):Bool:=Nat.ble s.length 12&&Qbd (Kp n s some)&&!(ac.contains s)
def TU :List (List UInt8)->LL->Bool
 | _,[]=>true
 | ac,row::r=>match row with
 | [D.str s]=>Qb2 n ac s&&TU (s::ac) r
 | _=>false
def Pf (l0 l1 l2 e:LL):List (List UInt8)->LL->Bool
 | _,[]=>true
 | ac,row::r=>match row with
 | [D.str s,D.int .i64 a,D.int .i64 b,D.int .i64 c,D.int .i64 d]=>Qb2 n ac s&&Qbd (Xi n l0 l1 l2 e s a b c d some)&&Pf l0 l1 l2 e (s::ac) r
 | _=>false
def KK (l0 l1 l2 c:LL):List LL->LL->Bool
 | _,[]=>true
 | st,row::r=>match row with
 | [D.int .i64 a,D.int .i64 ae,D.int .i64 b,D.int .i64 be,D.int .i64 p,D.int .i64 q]=>(decide (0<=a)&&decide (a<l2.length)&&decide (0<=ae)&&decide (ae<=1)&&decide (0<=b)&&decide (b<l2.length)&&decide (0<=be)&&decide (be<=1))&&Qbd (Yc n l0 l1 l2 c a ae b be p q some) && !(Nat.beq (2*a+ae).toNat (2*b+be).toNat) && (match st[(2*a+ae).toNat]?,st[(2*b+be).toNat]? with
 | some x,some y=>Qh6 (Gs n x a ae b be some)&&Qbd (JO n a ae b be p q x some)&&Qbd (JO n a ae b be p q y some)&&Nat.ble x.length 1&&Nat.ble y.length 1 && KK l0 l1 l2 c ((st.set (2*a+ae).toNat (x++[row])).set (2*b+be).toNat (y++[row])) r
 | _,_=>false)
 | _=>false
def Pg (l0 l1 l2 a:LL):Bool:= Nat.ble l0.length 24&&Nat.ble l1.length 48&&Nat.ble l2.length 96&&Nat.ble a.length 192&&!(Nat.beq l2.length 0)&&TU n [] l0&&TU n [] l1&&Pf n l0 l1 l2 a [] l2&&KK n l0 l1 l2 a (List.replicate (2*l2.length) []) a
def Zo (l0 l1 l2 a:LL) (K:Int->oP R):oP R:=bif Pg n l0 l1 l2 a then K 0 else none
end Go.Vx
namespace Go.Vx
def hat (c:Nat):List RC:=List.replicate c (2,5000,0)
def pt2 (c0 c1:Nat):LL:=Q1Q 0 c0++Q1Q (pc c0) c1
def se2 (c0 c1 a:Nat) (b c d:List RC):LL:=(Yy (secT 0) c0 b++Yy (secT 1) c1 c)++Yy (secL 0) a d
def li2 (c0 c1 a:Nat):LL:=(inL (c0+c1) a++Q2A (c0+c1) false 0 0 c0)++Q2A (c0+c1+a-1) true (pc c0) c0 c1
def pt3 (c0 c1 a:Nat):LL:=(Q1Q 0 c0++Q1Q (pc c0) c1)++Q1Q (pc c0+pc c1) c1++Q1Q (pc c0+pc c1+pc c1) a
def se3 (c0 c1 a b c:Nat) (d e f g h:List RC):LL:=(((Yy (secT 0) c0 d++Yy (secT 1) c1 e)++Yy (secT 2) a f)++Yy (secL 0) b g)++Yy (secL 1) c h
def li3 (c0 c1 a b c:Nat):LL:=((inL (c0+c1+a) b++Q2A (c0+c1+a) false 0 0 c0)++Q2A (c0+c1+a+b-1) true (pc c0) c0 c1)++inL (c0+c1+a+b) c++Q2A (c0+c1+a+b) false (pc c0+pc c1) c0 c1++Q2A (c0+c1+a+b+c-1) true (pc c0+pc c1+pc c1) (c0+c1) a
theorem ok2 {c0 c1 a:Nat} (b:c0=1\/c0=2) (c:c1=1\/c1=2) (h2:a=1\/a=2):Pg 400 [nmS 0,nmS 1] (pt2 c0 c1) (se2 c0 c1 a (hat c0) (hat c1) (hat a)) (li2 c0 c1 a)=true:=by
 rcases b with rfl | rfl <;> rcases c with rfl | rfl <;> rcases h2 with rfl | rfl <;> kernel_rfl
theorem ok3 {c0 c1 a b c:Nat} (d:c0=1\/c0=2) (e:c1=1\/c1=2) (h2:a=1\/a=2) (f:b=1\/b=2) (g:c=1\/c=2):Pg 400 [nmS 0,nmS 1,nmS 2] (pt3 c0 c1 a) (se3 c0 c1 a b c (hat c0) (hat c1) (hat a) (hat b) (hat c)) (li3 c0 c1 a b c)=true:=by
 rcases d with rfl | rfl <;> rcases e with rfl | rfl <;> rcases h2 with rfl | rfl <;> rcases f with rfl | rfl <;> rcases g with rfl | rfl <;> kernel_rfl
structure NumOk (a b c d:Int) (k:Nat):Prop where
 a0:1<=a
 a1:a<=400
 b0:1000<=b
 b1:b<=100000
 c0 : -40<=c
 c1:c<=40
 d0 : -1<=d
 d1:d<k
theorem Q68 {n:Nat} {l0 l1 l2 e:LL} {s:List UInt8} {a b c d:Int} (h:NumOk a b c d l0.length):Xi n l0 l1 l2 e s a b c d some=some true:=by
 obtain ⟨f,g,h2,i,j,k,l,m⟩:=h;unfold Xi;simp [f,g,h2,i,j,k,l,m]
def EX (k:Nat):LL->LL->Prop
 |[],[]=>True
 |r::s,r'::s'=>(∃ nm a b c a' b' c' d,r=[D.str nm,Q4 a,Q4 b,Q4 c,Q4 d]/\r'=[D.str nm,Q4 a',Q4 b',Q4 c',Q4 d]/\NumOk a b c d k/\NumOk a' b' c' d k)/\EX k s s'
 |_,_=>False
theorem EX.len {k:Nat}:∀ {s s':LL},EX k s s'->s.length=s'.length
 |[],[],_=>rfl
 |r::s,r'::s',h=>by simp [EX.len h.2]
theorem EX.app {k:Nat}:∀ {s s' t t':LL},EX k s s'->EX k t t'->EX k (s++t) (s'++t')
 |[],[],t,t',_,h=>h
 |r::s,r'::s',t,t',h,h2=>⟨h.1,EX.app h.2 h2⟩
theorem EX.secT {k i:Nat} (hi:i<k):∀ {c:Nat} {x x':List RC},KM x->KM x'->x.length=c->x'.length=c->EX k (Yy (secT i) c x) (Yy (secT i) c x')
 |0,[],[],_,_,_,_=>trivial
 |c+1,a::x,a'::x',h,h',e,e'=>⟨⟨Qhb i (c+1),a.1+2,a.2.1,a.2.2,a'.1+2,a'.2.1,a'.2.2,i,rfl,rfl,
   ⟨by have:=h.1.a0;omega,by have:=h.1.a1;omega,by have:=h.1.b0;omega,by have:=h.1.b1;omega,by have:=h.1.c0;omega,by have:=h.1.c1;omega,by omega,by omega⟩,
   ⟨by have:=h'.1.a0;omega,by have:=h'.1.a1;omega,by have:=h'.1.b0;omega,by have:=h'.1.b1;omega,by have:=h'.1.c0;omega,by have:=h'.1.c1;omega,by omega,by omega⟩⟩,EX.secT hi h.2 h'.2 (by simpa using e) (by simpa using e')⟩
theorem EX.secL {k i:Nat}:∀ {c:Nat} {x x':List RC},KM x->KM x'->x.length=c->x'.length=c->EX k (Yy (secL i) c x) (Yy (secL i) c x')
 |0,[],[],_,_,_,_=>trivial
 |c+1,a::x,a'::x',h,h',e,e'=>⟨⟨nmL i (c+1),a.1,a.2.1,a.2.2,a'.1,a'.2.1,a'.2.2,-1,rfl,rfl,
   ⟨by have:=h.1.a0;omega,by have:=h.1.a1;omega,by have:=h.1.b0;omega,by have:=h.1.b1;omega,by have:=h.1.c0;omega,by have:=h.1.c1;omega,by omega,by omega⟩,
   ⟨by have:=h'.1.a0;omega,by have:=h'.1.a1;omega,by have:=h'.1.b0;omega,by have:=h'.1.b1;omega,by have:=h'.1.c0;omega,by have:=h'.1.c1;omega,by omega,by omega⟩⟩,EX.secL h.2 h'.2 (by simpa using e) (by simpa using e')⟩
theorem HH:∀ c,KM (hat c)
 |0=>trivial
 |c+1=>⟨⟨by decide,by decide,by decide,by decide,by decide,by decide⟩,HH c⟩
theorem Ny (c:Nat):(hat c).length=c:=by simp [hat]
theorem ET {n:Nat} {l0 l1 L L' e:LL}:∀ {s s':LL} {ac:List (List UInt8)},EX l0.length s s'->Pf n l0 l1 L e ac s=Pf n l0 l1 L' e ac s'
 |[],[],ac,_=>rfl
 |r::s,r'::s',ac,h=>by
  obtain ⟨⟨nm,a,b,c,a',b',c',d,rfl,rfl,f,h2⟩,g⟩:=h;show (Qb2 n ac nm&&Qbd (Xi n l0 l1 L e nm a b c d some)&&Pf n l0 l1 L e (nm::ac) s)=(Qb2 n ac nm&&Qbd (Xi n l0 l1 L' e nm a' b' c' d some)&&Pf n l0 l1 L' e (nm::ac) s');rw [Q68 f,Q68 h2,ET g]
theorem L7 {n:Nat} {l0 l1 L L' c:LL} (h:L.length=L'.length):∀ {t:LL} {st:List LL},KK n l0 l1 L c st t=KK n l0 l1 L' c st t
 |[],st=>rfl
 |r::t,st=>by
  unfold KK;split
  ·rename_i a ae b be p q;have e:Yc n l0 l1 L c a ae b be p q some=Yc n l0 l1 L' c a ae b be p q some:=by unfold Yc;rw [h]
   rw [e,h];split
   ·rw [L7 h]
   ·rfl
  ·rfl
theorem Q09 {n:Nat} {l0 l1 L L' a:LL} (h:EX l0.length L L'):Pg n l0 l1 L a=Pg n l0 l1 L' a:=by
 unfold Pg;rw [h.len,ET h,L7 h.len]
theorem sr2 {c0 c1 a:Nat} {b c d:List RC} (e:KM b) (f:KM c) (g:KM d) (h:b.length=c0) (e1:c.length=c1) (e2:d.length=a):EX 2 (se2 c0 c1 a b c d) (se2 c0 c1 a (hat c0) (hat c1) (hat a)):=
 .app (.app (.secT (by decide) e (HH _) h (Ny _)) (.secT (by decide) f (HH _) e1 (Ny _))) (.secL g (HH _) e2 (Ny _))
theorem sr3 {c0 c1 a b c:Nat} {d e f g h:List RC} (i:KM d) (j:KM e) (k:KM f) (n3:KM g) (l:KM h) (m:d.length=c0) (e1:e.length=c1) (e2:f.length=a) (n:g.length=b) (o:h.length=c):EX 3 (se3 c0 c1 a b c d e f g h) (se3 c0 c1 a b c (hat c0) (hat c1) (hat a) (hat b) (hat c)):=
 .app (.app (.app (.app (.secT (by decide) i (HH _) m (Ny _)) (.secT (by decide) j (HH _) e1 (Ny _))) (.secT (by decide) k (HH _) e2 (Ny _))) (.secL n3 (HH _) n (Ny _))) (.secL l (HH _) o (Ny _))
theorem Qhl {c0 c1 a:Nat} {b c d:List RC} (e:c0=1\/c0=2) (f:c1=1\/c1=2) (h2:a=1\/a=2) (g:KM b) (h:KM c) (i:KM d) (j:b.length=c0) (e1:c.length=c1) (e2:d.length=a) :
  Pg 400 [nmS 0,nmS 1] (pt2 c0 c1) (se2 c0 c1 a b c d) (li2 c0 c1 a)=true:=by
 rw [<- ok2 e f h2];exact Q09 (sr2 g h i j e1 e2)
theorem QhL {c0 c1 a b c:Nat} {d e f g h:List RC} (i:c0=1\/c0=2) (j:c1=1\/c1=2) (h2:a=1\/a=2) (k:b=1\/b=2) (l:c=1\/c=2) (m:KM d) (n:KM e) (o:KM f) (n3:KM g) (p:KM h) (q:d.length=c0) (e1:e.length=c1) (e2:f.length=a) (r:g.length=b) (s:h.length=c) :
  Pg 400 [nmS 0,nmS 1,nmS 2] (pt3 c0 c1 a) (se3 c0 c1 a b c d e f g h) (li3 c0 c1 a b c)=true:=by
 rw [<- ok3 i j h2 k l];exact Q09 (sr3 m n o n3 p q e1 e2 r s)
end Go.Vx
namespace Go.Vx
variable {R:Type} (n:Nat)
def WI (c:LL) (b:Int) (d e f g:LL) (k0:oP R) (k1:Int->Bool->oP R):Nat->Int->oP R
 | 0,_=>none
 | m+1,a=>bif decide (a<b) then gb true (Q1 c a) [] fun h=>gb true (h[0]?) oF fun i=>gb true (h[1]?) oF fun j=>gb true (pIw i) 0 fun k=>gb true (pIw j) 0 fun l=>gb true (RH n d e f g k l some) false fun o=>bif !o then k0 else WI c b d e f g k0 k1 m (wJ (a+1)) else k1 a (decide (a<b))
def Gb (n:Nat) (e:LL) (c:Int) (k0:oP R) (k1:Int->Bool->LL->oP R):Nat->Int->LL->oP R
 | 0,_,_=>none
 | m+1,b,a=>bif decide (b<c) then gb true (Q1 e b) [] fun f=>gb true (f[0]?) oF fun g=>gb true (f[1]?) oF fun o=>gb true (pIw g) 0 fun h=>gb true (inB (a.length) h) () fun p=>gb true (a[h.toNat]?) [] fun i=>gb true (i[0]?) oF fun j=>gb true (Kl j) false fun k=>bif k then k0 else gb true (pIw g) 0 fun d=>gb true (inB (a.length) d) () fun q=>gb true (a[d.toNat]?) [] fun l=>Gb n e c k0 k1 m (wJ (b+1)) (List.set a d.toNat (List.set l 0 (D.bool true))) else k1 b (decide (b<c)) a
def Wx (e:LL) (b:Int) (f g h i j:LL) (k0:oP R) (k1:Int->Bool->LL->oP R):Nat->Int->LL->oP R
 | 0,_,_=>none
 | m+1,a,c=>bif decide (a<b) then gb true (Q1 e a) [] fun k=>gb true (k[0]?) oF fun o=>gb true (k[1]?) oF fun p=>gb true (Q1 j a) [] fun l=>gb true (l[0]?) oF fun q=>gb true (l[1]?) oF fun r=>gb true (pIw q) 0 fun s=>gb true (pIw r) 0 fun t=>gb true (pIw o) 0 fun u=>gb true (pIw p) 0 fun v=>gb true (JD n f g h i s t u v Tu2) (0,false) fun d=>bif (!d.2) then k0 else gb true (Yf ((c.length+[[Q4 d.1]].length)*8)) () fun z=>Wx e b f g h i j k0 k1 m (wJ (a+1)) (c++[[Q4 d.1]]) else k1 a (decide (a<b)) c
def KZ (d e b f a:LL) (c:Int) (K:LL->Int->oP R):oP R:= gb true (Zo n d e b f some) 0 fun j=>bif (j != 0) then K [] 1 else jn (fun (k:Bool)=>bif k then K [] 7 else jn (fun (l:Bool)=>bif l then K [] 4 else WI n a (a.length:Int) d e b f (K [] 4) (fun o p=>gb true (bif decide (0<=(b.length:Int))&&decide ((b.length:Int)<=(b.length:Int)) then some () else none) () fun q=>gb true (Yf (Int.toNat (b.length:Int)*1)) () fun r=>Gb n a (a.length:Int) (K [] 5) (fun s t u=>gb true (slB (a.length) (some 1) none) (0,0) fun g=>Wx n (cut a g) ((List.length (cut a g):Nat):Int) d e b f a (K [] 11) (fun v x m=>K m 0) n 0 []) n 0 (List.replicate (Int.toNat (b.length:Int)) [D.bool false])) n 0) fun h=>bif decide (c<0) then h (decide (c<0)) else h (decide ((wJ ((a.length:Int)-c))<2))) fun i=>bif (decide ((a.length:Int)>24)) then i (decide ((a.length:Int)>24)) else i (decide (c>2))
def Tv (b c d e f:LL) (g:Int) (K:Int->oP R):oP R:= gb true (KZ n b c d e f g Tu2) ([],0) fun a=>K a.2
end Go.Vx
namespace Go.Vx
def Kt (s u x y:Nat) (up:Bool):LL:=
 bif up then [Q4 x,Q4 0]::((ups s u).map fun k=>[Q4 (k:Nat),Q4 0])++[[Q4 y,Q4 0]] else [Q4 y,Q4 1]::((ups s u).reverse.map fun k=>[Q4 (k:Nat),Q4 1])++[[Q4 x,Q4 1]]
theorem Qv {α:Type} {r:Nat->Int->α} {N:Nat} {e:α} (hs:∀ m h,h<N->r (m+1) (h:Int)=r m ((h+1:Nat):Int)) (he:∀ m,r (m+1) (N:Int)=e):∀ (k m h:Nat),h+k=N->k<m->r m (h:Int)=e
 |0,m+1,h,hh,_=>by rw [show h=N by omega];exact he m
 |k+1,m+1,h,hh,hm=>by rw [hs m h (by omega)];exact Qv hs he k m (h+1) (by omega) (by omega)
section
variable {R:Type} {n:Nat} {a b a' b' L L' d:LL} (h:L.length=L'.length)
include h
theorem Qdm {s:LL} {w:Int} {k0:oP R} {k1:Int->Bool->oP R}:∀ (m:Nat) (i:Int),WI n s w a b L d k0 k1 m i=WI n s w a' b' L' d k0 k1 m i
 |0,_=>rfl
 |m+1,i=>by
  unfold WI;simp only [RH,h,Qdm m]
omit h in
theorem Qg3 {x y z t:Int} {K:Int->Bool->oP R}:JD n a b L d x y z t K=JD n a' b' L' d x y z t K:=rfl
omit h in
theorem Qf5 {q s:LL} {w:Int} {k0:oP R} {k1:Int->Bool->LL->oP R}:∀ (m:Nat) (i:Int) (p:LL),Wx n q w a b L d s k0 k1 m i p=Wx n q w a' b' L' d s k0 k1 m i p
 |0,_,_=>rfl
 |m+1,i,p=>by
  unfold Wx;simp only [Qg3 (a:=a) (b:=b) (L:=L) (a':=a') (b':=b') (L':=L'),Qf5 m]
end
def Q8n (St Pt L d s:LL):Option (LL × Int):=
 WI 400 s ((List.length s:Nat):Int) St Pt L d (some ([],4))
  (fun _ _=>
  gb true (bif decide (0<=((List.length L:Nat):Int))&&decide (((List.length L:Nat):Int)<=((List.length L:Nat):Int)) then some () else none) () fun c=>
  gb true (Yf (Int.toNat ((List.length L:Nat):Int)*1)) () fun e=>
  Gb 400 s ((List.length s:Nat):Int) (some ([],5))
   (fun _ _ _=>
   gb true (slB (List.length s) (some (1:Int)) none) (0,0) fun a=>
   Wx 400 (cut s a) ((List.length (cut s a):Nat):Int) St Pt L d s (some ([],11)) (fun _ _ b=>some (b,0)) 400 (0:Int) [])
   400 (0:Int) (List.replicate (Int.toNat ((List.length L:Nat):Int)) [D.bool false]))
  400 (0:Int)
def rtB (N:Nat) (Li s:LL):Bool:=match Q8n [] [] (List.replicate N []) Li s with
 |some (_,e)=>e == 0
 |none=>false
theorem Q8A {St Pt Se Li s:LL} {N:Nat} (ac:Pg 400 St Pt Se Li=true) (hN:Se.length=N) (h2:2<=s.length) (g:s.length<=24) (hr:rtB N Li s=true) :
  ∃ aj,KZ 400 St Pt Se Li s 0 Tu2=some (aj,0):=by
 have hc:Zo 400 St Pt Se Li (some:Int->Option Int)=some 0:=by unfold Zo;rw [ac];rfl
 have hL:Se.length=(List.replicate N ([]:List D)).length:=by simp [hN]
 have e:KZ 400 St Pt Se Li s 0 Tu2=Q8n [] [] (List.replicate N []) Li s:=by
  unfold KZ;rw [hc,Q0,Q9 (by decide)];dsimp only [jn];rw [Q9 (c:=decide (((List.length s:Nat):Int)>24)) (by simp;omega),Q9 (c:=decide ((0:Int)>2)) (by decide),Q9 (c:=decide ((0:Int)<0)) (by decide),Q9 (c:=decide (wJ (((List.length s:Nat):Int)-0)<2)) (by rw [Q7 (by omega) (by omega)];simp;omega)];unfold Q8n;simp only [Qf5 (a:=St) (b:=Pt) (L:=Se) (a':=[]) (b':=[]) (L':=List.replicate N []),Qdm (a:=St) (b:=Pt) (L:=Se) (a':=[]) (b':=[]) (L':=List.replicate N []) hL,hL]
 rw [e];unfold rtB at hr;split at hr
 ·rename_i p e' hh;simp only [beq_iff_eq] at hr;subst hr;exact ⟨p,hh⟩
 ·cases hr
theorem Q5a {R:Type} {St Pt Se Li s:LL} {N:Nat} (ac:Pg 400 St Pt Se Li=true) (hN:Se.length=N) (h2:2<=s.length) (a:s.length<=24) (hr:rtB N Li s=true) (K:Int->oP R):Tv 400 St Pt Se Li s 0 K=K 0:=by
 obtain ⟨p,e⟩:=Q8A ac hN h2 a hr;unfold Tv;rw [e,Q0]
def Qb4 (N:Nat) (Li:LL) (s u k c k' c':Nat):Bool:=
 (ups k c).all fun x=>(ups k' c').all fun y=>rtB N Li (Kt s u x y true)&&rtB N Li (Kt s u x y false)
theorem Qhv {c0 c1 a:Nat} (b:c0=1\/c0=2) (c:c1=1\/c1=2) (h2:a=1\/a=2):Qb4 (c0+c1+a) (li2 c0 c1 a) (c0+c1) a 0 c0 c0 c1=true:=by
 rcases b with rfl | rfl <;> rcases c with rfl | rfl <;> rcases h2 with rfl | rfl <;> kernel_rfl
theorem QhD {c0 c1 a b c:Nat} (d:c0=1\/c0=2) (e:c1=1\/c1=2) (h2:a=1\/a=2) (f:b=1\/b=2) (g:c=1\/c=2) :
  (Qb4 (c0+c1+a+b+c) (li3 c0 c1 a b c) (c0+c1+a) b 0 c0 c0 c1&&Qb4 (c0+c1+a+b+c) (li3 c0 c1 a b c) (c0+c1+a+b) c c0 c1 (c0+c1) a)=true:=by
 rcases d with rfl | rfl <;> rcases e with rfl | rfl <;> rcases h2 with rfl | rfl <;> rcases f with rfl | rfl <;> rcases g with rfl | rfl <;> kernel_rfl
end Go.Vx
namespace Go.Vx
variable {R:Type} (n:Nat)
def ZZ (e:LL) (d:Int) (f:LL) (k0:Int->Bool->LL->oP R):Nat->Int->LL->oP R
 | 0,_,_=>none
 | m+1,a,b=>bif decide (a<d) then gb true (Q1 e a) [] fun g=>gb true (g[0]?) oF fun o=>gb true (g[1]?) oF fun p=>gb true (pIw o) 0 fun q=>gb true (Q1 f q) [] fun c=>gb true (c[0]?) oF fun x=>gb true (c[1]?) oF fun h=>gb true (c[2]?) oF fun r=>gb true (c[3]?) oF fun s=>gb true (c[4]?) oF fun y=>gb true (pIw r) 0 fun i=>gb true (pIw s) 0 fun j=>gb true (pIw p) 0 fun t=>bif (t == 1) then gb true (pIw h) 0 fun u=>gb true (Qd n [[Q4 i,Q4 (wJ (0-j))]] u some) [] fun k=>gb true (Yf ((b.length+k.length)*16)) () fun z=>ZZ e d f k0 m (wJ (a+1)) (b++k) else gb true (pIw h) 0 fun v=>gb true (Qd n [[Q4 i,Q4 j]] v some) [] fun l=>gb true (Yf ((b.length+l.length)*16)) () fun aa=>ZZ e d f k0 m (wJ (a+1)) (b++l) else k0 a (decide (a<d)) b
def Sj (g h b i a:LL) (c:Int) (K:LL->Int->Int->oP R):oP R:= gb true (Tv n g h b i a c some) 0 fun d=>bif (d != 0) then K [] 0 d else gb true (slB (a.length) none (some (wJ ((a.length:Int)-c)))) (0,0) fun e=>ZZ n (cut a e) ((List.length (cut a e):Nat):Int) b (fun p q f=>bif (decide ((f.length:Int)>4000)) then K [] 0 7 else gb true (Q1 a 0) [] fun j=>gb true (j[0]?) oF fun k=>gb true (pIw k) 0 fun l=>gb true (Q1 b l) [] fun m=>gb true (m[1]?) oF fun o=>gb true (pIw o) 0 fun i64=>K f i64 0) n 0 []
def WA (n:Nat) (d:LL) (b:Int) (e:LL) (c:Int) (k0:oP R) (k1:Int->Bool->oP R):Nat->Int->oP R
 | 0,_=>none
 | m+1,a=>bif decide (a<b) then gb true (Q1 d a) [] fun f=>gb true (f[0]?) oF fun g=>gb true (f[1]?) oF fun l=>gb true (pIw g) 0 fun h=>gb true (Q1 e h) [] fun i=>gb true (i[1]?) oF fun j=>gb true (pIw j) 0 fun k=>bif (decide (k<(if 2<c then c else 2))) then k0 else WA n d b e c k0 k1 m (wJ (a+1)) else k1 a (decide (a<b))
def KY (h i c j d:LL) (e:Int) (k:List UInt8) (f l m o:Int) (K:LL->Int->Int->oP R):oP R:= gb true (Sj n h i c j d e Tu3) ([],0,0) fun a=>bif (a.2.2 != 0) then K [] 0 a.2.2 else gb true (Us n k f l m o some) false fun b=>bif !b then K [] 0 1 else gb true (Ue n d e some) [] fun g=>WA n g (g.length:Int) c f (K [] 0 12) (fun q r=>K a.1 a.2.1 0) n 0
def G7 (b c d e f:LL) (g:Int) (h:List UInt8) (i j k l:Int) (K:Int->oP R):oP R:= gb true (KY n b c d e f g h i j k l Tu3) ([],0,0) fun a=>K a.2.2
end Go.Vx
namespace Go.Vx
structure SecN (a b c:Int):Prop where
 a0:2<=a
 a1:a<=12
 b0:5000<=b
 b1:b<=35000
 c0 : -10<=c
 c1:c<=10
def Dz (Se:LL) (row:List D):Prop:=∃ (x d:Int) (nm:List UInt8) (a b c st:Int),row=[Q4 x,Q4 d]/\Q1 Se x=some [D.str nm,Q4 a,Q4 b,Q4 c,Q4 st]/\SecN a b c/\(d=0\/d=1)
def PO (Se:LL):List D->LL
 |[.int _ x,.int _ d]=>match Q1 Se x with
  |some [_,.int _ a,.int _ b,.int _ c,_]=>List.replicate a.toNat [Q4 b,Q4 (bif d == 1 then -c else c)]
  |_=>[]
 |_=>[]
def Yi (Se s:LL):LL:=s.flatMap (PO Se)
theorem H4 {Se:LL} {x d a b c st:Int} {nm:List UInt8} (h:Q1 Se x=some [D.str nm,Q4 a,Q4 b,Q4 c,Q4 st]):PO Se [Q4 x,Q4 d]=List.replicate a.toNat [Q4 b,Q4 (bif d == 1 then -c else c)]:=by
 grind [PO]
theorem YC {α:Type} {l:List α} {h:Nat} {a:α} (e:l[h]? = some a):l.take (h+1)=l.take h++[a]:=by grind [List.take_add_one]
theorem NN {Se s:LL} {h:Nat} {row:List D} (e:s[h]? = some row):Yi Se (s.take (h+1))=Yi Se (s.take h)++PO Se row:=by
 rw [YC e];simp [Yi]
theorem Pu {Se:LL}:∀ {s:LL},(∀ row∈s,Dz Se row)->(Yi Se s).length<=12*s.length/\2*s.length<=(Yi Se s).length
 |[],_=>by simp [Yi]
 |row::s,h=>by
  obtain ⟨x,d,nm,a,b,c,st,rfl,hs,hn,_⟩:=h _ (List.mem_cons_self ..);have e:=Pu fun r hr=>h r (List.mem_cons_of_mem _ hr)
  have h2:=hn.a0;have f:=hn.a1;simp only [Yi,List.flatMap_cons,H4 hs,List.length_append,List.length_replicate,Qj1] at e ⊢;omega
section
variable {R:Type} {n:Nat}
theorem Qhm {a:Int} {x y:D} (b:0<=a) (c:a<=100000) (K:LL->oP R):Qd n [[x,y]] a K=K (List.replicate a.toNat [x,y]):=by
 simp_all [Qd,QY]
theorem Qal {Se s:LL} {k0:Int->Bool->LL->oP R} (hs:∀ row∈s,Dz Se row) (hl:s.length<=30):∀ {m:Nat},s.length<m->ZZ n s ((s.length:Nat):Int) Se k0 m 0 []=k0 ((s.length:Nat):Int) false (Yi Se s):=by
 intro m hm;have hc:=fun h:Nat=>(Pu (s:=s.take h) fun r hr=>hs r (List.mem_of_mem_take hr)).1
 refine Qv (r:=fun m h=>ZZ n s ((s.length:Nat):Int) Se k0 m h (Yi Se (s.take h.toNat))) (N:=s.length) (fun m h hh=>?_) (fun m=>?_) s.length m 0 (by omega) hm
 ·have e:=QiQ hh;obtain ⟨x,d,nm,a,b,c,st,hx,aj,hn,hd⟩:=hs _ (QiW hh);rw [hx] at e;have a0:=hn.a0;have a1:=hn.a1;have an:=hc h;simp only [Int.toNat_natCast,NN e,H4 aj];simp only [List.length_take] at an;rw [ZZ,QY (by simpa using hh),show Q1 s (h:Int)=some [Q4 x,Q4 d] by simp [Q1,e],Q0];dsimp only [List.getElem?_cons_zero,List.getElem?_cons_succ];rw [Q0,Q0,Q2,Q0,aj,Q0];dsimp only [List.getElem?_cons_zero,List.getElem?_cons_succ];have ac:∀ r:List D,Yf (((Yi Se (s.take h)).length+(List.replicate a.toNat r).length)*16)=some ():=fun r=>XF (by simp only [List.length_replicate];omega)
  simp -implicitDefEqProofs only [Q0,Q2,Qhm (show (0:Int)<=a by omega) (show a<=100000 by omega),ac];rw [Q7 (x:=(h:Int)+1) (by omega) (by omega),show (h:Int)+1=((h+1:Nat):Int) by omega,Q7 (x:=0-c) (by have:=hn.c1;omega) (by have:=hn.c0;omega),Int.zero_sub];cases f:d == (1:Int) <;> rfl
 simp [Int.toNat_natCast,ZZ,Q9,Qj7]
theorem Q9j {s:LL} (h:s.length<=1000):slB s.length none (some (wJ (((s.length:Nat):Int)-(0:Int))))=some (0,s.length)/\cut s (0,s.length)=s:=by
 grind [Q7,slB,cut]
def HV (Se s:LL):Int:=match s with
 |[.int _ x,_]::_=>match Q1 Se x with
  |some [_,.int _ a,_,_,_]=>a
  |_=>0
 |_=>0
theorem Qeb {St Pt Se Li s:LL} {N:Nat} (ac:Pg 400 St Pt Se Li=true) (hN:Se.length=N) (h2:2<=s.length) (e:s.length<=24) (hr:rtB N Li s=true) (ho:∀ row∈s,Dz Se row) (K:LL->Int->Int->oP R) :
  Sj 400 St Pt Se Li s 0 K=K (Yi Se s) (HV Se s) 0:=by
 have hl:=(Pu ho).1;obtain ⟨row,rest,rfl⟩:∃ row rest,s=row::rest:=by
  cases s with
  |nil=>simp at h2
  |cons a b=>simp_all
 obtain ⟨x,d,nm,a,b,c,st,rfl,hs,_,_⟩:=ho row (by simp);have hf:HV Se ([Q4 x,Q4 d]::rest)=a:=by grind [HV]
 generalize hS:[Q4 x,Q4 d]::rest=s at *
 obtain ⟨e1,e2⟩:=Q9j (s:=s) (by omega);unfold Sj;rw [Q5a ac hN h2 e hr,Q0,Q9 (by decide),e1,Q0,e2,Qal ho (by omega) (by omega),Q9 (by simp;omega),show Q1 s (0:Int)=some [Q4 x,Q4 d] by rw [<- hS];rfl,Q0]
 grind [List.getElem?_cons_zero,List.getElem?_cons_succ,Q0,Q2]
theorem QeZ {Se s:LL} {tl:Int} {k0:oP R} {k1:Int->Bool->oP R} (ht:tl<=2) (hb:s.length<=30) (hs:∀ row∈s,Dz Se row) {m:Nat} (hm:s.length<m) :
  WA n s ((s.length:Nat):Int) Se tl k0 k1 m 0=k1 (s.length:Int) false:=by
 refine Qv (r:=fun m h=>WA n s ((s.length:Nat):Int) Se tl k0 k1 m h) (N:=s.length) (fun m h hh=>?_) (fun m=>?_) s.length m 0 (by omega) hm
 ·obtain ⟨x,d,ak,a,b,c,st,hx,ac,hn,_⟩:=hs _ (QiW hh);have a0:=hn.a0;rw [WA,QY (by simp_all),show Q1 s (h:Int)=some [Q4 x,Q4 d] by grind [Q1,List.getElem?_eq_getElem],Q0];dsimp only [List.getElem?_cons_zero,List.getElem?_cons_succ];rw [Q0,Q0,Q2,Q0,ac,Q0];dsimp only [List.getElem?_cons_zero,List.getElem?_cons_succ];rw [Q0,Q2,Q0,Q9 (by grind),Q7 (x:=(h:Int)+1) (by omega) (by omega),show (h:Int)+1=((h+1:Nat):Int) by omega]
 simp [WA,Q9]
structure StkN (tl sp ac br:Int):Prop where
 t1:1<=tl
 t2:tl<=2
 s1:10000<=sp
 s2:sp<=25000
 a1:400<=ac
 a2:ac<=800
 b1:400<=br
 b2:br<=800
theorem B5 {nm:List UInt8} {tl sp ac br:Int} (h:StkN tl sp ac br) (K:Bool->oP R):Us n nm tl sp ac br K=K true:=by
 obtain ⟨t1,t2,s1,s2,a1,a2,b1,b2⟩:=h
 grind [Us]
theorem AX {s:LL} (a:s.length<=24) (K:LL->oP R):Ue 400 s 0 K=K s:=by
 grind [Q9j,Ue,Q0]
theorem Qhd {St Pt Se Li s:LL} {N:Nat} {nm:List UInt8} {tl sp ac br:Int} (aj:Pg 400 St Pt Se Li=true) (hN:Se.length=N) (h2:2<=s.length) (a:s.length<=24) (hr:rtB N Li s=true) (ho:∀ row∈s,Dz Se row)
  (hk:StkN tl sp ac br) (K:LL->Int->Int->oP R):KY 400 St Pt Se Li s 0 nm tl sp ac br K=K (Yi Se s) (HV Se s) 0:=by
 unfold KY;rw [Qeb aj hN h2 a hr ho,Q0,Q9 (by rfl),B5 hk,Q0,Q9 (by decide),AX a,Q0,QeZ hk.t2 (by omega) ho (by omega)]
theorem QcI {St Pt Se Li s:LL} {N:Nat} {nm:List UInt8} {tl sp ac br:Int} (aj:Pg 400 St Pt Se Li=true) (hN:Se.length=N) (h2:2<=s.length) (a:s.length<=24) (hr:rtB N Li s=true) (ho:∀ row∈s,Dz Se row)
  (hk:StkN tl sp ac br) (K:Int->oP R):G7 400 St Pt Se Li s 0 nm tl sp ac br K=K 0:=by
 grind [G7,Qhd,Q0]
end
end Go.Vx
namespace Go.Vx
variable {R:Type} (n:Nat)
def NF (d e c f:LL) (a b:Int) (K:Bool->oP R):oP R:= gb (bif (bif decide (a>=0) then (decide (a<(c.length:Int))) else false) then (bif (b == 0) then true else (b == 1)) else false) (Zo n d e c f some) 0 fun g=>K (bif (bif (bif decide (a>=0) then (decide (a<(c.length:Int))) else false) then (bif (b == 0) then true else (b == 1)) else false) then (g == 0) else false)
def Wd (j:LL) (e f g:Int) (k0:Int->Bool->LL->oP R):Nat->Int->LL->oP R
 | 0,_,_=>none
 | m+1,b,c=>bif decide (b<e) then gb true (Q1 j b) [] fun d=>gb true (d[0]?) oF fun u=>gb true (d[1]?) oF fun v=>gb true (d[2]?) oF fun x=>gb true (d[3]?) oF fun y=>gb true (d[4]?) oF fun o=>gb true (d[5]?) oF fun p=>gb true (pIw u) 0 fun z=>gb true (pIw v) 0 fun aa=>gb true (pIw x) 0 fun ab=>gb true (pIw y) 0 fun ac=>gb true (pIw o) 0 fun ad=>gb true (pIw p) 0 fun ae=>gb true (L0 n z aa ab ac ad ae Tu4) (0,0,0,0) fun a=>bif ((f == a.1)&&(g == a.2.1)) then gb true (Nf n a.2.2.1 a.2.2.2 Tu2) (0,0) fun k=>gb true (pIw o) 0 fun q=>gb true (pIw p) 0 fun r=>gb true (Yf ((c.length+[[Q4 k.1,Q4 k.2,Q4 q,Q4 r]].length)*32)) () fun ai=>Wd j e f g k0 m (wJ (b+1)) (c++[[Q4 k.1,Q4 k.2,Q4 q,Q4 r]]) else bif ((f == a.2.2.1)&&(g == a.2.2.2)) then gb true (Nf n a.1 a.2.1 Tu2) (0,0) fun l=>gb true (pIw o) 0 fun s=>gb true (pIw p) 0 fun t=>gb true (Yf ((c.length+[[Q4 l.1,Q4 l.2,Q4 s,Q4 t]].length)*32)) () fun aj=>Wd j e f g k0 m (wJ (b+1)) (c++[[Q4 l.1,Q4 l.2,Q4 s,Q4 t]]) else Wd j e f g k0 m (wJ (b+1)) c else k0 b (decide (b<e)) c
def MM (d e f a:LL) (b c:Int) (K:LL->oP R):oP R:= gb true (NF n d e f a b c some) false fun g=>bif !g then K [] else bif (c == 1) then Wd n a (a.length:Int) b 0 (fun j k h=>K h) n 0 [] else Wd n a (a.length:Int) b 1 (fun l m i=>K i) n 0 []
def Zt (n:Nat) (h2:LL) (c d e:Int) (k0:Int->oP R) (k1:Int->Bool->oP R):Nat->Int->oP R
 | 0,_=>none
 | m+1,a=>bif decide (a<c) then gb true (Q1 h2 a) [] fun b=>gb true (b[0]?) oF fun f=>gb true (b[1]?) oF fun g=>gb true (b[2]?) oF fun h=>gb true (b[3]?) oF fun l=>gb true (pIw f) 0 fun i=>gb true (pIw g) 0 fun j=>bif ((i == d)&&(j == e)) then gb true (pIw h) 0 fun k=>k0 k else Zt n h2 c d e k0 k1 m (wJ (a+1)) else k1 a (decide (a<c))
def Zk (b c d e:LL) (f g h i:Int) (K:Int->oP R):oP R:= gb true (MM n b c d e f g some) [] fun a=>Zt n a (a.length:Int) h i (fun j=>K j) (fun k l=>K (-1:Int)) n 0
end Go.Vx
namespace Go.Vx
theorem EX.at {k:Nat}:∀ {s s':LL},EX k s s'->∀ i:Nat,(s[i]? = none/\s'[i]? = none)\/∃ nm a b c a' b' c' d,s[i]? = some [D.str nm,Q4 a,Q4 b,Q4 c,Q4 d]/\s'[i]? = some [D.str nm,Q4 a',Q4 b',Q4 c',Q4 d]/\NumOk a b c d k/\NumOk a' b' c' d k
 |[],[],_,i=>.inl ⟨by simp,by simp⟩
 |r::s,r'::s',h,0=>by
  obtain ⟨⟨nm,a,b,c,a',b',c',d,e,h2,f,g⟩,_⟩:=h;exact .inr ⟨nm,a,b,c,a',b',c',d,by simp [e],by simp [h2],f,g⟩
 |r::s,r'::s',h,i+1=>by
  have:=EX.at h.2 i;simpa using this
theorem EX.row {k:Nat} {s s':LL} (h:EX k s s') (i:Int):(Q1 s i=none/\Q1 s' i=none)\/∃ nm a b c a' b' c' d,Q1 s i=some [D.str nm,Q4 a,Q4 b,Q4 c,Q4 d]/\Q1 s' i=some [D.str nm,Q4 a',Q4 b',Q4 c',Q4 d]/\NumOk a b c d k/\NumOk a' b' c' d k:=by
 unfold Q1;cases decide ((0:Int)<=i)
 ·simp_all
 ·exact h.at i.toNat
theorem gbN {α R:Type} {z:α} {k:α->oP R}:gb true none z k=none:=rfl
theorem inT {R:Type} {n:Nat} {x lo hi:Int} (a:lo<=x) (b:x<=hi) (K:Bool->oP R):K6 n x lo hi K=K true:=by
 grind [K6,decide]
section
variable {R:Type} {n k:Nat} {s s' St Pt Li:LL} (h:EX k s s')
include h
theorem Q5y {k0:Int->Bool->LL->oP R}:∀ (m:Nat) (i:Int) (acc:LL),YI n s k0 m i acc=YI n s' k0 m i acc
 |0,_,_=>rfl
 |m+1,i,acc=>by
  unfold YI;rcases h.row i with ⟨e,e'⟩ | ⟨nm,a,b,c,a',b',c',d,e,e',_,_⟩
  ·simp only [e,e',h.len,gbN]
  ·rw [e,e',h.len];simp only [Q5y m];rfl
theorem QbY {ac:LL} (hk:St.length=k) (f:k<=100) {k0:Int->oP R} {k1:Int->Bool->oP R}:∀ (m:Nat) (i:Int),J5 n ac St s k0 k1 m i=J5 n ac St s' k0 k1 m i
 |0,_=>rfl
 |m+1,i=>by
  unfold J5;rcases h.row i with ⟨e,e'⟩ | ⟨nm,a,b,c,a',b',c',d,e,e',g,g'⟩
  ·simp only [e,e',h.len,gbN,QbY hk f m]
  ·rw [e,e',h.len];obtain ⟨j,l,h2,o,p,q,x,y⟩:=g;obtain ⟨g0,g1,r,t,u,v,z,g7⟩:=g';simp -implicitDefEqProofs only [Q0,List.getElem?_cons_zero,List.getElem?_cons_succ,Q2,inT j l,inT h2 o,inT p q,inT g0 g1,inT r t,inT u v,QbY hk f m]
theorem QdB {k0:Int->oP R} {k1:Int->Bool->oP R}:∀ (m:Nat) (i:Int),VX n St Pt s Li k0 k1 m i=VX n St Pt s' Li k0 k1 m i
 |0,_=>rfl
 |m+1,i=>by
  unfold VX;have e:∀ j,JC n St Pt s Li j (some:Int->Option Int)=JC n St Pt s' Li j some:=by
   intro j;unfold JC;rw [h.len];rfl
  simp only [e,QdB m]
theorem Qby (hk:St.length=k) (a:k<=100) (K:Int->oP R):JR n St Pt s Li K=JR n St Pt s' Li K:=by
 unfold JR Ky;rw [h.len]
 grind [Q5y,QbY,QdB]
end
def Q9t (St Pt Se Li:LL):Bool:=Q7e (JR 400 St Pt Se Li some)
theorem ro2 {c0 c1 a:Nat} (b:c0=1\/c0=2) (c:c1=1\/c1=2) (h2:a=1\/a=2):Q9t [nmS 0,nmS 1] (pt2 c0 c1) (se2 c0 c1 a (hat c0) (hat c1) (hat a)) (li2 c0 c1 a)=true:=by
 rcases b with rfl | rfl <;> rcases c with rfl | rfl <;> rcases h2 with rfl | rfl <;> kernel_rfl
theorem ro3 {c0 c1 a b c:Nat} (d:c0=1\/c0=2) (e:c1=1\/c1=2) (h2:a=1\/a=2) (f:b=1\/b=2) (g:c=1\/c=2):Q9t [nmS 0,nmS 1,nmS 2] (pt3 c0 c1 a) (se3 c0 c1 a b c (hat c0) (hat c1) (hat a) (hat b) (hat c)) (li3 c0 c1 a b c)=true:=by
 rcases d with rfl | rfl <;> rcases e with rfl | rfl <;> rcases h2 with rfl | rfl <;> rcases f with rfl | rfl <;> rcases g with rfl | rfl <;> kernel_rfl
theorem Q3y {St Pt L L' Li:LL} (h:EX St.length L L') (h2:St.length<=100):Q9t St Pt L Li=Q9t St Pt L' Li:=by
 unfold Q9t;rw [Qby h rfl h2]
theorem QhN {c0 c1 a:Nat} {b c d:List RC} (e:c0=1\/c0=2) (f:c1=1\/c1=2) (h2:a=1\/a=2) (g:KM b) (h:KM c) (i:KM d) (j:b.length=c0) (e1:c.length=c1) (e2:d.length=a) :
  Q9t [nmS 0,nmS 1] (pt2 c0 c1) (se2 c0 c1 a b c d) (li2 c0 c1 a)=true:=by
 grind [ro2,Q3y,sr2]
theorem QhE {c0 c1 a b c:Nat} {d e f g h:List RC} (i:c0=1\/c0=2) (j:c1=1\/c1=2) (h2:a=1\/a=2) (k:b=1\/b=2) (l:c=1\/c=2) (m:KM d) (n:KM e) (o:KM f) (n3:KM g) (p:KM h) (q:d.length=c0) (e1:e.length=c1) (e2:f.length=a) (r:g.length=b) (s:h.length=c) :
  Q9t [nmS 0,nmS 1,nmS 2] (pt3 c0 c1 a) (se3 c0 c1 a b c d e f g h) (li3 c0 c1 a b c)=true:=by
 grind [ro3,Q3y,sr3]
def Qcf (St Pt L d s:LL):Option Int:=
 YF 400 L s (some 4) (fun _ _=>VK 400 s (some 5) (fun _ _=>YB 400 St Pt L d s (some 11) (fun _ _=>some 0) 400 (1:Int)) 400 (0:Int)) 400 (0:Int)
def Qf9 (N:Nat) (Li s:LL):Bool:=Q7e (Qcf [] [] (List.replicate N []) Li s)
section
variable {R:Type} {n:Nat} {a b a' b' L L' d s:LL} (h:L.length=L'.length)
include h
theorem QdT {k0:oP R} {k1:Int->Bool->oP R}:∀ (m:Nat) (i:Int),YF n L s k0 k1 m i=YF n L' s k0 k1 m i
 |0,_=>rfl
 |m+1,i=>by
  unfold YF;simp only [h,QdT m]
omit h in
theorem Qhf {x y z t:Int} {K:D->D->D->D->Bool->oP R}:JI n a b L d x y z t K=JI n a' b' L' d x y z t K:=rfl
omit h in
theorem QeP {k0:oP R} {k1:Int->Bool->oP R}:∀ (m:Nat) (i:Int),YB n a b L d s k0 k1 m i=YB n a' b' L' d s k0 k1 m i
 |0,_=>rfl
 |m+1,i=>by
  unfold YB;simp only [Qhf (a:=a) (b:=b) (L:=L) (a':=a') (b':=b') (L':=L'),QeP m]
end
theorem Q3z {St Pt Se Li s:LL} {N:Nat} (ac:Q9t St Pt Se Li=true) (hN:Se.length=N) (h2:2<=s.length) (c:s.length<=24) (hr:Qf9 N Li s=true):VR 400 St Pt Se Li s 0 (some:Int->Option Int)=some 0:=by
 have hL:Se.length=(List.replicate N ([]:List D)).length:=by simp [hN]
 unfold VR;rw [VO ac,Q0,Q9 (by decide),Q9 (by grind),Q9 (by grind [Q7,decide,List.length])];simp only [QdT hL,QeP (a:=St) (b:=Pt) (L:=Se) (a':=[]) (b':=[]) (L':=List.replicate N [])];exact VO hr
def Qd8 (Li:LL) (r r':List D):Option Int:=match r,r' with
 |[.int _ x,.int _ d],[.int _ y,.int _ e]=>gb true (bif (d == (1:Int)) then Wd 400 Li ((List.length Li:Nat):Int) x (0:Int) (fun _ _ w=>some w) 400 (0:Int) [] else Wd 400 Li ((List.length Li:Nat):Int) x (1:Int) (fun _ _ w=>some w) 400 (0:Int) []) [] fun a=>
  Zt 400 a ((List.length a:Nat):Int) y e some (fun _ _=>some (-1)) 400 (0:Int)
 |_,_=>none
def ptR (St Pt Se Li:LL) (r r':List D):Option Int:=match r,r' with
 |[.int _ x,.int _ d],[.int _ y,.int _ e]=>match JI 400 St Pt Se Li x d y e Tu5 with
  |some (_,_,.int .i64 q,_,true)=>some q
  |_=>none
 |_,_=>none
def pv:Option Int->Int
 |some p=>p
 |none => -1
def Ag (N NP:Nat) (Li:LL):Nat->LL->Bool
 |k,r::r'::t=>match Qd8 Li r r',ptR [] [] (List.replicate N []) Li r r' with
  |some p,some q=>(p == q)&&(decide (-1<=p)&&(decide (p<NP)&&Ag N NP Li (bif decide (p<0) then k+1 else k+2) (r'::t)))
  |_,_=>false
 |k,_=>Nat.ble k 5
def QbO (N NP:Nat) (Li s:LL):Bool:=Qf9 N Li s&&Ag N NP Li 0 s
def Q3F (N NP:Nat) (Li:LL) (s u k c k' c':Nat):Bool:=
 (ups k c).all fun x=>(ups k' c').all fun y=>QbO N NP Li (Kt s u x y true)&&QbO N NP Li (Kt s u x y false)
theorem Qg4 {c0 c1 a:Nat} (b:c0=1\/c0=2) (c:c1=1\/c1=2) (h2:a=1\/a=2):Q3F (c0+c1+a) (pt2 c0 c1).length (li2 c0 c1 a) (c0+c1) a 0 c0 c0 c1=true:=by
 rcases b with rfl | rfl <;> rcases c with rfl | rfl <;> rcases h2 with rfl | rfl <;> kernel_rfl
theorem QfE {c0 c1 a b c:Nat} (d:c0=1\/c0=2) (e:c1=1\/c1=2) (h2:a=1\/a=2) (f:b=1\/b=2) (g:c=1\/c=2) :
  (Q3F (c0+c1+a+b+c) (pt3 c0 c1 a).length (li3 c0 c1 a b c) (c0+c1+a) b 0 c0 c0 c1&&Q3F (c0+c1+a+b+c) (pt3 c0 c1 a).length (li3 c0 c1 a b c) (c0+c1+a+b) c c0 c1 (c0+c1) a)=true:=by
 rcases d with rfl | rfl <;> rcases e with rfl | rfl <;> rcases h2 with rfl | rfl <;> rcases f with rfl | rfl <;> rcases g with rfl | rfl <;> kernel_rfl
theorem Qbx {St Pt Se Li:LL} (ac:Pg 400 St Pt Se Li=true) {x d y e:Int} (a:0<=x) (b:x<Se.length) (hd:d=0\/d=1):Zk 400 St Pt Se Li x d y e (some:Int->Option Int)=Qd8 Li [Q4 x,Q4 d] [Q4 y,Q4 e]:=by
 have hc:Zo 400 St Pt Se Li (some:Int->Option Int)=some 0:=by grind [Zo]
 have hh:NF 400 St Pt Se Li x d (some:Bool->Option Bool)=some true:=by
  grind [NF,Q0,decide]
 simp_all [Zk,MM,Qd8,Q0]
structure Geo where
 N:Nat
 St:LL
 Pt:LL
 Se:LL
 Li:LL
 Tr:LL
 Bt:LL
 k:Nat->Nat
 c:Nat->Nat
 s:Nat->Nat
 u:Nat->Nat
structure Geo.OK (G:Geo):Prop where
 hN:G.N=2\/G.N=3
 st:G.St.length=G.N
 lay:Pg 400 G.St G.Pt G.Se G.Li=true
 ref:Q9t G.St G.Pt G.Se G.Li=true
 trl:G.Tr.length=G.N
 tr:∀ i,i<G.N->G.Tr[i]? = some [D.sl 1 (ZQ (ups (G.k i) (G.c i)))]
 ct:∀ i,i<G.N->G.c i=1\/G.c i=2
 btl:G.Bt.length+1=G.N
 bt:∀ g,g+1<G.N->G.Bt[g]? = some [D.sl 1 (ZQ (ups (G.s g) (G.u g)))]
 ut:∀ g,g+1<G.N->G.u g=1\/G.u g=2
 sec:∀ i,i<G.N->∀ x,x<G.c i->∃ nm a b d,Q1 G.Se ((G.k i+x:Nat):Int)=some [D.str nm,Q4 a,Q4 b,Q4 d,Q4 i]/\SecN a b d
 gap:∀ g,g+1<G.N->∀ x,x<G.u g->∃ nm a b d e,Q1 G.Se ((G.s g+x:Nat):Int)=some [D.str nm,Q4 a,Q4 b,Q4 d,Q4 e]/\SecN a b d
 rts:∀ g,g+1<G.N->Qb4 G.Se.length G.Li (G.s g) (G.u g) (G.k g) (G.c g) (G.k (g+1)) (G.c (g+1))=true
 rt6:∀ g,g+1<G.N->Q3F G.Se.length G.Pt.length G.Li (G.s g) (G.u g) (G.k g) (G.c g) (G.k (g+1)) (G.c (g+1))=true
theorem Q5l {f:Nat->RC->List D}:∀ {c:Nat} {x:List RC} {i:Nat},KM x->x.length=c->i<c->∃ j y,(Yy f c x)[i]? = some (f j y)/\Num y.1 y.2.1 y.2.2
 |c+1,a::x,0,h,_,_=>⟨c+1,a,rfl,h.1⟩
 |c+1,a::x,i+1,h,e,hi=>by
  obtain ⟨j,y,b,h2⟩:=Q5l (f:=f) h.2 (by simpa using e) (show i<c by omega);exact ⟨j,y,by simpa [Yy] using b,h2⟩
theorem QaT {f:Nat->RC->List D} {A B:LL} {c k i:Nat} {x:List RC} (hA:A.length=k) (h:KM x) (e:x.length=c) (hi:i<c):∃ j y,Q1 ((A++Yy f c x)++B) ((k+i:Nat):Int)=some (f j y)/\Num y.1 y.2.1 y.2.2:=by
 obtain ⟨j,y,a,h2⟩:=Q5l (f:=f) h e hi
 grind [Q1]
theorem Qf6 {A B L:LL} {c k i x:Nat} {X:List RC} (hL:L=(A++Yy (secT i) c X)++B) (hA:A.length=k) (h:KM X) (e:X.length=c) (hi:x<c) :
  ∃ nm a b d,Q1 L ((k+x:Nat):Int)=some [D.str nm,Q4 a,Q4 b,Q4 d,Q4 i]/\SecN a b d:=by
 subst hL;obtain ⟨j,y,g,h2⟩:=QaT (f:=secT i) (B:=B) hA h e hi;exact ⟨_,_,_,_,g,by have:=h2.a0;omega,by have:=h2.a1;omega,h2.b0,h2.b1,h2.c0,h2.c1⟩
theorem Qgc {A B L:LL} {c k i x:Nat} {X:List RC} (hL:L=(A++Yy (secL i) c X)++B) (hA:A.length=k) (h:KM X) (e:X.length=c) (hi:x<c) :
  ∃ nm a b d e,Q1 L ((k+x:Nat):Int)=some [D.str nm,Q4 a,Q4 b,Q4 d,Q4 e]/\SecN a b d:=by
 subst hL;obtain ⟨j,y,g,h2⟩:=QaT (f:=secL i) (B:=B) hA h e hi;exact ⟨_,_,_,_,_,g,h2.a0,by have:=h2.a1;omega,h2.b0,h2.b1,h2.c0,h2.c1⟩
def Qdw (c0 c1 a:Nat) (b d e:List RC):Geo where
 N:=2
 St:=[nmS 0,nmS 1]
 Pt:=pt2 c0 c1
 Se:=se2 c0 c1 a b d e
 Li:=li2 c0 c1 a
 Tr:=[[D.sl 1 (ZQ (ups 0 c0))],[D.sl 1 (ZQ (ups c0 c1))]]
 Bt:=[[D.sl 1 (ZQ (ups (c0+c1) a))]]
 k:=fun | 0=>0 | _=>c0
 c:=fun | 0=>c0 | _=>c1
 s:=fun _=>c0+c1
 u:=fun _=>a
theorem Qc6 {c0 c1 a:Nat} {b c d:List RC} (f:c0=1\/c0=2) (h:c1=1\/c1=2) (h2:a=1\/a=2) (j:KM b) (k:KM c) (l:KM d) (e:b.length=c0) (e1:c.length=c1) (e2:d.length=a):(Qdw c0 c1 a b c d).OK where
 hN:=.inl rfl
 st:=rfl
 lay:=Qhl f h h2 j k l e e1 e2
 ref:=QhN f h h2 j k l e e1 e2
 trl:=rfl
 tr:=fun i hi=>match i,hi with
  |0,_=>rfl
  |1,_=>rfl
 ct:=fun i hi=>match i,hi with
  |0,_=>f
  |1,_=>h
 btl:=rfl
 bt:=fun g hg=>match g,hg with
  |0,_=>rfl
 ut:=fun g _=>h2
 sec:=fun i hi=>match i,hi with
  |0,_=>fun x hx=>Qf6 (A:=[]) (i:=0) (B:=Yy (secT 1) c1 c++Yy (secL 0) a d) (by simp [Qdw,se2]) rfl j e hx
  |1,_=>fun x hx=>Qf6 (A:=Yy (secT 0) c0 b) (i:=1) (B:=Yy (secL 0) a d) rfl (Xe e) k e1 hx
 gap:=fun g hg x hx=>Qgc (A:=Yy (secT 0) c0 b++Yy (secT 1) c1 c) (i:=0) (B:=[]) (by simp [Qdw,se2]) (by grind [Qdw,Xe]) l e2 hx
 rts:=fun g hg=>match g,hg with
  |0,_=>by
   have hl:(se2 c0 c1 a b c d).length=c0+c1+a:=by grind [se2,Xe]
   show Qb4 (se2 c0 c1 a b c d).length (li2 c0 c1 a) (c0+c1) a 0 c0 c0 c1=true
   grind [Qhv]
 rt6:=fun g hg=>match g,hg with
  |0,_=>by
   have hl:(se2 c0 c1 a b c d).length=c0+c1+a:=by simp [se2,Xe e,Xe e1,Xe e2];omega
   show Q3F (se2 c0 c1 a b c d).length (pt2 c0 c1).length (li2 c0 c1 a) (c0+c1) a 0 c0 c0 c1=true
   grind [Qg4]
def Q9v (c0 c1 a b d:Nat) (e f g h i:List RC):Geo where
 N:=3
 St:=[nmS 0,nmS 1,nmS 2]
 Pt:=pt3 c0 c1 a
 Se:=se3 c0 c1 a b d e f g h i
 Li:=li3 c0 c1 a b d
 Tr:=[[D.sl 1 (ZQ (ups 0 c0))],[D.sl 1 (ZQ (ups c0 c1))],[D.sl 1 (ZQ (ups (c0+c1) a))]]
 Bt:=[[D.sl 1 (ZQ (ups (c0+c1+a) b))],[D.sl 1 (ZQ (ups (c0+c1+a+b) d))]]
 k:=fun | 0=>0 | 1=>c0 | _=>c0+c1
 c:=fun | 0=>c0 | 1=>c1 | _=>a
 s:=fun | 0=>c0+c1+a | _=>c0+c1+a+b
 u:=fun | 0=>b | _=>d
theorem Qd1 {c0 c1 a b c:Nat} {d e f h j:List RC} (l:c0=1\/c0=2) (m:c1=1\/c1=2) (h2:a=1\/a=2) (n:b=1\/b=2) (o:c=1\/c=2) (s:KM d) (t:KM e) (u:KM f) (n3:KM h) (v:KM j) (p:d.length=c0) (e1:e.length=c1) (e2:f.length=a) (q:h.length=b) (r:j.length=c):(Q9v c0 c1 a b c d e f h j).OK where
 hN:=.inr rfl
 st:=rfl
 lay:=QhL l m h2 n o s t u n3 v p e1 e2 q r
 ref:=QhE l m h2 n o s t u n3 v p e1 e2 q r
 trl:=rfl
 tr:=fun i hi=>match i,hi with
  |0,_=>rfl
  |1,_=>rfl
  |2,_=>rfl
 ct:=fun i hi=>match i,hi with
  |0,_=>l
  |1,_=>m
  |2,_=>h2
 btl:=rfl
 bt:=fun g hg=>match g,hg with
  |0,_=>rfl
  |1,_=>rfl
 ut:=fun g hg=>match g,hg with
  |0,_=>n
  |1,_=>o
 sec:=fun i hi=>match i,hi with
  |0,_=>fun x hx=>Qf6 (A:=[]) (i:=0) (B:=Yy (secT 1) c1 e++(Yy (secT 2) a f++(Yy (secL 0) b h++Yy (secL 1) c j))) (by simp [Q9v,se3]) rfl s p hx
  |1,_=>fun x hx=>Qf6 (A:=Yy (secT 0) c0 d) (i:=1) (B:=Yy (secT 2) a f++(Yy (secL 0) b h++Yy (secL 1) c j)) (by simp [Q9v,se3]) (Xe p) t e1 hx
  |2,_=>fun x hx=>Qf6 (A:=Yy (secT 0) c0 d++Yy (secT 1) c1 e) (i:=2) (B:=Yy (secL 0) b h++Yy (secL 1) c j) (by simp [Q9v,se3]) (by grind [Q9v,Xe]) u e2 hx
 gap:=fun g hg=>match g,hg with
  |0,_=>fun x hx=>Qgc (A:=Yy (secT 0) c0 d++Yy (secT 1) c1 e++Yy (secT 2) a f) (i:=0) (B:=Yy (secL 1) c j) (by simp [Q9v,se3]) (by grind [Q9v,Xe]) n3 q hx
  |1,_=>fun x hx=>Qgc (A:=Yy (secT 0) c0 d++Yy (secT 1) c1 e++Yy (secT 2) a f++Yy (secL 0) b h) (i:=1) (B:=[]) (by simp [Q9v,se3]) (by grind [Q9v,Xe]) v r hx
 rts:=fun g hg=>by
  have hl:(se3 c0 c1 a b c d e f h j).length=c0+c1+a+b+c:=by grind [se3,Xe]
  have k:=QhD l m h2 n o;simp only [Qj6] at k
  match g,hg with
  |0,_=>
   show Qb4 (se3 c0 c1 a b c d e f h j).length (li3 c0 c1 a b c) (c0+c1+a) b 0 c0 c0 c1=true
   simp_all
  |1,_=>
   show Qb4 (se3 c0 c1 a b c d e f h j).length (li3 c0 c1 a b c) (c0+c1+a+b) c c0 c1 (c0+c1) a=true;rw [hl];exact k.2
 rt6:=fun g hg=>by
  have hl:(se3 c0 c1 a b c d e f h j).length=c0+c1+a+b+c:=by simp [se3,Xe p,Xe e1,Xe e2,Xe q,Xe r];omega
  have k:=QfE l m h2 n o;simp only [Qj6] at k
  match g,hg with
  |0,_=>
   show Q3F (se3 c0 c1 a b c d e f h j).length (pt3 c0 c1 a).length (li3 c0 c1 a b c) (c0+c1+a) b 0 c0 c0 c1=true;rw [hl];exact k.1
  |1,_=>
   show Q3F (se3 c0 c1 a b c d e f h j).length (pt3 c0 c1 a).length (li3 c0 c1 a b c) (c0+c1+a+b) c c0 c1 (c0+c1) a=true;rw [hl];exact k.2
theorem Qhp {R:Type} {l:List Int} (hl:l.length<=9223372036854775807) {P:R->Prop} {i:Nat} (hi:i<=l.length) {K:LL->LL->LL->LL->LL->LL->LL->Int->oP R}
  (H:∀ (G:Geo) (j:Nat),G.OK->j<=l.length->K G.St G.Pt G.Se G.Li G.Tr G.Bt [] (j:Int)∈P):Q1x 400 (encI l) (i:Int) K∈P:=by
 refine Vq hl hi (by decide) (by decide) fun v j k n hj=>?_
 rcases two k n with rfl | rfl
 ·exact QfX hl (m:=397) hj fun c0 c1 a b c d j a0 a1 a2 e f g h e1 e2 hj=>H (Qdw c0 c1 a b c d) j (Qc6 a0 a1 a2 e f g h e1 e2) hj
 ·exact Qg0 hl (m:=396) hj fun c0 c1 o a p b c q d r j a0 a1 a2 s t e f g n3 u h e1 e2 x y hj=>H (Q9v c0 c1 o a p b c q d r) j (Qd1 a0 a1 a2 s t e f g n3 u h e1 e2 x y) hj
section
variable {R:Type}
theorem Q0E {T:LL} {g:Nat} {l:LL} (h:T[g]? = some [D.sl 1 l]) (K:LL->oP R) :
  gb true (inB (List.length T) (g:Int)) () (fun _=>gb true (T[(Int.toNat (g:Int))]?) [] fun a=>gb true (a[0]?) oF fun b=>gb true (pSl 1 b) [] fun c=>K c)=K l:=by
 have ac:g<T.length:=(QiU.1 h).1;rw [Y0 (by omega) (by omega),Q0,Int.toNat_natCast,h];rfl
theorem Qft {k c a:Nat} (hc:c=1\/c=2) (ha:a<2) (K:Int->oP R) :
  gb true (nz ((List.length (ZQ (ups k c)):Nat):Int)) () (fun _=>gb true (Q1 (ZQ (ups k c)) (Int.tmod (a:Int) ((List.length (ZQ (ups k c)):Nat):Int))) [] fun b=>gb true (b[0]?) oF fun d=>gb true (pIw d) 0 fun e=>K e)=K ((k+a % c:Nat):Int):=by
 obtain rfl | rfl:a=0\/a=1:=by omega
 ·rcases hc with rfl | rfl <;> rfl
 ·rcases hc with rfl | rfl
  ·rw [show k+1 % 1=k from rfl,show List.length (ZQ (ups k 1))=1 from rfl,show Int.tmod ((1:Nat):Int) ((1:Nat):Int)=0 by decide];rfl
  ·rfl
theorem Qap {s u:Nat} {x:Int} (hu:u=1\/u=2) {k0:Int->Bool->LL->oP R} :
  Zw 400 (ZQ (ups s u)) ((List.length (ZQ (ups s u)):Nat):Int) k0 400 (0:Int) [[D.int .i64 x,D.int .i64 (0:Int)]]
   = k0 (u:Int) false ([Q4 x,Q4 0]::((ups s u).map fun k=>[Q4 (k:Nat),Q4 0])):=by
 rcases hu with rfl | rfl <;> rfl
theorem Qar {s u:Nat} {x:Int} (hu:u=1\/u=2) {k0:Int->Bool->LL->oP R} :
  ZC 400 (ZQ (ups s u)) k0 400 (wJ (((List.length (ZQ (ups s u)):Nat):Int)-(1:Int))) [[D.int .i64 x,D.int .i64 (1:Int)]]
   = k0 (-1) false ([Q4 x,Q4 1]::((ups s u).reverse.map fun k=>[Q4 (k:Nat),Q4 1])):=by
 rcases hu with rfl | rfl <;> rfl
theorem Q8e {Tr Bt:LL} {g k c k' c' s u a b:Nat} {up:Bool} (hg:g<8) (hT:Tr[g]? = some [D.sl 1 (ZQ (ups k c))]) (ac:Tr[g+1]? = some [D.sl 1 (ZQ (ups k' c'))]) (hB:Bt[g]? = some [D.sl 1 (ZQ (ups s u))])
  (hc:c=1\/c=2) (aj:c'=1\/c'=2) (hu:u=1\/u=2) (ha:a<2) (hb:b<2) (K:LL->Int->oP R) :
  Yu 400 Tr Bt (g:Int) (a:Int) (b:Int) up K=K (Kt s u (k+a % c) (k'+b % c') up) 0:=by
 have ak:wJ ((g:Int)+1)=((g+1:Nat):Int):=by grind [Q7]
 have hl:(ups s u).length=u:=by rcases hu with rfl | rfl <;> rfl
 have d:u<=2:=by omega
 unfold Yu;rw [Q0E hB];cases up
 ·rw [Q9 rfl];rw [ak,Q0E ac,Q0E ac,Qft aj hb,XF (by simp),Q0];rw [Qar hu,Q0E hT,Q0E hT,Qft hc ha,XF (by simp [hl];omega),Q0];rfl
 ·rw [QY rfl,Q0E hT,Q0E hT,Qft hc ha,XF (by simp),Q0];rw [Qap hu,ak,Q0E ac,Q0E ac,Qft aj hb,XF (by simp [hl];omega),Q0];rfl
end
def Sta (G:Geo) (x:Int):Prop:=∃ nm a b d i,Q1 G.Se x=some [D.str nm,Q4 a,Q4 b,Q4 d,Q4 i]/\0<=i
structure RtOK (G:Geo) (s:LL) (x y:Int):Prop where
 l2:2<=s.length
 l24:s.length<=24
 rt:rtB G.Se.length G.Li s=true
 rt6:Qf9 G.Se.length G.Li s=true
 hops:Ag G.Se.length G.Pt.length G.Li 0 s=true
 shp:∃ g x y up,g+1<G.N/\s=Kt (G.s g) (G.u g) x y up/\x∈ups (G.k g) (G.c g)/\y∈ups (G.k (g+1)) (G.c (g+1))
 st:∀ r∈s,Dz G.Se r
 sx:Sta G x
 sy:Sta G y
 fst:∃ d,Q1 s 0=some [Q4 x,Q4 d]
 lst:∃ d,Q1 s ((s.length:Int)-1)=some [Q4 y,Q4 d]
def Geo.tk (G:Geo) (i a:Nat):Int:=((G.k i+a % G.c i:Nat):Int)
theorem Q4v {x:Nat}:∀ {s u:Nat},x∈ups s u->∃ j,j<u/\x=s+j
 |s,0,h=>by simp [ups] at h
 |s,u+1,h=>by
  simp only [ups,List.mem_cons] at h;rcases h with rfl | h
  ·exact ⟨0,by omega,rfl⟩
  ·obtain ⟨j,a,h2⟩:=Q4v h;exact ⟨j+1,by omega,by omega⟩
theorem FM {c a k:Nat} (hc:c=1\/c=2):(k+a % c)∈ups k c:=by
 rcases hc with rfl | rfl
 ·simp [ups,Nat.mod_one]
 grind [Nat.mod_lt,ups]
theorem Geo.OK.trk {G:Geo} (hG:G.OK) {i a:Nat} (hi:i<G.N):(∃ nm x b d,Q1 G.Se (G.tk i a)=some [D.str nm,Q4 x,Q4 b,Q4 d,Q4 i]/\SecN x b d):=
 hG.sec i hi (a % G.c i) (Nat.mod_lt _ (by rcases hG.ct i hi with h | h <;> omega))
theorem Q44 {P:List D->Prop} {s u x y:Nat} {up:Bool} (hx:∀ d,(d=0\/d=1)->P [Q4 x,Q4 d]) (hy:∀ d,(d=0\/d=1)->P [Q4 y,Q4 d]) (hs:∀ j,j<u->∀ d,(d=0\/d=1)->P [Q4 ((s+j:Nat):Int),Q4 d]):∀ r∈Kt s u x y up,P r:=by
 intro r hr;unfold Kt at hr;cases up
 ·simp only [QiP,List.cons_append,List.mem_cons,Qj0,List.mem_map,List.mem_reverse,List.not_mem_nil,or_false] at hr;rcases hr with rfl | ⟨k,hk,rfl⟩ | rfl
  ·simp_all
  ·obtain ⟨j,a,rfl⟩:=Q4v hk
   simp_all
  simp_all
 ·simp only [QiT,List.cons_append,List.mem_cons,Qj0,List.mem_map,List.not_mem_nil,or_false] at hr;rcases hr with rfl | ⟨k,hk,rfl⟩ | rfl
  ·simp_all
  ·obtain ⟨j,a,rfl⟩:=Q4v hk
   simp_all
  simp_all
theorem QeJ {R:Type} {G:Geo} (hG:G.OK) {g a b:Nat} {up:Bool} (hg:g+1<G.N) (ha:a<2) (hb:b<2) :
  ∃ s,RtOK G s (bif up then G.tk g a else G.tk (g+1) b) (bif up then G.tk (g+1) b else G.tk g a)/\∀ K:LL->Int->oP R,Yu 400 G.Tr G.Bt (g:Int) (a:Int) (b:Int) up K=K s 0:=by
 have hN:=hG.hN;have hc:=hG.ct g (by omega);have ar:=hG.ct (g+1) hg;have hu:=hG.ut g hg;obtain ⟨h,i,k,l,e1,c⟩:=hG.trk (a:=a) (show g<G.N by omega);obtain ⟨m,n,o,p,e2,e⟩:=hG.trk (a:=b) hg;have aj:=hG.rts g hg;unfold Qb4 at aj;have aj:=List.all_eq_true.1 (List.all_eq_true.1 aj _ (FM hc (a:=a))) _ (FM ar (a:=b));simp only [Qj6] at aj;have ac:=hG.rt6 g hg;unfold Q3F at ac;have ac:=List.all_eq_true.1 (List.all_eq_true.1 ac _ (FM hc (a:=a))) _ (FM ar (a:=b));simp only [QbO,Qj6] at ac;refine ⟨Kt (G.s g) (G.u g) (G.k g+a % G.c g) (G.k (g+1)+b % G.c (g+1)) up,?_,fun K=>Q8e (by omega) (hG.tr g (by omega)) (hG.tr (g+1) hg) (hG.bt g hg) hc ar hu ha hb K⟩;have aq:∀ r∈Kt (G.s g) (G.u g) (G.k g+a % G.c g) (G.k (g+1)+b % G.c (g+1)) up,Dz G.Se r:=by
  refine Q44 (fun d hd=>⟨_,_,_,_,_,_,_,rfl,e1,c,hd⟩) (fun d hd=>⟨_,_,_,_,_,_,_,rfl,e2,e,hd⟩) fun j hj d hd=>?_
  obtain ⟨n3,q,t,v,z,f,g1⟩:=hG.gap g hg j hj;exact ⟨_,_,_,_,_,_,_,rfl,f,g1,hd⟩
 have ak:∃ g' x y aw,g'+1<G.N/\Kt (G.s g) (G.u g) (G.k g+a % G.c g) (G.k (g+1)+b % G.c (g+1)) up=Kt (G.s g') (G.u g') x y aw/\x∈ups (G.k g') (G.c g')/\y∈ups (G.k (g'+1)) (G.c (g'+1)):=
  ⟨g,_,_,up,hg,rfl,FM hc,FM ar⟩
 have s1:Sta G (G.tk g a):=⟨_,_,_,_,_,e1,by omega⟩;have s2:Sta G (G.tk (g+1) b):=⟨_,_,_,_,_,e2,by omega⟩;revert aq aj ac ak;generalize G.s g=s;generalize G.u g=u at hu;intro aj ac aq ak;have hl:(Kt s u (G.k g+a % G.c g) (G.k (g+1)+b % G.c (g+1)) up).length=u+2:=by
  rcases hu with rfl | rfl <;> cases up <;> rfl
 cases up
 ·exact ⟨by omega,by omega,aj.2,ac.2.1,ac.2.2,ak,aq,s2,s1,by rcases hu with rfl | rfl <;> exact ⟨1,rfl⟩,by rw [hl];rcases hu with rfl | rfl <;> exact ⟨1,rfl⟩⟩
 ·exact ⟨by omega,by omega,aj.1,ac.1.1,ac.1.2,ak,aq,s1,s2,by rcases hu with rfl | rfl <;> exact ⟨0,rfl⟩,by rw [hl];rcases hu with rfl | rfl <;> exact ⟨0,rfl⟩⟩
def TH (G:Geo) (Ro:LL) (row:List D) (x y:Int) (last:Bool):Prop:=
 ∃ (rt:Nat) (ex mn mx:Int) (s:LL),row=[Q4 rt,Q4 ex,Q4 mn,Q4 mx]/\Ro[rt]? = some [D.sl 2 s,Q4 0]/\RtOK G s x y/\(0<=ex/\ex<3)/\(0<=mn/\mn<=mx/\mx<=mn+3/\mn<=10)/\(last=true->mn=0/\mx=0)
def nmN (k:Nat):List UInt8:=bs [78]++[UInt8.ofNat (48+k)]
def Q2w (G:Geo) (Ro:LL) (rides:LL):Prop:=
 (∃ r x y,rides=[r]/\TH G Ro r x y true)\/(∃ r r' x y z,rides=[r,r']/\TH G Ro r x y false/\TH G Ro r' y z true)
def Q9F (G:Geo) (Ro:LL) (k:Nat) (row:List D):Prop:=∃ (w:Int) (rides:LL),row=[D.str (nmN k),Q4 0,Q4 w,D.sl 4 rides]/\0<=w/\w<4/\Q2w G Ro rides
structure GoodP (G:Geo) (Ro Ls:LL):Prop where
 ro:∀ row∈Ro,∃ s x y,row=[D.sl 2 s,Q4 0]/\RtOK G s x y
 ls:∀ k row,Ls[k]? = some row->Q9F G Ro k row
theorem TH.mono {G:Geo} {Ro t:LL} {row:List D} {x y:Int} {b:Bool} (h:TH G Ro row x y b):TH G (Ro++t) row x y b:=by
 obtain ⟨rt,ex,mn,mx,s,a,h2,c⟩:=h;refine ⟨rt,ex,mn,mx,s,a,?_,c⟩
 grind
theorem Q2w.mono {G:Geo} {Ro t rides:LL} (h:Q2w G Ro rides):Q2w G (Ro++t) rides:=by
 rcases h with ⟨r,x,y,e,h⟩ | ⟨r,r',x,y,z,e,h,h'⟩
 ·exact .inl ⟨r,x,y,e,h.mono⟩
 ·exact .inr ⟨r,r',x,y,z,e,h.mono,h'.mono⟩
theorem Q9F.mono {G:Geo} {Ro t:LL} {k:Nat} {row:List D} (h:Q9F G Ro k row):Q9F G (Ro++t) k row:=by
 obtain ⟨w,rides,a,h2,b,c⟩:=h;exact ⟨w,rides,a,h2,b,c.mono⟩
section
variable {R:Type} {l:List Int} (hl:l.length<=9223372036854775807) {P:R->Prop}
include hl
def atL (At:Nat->Nat):LL:=[[Q4 (At 0)],[Q4 (At 1)],[Q4 (At 2)]]
theorem Qhr {i:Nat} (hi:i<=l.length) {k0:Int->Bool->LL->Int->oP R}
  (H:∀ (At:Nat->Nat) (j:Nat),(∀ i,At i<2)->j<=l.length->k0 3 false (atL At) (j:Int)∈P) :
  ZT 400 (encI l) k0 400 (0:Int) [[D.int .i64 (0:Int)],[D.int .i64 (0:Int)],[D.int .i64 (0:Int)]] (i:Int)∈P:=by
 refine Vq hl hi (by decide) (by decide) fun d j a0 b0 hj=>?_
 refine Vq hl hj (by decide) (by decide) fun e j a1 b1 hj=>?_
 refine Vq hl hj (by decide) (by decide) fun f j a2 b2 hj=>?_
 obtain ⟨a,rfl⟩:=QiY a0;obtain ⟨b,rfl⟩:=QiY a1;obtain ⟨c,rfl⟩:=QiY a2;exact H (fun | 0=>a | 1=>b | _=>c) j (fun | 0=>by grind | 1=>by grind | _+2=>by grind) hj
end
theorem atA {R:Type} {At:Nat->Nat} {g:Nat} (hg:g<3) (K:Int->oP R) :
  gb true (inB 3 (g:Int)) () (fun _=>gb true ((atL At)[(Int.toNat (g:Int))]?) [] fun r=>gb true (r[0]?) oF fun c=>gb true (pIw c) 0 fun i=>K i)=K (At g):=by
 obtain rfl | rfl | rfl:g=0\/g=1\/g=2:=by omega
 all_goals rfl
section
variable {R:Type} {l:List Int} (hl:l.length<=9223372036854775807) {P:R->Prop} {G:Geo} (hG:G.OK)
include hl hG
theorem Qbw {up:Bool} {ac h g m:Nat} {acc Ro:LL} {At:Nat->Nat} (ak:∀ i,At i<2) (hm:ac<=2) (hh:h<ac) (hg:g=bif up then h else ac-1-h) (hN:ac<G.N) (hR:Ro.length<=100) (ha:acc.length<=10)
  {i:Nat} (hi:i<=l.length) {k0:Int->Bool->LL->LL->Int->oP R}
  (H:∀ (s:LL) (ex mn mx:Int) (j:Nat),RtOK G s (bif up then G.tk g (At g) else G.tk (g+1) (At (g+1))) (bif up then G.tk (g+1) (At (g+1)) else G.tk g (At g))->0<=ex/\ex<3->(0<=mn/\mn<=mx/\mx<=mn+3/\mn<=10)->(h+1=ac->mn=0/\mx=0)->j<=l.length ->
   Qz 400 up (ac:Int) (atL At) G.Tr G.Bt (encI l) k0 m ((h+1:Nat):Int) (acc++[[Q4 (Ro.length:Nat),Q4 ex,Q4 mn,Q4 mx]]) (Ro++[[D.sl 2 s,Q4 0]]) (j:Int)∈P) :
  Qz 400 up (ac:Int) (atL At) G.Tr G.Bt (encI l) k0 (m+1) (h:Int) acc Ro (i:Int)∈P:=by
 have ar:=hG.hN;have ax:g<ac:=by
  rw [hg];cases up
  ·show ac-1-h<ac;omega
  ·exact hh
 have ao:g+1<G.N:=by omega
 obtain ⟨s,hs,e⟩:=QeJ (R:=LL × Int) hG (up:=up) ao (ak g) (ak (g+1));have d:wJ ((h:Int)+1)=((h+1:Nat):Int):=by rw [Q7 (by omega) (by omega)];omega
 have f:wJ ((g:Int)+1)=((g+1:Nat):Int):=by rw [Q7 (by omega) (by omega)];omega
 have k:up=false->wJ (wJ ((ac:Int)-1)-(h:Int))=(g:Int):=by
  intro hu;rw [Q7 (x:=(ac:Int)-1) (by omega) (by omega),Q7 (by omega) (by omega)];simp [hu] at hg;omega
 have aj:wJ ((((Ro++[[D.sl 2 s,Q4 0]]).length:Nat):Int)-1)=((Ro.length:Nat):Int):=by
  rw [show (Ro++[[D.sl 2 s,Q4 0]]).length=Ro.length+1 by simp,Q7 (by omega) (by omega)];omega
 rw [Qz,QY (by simp;omega),d];cases up
 ·rw [QY (c:=!false) rfl,k rfl,f,atA (by omega),atA (by omega),e,Q0,XF (by simp;omega),Q0];refine Vq hl hi (by decide) (by decide) fun ex j a b hj=>?_
  dsimp only;rw [aj];by_cases hlast:h+1<ac
  ·rw [QY (by simp;omega)];refine Vq hl hj (by decide) (by decide) fun mn j n o hj=>?_
   refine Vq hl hj (by decide) (by decide) fun mx j p q hj=>?_
   rw [XF (by simp;omega),Q0];dsimp only;rw [Q7 (x:=5+mn) (by omega) (by omega),Q7 (x:=5+mn+mx) (by omega) (by omega)];exact H s ex (5+mn) (5+mn+mx) j hs ⟨a,b⟩ ⟨by omega,by omega,by omega,by omega⟩ (fun hx=>absurd hx (by omega)) hj
  ·rw [Q9 (by simp;omega),XF (by simp;omega),Q0];exact H s ex 0 0 j hs ⟨a,b⟩ ⟨by omega,by omega,by omega,by omega⟩ (fun hx=>⟨rfl,rfl⟩) hj
 ·have aq:g=h:=by simpa using hg
  subst aq;rw [Q9 (c:=!true) rfl,atA (by omega),atA (by omega),e,Q0,XF (by simp;omega),Q0];refine Vq hl hi (by decide) (by decide) fun ex j a b hj=>?_
  dsimp only;rw [aj];by_cases hlast:g+1<ac
  ·rw [QY (by simp;omega)];refine Vq hl hj (by decide) (by decide) fun mn j n o hj=>?_
   refine Vq hl hj (by decide) (by decide) fun mx j p q hj=>?_
   rw [XF (by simp;omega),Q0];dsimp only;rw [Q7 (x:=5+mn) (by omega) (by omega),Q7 (x:=5+mn+mx) (by omega) (by omega)];exact H s ex (5+mn) (5+mn+mx) j hs ⟨a,b⟩ ⟨by omega,by omega,by omega,by omega⟩ (fun hx=>absurd hx (by omega)) hj
  ·rw [Q9 (by simp;omega),XF (by simp;omega),Q0];exact H s ex 0 0 j hs ⟨a,b⟩ ⟨by omega,by omega,by omega,by omega⟩ (fun hx=>⟨rfl,rfl⟩) hj
omit hl hG in
theorem Q63 {n m:Nat} {f:Bool} {b a:Int} {g i j k c d:LL} {e:Int} {k0:Int->Bool->LL->LL->Int->oP R} (h:¬ a<b) :
  Qz n f b g i j k k0 (m+1) a c d e=k0 a false c d e:=by
 rw [Qz,Q9 (by simpa using h)];simp [h]
theorem Qg5 {up:Bool} {ak:Nat} {Ro Ls:LL} (hm:ak=1\/ak=2) (hN:ak<G.N) (ac:GoodP G Ro Ls) (hR:Ro.length<=20) (hL:Ls.length<6)
  {i:Nat} (hi:i<=l.length) {K:Int->LL->LL->oP R}
  (H:∀ (Ro' Ls':LL) (j:Nat),GoodP G Ro' Ls'->Ls'.length=Ls.length+1->Ro'.length<=Ro.length+2->j<=l.length->K (j:Int) Ro' Ls'∈P) :
  UM 400 G.Tr G.Bt (encI l) (i:Int) Ro Ls up (ak:Int) K∈P:=by
 unfold UM;rw [Cy _ _ Ls.length (by omega) (by decide),Q0];refine Vq hl hi (by decide) (by decide) fun w j w0 w1 hj=>?_
 dsimp only;refine Qhr hl hj fun At j ar hj=>?_
 rcases hm with rfl | rfl
 ·refine Qbw hl hG (h:=0) (g:=0) ar (by decide) (by decide) (by simp_all) hN (by omega) (by decide) hj fun s ex mn mx j hs aq ao hlast hj=>?_
  rw [Q63 (by decide)];rw [XF (by simp;omega),Q0];refine H _ _ j ⟨fun row hr=>?_,fun k row hk=>?_⟩ (by simp) (by simp) hj
  ·rcases Qj0.1 hr with hr | hr
   ·exact ac.ro row hr
   grind
  ·rcases Nat.lt_or_ge k Ls.length with aj | aj
   ·rw [List.getElem?_append_left aj] at hk;exact (ac.ls k row hk).mono
   ·rw [List.getElem?_append_right aj] at hk;obtain ⟨a,rfl⟩:=QiU.1 hk;simp at a;have b:k=Ls.length:=by omega
    subst b;refine ⟨w,_,by simp [nmN],w0,w1,.inl ⟨_,_,_,rfl,Ro.length,ex,mn,mx,s,rfl,by simp,hs,aq,ao,fun _=>hlast rfl⟩⟩
 ·obtain ⟨g0,c⟩:∃ g0,g0=bif up then 0 else 1:=⟨_,rfl⟩
  obtain ⟨g1,d⟩:∃ g1,g1=bif up then 1 else 0:=⟨_,rfl⟩
  refine Qbw hl hG (h:=0) (g:=g0) ar (by decide) (by decide) (by cases up <;> simpa using c) hN (by omega) (by decide) hj fun s ex mn mx j hs aq ao hlast hj=>?_
  refine Qbw hl hG (h:=1) (g:=g1) ar (by decide) (by decide) (by cases up <;> simpa using d) hN (by simp;omega) (by simp) hj fun s' az a2 a3 j aw ax au an hj=>?_
  have ay:(bif up then G.tk (g0+1) (At (g0+1)) else G.tk g0 (At g0))=(bif up then G.tk g1 (At g1) else G.tk (g1+1) (At (g1+1))):=by
   subst c d;cases up <;> rfl
  rw [ay] at hs;rw [Q63 (by decide)];rw [XF (by simp;omega),Q0];refine H _ _ j ⟨fun row hr=>?_,fun k row hk=>?_⟩ (by simp) (by simp) hj
  ·rcases Qj0.1 hr with hr | hr
   ·rcases Qj0.1 hr with hr | hr
    ·exact ac.ro row hr
    ·rw [List.mem_singleton.1 hr];exact ⟨s,_,_,rfl,hs⟩
   ·rw [List.mem_singleton.1 hr];exact ⟨s',_,_,rfl,aw⟩
  ·rcases Nat.lt_or_ge k Ls.length with aj | aj
   ·rw [List.getElem?_append_left aj] at hk;exact (ac.ls k row hk).mono.mono
   ·rw [List.getElem?_append_right aj] at hk;obtain ⟨a,rfl⟩:=QiU.1 hk;simp at a;have b:k=Ls.length:=by omega
    subst b;refine ⟨w,_,by simp [nmN],w0,w1,.inr ⟨_,_,_,_,_,rfl,TH.mono ⟨Ro.length,ex,mn,mx,s,rfl,by simp,hs,aq,ao,fun h=>by cases h⟩,(Ro++[[D.sl 2 s,Q4 0]]).length,az,a2,a3,s',rfl,by simp,aw,ax,au,fun _=>an rfl⟩⟩
end
def T4 (Ls:LL) (k i:Nat) (r:List D):Prop:=∃ nm w rides,Ls[k]? = some [D.str nm,Q4 0,Q4 w,D.sl 4 rides]/\rides[i]? = some r
theorem Qe (w:LL) (i:Nat):Q1 w (i:Int)=w[i]?:=by simp [Q1]
section
variable {R:Type} {n:Nat}
theorem QaX {G:Geo} {Ro Ls:LL} {k i:Nat} {r:List D} {x y:Int} {b:Bool} (h:T4 Ls k i r) (hr:TH G Ro r x y b) {p:Int} {a1 a c e f:LL} (K:Int->oP R):PF n p a1 Ro Ls a c e f (k:Int) (i:Int) K=K x:=by
 obtain ⟨nm,w,rides,j,h2⟩:=h;obtain ⟨rt,ex,mn,mx,s,rfl,l,g,_⟩:=hr;obtain ⟨d,m⟩:=g.fst
 simp_all [PF,Qe,Q0,List.getElem?_cons_zero,List.getElem?_cons_succ,QH,Q2]
theorem QdF {G:Geo} {Ro Ls:LL} {k i:Nat} {r:List D} {x y:Int} {b:Bool} (h:T4 Ls k i r) (hr:TH G Ro r x y b) {p:Int} {a1 c e f g:LL} (K:Int->oP R):Nl n p a1 Ro Ls c e f g (k:Int) (i:Int) K=K y:=by
 obtain ⟨nm,w,rides,j,h2⟩:=h;obtain ⟨rt,ex,mn,mx,s,rfl,l,a,_⟩:=hr;obtain ⟨d,m⟩:=a.lst;have l2:=a.l2;have l24:=a.l24;unfold Nl;rw [Qe,j,Q0];dsimp only [List.getElem?_cons_zero,List.getElem?_cons_succ];rw [Q0,QH,Q0,Qe,h2,Q0];dsimp only [List.getElem?_cons_zero,List.getElem?_cons_succ];rw [Q0,Q2,Q0,Qe,l,Q0];dsimp only [List.getElem?_cons_zero,List.getElem?_cons_succ];rw [Q0,Q0,QH,Q0,Q0,Q7 (by omega) (by omega),m];rfl
end
theorem Q5p {G:Geo} {Ro Ls:LL} (hg:GoodP G Ro Ls) {k:Nat} (hk:k<Ls.length) :
  ∃ (w:Int) (rides:LL) (r r':List D) (x x' y y':Int) (b:Bool),Ls[k]? = some [D.str (nmN k),Q4 0,Q4 w,D.sl 4 rides]/\(rides.length=1\/rides.length=2)/\rides[0]? = some r/\rides[rides.length-1]? = some r'/\TH G Ro r x y b/\TH G Ro r' x' y' true:=by
 obtain ⟨w,rides,c,h2,d,a⟩:=hg.ls k _ (QiQ hk);refine ⟨w,rides,?_⟩;rcases a with ⟨r,x,y,rfl,h⟩ | ⟨r,r',x,y,z,rfl,h,h'⟩
 all_goals grind
abbrev Tup:=Nat × Nat × Int × Int
def tuR (t:Tup):List D:=[Q4 t.1,Q4 t.2.1,Q4 t.2.2.1,Q4 t.2.2.2]
def Q8J (G:Geo) (Ro Ls:LL) (t:Tup):Prop:=
 t.1<Ls.length/\t.2.1<Ls.length/\10<=t.2.2.1/\t.2.2.1<=19/\t.2.2.1<=t.2.2.2/\t.2.2.2<=t.2.2.1+29 /\
 ∃ (nm:List UInt8) (w:Int) (rides:LL) (r r':List D) (x y z:Int) (b b':Bool),Ls[t.1]? = some [D.str nm,Q4 0,Q4 w,D.sl 4 rides]/\rides[rides.length-1]? = some r/\1<=rides.length/\rides.length<=2/\T4 Ls t.2.1 0 r'/\TH G Ro r x y b/\TH G Ro r' y z b'
structure TInv (G:Geo) (Ro Ls:LL) (T:List Tup) (FA TA:LL):Prop where
 ok:∀ t∈T,Q8J G Ro Ls t
 fd:(T.map (·.1)).Nodup
 td:(T.map (·.2.1)).Nodup
 fl:∀ i,i<4->∃ b,FA[i]? = some [D.bool b]/\(b=false->i ∉ T.map (·.1))
 tl:∀ i,i<4->∃ b,TA[i]? = some [D.bool b]/\(b=false->i ∉ T.map (·.2.1))
theorem gbF {α R:Type} (p:Option α) (z:α) (k:α->oP R):gb false p z k=k (p.getD z):=by cases p <;> rfl
theorem TInv.add {G:Geo} {Ro Ls:LL} {T:List Tup} {FA TA:LL} (h:TInv G Ro Ls T FA TA) {t:Tup} (ht:Q8J G Ro Ls t) (d:t.1 ∉ T.map (·.1)) (h2:t.2.1 ∉ T.map (·.2.1)):TInv G Ro Ls (T++[t]) (FA.set t.1 [D.bool true]) (TA.set t.2.1 [D.bool true]) where
 ok:=fun u hu=>by
  rcases Qj0.1 hu with hu | hu
  ·exact h.ok u hu
  simp_all
 fd:=by
  rw [Qj8,List.nodup_append];refine ⟨h.fd,by simp,fun a ha b hb=>?_⟩
  grind
 td:=by
  rw [Qj8,List.nodup_append];refine ⟨h.td,by simp,fun a ha b hb=>?_⟩;simp at hb;subst hb;intro e;subst e;exact h2 ha
 fl:=fun i hi=>by
  obtain ⟨b,e,hb⟩:=h.fl i hi;by_cases ac:t.1=i
  ·subst ac;refine ⟨true,?_,fun h=>by cases h⟩;rw [List.getElem?_set_self (QiU.1 e).1]
  ·refine ⟨b,by rw [List.getElem?_set_ne ac];exact e,fun c hm=>?_⟩;rw [Qj8] at hm;rcases Qj0.1 hm with hm | hm
   ·exact hb c hm
   ·simp at hm;exact ac hm.symm
 tl:=fun i hi=>by
  obtain ⟨b,e,hb⟩:=h.tl i hi;by_cases ac:t.2.1=i
  ·subst ac;refine ⟨true,?_,fun h=>by cases h⟩;rw [List.getElem?_set_self (QiU.1 e).1]
  ·refine ⟨b,by rw [List.getElem?_set_ne ac];exact e,fun c hm=>?_⟩;rw [Qj8] at hm;rcases Qj0.1 hm with hm | hm
   ·exact hb c hm
   ·simp at hm;exact ac hm.symm
section
variable {R:Type} {l:List Int} (hl:l.length<=9223372036854775807) {P:R->Prop} {G:Geo} {Ro Ls:LL} (hg:GoodP G Ro Ls) (hL:Ls.length<=3)
include hl hg hL
theorem Qf7 {a b m:Nat} {b1:Int} {FA TA c d e f:LL} {T:List Tup} (ha:a<Ls.length) (hb:b<Ls.length) (hT:TInv G Ro Ls T FA TA) (a5:T.length<=100) {i:Nat} (hi:i<=l.length) {k0:Int->Bool->LL->LL->LL->Int->oP R}
  (H:∀ (FA TA:LL) (T':List Tup) (j:Nat),TInv G Ro Ls T' FA TA->T'.length<=T.length+1->j<=l.length->Yn 400 (a:Int) ((Ls.length:Nat):Int) c Ro Ls d e f (encI l) b1 k0 m ((b+1:Nat):Int) FA TA (T'.map tuR) (j:Int)∈P) :
  Yn 400 (a:Int) ((Ls.length:Nat):Int) c Ro Ls d e f (encI l) b1 k0 (m+1) (b:Int) FA TA (T.map tuR) (i:Int)∈P:=by
 have ax:wJ ((b:Int)+1)=((b+1:Nat):Int):=by rw [Q7 (by omega) (by omega)];omega
 rw [Yn,QY (by simp;omega),ax];refine Vq hl hi (by decide) (by decide) fun v j s u hj=>?_
 dsimp only;have ac:=H FA TA T j hT (by omega) hj;by_cases hv:v=0
 ·subst hv;rw [show decide ((0:Int)>0)=false from rfl];simp only [gbF,QiP];exact ac
 rw [show decide (v>0)=true by simp;omega];obtain ⟨fb,ef,hf⟩:=hT.fl a (by omega);obtain ⟨tb,et,ht⟩:=hT.tl b (by omega);rw [Y0 (by omega) (by omega),Q0,Int.toNat_natCast,ef,Q0];show gb true (some (D.bool fb)) _ (fun n=>gb true (Kl n) _ _)∈P;rw [Q0,show Kl (D.bool fb)=some fb from rfl,Q0];cases fb
 case true=>
  simp only [gbF,QiS,QiP,QiT];exact ac
 rw [show (bif true then !false else false)=true from rfl,Y0 (by omega) (by omega),Q0,Int.toNat_natCast,et,Q0];show gb true (some (D.bool tb)) _ (fun o=>gb true (Kl o) _ _)∈P;rw [Q0,show Kl (D.bool tb)=some tb from rfl,Q0];cases tb
 case true=>
  simp only [gbF,QiS,QiP,QiT];exact ac
 obtain ⟨w,rides,z,r,x0,x,y0,y,b0,e1,e2,e3,g,e5,h⟩:=Q5p hg ha;obtain ⟨w',ao,r',r1,x',x1,y',y1,a8,g1,g2,p,g4,k,g6⟩:=Q5p hg hb;have aw:T4 Ls a (rides.length-1) r:=⟨_,_,_,e1,g⟩;have an:T4 Ls b 0 r':=⟨_,_,_,g1,p⟩;have az:wJ (((rides.length:Nat):Int)-1)=((rides.length-1:Nat):Int):=by rw [Q7 (by omega) (by omega)];omega
 rw [show (bif true then !false else false)=true from rfl,Y0 (by omega) (by omega),Q0,e1,Q0];show gb true (some (D.sl 4 rides)) _ (fun q=>gb true (pSl 4 q) _ _)∈P;rw [Q0,QH,Q0,az,QdF aw h,Q0,show (0:Int)=((0:Nat):Int) from rfl,QaX an k,Q0];by_cases ak:y=x'
 case neg=>
  rw [Q9 (by simpa using ak)];exact ac
 subst ak;rw [QY (by simp),Q0,Q0,Q0,Q0];refine Vq hl hj (by decide) (by decide) fun lo j l0 l1 hj=>?_
 refine Vq hl hj (by decide) (by decide) fun aj j h0 h1 hj=>?_
 dsimp only;rw [XF (by simp;omega),Q0,Q7 (x:=10+lo) (by omega) (by omega),Q7 (x:=10+lo+aj) (by omega) (by omega)];have:=H _ _ (T++[(a,b,10+lo,10+lo+aj)]) j (hT.add (t:=(a,b,10+lo,10+lo+aj)) ⟨ha,hb,by simp;omega,by simp;omega,by simp;omega,by simp;omega,_,_,_,_,_,_,_,_,_,_,e1,g,by omega,by omega,an,h,k⟩ (hf rfl) (ht rfl)) (by simp) hj;rw [Qj8] at this;exact this
theorem QaZ {a:Nat} {b1:Int} {c d e f:LL} (ha:a<Ls.length) {k0:Int->Bool->LL->LL->LL->Int->oP R}:∀ (k m b:Nat) (FA TA:LL) (T:List Tup) (i:Nat),b+k=Ls.length->k<m->TInv G Ro Ls T FA TA->T.length+k<=60->i<=l.length ->
  (∀ (FA TA:LL) (T':List Tup) (j:Nat),TInv G Ro Ls T' FA TA->T'.length<=T.length+k->j<=l.length->k0 ((Ls.length:Nat):Int) false FA TA (T'.map tuR) (j:Int)∈P) ->
  Yn 400 (a:Int) ((Ls.length:Nat):Int) c Ro Ls d e f (encI l) b1 k0 m (b:Int) FA TA (T.map tuR) (i:Int)∈P
 |0,m+1,b,FA,TA,T,i,hb,_,hT,ak,hi,H=>by
  subst hb;rw [Yn,Q9 (by simp),show decide (((Ls.length:Nat):Int)<((Ls.length:Nat):Int))=false by simp]
  simp_all
 |k+1,m+1,b,FA,TA,T,i,hb,hm,hT,ak,hi,H=>by
  refine Qf7 hl hg hL ha (by omega) hT (by omega) hi fun FA TA T' j an aq hj=>?_
  exact QaZ ha k m (b+1) FA TA T' j (by omega) (by omega) an (by omega) hj fun FA TA T'' j ac aj hj=>H FA TA T'' j ac (by omega) hj
theorem QaJ {b1:Int} {b c d e:LL} {k0:Int->Bool->LL->LL->LL->Int->oP R}:∀ (k m a:Nat) (FA TA:LL) (T:List Tup) (i:Nat),a+k=Ls.length->k<m->TInv G Ro Ls T FA TA->T.length+3*k<=50->i<=l.length ->
  (∀ (FA TA:LL) (T':List Tup) (j:Nat),TInv G Ro Ls T' FA TA->T'.length<=T.length+3*k->j<=l.length->k0 ((Ls.length:Nat):Int) false FA TA (T'.map tuR) (j:Int)∈P) ->
  WX 400 ((Ls.length:Nat):Int) b Ro Ls c d e (encI l) b1 k0 m (a:Int) FA TA (T.map tuR) (i:Int)∈P
 |0,m+1,a,FA,TA,T,i,hb,_,hT,ak,hi,H=>by
  subst hb;rw [WX,Q9 (by simp),show decide (((Ls.length:Nat):Int)<((Ls.length:Nat):Int))=false by simp]
  simp_all
 |k+1,m+1,a,FA,TA,T,i,hb,hm,hT,ak,hi,H=>by
  rw [WX,QY (by simp;omega)];refine QaZ hl hg hL (by omega) Ls.length 400 0 FA TA T i (by omega) (by omega) hT (by omega) hi fun FA TA T' j an aq hj=>?_
  rw [show wJ ((a:Int)+1)=((a+1:Nat):Int) by grind [Q7]];exact QaJ k m (a+1) FA TA T' j (by omega) (by omega) an (by omega) hj fun FA TA T'' j ac aj hj=>H FA TA T'' j ac (by omega) hj
theorem Qf0 {b1:Int} {a b c d:LL} {i:Nat} (hi:i<=l.length) {K:Int->LL->oP R}
  (H:∀ (T:List Tup) (j:Nat),(∀ t∈T,Q8J G Ro Ls t)->(T.map (·.1)).Nodup->(T.map (·.2.1)).Nodup->T.length<=20->j<=l.length->K (j:Int) (T.map tuR)∈P) :
  SV 400 (encI l) (i:Int) b1 a Ro Ls b [] c d K∈P:=by
 refine QaJ hl hg hL (T:=[]) Ls.length 400 0 _ _ i (by omega) (by omega) ⟨by simp,by simp,by simp,?_,?_⟩ (by simp;omega) hi fun FA TA T j hT aj hj=>?_
 ·intro i hi;obtain rfl | rfl | rfl | rfl:i=0\/i=1\/i=2\/i=3:=by omega
  all_goals simp
 ·intro i hi;obtain rfl | rfl | rfl | rfl:i=0\/i=1\/i=2\/i=3:=by omega
  all_goals simp_all
 ·exact H T j hT.ok hT.fd hT.td (by grind) hj
end
theorem KJ {w:LL} {x:Int} {r:List D} (h:Q1 w x=some r):inB w.length x=some ()/\w[x.toNat]? = some r:=by
 grind [Q1,List.getElem?_eq_some_iff,Y0]
def Q53 (G:Geo) (per:Int) (Ro Ls:LL) (row:List D):Prop:=
 ∃ (f fr t tr:Nat) (mn mx w:Int) (r r':List D) (x y x' y':Int) (b b':Bool) (i:Int),row=[Q4 f,Q4 fr,Q4 t,Q4 tr,Q4 mn,Q4 mx,Q4 w]/\T4 Ls f fr r/\T4 Ls t tr r'/\TH G Ro r x y b/\TH G Ro r' x' y' b'/\f≠t/\(0<=mn/\mn<20/\mn<=mx/\mx<mn+per)/\(0<=w/\w<3) /\
  (∃ nm a c d,Q1 G.Se y=some [D.str nm,Q4 a,Q4 c,Q4 d,Q4 i])/\(∃ nm a c d,Q1 G.Se x'=some [D.str nm,Q4 a,Q4 c,Q4 d,Q4 i])/\0<=i
def Qgf (per:Int) (Ls:LL) (row:List D):Prop:=∃ o:Int,row=[Q4 0,Q4 0,Q4 1,Q4 0,Q4 o]/\0<=o/\o<per/\2<=Ls.length
def Qgp (N:Nat) (row:List D):Prop:=∃ f t w:Int,row=[Q4 f,Q4 t,Q4 w]/\(0<=f/\f<N)/\(0<=t/\t<N)/\f≠t/\1<=w/\w<=9
def Q0i (Sk:LL):Prop:=∃ a b c d:Int,Sk=[[D.str (bs [88]),Q4 a,Q4 b,Q4 c,Q4 d]]/\StkN a b c d
structure PlanR (G:Geo) (per:Int) (Sk Ro Ls Ch Tu Sy De:LL):Prop where
 ok:G.OK
 p0:90<=per
 p1:per<=300
 sk:Q0i Sk
 good:GoodP G Ro Ls
 l0:1<=Ls.length
 l1:Ls.length<=3
 rl:Ro.length<=6
 ch:∀ row∈Ch,Q53 G per Ro Ls row
 chl:Ch.length<=2
 tu:∃ T:List Tup,Tu=T.map tuR/\(∀ t∈T,Q8J G Ro Ls t)/\(T.map (·.1)).Nodup/\(T.map (·.2.1)).Nodup/\T.length<=20
 sy:∀ row∈Sy,Qgf per Ls row
 syl:Sy.length<=1
 de:∀ row∈De,Qgp G.N row
 del:De.length<=2
theorem QhH {pl:LL} (hp:pl=[[D.int .i64 (150:Int)],[D.int .i64 (120:Int)],[D.int .i64 (180:Int)],[D.int .i64 (240:Int)],[D.int .i64 (300:Int)],[D.int .i64 (90:Int)]]) {v:Int} (a:0<=v) (b:v<6) :
  ∃ per:Int,90<=per/\per<=300/\∀ {R:Type} (K:Int->oP R),gb true (inB (List.length pl) v) () (fun _=>gb true (pl[(Int.toNat v)]?) [] fun r=>gb true (r[0]?) oF fun c=>gb true (pIw c) 0 fun i=>K i)=K per:=by
 subst hp;obtain rfl | rfl | rfl | rfl | rfl | rfl:v=0\/v=1\/v=2\/v=3\/v=4\/v=5:=by omega
 ·exact ⟨150,by omega,by omega,fun K=>rfl⟩
 ·exact ⟨120,by omega,by omega,fun K=>rfl⟩
 ·exact ⟨180,by omega,by omega,fun K=>rfl⟩
 ·exact ⟨240,by omega,by omega,fun K=>rfl⟩
 ·exact ⟨300,by omega,by omega,fun K=>rfl⟩
 ·exact ⟨90,by omega,by omega,fun K=>rfl⟩
theorem Dc {G:Geo} {Ro Ls:LL} (hg:GoodP G Ro Ls) {k:Nat} (hk:k<Ls.length):∃ (w:Int) (rides:LL),Ls[k]? = some [D.str (nmN k),Q4 0,Q4 w,D.sl 4 rides]/\(rides.length=1\/rides.length=2)/\∀ i,i<rides.length->∃ r x y b,T4 Ls k i r/\TH G Ro r x y b:=by
 obtain ⟨w,rides,c,h2,d,a⟩:=hg.ls k _ (QiQ hk);have he:Ls[k]? = some [D.str (nmN k),Q4 0,Q4 w,D.sl 4 rides]:=by simp_all
 refine ⟨w,rides,he,?_⟩;rcases a with ⟨r,x,y,rfl,h⟩ | ⟨r,r',x,y,z,rfl,h,h'⟩
 ·refine ⟨.inl rfl,fun i hi=>?_⟩;have hi:i=0:=by simp_all
  subst hi;exact ⟨r,x,y,true,⟨_,_,_,he,rfl⟩,h⟩
 ·refine ⟨.inr rfl,fun i hi=>?_⟩;obtain rfl | rfl:i=0\/i=1:=by grind
  ·exact ⟨r,x,y,false,⟨_,_,_,he,rfl⟩,h⟩
  ·exact ⟨r',y,z,true,⟨_,_,_,he,rfl⟩,h'⟩
section
variable {R:Type} {l:List Int} (hl:l.length<=9223372036854775807) {P:R->Prop} {G:Geo} (hG:G.OK)
include hl hG
theorem Q2k {k0:Int->Bool->Int->LL->LL->oP R}:∀ (c m:Nat) (Ro Ls:LL) (i:Nat),c<m->Ls.length+c<=3->Ro.length<=2*Ls.length->GoodP G Ro Ls->i<=l.length ->
  (∀ (Ro' Ls':LL) (j:Nat),GoodP G Ro' Ls'->Ls'.length=Ls.length+c->Ro'.length<=2*Ls'.length->j<=l.length->k0 0 false (j:Int) Ro' Ls'∈P) ->
  JT 400 (encI l) G.Tr G.Bt k0 m (c:Int) (i:Int) Ro Ls∈P
 |0,m+1,Ro,Ls,i,_,_,hR,hg,hi,H=>by
  rw [JT];rw [Q9 (by simp),show decide (((0:Nat):Int)>0)=false by simp];exact H Ro Ls i hg rfl hR hi
 |c+1,m+1,Ro,Ls,i,hm,hL,hR,hg,hi,H=>by
  have hN:=hG.hN;have hb:=hG.btl;rw [JT];rw [QY (by simp)];refine Vq hl hi (by decide) (by decide) fun v j a b hj=>?_
  dsimp only;refine Vq hl hj (by omega) (by omega) fun d j g0 g1 hj=>?_
  dsimp only;obtain ⟨nv,rfl⟩:=QiY g0;rw [Q7 (x:=1+(nv:Int)) (by omega) (by omega),show (1:Int)+(nv:Int)=((1+nv:Nat):Int) by omega];refine okB (Qg5 hl hG (by omega) (by omega) hg (by omega) (by omega) hj fun Ro' Ls' j an au ar hj=>okI ?_);dsimp only;rw [show wJ (((c+1:Nat):Int)-1)=(c:Int) by rw [Q7 (by omega) (by omega)];omega];exact Q2k c m Ro' Ls' j (by omega) (by omega) (by omega) an hj fun Ro'' Ls'' j ac aq aj hj=>H Ro'' Ls'' j ac (by omega) aj hj
omit hG in
theorem ME {per:Int} {Ro Ls k n:LL} (d:90<=per) (e:per<=300) (hg:GoodP G Ro Ls) (hL:Ls.length<=3) {k0:Int->Bool->Int->LL->oP R}:∀ (c m:Nat) (Ch:LL) (i:Nat),c<m->Ch.length+c<=2->(∀ row∈Ch,Q53 G per Ro Ls row)->i<=l.length ->
  (∀ (h:Int) (b:Bool) (Ch:LL) (j:Nat),(∀ row∈Ch,Q53 G per Ro Ls row)->Ch.length<=2->j<=l.length->k0 h b (j:Int) Ch∈P) ->
  VT 400 per (encI l) k Ro Ls G.Se n k0 m (c:Int) (i:Int) Ch∈P
 |0,m+1,Ch,i,_,az,hC,hi,H=>by
  grind [VT]
 |c+1,m+1,Ch,i,hm,az,hC,hi,H=>by
  rw [VT];rw [show decide (((c+1:Nat):Int)>0)=true by simp,QiT];by_cases o:Ls.length<=1
  ·rw [show decide (((Ls.length:Nat):Int)>1)=false by simp;omega,QiP];exact H _ _ Ch i hC (by omega) hi
  rw [show decide (((Ls.length:Nat):Int)>1)=true by simp;omega,QiT];refine Vq hl hi (by omega) (by omega) fun v j p o hj=>?_
  refine Vq hl hj (by decide) (by decide) fun w j w0 w1 hj=>?_
  dsimp only;obtain ⟨f,rfl⟩:=QiY p;have hf:f<Ls.length:=by omega
  obtain ⟨t,et,ht,a3⟩:∃ t:Nat,Int.tmod (wJ ((f:Int)+1)) ((Ls.length:Nat):Int)=(t:Int)/\t<Ls.length/\f≠t:=by
   rw [Q7 (by omega) (by omega),Qj2 (by omega)];refine ⟨(f+1) % Ls.length,by simp,Nat.mod_lt _ (by omega),?_⟩;by_cases h:f+1<Ls.length
   ·rw [Nat.mod_eq_of_lt h];omega
   ·rw [show f+1=Ls.length by omega,Nat.mod_self];omega
  rw [et];obtain ⟨z,rides,e1,e2,q⟩:=Dc hg hf;obtain ⟨bc,au,a4,a6,aw⟩:=Dc hg ht;rw [EC (by omega),Q0,Y0 (by omega) (by omega),Q0,Int.toNat_natCast,e1,Q0];dsimp only [List.getElem?_cons_zero,List.getElem?_cons_succ];rw [Q0,QH,Q0];refine Vq hl hj (by omega) (by omega) fun fr j a0 a1 hj=>?_
  dsimp only;rw [Y0 (by omega) (by omega),Q0,Int.toNat_natCast,a4,Q0];dsimp only [List.getElem?_cons_zero,List.getElem?_cons_succ];rw [Q0,QH,Q0];refine Vq hl hj (by omega) (by omega) fun tr j b0 b1 hj=>?_
  refine Vq hl hj (by decide) (by decide) fun mn j c0 c1 hj=>?_
  dsimp only;refine Vq hl hj (by omega) (by omega) fun mx j d0 d1 hj=>?_
  dsimp only;obtain ⟨fr,rfl⟩:=QiY a0;obtain ⟨tr,rfl⟩:=QiY b0;obtain ⟨r,x,y,b,hr,hR⟩:=q fr (by omega);obtain ⟨r',x',y',b',aj,ak⟩:=aw tr (by omega);have an:=hR;have ac:=ak;obtain ⟨_,_,_,_,_,_,_,hS,_⟩:=hR;obtain ⟨_,_,_,_,_,_,_,ay,_⟩:=ak;obtain ⟨aa,a1,c1,d1,g,g1,s⟩:=hS.sy;obtain ⟨ab,a2,c2,d2,u,a,g4⟩:=ay.sx;rw [QdF hr an,Q0,(KJ g1).1,Q0,(KJ g1).2,Q0];dsimp only [List.getElem?_cons_zero,List.getElem?_cons_succ];rw [Q0,Q2,Q0,QaX aj ac,Q0,(KJ a).1,Q0,(KJ a).2,Q0];dsimp only [List.getElem?_cons_zero,List.getElem?_cons_succ];rw [Q0,Q2,Q0];have ax:wJ (((c+1:Nat):Int)-1)=(c:Int):=by rw [Q7 (by omega) (by omega)];omega
  rw [ax];by_cases aq:g=u
  ·subst aq;rw [QY (by simp),XF (by simp;omega),Q0,Q7 (x:=mn+mx) (by omega) (by omega)];refine ME d e hg hL c m _ j (by omega) (by simp;omega) (fun row ao=>?_) hj H;rcases Qj0.1 ao with h | h
   ·exact hC row h
   ·rw [List.mem_singleton.1 h];exact ⟨f,fr,t,tr,mn,mn+mx,w,r,r',x,y,x',y',b,b',g,rfl,hr,aj,an,ac,a3,⟨by omega,by omega,by omega,by omega⟩,⟨w0,w1⟩,⟨_,_,_,_,g1⟩,⟨_,_,_,_,a⟩,s⟩
  ·rw [Q9 (by simpa using aq)];exact ME d e hg hL c m _ j (by omega) (by omega) hC hj H
omit hl hG in
theorem QhM {N:Nat} (hN:N=2\/N=3) {f v:Int} (a:0<=f) (b:f<N) (g0:0<=v) (g1:v<N-1):∃ t:Int,Int.tmod (wJ ((wJ (f+1))+v)) ((N:Nat):Int)=t/\(0<=t/\t<N)/\f≠t:=by
 rw [Q7 (x:=f+1) (by omega) (by omega),Q7 (by omega) (by omega),Qj2 (by omega)]
 grind
theorem Q11 {k0:Int->Bool->Int->LL->oP R}:∀ (c m:Nat) (De:LL) (i:Nat),c<m->De.length+c<=2->(∀ row∈De,Qgp G.N row)->i<=l.length ->
  (∀ (h:Int) (b:Bool) (De:LL) (j:Nat),(∀ row∈De,Qgp G.N row)->De.length<=2->j<=l.length->k0 h b (j:Int) De∈P) ->
  V6 400 (encI l) G.St k0 m (c:Int) (i:Int) De∈P
 |0,m+1,De,i,_,ak,hD,hi,H=>by
  rw [V6];rw [show decide (((0:Nat):Int)>0)=false by simp,QiP];exact H _ _ De i hD (by omega) hi
 |c+1,m+1,De,i,hm,ak,hD,hi,H=>by
  have hN:=hG.hN;rw [V6];rw [show decide (((c+1:Nat):Int)>0)=true by simp,QiT,hG.st,Q7 (x:=((G.N:Nat):Int)-1) (by omega) (by omega)];refine Vq hl hi (by omega) (by omega) fun f j a d hj=>?_
  dsimp only;refine Vq hl hj (by omega) (by omega) fun v j g0 g1 hj=>?_
  dsimp only;rw [EC (by omega),Q0];refine Vq hl hj (by decide) (by decide) fun w j w0 w1 hj=>?_
  dsimp only;obtain ⟨t,et,ht,an⟩:=QhM hN a d g0 g1;rw [XF (by simp;omega),Q0,et,Q7 (x:=1+w) (by omega) (by omega),show wJ (((c+1:Nat):Int)-1)=(c:Int) by rw [Q7 (by omega) (by omega)];omega];refine Q11 c m _ j (by omega) (by simp;omega) (fun row ac=>?_) hj H;rcases Qj0.1 ac with h | h
  ·exact hD row h
  ·rw [List.mem_singleton.1 h];exact ⟨f,t,1+w,rfl,⟨a,d⟩,ht,an,by omega,by omega⟩
omit hl hG in
theorem Qdg {n:Nat} {l s:LL} {k0:Int->Bool->Int->LL->oP R}:∀ (m:Nat) (a:Int) (c:Int) (d:LL),KQ n l s k0 m a c d=V6 n l s k0 m a c d
 |0,_,_,_=>rfl
 |m+1,a,c,d=>by
  rw [KQ,V6];simp only [Qdg m]
end
theorem Q5c {v:Int} (h:0<=v):∃ n:Nat,v=(n:Int):=QiY h
theorem Qgq {R:Type} {l:List Int} (hl:l.length<=9223372036854775807) {P:R->Prop} {K:LL->LL->LL->LL->Int->LL->LL->LL->LL->LL->LL->LL->oP R}
  (H:∀ (G:Geo) (per:Int) (Sk Ro Ls Ch Tu Sy De:LL),PlanR G per Sk Ro Ls Ch Tu Sy De->K G.St G.Pt G.Se G.Li per Sk Ro Ls Ch Tu Sy De∈P):PQ 400 (encI l) K∈P:=by
 unfold PQ BN;rw [Q0];dsimp only;refine okB (Qhp (i:=0) hl (Nat.zero_le _) fun G j hG hj=>okI ?_);dsimp only;refine Vq hl hj (by decide) (by decide) fun v j f g hj=>?_
 dsimp only;obtain ⟨per,p0,p1,e⟩:=QhH rfl f g;rw [e];refine Vq hl hj (by decide) (by decide) fun a j a0 a1 hj=>?_
 refine Vq hl hj (by decide) (by decide) fun b j b0 b1 hj=>?_
 refine Vq hl hj (by decide) (by decide) fun c j c0 c1 hj=>?_
 refine Vq hl hj (by decide) (by decide) fun d j d0 d1 hj=>?_
 refine Vq hl hj (by decide) (by decide) fun k j k0 k1 hj=>?_
 dsimp only;obtain ⟨k,rfl⟩:=Q5c k0;rw [Q7 (x:=1+(k:Int)) (by omega) (by omega),show (1:Int)+(k:Int)=((k+1:Nat):Int) by omega,Q7 (x:=1+a) (by omega) (by omega),Q7 (x:=5000*b) (by omega) (by omega),Q7 (x:=10000+5000*b) (by omega) (by omega),Q7 (x:=200*c) (by omega) (by omega),Q7 (x:=400+200*c) (by omega) (by omega),Q7 (x:=200*d) (by omega) (by omega),Q7 (x:=400+200*d) (by omega) (by omega)];have ac:Q0i [[D.str (bs [88]),D.int .i64 (1+a),D.int .i64 (10000+5000*b),D.int .i64 (400+200*c),D.int .i64 (400+200*d)]]:=⟨_,_,_,_,rfl,by omega,by omega,by omega,by omega,by omega,by omega,by omega,by omega⟩;revert ac;generalize [[D.str (bs [88]),D.int .i64 (1+a),D.int .i64 (10000+5000*b),D.int .i64 (400+200*c),D.int .i64 (400+200*d)]]=Sk;intro ac;refine Q2k hl hG (k+1) 400 [] [] j (by omega) (by simp;omega) (by simp) ⟨(fun row h=>nomatch h),(fun k row h=>nomatch h)⟩ hj fun Ro Ls j hg hL hR hj=>?_
 simp at hL;refine okB (Qf0 hl hg (by omega) hj fun T j an ak ar ao hj=>okI ?_);dsimp only;refine Vq hl hj (by decide) (by decide) fun k j k0 k1 hj=>?_
 dsimp only;obtain ⟨k,rfl⟩:=Q5c k0;refine ME hl p0 p1 hg (by omega) k 400 [] j (by omega) (by simp;omega) (fun row h=>nomatch h) hj fun f b0 Ch j hC aq hj=>?_
 refine Vq hl hj (by decide) (by decide) fun v j f g hj=>?_
 dsimp only;by_cases hv:v=3/\1<Ls.length
 ·obtain ⟨rfl,h2⟩:=hv;rw [show ((3:Int) == 3)=true from rfl,show decide (((Ls.length:Nat):Int)>1)=true by simp;omega,QiT,QiT];refine Vq hl hj (by omega) (by omega) fun o j n p hj=>?_
  dsimp only;rw [XF (by simp),Q0];refine Vq hl hj (by decide) (by decide) fun k j k0 k1 hj=>?_
  dsimp only;obtain ⟨k,rfl⟩:=Q5c k0;refine Q11 hl hG k 400 [] j (by omega) (by simp;omega) (fun row h=>nomatch h) hj fun f b0 De j hD aj hj=>?_
  refine H G per Sk Ro Ls Ch _ _ De ⟨hG,p0,p1,ac,hg,by omega,by omega,by omega,hC,aq,⟨T,rfl,an,ak,ar,ao⟩,fun row h=>?_,by simp,hD,aj⟩;simp at h;exact ⟨o,h,n,p,h2⟩
 ·rw [show (bif (v == (3:Int)) then (decide (((List.length Ls:Nat):Int)>(1:Int))) else false)=false by
   by_cases m:v=3
   ·rw [show (v == (3:Int))=true by simp [m],QiT];simp;omega
   ·rw [show (v == (3:Int))=false by simpa using m,QiP]]
  rw [QiP];refine Vq hl hj (by decide) (by decide) fun k j k0 k1 hj=>?_
  dsimp only;obtain ⟨k,rfl⟩:=Q5c k0;rw [Qdg];refine Q11 hl hG k 400 [] j (by omega) (by simp;omega) (fun row h=>nomatch h) hj fun f b0 De j hD aj hj=>?_
  exact H G per Sk Ro Ls Ch _ _ De ⟨hG,p0,p1,ac,hg,by omega,by omega,by omega,hC,aq,⟨T,rfl,an,ak,ar,ao⟩,(fun row h=>nomatch h),by simp,hD,aj⟩
end Go.Vx
namespace Go.Vx
variable {R:Type} (n:Nat)
def Zz (n:Nat) (d:LL) (c:Int) (k0:oP R) (k1:Int->Bool->oP R):Nat->Int->oP R
 | 0,_=>none
 | m+1,a=>bif decide (a<c) then gb true (Q1 d a) [] fun b=>gb true (b[0]?) oF fun g=>gb true (b[1]?) oF fun h=>gb true (b[2]?) oF fun i=>gb true (b[3]?) oF fun e=>gb true (pSl 4 e) [] fun f=>bif (decide ((f.length:Int)>12)) then k0 else Zz n d c k0 k1 m (wJ (a+1)) else k1 a (decide (a<c))
def UO (i j k l:LL) (c:Int) (d e b f g h m:LL) (K:Int->oP R):oP R:= gb true (Zo n i j k l some) 0 fun o=>bif (o != 0) then K 1 else jn (fun (p:Bool)=>bif p then K 7 else Zz n b (b.length:Int) (K 7) (fun q r=>bif (bif decide (c<2) then true else (decide (c>7200))) then K 4 else K 0) n 0) fun a=>bif (decide ((d.length:Int)>8)) then a (decide ((d.length:Int)>8)) else bif (decide ((e.length:Int)>48)) then a (decide ((e.length:Int)>48)) else bif (decide ((b.length:Int)>16)) then a (decide ((b.length:Int)>16)) else bif (decide ((f.length:Int)>32)) then a (decide ((f.length:Int)>32)) else bif (decide ((g.length:Int)>32)) then a (decide ((g.length:Int)>32)) else bif (decide ((h.length:Int)>32)) then a (decide ((h.length:Int)>32)) else a (decide ((m.length:Int)>32))
def YW (b:LL) (h2:Int) (c d e f:LL) (k0:Int->oP R) (k1:Int->Bool->oP R):Nat->Int->oP R
 | 0,_=>none
 | m+1,a=>bif decide (a<h2) then gb true (Q1 b a) [] fun g=>gb true (g[0]?) oF fun i=>gb true (g[1]?) oF fun j=>gb true (pSl 2 i) [] fun k=>gb true (pIw j) 0 fun l=>gb true (Tv n c d e f k l some) 0 fun h=>bif (h != 0) then k0 h else YW b h2 c d e f k0 k1 m (wJ (a+1)) else k1 a (decide (a<h2))
def U0 (b c d e:LL) (g:Int) (h a i j k l m:LL) (K:Int->oP R):oP R:= YW n a (a.length:Int) b c d e (fun f=>K f) (fun o p=>K 0) n 0
def Jy (ac ad ae ag:LL) (d:Int) (g b k l m o p:LL) (bt:List UInt8) (ah bu:Int) (e:LL) (a:Int) (K:Int->oP R):oP R:= gb true (Q1 e a) [] fun h=>gb true (h[0]?) oF fun i=>gb true (h[1]?) oF fun q=>gb true (h[2]?) oF fun r=>gb true (h[3]?) oF fun s=>jn (fun (ai:Bool)=>bif ai then K 4 else gb true (pIw i) 0 fun aj=>gb true (Q1 b aj) [] fun t=>gb true (t[0]?) oF fun ak=>gb true (t[1]?) oF fun al=>gb true (Q1 g ah) [] fun f=>gb true (f[0]?) oF fun am=>gb true (f[1]?) oF fun an=>gb true (f[2]?) oF fun ao=>gb true (f[3]?) oF fun ap=>gb true (f[4]?) oF fun aq=>gb true (pSl 2 ak) [] fun ar=>gb true (pIw al) 0 fun au=>gb true (RD am) [] fun av=>gb true (pIw an) 0 fun aw=>gb true (pIw ao) 0 fun ax=>gb true (pIw ap) 0 fun ay=>gb true (pIw aq) 0 fun az=>gb true (G7 n ac ad ae ag ar au av aw ax ay az some) 0 fun u=>bif (u != 0) then K u else gb (decide (a>0)) (pIw i) 0 fun ba=>gb (decide (a>0)) (pIw q) 0 fun bb=>gb (decide (a>0)) (pIw r) 0 fun bc=>gb (decide (a>0)) (pIw s) 0 fun bd=>gb (decide (a>0)) (T2 n d g b k l m o p ba bb bc bd some) 0 fun be=>gb (decide (a>0)) (Q1 e (wJ (a-1))) [] fun j=>gb (decide (a>0)) (j[0]?) oF fun bg=>gb (decide (a>0)) (j[1]?) oF fun bh=>gb (decide (a>0)) (j[2]?) oF fun bi=>gb (decide (a>0)) (j[3]?) oF fun bj=>gb (decide (a>0)) (pIw bg) 0 fun bk=>gb (decide (a>0)) (pIw bh) 0 fun bl=>gb (decide (a>0)) (pIw bi) 0 fun bm=>gb (decide (a>0)) (pIw bj) 0 fun bn=>gb (decide (a>0)) (PM n d g b k l m o p bk bl bm bn some) 0 fun bo=>bif (bif decide (a>0) then (be != bo) else false) then K 11 else K 0) fun c=>gb true (pIw i) 0 fun v=>bif decide (v<0) then c (decide (v<0)) else gb true (pIw i) 0 fun x=>bif (decide (x>=(b.length:Int))) then c (decide (x>=(b.length:Int))) else gb true (pIw q) 0 fun y=>bif decide (y<0) then c (decide (y<0)) else gb true (pIw q) 0 fun z=>bif decide (z>=d) then c (decide (z>=d)) else gb true (pIw r) 0 fun bp=>gb true (pIw s) 0 fun bq=>gb true (Ka n d g b k l m o p bp bq some) false fun aa=>bif !aa then c (!aa) else gb (a == (wJ ((e.length:Int)-1))) (pIw r) 0 fun ab=>gb ((a == (wJ ((e.length:Int)-1)))&&(!(ab != 0))) (pIw s) 0 fun br=>c (bif (a == (wJ ((e.length:Int)-1))) then (bif (ab != 0) then true else (br != 0)) else false)
def Zy (b:Int) (c d e f:LL) (g:Int) (h i j k l o p:LL) (q:List UInt8) (r s:Int) (t:LL) (k0:Int->oP R) (k1:Int->Bool->oP R):Nat->Int->oP R
 | 0,_=>none
 | m+1,a=>bif decide (a<b) then gb true (Jy n c d e f g h i j k l o p q r s t a some) 0 fun u=>bif (u != 0) then k0 u else Zy b c d e f g h i j k l o p q r s t k0 k1 m (wJ (a+1)) else k1 a (decide (a<b))
def Zx (h:LL) (h2:Int) (i j k l:LL) (o:Int) (c p d q r s t:LL) (k0:Int->oP R) (k1:Int->Bool->oP R):Nat->Int->oP R
 | 0,_=>none
 | m+1,a=>bif decide (a<h2) then gb true (Q1 h a) [] fun e=>gb true (e[0]?) oF fun u=>gb true (e[1]?) oF fun y=>gb true (e[2]?) oF fun z=>gb true (e[3]?) oF fun aa=>gb true (RD u) [] fun ab=>gb true (Kp n ab some) false fun ac=>bif !ac then k0 3 else gb true (slB (d.length) none (some a)) (0,0) fun ad=>gb true (RD u) [] fun v=>gb true (pIw y) 0 fun b=>gb true (pIw z) 0 fun x=>gb true (pSl 4 aa) [] fun f=>gb true (Qo n (cut d ad) v some) false fun ae=>bif ae then k0 5 else jn (fun (ag:Bool)=>bif ag then k0 4 else bif ((f.length:Int) == 0) then k0 1 else Zy n (f.length:Int) i j k l o c p d q r s t v b x f (fun ah=>k0 ah) (fun aj ak=>Zx h h2 i j k l o c p d q r s t k0 k1 m (wJ (a+1))) n 0) fun g=>bif decide (b<0) then g (decide (b<0)) else bif (decide (b>=(c.length:Int))) then g (decide (b>=(c.length:Int))) else gb true (T9 n x some) false fun ai=>g (!ai) else k1 a (decide (a<h2))
def V1 (b c d e:LL) (f:Int) (g h a i j k l:LL) (K:Int->oP R):oP R:= Zx n a (a.length:Int) b c d e f g h a i j k l (fun m=>K m) (fun o p=>K 0) n 0
def Q8C (a b c d:LL) (e:Int) (f g h i j k l:LL):Bool:= Q7e (UO n a b c d e f g h i j k l some)&&Q7e (U2 n a b c d e f g h i j k l some)&&Q7e (U0 n a b c d e f g h i j k l some)&&Q7e (V1 n a b c d e f g h i j k l some)&&Q7e (Wn n a b c d e f g h i j k l some)&&Q7e (V0 n a b c d e f g h i j k l some)&&Q7e (US n a b c d e f g h i j k l some)&&Q7e (Wg n a b c d e f g h i j k l some)
def J9 (a b c d:LL) (e:Int) (f g h i j k l:LL) (K:Int->oP R):oP R:=bif Q8C n a b c d e f g h i j k l then K 0 else none
end Go.Vx
namespace Go.Vx
theorem Qs {h:Nat} (hh:h<=1000):wJ ((h:Int)+1)=((h+1:Nat):Int):=by rw [Q7 (by omega) (by omega)];omega
theorem Qc {h k:Nat} (hh:h<k):decide ((h:Int)<((k:Nat):Int))=true:=by simpa using hh
theorem Qi (k:Nat):decide (((k:Nat):Int)<((k:Nat):Int))=false:=by simp
section
variable {R:Type} {St Pt Se Li Sk Ro Ls Ch Tu Sy De:LL} {per:Int} {n:Nat}
theorem Q3Z {mn mx:Int} (a:0<=mn) (b:mn<=mx) (h2:mx<mn+per) (c:mn<=1000) (p1:per<=300) (K:Bool->oP R):Ka n per Sk Ro Ls Ch Tu Sy De mn mx K=K true:=by
 unfold Ka;rw [show decide ((0:Int)<=mn)=true by simpa using a,show decide (mn<=mx)=true by simpa using b,show decide (mx<=(7200:Int))=true by simp;omega,Q7 (by omega) (by omega),show decide (mx<mn+per)=true by simpa using h2];rfl
theorem Q1D {k:Nat} (h:k<Ls.length) (K:Bool->oP R):JS n per Sk Ro Ls Ch Tu Sy De (k:Int) K=K true:=by
 unfold JS;rw [show decide ((k:Int)>=0)=true by simp,Qc h];rfl
theorem Cb {k i:Nat} {r:List D} (h:T4 Ls k i r) (K:Bool->oP R):Ub n per Sk Ro Ls Ch Tu Sy De (k:Int) (i:Int) K=K true:=by
 obtain ⟨nm,w,rides,a,h2⟩:=h;unfold Ub;rw [Q1D (QiU.1 a).1,Q0,show decide ((i:Int)>=0)=true by simp,Qe,a];simp -implicitDefEqProofs only [Q0,List.getElem?_cons_zero,List.getElem?_cons_succ,Q2,Xx,QH,QiT,QiP,QiS,QiR,Qc (QiU.1 h2).1]
theorem Q7v {w:Int} (a:0<=w) (b:w<=1000) (K:Bool->oP R):T9 n w K=K true:=by
 unfold T9;rw [show decide (w>=0)=true by simpa using a,show decide (w<=(1048576:Int))=true by simp;omega];rfl
theorem Q49 {G:Geo} {rt:Nat} {ex mn mx x y:Int} {s:LL} (a:Ro[rt]? = some [D.sl 2 s,Q4 0]) (b:RtOK G s x y) (K:Int->oP R):T2 n per Sk Ro Ls Ch Tu Sy De (rt:Int) ex mn mx K=K x:=by
 obtain ⟨d,c⟩:=b.fst;unfold T2;simp -implicitDefEqProofs only [Q0,List.getElem?_cons_zero,List.getElem?_cons_succ,Q2,Xx,QH,QiT,QiP,QiS,QiR,Qe,a,c]
theorem Q8R {G:Geo} {rt:Nat} {ex mn mx x y:Int} {s:LL} (b:Ro[rt]? = some [D.sl 2 s,Q4 0]) (a:RtOK G s x y) (K:Int->oP R):PM n per Sk Ro Ls Ch Tu Sy De (rt:Int) ex mn mx K=K y:=by
 obtain ⟨d,c⟩:=a.lst;have l2:=a.l2;have l24:=a.l24;unfold PM;simp -implicitDefEqProofs only [Q0,List.getElem?_cons_zero,List.getElem?_cons_succ,Q2,Xx,QH,QiT,QiP,QiS,QiR,Qe,b];rw [Q7 (x:=((s.length:Nat):Int)-0) (by omega) (by omega),Q7 (by omega) (by omega),Int.sub_zero,c];rfl
theorem Qcu (hs:Q0i Sk) (K:Int->oP R):U2 400 St Pt Se Li per Sk Ro Ls Ch Tu Sy De K=K 0:=by
 obtain ⟨a,b,c,d,rfl,hk⟩:=hs;have h:U2 400 St Pt Se Li per [[D.str (bs [88]),Q4 a,Q4 b,Q4 c,Q4 d]] Ro Ls Ch Tu Sy De K=gb true (Us 400 (bs [88]) a b c d some) false (fun r=>bif !r then K 4 else K 0):=by kernel_rfl
 rw [h,B5 hk];rfl
end
section
variable {R:Type} {G:Geo} {Sk Ro Ls Ch Tu Sy De:LL} {per:Int} (h:PlanR G per Sk Ro Ls Ch Tu Sy De)
include h
theorem Q5z {k:Nat} (hk:k<Ls.length):∃ r,T4 Ls k 0 r:=by
 obtain ⟨w,rides,e,hr,a⟩:=Dc h.good hk;obtain ⟨r,_,_,_,b,_⟩:=a 0 (by omega);exact ⟨r,b⟩
theorem QeH (K:Int->oP R):UO 400 G.St G.Pt G.Se G.Li per Sk Ro Ls Ch Tu Sy De K=K 0:=by
 have hc:Zo 400 G.St G.Pt G.Se G.Li (some:Int->Option Int)=some 0:=by unfold Zo;rw [h.ok.lay];rfl
 obtain ⟨_,_,_,_,aj,_⟩:=h.sk;obtain ⟨T,hT,_,_,_,ak⟩:=h.tu;have l1:=h.l1;have l2:=h.rl;have a:=h.chl;have c:=h.syl;have d:=h.del;have p0:=h.p0;have p1:=h.p1;have lk:Sk.length=1:=by rw [aj];rfl
 have lt:Tu.length<=20:=by rw [hT];simpa using ak
 have ac:∀ {k:Nat} {b:Int},(k:Int)<=b->decide ((k:Int)>b)=false:=fun h=>by simpa using h
 unfold UO;rw [hc,Q0,Q9 (by rfl)];simp -implicitDefEqProofs only [jn,ac (show ((Sk.length:Nat):Int)<=8 by omega),ac (show ((Ro.length:Nat):Int)<=48 by omega),ac (show ((Ls.length:Nat):Int)<=16 by omega),ac (show ((Ch.length:Nat):Int)<=32 by omega),ac (show ((Tu.length:Nat):Int)<=32 by omega),ac (show ((Sy.length:Nat):Int)<=32 by omega),ac (show ((De.length:Nat):Int)<=32 by omega),QiP];refine Qv (r:=fun m h=>Zz 400 Ls ((Ls.length:Nat):Int) _ _ m h) (N:=Ls.length) (fun m k hk=>?_) (fun m=>?_) Ls.length 400 0 (by omega) (by omega)
 ·obtain ⟨w,rides,e,hr,_⟩:=Dc h.good hk;rw [Zz,Qc hk,Qe,e];simp -implicitDefEqProofs only [Q0,List.getElem?_cons_zero,List.getElem?_cons_succ,Q2,Xx,QH,QiT,QiP,QiS,QiR,ac (show ((rides.length:Nat):Int)<=12 by omega),Qs (show k<=1000 by omega)]
 ·rw [Zz,Qi,QiP,show decide (per<2)=false by simp;omega,show decide (per>7200)=false by simp;omega];rfl
theorem Qbt (K:Int->oP R):U0 400 G.St G.Pt G.Se G.Li per Sk Ro Ls Ch Tu Sy De K=K 0:=by
 have l2:=h.rl;unfold U0;refine Qv (r:=fun m h=>YW 400 Ro ((Ro.length:Nat):Int) G.St G.Pt G.Se G.Li _ _ m h) (N:=Ro.length) (fun m k hk=>?_) (fun m=>?_) Ro.length 400 0 (by omega) (by omega)
 ·obtain ⟨s,x,y,e,hs⟩:=h.good.ro _ (QiW hk);rw [YW,Qc hk,Qe,QiQ hk,e];simp -implicitDefEqProofs only [Q0,List.getElem?_cons_zero,List.getElem?_cons_succ,Q2,Xx,QH,QiT,QiP,QiS,QiR,Q5a h.ok.lay rfl hs.l2 hs.l24 hs.rt,Qs (show k<=1000 by omega)];rfl
 ·rw [YW,Qi,QiP]
theorem Q9Y (K:Int->oP R):Wg 400 G.St G.Pt G.Se G.Li per Sk Ro Ls Ch Tu Sy De K=K 0:=by
 have l2:=h.del;have hN:=h.ok.hN;unfold Wg;refine Qv (r:=fun m h=>YJ 400 De ((De.length:Nat):Int) G.St _ _ m h) (N:=De.length) (fun m k hk=>?_) (fun m=>?_) De.length 400 0 (by omega) (by omega)
 ·obtain ⟨f,t,w,e,⟨a,b⟩,⟨c,t1⟩,ac,w0,w1⟩:=h.de _ (QiW hk);rw [YJ,Qc hk,Qe,QiQ hk,e];simp -implicitDefEqProofs only [Q0,List.getElem?_cons_zero,List.getElem?_cons_succ,Q2,Xx,QH,QiT,QiP,QiS,QiR,h.ok.st,show decide (f<0)=false by simpa using a,show decide (f>=((G.N:Nat):Int))=false by simpa using b,show decide (t<0)=false by simpa using c,show decide (t>=((G.N:Nat):Int))=false by simpa using t1,show (f == t)=false by simpa using ac,show decide (w<1)=false by simp;omega,show decide (w>1048576)=false by simp;omega,Qs (show k<=1000 by omega)]
 ·rw [YJ,Qi,QiP]
theorem QeD (K:Int->oP R):US 400 G.St G.Pt G.Se G.Li per Sk Ro Ls Ch Tu Sy De K=K 0:=by
 have l2:=h.syl;have l0:=h.l0;unfold US;refine Qv (r:=fun m h=>Zs 400 Sy ((Sy.length:Nat):Int) per Sk Ro Ls Ch Tu Sy De _ _ m h) (N:=Sy.length) (fun m k hk=>?_) (fun m=>?_) Sy.length 400 0 (by omega) (by omega)
 ·obtain ⟨o,e,a,b,h2⟩:=h.sy _ (QiW hk);obtain ⟨r,hr⟩:=Q5z h (k:=0) (by omega);obtain ⟨r',ac⟩:=Q5z h (k:=1) (by omega);have e1:=Cb (R:=Bool) (per:=per) (Sk:=Sk) (Ro:=Ro) (Ch:=Ch) (Tu:=Tu) (Sy:=Sy) (De:=De) (n:=400) hr some;have e2:=Cb (R:=Bool) (per:=per) (Sk:=Sk) (Ro:=Ro) (Ch:=Ch) (Tu:=Tu) (Sy:=Sy) (De:=De) (n:=400) ac some;rw [Zs,Qc hk,Qe,QiQ hk,e];simp -implicitDefEqProofs only [Q0,List.getElem?_cons_zero,List.getElem?_cons_succ,Q2,Xx,QH,QiT,QiP,QiS,QiR,show Ub 400 per Sk Ro Ls Ch Tu Sy De 0 0 (some:Bool->Option Bool)=some true from e1,show Ub 400 per Sk Ro Ls Ch Tu Sy De 1 0 (some:Bool->Option Bool)=some true from e2,show ((0:Int) == 1)=false from rfl,show decide (o<0)=false by simp;omega,show decide (o>=per)=false by simp;omega,Qs (show k<=1000 by omega)]
 ·rw [Zs,Qi,QiP]
end
theorem Q1c {n h:Nat} (hh:h<=n):slB n none (some (h:Int))=some (0,h):=by
 unfold slB;rw [show (decide ((0:Int)<=(none:Option Int).getD 0)&&(decide ((none:Option Int).getD 0<=(some (h:Int)).getD (n:Int))&&decide ((some (h:Int)).getD (n:Int)<=(n:Int))))=true by simp;omega];rfl
theorem L4 {α:Type} {l:List α} {h:Nat}:cut l (0,h)=l.take h:=by simp [cut]
theorem Qeh {i j:Nat} (hi:i<8) (hj:j<8) (h:i≠j):(nmN i == nmN j)=false:=by
 have:∀ i j:Fin 8,i≠j->(nmN i.val == nmN j.val)=false:=by decide
 exact this ⟨i,hi⟩ ⟨j,hj⟩ (by intro e;exact h (by simpa using e))
theorem Qg7 {i:Nat} (hi:i<8):Kp 400 (nmN i) (some:Bool->Option Bool)=some true:=by
 obtain rfl | rfl | rfl | rfl | rfl | rfl | rfl | rfl:i=0\/i=1\/i=2\/i=3\/i=4\/i=5\/i=6\/i=7:=by omega
 all_goals kernel_rfl
section
variable {Sk Ch Tu Sy De:LL} {per:Int}
theorem Q2l {G:Geo} {Ro Ls:LL} {c:Nat} (hg:GoodP G Ro Ls) (hc:c<8) (hl:c<Ls.length):Qo 400 (cut Ls (0,c)) (nmN c) some=some false:=by
 have aj:(cut Ls (0,c)).length=c:=by rw [L4];simp;omega
 unfold Qo QT;rw [aj];refine (congrArg (fun E=>gb true E 0 fun a=>some (decide (a>=(0:Int)))) (a₂:=some (-1)) (Qv (r:=fun m h=>Qa 400 (cut Ls (0,c)) ((c:Nat):Int) (nmN c) _ _ m h) (N:=c) (fun m h hh=>?_) (fun m=>?_) c 400 0 (by omega) (by omega))).trans rfl
 ·obtain ⟨w,ac,e,_,_⟩:=Dc hg (show h<Ls.length by omega);have e':(cut Ls (0,c))[h]? = some [D.str (nmN h),Q4 0,Q4 w,D.sl 4 ac]:=by rw [L4,List.getElem?_take_of_lt hh,e]
  rw [Qa,Qc hh,Qe,e'];simp -implicitDefEqProofs only [Q0,List.getElem?_cons_zero,List.getElem?_cons_succ,Q2,Xx,QH,QiT,QiP,QiS,QiR,ZK,Qeh (show h<8 by omega) hc (by omega),Qs (show h<=1000 by omega)]
 ·rw [Qa,Qi,QiP]
theorem Q4I {G:Geo} (hG:G.OK) {Ro Ls rides:LL} {nm:List UInt8} {w:Int} {i:Nat} {r:List D} {x y:Int} {b:Bool} (p0:90<=per) (p1:per<=300) (ao:Q0i Sk) (hr:rides[i]? = some r) (hR:TH G Ro r x y b) (hb:i+1=rides.length->b=true) (hl:rides.length<=2)
  (aj:∀ j,j+1=i->∃ r' x' b',rides[j]? = some r'/\TH G Ro r' x' x b'):Jy 400 G.St G.Pt G.Se G.Li per Sk Ro Ls Ch Tu Sy De nm 0 w rides (i:Int) (some:Int->Option Int)=some 0:=by
 obtain ⟨rt,ex,mn,mx,s,rfl,ac,hs,⟨h,k⟩,⟨e,f,l,m⟩,hlast⟩:=hR;obtain ⟨a,v,c,d,rfl,hk⟩:=ao;have a3:rt<Ro.length:=(QiU.1 ac).1;have hi:i<rides.length:=(QiU.1 hr).1;have ak:(bif ((i:Int) == (wJ (((List.length rides:Nat):Int)-(1:Int)))) then (bif (mn != (0:Int)) then true else (mx != (0:Int))) else false)=false:=by
  by_cases g:i+1=rides.length
  ·obtain ⟨rfl,rfl⟩:=hlast (hb g);rw [show ((0:Int) != 0)=false from rfl];cases ((i:Int) == (wJ (((List.length rides:Nat):Int)-(1:Int)))) <;> rfl
  ·rw [Q7 (by omega) (by omega),show ((i:Int) == ((rides.length:Nat):Int)-1)=false by simp;omega];rfl
 unfold Jy;rw [Qe,hr];simp -implicitDefEqProofs only [Q0,List.getElem?_cons_zero,List.getElem?_cons_succ,Q2,Xx,QH,QiT,QiP,QiS,QiR,jn,show decide ((rt:Int)<0)=false by simp,show decide ((rt:Int)>=((Ro.length:Nat):Int))=false by simp;omega,show decide (ex<0)=false by simp;omega,show decide (ex>=per)=false by simp;omega,Q3Z e f (show mx<mn+per by omega) (by omega) p1,ak,Qe,ac,show Q1 [[D.str (bs [88]),Q4 a,Q4 v,Q4 c,Q4 d]] (0:Int)=some [D.str (bs [88]),Q4 a,Q4 v,Q4 c,Q4 d] from rfl,QcI hG.lay rfl hs.l2 hs.l24 hs.rt hs.st hk,show ((0:Int) != 0)=false from rfl];cases i with
 |zero=>
  rw [show decide (((0:Nat):Int)>0)=false from rfl];simp only [gbF,QiP]
 |succ j=>
  obtain ⟨r',x',b',au,aw⟩:=aj j rfl;obtain ⟨az,ax,ay,a4,s',rfl,an,ar,_⟩:=aw;simp -implicitDefEqProofs only [Q0,List.getElem?_cons_zero,List.getElem?_cons_succ,Q2,Xx,QH,QiT,QiP,QiS,QiR,show decide (((j+1:Nat):Int)>0)=true by simp,Q49 ac hs,show wJ (((j+1:Nat):Int)-1)=(j:Int) by rw [Q7 (by omega) (by omega)];omega,Qe,au,Q8R an ar,show (x != x)=false by simp]
theorem Qam {G:Geo} (hG:G.OK) {Ro Ls rides:LL} {nm:List UInt8} {w:Int} (p0:90<=per) (p1:per<=300) (ac:Q0i Sk) (h:Q2w G Ro rides):(rides.length=1\/rides.length=2)/\∀ i,i<rides.length->Jy 400 G.St G.Pt G.Se G.Li per Sk Ro Ls Ch Tu Sy De nm 0 w rides (i:Int) (some:Int->Option Int)=some 0:=by
 rcases h with ⟨r,x,y,rfl,h⟩ | ⟨r,r',x,y,z,rfl,h,h'⟩
 ·refine ⟨.inl rfl,fun i hi=>?_⟩;have hi:i=0:=by simpa using hi
  subst hi;exact Q4I hG p0 p1 ac rfl h (fun _=>rfl) (by simp) fun j hj=>by omega
 ·refine ⟨.inr rfl,fun i hi=>?_⟩;obtain rfl | rfl:i=0\/i=1:=by simp at hi;omega
  ·exact Q4I hG p0 p1 ac rfl h (fun h=>by simp at h) (by simp) fun j hj=>by omega
  ·refine Q4I hG p0 p1 ac rfl h' (fun _=>rfl) (by simp) fun j hj=>?_
   have hj:j=0:=by omega
   subst hj;exact ⟨r,x,false,rfl,h⟩
end
theorem Qde {R:Type} {G:Geo} {Sk Ro Ls Ch Tu Sy De:LL} {per:Int} (h:PlanR G per Sk Ro Ls Ch Tu Sy De) (K:Int->oP R):V1 400 G.St G.Pt G.Se G.Li per Sk Ro Ls Ch Tu Sy De K=K 0:=by
 have l1:=h.l1;obtain ⟨_,_,_,_,ao,_⟩:=h.sk;have ak:Sk.length=1:=by rw [ao];rfl
 unfold V1;refine Qv (r:=fun m h=>Zx 400 Ls ((Ls.length:Nat):Int) G.St G.Pt G.Se G.Li per Sk Ro Ls Ch Tu Sy De _ _ m h) (N:=Ls.length) (fun m k hk=>?_) (fun m=>?_) Ls.length 400 0 (by omega) (by omega)
 ·obtain ⟨w,rides,e,w0,w1,ac⟩:=h.good.ls k _ (QiQ hk);obtain ⟨an,aj⟩:=Qam (Ls:=Ls) (Ch:=Ch) (Tu:=Tu) (Sy:=Sy) (De:=De) (nm:=nmN k) (w:=w) h.ok h.p0 h.p1 h.sk ac;rw [Zx,Qc hk,Qe,QiQ hk,e];simp -implicitDefEqProofs only [Q0,List.getElem?_cons_zero,List.getElem?_cons_succ,Q2,Xx,QH,QiT,QiP,QiS,QiR,Qg7 (show k<8 by omega),Q1c (Nat.le_of_lt hk),Q2l h.good (show k<8 by omega) hk,jn,show decide ((0:Int)<0)=false from rfl,ak,show decide ((0:Int)>=((1:Nat):Int))=false from rfl,Q7v w0 (show w<=1000 by omega),show (((rides.length:Nat):Int) == 0)=false by simp;intro hx;simp [hx] at an];refine (Qv (r:=fun m h=>Zy 400 ((rides.length:Nat):Int) G.St G.Pt G.Se G.Li per Sk Ro Ls Ch Tu Sy De (nmN k) 0 w rides _ _ m h) (N:=rides.length) (fun m i hi=>?_) (fun m=>?_) rides.length 400 0 (by omega) (by omega))
  ·rw [Zy,Qc hi];simp -implicitDefEqProofs only [Q0,List.getElem?_cons_zero,List.getElem?_cons_succ,Q2,Xx,QH,QiT,QiP,QiS,QiR,aj i hi,show ((0:Int) != 0)=false from rfl,Qs (show i<=1000 by omega)]
  ·rw [Zy,Qi,QiP,Qs (by omega)]
 ·rw [Zx,Qi,QiP]
theorem NH {α:Type} {l:List α} (h:l.Nodup) {i:Nat} (hi:i<l.length):∀ x∈l.take i,x≠l[i]:=by
 intro x hx e;subst e;obtain ⟨j,hj,e⟩:=List.getElem_of_mem hx;simp at hj;rw [List.getElem_take] at e;have:=(List.nodup_iff_pairwise_ne.1 h);have:=List.pairwise_iff_getElem.1 this j i (by omega) hi (by omega);exact this e
theorem Q3t {a b:Int} {T:List Tup} (ht:∀ t∈T,(t.1:Int)≠a/\(t.2.1:Int)≠b) (hl:T.length<=30):Qm 400 (T.map tuR) a b some=some false:=by
 have ac:(T.map tuR).length=T.length:=by simp
 unfold Qm QU;rw [ac];refine (congrArg (fun E=>gb true E 0 fun c=>some (decide (c>=(0:Int)))) (a₂:=some (-1)) (Qv (r:=fun m h=>Qb 400 (T.map tuR) ((T.length:Nat):Int) a b _ _ m h) (N:=T.length) (fun m h hh=>?_) (fun m=>?_) T.length 400 0 (by omega) (by omega))).trans rfl
 ·have e:(T.map tuR)[h]? = some (tuR T[h]):=by rw [QiZ,QiQ hh];rfl
  obtain ⟨d,f⟩:=ht _ (QiW hh);rw [Qb,Qc hh,Qe,e];simp -implicitDefEqProofs only [Q0,List.getElem?_cons_zero,List.getElem?_cons_succ,Q2,Xx,QH,QiT,QiP,QiS,QiR,tuR,ZH,show ((T[h].1:Int) == a)=false by simpa using d,show ((T[h].2.1:Int) == b)=false by simpa using f,Qs (show h<=1000 by omega)]
 ·rw [Qb,Qi,QiP]
section
variable {R:Type} {G:Geo} {Sk Ro Ls Ch Tu Sy De:LL} {per:Int} (h:PlanR G per Sk Ro Ls Ch Tu Sy De)
include h
theorem Qaa (K:Int->oP R):Wn 400 G.St G.Pt G.Se G.Li per Sk Ro Ls Ch Tu Sy De K=K 0:=by
 have l2:=h.chl;have p1:=h.p1;unfold Wn;refine Qv (r:=fun m h=>YK 400 Ch ((Ch.length:Nat):Int) G.Se per Sk Ro Ls Ch Tu Sy De _ _ m h) (N:=Ch.length) (fun m k hk=>?_) (fun m=>?_) Ch.length 400 0 (by omega) (by omega)
 ·obtain ⟨f,fr,t,tr,mn,mx,w,r,r',x,y,x',y',b,b',i,e,hr,ac,hR,ar,a5,⟨a,j,c,d⟩,⟨w0,w1⟩,⟨l,a1,c1,d1,g1⟩,⟨o,a2,p,q,g⟩,hi⟩:=h.ch _ (QiW hk);have hb:=Cb (R:=Bool) (per:=per) (Sk:=Sk) (Ro:=Ro) (Ch:=Ch) (Tu:=Tu) (Sy:=Sy) (De:=De) (n:=400) hr;have au:=Cb (R:=Bool) (per:=per) (Sk:=Sk) (Ro:=Ro) (Ch:=Ch) (Tu:=Tu) (Sy:=Sy) (De:=De) (n:=400) ac;obtain ⟨nm,v,rides,e1,e2⟩:=hr;obtain ⟨a7,v',ak,aw,an⟩:=ac;obtain ⟨rt,ex,rn,rx,s,rfl,aq,hs,_⟩:=hR;obtain ⟨az,ax,a6,a3,s',rfl,aj,ao,_⟩:=ar;rw [YK,Qc hk,Qe,QiQ hk,e];simp -implicitDefEqProofs only [Q0,List.getElem?_cons_zero,List.getElem?_cons_succ,Q2,Xx,QH,QiT,QiP,QiS,QiR,hb,au,Q3Z a c d (show mn<=1000 by omega) p1,Q7v w0 (show w<=1000 by omega),show ((f:Int) == (t:Int))=false by simp;omega,Qe,e1,e2,aw,an,Q8R aq hs,Q49 aj ao,g1,g,show (i == (-1:Int))=false by simp;omega,show (i != i)=false by simp,Qs (show k<=1000 by omega)]
 ·rw [YK,Qi,QiP]
theorem QdL (K:Int->oP R):V0 400 G.St G.Pt G.Se G.Li per Sk Ro Ls Ch Tu Sy De K=K 0:=by
 obtain ⟨T,hT,t1,t2,a,o⟩:=h.tu;have hl:Tu.length=T.length:=by rw [hT];simp
 have p0:=h.p0;have p1:=h.p1;unfold V0;rw [hl];refine Qv (r:=fun m h=>ZE 400 Tu ((T.length:Nat):Int) per Sk Ro Ls Ch Tu Sy De _ _ m h) (N:=T.length) (fun m k hk=>?_) (fun m=>?_) T.length 400 0 (by omega) (by omega)
 ·have e:Tu[k]? = some (tuR T[k]):=by rw [hT,QiZ,QiQ hk];rfl
  obtain ⟨c,u2,u3,p,d,q,nm,w,rides,r,r',x,y,z,b,b',e1,e2,u,v,⟨a5,w',ac,f,g⟩,hR,aw⟩:=t1 _ (QiW hk);obtain ⟨rt,ex,rn,rx,s,rfl,ar,hs,_⟩:=hR;obtain ⟨ax,aq,az,ay,s',rfl,an,ao,_⟩:=aw;have aj:cut Tu (0,k)=(T.take k).map tuR:=by rw [L4,hT,List.map_take]
  have ak:∀ t∈T.take k,(t.1:Int)≠(T[k].1:Int)/\(t.2.1:Int)≠(T[k].2.1:Int):=by
   intro t ht;have j:=NH t2 (i:=k) (by simpa using hk) t.1 (by rw [<- List.map_take];exact List.mem_map_of_mem ht);have h2:=NH a (i:=k) (by simpa using hk) t.2.1 (by rw [<- List.map_take];exact List.mem_map_of_mem ht);rw [List.getElem_map] at j h2;exact ⟨by omega,by omega⟩
  rw [ZE,Qc hk,Qe,e];simp -implicitDefEqProofs only [Q0,List.getElem?_cons_zero,List.getElem?_cons_succ,Q2,Xx,QH,QiT,QiP,QiS,QiR,tuR,Q1D c,Q1D u2,Q3Z (Sk:=Sk) (Ro:=Ro) (Ls:=Ls) (Ch:=Ch) (Tu:=Tu) (Sy:=Sy) (De:=De) (n:=400) (show 0<=T[k].2.2.1 by omega) d (show T[k].2.2.2<T[k].2.2.1+per by omega) (by omega) p1];rw [hl,Q1c (by omega),Q0,aj,Q3t ak (by simp;omega)];have hw:wJ (((rides.length:Nat):Int)-1)=((rides.length-1:Nat):Int):=by rw [Q7 (by omega) (by omega)];omega
  have l:Q1 ac (0:Int)=some [Q4 ax,Q4 aq,Q4 az,Q4 ay]:=(Qe ac 0).trans g;simp -implicitDefEqProofs only [Q0,List.getElem?_cons_zero,List.getElem?_cons_succ,Q2,Xx,QH,QiT,QiP,QiS,QiR,Qe,e1,f,hw,e2,l,Q8R ar hs,Q49 an ao,show (y != y)=false by simp,show ((0:Int) != 0)=false from rfl,Qs (show k<=1000 by omega)]
 ·rw [ZE,Qi,QiP]
theorem QbR (K:Int->oP R):J9 400 G.St G.Pt G.Se G.Li per Sk Ro Ls Ch Tu Sy De K=K 0:=by
 unfold J9 Q8C;rw [QeH h,Qcu h.sk,Qbt h,Qde h,Qaa h,QdL h,QeD h,Q9Y h];rfl
end
section
variable {R:Type} {n:Nat}
theorem Q3K {x lo hi:Int} (a:lo<=x) (b:x<=hi) (K:Bool->oP R):Hj n x lo hi K=K true:=inT (n:=n) a b K
theorem Q3L {x lo hi:Int} (a:lo<=x) (b:x<=hi) (K:Bool->oP R):Vy n x lo hi K=K true:=inT (n:=n) a b K
theorem QdD {a b g:Int} {acc:LL} (c:0<=a) (d:a<=12) (hc:acc.length<=1000) {k0:Int->Bool->LL->oP R} {m:Nat} (hm:12<m):U8 n g (Q4 a) (Q4 b) k0 m 0 acc=k0 a false (acc++List.replicate a.toNat [Q4 b,Q4 g]):=by
 have hl:∀ h:Nat,(acc++List.replicate h [Q4 b,Q4 g]).length=acc.length+h:=fun h=>by simp
 have:=Qv (r:=fun m h=>U8 n g (Q4 a) (Q4 b) k0 m h (acc++List.replicate h.toNat [Q4 b,Q4 g])) (N:=a.toNat) (e:=k0 a false (acc++List.replicate a.toNat [Q4 b,Q4 g])) (fun m h hh=>?_) (fun m=>?_) a.toNat m 0 (by omega) (by omega)
 ·simpa using this
 ·simp only [Int.toNat_natCast];rw [U8,Q2,Q0,QY (by simp;omega),Q2,Q0,hl,XF (by simp only [Qj1,Qj4];omega),Q0,Qs (by omega),List.append_assoc,<- List.replicate_succ']
 ·rw [U8,Q2,Q0,Q9 (by simp;omega)];simp only [Int.toNat_natCast];rw [show ((a.toNat:Nat):Int)=a by omega];simp
theorem QeK {Se s:LL} {k0:Int->Bool->LL->oP R} (hs:∀ row∈s,Dz Se row) (hl:s.length<=30) {m:Nat} (hm:s.length<m) (hn:12<n):Uh n Se s 0 k0 m 0 []=k0 ((s.length:Nat):Int) false (Yi Se s):=by
 have hc:=fun h:Nat=>(Pu (s:=s.take h) fun r hr=>hs r (List.mem_of_mem_take hr)).1
 have hw:wJ (((s.length:Nat):Int)-0)=((s.length:Nat):Int):=by rw [Q7 (by omega) (by omega)];omega
 refine Qv (r:=fun m h=>Uh n Se s 0 k0 m h (Yi Se (s.take h.toNat))) (N:=s.length) (fun m h hh=>?_) (fun m=>?_) s.length m 0 (by omega) hm
 ·have e:=QiQ hh;obtain ⟨x,d,nm,a,b,c,st,hx,ac,f,hd⟩:=hs _ (QiW hh);rw [hx] at e;have a0:=f.a0;have a1:=f.a1;have ak:=hc h;simp only [List.length_take] at ak;simp only [Int.toNat_natCast,NN e,H4 ac];rw [Uh,hw,Qc hh];simp -implicitDefEqProofs only [Q0,List.getElem?_cons_zero,List.getElem?_cons_succ,Q2,Xx,QH,QiT,QiP,QiS,QiR,Qe,e,ac,QdD (n:=n) (b:=b) (acc:=Yi Se (s.take h)) (show 0<=a by omega) a1 (by omega) hn,Qs (show h<=1000 by omega)];rw [Q7 (x:=0-c) (by have:=f.c1;omega) (by have:=f.c0;omega),Int.zero_sub];cases g:d == (1:Int) <;> rfl
 ·simp only [Int.toNat_natCast];rw [Uh,hw,Qi,QiP,Qj7]
end
structure RtF (St Pt Se Li s:LL):Prop where
 lay:Pg 400 St Pt Se Li=true
 ref:Q9t St Pt Se Li=true
 l2:2<=s.length
 l24:s.length<=24
 rt:rtB Se.length Li s=true
 rt6:Qf9 Se.length Li s=true
 hops:Ag Se.length Pt.length Li 0 s=true
 st:∀ r∈s,Dz Se r
theorem RtOK.f {G:Geo} (hG:G.OK) {s:LL} {x y:Int} (h:RtOK G s x y):RtF G.St G.Pt G.Se G.Li s:=⟨hG.lay,hG.ref,h.l2,h.l24,h.rt,h.rt6,h.hops,h.st⟩
section
variable {St Pt Se Li s:LL} (h:RtF St Pt Se Li s)
include h
theorem Q8p:PI 400 St Pt Se Li s 0 Tu3=some (Yi Se s,HV Se s,0):=by
 have l2:=h.l2;have l24:=h.l24;have hl:=(Pu h.st).1;obtain ⟨row,rest,rfl⟩:∃ row rest,s=row::rest:=by
  cases s with
  |nil=>simp at l2
  |cons a b=>exact ⟨a,b,rfl⟩
 obtain ⟨x,d,nm,a,b,c,st,rfl,hs,_,_⟩:=h.st row (by simp);have hf:HV Se ([Q4 x,Q4 d]::rest)=a:=by simp only [HV,hs]
 generalize hS:[Q4 x,Q4 d]::rest=s at *
 unfold PI;rw [Q3z h.ref rfl h.l2 h.l24 h.rt6,Q0,Q9 (by decide),QeK h.st (by omega) (by omega) (by decide),Q9 (by simp;omega),show Q1 s (0:Int)=some [Q4 x,Q4 d] by rw [<- hS];rfl];simp -implicitDefEqProofs only [Q0,List.getElem?_cons_zero,List.getElem?_cons_succ,Q2,Xx,QH,QiT,QiP,QiS,QiR,hs,hf]
theorem Q8K {nm:List UInt8} {tl sp ac br:Int} (hk:StkN tl sp ac br):S1 400 St Pt Se Li s 0 nm tl sp ac br (some:Int->Option Int)=some 0:=by
 have l24:=h.l24;have hw:wJ (((s.length:Nat):Int)-0)=((s.length:Nat):Int):=by rw [Q7 (by omega) (by omega)];omega
 have ak:XW 400 nm tl sp ac br (some:Bool->Option Bool)=some true:=by
  obtain ⟨t1,t2,s1,s2,a1,a2,b1,b2⟩:=hk;unfold XW;simp -implicitDefEqProofs only [Q0,List.getElem?_cons_zero,List.getElem?_cons_succ,Q2,Xx,QH,QiT,QiP,QiS,QiR,Q3K t1 (show tl<=40 by omega),Q3K (show 1000<=sp by omega) (show sp<=100000 by omega),Q3K (show 100<=ac by omega) (show ac<=2000 by omega),Q3K (show 100<=br by omega) (show br<=2000 by omega)]
 unfold S1;rw [Q8p h,Q0,Q9 (by rfl),ak,Q0,Q9 (by decide)];refine Qv (r:=fun m h=>JZ 400 Se s 0 tl _ _ m h) (N:=s.length) (fun m k e=>?_) (fun m=>?_) s.length 400 0 (by omega) (by omega)
 ·obtain ⟨x,d,an,a,b,c,st,hx,aj,hn,_⟩:=h.st _ (QiW e);have a0:=hn.a0;have t2:=hk.t2;rw [JZ,hw,Qc e,Qe,QiQ e,hx];simp -implicitDefEqProofs only [Q0,List.getElem?_cons_zero,List.getElem?_cons_succ,Q2,Xx,QH,QiT,QiP,QiS,QiR,aj,show decide (a<if 2<tl then tl else 2)=false by simp;split <;> omega,Qs (show k<=1000 by omega)]
 ·rw [JZ,hw,Qi,QiP]
end
def Qab (x r:Int):Prop:=0<=r/\r*r<=x/\x<(r+1)*(r+1)
theorem Q47 {a b:Int} (c:0<=a) (h:a<=b):a*a<=b*b:=Int.mul_le_mul h h c (by omega)
theorem Q2P {x r s:Int} (h:Qab x r) (g:Qab x s):r=s:=by
 obtain ⟨a0,a1,a2⟩:=h;obtain ⟨b0,b1,b2⟩:=g;rcases Int.lt_trichotomy r s with h | h | h
 ·have:=Q47 (show 0<=r+1 by omega) (show r+1<=s by omega);omega
 ·exact h
 ·have:=Q47 (show 0<=s+1 by omega) (show s+1<=r by omega);omega
theorem Q82 {x r b:Int} (c:0<=r) (hb:0<=b) (h:r*r<=x) (hx:x<(b+1)*(b+1)):r<=b:=by
 by_cases a:r<=b
 ·exact a
 ·have:=Q47 (show 0<=b+1 by omega) (show b+1<=r by omega);omega
theorem QhC {a:Int} (b:0<=a) (c:a<=9223372036854775807):shR .i64 a 1=a / 2:=by
 show a.fdiv 2=a / 2;exact Int.fdiv_eq_ediv_of_nonneg a (by decide)
theorem QeW {R:Type} {n:Nat} {x:Int} (a:0<=x) (hx:x<=1000000000) {k0:Int->Int->Bool->oP R}:∀ (k m:Nat) (ac:Int),k<=31->k+1<m->0<=ac->ac*ac<=x->x<(ac+2 ^ (k+1))*(ac+2 ^ (k+1)) ->
  ∃ r,Qab x r/\Vh n x k0 m ac (2 ^ k)=k0 r 0 false
 |k,m+1,ac,hk,hm,b,c,d=>by
  have hr:ac<=40000:=Q82 b (by decide) c (by omega);have hp:∀ j:Nat,(1:Int)<=2 ^ j:=fun j=>by
   have:=Int.ofNat_le.2 (Nat.two_pow_pos j);rw [Int.natCast_pow] at this;exact this
  have f:(2:Int) ^ k<=2147483648:=by
   have:=Int.ofNat_le.2 (Nat.le_trans (Nat.pow_le_pow_right (show 0<2 by decide) hk) (show 2 ^ 31<=2147483648 by decide));rw [Int.natCast_pow] at this;exact this
  have g:=hp k;have hw:wJ (ac+2 ^ k)=ac+2 ^ k:=Q7 (by omega) (by omega);have hs:(2:Int) ^ (k+1)=2 ^ k+2 ^ k:=by rw [Int.pow_succ];omega
  have ak:Int.tdiv x (ac+2 ^ k)=x / (ac+2 ^ k):=Qj5 a;have i:0<=x / (ac+2 ^ k):=Int.ediv_nonneg a (by omega);have l:x / (ac+2 ^ k)<=x:=Int.ediv_le_self _ a;have e:wJ (Int.tdiv x (ac+2 ^ k))=x / (ac+2 ^ k):=by rw [ak,Q7 (by omega) (by omega)]
  have aj:(ac+2 ^ k<=x / (ac+2 ^ k))↔(ac+2 ^ k)*(ac+2 ^ k)<=x:=Int.le_ediv_iff_mul_le (by omega);have step:∀ r:Int,0<=r->r*r<=x->x<(r+2 ^ k)*(r+2 ^ k)->∃ r',Qab x r'/\Vh n x k0 m r (shR .i64 (2 ^ k) 1)=k0 r' 0 false:=by
   intro r a0 a1 a2;rw [QhC (by omega) (by omega)];cases k with
   |zero=>
    refine ⟨r,⟨a0,a1,by simpa using a2⟩,?_⟩;obtain ⟨m,rfl⟩:∃ m',m=m'+1:=⟨m-1,by omega⟩;rfl
   |succ k=>
    rw [show (2:Int) ^ (k+1) / 2=2 ^ k by rw [Int.pow_succ,Int.mul_ediv_cancel _ (by decide)]];exact QeW a hx k m r (by omega) (by omega) a0 a1 a2
  rw [Vh,QY (by simp;omega),hw,EC (by omega),Q0,e];by_cases h:(ac+2 ^ k)*(ac+2 ^ k)<=x
  ·rw [QY (by simpa using aj.2 h)];exact step _ (by omega) h (by rw [Int.add_assoc,<- hs];exact d)
  ·rw [Q9 (by simpa using fun h'=>h (aj.1 h'))];exact step ac b c (by omega)
theorem Qgk {x:Int} (a:0<=x) (hx:x<=1000000000):∃ r,Qab x r/\PL 400 x (some:Int->Option Int)=some r:=
 QeW a hx 31 400 0 (by decide) (by decide) (by decide) (by simpa using a) (by omega)
theorem Qc8 {R:Type} {n:Nat} {x:Int} (a:0<=x) (hx:x<=1000000000) {k0:Int->Int->Bool->oP R}:∀ (k m:Nat) (lo hi:Int),k<m->0<=lo->lo<=hi->hi<=3037000499->hi-lo<2 ^ k->lo*lo<=x->x<(hi+1)*(hi+1) ->
  ∃ r,Qab x r/\VN n x k0 m lo hi=k0 r r false
 |k,m+1,lo,hi,hm,l0,l1,l2,hk,b,c=>by
  by_cases h:lo<hi
  ·obtain ⟨k,rfl⟩:∃ k',k=k'+1:=by
    cases k with
    |zero=>simp at hk;omega
    |succ k=>exact ⟨k,rfl⟩
   have hs:(2:Int) ^ (k+1)=2 ^ k+2 ^ k:=by rw [Int.pow_succ];omega
   have e:wJ (Int.tdiv (wJ ((wJ (lo+hi))+(1:Int))) (2:Int))=(lo+hi+1) / 2:=by
    rw [Q7 (x:=lo+hi) (by omega) (by omega),Q7 (x:=lo+hi+1) (by omega) (by omega),Qj5 (by omega),Q7 (by omega) (by omega)]
   rw [VN,QY (by simpa using h),EC (by decide),Q0,e];have ac:lo<(lo+hi+1) / 2/\(lo+hi+1) / 2<=hi:=by omega
   generalize hM:(lo+hi+1) / 2=mid at *
   have aj:=Q47 (show 0<=mid by omega) (show mid<=3037000499 by omega);have d:=Int.mul_nonneg (show 0<=mid by omega) (show 0<=mid by omega);rw [Q7 (x:=mid*mid) (by omega) (by omega)];by_cases hq:mid*mid<=x
   ·rw [QY (by simpa using hq)];exact Qc8 a hx k m mid hi (by omega) (by omega) (by omega) l2 (by omega) hq c
   ·rw [Q9 (by simpa using hq),Q7 (by omega) (by omega)];exact Qc8 a hx k m lo (mid-1) (by omega) l0 (by omega) (by omega) (by omega) b (by rw [Int.sub_add_cancel];omega)
  ·obtain rfl:lo=hi:=by omega
   rw [VN,Q9 (by simp)];exact ⟨lo,⟨l0,b,c⟩,by simp⟩
theorem QfK {x r:Int} (a:0<=x) (hx:x<=1000000000) (hr:Qab x r):Nv 400 x (some:Int->Option Int)=some r:=by
 unfold Nv;by_cases h:x<=0
 ·rw [QY (by simpa using h)];have:Qab x 0:=⟨by decide,by omega,by omega⟩;rw [Q2P hr this]
 ·rw [Q9 (by simpa using h)];obtain ⟨r',b,h2⟩:=Qc8 (R:=Int) (n:=400) (k0:=fun w _ _=>some w) a hx 32 400 0 3037000499 (by decide) (by decide) (by decide) (by decide) (by decide) (by omega) (by omega);rw [Q2P hr b];exact h2
def cl (C:LL) (k:Nat):Int × Int:=match C[k]? with
 |some [.int _ b,.int _ g]=>(b,g)
 |_=>(0,0)
structure CellsOK (C:LL):Prop where
 row:∀ k,k<C.length->C[k]? = some [Q4 (cl C k).1,Q4 (cl C k).2]
 b0:∀ k,k<C.length->5000<=(cl C k).1
 b1:∀ k,k<C.length->(cl C k).1<=35000
 g0:∀ k,k<C.length -> -10<=(cl C k).2
 g1:∀ k,k<C.length->(cl C k).2<=10
 len:C.length<=300
theorem Q7C {Se:LL}:∀ {s:LL},(∀ row∈s,Dz Se row)->s.length<=24->CellsOK (Yi Se s):=by
 intro s h hl;have hm:∀ r∈Yi Se s,∃ b g:Int,r=[Q4 b,Q4 g]/\5000<=b/\b<=35000 /\ -10<=g/\g<=10:=by
  intro r hr;obtain ⟨row,f,h2⟩:=List.mem_flatMap.1 hr;obtain ⟨x,d,nm,a,b,c,st,rfl,hs,hn,_⟩:=h _ f;rw [H4 hs] at h2;have i:=List.eq_of_mem_replicate h2;have c0:=hn.c0;have c1:=hn.c1;refine ⟨_,_,i,hn.b0,hn.b1,?_⟩;cases (d == (1:Int))
  ·exact ⟨c0,c1⟩
  ·show -10 <= -c /\ -c<=10;omega
 have hat:∀ k,k<(Yi Se s).length->(Yi Se s)[k]? = some [Q4 (cl (Yi Se s) k).1,Q4 (cl (Yi Se s) k).2]/\5000<=(cl (Yi Se s) k).1/\(cl (Yi Se s) k).1<=35000 /\ -10<=(cl (Yi Se s) k).2/\(cl (Yi Se s) k).2<=10:=by
  intro k hk;obtain ⟨b,g,e,f⟩:=hm _ (QiW hk);have e2:(Yi Se s)[k]? = some [Q4 b,Q4 g]:=by rw [QiQ hk,e]
  simp only [cl,e2];exact ⟨trivial,f⟩
 have:=(Pu h).1;exact ⟨fun k hk=>(hat k hk).1,fun k hk=>(hat k hk).2.1,fun k hk=>(hat k hk).2.2.1,fun k hk=>(hat k hk).2.2.2.1,fun k hk=>(hat k hk).2.2.2.2,by omega⟩
def Q8Q (v:Int) (r:List D):Int:=match r with
 |.int _ b::_=>if b<v then b else v
 |_=>v
def win (C:LL) (k t:Nat):LL:=(C.drop (k-t)).take (k+1-(k-t))
def Q6H (C:LL) (sp:Int) (k t:Nat):Int:=(win C k t).foldl Q8Q sp
theorem Q98 {C:LL} (hC:CellsOK C) {k t i:Nat} (hk:k<C.length) (hi:i<k+1-(k-t)):(win C k t)[i]? = some [Q4 (cl C (k-t+i)).1,Q4 (cl C (k-t+i)).2]:=by
 unfold win;rw [List.getElem?_take_of_lt hi,List.getElem?_drop,hC.row _ (by omega)]
theorem Q4L {C:LL} {k t:Nat} (hk:k<C.length):(win C k t).length=k+1-(k-t):=by
 unfold win;simp;omega
theorem Q9O {C:LL} (hC:CellsOK C) {sp:Int} {k t:Nat} (hk:k<C.length) (d:10000<=sp) (c:sp<=25000):5000<=Q6H C sp k t/\Q6H C sp k t<=25000:=by
 have hm:∀ r∈win C k t,∃ b g:Int,r=[Q4 b,Q4 g]/\5000<=b:=by
  intro r hr;obtain ⟨i,hi,rfl⟩:=List.getElem_of_mem hr;have aj:=hi;rw [Q4L hk] at aj;have e:=Q98 hC hk aj;rw [QiQ hi] at e;injection e with e
  exact ⟨_,_,e,hC.b0 _ (by omega)⟩
 unfold Q6H;revert hm;generalize win C k t=L;intro hm;have:∀ (L:LL) (v:Int),(∀ r∈L,∃ b g:Int,r=[Q4 b,Q4 g]/\5000<=b)->5000<=v->v<=25000->5000<=L.foldl Q8Q v/\L.foldl Q8Q v<=25000:=by
  intro L;induction L with
  |nil=>exact fun v _ a b=>⟨a,b⟩
  |cons r L ih=>
   intro v h a b;obtain ⟨x,g,rfl,hx⟩:=h _ (List.mem_cons_self ..);refine ih _ (fun r hr=>h r (List.mem_cons_of_mem _ hr)) ?_ ?_
   ·show 5000<=if x<v then x else v
    split <;> omega
   ·show (if x<v then x else v)<=25000;split <;> omega
 exact this L sp hm (by omega) c
section
variable {C:LL} (hC:CellsOK C) {nm:List UInt8} {sp ac br:Int} {t k:Nat} (ht:t<=40)
include hC ht
omit hC in
theorem Qdy (hk:k<=1000):(if (0:Int)<(wJ ((k:Int)-(t:Int))) then (wJ ((k:Int)-(t:Int))) else (0:Int))=((k-t:Nat):Int):=by
 rw [Q7 (by omega) (by omega)];split <;> omega
theorem Qhj (hk:k<C.length):JB 400 C (k:Int) nm (t:Int) sp ac br (some:Int->Option Int)=some (Q6H C sp k t):=by
 have hl:=hC.len;unfold JB;rw [Qdy ht (by omega),Qs (by omega)];have hs:slB C.length (some ((k-t:Nat):Int)) (some ((k+1:Nat):Int))=some (k-t,k+1):=by
  unfold slB;rw [show (decide ((0:Int)<=(some ((k-t:Nat):Int)).getD 0)&&(decide ((some ((k-t:Nat):Int)).getD 0<=(some ((k+1:Nat):Int)).getD (C.length:Int))&&decide ((some ((k+1:Nat):Int)).getD (C.length:Int)<=(C.length:Int))))=true by simp;omega];rfl
 rw [hs,Q0,show cut C (k-t,k+1)=win C k t from rfl];have hw:=Q4L (t:=t) hk;refine (Qv (r:=fun m h=>Wp 400 (win C k t) (((win C k t).length:Nat):Int) _ m (((win C k t).take h.toNat).foldl Q8Q sp) h) (N:=(win C k t).length) (fun m h hh=>?_) (fun m=>?_) (win C k t).length 400 0 (by omega) (by omega))
 ·have e:=Q98 hC hk (show h<k+1-(k-t) by omega);simp only [Int.toNat_natCast];rw [Wp,Qc hh,Qe,e,YC e,List.foldl_append];simp -implicitDefEqProofs only [Q0,List.getElem?_cons_zero,List.getElem?_cons_succ,Q2,Xx,QH,QiT,QiP,QiS,QiR,Qs (show h<=1000 by omega)];rfl
 ·simp only [Int.toNat_natCast];rw [Wp,Qi,QiP,Qj7];rfl
theorem Qh7 (hk:k<C.length):PA 400 C (k:Int) nm (t:Int) sp ac br (some:Int->Option Int)=some (Q6H C sp k t):=by
 have hl:=hC.len;have hw:=Q4L (t:=t) hk;unfold PA;rw [Qdy ht (by omega)];have:=Qv (r:=fun m h=>VW 400 C (k:Int) (fun a b c=>some a) m (((win C k t).take h.toNat).foldl Q8Q sp) (((k-t:Nat):Int)+h)) (N:=(win C k t).length) (e:=some (Q6H C sp k t)) (fun m h hh=>?_) (fun m=>?_) (win C k t).length 400 0 (by omega) (by omega)
 ·rw [show ((k-t:Nat):Int)+((0:Nat):Int)=((k-t:Nat):Int) by omega] at this;exact this
 ·have e:=Q98 hC hk (show h<k+1-(k-t) by omega);have e2:=hC.row (k-t+h) (by omega);simp only [Int.toNat_natCast];rw [VW,QY (by simp;omega),show ((k-t:Nat):Int)+(h:Int)=((k-t+h:Nat):Int) by omega,Qe,e2,YC e,List.foldl_append,Qs (by omega),show ((k-t:Nat):Int)+((h+1:Nat):Int)=((k-t+h+1:Nat):Int) by omega];simp -implicitDefEqProofs only [Q0,List.getElem?_cons_zero,List.getElem?_cons_succ,Q2,Xx,QH,QiT,QiP,QiS,QiR];rfl
 ·simp only [Int.toNat_natCast];rw [VW,Q9 (by simp;omega),Qj7];rfl
end
def arr (f:Nat->Int) (n:Nat):LL:=(List.range n).map fun i=>[Q4 (f i)]
theorem YO {f:Nat->Int} {n:Nat}:(arr f n).length=n:=by simp [arr]
theorem JW {f:Nat->Int} {n i:Nat} (h:i<n):(arr f n)[i]? = some [Q4 (f i)]:=by simp [arr,h]
theorem XM {f g:Nat->Int} {n:Nat} (h:∀ i,i<n->f i=g i):arr f n=arr g n:=by
 refine List.map_congr_left fun i hi=>?_
 rw [h i (by simpa using hi)]
theorem Qcs {f:Nat->Int} {n i:Nat} {v:Int}:(arr f n).set i [Q4 v]=arr (fun j=>if j=i then v else f j) n:=by
 refine List.ext_getElem? fun j=>?_
 by_cases hj:j<n
 ·rw [JW hj];by_cases h:i=j
  ·subst h;rw [List.getElem?_set_self (by rw [YO];exact hj),QiV rfl]
  ·rw [List.getElem?_set_ne h,JW hj,QiX (fun e=>h e.symm)]
 ·rw [Qj9 (by simp [YO];omega),Qj9 (by simp [YO];omega)]
theorem Ca {n:Nat}:List.replicate n [Q4 0]=arr (fun _=>0) n:=by
 refine List.ext_getElem? fun j=>?_
 by_cases hj:j<n
 ·rw [JW hj];simp [hj]
 ·rw [Qj9 (by simp;omega),Qj9 (by simp [YO];omega)]
def acc (ac g:Int):Int:=if 0<g then (if 50<ac-10*g then ac-10*g else 50) else ac
def brk (br g:Int):Int:=if g<0 then (if 50<br+10*g then br+10*g else 50) else br
theorem Q4j {ac g:Int} (a1:400<=ac) (a2:ac<=800) (g0 : -10<=g) (g1:g<=10):300<=acc ac g/\acc ac g<=800:=by
 unfold acc;split
 ·split <;> omega
 ·omega
theorem Q4q {br g:Int} (a1:400<=br) (a2:br<=800) (g0 : -10<=g) (g1:g<=10):300<=brk br g/\brk br g<=800:=by
 unfold brk;split
 ·split <;> omega
 ·omega
section
variable {nm:List UInt8} {b t sp ac br g:Int} {n:Nat}
theorem Qdf (a1:400<=ac) (a2:ac<=800) (g0 : -10<=g) (g1:g<=10):NW n b g nm t sp ac br (some:Int->Option Int)=some (acc ac g):=by
 unfold NW acc;rw [Q7 (x:=10*g) (by omega) (by omega),Q7 (x:=ac-10*g) (by omega) (by omega)];by_cases h:0<g
 ·rw [QY (by simpa using h),QiV h]
 ·rw [Q9 (by simpa using h),QiX h]
theorem QeI (a1:400<=br) (a2:br<=800) (g0 : -10<=g) (g1:g<=10):NT n b g nm t sp ac br (some:Int->Option Int)=some (brk br g):=by
 unfold NT brk;rw [Q7 (x:=10*g) (by omega) (by omega),Q7 (x:=br+10*g) (by omega) (by omega)];by_cases h:g<0
 ·rw [QY (by simpa using h),QiV h]
 ·rw [Q9 (by simpa using h),QiX h]
theorem QfA (a1:400<=ac) (a2:ac<=800) (g0 : -10<=g) (g1:g<=10):HQ n b g nm t sp ac br (some:Int->Option Int)=some (20000*acc ac g):=by
 have hr:=Q4j a1 a2 g0 g1;unfold HQ;rw [Q7 (x:=10*g) (by omega) (by omega),Q7 (x:=ac-10*g) (by omega) (by omega)];unfold acc at hr ⊢;by_cases h:0<g
 ·rw [QiV h] at hr ⊢;rw [QY (by simpa using h),Q7 (by omega) (by omega)]
 ·rw [QiX h] at hr ⊢;rw [Q9 (by simpa using h),Q7 (by omega) (by omega)]
theorem QfU (a1:400<=br) (a2:br<=800) (g0 : -10<=g) (g1:g<=10):HB n b g nm t sp ac br (some:Int->Option Int)=some (20000*brk br g):=by
 have hr:=Q4q a1 a2 g0 g1;unfold HB;rw [Q7 (x:=10*g) (by omega) (by omega),Q7 (x:=br+10*g) (by omega) (by omega)];unfold brk at hr ⊢;by_cases h:g<0
 ·rw [QiV h] at hr ⊢;rw [QY (by simpa using h),Q7 (by omega) (by omega)]
 ·rw [QiX h] at hr ⊢;rw [Q9 (by simpa using h),Q7 (by omega) (by omega)]
end
structure Run where
 C:LL
 nm:List UInt8
 sp:Int
 ac:Int
 br:Int
 t:Nat
 st:Nat
 N:Nat
structure Run.OK (X:Run):Prop where
 hC:CellsOK X.C
 hk:StkN X.t X.sp X.ac X.br
 hN:X.C.length=X.st+X.N
 h2:2<=X.N
namespace Run
variable (X:Run)
def lm (b:Nat):Int:=Q6H X.C X.sp (X.st+b) X.t
def lo (b:Nat):Int:=if X.lm b<X.lm (b-1) then X.lm b else X.lm (b-1)
def V (b:Nat):Int:=X.lo b*X.lo b
def G (b:Nat):Int:=20000*acc X.ac (cl X.C (X.st+b)).2
def L (b:Nat):Int:=20000*brk X.br (cl X.C (X.st+b)).2
def F:Nat->Int
 |0=>0
 |b+1=>if F b+X.G b<X.V (b+1) then F b+X.G b else X.V (b+1)
def K:Nat->Int
 |0=>0
 |d+1=>if K d+X.L (X.N-(d+1))<X.F (X.N-(d+1)) then K d+X.L (X.N-(d+1)) else X.F (X.N-(d+1))
variable {X} (h:X.OK)
include h
theorem Qbc {b:Nat} (hb:b<X.N):5000<=X.lm b/\X.lm b<=25000:=Q9O h.hC (by have:=h.hN;omega) h.hk.s1 h.hk.s2
theorem Q9n {b:Nat} (hb:b<X.N):5000<=X.lo b/\X.lo b<=25000:=by
 have a:=Qbc h hb;have h2:=Qbc h (b:=b-1) (by omega);unfold lo;split <;> omega
theorem Qci {b:Nat} (hb:b<X.N):25000000<=X.V b/\X.V b<=625000000:=by
 obtain ⟨a,h2⟩:=Q9n h hb;have:=Q47 (by decide) a;have:=Q47 (by omega) h2;unfold V;omega
theorem QbE {b:Nat} (hb:b<X.N):6000000<=X.G b/\X.G b<=16000000:=by
 have hN:=h.hN;have:=Q4j h.hk.a1 h.hk.a2 (h.hC.g0 (X.st+b) (by omega)) (h.hC.g1 (X.st+b) (by omega));unfold G;omega
theorem QaF {b:Nat} (hb:b<X.N):6000000<=X.L b/\X.L b<=16000000:=by
 have hN:=h.hN;have:=Q4q h.hk.b1 h.hk.b2 (h.hC.g0 (X.st+b) (by omega)) (h.hC.g1 (X.st+b) (by omega));unfold L;omega
theorem Qa2:∀ b,b<X.N->0<=X.F b/\X.F b<=625000000/\(1<=b->6000000<=X.F b)
 |0,_=>by rw [F];omega
 |b+1,hb=>by
  have a:=Qa2 b (by omega);have h2:=Qci h hb;have c:=QbE h (b:=b) (by omega);rw [F];split <;> omega
theorem Q3W:∀ d,d<=X.N->0<=X.K d/\X.K d<=625000000/\(1<=d->d<X.N->6000000<=X.K d)
 |0,_=>by rw [K];omega
 |d+1,hd=>by
  have a:=Q3W d (by omega);have h2:=Qa2 h (X.N-(d+1)) (by omega);have c:=QaF h (b:=X.N-(d+1)) (by omega);rw [K];split <;> omega
theorem Qfz:X.K X.N=0:=by
 have h2:=h.h2;obtain ⟨d,hd⟩:∃ d,X.N=d+1:=⟨X.N-1,by omega⟩;have a:=Q3W h d (by omega);have c:=QaF h (b:=0) (by omega);rw [hd,K,show X.N-(d+1)=0 by omega,F,QiX (by omega)]
theorem row {b:Nat} (hb:b<X.N):X.C[X.st+b]? = some [Q4 (cl X.C (X.st+b)).1,Q4 (cl X.C (X.st+b)).2]:=h.hC.row _ (by have:=h.hN;omega)
end Run
theorem Q9C {f:Nat->Int} {n i:Nat} {v:Int} (h:i<n) {R:Type} (K:LL->oP R):gb true (inB n (i:Int)) () (fun _=>gb true ((arr f n)[(Int.toNat (i:Int))]?) [] fun r=>K ((arr f n).set (Int.toNat (i:Int)) (List.set r 0 (D.int .i64 v))))=K (arr (fun j=>if j=i then v else f j) n):=by
 rw [Y0 (by omega) (by omega),Q0,Int.toNat_natCast,JW h,Q0];show K ((arr f n).set i [Q4 v])=_;rw [Qcs]
theorem Q7k {f:Nat->Int} {n i:Nat} (h:i<n) {R:Type} (K:Int->oP R):gb true (inB n (i:Int)) () (fun _=>gb true ((arr f n)[(Int.toNat (i:Int))]?) [] fun r=>gb true (r[0]?) oF fun c=>gb true (pIw c) 0 fun x=>K x)=K (f i):=by
 rw [Y0 (by omega) (by omega),Q0,Int.toNat_natCast,JW h];rfl
theorem wI {a b:Int} (h:a=b) (c : -1000000<=b) (d:b<=1000000000):wJ a=b:=by rw [h,Q7 (by omega) (by omega)]
namespace Run
variable {X:Run} (h:X.OK)
include h
def W (X:Run):LL:=arr (fun j=>X.K (X.N-j)) (X.N+1)
theorem sqA:JF 400 X.C (X.st:Int) X.nm (X.t:Int) X.sp X.ac X.br (some:LL->Option LL)=some X.W:=by
 have hN:=h.hN;have h2:=h.h2;have hl:=h.hC.len;have t2:=h.hk.t2;have an:wJ (wJ (((X.C.length:Nat):Int)-(X.st:Int))+1)=((X.N+1:Nat):Int):=by
  rw [Q7 (x:=((X.C.length:Nat):Int)-(X.st:Int)) (by omega) (by omega),Q7 (by omega) (by omega)];omega
 unfold JF;rw [an,show (bif decide ((0:Int)<=((X.N+1:Nat):Int))&&decide (((X.N+1:Nat):Int)<=((X.N+1:Nat):Int)) then some () else none)=some () by rw [QY (by simp;omega)],Q0,Int.toNat_natCast,XF (by omega),Q0,Qhj h.hC (by omega) (by omega),Q0,Ca,Qs (by omega)];have k:∀ k0:Int->Int->Bool->LL->Option LL,Yp 400 X.C (X.st:Int) ((X.C.length:Nat):Int) X.nm (X.t:Int) X.sp X.ac X.br k0 400 (Q6H X.C X.sp X.st X.t) ((X.st+1:Nat):Int) (arr (fun _=>0) (X.N+1))=k0 (X.lm (X.N-1)) ((X.C.length:Nat):Int) false (arr (fun j=>if j<=X.N-1 then X.F j else 0) (X.N+1)):=by
  intro k0;have:=Qv (r:=fun m i=>Yp 400 X.C (X.st:Int) ((X.C.length:Nat):Int) X.nm (X.t:Int) X.sp X.ac X.br k0 m (X.lm i.toNat) ((X.st+1+i.toNat:Nat):Int) (arr (fun j=>if j<=i.toNat then X.F j else 0) (X.N+1))) (N:=X.N-1) (e:=k0 (X.lm (X.N-1)) ((X.C.length:Nat):Int) false (arr (fun j=>if j<=X.N-1 then X.F j else 0) (X.N+1))) (fun m i hi=>?_) (fun m=>?_) (X.N-1) 400 0 (by omega) (by omega)
  ·have e:arr (fun j=>if j<=(((0:Nat):Int)).toNat then X.F j else 0) (X.N+1)=arr (fun _=>0) (X.N+1):=XM fun j hj=>by
    split
    ·rename_i d;have d:j=0:=by simpa using d
     subst d;rw [F]
    ·rfl
   rw [e] at this;exact this
  ·simp only [Int.toNat_natCast];have f:=h.hC.g0 (X.st+i) (by omega);have g:=h.hC.g1 (X.st+i) (by omega);have hr:=row h (b:=i) (by omega);have aq:=Q9n h (b:=i+1) (by omega);have hV:=Qci h (b:=i+1) (by omega);have hF:=Qa2 h i (by omega);have hG:=QbE h (b:=i) (by omega);rw [Yp,Qc (show X.st+1+i<X.C.length by omega),QiT,Qhj h.hC (by omega) (by omega),Q0,wI (show ((X.st+1+i:Nat):Int)-1=((X.st+i:Nat):Int) by omega) (by omega) (by omega),wI (show ((X.st+i:Nat):Int)-(X.st:Int)=(i:Int) by omega) (by omega) (by omega),YO,Q7k (by omega),Qe,hr,wI (show ((X.st+1+i:Nat):Int)-(X.st:Int)=((i+1:Nat):Int) by omega) (by omega) (by omega)];simp -implicitDefEqProofs only [Q0,List.getElem?_cons_zero,List.getElem?_cons_succ,Q2,Xx,QH,QiT,QiP,QiS,QiR,QfA h.hk.a1 h.hk.a2 f g];rw [Q9C (by omega)];rw [Qs (by omega),show Q6H X.C X.sp (X.st+1+i) X.t=X.lm (i+1) by unfold lm;rw [Nat.add_assoc,Nat.add_comm 1 i],show X.st+1+i+1=X.st+1+(i+1) by omega];refine congrArg _ (XM fun j hj=>?_);by_cases ak:j=i+1
   ·subst ak;have e1:(if X.lm (i+1)<X.lm i then X.lm (i+1) else X.lm i)=X.lo (i+1):=rfl;rw [QiV rfl,QiV (Qja i),e1,wI (a:=X.lo (i+1)*X.lo (i+1)) (b:=X.V (i+1)) rfl (by omega) (by omega),wI (a:=X.F i+20000*acc X.ac (cl X.C (X.st+i)).2) (b:=X.F i+X.G i) rfl (by omega) (by omega),QiV (Qja (i+1)),F]
   ·rw [QiX ak];by_cases c:j<=i
    ·rw [QiV c,QiV (by omega)]
    ·rw [QiX c,QiX (by omega)]
  ·simp only [Int.toNat_natCast];rw [show X.st+1+(X.N-1)=X.C.length by omega,Yp,Qi,QiP]
 rw [k,wI (show ((X.C.length:Nat):Int)-1=((X.st+X.N-1:Nat):Int) by omega) (by omega) (by omega)];have:=Qv (r:=fun m i=>Z0 400 X.C (X.st:Int) X.nm (X.t:Int) X.sp X.ac X.br (fun _ _ l=>some l) m ((X.st+X.N-1-i.toNat:Nat):Int) (arr (fun j=>if X.N-j<=i.toNat then X.K (X.N-j) else X.F j) (X.N+1))) (N:=X.N-1) (e:=some X.W) (fun m i hi=>?_) (fun m=>?_) (X.N-1) 400 0 (by omega) (by omega)
 ·have e:arr (fun j=>if X.N-j<=(((0:Nat):Int)).toNat then X.K (X.N-j) else X.F j) (X.N+1)=arr (fun j=>if j<=X.N-1 then X.F j else 0) (X.N+1):=XM fun j hj=>by
   by_cases ao:j=X.N
   ·subst ao;rw [QiV (by simp),QiX (by omega),Nat.sub_self,K]
   ·rw [QiX (by simp;omega),QiV (by omega)]
  rw [e] at this;exact this
 ·simp only [Int.toNat_natCast];obtain ⟨b,hb⟩:∃ b,b+1=X.N-i:=⟨X.N-i-1,by omega⟩;have o:1<=b:=by omega
  have f:=h.hC.g0 (X.st+b) (by omega);have g:=h.hC.g1 (X.st+b) (by omega);have hr:=row h (b:=b) (by omega);have hK:=Q3W h i (by omega);have hL:=QaF h (b:=b) (by omega);rw [Z0,show X.st+X.N-1-i=X.st+b by omega,QY (by simp;omega),wI (show ((X.st+b:Nat):Int)-(X.st:Int)=(b:Int) by omega) (by omega) (by omega),YO,Q7k (by omega),Qs (by omega),wI (show ((X.st+b+1:Nat):Int)-(X.st:Int)=((b+1:Nat):Int) by omega) (by omega) (by omega),Q7k (by omega),Qe,hr];simp -implicitDefEqProofs only [Q0,List.getElem?_cons_zero,List.getElem?_cons_succ,Q2,Xx,QH,QiT,QiP,QiS,QiR,QfU h.hk.b1 h.hk.b2 f g];rw [Q9C (by omega),wI (show ((X.st+b:Nat):Int)-1=((X.st+X.N-1-(i+1):Nat):Int) by omega) (by omega) (by omega)];refine congrArg _ (XM fun j hj=>?_);by_cases aj:j=b
  ·subst aj;rw [QiV rfl,QiX (show ¬ X.N-j<=i by omega),QiV (show X.N-(j+1)<=i by omega),QiV (show X.N-j<=i+1 by omega),show X.N-j=i+1 by omega,K,show X.N-(j+1)=i by omega,show X.N-(i+1)=j by omega,wI (a:=X.K i+20000*brk X.br (cl X.C (X.st+j)).2) (b:=X.K i+X.L j) rfl (by omega) (by omega)]
  ·rw [QiX aj];by_cases c:X.N-j<=i
   ·rw [QiV c,QiV (by omega)]
   ·rw [QiX c,QiX (by omega)]
 ·simp only [Int.toNat_natCast];rw [Z0,show X.st+X.N-1-(X.N-1)=X.st by omega,Q9 (by simp)];refine congrArg some (XM fun j hj=>?_);by_cases n:j=0
  ·subst n;rw [QiX (by omega),F,Nat.sub_zero,Qfz h]
  ·rw [QiV (by omega)]
end Run
theorem Jq {k:Nat} (a:k<=1000) (b:1<=k):wJ (((k:Nat):Int)-1)=((k-1:Nat):Int):=by grind [Q7]
section
variable {R:Type} {Sk Ro Ls Ch Tu Sy De:LL} {per:Int} {n:Nat}
theorem Q4P {mn mx:Int} (a:0<=mn) (b:mn<=mx) (h2:mx<mn+per) (c:mn<=1000) (p1:per<=300) (K:Bool->oP R):K4 n per Sk Ro Ls Ch Tu Sy De mn mx K=K true:=by
 grind [K4,decide,Q7]
theorem QfP {k i:Nat} {r:List D} (h:T4 Ls k i r) (hl:Ls.length<=1000) (hr:∀ nm w rides,Ls[k]? = some [D.str nm,Q4 0,Q4 w,D.sl 4 rides]->rides.length<=1000) (K:Bool->oP R):Jv n per Sk Ro Ls Ch Tu Sy De (k:Int) (i:Int) K=K true:=by
 obtain ⟨nm,w,rides,a,h2⟩:=h;have hk:=(QiU.1 a).1;have hi:=(QiU.1 h2).1;have hr:=hr _ _ _ a;unfold Jv;rw [Jq hl (by omega),Q3L (by omega) (by omega),Q0,Qe,a];simp -implicitDefEqProofs only [Q0,List.getElem?_cons_zero,List.getElem?_cons_succ,Q2,Xx,QH,QiT,QiP,QiS,QiR,Jq hr (by omega),Q3L (show (0:Int)<=(i:Int) by omega) (show (i:Int)<=((rides.length-1:Nat):Int) by omega)]
theorem Q9e {G:Geo} {x y:Int} {s:LL} (a:RtOK G s x y) (K:Int->oP R):T3 n s 0 K=K x:=by
 obtain ⟨d,b⟩:=a.fst
 simp_all [T3,Q0,List.getElem?_cons_zero,List.getElem?_cons_succ,Q2,Xx,QH,QiT,QiP,QiS,QiR]
theorem Qbz {G:Geo} {x y:Int} {s:LL} (a:RtOK G s x y) (K:Int->oP R):PG n s 0 K=K y:=by
 obtain ⟨d,b⟩:=a.lst;have l24:=a.l24;unfold PG;rw [Q7 (x:=((s.length:Nat):Int)-0) (by omega) (by omega),Q7 (by omega) (by omega),Int.sub_zero,b];rfl
theorem Ce {k i:Nat} {rt:Nat} {ex mn mx:Int} {s:LL} (h:T4 Ls k i [Q4 rt,Q4 ex,Q4 mn,Q4 mx]) (a:Ro[rt]? = some [D.sl 2 s,Q4 0]) (K:D->D->oP R):XY n per Sk Ro Ls Ch Tu Sy De (k:Int) (i:Int) K=K (D.sl 2 s) (Q4 0):=by
 obtain ⟨nm,w,rides,b,h2⟩:=h
 simp_all [XY,Q0,List.getElem?_cons_zero,List.getElem?_cons_succ,Q2,Xx,QH,QiT,QiP,QiS,QiR,Qe]
theorem QgQ {i:Nat} (hi:i<8):Ng 400 (nmN i) (some:Bool->Option Bool)=some true:=by
 obtain rfl | rfl | rfl | rfl | rfl | rfl | rfl | rfl:i=0\/i=1\/i=2\/i=3\/i=4\/i=5\/i=6\/i=7:=by omega
 all_goals rfl
theorem QeE (hs:Q0i Sk):Gj 400 per Sk Ro Ls Ch Tu Sy De 0 (some:Int->Option Int)=some 0:=by
 obtain ⟨a,b,c,d,rfl,t1,t2,s1,s2,a1,a2,b1,b2⟩:=hs;have h:Gj 400 per [[D.str (bs [88]),Q4 a,Q4 b,Q4 c,Q4 d]] Ro Ls Ch Tu Sy De 0 (some:Int->Option Int)=gb true (XW 400 (bs [88]) a b c d some) false (fun r=>bif !r then some 4 else some 0):=by kernel_rfl
 have ac:XW 400 (bs [88]) a b c d (some:Bool->Option Bool)=some true:=by
  unfold XW;simp -implicitDefEqProofs only [Q0,List.getElem?_cons_zero,List.getElem?_cons_succ,Q2,Xx,QH,QiT,QiP,QiS,QiR,Q3K t1 (show a<=40 by omega),Q3K (show 1000<=b by omega) (show b<=100000 by omega),Q3K (show 100<=c by omega) (show c<=2000 by omega),Q3K (show 100<=d by omega) (show d<=2000 by omega)]
 rw [h,ac];rfl
end
section
variable {R:Type} {G:Geo} {Sk Ro Ls Ch Tu Sy De:LL} {per:Int} (h:PlanR G per Sk Ro Ls Ch Tu Sy De)
include h
theorem Qeq {k:Nat}:∀ nm w rides,Ls[k]? = some [D.str nm,Q4 0,Q4 w,D.sl 4 rides]->rides.length<=1000:=by
 intro nm w rides e;obtain ⟨w',ac,e',hr,_⟩:=Dc h.good (QiU.1 e).1
 grind
theorem Q6m {k i:Nat} {r:List D} (hr:T4 Ls k i r) (K:Bool->oP R):Jv 400 per Sk Ro Ls Ch Tu Sy De (k:Int) (i:Int) K=K true:=by
 have:=h.l1
 grind [QfP,Qeq]
theorem Qgd:Lk 400 per Sk Ro Ls Ch Tu Sy De (some:Bool->Option Bool)=some false:=by
 obtain ⟨_,_,_,_,aj,_⟩:=h.sk;obtain ⟨T,hT,_,_,_,ak⟩:=h.tu;have l1:=h.l1;have l2:=h.rl;have a:=h.chl;have c:=h.syl;have d:=h.del;have lk:Sk.length=1:=by rw [aj];rfl
 have lt:Tu.length<=20:=by rw [hT];simpa using ak
 have ac:∀ {k:Nat} {b:Int},(k:Int)<=b->decide ((k:Int)>b)=false:=fun h=>by simpa using h
 unfold Lk;simp -implicitDefEqProofs only [ac (show ((Sk.length:Nat):Int)<=8 by omega),ac (show ((Ro.length:Nat):Int)<=48 by omega),ac (show ((Ls.length:Nat):Int)<=16 by omega),ac (show ((Ch.length:Nat):Int)<=32 by omega),ac (show ((Tu.length:Nat):Int)<=32 by omega),ac (show ((Sy.length:Nat):Int)<=32 by omega),ac (show ((De.length:Nat):Int)<=32 by omega),QiP];refine Qv (r:=fun m h=>JX 400 Ls _ _ m h) (N:=Ls.length) (fun m k hk=>?_) (fun m=>?_) Ls.length 400 0 (by omega) (by omega)
 ·obtain ⟨w,rides,e,hr,_⟩:=Dc h.good hk;rw [JX,Qc hk,Qe,e];simp -implicitDefEqProofs only [Q0,List.getElem?_cons_zero,List.getElem?_cons_succ,Q2,Xx,QH,QiT,QiP,QiS,QiR,ac (show ((rides.length:Nat):Int)<=12 by omega),Qs (show k<=1000 by omega)]
 ·rw [JX,Qi,QiP]
theorem Qfx {k:Nat} (hk:k<Ls.length):KD 400 G.St G.Pt G.Se G.Li per Sk Ro Ls Ch Tu Sy De (k:Int) (some:Int->Option Int)=some 0:=by
 have l1:=h.l1;have p1:=h.p1;have p0:=h.p0;obtain ⟨a,v,c,d,ar,aq⟩:=h.sk;obtain ⟨w,rides,e,w0,w1,ac⟩:=h.good.ls k _ (QiQ hk);have e:=(QiQ hk).trans (congrArg some e);have a2:rides.length=1\/rides.length=2:=by rcases ac with ⟨_,_,_,rfl,_⟩ | ⟨_,_,_,_,_,rfl,_⟩;exact .inl rfl;exact .inr rfl
 have f:Q1 Sk (0:Int)=some [D.str (bs [88]),Q4 a,Q4 v,Q4 c,Q4 d]:=by rw [ar];rfl
 have aw:Sk.length=1:=by rw [ar];rfl
 unfold KD;rw [Qe,e];simp -implicitDefEqProofs only [Q0,List.getElem?_cons_zero,List.getElem?_cons_succ,Q2,Xx,QH,QiT,QiP,QiS,QiR,QgQ (show k<8 by omega)];refine (Qv (r:=fun m h=>Wq 400 (k:Int) Ls (D.str (nmN k)) _ _ m h) (N:=k) (fun m i hi=>?_) (fun m=>?_) k 400 0 (by omega) (by omega))
 ·obtain ⟨w',au,e',_⟩:=Dc h.good (show i<Ls.length by omega);rw [Wq,Qc hi,Qe,e'];simp -implicitDefEqProofs only [Q0,List.getElem?_cons_zero,List.getElem?_cons_succ,Q2,Xx,QH,QiT,QiP,QiS,QiR,Qeh (show i<8 by omega) (show k<8 by omega) (show i≠k by omega),Qs (show i<=1000 by omega)]
 ·rw [Wq,Qi,QiP,aw,Jq (by decide) (by decide)];simp -implicitDefEqProofs only [Q0,List.getElem?_cons_zero,List.getElem?_cons_succ,Q2,Xx,QH,QiT,QiP,QiS,QiR,Q3L (show (0:Int)<=0 by omega) (show (0:Int)<=((1-1:Nat):Int) by decide),Q3L w0 (show w<=1048576 by omega),show (((rides.length:Nat):Int) == 0)=false by simp;intro hx;simp [hx] at a2];refine (Qv (r:=fun m h=>Wi 400 G.St G.Pt G.Se G.Li per Sk Ro Ls Ch Tu Sy De (Q4 0) (D.sl 4 rides) _ _ m h) (N:=rides.length) (fun m i hi=>?_) (fun m=>?_) rides.length 400 0 (by omega) (by omega))
  ·obtain ⟨r,x,y,b,hr,hR,hb,aj⟩:∃ r x y b,rides[i]? = some r/\TH G Ro r x y b/\(i+1=rides.length->b=true)/\(∀ j,j+1=i->∃ r' x' b',rides[j]? = some r'/\TH G Ro r' x' x b'):=by
    rcases ac with ⟨r,x,y,rfl,h⟩ | ⟨r,r',x,y,z,rfl,h,h'⟩
    ·have hi:i=0:=by simpa using hi
     subst hi;exact ⟨r,x,y,true,rfl,h,fun _=>rfl,fun j hj=>by omega⟩
    ·obtain rfl | rfl:i=0\/i=1:=by simp at hi;omega
     ·exact ⟨r,x,y,false,rfl,h,fun h=>by simp at h,fun j hj=>by omega⟩
     ·refine ⟨r',y,z,true,rfl,h',fun _=>rfl,fun j hj=>?_⟩;have hj:j=0:=by omega
      subst hj;exact ⟨r,x,false,rfl,h⟩
   obtain ⟨rt,ex,mn,mx,s,rfl,an,hs,⟨l,t⟩,⟨o,p,u,m3⟩,hlast⟩:=hR;have a8:rt<Ro.length:=(QiU.1 an).1;have l2:=h.rl;have hq:∀ z:Bool,(bif ((i:Int) == ((rides.length-1:Nat):Int)) then (bif (mn != (0:Int)) then true else (mx != (0:Int))) else false)=false:=by
    intro z;by_cases q:i+1=rides.length
    ·obtain ⟨rfl,rfl⟩:=hlast (hb q);rw [show ((0:Int) != 0)=false from rfl];cases ((i:Int) == ((rides.length-1:Nat):Int)) <;> rfl
    ·rw [show ((i:Int) == ((rides.length-1:Nat):Int))=false by simp;omega];rfl
   have a3:∀ {g:Bool} {β:Type} {a z:β} {k:β->Option Int},gb g (some a) z k=k a:=fun {g β a z k}=>rfl
   rw [Wi,QH,Q0,Qc hi];simp -implicitDefEqProofs only [Q0,List.getElem?_cons_zero,List.getElem?_cons_succ,Q2,Xx,QH,QiT,QiP,QiS,QiR,Qe,hr,Jq (show rides.length<=1000 by omega) (show 1<=rides.length by omega),Jq (show Ro.length<=1000 by omega) (show 1<=Ro.length by omega),Q7 (x:=per-1) (by omega) (by omega),Q3L (show (0:Int)<=(rt:Int) by omega) (show (rt:Int)<=((Ro.length-1:Nat):Int) by omega),Q3L l (show ex<=per-1 by omega),Q4P (Sk:=Sk) (Ro:=Ro) (Ls:=Ls) (Ch:=Ch) (Tu:=Tu) (Sy:=Sy) (De:=De) (n:=400) o p (show mx<mn+per by omega) (by omega) p1,hq true,an,f,Q8K (hs.f h.ok) aq,show ((0:Int) != 0)=false from rfl];cases i with
   |zero=>
    rw [show decide (((0:Nat):Int)>0)=false from rfl];simp only [gbF,QiP];rfl
   |succ j=>
    obtain ⟨r',x',b',ay,az⟩:=aj j rfl;obtain ⟨a7,a4,a6,a9,s',rfl,ao,ax,_⟩:=az;simp -implicitDefEqProofs only [Q0,List.getElem?_cons_zero,List.getElem?_cons_succ,Q2,Xx,QH,QiT,QiP,QiS,QiR,show decide (((j+1:Nat):Int)>0)=true by simp,Q9e hs,show wJ (((j+1:Nat):Int)-1)=(j:Int) by rw [Q7 (by omega) (by omega)];omega,Qe,ay,ao,Qbz ax,show (x != x)=false by simp,Qs (show j+1<=1000 by omega)]
  ·rw [Wi,QH,Q0,Qi,QiP]
end
section
variable {R:Type} {G:Geo} {Sk Ro Ls Ch Tu Sy De:LL} {per:Int} (h:PlanR G per Sk Ro Ls Ch Tu Sy De)
include h
theorem QaB {k0:Int->oP R} {k1:Int->Bool->oP R}:Z7 400 G.St G.Pt G.Se G.Li per Sk Ro Ls Ch Tu Sy De k0 k1 400 0=k1 ((Ch.length:Nat):Int) false:=by
 have l2:=h.chl;have p1:=h.p1;refine Qv (r:=fun m h=>Z7 400 G.St G.Pt G.Se G.Li per Sk Ro Ls Ch Tu Sy De _ _ m h) (N:=Ch.length) (fun m k hk=>?_) (fun m=>?_) Ch.length 400 0 (by omega) (by omega)
 ·obtain ⟨f,fr,t,tr,mn,mx,w,r,r',x,y,x',y',b,b',i,e,hr,ac,hR,ao,ax,⟨a,j,c,d⟩,⟨w0,w1⟩,⟨l,a1,c1,d1,g1⟩,⟨n,a2,o,p,g⟩,hi⟩:=h.ch _ (QiW hk);have hb:=Q6m (R:=Bool) h hr;have aq:=Q6m (R:=Bool) h ac;obtain ⟨rt,ex,rn,rx,s,rfl,an,hs,_⟩:=hR;obtain ⟨au,ar,ay,aw,s',rfl,aj,ak,_⟩:=ao;rw [Z7,Qc hk,Qe,QiQ hk,e];simp -implicitDefEqProofs only [Q0,List.getElem?_cons_zero,List.getElem?_cons_succ,Q2,Xx,QH,QiT,QiP,QiS,QiR,Ho,hb,aq,Q4P a c d (show mn<=1000 by omega) p1,Q3L w0 (show w<=1048576 by omega),show ((f:Int) == (t:Int))=false by simp;omega,Ce hr an,Ce ac aj,Qbz hs,Q9e ak,g1,g,show decide (i<0)=false by simp;omega,show (i != i)=false by simp,show ((0:Int) != 0)=false from rfl,Qs (show k<=1000 by omega)]
 ·rw [Z7,Qi,QiP]
theorem Qet {k0:Int->oP R} {k1:Int->Bool->oP R}:Z1 400 per Sk Ro Ls Ch Tu Sy De k0 k1 400 0=k1 ((Tu.length:Nat):Int) false:=by
 obtain ⟨T,hT,t1,t2,d,t4⟩:=h.tu;have hl:Tu.length=T.length:=by rw [hT];simp
 have p0:=h.p0;have p1:=h.p1;have l1:=h.l1;refine Qv (r:=fun m h=>Z1 400 per Sk Ro Ls Ch Tu Sy De _ _ m h) (N:=Tu.length) (fun m k hk=>?_) (fun m=>?_) Tu.length 400 0 (by omega) (by omega)
 ·have ac:k<T.length:=by omega
  have at':∀ j (hj:j<T.length),Tu[j]? = some (tuR T[j]):=fun j hj=>by rw [hT,QiZ,QiQ hj];rfl
  obtain ⟨u1,u2,u3,u4,e,u6,nm,w,rides,r,r',x,y,z,b,b',e1,e2,f,e4,c,hR,au⟩:=t1 _ (QiW ac);obtain ⟨rt,ex,rn,rx,s,rfl,ar,hs,_⟩:=hR;obtain ⟨a3,az,a5,a4,s',rfl,ak,ao,_⟩:=au;have g:=Ce (R:=D × D) (n:=400) (per:=per) (Sk:=Sk) (Ch:=Ch) (Tu:=Tu) (Sy:=Sy) (De:=De) (Ro:=Ro) ⟨nm,w,rides,e1,e2⟩ ar;have a:=Ce (R:=D × D) (n:=400) (per:=per) (Sk:=Sk) (Ch:=Ch) (Tu:=Tu) (Sy:=Sy) (De:=De) (Ro:=Ro) c ak;obtain ⟨a6,w',an,l,e6⟩:=c;have a:XY 400 per Sk Ro Ls Ch Tu Sy De (T[k].2.1:Int) 0 Tu2=some (D.sl 2 s',Q4 0):=a _;have aj:∀ t∈T.take k,(t.1:Int)≠(T[k].1:Int)/\(t.2.1:Int)≠(T[k].2.1:Int):=by
   intro t ht;have q:=NH t2 (i:=k) (by simpa using ac) t.1 (by rw [<- List.map_take];exact List.mem_map_of_mem ht);have h2:=NH d (i:=k) (by simpa using ac) t.2.1 (by rw [<- List.map_take];exact List.mem_map_of_mem ht);rw [List.getElem_map] at q h2;exact ⟨by omega,by omega⟩
  have aq:KH 400 per Sk Ro Ls Ch Tu Sy De (k:Int) (some:Int->Option Int)=some 0:=by
   unfold KH;rw [Qe,at' k ac];simp -implicitDefEqProofs only [Q0,List.getElem?_cons_zero,List.getElem?_cons_succ,Q2,Xx,QH,QiT,QiP,QiS,QiR,tuR,Jq (show Ls.length<=1000 by omega) (show 1<=Ls.length by omega),Q3L (show (0:Int)<=(T[k].1:Int) by omega) (show (T[k].1:Int)<=((Ls.length-1:Nat):Int) by omega),Q3L (show (0:Int)<=(T[k].2.1:Int) by omega) (show (T[k].2.1:Int)<=((Ls.length-1:Nat):Int) by omega),Q4P (Sk:=Sk) (Ro:=Ro) (Ls:=Ls) (Ch:=Ch) (Tu:=Tu) (Sy:=Sy) (De:=De) (n:=400) (show 0<=T[k].2.2.1 by omega) e (show T[k].2.2.2<T[k].2.2.1+per by omega) (by omega) p1];refine (Qv (r:=fun m h=>Wr 400 (k:Int) Tu (Q4 (T[k].1:Nat)) (Q4 (T[k].2.1:Nat)) _ _ m h) (N:=k) (fun m i hi=>?_) (fun m=>?_) k 400 0 (by omega) (by omega))
   ·obtain ⟨u,v⟩:=aj T[i] (by rw [List.mem_take_iff_getElem];exact ⟨i,by omega,rfl⟩);rw [Wr,Qc hi,Qe,at' i (by omega)];simp -implicitDefEqProofs only [Q0,List.getElem?_cons_zero,List.getElem?_cons_succ,Q2,Xx,QH,QiT,QiP,QiS,QiR,tuR,show ((T[i].1:Int) == (T[k].1:Int))=false by simpa using u,show ((T[i].2.1:Int) == (T[k].2.1:Int))=false by simpa using v,Qs (show i<=1000 by omega)]
   ·rw [Wr,Qi,QiP,Qe,e1];simp -implicitDefEqProofs only [Q0,List.getElem?_cons_zero,List.getElem?_cons_succ,Q2,Xx,QH,QiT,QiP,QiS,QiR,Qe,l,Jq (show rides.length<=1000 by omega) f,g,a,Qbz hs,Q9e ao,show (y != y)=false by simp,show ((0:Int) != 0)=false from rfl]
  rw [Z1,Qc hk,QiT,aq,Q0,Q9 (by rfl),Qs (by omega)]
 ·rw [Z1,Qi,QiP]
theorem Qew {k0:oP R} {k1:Int->Bool->oP R}:YX 400 per Sk Ro Ls Ch Tu Sy De k0 k1 400 0=k1 ((Sy.length:Nat):Int) false:=by
 have l2:=h.syl;have l0:=h.l0;have p1:=h.p1;refine Qv (r:=fun m h=>YX 400 per Sk Ro Ls Ch Tu Sy De _ _ m h) (N:=Sy.length) (fun m k hk=>?_) (fun m=>?_) Sy.length 400 0 (by omega) (by omega)
 ·obtain ⟨o,e,a,b,h2⟩:=h.sy _ (QiW hk);obtain ⟨r,hr⟩:=Q5z h (k:=0) (by omega);obtain ⟨r',ac⟩:=Q5z h (k:=1) (by omega);have e1:=Q6m (R:=Bool) h hr some;have e2:=Q6m (R:=Bool) h ac some;rw [YX,Qc hk,Qe,QiQ hk,e];simp -implicitDefEqProofs only [Q0,List.getElem?_cons_zero,List.getElem?_cons_succ,Q2,Xx,QH,QiT,QiP,QiS,QiR,show Jv 400 per Sk Ro Ls Ch Tu Sy De 0 0 (some:Bool->Option Bool)=some true from e1,show Jv 400 per Sk Ro Ls Ch Tu Sy De 1 0 (some:Bool->Option Bool)=some true from e2,show ((0:Int) == 1)=false from rfl,Q7 (x:=per-1) (by omega) (by omega),Q3L a (show o<=per-1 by omega),Qs (show k<=1000 by omega)]
 ·rw [YX,Qi,QiP]
theorem Q9K {k0:oP R} {k1:Int->Bool->oP R}:Z3 400 G.St De k0 k1 400 0=k1 ((De.length:Nat):Int) false:=by
 have l2:=h.del;have hN:=h.ok.hN;refine Qv (r:=fun m h=>Z3 400 G.St De _ _ m h) (N:=De.length) (fun m k hk=>?_) (fun m=>?_) De.length 400 0 (by omega) (by omega)
 ·obtain ⟨f,t,w,e,⟨a,c⟩,⟨b,t1⟩,ac,w0,w1⟩:=h.de _ (QiW hk);rw [Z3,Qc hk,Qe,QiQ hk,e];simp -implicitDefEqProofs only [Q0,List.getElem?_cons_zero,List.getElem?_cons_succ,Q2,Xx,QH,QiT,QiP,QiS,QiR,h.ok.st,Q7 (x:=((G.N:Nat):Int)-1) (by omega) (by omega),Q3L a (show f<=((G.N:Nat):Int)-1 by omega),Q3L b (show t<=((G.N:Nat):Int)-1 by omega),Q3L w0 (show w<=1048576 by omega),show (f == t)=false by simpa using ac,Qs (show k<=1000 by omega)]
 ·rw [Z3,Qi,QiP]
theorem Qg9:Uk 400 G.St G.Pt G.Se G.Li per Sk Ro Ls Ch Tu Sy De (some:Int->Option Int)=some 0:=by
 have p0:=h.p0;have p1:=h.p1;have l1:=h.l1;have l2:=h.rl;obtain ⟨_,_,_,_,ac,_⟩:=h.sk;have aj:Sk.length=1:=by rw [ac];rfl
 have e1:JR 400 G.St G.Pt G.Se G.Li (some:Int->Option Int)=some 0:=VO h.ok.ref;unfold Uk;simp -implicitDefEqProofs only [Q0,List.getElem?_cons_zero,List.getElem?_cons_succ,Q2,Xx,QH,QiT,QiP,QiS,QiR,e1,Qgd h,Q3L (show 2<=per by omega) (show per<=7200 by omega),show ((0:Int) != 0)=false from rfl];refine Qv (r:=fun m h=>Wm 400 per Sk Ro Ls Ch Tu Sy De _ _ m h) (N:=Sk.length) (fun m k hk=>?_) (fun m=>?_) Sk.length 400 0 (by omega) (by omega)
 ·obtain rfl:k=0:=by omega
  rw [Wm,Qc hk,QiT,show ((0:Nat):Int)=0 from rfl,QeE h.sk,Q0,Q9 (by rfl)];rfl
 rw [Wm,Qi,QiP];refine Qv (r:=fun m h=>Wh 400 G.St G.Pt G.Se G.Li Ro _ _ m h) (N:=Ro.length) (fun m k hk=>?_) (fun m=>?_) Ro.length 400 0 (by omega) (by omega)
 ·obtain ⟨s,x,y,e,hs⟩:=h.good.ro _ (QiW hk);rw [Wh,Qc hk,Qe,QiQ hk,e];simp -implicitDefEqProofs only [Q0,List.getElem?_cons_zero,List.getElem?_cons_succ,Q2,Xx,QH,QiT,QiP,QiS,QiR,Q3z h.ok.ref rfl hs.l2 hs.l24 hs.rt6,show ((0:Int) != 0)=false from rfl,Qs (show k<=1000 by omega)]
 rw [Wh,Qi,QiP];refine Qv (r:=fun m h=>Wl 400 G.St G.Pt G.Se G.Li per Sk Ro Ls Ch Tu Sy De _ _ m h) (N:=Ls.length) (fun m k hk=>?_) (fun m=>?_) Ls.length 400 0 (by omega) (by omega)
 ·rw [Wl,Qc hk,QiT,Qfx h hk,Q0,Q9 (by rfl),Qs (by omega)]
 rw [Wl,Qi,QiP,QaB h,Qet h,Qew h,Q9K h]
end
end Go.Vx
namespace Go.Vx
variable {R:Type} (n:Nat)
def XP (n:Nat) (c e i:LL) (f:Int) (j:LL) (g:Int) (k0:Int->Int->Bool->LL->LL->oP R):Nat->Int->Int->LL->LL->oP R
 | 0,_,_,_,_=>none
 | m+1,b,a,h,d=>bif decide (a<f) then gb true (Q1 i a) [] fun o=>gb true (o[0]?) oF fun r=>gb true (o[1]?) oF fun ac=>gb true (Q1 c b) [] fun s=>gb true (s[0]?) oF fun t=>gb true (pIw t) 0 fun k=>gb true (Yf ((h.length+[[Q4 k]].length)*8)) () fun ad=>bif decide (a>0) then gb true (pIw r) 0 fun u=>gb true (Q1 j u) [] fun v=>gb true (v[1]?) oF fun x=>gb true (pIw x) 0 fun l=>bif (decide (a<(wJ ((e.length:Int)-1)))) then gb true (Q1 c (wJ ((wJ (b+l))+g))) [] fun y=>gb true (y[0]?) oF fun z=>gb true (pIw z) 0 fun p=>gb true (Yf ((d.length+[[Q4 p]].length)*8)) () fun ae=>XP n c e i f j g k0 m (wJ (b+l)) (wJ (a+1)) (h++[[Q4 k]]) (d++[[Q4 p]]) else XP n c e i f j g k0 m (wJ (b+l)) (wJ (a+1)) (h++[[Q4 k]]) d else bif (decide (a<(wJ ((e.length:Int)-1)))) then gb true (Q1 c (wJ (b+g))) [] fun aa=>gb true (aa[0]?) oF fun ab=>gb true (pIw ab) 0 fun q=>gb true (Yf ((d.length+[[Q4 q]].length)*8)) () fun ag=>XP n c e i f j g k0 m b (wJ (a+1)) (h++[[Q4 k]]) (d++[[Q4 q]]) else XP n c e i f j g k0 m b (wJ (a+1)) (h++[[Q4 k]]) d else k0 b a (decide (a<f)) h d
def KL (q r f s g:LL) (h:Int) (i:List UInt8) (c j k l:Int) (K:LL->LL->Int->Int->oP R):oP R:= gb true (KY n q r f s g h i c j k l Tu3) ([],0,0) fun a=>bif (a.2.2 != 0) then K [] [] 0 a.2.2 else gb true (Jo n a.1 a.2.1 i c j k l Tu2) ([],0) fun b=>gb true (Ue n g h some) [] fun e=>XP n b.1 e e (e.length:Int) f c (fun m ab ac t o=>gb true (Q1 b.1 m) [] fun u=>gb true (u[0]?) oF fun v=>gb true (pIw v) 0 fun p=>gb true (Yf ((o.length+[[Q4 p]].length)*8)) () fun ad=>gb true (Q1 b.1 m) [] fun x=>gb true (x[0]?) oF fun y=>gb true (pIw y) 0 fun z=>gb true (JH n z some) 0 fun aa=>K t (o++[[Q4 p]]) aa 0) n 0 0 [] []
def XI (d e:LL) (b:Int) (k0:Int->Bool->LL->oP R):Nat->Int->LL->oP R
 | 0,_,_=>none
 | m+1,a,c=>bif decide (a<b) then gb true (Q1 d (wJ (a-1))) [] fun h=>gb true (h[0]?) oF fun i=>gb true (pIw i) 0 fun j=>gb true (Vf n j some) 0 fun f=>gb true (Q1 e a) [] fun k=>gb true (k[0]?) oF fun l=>gb true (pIw l) 0 fun o=>gb true (JH n o some) 0 fun g=>gb true (Yf ((c.length+[[Q4 0,Q4 (wJ (f-16)),Q4 (wJ (g+4))]].length)*24)) () fun p=>XI d e b k0 m (wJ (a+1)) (c++[[Q4 0,Q4 (wJ (f-16)),Q4 (wJ (g+4))]]) else k0 a (decide (a<b)) c
def Qj (f:Int) (l:LL) (g:Int) (h i e j k:LL) (c d:Int) (k0:Int->Bool->LL->LL->oP R):Nat->Int->LL->LL->oP R
 | 0,_,_,_=>none
 | m+1,a,b,q=>bif decide (a<g) then gb true (Q1 l a) [] fun u=>gb true (u[0]?) oF fun r=>gb true (u[1]?) oF fun v=>bif decide (a>f) then gb true (Yf ((b.length+[[Q4 0,Q4 c,Q4 d]].length)*24)) () fun bu=>gb true (pIw r) 0 fun ad=>gb true (inB (List.length (b++[[Q4 0,Q4 c,Q4 d]])) a) () fun bv=>gb true ((b++[[Q4 0,Q4 c,Q4 d]])[a.toNat]?) [] fun ae=>gb true (ae[1]?) oF fun ag=>gb true (pIw ag) 0 fun ah=>gb true (inB (List.length (b++[[Q4 0,Q4 c,Q4 d]])) a) () fun bx=>gb true ((b++[[Q4 0,Q4 c,Q4 d]])[a.toNat]?) [] fun ai=>gb true (ai[2]?) oF fun aj=>gb true (pIw aj) 0 fun ak=>gb true (Xm n q ad ah ak some) [] fun o=>gb true (Hg o (q.length)) () fun bz=>bif (a == 0) then Qj f l g h i e j k c d k0 m (wJ (a+1)) (b++[[Q4 0,Q4 c,Q4 d]]) o else gb true (Q1 k (wJ (a-1))) [] fun x=>gb true (x[0]?) oF fun al=>gb true (x[1]?) oF fun am=>gb true (pIw al) 0 fun an=>gb true (pIw am) 0 fun ao=>gb true (pIw r) 0 fun ap=>gb true (pIw v) 0 fun aq=>gb true (Zk n h i e j an ao ap aq some) 0 fun s=>bif decide (s<0) then Qj f l g h i e j k c d k0 m (wJ (a+1)) (b++[[Q4 0,Q4 c,Q4 d]]) o else bif decide (a<=f) then gb true (inB (List.length (b++[[Q4 0,Q4 c,Q4 d]])) a) () fun ca=>gb true ((b++[[Q4 0,Q4 c,Q4 d]])[a.toNat]?) [] fun ar=>gb true (ar[1]?) oF fun au=>gb true (pIw au) 0 fun av=>gb true (inB (List.length (b++[[Q4 0,Q4 c,Q4 d]])) (wJ (a-1))) () fun cb=>gb true ((b++[[Q4 0,Q4 c,Q4 d]])[(Int.toNat (wJ (a-1)))]?) [] fun aw=>gb true (aw[2]?) oF fun ax=>gb true (pIw ax) 0 fun ay=>gb true (Xm n o (wJ ((e.length:Int)+s)) av ay some) [] fun y=>gb true (Hg y (o.length)) () fun cc=>Qj f l g h i e j k c d k0 m (wJ (a+1)) (b++[[Q4 0,Q4 c,Q4 d]]) y else gb true (Xm n o (wJ ((e.length:Int)+s)) c d some) [] fun z=>gb true (Hg z (o.length)) () fun ce=>Qj f l g h i e j k c d k0 m (wJ (a+1)) (b++[[Q4 0,Q4 c,Q4 d]]) z else gb true (pIw r) 0 fun az=>gb true (inB (b.length) a) () fun cf=>gb true (b[a.toNat]?) [] fun ba=>gb true (ba[1]?) oF fun bb=>gb true (pIw bb) 0 fun bc=>gb true (inB (b.length) a) () fun cg=>gb true (b[a.toNat]?) [] fun bd=>gb true (bd[2]?) oF fun be=>gb true (pIw be) 0 fun bg=>gb true (Xm n q az bc bg some) [] fun p=>gb true (Hg p (q.length)) () fun ch=>bif (a == 0) then Qj f l g h i e j k c d k0 m (wJ (a+1)) b p else gb true (Q1 k (wJ (a-1))) [] fun aa=>gb true (aa[0]?) oF fun bh=>gb true (aa[1]?) oF fun bi=>gb true (pIw bh) 0 fun bj=>gb true (pIw bi) 0 fun bk=>gb true (pIw r) 0 fun bl=>gb true (pIw v) 0 fun bm=>gb true (Zk n h i e j bj bk bl bm some) 0 fun t=>bif decide (t<0) then Qj f l g h i e j k c d k0 m (wJ (a+1)) b p else bif decide (a<=f) then gb true (inB (b.length) a) () fun ci=>gb true (b[a.toNat]?) [] fun bn=>gb true (bn[1]?) oF fun bo=>gb true (pIw bo) 0 fun bp=>gb true (inB (b.length) (wJ (a-1))) () fun cj=>gb true (b[(Int.toNat (wJ (a-1)))]?) [] fun bq=>gb true (bq[2]?) oF fun br=>gb true (pIw br) 0 fun bt=>gb true (Xm n p (wJ ((e.length:Int)+t)) bp bt some) [] fun ab=>gb true (Hg ab (p.length)) () fun ck=>Qj f l g h i e j k c d k0 m (wJ (a+1)) b ab else gb true (Xm n p (wJ ((e.length:Int)+t)) c d some) [] fun ac=>gb true (Hg ac (p.length)) () fun cm=>Qj f l g h i e j k c d k0 m (wJ (a+1)) b ac else k0 a (decide (a<g)) b q
def ZM (c d e f b:LL) (l:Int) (m:List UInt8) (o p q r s h:Int) (K:LL->Int->Int->oP R):oP R:= gb true (KL n c d e f b l m o p q r Tu4) ([],[],0,0) fun a=>bif (a.2.2.2 != 0) then K [] 0 a.2.2.2 else gb true (Q1 a.2.1 0) [] fun g=>gb true (g[0]?) oF fun v=>gb true (pIw v) 0 fun x=>gb true (JH n x some) 0 fun y=>XI n a.1 a.2.1 (wJ ((a.1.length:Int)-1)) (fun aj ak i=>gb true (Q1 a.1 (wJ ((wJ ((a.1.length:Int)-1))-1))) [] fun z=>gb true (z[0]?) oF fun aa=>gb true (pIw aa) 0 fun ab=>gb true (Vf n ab some) 0 fun j=>gb true (Yf ((i.length+[[Q4 0,Q4 (wJ (j-16)),Q4 (wJ (a.2.2.1+h))]].length)*24)) () fun al=>gb true (Q1 a.1 (wJ ((a.1.length:Int)-1))) [] fun ac=>gb true (ac[0]?) oF fun ad=>gb true (pIw ad) 0 fun ae=>gb true (Vf n ae some) 0 fun ag=>gb true (J1 n c d e f some) [] fun ah=>Qj n (wJ ((a.1.length:Int)-1)) b (b.length:Int) c d e f b (wJ (ag-16)) (wJ (a.2.2.1+20)) (fun am an ao ai=>gb true (Vk n ai some) [] fun k=>gb true (F9 [k]) () fun ap=>K k a.2.2.1 0) n 0 (i++[[Q4 0,Q4 (wJ (j-16)),Q4 (wJ (a.2.2.1+h))]]) ah) n 1 [[Q4 0,Q4 (wJ (0-s)),Q4 (wJ (y+4))]]
def ZV (e f g h i:LL) (j:Int) (k:List UInt8) (l m o p c d:Int) (K:LL->Int->Int->oP R):oP R:= gb true (G7 n e f g h i j k l m o p some) 0 fun b=>bif (b != 0) then K [] 0 b else bif (bif (bif (bif decide (c<0) then true else (decide (c>65536))) then true else (decide (d<0))) then true else (decide (d>65536))) then K [] 0 4 else gb true (ZM n e f g h i j k l m o p c d Tu3) ([],0,0) fun a=>K a.1 a.2.1 a.2.2
end Go.Vx
namespace Go.Vx
def cd (a b:Int):Int:=if 0<a % b then a / b+1 else a / b
theorem D6 {a b:Int} (h0:0<=a) (h1:1<=b):a<=cd a b*b/\0<=cd a b/\cd a b<=a / b+1:=by
 have h2:=Int.emod_nonneg a (show b≠0 by omega);have c:=Int.emod_lt_of_pos a (show 0<b by omega);have d:=Int.mul_ediv_add_emod a b;have e:0<=a / b:=Int.ediv_nonneg h0 (by omega);have f:b*(a / b)=a / b*b:=Int.mul_comm ..;have g:(a / b+1)*b=a / b*b+b:=by rw [Int.add_mul,Int.one_mul]
 unfold cd;split <;> refine ⟨?_,?_,?_⟩ <;> omega
theorem Qe3 {a b:Int} (h0:0<=a) (h1:1<=b) (ha:a<=1000000000):nz b=some ()/\(Int.tmod a b=a % b)/\wJ (Int.tdiv a b)=a / b/\wJ (a / b+1)=a / b+1:=by
 have c:0<=a / b:=Int.ediv_nonneg h0 (by omega);have d:a / b<=a:=Int.ediv_le_self _ h0;exact ⟨EC (by omega),Qj2 h0,by rw [Qj5 h0,Q7 (by omega) (by omega)],Q7 (by omega) (by omega)⟩
section
variable {n:Nat} {a b:Int} (h0:0<=a) (h1:1<=b) (ha:a<=1000000000)
include h0 h1 ha
theorem Qbg:Je n a b Tu2=some (cd a b,0):=by
 obtain ⟨e1,e2,e,f⟩:=Qe3 h0 h1 ha;unfold Je cd;rw [Q9 (by simpa using h1),e1,Q0,Q0,e2,e,f];by_cases h:0<a % b
 ·rw [QY (by simpa using h),QiV h]
 ·rw [Q9 (by simpa using h),QiX h]
theorem QbG:Jm n a b (some:Int->Option Int)=some (cd a b):=by
 obtain ⟨e1,e2,c,d⟩:=Qe3 h0 h1 ha;unfold Jm cd;rw [e1,Q0,Q0,e2,c,d];by_cases h:0<a % b
 ·rw [QY (by simpa using h),QiV h]
 ·rw [Q9 (by simpa using h),QiX h]
end
theorem upA {n:Nat} {a:Int} (h0:0<=a) (ha:a<=1000000000):JH n a (some:Int->Option Int)=some (cd a 1000):=by
 unfold JH;rw [Qbg h0 (by decide) ha,Q0]
theorem Qb8 {a:Int} (h0:0<=a) (ha:a<=1000000000):decide (Int.tmod a 1000<0)=false/\wJ (Int.tdiv a 1000)=a / 1000:=by
 rw [Qj2 h0,Qj5 h0];exact ⟨by simp;omega,Q7 (by omega) (by omega)⟩
theorem QfH {n:Nat} {a:Int} (h0:0<=a) (ha:a<=1000000000):Vf n a (some:Int->Option Int)=some (a / 1000):=by
 obtain ⟨e1,e2⟩:=Qb8 h0 ha;unfold Vf KC;rw [Q9 (by decide),EC (by decide),Q0,Q0,e1,QiP,e2,Q0]
theorem QeR {n:Nat} {a:Int} (h0:0<=a) (ha:a<=1000000000):Vv n a 1000 (some:Int->Option Int)=some (a / 1000):=by
 obtain ⟨e1,e2⟩:=Qb8 h0 ha;unfold Vv;rw [EC (by decide),Q0,Q0,e1,QiP,e2]
def sq (x:Int):Int:=(PL 400 x (some:Int->Option Int)).getD 0
theorem Q50 {x:Int} (h0:0<=x) (hx:x<=1000000000):Qab x (sq x)/\PL 400 x (some:Int->Option Int)=some (sq x)/\Nv 400 x (some:Int->Option Int)=some (sq x):=by
 obtain ⟨r,h1,h2⟩:=Qgk h0 hx;have e:sq x=r:=by unfold sq;rw [h2];rfl
 rw [e];exact ⟨h1,h2,QfK h0 hx h1⟩
namespace Run
variable (X:Run)
def S (j:Nat):Int:=sq (X.K (X.N-j))
def T:Nat->Int
 |0=>0
 |b+1=>T b+cd 20000000 (X.S b+X.S (b+1))
variable {X} (h:X.OK)
include h
theorem Qdk {j:Nat} (hj:j<=X.N):0<=X.S j/\X.S j<=25000/\(1<=j->j<X.N->1000<=X.S j):=by
 have h1:=Q3W h (X.N-j) (by omega);obtain ⟨⟨c,e,f⟩,_,_⟩:=Q50 (x:=X.K (X.N-j)) (by omega) (by omega);refine ⟨c,Q82 c (by decide) e (by omega),fun a b=>?_⟩;have h2:=h1.2.2 (by omega) (by omega);by_cases d:1000<=X.S j
 ·exact d
 ·have:=Q47 (show 0<=sq (X.K (X.N-j))+1 by omega) (show sq (X.K (X.N-j))+1<=1000 by unfold S at d;omega);omega
theorem Q1q {b:Nat} (hb:b<X.N):1000<=X.S b+X.S (b+1)/\X.S b+X.S (b+1)<=50000/\0<=cd 20000000 (X.S b+X.S (b+1))/\cd 20000000 (X.S b+X.S (b+1))<=20001:=by
 have h2:=h.h2;have a:=Qdk h (j:=b) (by omega);have c:=Qdk h (j:=b+1) (by omega);have hs:1000<=X.S b+X.S (b+1):=by
  by_cases f:b=0
  ·have:=c.2.2 (by omega) (by omega);omega
  ·have:=a.2.2 (by omega) (by omega);omega
 have d:=D6 (show (0:Int)<=20000000 by decide) (show 1<=X.S b+X.S (b+1) by omega);have e:20000000 / (X.S b+X.S (b+1))<=20000:=Int.ediv_le_of_le_mul (by omega) (by omega);omega
theorem T_rng:∀ b:Nat,b<=X.N->0<=X.T b/\X.T b<=20001*b
 |0,_=>by rw [T];omega
 |b+1,hb=>by
  have:=T_rng b (by omega);have:=Q1q h (b:=b) (by omega);rw [T];omega
theorem T_mono {a:Nat}:∀ {b:Nat},a<=b->b<=X.N->X.T a<=X.T b
 |0,h1,_=>by rw [show a=0 by omega];omega
 |b+1,h1,h2=>by
  by_cases e:a=b+1
  ·subst e;omega
  ·have:=T_mono (a:=a) (b:=b) (by omega) (by omega);have:=Q1q h (b:=b) (by omega);rw [T];omega
def TT (X:Run):LL:=arr X.T (X.N+1)
theorem QhF:Ga 400 X.C (X.st:Int) X.nm (X.t:Int) X.sp X.ac X.br Tu2=some (arr X.S (X.N+1),0):=by
 have hN:=h.hN;have h2:=h.h2;have hl:=h.hC.len;have ak:J6 400 X.C (X.st:Int) X.nm (X.t:Int) X.sp X.ac X.br (some:Int->Option Int)=some 0:=by
  unfold J6;rw [B5 h.hk,Q0,Q9 (by decide),Q9 (by simp;omega)];refine Qv (r:=fun m i=>YH 400 X.C ((X.C.length:Nat):Int) _ _ m i) (N:=X.C.length) (fun m k hk=>?_) (fun m=>?_) X.C.length 400 0 (by omega) (by omega)
  ·have b0:=h.hC.b0 k hk;have b1:=h.hC.b1 k hk;have g0:=h.hC.g0 k hk;have g1:=h.hC.g1 k hk;rw [YH,Qc hk,Qe,h.hC.row k hk];simp -implicitDefEqProofs only [Q0,List.getElem?_cons_zero,List.getElem?_cons_succ,Q2,Xx,QH,QiT,QiP,QiS,QiR,show decide ((cl X.C k).1<1000)=false by simp;omega,show decide ((cl X.C k).1>100000)=false by simp;omega,show decide ((cl X.C k).2 < -40)=false by simp;omega,show decide ((cl X.C k).2>40)=false by simp;omega,Qs (show k<=1000 by omega)]
  ·rw [YH,Qi,QiP,Q7 (by omega) (by omega),show decide ((X.st:Int)<0)=false by simp,show decide ((X.st:Int)>((X.C.length:Nat):Int)-2)=false by simp;omega];rfl
 unfold Ga;rw [ak,Q0,Q9 (by rfl),sqA h,Q0];have hW:X.W.length=X.N+1:=YO;rw [hW];have:=Qv (r:=fun m i=>ZA 400 ((X.N+1:Nat):Int) (fun _ _ d=>some (d,(0:Int))) m i (arr (fun j=>if j<i.toNat then X.S j else X.K (X.N-j)) (X.N+1))) (N:=X.N+1) (e:=some (arr X.S (X.N+1),0)) (fun m k hk=>?_) (fun m=>?_) (X.N+1) 400 0 (by omega) (by omega)
 ·rw [show arr (fun j=>if j<(((0:Nat):Int)).toNat then X.S j else X.K (X.N-j)) (X.N+1)=X.W from XM fun j hj=>QiX (by simp)] at this;exact this
 ·simp only [Int.toNat_natCast];have hK:=Q3W h (X.N-k) (by omega);rw [ZA,Qc hk,QiT,YO,Q7k hk,QiX (Nat.lt_irrefl k),(Q50 (by omega) (by omega)).2.1,Q0,Q9C hk,Qs (by omega)];refine congrArg _ (XM fun j hj=>?_);by_cases aj:j=k
  ·subst aj;rw [QiV rfl,QiV (by omega)];rfl
  ·rw [QiX aj];by_cases a:j<k
   ·rw [QiV a,QiV (by omega)]
   ·rw [QiX a,QiX (by omega)]
 ·simp only [Int.toNat_natCast];rw [ZA,Qi,QiP];exact congrArg (fun l=>some (l,(0:Int))) (XM fun j hj=>QiV hj)
theorem timA:Jo 400 X.C (X.st:Int) X.nm (X.t:Int) X.sp X.ac X.br Tu2=some (X.TT,0):=by
 have hN:=h.hN;have hl:=h.hC.len;unfold Jo;rw [QhF h,Q0,Q9 (by rfl),YO,show (bif decide ((0:Int)<=((X.N+1:Nat):Int))&&decide (((X.N+1:Nat):Int)<=((X.N+1:Nat):Int)) then some () else none)=some () by rw [QY (by simp;omega)],Q0,Int.toNat_natCast,XF (by omega),Q0,Ca];have:=Qv (r:=fun m i=>Ws 400 (arr X.S (X.N+1)) (fun _ _ g=>some (g,(0:Int))) m ((i.toNat+1:Nat):Int) (arr (fun j=>if j<=i.toNat then X.T j else 0) (X.N+1))) (N:=X.N) (e:=some (X.TT,0)) (fun m k hk=>?_) (fun m=>?_) X.N 400 0 (by omega) (by omega)
 ·rw [show arr (fun j=>if j<=(((0:Nat):Int)).toNat then X.T j else 0) (X.N+1)=arr (fun _=>0) (X.N+1) from XM fun j hj=>by
   split
   ·rename_i h0;have h0:j=0:=by simpa using h0
    rw [h0,T]
   ·rfl] at this
  exact this
 ·simp only [Int.toNat_natCast];have hi:=Q1q h hk;have hT:=T_rng h k (by omega);rw [Ws,YO,Qc (show k+1<X.N+1 by omega),QiT,Jq (show k+1<=1000 by omega) (by omega),show k+1-1=k by omega,Qe,Qe,JW (show k<X.N+1 by omega),JW (show k+1<X.N+1 by omega)];simp -implicitDefEqProofs only [Q0,List.getElem?_cons_zero,Q2,wI (a:=X.S k+X.S (k+1)) rfl (show -1000000<=X.S k+X.S (k+1) by omega) (show X.S k+X.S (k+1)<=1000000000 by omega),Qbg (n:=400) (show (0:Int)<=20000000 by decide) (show 1<=X.S k+X.S (k+1) by omega) (by decide)];rw [YO,Q7k (show k<X.N+1 by omega),QiV (Qja k),Q9C (show k+1<X.N+1 by omega),Qs (by omega),wI (a:=X.T k+cd 20000000 (X.S k+X.S (k+1))) (b:=X.T (k+1)) rfl (by rw [T];omega) (by rw [T];omega)];refine congrArg _ (XM fun j hj=>?_);by_cases aj:j=k+1
  ·subst aj;rw [QiV rfl,QiV (by omega)]
  ·rw [QiX aj];by_cases c:j<=k
   ·rw [QiV c,QiV (by omega)]
   ·rw [QiX c,QiX (by omega)]
 ·simp only [Int.toNat_natCast];rw [Ws,YO,Qi,QiP];exact congrArg (fun l=>some (l,(0:Int))) (XM fun j hj=>QiV (by omega))
end Run
namespace Run
variable {X:Run} (h:X.OK)
include h
theorem Qhq:C5 400 X.C (X.st:Int) X.nm (X.t:Int) X.sp X.ac X.br (some:Int->Option Int)=some 0:=by
 have hN:=h.hN;have h2:=h.h2;have hl:=h.hC.len;obtain ⟨t1,t2,s1,s2,a1,a2,b1,b2⟩:=h.hk;have aj:XW 400 X.nm (X.t:Int) X.sp X.ac X.br (some:Bool->Option Bool)=some true:=by
  unfold XW;simp -implicitDefEqProofs only [Q0,List.getElem?_cons_zero,List.getElem?_cons_succ,Q2,Xx,QH,QiT,QiP,QiS,QiR,Q3K t1 (show (X.t:Int)<=40 by omega),Q3K (show 1000<=X.sp by omega) (show X.sp<=100000 by omega),Q3K (show 100<=X.ac by omega) (show X.ac<=2000 by omega),Q3K (show 100<=X.br by omega) (show X.br<=2000 by omega)]
 unfold C5;rw [aj,Q0,Q9 (by decide),Q9 (by simp;omega)];refine Qv (r:=fun m i=>K5 400 X.C _ _ m i) (N:=X.C.length) (fun m k hk=>?_) (fun m=>?_) X.C.length 400 0 (by omega) (by omega)
 ·have b0:=h.hC.b0 k hk;have b1:=h.hC.b1 k hk;have g0:=h.hC.g0 k hk;have g1:=h.hC.g1 k hk;rw [K5,Qc hk,Qe,h.hC.row k hk];simp -implicitDefEqProofs only [Q0,List.getElem?_cons_zero,List.getElem?_cons_succ,Q2,Xx,QH,QiT,QiP,QiS,QiR,Q3K (show 1000<=(cl X.C k).1 by omega) (show (cl X.C k).1<=100000 by omega),Q3K (show -40<=(cl X.C k).2 by omega) (show (cl X.C k).2<=40 by omega),Qs (show k<=1000 by omega)]
 ·rw [K5,Qi,QiP,Q7 (by omega) (by omega),show decide ((X.st:Int)<0)=false by simp,show decide ((X.st:Int)>((X.C.length:Nat):Int)-2)=false by simp;omega];rfl
theorem QhJ:SG 400 X.C (X.st:Int) X.nm (X.t:Int) X.sp X.ac X.br Tu2=some (arr X.S (X.N+1),0):=by
 have hN:=h.hN;have h2:=h.h2;have hl:=h.hC.len;have t2:=h.hk.t2;have hw:wJ (((X.C.length:Nat):Int)-(X.st:Int))=((X.N:Nat):Int):=by rw [Q7 (by omega) (by omega)];omega
 unfold SG;rw [Qhq h,Q0,Q9 (by rfl),hw,Qs (by omega),show (bif decide ((0:Int)<=((X.N+1:Nat):Int))&&decide (((X.N+1:Nat):Int)<=((X.N+1:Nat):Int)) then some () else none)=some () by rw [QY (by simp;omega)],Q0,Int.toNat_natCast,XF (by omega),Q0,Ca];have e1:∀ k0:Int->Bool->LL->Option (LL × Int),Uz 400 X.C (X.st:Int) ((X.N:Nat):Int) X.nm (X.t:Int) X.sp X.ac X.br k0 400 (1:Int) (arr (fun _=>0) (X.N+1))=k0 ((X.N:Nat):Int) false (arr (fun j=>if 1<=j/\j<=X.N-1 then X.V j else 0) (X.N+1)):=by
  intro k0;have:=Qv (r:=fun m i=>Uz 400 X.C (X.st:Int) ((X.N:Nat):Int) X.nm (X.t:Int) X.sp X.ac X.br k0 m ((i.toNat+1:Nat):Int) (arr (fun j=>if 1<=j/\j<=i.toNat then X.V j else 0) (X.N+1))) (N:=X.N-1) (e:=k0 ((X.N:Nat):Int) false (arr (fun j=>if 1<=j/\j<=X.N-1 then X.V j else 0) (X.N+1))) (fun m i hi=>?_) (fun m=>?_) (X.N-1) 400 0 (by omega) (by omega)
  ·rw [show arr (fun j=>if 1<=j/\j<=(((0:Nat):Int)).toNat then X.V j else 0) (X.N+1)=arr (fun _=>0) (X.N+1) from XM fun j hj=>QiX (by simp;omega)] at this;exact this
  ·simp only [Int.toNat_natCast];have ax:=Q9n h (b:=i+1) (by omega);have hV:=Qci h (b:=i+1) (by omega);rw [Uz,Qc (show i+1<X.N by omega),QiT,wI (show (X.st:Int)+((i+1:Nat):Int)=((X.st+(i+1):Nat):Int) by omega) (by omega) (by omega),wI (show ((X.st+(i+1):Nat):Int)-1=((X.st+i:Nat):Int) by omega) (by omega) (by omega),Qh7 h.hC (by omega) (by omega),Q0,Qh7 h.hC (by omega) (by omega),Q0,YO,Q9C (by omega),Qs (by omega)];refine congrArg _ (XM fun j hj=>?_);have e1:(if Q6H X.C X.sp (X.st+(i+1)) X.t<Q6H X.C X.sp (X.st+i) X.t then Q6H X.C X.sp (X.st+(i+1)) X.t else Q6H X.C X.sp (X.st+i) X.t)=X.lo (i+1):=rfl;by_cases aj:j=i+1
   ·subst aj;rw [QiV rfl,e1,wI (a:=X.lo (i+1)*X.lo (i+1)) (b:=X.V (i+1)) rfl (by omega) (by omega),QiV (by omega)]
   ·rw [QiX aj];by_cases d:1<=j/\j<=i
    ·rw [QiV d,QiV (by omega)]
    ·rw [QiX d,QiX (by omega)]
  ·simp only [Int.toNat_natCast];rw [show X.N-1+1=X.N by omega,Uz,Qi,QiP]
 rw [e1];have e2:∀ k0:Int->Bool->LL->Option (LL × Int),UG 400 X.C (X.st:Int) ((X.N:Nat):Int) X.nm (X.t:Int) X.sp X.ac X.br k0 400 (0:Int) (arr (fun j=>if 1<=j/\j<=X.N-1 then X.V j else 0) (X.N+1))=k0 ((X.N:Nat):Int) false (arr (fun j=>if j<=X.N-1 then X.F j else 0) (X.N+1)):=by
  intro k0;have:=Qv (r:=fun m i=>UG 400 X.C (X.st:Int) ((X.N:Nat):Int) X.nm (X.t:Int) X.sp X.ac X.br k0 m i (arr (fun j=>if j<=X.N-1 then (if j<=i.toNat then X.F j else X.V j) else 0) (X.N+1))) (N:=X.N) (e:=k0 ((X.N:Nat):Int) false (arr (fun j=>if j<=X.N-1 then X.F j else 0) (X.N+1))) (fun m i hi=>?_) (fun m=>?_) X.N 400 0 (by omega) (by omega)
  ·rw [show arr (fun j=>if j<=X.N-1 then (if j<=(((0:Nat):Int)).toNat then X.F j else X.V j) else 0) (X.N+1)=arr (fun j=>if 1<=j/\j<=X.N-1 then X.V j else 0) (X.N+1) from XM fun j hj=>by
    by_cases q:j=0
    ·subst q;rw [QiV (by omega),QiV (by simp),QiX (by omega),F]
    ·by_cases c:j<=X.N-1
     ·rw [QiV c,QiX (by simp;omega),QiV (by omega)]
     ·rw [QiX c,QiX (by omega)]] at this
   exact this
  ·simp only [Int.toNat_natCast];have f:=h.hC.g0 (X.st+i) (by omega);have g:=h.hC.g1 (X.st+i) (by omega);have hr:=row h (b:=i) (by omega);have hF:=Qa2 h i (by omega);have hG:=QbE h (b:=i) (by omega);have ha:=Q4j h.hk.a1 h.hk.a2 f g;rw [UG,Qc hi,QiT,Qs (by omega),YO,Q7k (show i+1<X.N+1 by omega),Q7k (show i<X.N+1 by omega),wI (show (X.st:Int)+(i:Int)=((X.st+i:Nat):Int) by omega) (by omega) (by omega),Qe,hr];simp -implicitDefEqProofs only [Q0,List.getElem?_cons_zero,List.getElem?_cons_succ,Q2,Xx,QH,QiT,QiP,QiS,QiR,Qdf h.hk.a1 h.hk.a2 f g];rw [Q9C (show i+1<X.N+1 by omega),QiV (show i<=X.N-1 by omega),QiV (Qja i),QiX (show ¬ i+1<=i by omega),wI (a:=20000*acc X.ac (cl X.C (X.st+i)).2) (b:=X.G i) rfl (by omega) (by omega),wI (a:=X.F i+X.G i) (b:=X.F i+X.G i) rfl (by omega) (by omega)];refine congrArg _ (XM fun j hj=>?_);by_cases aj:j=i+1
   ·subst aj;rw [QiV rfl];by_cases n:i+1<=X.N-1
    ·rw [QiV n,QiV n,QiV (Qja (i+1)),F]
    ·rw [QiX n,QiX (show ¬ X.F i+X.G i<0 by omega),QiX n]
   ·rw [QiX aj];by_cases c:j<=X.N-1
    ·rw [QiV c,QiV c];by_cases d:j<=i
     ·rw [QiV d,QiV (by omega)]
     ·rw [QiX d,QiX (by omega)]
    ·rw [QiX c,QiX c]
  ·simp only [Int.toNat_natCast];rw [UG,Qi,QiP];refine congrArg _ (XM fun j hj=>?_);by_cases c:j<=X.N-1
   ·rw [QiV c,QiV c,QiV (by omega)]
   ·rw [QiX c,QiX c]
 rw [e2];have s:∀ k0:Int->Bool->LL->Option (LL × Int),UK 400 X.C (X.st:Int) X.nm (X.t:Int) X.sp X.ac X.br k0 400 ((X.N:Nat):Int) (arr (fun j=>if j<=X.N-1 then X.F j else 0) (X.N+1))=k0 0 false X.W:=by
  intro k0;have:=Qv (r:=fun m i=>UK 400 X.C (X.st:Int) X.nm (X.t:Int) X.sp X.ac X.br k0 m ((X.N-i.toNat:Nat):Int) (arr (fun j=>if X.N-j<=i.toNat then X.K (X.N-j) else X.F j) (X.N+1))) (N:=X.N) (e:=k0 0 false X.W) (fun m i hi=>?_) (fun m=>?_) X.N 400 0 (by omega) (by omega)
  ·rw [show arr (fun j=>if X.N-j<=(((0:Nat):Int)).toNat then X.K (X.N-j) else X.F j) (X.N+1)=arr (fun j=>if j<=X.N-1 then X.F j else 0) (X.N+1) from XM fun j hj=>by
    by_cases aq:j=X.N
    ·subst aq;rw [QiV (by simp),QiX (by omega),Nat.sub_self,K]
    ·rw [QiX (by simp;omega),QiV (by omega)]] at this
   exact this
  ·simp only [Int.toNat_natCast];obtain ⟨b,hb⟩:∃ b,b+1=X.N-i:=⟨X.N-i-1,by omega⟩;have f:=h.hC.g0 (X.st+b) (by omega);have g:=h.hC.g1 (X.st+b) (by omega);have hr:=row h (b:=b) (by omega);have hK:=Q3W h i (by omega);have hL:=QaF h (b:=b) (by omega);have aw:=Q4q h.hk.b1 h.hk.b2 f g;rw [<- hb,UK,QY (by simp),Jq (show b+1<=1000 by omega) (by omega),Nat.add_sub_cancel,YO,Q7k (show b<X.N+1 by omega),Q7k (show b+1<X.N+1 by omega),wI (show (X.st:Int)+((b+1:Nat):Int)=((X.st+b+1:Nat):Int) by omega) (by omega) (by omega),Jq (show X.st+b+1<=1000 by omega) (by omega),Nat.add_sub_cancel,Qe,hr];simp -implicitDefEqProofs only [Q0,List.getElem?_cons_zero,List.getElem?_cons_succ,Q2,Xx,QH,QiT,QiP,QiS,QiR,QeI h.hk.b1 h.hk.b2 f g];rw [Q9C (show b<X.N+1 by omega),show X.N-(i+1)=b by omega,QiX (show ¬ X.N-b<=i by omega),QiV (show X.N-(b+1)<=i by omega),show X.N-(b+1)=i by omega,wI (a:=20000*brk X.br (cl X.C (X.st+b)).2) (b:=X.L b) rfl (by omega) (by omega),wI (a:=X.K i+X.L b) (b:=X.K i+X.L b) rfl (by omega) (by omega)];refine congrArg _ (XM fun j hj=>?_);by_cases ak:j=b
   ·subst ak;rw [QiV rfl,QiV (show X.N-j<=i+1 by omega),show X.N-j=i+1 by omega,K,show X.N-(i+1)=j by omega]
   ·rw [QiX ak];by_cases d:X.N-j<=i
    ·rw [QiV d,QiV (by omega)]
    ·rw [QiX d,QiX (by omega)]
  ·simp only [Int.toNat_natCast];rw [Nat.sub_self,UK,Q9 (by decide)];refine congrArg _ (XM fun j hj=>QiV (by omega))
 rw [s];have:=Qv (r:=fun m i=>Vr 400 ((X.N:Nat):Int) (fun _ _ t=>some (t,(0:Int))) m i (arr (fun j=>if j<i.toNat then X.S j else X.K (X.N-j)) (X.N+1))) (N:=X.N+1) (e:=some (arr X.S (X.N+1),0)) (fun m k hk=>?_) (fun m=>?_) (X.N+1) 400 0 (by omega) (by omega)
 ·rw [show arr (fun j=>if j<(((0:Nat):Int)).toNat then X.S j else X.K (X.N-j)) (X.N+1)=X.W from XM fun j hj=>QiX (by simp)] at this;exact this
 ·simp only [Int.toNat_natCast];have hK:=Q3W h (X.N-k) (by omega);rw [Vr,QY (by simp;omega),YO,Q7k hk,QiX (Nat.lt_irrefl k),(Q50 (by omega) (by omega)).2.2,Q0,Q9C hk,Qs (by omega)];refine congrArg _ (XM fun j hj=>?_);by_cases an:j=k
  ·subst an;rw [QiV rfl,QiV (by omega)];rfl
  ·rw [QiX an];by_cases d:j<k
   ·rw [QiV d,QiV (by omega)]
   ·rw [QiX d,QiX (by omega)]
 ·simp only [Int.toNat_natCast];rw [Vr,Q9 (by simp;omega)];exact congrArg (fun l=>some (l,(0:Int))) (XM fun j hj=>QiV hj)
theorem timB:Ps 400 X.C (X.st:Int) X.nm (X.t:Int) X.sp X.ac X.br Tu2=some (X.TT,0):=by
 have hN:=h.hN;have hl:=h.hC.len;unfold Ps;rw [QhJ h,Q0,Q9 (by rfl),YO,show (bif decide ((0:Int)<=((X.N+1:Nat):Int))&&decide (((X.N+1:Nat):Int)<=((X.N+1:Nat):Int)) then some () else none)=some () by rw [QY (by simp;omega)],Q0,Int.toNat_natCast,XF (by omega),Q0,Ca];have:=Qv (r:=fun m i=>J2 400 (arr X.S (X.N+1)) (fun _ _ o=>some (o,(0:Int))) m ((i.toNat+1:Nat):Int) (arr (fun j=>if j<=i.toNat then X.T j else 0) (X.N+1))) (N:=X.N) (e:=some (X.TT,0)) (fun m k hk=>?_) (fun m=>?_) X.N 400 0 (by omega) (by omega)
 ·rw [show arr (fun j=>if j<=(((0:Nat):Int)).toNat then X.T j else 0) (X.N+1)=arr (fun _=>0) (X.N+1) from XM fun j hj=>by
   split
   ·rename_i c;have c:j=0:=by simpa using c
    rw [c,T]
   ·rfl] at this
  exact this
 ·simp only [Int.toNat_natCast];have hi:=Q1q h hk;have hT:=T_rng h k (by omega);rw [J2,YO,Qc (show k+1<X.N+1 by omega),QiT,Jq (show k+1<=1000 by omega) (by omega),show k+1-1=k by omega,YO,Q7k (show k<X.N+1 by omega),QiV (Qja k),Qe,Qe,JW (show k<X.N+1 by omega),JW (show k+1<X.N+1 by omega)];simp -implicitDefEqProofs only [Q0,List.getElem?_cons_zero,Q2,wI (a:=X.S k+X.S (k+1)) rfl (show -1000000<=X.S k+X.S (k+1) by omega) (show X.S k+X.S (k+1)<=1000000000 by omega),QbG (n:=400) (show (0:Int)<=20000000 by decide) (show 1<=X.S k+X.S (k+1) by omega) (by decide)];rw [Q9C (show k+1<X.N+1 by omega),Qs (by omega),wI (a:=X.T k+cd 20000000 (X.S k+X.S (k+1))) (b:=X.T (k+1)) rfl (by rw [T];omega) (by rw [T];omega)];refine congrArg _ (XM fun j hj=>?_);by_cases aj:j=k+1
  ·subst aj;rw [QiV rfl,QiV (by omega)]
  ·rw [QiX aj];by_cases d:j<=k
   ·rw [QiV d,QiV (by omega)]
   ·rw [QiX d,QiX (by omega)]
 ·simp only [Int.toNat_natCast];rw [J2,YO,Qi,QiP];exact congrArg (fun l=>some (l,(0:Int))) (XM fun j hj=>QiV (by omega))
end Run
def sl (Se s:LL) (j:Nat):Nat:=(PO Se (s.getD j [])).length
def pos (Se s:LL):Nat->Nat
 |0=>0
 |j+1=>pos Se s j+sl Se s (j+1)
theorem SY {f:Nat->Int} {n:Nat}:arr f n++[[Q4 (f n)]]=arr f (n+1):=by simp [arr,List.range_succ]
section
variable {Se s:LL} (hs:∀ r∈s,Dz Se r)
include hs
theorem Fq {j:Nat} (hj:j<s.length):∃ (x d:Int) (nm:List UInt8) (b c st:Int),s[j]? = some [Q4 x,Q4 d]/\Q1 Se x=some [D.str nm,Q4 (sl Se s j),Q4 b,Q4 c,Q4 st]/\2<=sl Se s j/\sl Se s j<=12/\(d=0\/d=1):=by
 obtain ⟨x,d,nm,a,b,c,st,e,f,h2,g⟩:=hs _ (QiW hj);have a0:=h2.a0;have a1:=h2.a1;have e2:s[j]? = some [Q4 x,Q4 d]:=by rw [QiQ hj,e]
 have h:sl Se s j=a.toNat:=by
  unfold sl;rw [List.getD_eq_getElem?_getD,e2];show (PO Se [Q4 x,Q4 d]).length=_;rw [H4 f,List.length_replicate]
 refine ⟨x,d,nm,b,c,st,e2,?_,by omega,by omega,g⟩;rw [f,h,show ((a.toNat:Nat):Int)=a by omega]
omit hs in
theorem Q2u:∀ {j:Nat},j<s.length->(Yi Se (s.take (j+1))).length=sl Se s 0+pos Se s j
 |0,hj=>by
  rw [NN (QiQ hj)];simp only [List.take_zero,Yi,List.flatMap_nil,List.nil_append,pos,sl,List.getD_eq_getElem?_getD,QiQ hj,Option.getD_some];omega
 |j+1,hj=>by
  have:=Q2u (j:=j) (by omega);rw [NN (QiQ hj),List.length_append,this,pos];simp only [sl,List.getD_eq_getElem?_getD,QiQ hj,Option.getD_some];omega
omit hs in
theorem Q87 {i j:Nat} (a:i<=j):pos Se s i<=pos Se s j:=by
 induction j with
 |zero=>rw [show i=0 by omega];omega
 |succ j ih=>
  by_cases e:i=j+1
  ·subst e;omega
  ·have:=ih (by omega);rw [pos];omega
theorem Q5n {i j:Nat} (a:i<j) (h2:j<s.length):pos Se s i+2<=pos Se s j:=by
 obtain ⟨_,_,_,_,_,_,_,_,b,_⟩:=Fq hs (j:=i+1) (by omega);have:=Q87 (Se:=Se) (s:=s) (i:=i+1) (j:=j) (by omega);rw [pos] at this;omega
end
def YS (Se s:LL) (nm:List UInt8) (tl sp ac br:Int):Run:=⟨Yi Se s,nm,sp,ac,br,tl.toNat,sl Se s 0,pos Se s (s.length-1)⟩
section
variable {St Pt Se Li s:LL} (h:RtF St Pt Se Li s) {nm:List UInt8} {tl sp ac br:Int} (hk:StkN tl sp ac br)
include h
theorem CT:HV Se s=(sl Se s 0:Int):=by
 have l2:=h.l2;obtain ⟨x,d,_,b,c,st,e,a,_⟩:=Fq h.st (j:=0) (by omega);cases s with
 |nil=>cases e
 |cons r t=>
  injection e with e
  subst e;simp only [HV,a]
include hk
theorem NQ:(YS Se s nm tl sp ac br).OK where
 hC:=Q7C h.st h.l24
 hk:=by
  have:=hk.t1;show StkN ((tl.toNat:Nat):Int) sp ac br;rw [show ((tl.toNat:Nat):Int)=tl by omega];exact hk
 hN:=by
  have l2:=h.l2;have:=Q2u (Se:=Se) (s:=s) (j:=s.length-1) (by omega);rw [show s.length-1+1=s.length by omega,Qj7] at this;exact this
 h2:=by
  have l2:=h.l2;have:=Q5n h.st (i:=0) (j:=s.length-1) (by omega) (by omega);show 2<=pos Se s (s.length-1);omega
end
section
variable {St Pt Se Li s:LL} (h:RtF St Pt Se Li s) {nm:List UInt8} {tl sp ac br:Int} (hk:StkN tl sp ac br)
def fEN (Se s:LL) (X:Run) (j:Nat):Int:=X.T (pos Se s (j-1))
def fLV (Se s:LL) (X:Run) (j:Nat):Int:=if j<s.length-1 then X.T (pos Se s j+X.t) else X.T X.N
def AE (X:Run):Int:=cd (X.T X.N) 1000
include h hk
theorem tEq:(((YS Se s nm tl sp ac br).t:Nat):Int)=tl:=by
 have _:=h.l2;have:=hk.t1;show ((tl.toNat:Nat):Int)=tl;omega
theorem Qch:Jo 400 (Yi Se s) (sl Se s 0:Int) nm tl sp ac br Tu2=some ((YS Se s nm tl sp ac br).TT,0):=by
 have:=Run.timA (NQ h (nm:=nm) hk);rw [tEq h hk] at this;exact this
theorem QbM:Ps 400 (Yi Se s) (sl Se s 0:Int) nm tl sp ac br Tu2=some ((YS Se s nm tl sp ac br).TT,0):=by
 have:=Run.timB (NQ h (nm:=nm) hk);rw [tEq h hk] at this;exact this
theorem AZ {b:Nat} (hb:b<=(YS Se s nm tl sp ac br).N):0<=(YS Se s nm tl sp ac br).T b/\(YS Se s nm tl sp ac br).T b<=7000000:=by
 have hX:=NQ h (nm:=nm) hk;have a:=Run.T_rng hX b hb;have:=hX.hN;have:=hX.hC.len;omega
theorem ND:0<=AE (YS Se s nm tl sp ac br)/\AE (YS Se s nm tl sp ac br)<=7001:=by
 have a:=AZ h (nm:=nm) hk (Qja _);have:=D6 a.1 (show (1:Int)<=1000 by decide);unfold AE;omega
theorem QcA {j:Nat} (hj:j<s.length):pos Se s j<=(YS Se s nm tl sp ac br).N/\(j<s.length-1->pos Se s j+(YS Se s nm tl sp ac br).t<=(YS Se s nm tl sp ac br).N):=by
 have a:=Q87 (Se:=Se) (s:=s) (i:=j) (j:=s.length-1) (by omega);have h2:=tEq h (nm:=nm) hk;have:=hk.t2;refine ⟨a,fun b=>?_⟩;have:=Q5n h.st (i:=j) (j:=s.length-1) b (by omega);show pos Se s j+_<=pos Se s (s.length-1);omega
theorem Qdu:KL 400 St Pt Se Li s 0 nm tl sp ac br Tu4=some (arr (fEN Se s (YS Se s nm tl sp ac br)) s.length,arr (fLV Se s (YS Se s nm tl sp ac br)) s.length,AE (YS Se s nm tl sp ac br),0):=by
 have l2:=h.l2;have l24:=h.l24;have ht:=tEq h (nm:=nm) hk;have hX:=NQ h (nm:=nm) hk;have au:=hX.hN;have ar:=hX.hC.len;have ao:=Qch h (nm:=nm) hk;have ak:=fun (j:Nat) (hj:j<s.length)=>QcA h (nm:=nm) hk hj
 have an:=AZ h (nm:=nm) hk (Qja _);have hN:(YS Se s nm tl sp ac br).N=pos Se s (s.length-1):=rfl;unfold KL;rw [Qhd h.lay rfl h.l2 h.l24 h.rt h.st hk,Q0,Q9 (by rfl),CT h,ao,Q0,AX h.l24,Q0];revert hX au ar ak an hN ht;generalize YS Se s nm tl sp ac br=X;intro ht hX au ar ak an hN;have p:∀ k0:Int->Int->Bool->LL->LL->Option (LL × LL × Int × Int),XP 400 X.TT s s ((s.length:Nat):Int) Se tl k0 400 0 0 [] []=k0 ((pos Se s (s.length-1):Nat):Int) ((s.length:Nat):Int) false (arr (fEN Se s X) s.length) (arr (fLV Se s X) (s.length-1)):=by
  intro k0;refine Qv (r:=fun m i=>XP 400 X.TT s s ((s.length:Nat):Int) Se tl k0 m ((pos Se s (i.toNat-1):Nat):Int) i (arr (fEN Se s X) i.toNat) (arr (fLV Se s X) (min i.toNat (s.length-1)))) (N:=s.length) (fun m i hi=>?_) (fun m=>?_) s.length 400 0 (by omega) (by omega)
  ·simp only [Int.toNat_natCast];obtain ⟨x,d,a3,b,c,st,e,q,a0,a1,hd⟩:=Fq h.st hi;have hp:=ak (i-1) (by omega);have f:=ak i hi;rw [XP,Qc hi,QiT,Qe,e];have hT:Q1 X.TT ((pos Se s (i-1):Nat):Int)=some [Q4 (fEN Se s X i)]:=by rw [Qe];exact JW (by omega)
   have hr:Yf (((arr (fEN Se s X) i).length+List.length [[D.int .i64 (fEN Se s X i)]])*8)=some ():=XF (by simp only [YO,Qj1,Qj4];omega);simp -implicitDefEqProofs only [Q0,List.getElem?_cons_zero,List.getElem?_cons_succ,Q2,hT,hr,SY,wI (show (i:Int)+1=((i+1:Nat):Int) by omega) (by omega) (by omega),wI (show ((s.length:Nat):Int)-1=((s.length-1:Nat):Int) by omega) (by omega) (by omega)];have aw:i<s.length-1->Q1 X.TT ((pos Se s i+X.t:Nat):Int)=some [Q4 (fLV Se s X i)]:=fun aj=>by
    have:=f.2 aj;rw [Qe];show (arr X.T (X.N+1))[pos Se s i+X.t]? = _;rw [JW (by omega)];unfold fLV;rw [QiV aj]
   have a:∀ k,k<=30->Yf (((arr (fLV Se s X) k).length+List.length [[D.int .i64 (fLV Se s X k)]])*8)=some ():=fun k hk=>XF (by simp only [YO,Qj1,Qj4];omega)
   by_cases t:i=0
   ·subst t;have aq:0<s.length-1:=by omega
    have:=aw aq;rw [show decide (((0:Nat):Int)>0)=false from rfl,QiP,Qc aq,QiT,wI (show ((pos Se s (0-1):Nat):Int)+tl=((pos Se s 0+X.t:Nat):Int) by rw [<- ht,show 0-1=0 from rfl];omega) (by omega) (by omega),this,Nat.min_eq_left (by omega),Nat.min_eq_left (by omega)];simp -implicitDefEqProofs only [Q0,List.getElem?_cons_zero,Q2,a 0 (by omega),SY]
   ·have a2:pos Se s i=pos Se s (i-1)+sl Se s i:=by
     obtain ⟨k,rfl⟩:∃ k,i=k+1:=⟨i-1,by omega⟩;rfl
    rw [show decide ((i:Int)>0)=true by simp;omega,QiT,q];simp -implicitDefEqProofs only [Q0,List.getElem?_cons_zero,List.getElem?_cons_succ,Q2,wI (show ((pos Se s (i-1):Nat):Int)+((sl Se s i:Nat):Int)=((pos Se s i:Nat):Int) by omega) (by omega) (by omega),Nat.add_sub_cancel];by_cases aj:i<s.length-1
    ·rw [Qc aj,QiT,wI (show ((pos Se s i:Nat):Int)+tl=((pos Se s i+X.t:Nat):Int) by omega) (by have:=f.2 aj;omega) (by have:=f.2 aj;omega),aw aj,Nat.min_eq_left (by omega),Nat.min_eq_left (by omega)];simp -implicitDefEqProofs only [Q0,List.getElem?_cons_zero,Q2,a i (by omega),SY]
    ·rw [show decide ((i:Int)<((s.length-1:Nat):Int))=false by simp;omega,QiP,Nat.min_eq_right (by omega),Nat.min_eq_right (by omega)]
  ·simp only [Int.toNat_natCast];rw [XP,Qi,QiP,Nat.min_eq_right (by omega)]
 rw [p];have hT:Q1 X.TT ((pos Se s (s.length-1):Nat):Int)=some [Q4 (fLV Se s X (s.length-1))]:=by
  rw [Qe];show (arr X.T (X.N+1))[pos Se s (s.length-1)]? = _;rw [JW (by omega)];unfold fLV;rw [QiX (by omega),hN]
 have hl:fLV Se s X (s.length-1)=X.T X.N:=by unfold fLV;rw [QiX (by omega)]
 have a:Yf (((arr (fLV Se s X) (s.length-1)).length+List.length [[D.int .i64 (fLV Se s X (s.length-1))]])*8)=some ():=XF (by simp only [YO,Qj1,Qj4];omega);simp -implicitDefEqProofs only [hT,Q0,List.getElem?_cons_zero,Q2,a,SY];rw [hl,upA an.1 (by omega),Q0,show s.length-1+1=s.length by omega];rfl
theorem QfY:P6 400 St Pt Se Li s 0 nm tl sp ac br Tu4=some (arr (fEN Se s (YS Se s nm tl sp ac br)) s.length,arr (fLV Se s (YS Se s nm tl sp ac br)) s.length,AE (YS Se s nm tl sp ac br),0):=by
 have l2:=h.l2;have l24:=h.l24;have ht:=tEq h (nm:=nm) hk;have t1:=hk.t1;have hX:=NQ h (nm:=nm) hk;have au:=hX.hN;have ar:=hX.hC.len;have aq:=QbM h (nm:=nm) hk;have aj:=fun (j:Nat) (hj:j<s.length)=>QcA h (nm:=nm) hk hj
 have an:=AZ h (nm:=nm) hk (Qja _);have hN:(YS Se s nm tl sp ac br).N=pos Se s (s.length-1):=rfl;unfold P6;rw [Q8K h hk,Q0,Q9 (by rfl),Q8p h,Q0,CT h,aq,Q0];revert hX au ar aj an hN ht;generalize YS Se s nm tl sp ac br=X;intro ht hX au ar aj an hN;have ak:X.TT.length=X.N+1:=YO;have hw:wJ (((s.length:Nat):Int)-0)=((s.length:Nat):Int):=by rw [Q7 (by omega) (by omega)];omega
 have p:∀ k0:Int->Int->Bool->LL->LL->Option (LL × LL × Int × Int),Zm 400 X.TT Se s 0 tl k0 400 0 0 [] []=k0 ((pos Se s (s.length-1):Nat):Int) ((s.length:Nat):Int) false (arr (fEN Se s X) s.length) (arr (fLV Se s X) s.length):=by
  intro k0;refine Qv (r:=fun m i=>Zm 400 X.TT Se s 0 tl k0 m ((pos Se s (i.toNat-1):Nat):Int) i (arr (fEN Se s X) i.toNat) (arr (fLV Se s X) i.toNat)) (N:=s.length) (fun m i hi=>?_) (fun m=>?_) s.length 400 0 (by omega) (by omega)
  ·simp only [Int.toNat_natCast];obtain ⟨x,d,a3,b,c,st,e,q,a0,a1,hd⟩:=Fq h.st hi;have hp:=aj (i-1) (by omega);have t:=aj i hi;have hT:Q1 X.TT ((pos Se s (i-1):Nat):Int)=some [Q4 (fEN Se s X i)]:=by rw [Qe];exact JW (by omega)
   have hr:Yf (((arr (fEN Se s X) i).length+List.length [[D.int .i64 (fEN Se s X i)]])*8)=some ():=XF (by simp only [YO,Qj1,Qj4];omega);have a:Yf (((arr (fLV Se s X) i).length+List.length [[D.int .i64 (fLV Se s X i)]])*8)=some ():=XF (by simp only [YO,Qj1,Qj4];omega);have aw:Q1 X.TT (if ((X.N:Nat):Int)<((pos Se s i+X.t:Nat):Int) then ((X.N:Nat):Int) else ((pos Se s i+X.t:Nat):Int))=some [Q4 (fLV Se s X i)]:=by
    unfold fLV;by_cases ao:i<s.length-1
    ·have:=t.2 ao;rw [QiX (by omega),QiV ao,Qe];exact JW (by omega)
    ·have e:i=s.length-1:=by omega
     rw [QiV (by rw [hN,e];omega),QiX ao,Qe];exact JW (by omega)
   rw [Zm,hw,Qc hi,QiT,ak,wI (show ((X.N+1:Nat):Int)-1=((X.N:Nat):Int) by omega) (by omega) (by omega)];simp -implicitDefEqProofs only [Q0,List.getElem?_cons_zero,List.getElem?_cons_succ,Q2,hT,hr,SY,wI (show (i:Int)+1=((i+1:Nat):Int) by omega) (by omega) (by omega)];by_cases u:i=0
   ·subst u;rw [show decide (((0:Nat):Int)>0)=false from rfl,QiP,wI (show ((pos Se s (0-1):Nat):Int)+tl=((pos Se s 0+X.t:Nat):Int) by rw [<- ht,show 0-1=0 from rfl];omega) (by omega) (by omega),aw];simp -implicitDefEqProofs only [Q0,List.getElem?_cons_zero,Q2,a,SY]
   ·have a2:pos Se s i=pos Se s (i-1)+sl Se s i:=by
     obtain ⟨k,rfl⟩:∃ k,i=k+1:=⟨i-1,by omega⟩;rfl
    rw [show decide ((i:Int)>0)=true by simp;omega,QiT,Qe,e];simp -implicitDefEqProofs only [Q0,List.getElem?_cons_zero,List.getElem?_cons_succ,Q2,q,wI (show ((pos Se s (i-1):Nat):Int)+((sl Se s i:Nat):Int)=((pos Se s i:Nat):Int) by omega) (by omega) (by omega),wI (show ((pos Se s i:Nat):Int)+tl=((pos Se s i+X.t:Nat):Int) by omega) (by omega) (by omega),aw,a,SY,Nat.add_sub_cancel]
  ·simp only [Int.toNat_natCast];rw [Zm,hw,Qi,QiP]
 have hT:Q1 X.TT ((X.N:Nat):Int)=some [Q4 (X.T X.N)]:=by rw [Qe];exact JW (by omega)
 rw [p,ak,wI (show ((X.N+1:Nat):Int)-1=((X.N:Nat):Int) by omega) (by omega) (by omega)];simp -implicitDefEqProofs only [hT,Q0,List.getElem?_cons_zero,Q2,QbG (n:=400) an.1 (show (1:Int)<=1000 by decide) (by omega)];rfl
end
abbrev Occ:=Int × Int × Int
def enc (q:Occ):List D:=[Q4 q.1,Q4 q.2.1,Q4 q.2.2]
def Pq (q:Occ):Bool:=decide (q.2.1<q.2.2)
def Mb (T:List Occ) (r:Nat) (f t:Int):List Occ:=match T[r]? with
 |some (_,a,b)=>if a<b then T.set r ((r:Int),(if a<f then a else f),(if t<b then b else t)) else T.set r ((r:Int),f,t)
 |none=>T
theorem NS {T:List Occ} {r:Nat} {f t:Int}:(Mb T r f t).length=T.length:=by
 unfold Mb;split
 ·split <;> simp
 ·rfl
theorem QeA {n:Nat} {T:List Occ} {r:Nat} {f t:Int} (h:r<T.length):Xm n (T.map enc) (r:Int) f t (some:LL->Option LL)=some ((Mb T r f t).map enc):=by
 obtain ⟨⟨x,a,b⟩,e⟩:∃ q,T[r]? = some q:=⟨T[r],QiQ h⟩;have e2:(T.map enc)[r]? = some [Q4 x,Q4 a,Q4 b]:=by rw [QiZ,e];rfl
 unfold Xm;rw [Qj3,Y0 (by omega) (by omega)];simp -implicitDefEqProofs only [Q0,List.getElem?_cons_zero,List.getElem?_cons_succ,Q2,Xx,QH,QiT,QiP,QiS,QiR,Int.toNat_natCast,e2,List.set_cons_zero,List.set_cons_succ];unfold Mb;simp only [e];by_cases ac:a<b
 ·rw [show decide (a<b)=true by simpa using ac,QiT,QiV ac,List.map_set];rfl
 ·rw [show decide (a<b)=false by simpa using ac,QiP,QiX ac,List.map_set];rfl
theorem QgV {n:Nat} {T:List Occ} {r:Nat} {f t:Int} (h:r<T.length) (aj:f<t):YM n (T.map fun q=>[D.bool (Pq q)]) (T.map enc) (r:Int) f t Tu2=some ((Mb T r f t).map (fun q=>[D.bool (Pq q)]),(Mb T r f t).map enc):=by
 obtain ⟨⟨x,a,b⟩,e⟩:∃ q,T[r]? = some q:=⟨T[r],QiQ h⟩;have e2:(T.map enc)[r]? = some [Q4 x,Q4 a,Q4 b]:=by rw [QiZ,e];rfl
 have g:(T.map fun q=>[D.bool (Pq q)])[r]? = some [D.bool (decide (a<b))]:=by rw [QiZ,e];rfl
 unfold YM;rw [Qj3,Qj3,Y0 (by omega) (by omega)];simp -implicitDefEqProofs only [Q0,List.getElem?_cons_zero,List.getElem?_cons_succ,Q2,Xx,QH,QiT,QiP,QiS,QiR,Int.toNat_natCast,e2,g,N3,List.set_cons_zero,List.set_cons_succ];unfold Mb;simp only [e];by_cases ac:a<b
 ·rw [show decide (a<b)=true by simpa using ac,QiT,QiV ac,List.map_set,List.map_set,show Pq ((r:Int),(if a<f then a else f),(if t<b then b else t))=true by simp only [Pq,decide_eq_true_eq];split <;> split <;> omega];rfl
 ·rw [show decide (a<b)=false by simpa using ac,QiP,QiX ac,List.map_set,List.map_set,show Pq ((r:Int),f,t)=true by simpa [Pq] using aj];rfl
theorem Q33:∀ {l:List Occ} {i:Nat} {a:Occ},((l.set i a).filter Pq).length<=(l.filter Pq).length+1
 |[],i,a=>by simp
 |x::l,0,a=>by
  rw [List.set_cons_zero,List.filter_cons,List.filter_cons];split <;> split <;> simp <;> omega
 |x::l,i+1,a=>by
  have:=Q33 (l:=l) (i:=i) (a:=a);rw [List.set_cons_succ,List.filter_cons,List.filter_cons];split <;> simp <;> omega
theorem Q1N {T:List Occ} {r:Nat} {f t:Int}:((Mb T r f t).filter Pq).length<=(T.filter Pq).length+1:=by
 unfold Mb;split
 ·split <;> exact Q33
 ·omega
theorem QgJ {T:List Occ} (hl:T.length<=300):Vk 400 (T.map enc) (some:LL->Option LL)=some ((T.filter Pq).map enc):=by
 unfold Vk;rw [Qj3];refine Qv (r:=fun m i=>XQ 400 (T.map enc) ((T.length:Nat):Int) (fun _ _ w=>some w) m i (((T.take i.toNat).filter Pq).map enc)) (N:=T.length) (fun m k hk=>?_) (fun m=>?_) T.length 400 0 (by omega) (by omega)
 ·simp only [Int.toNat_natCast];obtain ⟨⟨x,a,b⟩,e⟩:∃ q,T[k]? = some q:=⟨T[k],QiQ hk⟩;have aj:((((T.take k).filter Pq).map enc).length)<=300:=by
   rw [Qj3];have:=List.length_filter_le Pq (T.take k);rw [List.length_take] at this;omega
  rw [XQ,Qc hk,Qe,QiZ,e,YC e,List.filter_append,Qj8];simp -implicitDefEqProofs only [Q0,List.getElem?_cons_zero,List.getElem?_cons_succ,Q2,Xx,QH,QiT,QiP,QiS,QiR,Option.map_some,enc,Qs (show k<=1000 by omega)];by_cases ac:a<b
  ·rw [show decide (a<b)=true by simpa using ac,QiT,show [(x,a,b)].filter Pq=[(x,a,b)] by simp [Pq,ac],XF (by simp only [Qj1,Qj4];omega)];rfl
  ·rw [show decide (a<b)=false by simpa using ac,QiP,show [(x,a,b)].filter Pq=[] by simp [Pq,ac],List.map_nil,List.append_nil]
 ·simp only [Int.toNat_natCast];rw [XQ,Qi,QiP,Qj7]
theorem QfT {R:Type} {T:List Occ} (hl:T.length<=300) (K:LL->oP R):V7 400 ((T.length:Nat):Int) (T.map fun q=>[D.bool (Pq q)]) (T.map enc) (fun _ _ w=>K w) 400 0 []=K ((T.filter Pq).map enc):=by
 refine Qv (r:=fun m i=>V7 400 ((T.length:Nat):Int) (T.map fun q=>[D.bool (Pq q)]) (T.map enc) (fun _ _ w=>K w) m i (((T.take i.toNat).filter Pq).map enc)) (N:=T.length) (fun m k hk=>?_) (fun m=>?_) T.length 400 0 (by omega) (by omega)
 ·simp only [Int.toNat_natCast];obtain ⟨⟨x,a,b⟩,e⟩:∃ q,T[k]? = some q:=⟨T[k],QiQ hk⟩;have aj:((((T.take k).filter Pq).map enc).length)<=300:=by
   rw [Qj3];have:=List.length_filter_le Pq (T.take k);rw [List.length_take] at this;omega
  rw [V7,Qc hk,Qj3,Qj3,Y0 (by omega) (by omega),Int.toNat_natCast,QiZ,QiZ,e,YC e,List.filter_append,Qj8];simp -implicitDefEqProofs only [Q0,List.getElem?_cons_zero,List.getElem?_cons_succ,Q2,Xx,QH,QiT,QiP,QiS,QiR,Option.map_some,enc,show Pq (x,a,b)=decide (a<b) from rfl,N3,Qs (show k<=1000 by omega)];by_cases ac:a<b
  ·rw [show decide (a<b)=true by simpa using ac,QiT,show [(x,a,b)].filter Pq=[(x,a,b)] by simp [Pq,ac],XF (by simp only [Qj1,Qj4];omega)];rfl
  ·rw [show decide (a<b)=false by simpa using ac,QiP,show [(x,a,b)].filter Pq=[] by simp [Pq,ac],List.map_nil,List.append_nil]
 ·simp only [Int.toNat_natCast];rw [V7,Qi,QiP,Qj7]
def pt (Li s:LL) (i:Nat):Int:=pv (Qd8 Li (s.getD (i-1) []) (s.getD i []))
def sec (s:LL) (i:Nat):Nat:=match s.getD i [] with
 |.int _ x::_=>x.toNat
 |_=>0
def fr (Se s:LL) (X:Run) (bf:Int) (i:Nat):Int:=if i=0 then -bf else fEN Se s X (i-1) / 1000-16
def tu (Se s:LL) (X:Run) (af:Int) (i:Nat):Int:=if i<s.length-1 then cd (fLV Se s X i) 1000+4 else AE X+af
def TW (N NP:Nat) (Li s:LL) (f g:Nat->Int):Nat->List Occ
 |0=>List.replicate (N+NP) (0,0,0)
 |i+1=>if i=0 then Mb (TW N NP Li s f g i) (sec s i) (f i) (g i) else if pt Li s i<0 then Mb (TW N NP Li s f g i) (sec s i) (f i) (g i) else Mb (Mb (TW N NP Li s f g i) (sec s i) (f i) (g i)) (N+(pt Li s i).toNat) (f i) (g (i-1))
theorem HC {N NP:Nat} {Li s:LL} {f g:Nat->Int}:∀ {i:Nat},(TW N NP Li s f g i).length=N+NP
 |0=>by simp [TW]
 |i+1=>by
  rw [TW];split
  ·rw [NS,HC]
  ·split <;> simp only [NS,HC]
theorem Q0X {N NP:Nat} {Li s:LL} {f g:Nat->Int} {j:Nat}:TW N NP Li s f g (j+1+1)=if pt Li s (j+1)<0 then Mb (TW N NP Li s f g (j+1)) (sec s (j+1)) (f (j+1)) (g (j+1)) else Mb (Mb (TW N NP Li s f g (j+1)) (sec s (j+1)) (f (j+1)) (g (j+1))) (N+(pt Li s (j+1)).toNat) (f (j+1)) (g j):=by
 show (if j+1=0 then _ else _)=_;rw [QiX (by omega)];rfl
def Q4r (St Pt Se Li s:LL) (X:Run) (bf af:Int):List Occ:=(TW Se.length Pt.length Li s (fr Se s X bf) (tu Se s X af) s.length).filter Pq
section
variable {N NP:Nat} {Li:LL}
theorem Q4x:∀ {s:LL} {k:Nat},Ag N NP Li k s=true->∀ i,i+1<s.length->∃ p,Qd8 Li (s.getD i []) (s.getD (i+1) [])=some p/\ptR [] [] (List.replicate N []) Li (s.getD i []) (s.getD (i+1) [])=some p /\ -1<=p/\p<NP
 |[],_,_,i,hi=>by simp at hi
 |[_],_,_,i,hi=>by simp at hi
 |r::r'::t,k,h,i,hi=>by
  rw [Ag] at h;split at h
  ·rename_i p q e1 e2;simp only [Qj6,beq_iff_eq,decide_eq_true_eq] at h;obtain ⟨rfl,a,h2,b⟩:=h;cases i with
   |zero=>exact ⟨p,e1,e2,a,h2⟩
   |succ i=>exact Q4x b i (by simpa using hi)
  ·cases h
theorem Q6h:∀ {s:LL} {k:Nat},Ag N NP Li k s=true->∀ (c:Nat->Nat),(∀ i,c (i+1)<=c i+(if pt Li s (i+1)<0 then 1 else 2))->c 0<=k->∀ i,i<s.length->c i<=5
 |[],_,_,_,_,_,i,hi=>by simp at hi
 |[r],k,h,c,hc,f,i,hi=>by
  have:i=0:=by simpa using hi
  subst this;have:k<=5:=Nat.le_of_ble_eq_true h;omega
 |r::r'::t,k,h,c,hc,f,i,hi=>by
  rw [Ag] at h;split at h
  ·rename_i p q e1 e2;simp only [Qj6,beq_iff_eq,decide_eq_true_eq] at h;obtain ⟨rfl,j,h2,e⟩:=h;have hp:pt Li (r::r'::t) 1=p:=by show pv (Qd8 Li r r')=p;rw [e1];rfl
   have d:c 1<=c 0+(if pt Li (r::r'::t) 1<0 then 1 else 2):=hc 0;rw [hp] at d;have g:c 1<=(bif decide (p<0) then k+1 else k+2):=by
    by_cases hq:p<0
    ·rw [QiV hq] at d;rw [show decide (p<0)=true by simpa using hq,QiT];omega
    ·rw [QiX hq] at d;rw [show decide (p<0)=false by simpa using hq,QiP];omega
   have ih:=Q6h e (fun i=>c (i+1)) (fun i=>hc (i+1)) g;cases i with
   |zero=>
    have:=ih 0 (by simp);have hq:c 0<=5:=by
     have ac:∀ {s:LL} {k:Nat},Ag N NP Li k s=true->k<=5:=by
      intro s;induction s with
      |nil=>exact fun h=>Nat.le_of_ble_eq_true h
      |cons a s ih=>
       intro k h;cases s with
       |nil=>exact Nat.le_of_ble_eq_true h
       |cons b s=>
        rw [Ag] at h;split at h
        ·simp only [Qj6] at h;have:=ih h.2.2.2;revert this;cases decide (_<(0:Int)) <;> simp <;> omega
        ·cases h
     have:=ac e;revert this;cases decide (p<0) <;> simp <;> omega
    exact hq
   |succ i=>exact ih i (by simpa using hi)
  ·cases h
end
end Go.Vx
