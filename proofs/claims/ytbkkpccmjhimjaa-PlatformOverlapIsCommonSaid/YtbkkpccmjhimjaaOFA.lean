/- Part of a proof: texts Vfarith Mod Vfref1 Mod Vfkeep Pick Vfkeep Source Next Vfkeep From Vflaw20 visits Vfplatform Valid Vfplatform overlap Vfplatform Overlap Vflaw20 two Vfslices Index int int Vfslices . No conditions of their own. -/
import Derived.Test.YtbkkpccmjhimjaaOVA
/-
  arith_Mod: the pure function
-/
set_option linter.unusedVariables false
namespace Go.Vx
def arith_Mod_p1 {R : Type} (n : Nat) (a0 : Int) (a1 : Int) (k0 : Int → Option R) : Option R :=
  bif (decide (a1 < (1 : Int))) then
    k0 (0 : Int)
  else
    gb true (nz a1) () fun u1 =>
    bif (decide ((Int.tmod a0 a1) < (0 : Int))) then
      k0 (IntKind.wrap .i64 ((Int.tmod a0 a1) + a1))
    else
      k0 (Int.tmod a0 a1)
def arith_Mod {R : Type} (n : Nat) (a0 : Int) (a1 : Int) (K : Int → Option R) : Option R :=
  arith_Mod_p1 n a0 a1
    (fun z2 => K z2)
end Go.Vx
/-
  ref1_Mod: the pure function
-/
set_option linter.unusedVariables false
namespace Go.Vx
def ref1_Mod_p1 {R : Type} (n : Nat) (a0 : Int) (a1 : Int) (k0 : Int → Option R) : Option R :=
  bif (decide (a1 < (1 : Int))) then
    k0 (0 : Int)
  else
    gb true (nz a1) () fun u1 =>
    bif (decide ((Int.tmod a0 a1) < (0 : Int))) then
      k0 (IntKind.wrap .i64 ((Int.tmod a0 a1) + a1))
    else
      k0 (Int.tmod a0 a1)
def ref1_Mod {R : Type} (n : Nat) (a0 : Int) (a1 : Int) (K : Int → Option R) : Option R :=
  ref1_Mod_p1 n a0 a1
    (fun z2 => K z2)
end Go.Vx
/-
  keep_Pick: the pure function
-/
set_option linter.unusedVariables false
namespace Go.Vx
def keep_Pick_p1 {R : Type} (n : Nat) (a0 : Int) (a1 : Int) (k0 : Int → Option R) : Option R :=
  gb true (nz (IntKind.wrap .u64 a1)) () fun u1 =>
  k0 (IntKind.wrap .i64 (Int.tmod (IntKind.wrap .u64 a0) (IntKind.wrap .u64 a1)))
def keep_Pick {R : Type} (n : Nat) (a0 : Int) (a1 : Int) (K : Int → Option R) : Option R :=
  keep_Pick_p1 n a0 a1
    (fun z2 => K z2)
end Go.Vx
/-
  keep_Source_Next: the pure function
-/
set_option linter.unusedVariables false
namespace Go.Vx
def keep_Source_Next_p1 {R : Type} (n : Nat) (a1 : Int) (a0_0 : List (List D)) (a0_1 : Int) (k0 : Int → Int → Option R) : Option R :=
  bif (decide (a0_1 ≥ ((List.length a0_0 : Nat) : Int))) then
    k0 (0 : Int) a0_1
  else
    gb true (rowAt a0_0 (IntKind.wrap .i64 ((IntKind.wrap .i64 (a0_1 + (1 : Int))) - (1 : Int)))) [] fun r1 =>
    gb true (r1[0]?) (.bool false) fun c2 =>
    gb true (pInt .i64 c2) 0 fun i3 =>
    gb true (keep_Pick n i3 a1 some) 0 fun r4 =>
    k0 r4 (IntKind.wrap .i64 (a0_1 + (1 : Int)))
def keep_Source_Next {R : Type} (n : Nat) (a0_0 : List (List D)) (a0_1 : Int) (a1 : Int) (K : Int → (List (List D)) → Int → Option R) : Option R :=
  keep_Source_Next_p1 n a1 a0_0 a0_1
    (fun z5 z6 => K z5 a0_0 z6)
end Go.Vx
/-
  keep_From: the pure function
-/
set_option linter.unusedVariables false
namespace Go.Vx
def keep_From_p1 {R : Type} (n : Nat) (a0 : List (List D)) (k0 : Option R) : Option R :=
  k0
def keep_From {R : Type} (n : Nat) (a0 : List (List D)) (K : (List (List D)) → Int → Option R) : Option R :=
  keep_From_p1 n a0
    (K a0 (0 : Int))
end Go.Vx
/-
  law20_visits: the pure function
-/
set_option linter.unusedVariables false
namespace Go.Vx
def law20_visits_p1 {R : Type} (n : Nat) (a0 : Int) (a1 : List (List D)) (k0 : Option R) : Option R :=
  k0
def law20_visits_p2 {R : Type} (n : Nat) (a0 : Int) (a1 : List (List D)) (k0 : (List (List D)) → Int → Option R) : Option R :=
  gb true (keep_From n a1 (fun r0 r1 => some (r0, r1))) ([], 0) fun r1 =>
  k0 r1.1 r1.2
def law20_visits_p3 {R : Type} (n : Nat) (a0 : Int) (w4 : List (List D)) (w5 : Int) (k0 : Option R) : Option R :=
  k0
def law20_visits_p4 {R : Type} (n : Nat) (a0 : Int) (w4 : List (List D)) (w5 : Int) (k0 : Int → (List (List D)) → Int → Option R) : Option R :=
  gb true (keep_Source_Next n w4 w5 (8 : Int) (fun r0 r1 r2 => some (r0, r1, r2))) (0, [], 0) fun r6 =>
  k0 r6.1 r6.2.1 r6.2.2
def law20_visits_p5 {R : Type} (n : Nat) (a0 : Int) (h14 : Int) (h15 : List (List D)) (h16 : List (List D)) (h17 : Int) (k0 : Bool → Option R) (k1 : Bool → Option R) : Option R :=
  bif (decide (h14 > (0 : Int))) then
    k0 (decide (h14 > (0 : Int)))
  else
    k1 (decide (h14 > (0 : Int)))
def law20_visits_p6 {R : Type} (n : Nat) (a0 : Int) (h14 : Int) (w165 : Bool) (h15 : List (List D)) (h16 : List (List D)) (h17 : Int) (k0 : Int → Int → (List (List D)) → Int → Option R) : Option R :=
  gb true (keep_Source_Next n h16 h17 a0 (fun r0 r1 r2 => some (r0, r1, r2))) (0, [], 0) fun r166 =>
  gb true (keep_Source_Next n r166.2.1 r166.2.2 a0 (fun r0 r1 r2 => some (r0, r1, r2))) (0, [], 0) fun r167 =>
  k0 r166.1 (IntKind.wrap .i64 ((1 : Int) + r167.1)) r167.2.1 r167.2.2
def law20_visits_p7 {R : Type} (n : Nat) (a0 : Int) (h14 : Int) (w172 : Int) (w173 : Int) (h15 : List (List D)) (w174 : List (List D)) (w175 : Int) (k0 : Int → (List (List D)) → Int → Option R) (k1 : Bool → (List (List D)) → Int → Option R) : Option R :=
  gb true (keep_Source_Next n w174 w175 (2 : Int) (fun r0 r1 r2 => some (r0, r1, r2))) (0, [], 0) fun r176 =>
  bif (r176.1 == (0 : Int)) then
    gb true (nz (3 : Int)) () fun u177 =>
    gb true (keep_Source_Next n r176.2.1 r176.2.2 (IntKind.wrap .i64 ((1 : Int) + (IntKind.wrap .i64 (Int.tdiv a0 (3 : Int))))) (fun r0 r1 r2 => some (r0, r1, r2))) (0, [], 0) fun r178 =>
    k0 (IntKind.wrap .i64 ((1 : Int) + r178.1)) r178.2.1 r178.2.2
  else
    k1 (r176.1 == (0 : Int)) r176.2.1 r176.2.2
def law20_visits_p8 {R : Type} (n : Nat) (a0 : Int) (h14 : Int) (w172 : Int) (w185 : Int) (h15 : List (List D)) (w186 : List (List D)) (w187 : Int) (k0 : Option R) : Option R :=
  k0
def law20_visits_p9 {R : Type} (n : Nat) (a0 : Int) (h14 : Int) (h190 : Int) (h191 : List (List D)) (w172 : Int) (w185 : Int) (h15 : List (List D)) (h195 : List (List D)) (h196 : Int) (k0 : Int → (List (List D)) → (List (List D)) → Int → Option R) (k1 : Bool → Option R) : Option R :=
  bif (decide (h190 < (4 : Int))) then
    gb true (keep_Source_Next n h195 h196 (2 : Int) (fun r0 r1 r2 => some (r0, r1, r2))) (0, [], 0) fun r204 =>
    bif (r204.1 == (0 : Int)) then
      gb true (room ((List.length h191 + List.length [[D.int .i64 h190]]) * 8)) () fun u205 =>
      k0 (IntKind.wrap .i64 (h190 + (1 : Int))) (h191 ++ [[D.int .i64 h190]]) r204.2.1 r204.2.2
    else
      k0 (IntKind.wrap .i64 (h190 + (1 : Int))) h191 r204.2.1 r204.2.2
  else
    k1 (decide (h190 < (4 : Int)))
def law20_visits_r10 {R : Type} (n : Nat) (a0 : Int) (h14 : Int) (w172 : Int) (w185 : Int) (h15 : List (List D)) (k0 : Int → Bool → (List (List D)) → (List (List D)) → Int → Option R) : Nat → Int → (List (List D)) → (List (List D)) → Int → Option R
  | 0, _, _, _, _ => none
  | m + 1, h190, h191, h195, h196 =>
    law20_visits_p9 n a0 h14 h190 h191 w172 w185 h15 h195 h196
      (fun w211 w212 w213 w214 =>
      law20_visits_r10 n a0 h14 w172 w185 h15 k0 m w211 w212 w213 w214)
      (fun w215 =>
      k0 h190 w215 h191 h195 h196)
def law20_visits_p10 {R : Type} (n : Nat) (a0 : Int) (h14 : Int) (w172 : Int) (w185 : Int) (h15 : List (List D)) (w186 : List (List D)) (w187 : Int) (k0 : Int → Bool → (List (List D)) → (List (List D)) → Int → Option R) : Option R := law20_visits_r10 n a0 h14 w172 w185 h15 k0 n (0 : Int) [] w186 w187
def law20_visits_p11 {R : Type} (n : Nat) (a0 : Int) (h14 : Int) (w172 : Int) (w185 : Int) (h15 : List (List D)) (w186 : List (List D)) (w187 : Int) (k0 : Int → Bool → (List (List D)) → (List (List D)) → Int → Option R) : Option R :=
  law20_visits_p10 n a0 h14 w172 w185 h15 w186 w187
    (fun w216 w217 w218 w219 w220 =>
    k0 w216 w217 w218 w219 w220)
def law20_visits_p12 {R : Type} (n : Nat) (a0 : Int) (h14 : Int) (w172 : Int) (w185 : Int) (h15 : List (List D)) (w186 : List (List D)) (w187 : Int) (k0 : Int → Bool → (List (List D)) → (List (List D)) → Int → Option R) : Option R :=
  law20_visits_p8 n a0 h14 w172 w185 h15 w186 w187
    (law20_visits_p11 n a0 h14 w172 w185 h15 w186 w187
      (fun w221 w222 w223 w224 w225 =>
      k0 w221 w222 w223 w224 w225))
def law20_visits_p13 {R : Type} (n : Nat) (a0 : Int) (h14 : Int) (w226 : Int) (w227 : Bool) (w172 : Int) (w185 : Int) (h15 : List (List D)) (w228 : List (List D)) (w229 : List (List D)) (w230 : Int) (k0 : (List (List D)) → Option R) : Option R :=
  gb true (room ((List.length h15 + List.length [[D.int .i64 w172, D.int .i64 w185, D.sl 1 w228]]) * 40)) () fun u231 =>
  k0 (h15 ++ [[D.int .i64 w172, D.int .i64 w185, D.sl 1 w228]])
def law20_visits_p14 {R : Type} (n : Nat) (a0 : Int) (h14 : Int) (w172 : Int) (w185 : Int) (h15 : List (List D)) (w186 : List (List D)) (w187 : Int) (k0 : (List (List D)) → (List (List D)) → Int → Option R) : Option R :=
  law20_visits_p12 n a0 h14 w172 w185 h15 w186 w187
    (fun w226 w227 w228 w229 w230 =>
    law20_visits_p13 n a0 h14 w226 w227 w172 w185 h15 w228 w229 w230
      (fun w233 =>
      k0 w233 w229 w230))
def law20_visits_p15 {R : Type} (n : Nat) (a0 : Int) (h14 : Int) (w237 : Bool) (w172 : Int) (w173 : Int) (h15 : List (List D)) (w238 : List (List D)) (w239 : Int) (k0 : Option R) : Option R :=
  k0
def law20_visits_p16 {R : Type} (n : Nat) (a0 : Int) (h14 : Int) (h242 : Int) (h243 : List (List D)) (w172 : Int) (w173 : Int) (h15 : List (List D)) (h247 : List (List D)) (h248 : Int) (k0 : Int → (List (List D)) → (List (List D)) → Int → Option R) (k1 : Bool → Option R) : Option R :=
  bif (decide (h242 < (4 : Int))) then
    gb true (keep_Source_Next n h247 h248 (2 : Int) (fun r0 r1 r2 => some (r0, r1, r2))) (0, [], 0) fun r256 =>
    bif (r256.1 == (0 : Int)) then
      gb true (room ((List.length h243 + List.length [[D.int .i64 h242]]) * 8)) () fun u257 =>
      k0 (IntKind.wrap .i64 (h242 + (1 : Int))) (h243 ++ [[D.int .i64 h242]]) r256.2.1 r256.2.2
    else
      k0 (IntKind.wrap .i64 (h242 + (1 : Int))) h243 r256.2.1 r256.2.2
  else
    k1 (decide (h242 < (4 : Int)))
def law20_visits_r17 {R : Type} (n : Nat) (a0 : Int) (h14 : Int) (w172 : Int) (w173 : Int) (h15 : List (List D)) (k0 : Int → Bool → (List (List D)) → (List (List D)) → Int → Option R) : Nat → Int → (List (List D)) → (List (List D)) → Int → Option R
  | 0, _, _, _, _ => none
  | m + 1, h242, h243, h247, h248 =>
    law20_visits_p16 n a0 h14 h242 h243 w172 w173 h15 h247 h248
      (fun w263 w264 w265 w266 =>
      law20_visits_r17 n a0 h14 w172 w173 h15 k0 m w263 w264 w265 w266)
      (fun w267 =>
      k0 h242 w267 h243 h247 h248)
def law20_visits_p17 {R : Type} (n : Nat) (a0 : Int) (h14 : Int) (w172 : Int) (w173 : Int) (h15 : List (List D)) (w238 : List (List D)) (w239 : Int) (k0 : Int → Bool → (List (List D)) → (List (List D)) → Int → Option R) : Option R := law20_visits_r17 n a0 h14 w172 w173 h15 k0 n (0 : Int) [] w238 w239
def law20_visits_p18 {R : Type} (n : Nat) (a0 : Int) (h14 : Int) (w172 : Int) (w173 : Int) (h15 : List (List D)) (w238 : List (List D)) (w239 : Int) (k0 : Int → Bool → (List (List D)) → (List (List D)) → Int → Option R) : Option R :=
  law20_visits_p17 n a0 h14 w172 w173 h15 w238 w239
    (fun w268 w269 w270 w271 w272 =>
    k0 w268 w269 w270 w271 w272)
def law20_visits_p19 {R : Type} (n : Nat) (a0 : Int) (h14 : Int) (w237 : Bool) (w172 : Int) (w173 : Int) (h15 : List (List D)) (w238 : List (List D)) (w239 : Int) (k0 : Int → Bool → (List (List D)) → (List (List D)) → Int → Option R) : Option R :=
  law20_visits_p15 n a0 h14 w237 w172 w173 h15 w238 w239
    (law20_visits_p18 n a0 h14 w172 w173 h15 w238 w239
      (fun w273 w274 w275 w276 w277 =>
      k0 w273 w274 w275 w276 w277))
def law20_visits_p20 {R : Type} (n : Nat) (a0 : Int) (h14 : Int) (w278 : Int) (w279 : Bool) (w172 : Int) (w173 : Int) (h15 : List (List D)) (w280 : List (List D)) (w281 : List (List D)) (w282 : Int) (k0 : (List (List D)) → Option R) : Option R :=
  gb true (room ((List.length h15 + List.length [[D.int .i64 w172, D.int .i64 w173, D.sl 1 w280]]) * 40)) () fun u283 =>
  k0 (h15 ++ [[D.int .i64 w172, D.int .i64 w173, D.sl 1 w280]])
def law20_visits_p21 {R : Type} (n : Nat) (a0 : Int) (h14 : Int) (w237 : Bool) (w172 : Int) (w173 : Int) (h15 : List (List D)) (w238 : List (List D)) (w239 : Int) (k0 : (List (List D)) → (List (List D)) → Int → Option R) : Option R :=
  law20_visits_p19 n a0 h14 w237 w172 w173 h15 w238 w239
    (fun w278 w279 w280 w281 w282 =>
    law20_visits_p20 n a0 h14 w278 w279 w172 w173 h15 w280 w281 w282
      (fun w285 =>
      k0 w285 w281 w282))
def law20_visits_p22 {R : Type} (n : Nat) (a0 : Int) (h14 : Int) (w172 : Int) (w173 : Int) (h15 : List (List D)) (w174 : List (List D)) (w175 : Int) (k0 : (List (List D)) → (List (List D)) → Int → Option R) : Option R :=
  law20_visits_p7 n a0 h14 w172 w173 h15 w174 w175
    (fun w185 w186 w187 =>
    law20_visits_p14 n a0 h14 w172 w185 h15 w186 w187
      (fun w234 w235 w236 =>
      k0 w234 w235 w236))
    (fun w237 w238 w239 =>
    law20_visits_p21 n a0 h14 w237 w172 w173 h15 w238 w239
      (fun w286 w287 w288 =>
      k0 w286 w287 w288))
def law20_visits_p23 {R : Type} (n : Nat) (a0 : Int) (h14 : Int) (w165 : Bool) (h15 : List (List D)) (h16 : List (List D)) (h17 : Int) (k0 : (List (List D)) → (List (List D)) → Int → Option R) : Option R :=
  law20_visits_p6 n a0 h14 w165 h15 h16 h17
    (fun w172 w173 w174 w175 =>
    law20_visits_p22 n a0 h14 w172 w173 h15 w174 w175
      (fun w292 w293 w294 =>
      k0 w292 w293 w294))
def law20_visits_p24 {R : Type} (n : Nat) (a0 : Int) (h14 : Int) (w165 : Bool) (h15 : List (List D)) (h16 : List (List D)) (h17 : Int) (k0 : (List (List D)) → (List (List D)) → Int → Option R) : Option R :=
  law20_visits_p23 n a0 h14 w165 h15 h16 h17
    (fun w295 w296 w297 =>
    k0 w295 w296 w297)
def law20_visits_p25 {R : Type} (n : Nat) (a0 : Int) (h14 : Int) (w298 : List (List D)) (w299 : List (List D)) (w300 : Int) (k0 : Int → Option R) : Option R :=
  k0 (IntKind.wrap .i64 (h14 - (1 : Int)))
def law20_visits_p26 {R : Type} (n : Nat) (a0 : Int) (h14 : Int) (w165 : Bool) (h15 : List (List D)) (h16 : List (List D)) (h17 : Int) (k0 : Int → (List (List D)) → (List (List D)) → Int → Option R) : Option R :=
  law20_visits_p24 n a0 h14 w165 h15 h16 h17
    (fun w298 w299 w300 =>
    law20_visits_p25 n a0 h14 w298 w299 w300
      (fun w302 =>
      k0 w302 w298 w299 w300))
def law20_visits_p27 {R : Type} (n : Nat) (a0 : Int) (h14 : Int) (h15 : List (List D)) (h16 : List (List D)) (h17 : Int) (k0 : Int → (List (List D)) → (List (List D)) → Int → Option R) (k1 : Bool → Option R) : Option R :=
  law20_visits_p5 n a0 h14 h15 h16 h17
    (fun w165 =>
    law20_visits_p26 n a0 h14 w165 h15 h16 h17
      (fun w303 w304 w305 w306 =>
      k0 w303 w304 w305 w306))
    (fun w307 =>
    k1 w307)
def law20_visits_r28 {R : Type} (n : Nat) (a0 : Int) (k0 : Int → Bool → (List (List D)) → (List (List D)) → Int → Option R) : Nat → Int → (List (List D)) → (List (List D)) → Int → Option R
  | 0, _, _, _, _ => none
  | m + 1, h14, h15, h16, h17 =>
    law20_visits_p27 n a0 h14 h15 h16 h17
      (fun w308 w309 w310 w311 =>
      law20_visits_r28 n a0 k0 m w308 w309 w310 w311)
      (fun w312 =>
      k0 h14 w312 h15 h16 h17)
def law20_visits_p28 {R : Type} (n : Nat) (a0 : Int) (w10 : Int) (w11 : List (List D)) (w12 : Int) (k0 : Int → Bool → (List (List D)) → (List (List D)) → Int → Option R) : Option R := law20_visits_r28 n a0 k0 n w10 [] w11 w12
def law20_visits_p29 {R : Type} (n : Nat) (a0 : Int) (w10 : Int) (w11 : List (List D)) (w12 : Int) (k0 : Int → Bool → (List (List D)) → (List (List D)) → Int → Option R) : Option R :=
  law20_visits_p28 n a0 w10 w11 w12
    (fun w313 w314 w315 w316 w317 =>
    k0 w313 w314 w315 w316 w317)
def law20_visits_p30 {R : Type} (n : Nat) (a0 : Int) (w4 : List (List D)) (w5 : Int) (k0 : Int → Bool → (List (List D)) → (List (List D)) → Int → Option R) : Option R :=
  law20_visits_p4 n a0 w4 w5
    (fun w10 w11 w12 =>
    law20_visits_p29 n a0 w10 w11 w12
      (fun w318 w319 w320 w321 w322 =>
      k0 w318 w319 w320 w321 w322))
def law20_visits_p31 {R : Type} (n : Nat) (a0 : Int) (w323 : Int) (w324 : Bool) (w325 : List (List D)) (w326 : List (List D)) (w327 : Int) (k0 : Option R) : Option R :=
  k0
def law20_visits_p32 {R : Type} (n : Nat) (a0 : Int) (w4 : List (List D)) (w5 : Int) (k0 : (List (List D)) → Option R) : Option R :=
  law20_visits_p30 n a0 w4 w5
    (fun w323 w324 w325 w326 w327 =>
    law20_visits_p31 n a0 w323 w324 w325 w326 w327
      (k0 w325))
def law20_visits_p33 {R : Type} (n : Nat) (a0 : Int) (w4 : List (List D)) (w5 : Int) (k0 : (List (List D)) → Option R) : Option R :=
  law20_visits_p3 n a0 w4 w5
    (law20_visits_p32 n a0 w4 w5
      (fun w328 =>
      k0 w328))
def law20_visits_p34 {R : Type} (n : Nat) (a0 : Int) (a1 : List (List D)) (k0 : (List (List D)) → Option R) : Option R :=
  law20_visits_p2 n a0 a1
    (fun w4 w5 =>
    law20_visits_p33 n a0 w4 w5
      (fun w329 =>
      k0 w329))
def law20_visits_p35 {R : Type} (n : Nat) (a0 : Int) (a1 : List (List D)) (k0 : (List (List D)) → Option R) : Option R :=
  law20_visits_p1 n a0 a1
    (law20_visits_p34 n a0 a1
      (fun w330 =>
      k0 w330))
def law20_visits {R : Type} (n : Nat) (a0 : Int) (a1 : List (List D)) (K : (List (List D)) → Option R) : Option R :=
  law20_visits_p35 n a0 a1
    (fun w330 => K w330)
end Go.Vx
/-
  platform_Valid: the pure function
-/
set_option linter.unusedVariables false
namespace Go.Vx
def platform_Valid_p1 {R : Type} (n : Nat) (a0 : Int) (a1 : List (List D)) (k0 : Option R) : Option R :=
  k0
def platform_Valid_p2 {R : Type} (n : Nat) (a0 : Int) (a1 : List (List D)) (k0 : Option R) (k1 : Bool → Option R) : Option R :=
  bif (bif (bif (decide (a0 < (2 : Int))) then true else (decide (a0 > (7200 : Int)))) then true else (decide (((List.length a1 : Nat) : Int) > (16 : Int)))) then
    k0
  else
    k1 (bif (bif (decide (a0 < (2 : Int))) then true else (decide (a0 > (7200 : Int)))) then true else (decide (((List.length a1 : Nat) : Int) > (16 : Int))))
def platform_Valid_p3 {R : Type} (n : Nat) (a0 : Int) (a1 : List (List D)) (w2 : Bool) (k0 : Int → Option R) : Option R :=
  k0 ((List.length a1 : Nat) : Int)
def platform_Valid_p4 {R : Type} (n : Nat) (a0 : Int) (a1 : List (List D)) (w4 : Int) (h8 : Int) (k0 : Bool → Option R) : Option R :=
  k0 (decide (h8 < w4))
def platform_Valid_p5 {R : Type} (n : Nat) (a0 : Int) (a1 : List (List D)) (w4 : Int) (h8 : Int) (w86 : Bool) (k0 : Option R) (k1 : Option R) : Option R :=
  bif w86 then
    k0
  else
    k1
def platform_Valid_p6 {R : Type} (n : Nat) (a0 : Int) (a1 : List (List D)) (w4 : Int) (h8 : Int) (w86 : Bool) (k0 : D → D → D → Option R) : Option R :=
  gb true (rowAt a1 h8) [] fun r87 =>
  gb true (r87[0]?) (.bool false) fun c88 =>
  gb true (r87[1]?) (.bool false) fun c89 =>
  gb true (r87[2]?) (.bool false) fun c90 =>
  k0 c88 c89 c90
def platform_Valid_p7 {R : Type} (n : Nat) (a0 : Int) (a1 : List (List D)) (w4 : Int) (h8 : Int) (w91 : D) (w92 : D) (w93 : D) (k0 : Option R) (k1 : Bool → Option R) : Option R :=
  gb true (pInt .i64 w91) 0 fun i94 =>
  gb (!(decide (i94 < (0 : Int)))) (pInt .i64 w91) 0 fun i95 =>
  gb (!(bif (decide (i94 < (0 : Int))) then true else (decide (i95 ≥ a0)))) (pInt .i64 w92) 0 fun i96 =>
  gb (!(bif (bif (decide (i94 < (0 : Int))) then true else (decide (i95 ≥ a0))) then true else (decide (i96 < (1 : Int))))) (pInt .i64 w92) 0 fun i97 =>
  gb (!(bif (bif (bif (decide (i94 < (0 : Int))) then true else (decide (i95 ≥ a0))) then true else (decide (i96 < (1 : Int)))) then true else (decide (i97 > a0)))) (pSl 1 w93) [] fun l98 =>
  bif (bif (bif (bif (bif (decide (i94 < (0 : Int))) then true else (decide (i95 ≥ a0))) then true else (decide (i96 < (1 : Int)))) then true else (decide (i97 > a0))) then true else (decide (((List.length l98 : Nat) : Int) > (8 : Int)))) then
    k0
  else
    k1 (bif (bif (bif (bif (decide (i94 < (0 : Int))) then true else (decide (i95 ≥ a0))) then true else (decide (i96 < (1 : Int)))) then true else (decide (i97 > a0))) then true else (decide (((List.length l98 : Nat) : Int) > (8 : Int))))
def platform_Valid_p8 {R : Type} (n : Nat) (a0 : Int) (a1 : List (List D)) (w4 : Int) (h8 : Int) (w100 : Bool) (w91 : D) (w92 : D) (w93 : D) (k0 : Option R) : Option R :=
  k0
def platform_Valid_p9 {R : Type} (n : Nat) (a0 : Int) (a1 : List (List D)) (w4 : Int) (h8 : Int) (w91 : D) (w92 : D) (w93 : D) (k0 : (List (List D)) → Int → Option R) : Option R :=
  gb true (pSl 1 w93) [] fun l101 =>
  k0 l101 ((List.length l101 : Nat) : Int)
def platform_Valid_p10 {R : Type} (n : Nat) (a0 : Int) (h106 : Int) (a1 : List (List D)) (w4 : Int) (h8 : Int) (w103 : List (List D)) (w104 : Int) (h112 : Int) (k0 : Option R) (k1 : Int → Int → Option R) (k2 : Bool → Option R) : Option R :=
  bif (decide (h112 < w104)) then
    gb true (rowAt w103 h112) [] fun r118 =>
    gb true (r118[0]?) (.bool false) fun c119 =>
    gb true (pInt .i64 c119) 0 fun i120 =>
    bif (decide (i120 ≤ h106)) then
      k0
    else
      k1 i120 (IntKind.wrap .i64 (h112 + (1 : Int)))
  else
    k2 (decide (h112 < w104))
def platform_Valid_r11 {R : Type} (n : Nat) (a0 : Int) (a1 : List (List D)) (w4 : Int) (h8 : Int) (w103 : List (List D)) (w104 : Int) (k0 : Option R) (k1 : Int → Int → Bool → Option R) : Nat → Int → Int → Option R
  | 0, _, _ => none
  | m + 1, h106, h112 =>
    platform_Valid_p10 n a0 h106 a1 w4 h8 w103 w104 h112
      (k0)
      (fun w123 w124 =>
      platform_Valid_r11 n a0 a1 w4 h8 w103 w104 k0 k1 m w123 w124)
      (fun w125 =>
      k1 h106 h112 w125)
def platform_Valid_p11 {R : Type} (n : Nat) (a0 : Int) (a1 : List (List D)) (w4 : Int) (h8 : Int) (w103 : List (List D)) (w104 : Int) (k0 : Option R) (k1 : Int → Int → Bool → Option R) : Option R := platform_Valid_r11 n a0 a1 w4 h8 w103 w104 k0 k1 n (-1 : Int) (0 : Int)
def platform_Valid_p12 {R : Type} (n : Nat) (a0 : Int) (a1 : List (List D)) (w4 : Int) (h8 : Int) (w103 : List (List D)) (w104 : Int) (k0 : Option R) (k1 : Int → Int → Bool → Option R) : Option R :=
  platform_Valid_p11 n a0 a1 w4 h8 w103 w104
    (k0)
    (fun w126 w127 w128 =>
    k1 w126 w127 w128)
def platform_Valid_p13 {R : Type} (n : Nat) (a0 : Int) (a1 : List (List D)) (w4 : Int) (h8 : Int) (w91 : D) (w92 : D) (w93 : D) (k0 : Option R) (k1 : Int → (List (List D)) → Int → Int → Bool → Option R) : Option R :=
  platform_Valid_p9 n a0 a1 w4 h8 w91 w92 w93
    (fun w103 w104 =>
    platform_Valid_p12 n a0 a1 w4 h8 w103 w104
      (k0)
      (fun w129 w130 w131 =>
      k1 w129 w103 w104 w130 w131))
def platform_Valid_p14 {R : Type} (n : Nat) (a0 : Int) (a1 : List (List D)) (w4 : Int) (h8 : Int) (w100 : Bool) (w91 : D) (w92 : D) (w93 : D) (k0 : Option R) (k1 : Int → (List (List D)) → Int → Int → Bool → Option R) : Option R :=
  platform_Valid_p8 n a0 a1 w4 h8 w100 w91 w92 w93
    (platform_Valid_p13 n a0 a1 w4 h8 w91 w92 w93
      (k0)
      (fun w132 w133 w134 w135 w136 =>
      k1 w132 w133 w134 w135 w136))
def platform_Valid_p15 {R : Type} (n : Nat) (a0 : Int) (a1 : List (List D)) (w4 : Int) (h8 : Int) (w91 : D) (w92 : D) (w93 : D) (k0 : Option R) (k1 : Int → (List (List D)) → Int → Int → Bool → Option R) : Option R :=
  platform_Valid_p7 n a0 a1 w4 h8 w91 w92 w93
    (k0)
    (fun w100 =>
    platform_Valid_p14 n a0 a1 w4 h8 w100 w91 w92 w93
      (k0)
      (fun w137 w138 w139 w140 w141 =>
      k1 w137 w138 w139 w140 w141))
def platform_Valid_p16 {R : Type} (n : Nat) (a0 : Int) (a1 : List (List D)) (w4 : Int) (h8 : Int) (w86 : Bool) (k0 : Option R) (k1 : Int → (List (List D)) → Int → Int → Bool → Option R) : Option R :=
  platform_Valid_p6 n a0 a1 w4 h8 w86
    (fun w91 w92 w93 =>
    platform_Valid_p15 n a0 a1 w4 h8 w91 w92 w93
      (k0)
      (fun w142 w143 w144 w145 w146 =>
      k1 w142 w143 w144 w145 w146))
def platform_Valid_p17 {R : Type} (n : Nat) (a0 : Int) (a1 : List (List D)) (w4 : Int) (h8 : Int) (w86 : Bool) (k0 : Option R) (k1 : Int → (List (List D)) → Int → Int → Bool → Option R) : Option R :=
  platform_Valid_p16 n a0 a1 w4 h8 w86
    (k0)
    (fun w147 w148 w149 w150 w151 =>
    k1 w147 w148 w149 w150 w151)
def platform_Valid_p18 {R : Type} (n : Nat) (a0 : Int) (w152 : Int) (a1 : List (List D)) (w4 : Int) (h8 : Int) (w153 : List (List D)) (w154 : Int) (w155 : Int) (w156 : Bool) (k0 : Int → Option R) : Option R :=
  k0 (IntKind.wrap .i64 (h8 + (1 : Int)))
def platform_Valid_p19 {R : Type} (n : Nat) (a0 : Int) (a1 : List (List D)) (w4 : Int) (h8 : Int) (w86 : Bool) (k0 : Option R) (k1 : Int → Option R) : Option R :=
  platform_Valid_p17 n a0 a1 w4 h8 w86
    (k0)
    (fun w152 w153 w154 w155 w156 =>
    platform_Valid_p18 n a0 w152 a1 w4 h8 w153 w154 w155 w156
      (fun w158 =>
      k1 w158))
def platform_Valid_p20 {R : Type} (n : Nat) (a0 : Int) (a1 : List (List D)) (w4 : Int) (h8 : Int) (w86 : Bool) (k0 : Option R) (k1 : Int → Option R) (k2 : Option R) : Option R :=
  platform_Valid_p5 n a0 a1 w4 h8 w86
    (platform_Valid_p19 n a0 a1 w4 h8 w86
      (k0)
      (fun w159 =>
      k1 w159))
    (k2)
def platform_Valid_p21 {R : Type} (n : Nat) (a0 : Int) (a1 : List (List D)) (w4 : Int) (h8 : Int) (k0 : Option R) (k1 : Int → Option R) (k2 : Bool → Option R) : Option R :=
  platform_Valid_p4 n a0 a1 w4 h8
    (fun w86 =>
    platform_Valid_p20 n a0 a1 w4 h8 w86
      (k0)
      (fun w160 =>
      k1 w160)
      (k2 w86))
def platform_Valid_r22 {R : Type} (n : Nat) (a0 : Int) (a1 : List (List D)) (w4 : Int) (k0 : Option R) (k1 : Int → Bool → Option R) : Nat → Int → Option R
  | 0, _ => none
  | m + 1, h8 =>
    platform_Valid_p21 n a0 a1 w4 h8
      (k0)
      (fun w161 =>
      platform_Valid_r22 n a0 a1 w4 k0 k1 m w161)
      (fun w162 =>
      k1 h8 w162)
def platform_Valid_p22 {R : Type} (n : Nat) (a0 : Int) (a1 : List (List D)) (w4 : Int) (k0 : Option R) (k1 : Int → Bool → Option R) : Option R := platform_Valid_r22 n a0 a1 w4 k0 k1 n (0 : Int)
def platform_Valid_p23 {R : Type} (n : Nat) (a0 : Int) (a1 : List (List D)) (w4 : Int) (k0 : Option R) (k1 : Int → Bool → Option R) : Option R :=
  platform_Valid_p22 n a0 a1 w4
    (k0)
    (fun w163 w164 =>
    k1 w163 w164)
def platform_Valid_p24 {R : Type} (n : Nat) (a0 : Int) (a1 : List (List D)) (w2 : Bool) (k0 : Option R) (k1 : Int → Int → Bool → Option R) : Option R :=
  platform_Valid_p3 n a0 a1 w2
    (fun w4 =>
    platform_Valid_p23 n a0 a1 w4
      (k0)
      (fun w165 w166 =>
      k1 w4 w165 w166))
def platform_Valid_p25 {R : Type} (n : Nat) (a0 : Int) (a1 : List (List D)) (w167 : Int) (w168 : Int) (w169 : Bool) (k0 : Option R) : Option R :=
  k0
def platform_Valid_p26 {R : Type} (n : Nat) (a0 : Int) (a1 : List (List D)) (w2 : Bool) (k0 : Bool → Option R) : Option R :=
  platform_Valid_p24 n a0 a1 w2
    (k0 false)
    (fun w167 w168 w169 =>
    platform_Valid_p25 n a0 a1 w167 w168 w169
      (k0 true))
def platform_Valid_p27 {R : Type} (n : Nat) (a0 : Int) (a1 : List (List D)) (k0 : Bool → Option R) : Option R :=
  platform_Valid_p2 n a0 a1
    (k0 false)
    (fun w2 =>
    platform_Valid_p26 n a0 a1 w2
      (fun w171 =>
      k0 w171))
def platform_Valid_p28 {R : Type} (n : Nat) (a0 : Int) (a1 : List (List D)) (k0 : Bool → Option R) : Option R :=
  platform_Valid_p1 n a0 a1
    (platform_Valid_p27 n a0 a1
      (fun w173 =>
      k0 w173))
def platform_Valid {R : Type} (n : Nat) (a0 : Int) (a1 : List (List D)) (K : Bool → Option R) : Option R :=
  platform_Valid_p28 n a0 a1
    (fun w173 => K w173)
end Go.Vx
/-
  platform_overlap: the pure function
-/
set_option linter.unusedVariables false
namespace Go.Vx
def platform_overlap_p1 {R : Type} (n : Nat) (a0 : Int) (a1_0 : Int) (a1_1 : Int) (a1_2 : List (List D)) (a2_0 : Int) (a2_1 : Int) (a2_2 : List (List D)) (k0 : Bool → Option R) : Option R :=
  gb true (arith_Mod n (IntKind.wrap .i64 (a2_0 - a1_0)) a0 some) 0 fun r1 =>
  gb (!(decide (r1 < a1_1))) (arith_Mod n (IntKind.wrap .i64 (a1_0 - a2_0)) a0 some) 0 fun r2 =>
  k0 (bif (decide (r1 < a1_1)) then true else (decide (r2 < a2_1)))
def platform_overlap {R : Type} (n : Nat) (a0 : Int) (a1_0 : Int) (a1_1 : Int) (a1_2 : List (List D)) (a2_0 : Int) (a2_1 : Int) (a2_2 : List (List D)) (K : Bool → Option R) : Option R :=
  platform_overlap_p1 n a0 a1_0 a1_1 a1_2 a2_0 a2_1 a2_2
    (fun z3 => K z3)
end Go.Vx
/-
  platform_Overlap: the pure function
-/
set_option linter.unusedVariables false
namespace Go.Vx
def platform_Overlap_p1 {R : Type} (n : Nat) (a0 : Int) (a1_0 : Int) (a1_1 : Int) (a1_2 : List (List D)) (a2_0 : Int) (a2_1 : Int) (a2_2 : List (List D)) (k0 : Bool → Option R) : Option R :=
  gb true (platform_Valid n a0 [[D.int .i64 a1_0, D.int .i64 a1_1, D.sl 1 a1_2], [D.int .i64 a2_0, D.int .i64 a2_1, D.sl 1 a2_2]] some) false fun r1 =>
  gb r1 (platform_overlap n a0 a1_0 a1_1 a1_2 a2_0 a2_1 a2_2 some) false fun r2 =>
  k0 (bif r1 then r2 else false)
def platform_Overlap {R : Type} (n : Nat) (a0 : Int) (a1_0 : Int) (a1_1 : Int) (a1_2 : List (List D)) (a2_0 : Int) (a2_1 : Int) (a2_2 : List (List D)) (K : Bool → Option R) : Option R :=
  platform_Overlap_p1 n a0 a1_0 a1_1 a1_2 a2_0 a2_1 a2_2
    (fun z3 => K z3)
end Go.Vx
/-
  law20_two: the pure function
-/
set_option linter.unusedVariables false
namespace Go.Vx
def law20_two_p1 {R : Type} (n : Nat)  (k0 : (List (List D)) → Option R) : Option R :=
  k0 [[D.int .i64 (8 : Int), D.int .i64 (4 : Int), D.sl 1 [[D.int .i64 (1 : Int)], [D.int .i64 (2 : Int)]]], [D.int .i64 (0 : Int), D.int .i64 (3 : Int), D.sl 1 [[D.int .i64 (1 : Int)]]]]
def law20_two {R : Type} (n : Nat)  (K : (List (List D)) → Option R) : Option R :=
  law20_two_p1 n 
    (fun z1 => K z1)
end Go.Vx
/-
  slices_Index_int_int: the pure function
-/
set_option linter.unusedVariables false
namespace Go.Vx
def slices_Index_int_int_p1 {R : Type} (n : Nat) (a0 : List (List D)) (a1 : Int) (k0 : Option R) : Option R :=
  k0
def slices_Index_int_int_p2 {R : Type} (n : Nat) (a0 : List (List D)) (a1 : Int) (k0 : Int → Option R) : Option R :=
  k0 ((List.length a0 : Nat) : Int)
def slices_Index_int_int_p3 {R : Type} (n : Nat) (a0 : List (List D)) (a1 : Int) (w2 : Int) (h6 : Int) (k0 : Option R) (k1 : Int → Option R) (k2 : Bool → Option R) : Option R :=
  bif (decide (h6 < w2)) then
    gb true (rowAt a0 h6) [] fun r12 =>
    gb true (r12[0]?) (.bool false) fun c13 =>
    gb true (pInt .i64 c13) 0 fun i14 =>
    bif (a1 == i14) then
      k0
    else
      k1 (IntKind.wrap .i64 (h6 + (1 : Int)))
  else
    k2 (decide (h6 < w2))
def slices_Index_int_int_r4 {R : Type} (n : Nat) (a0 : List (List D)) (a1 : Int) (w2 : Int) (k0 : Int → Option R) (k1 : Int → Bool → Option R) : Nat → Int → Option R
  | 0, _ => none
  | m + 1, h6 =>
    slices_Index_int_int_p3 n a0 a1 w2 h6
      (k0 h6)
      (fun w17 =>
      slices_Index_int_int_r4 n a0 a1 w2 k0 k1 m w17)
      (fun w18 =>
      k1 h6 w18)
def slices_Index_int_int_p4 {R : Type} (n : Nat) (a0 : List (List D)) (a1 : Int) (w2 : Int) (k0 : Int → Option R) (k1 : Int → Bool → Option R) : Option R := slices_Index_int_int_r4 n a0 a1 w2 k0 k1 n (0 : Int)
def slices_Index_int_int_p5 {R : Type} (n : Nat) (a0 : List (List D)) (a1 : Int) (w2 : Int) (k0 : Int → Option R) (k1 : Int → Bool → Option R) : Option R :=
  slices_Index_int_int_p4 n a0 a1 w2
    (fun w19 =>
    k0 w19)
    (fun w20 w21 =>
    k1 w20 w21)
def slices_Index_int_int_p6 {R : Type} (n : Nat) (a0 : List (List D)) (a1 : Int) (k0 : Int → Option R) (k1 : Int → Int → Bool → Option R) : Option R :=
  slices_Index_int_int_p2 n a0 a1
    (fun w2 =>
    slices_Index_int_int_p5 n a0 a1 w2
      (fun w22 =>
      k0 w22)
      (fun w23 w24 =>
      k1 w2 w23 w24))
def slices_Index_int_int_p7 {R : Type} (n : Nat) (a0 : List (List D)) (a1 : Int) (w26 : Int) (w27 : Int) (w28 : Bool) (k0 : Option R) : Option R :=
  k0
def slices_Index_int_int_p8 {R : Type} (n : Nat) (a0 : List (List D)) (a1 : Int) (k0 : Int → Option R) : Option R :=
  slices_Index_int_int_p6 n a0 a1
    (fun w25 =>
    k0 w25)
    (fun w26 w27 w28 =>
    slices_Index_int_int_p7 n a0 a1 w26 w27 w28
      (k0 (-1 : Int)))
def slices_Index_int_int_p9 {R : Type} (n : Nat) (a0 : List (List D)) (a1 : Int) (k0 : Int → Option R) : Option R :=
  slices_Index_int_int_p1 n a0 a1
    (slices_Index_int_int_p8 n a0 a1
      (fun w30 =>
      k0 w30))
def slices_Index_int_int {R : Type} (n : Nat) (a0 : List (List D)) (a1 : Int) (K : Int → Option R) : Option R :=
  slices_Index_int_int_p9 n a0 a1
    (fun w30 => K w30)
end Go.Vx
/-
  slices_Contains_int_int: the pure function
-/
set_option linter.unusedVariables false
namespace Go.Vx
def slices_Contains_int_int_p1 {R : Type} (n : Nat) (a0 : List (List D)) (a1 : Int) (k0 : Bool → Option R) : Option R :=
  gb true (slices_Index_int_int n a0 a1 some) 0 fun r1 =>
  k0 (decide (r1 ≥ (0 : Int)))
def slices_Contains_int_int {R : Type} (n : Nat) (a0 : List (List D)) (a1 : Int) (K : Bool → Option R) : Option R :=
  slices_Contains_int_int_p1 n a0 a1
    (fun z2 => K z2)
end Go.Vx
/-
  platform_fits: the pure function
-/
set_option linter.unusedVariables false
namespace Go.Vx
def platform_fits_p1 {R : Type} (n : Nat) (a0 : Int) (a1 : List (List D)) (a2 : List (List D)) (a3 : Int) (a4 : Int) (k0 : Option R) : Option R :=
  k0
def platform_fits_p2 {R : Type} (n : Nat) (a0 : Int) (a1 : List (List D)) (a2 : List (List D)) (a3 : Int) (a4 : Int) (k0 : Option R) : Option R :=
  k0
def platform_fits_p3 {R : Type} (n : Nat) (a0 : Int) (a1 : List (List D)) (a2 : List (List D)) (a3 : Int) (a4 : Int) (h7 : Int) (k0 : Option R) (k1 : Int → Option R) (k2 : Bool → Option R) : Option R :=
  bif (decide (h7 < a3)) then
    gb true (rowAt a2 h7) [] fun r28 =>
    gb true (r28[0]?) (.bool false) fun c29 =>
    gb true (pInt .i64 c29) 0 fun i30 =>
    gb (i30 == a4) (rowAt a1 h7) [] fun r31 =>
    gb (i30 == a4) (r31[0]?) (.bool false) fun c32 =>
    gb (i30 == a4) (r31[1]?) (.bool false) fun c33 =>
    gb (i30 == a4) (r31[2]?) (.bool false) fun c34 =>
    gb (i30 == a4) (rowAt a1 a3) [] fun r35 =>
    gb (i30 == a4) (r35[0]?) (.bool false) fun c36 =>
    gb (i30 == a4) (r35[1]?) (.bool false) fun c37 =>
    gb (i30 == a4) (r35[2]?) (.bool false) fun c38 =>
    gb (i30 == a4) (pInt .i64 c32) 0 fun i39 =>
    gb (i30 == a4) (pInt .i64 c33) 0 fun i40 =>
    gb (i30 == a4) (pSl 1 c34) [] fun l41 =>
    gb (i30 == a4) (pInt .i64 c36) 0 fun i42 =>
    gb (i30 == a4) (pInt .i64 c37) 0 fun i43 =>
    gb (i30 == a4) (pSl 1 c38) [] fun l44 =>
    gb (i30 == a4) (platform_overlap n a0 i39 i40 l41 i42 i43 l44 some) false fun r45 =>
    bif (bif (i30 == a4) then r45 else false) then
      k0
    else
      k1 (IntKind.wrap .i64 (h7 + (1 : Int)))
  else
    k2 (decide (h7 < a3))
def platform_fits_r4 {R : Type} (n : Nat) (a0 : Int) (a1 : List (List D)) (a2 : List (List D)) (a3 : Int) (a4 : Int) (k0 : Option R) (k1 : Int → Bool → Option R) : Nat → Int → Option R
  | 0, _ => none
  | m + 1, h7 =>
    platform_fits_p3 n a0 a1 a2 a3 a4 h7
      (k0)
      (fun w48 =>
      platform_fits_r4 n a0 a1 a2 a3 a4 k0 k1 m w48)
      (fun w49 =>
      k1 h7 w49)
def platform_fits_p4 {R : Type} (n : Nat) (a0 : Int) (a1 : List (List D)) (a2 : List (List D)) (a3 : Int) (a4 : Int) (k0 : Option R) (k1 : Int → Bool → Option R) : Option R := platform_fits_r4 n a0 a1 a2 a3 a4 k0 k1 n (0 : Int)
def platform_fits_p5 {R : Type} (n : Nat) (a0 : Int) (a1 : List (List D)) (a2 : List (List D)) (a3 : Int) (a4 : Int) (k0 : Option R) (k1 : Int → Bool → Option R) : Option R :=
  platform_fits_p4 n a0 a1 a2 a3 a4
    (k0)
    (fun w50 w51 =>
    k1 w50 w51)
def platform_fits_p6 {R : Type} (n : Nat) (a0 : Int) (a1 : List (List D)) (a2 : List (List D)) (a3 : Int) (a4 : Int) (k0 : Option R) (k1 : Int → Bool → Option R) : Option R :=
  platform_fits_p2 n a0 a1 a2 a3 a4
    (platform_fits_p5 n a0 a1 a2 a3 a4
      (k0)
      (fun w52 w53 =>
      k1 w52 w53))
def platform_fits_p7 {R : Type} (n : Nat) (a0 : Int) (a1 : List (List D)) (a2 : List (List D)) (a3 : Int) (a4 : Int) (w54 : Int) (w55 : Bool) (k0 : Option R) : Option R :=
  k0
def platform_fits_p8 {R : Type} (n : Nat) (a0 : Int) (a1 : List (List D)) (a2 : List (List D)) (a3 : Int) (a4 : Int) (k0 : Bool → Option R) : Option R :=
  platform_fits_p6 n a0 a1 a2 a3 a4
    (k0 false)
    (fun w54 w55 =>
    platform_fits_p7 n a0 a1 a2 a3 a4 w54 w55
      (k0 true))
def platform_fits_p9 {R : Type} (n : Nat) (a0 : Int) (a1 : List (List D)) (a2 : List (List D)) (a3 : Int) (a4 : Int) (k0 : Bool → Option R) : Option R :=
  platform_fits_p1 n a0 a1 a2 a3 a4
    (platform_fits_p8 n a0 a1 a2 a3 a4
      (fun w57 =>
      k0 w57))
def platform_fits {R : Type} (n : Nat) (a0 : Int) (a1 : List (List D)) (a2 : List (List D)) (a3 : Int) (a4 : Int) (K : Bool → Option R) : Option R :=
  platform_fits_p9 n a0 a1 a2 a3 a4
    (fun w57 => K w57)
end Go.Vx
/-
  platform_Proper: the pure function
-/
set_option linter.unusedVariables false
namespace Go.Vx
def platform_Proper_p1 {R : Type} (n : Nat) (a0 : Int) (a1 : List (List D)) (a2 : List (List D)) (k0 : Option R) : Option R :=
  k0
def platform_Proper_p2 {R : Type} (n : Nat) (a0 : Int) (a1 : List (List D)) (a2 : List (List D)) (k0 : Option R) (k1 : Bool → Option R) : Option R :=
  gb true (platform_Valid n a0 a1 some) false fun r1 =>
  bif (bif (!r1) then true else (((List.length a2 : Nat) : Int) != ((List.length a1 : Nat) : Int))) then
    k0
  else
    k1 (bif (!r1) then true else (((List.length a2 : Nat) : Int) != ((List.length a1 : Nat) : Int)))
def platform_Proper_p3 {R : Type} (n : Nat) (a0 : Int) (a1 : List (List D)) (a2 : List (List D)) (w3 : Bool) (k0 : Int → Option R) : Option R :=
  k0 ((List.length a2 : Nat) : Int)
def platform_Proper_p4 {R : Type} (n : Nat) (a0 : Int) (a1 : List (List D)) (a2 : List (List D)) (w5 : Int) (h11 : Int) (k0 : Option R) (k1 : Int → Option R) (k2 : Bool → Option R) : Option R :=
  bif (decide (h11 < w5)) then
    gb true (rowAt a2 h11) [] fun r22 =>
    gb true (r22[0]?) (.bool false) fun c23 =>
    gb true (pInt .i64 c23) 0 fun i24 =>
    gb true (rowAt a1 h11) [] fun r25 =>
    gb true (r25[2]?) (.bool false) fun c26 =>
    gb true (pSl 1 c26) [] fun l27 =>
    gb true (slices_Contains_int_int n l27 i24 some) false fun r28 =>
    bif (!r28) then
      k0
    else
      gb true (platform_fits n a0 a1 a2 h11 i24 some) false fun r29 =>
      bif (!r29) then
        k0
      else
        k1 (IntKind.wrap .i64 (h11 + (1 : Int)))
  else
    k2 (decide (h11 < w5))
def platform_Proper_r5 {R : Type} (n : Nat) (a0 : Int) (a1 : List (List D)) (a2 : List (List D)) (w5 : Int) (k0 : Option R) (k1 : Int → Bool → Option R) : Nat → Int → Option R
  | 0, _ => none
  | m + 1, h11 =>
    platform_Proper_p4 n a0 a1 a2 w5 h11
      (k0)
      (fun w32 =>
      platform_Proper_r5 n a0 a1 a2 w5 k0 k1 m w32)
      (fun w33 =>
      k1 h11 w33)
def platform_Proper_p5 {R : Type} (n : Nat) (a0 : Int) (a1 : List (List D)) (a2 : List (List D)) (w5 : Int) (k0 : Option R) (k1 : Int → Bool → Option R) : Option R := platform_Proper_r5 n a0 a1 a2 w5 k0 k1 n (0 : Int)
def platform_Proper_p6 {R : Type} (n : Nat) (a0 : Int) (a1 : List (List D)) (a2 : List (List D)) (w5 : Int) (k0 : Option R) (k1 : Int → Bool → Option R) : Option R :=
  platform_Proper_p5 n a0 a1 a2 w5
    (k0)
    (fun w34 w35 =>
    k1 w34 w35)
def platform_Proper_p7 {R : Type} (n : Nat) (a0 : Int) (a1 : List (List D)) (a2 : List (List D)) (w3 : Bool) (k0 : Option R) (k1 : Int → Int → Bool → Option R) : Option R :=
  platform_Proper_p3 n a0 a1 a2 w3
    (fun w5 =>
    platform_Proper_p6 n a0 a1 a2 w5
      (k0)
      (fun w36 w37 =>
      k1 w5 w36 w37))
def platform_Proper_p8 {R : Type} (n : Nat) (a0 : Int) (a1 : List (List D)) (a2 : List (List D)) (w38 : Int) (w39 : Int) (w40 : Bool) (k0 : Option R) : Option R :=
  k0
def platform_Proper_p9 {R : Type} (n : Nat) (a0 : Int) (a1 : List (List D)) (a2 : List (List D)) (w3 : Bool) (k0 : Bool → Option R) : Option R :=
  platform_Proper_p7 n a0 a1 a2 w3
    (k0 false)
    (fun w38 w39 w40 =>
    platform_Proper_p8 n a0 a1 a2 w38 w39 w40
      (k0 true))
def platform_Proper_p10 {R : Type} (n : Nat) (a0 : Int) (a1 : List (List D)) (a2 : List (List D)) (k0 : Bool → Option R) : Option R :=
  platform_Proper_p2 n a0 a1 a2
    (k0 false)
    (fun w3 =>
    platform_Proper_p9 n a0 a1 a2 w3
      (fun w42 =>
      k0 w42))
def platform_Proper_p11 {R : Type} (n : Nat) (a0 : Int) (a1 : List (List D)) (a2 : List (List D)) (k0 : Bool → Option R) : Option R :=
  platform_Proper_p1 n a0 a1 a2
    (platform_Proper_p10 n a0 a1 a2
      (fun w44 =>
      k0 w44))
def platform_Proper {R : Type} (n : Nat) (a0 : Int) (a1 : List (List D)) (a2 : List (List D)) (K : Bool → Option R) : Option R :=
  platform_Proper_p11 n a0 a1 a2
    (fun w44 => K w44)
end Go.Vx
/-
  law20_awake: the pure function
-/
set_option linter.unusedVariables false
namespace Go.Vx
def law20_awake_p1 {R : Type} (n : Nat)  (k0 : Bool → Option R) : Option R :=
  gb true (law20_two n  some) [] fun r1 =>
  gb true (platform_Proper n (10 : Int) r1 [[D.int .i64 (2 : Int)], [D.int .i64 (1 : Int)]] some) false fun r2 =>
  gb r2 (law20_two n  some) [] fun r3 =>
  gb r2 (platform_Proper n (10 : Int) r3 [[D.int .i64 (1 : Int)], [D.int .i64 (1 : Int)]] some) false fun r4 =>
  k0 (bif r2 then (!r4) else false)
def law20_awake {R : Type} (n : Nat)  (K : Bool → Option R) : Option R :=
  law20_awake_p1 n 
    (fun z5 => K z5)
end Go.Vx
/-
  law20_PlatformOverlapIsCommon: the pure function
-/
set_option linter.unusedVariables false
namespace Go.Vx
def law20_PlatformOverlapIsCommon_p1 {R : Type} (n : Nat) (a0 : Int) (a1 : List (List D)) (k0 : Option R) : Option R :=
  k0
def law20_PlatformOverlapIsCommon_p2 {R : Type} (n : Nat) (a0 : Int) (a1 : List (List D)) (k0 : Int → Option R) : Option R :=
  gb true (keep_Pick n a0 (30 : Int) some) 0 fun r1 =>
  k0 (IntKind.wrap .i64 ((2 : Int) + r1))
def law20_PlatformOverlapIsCommon_p3 {R : Type} (n : Nat) (w3 : Int) (a1 : List (List D)) (k0 : (List (List D)) → Option R) : Option R :=
  gb true (law20_visits n w3 a1 some) [] fun r4 =>
  k0 r4
def law20_PlatformOverlapIsCommon_p4 {R : Type} (n : Nat) (w3 : Int) (w5 : List (List D)) (k0 : Bool → Option R) (k1 : Bool → Option R) : Option R :=
  bif (decide (((List.length w5 : Nat) : Int) < (2 : Int))) then
    gb true (law20_awake n  some) false fun r6 =>
    k0 r6
  else
    k1 (decide (((List.length w5 : Nat) : Int) < (2 : Int)))
def law20_PlatformOverlapIsCommon_p5 {R : Type} (n : Nat) (w3 : Int) (w5 : List (List D)) (w9 : Bool) (k0 : Option R) : Option R :=
  k0
def law20_PlatformOverlapIsCommon_p6 {R : Type} (n : Nat) (w3 : Int) (w5 : List (List D)) (k0 : Option R) : Option R :=
  k0
def law20_PlatformOverlapIsCommon_p7 {R : Type} (n : Nat) (w3 : Int) (w5 : List (List D)) (h12 : Bool) (h13 : Int) (k0 : Bool → Int → Option R) (k1 : Bool → Option R) : Option R :=
  bif (decide (h13 < w3)) then
    gb (!h12) (rowAt w5 (0 : Int)) [] fun r31 =>
    gb (!h12) (r31[0]?) (.bool false) fun c32 =>
    gb (!h12) (pInt .i64 c32) 0 fun i33 =>
    gb (!h12) (ref1_Mod n (IntKind.wrap .i64 (h13 - i33)) w3 some) 0 fun r34 =>
    gb (!h12) (rowAt w5 (0 : Int)) [] fun r35 =>
    gb (!h12) (r35[1]?) (.bool false) fun c36 =>
    gb (!h12) (pInt .i64 c36) 0 fun i37 =>
    gb ((!h12) && (decide (r34 < i37))) (rowAt w5 (1 : Int)) [] fun r38 =>
    gb ((!h12) && (decide (r34 < i37))) (r38[0]?) (.bool false) fun c39 =>
    gb ((!h12) && (decide (r34 < i37))) (pInt .i64 c39) 0 fun i40 =>
    gb ((!h12) && (decide (r34 < i37))) (ref1_Mod n (IntKind.wrap .i64 (h13 - i40)) w3 some) 0 fun r41 =>
    gb ((!h12) && (decide (r34 < i37))) (rowAt w5 (1 : Int)) [] fun r42 =>
    gb ((!h12) && (decide (r34 < i37))) (r42[1]?) (.bool false) fun c43 =>
    gb ((!h12) && (decide (r34 < i37))) (pInt .i64 c43) 0 fun i44 =>
    k0 (bif h12 then true else (bif (decide (r34 < i37)) then (decide (r41 < i44)) else false)) (IntKind.wrap .i64 (h13 + (1 : Int)))
  else
    k1 (decide (h13 < w3))
def law20_PlatformOverlapIsCommon_r8 {R : Type} (n : Nat) (w3 : Int) (w5 : List (List D)) (k0 : Bool → Int → Bool → Option R) : Nat → Bool → Int → Option R
  | 0, _, _ => none
  | m + 1, h12, h13 =>
    law20_PlatformOverlapIsCommon_p7 n w3 w5 h12 h13
      (fun w48 w49 =>
      law20_PlatformOverlapIsCommon_r8 n w3 w5 k0 m w48 w49)
      (fun w50 =>
      k0 h12 h13 w50)
def law20_PlatformOverlapIsCommon_p8 {R : Type} (n : Nat) (w3 : Int) (w5 : List (List D)) (k0 : Bool → Int → Bool → Option R) : Option R := law20_PlatformOverlapIsCommon_r8 n w3 w5 k0 n false (0 : Int)
def law20_PlatformOverlapIsCommon_p9 {R : Type} (n : Nat) (w3 : Int) (w5 : List (List D)) (k0 : Bool → Int → Bool → Option R) : Option R :=
  law20_PlatformOverlapIsCommon_p8 n w3 w5
    (fun w51 w52 w53 =>
    k0 w51 w52 w53)
def law20_PlatformOverlapIsCommon_p10 {R : Type} (n : Nat) (w3 : Int) (w5 : List (List D)) (k0 : Bool → Int → Bool → Option R) : Option R :=
  law20_PlatformOverlapIsCommon_p6 n w3 w5
    (law20_PlatformOverlapIsCommon_p9 n w3 w5
      (fun w54 w55 w56 =>
      k0 w54 w55 w56))
def law20_PlatformOverlapIsCommon_p11 {R : Type} (n : Nat) (w3 : Int) (w5 : List (List D)) (w57 : Bool) (w58 : Int) (w59 : Bool) (k0 : Bool → Option R) : Option R :=
  gb true (law20_awake n  some) false fun r60 =>
  gb r60 (rowAt w5 (0 : Int)) [] fun r61 =>
  gb r60 (r61[0]?) (.bool false) fun c62 =>
  gb r60 (r61[1]?) (.bool false) fun c63 =>
  gb r60 (r61[2]?) (.bool false) fun c64 =>
  gb r60 (rowAt w5 (1 : Int)) [] fun r65 =>
  gb r60 (r65[0]?) (.bool false) fun c66 =>
  gb r60 (r65[1]?) (.bool false) fun c67 =>
  gb r60 (r65[2]?) (.bool false) fun c68 =>
  gb r60 (pInt .i64 c62) 0 fun i69 =>
  gb r60 (pInt .i64 c63) 0 fun i70 =>
  gb r60 (pSl 1 c64) [] fun l71 =>
  gb r60 (pInt .i64 c66) 0 fun i72 =>
  gb r60 (pInt .i64 c67) 0 fun i73 =>
  gb r60 (pSl 1 c68) [] fun l74 =>
  gb r60 (platform_Overlap n w3 i69 i70 l71 i72 i73 l74 some) false fun r75 =>
  gb (bif r60 then (r75 == w57) else false) (rowAt w5 (1 : Int)) [] fun r76 =>
  gb (bif r60 then (r75 == w57) else false) (r76[0]?) (.bool false) fun c77 =>
  gb (bif r60 then (r75 == w57) else false) (r76[1]?) (.bool false) fun c78 =>
  gb (bif r60 then (r75 == w57) else false) (r76[2]?) (.bool false) fun c79 =>
  gb (bif r60 then (r75 == w57) else false) (rowAt w5 (0 : Int)) [] fun r80 =>
  gb (bif r60 then (r75 == w57) else false) (r80[0]?) (.bool false) fun c81 =>
  gb (bif r60 then (r75 == w57) else false) (r80[1]?) (.bool false) fun c82 =>
  gb (bif r60 then (r75 == w57) else false) (r80[2]?) (.bool false) fun c83 =>
  gb (bif r60 then (r75 == w57) else false) (pInt .i64 c77) 0 fun i84 =>
  gb (bif r60 then (r75 == w57) else false) (pInt .i64 c78) 0 fun i85 =>
  gb (bif r60 then (r75 == w57) else false) (pSl 1 c79) [] fun l86 =>
  gb (bif r60 then (r75 == w57) else false) (pInt .i64 c81) 0 fun i87 =>
  gb (bif r60 then (r75 == w57) else false) (pInt .i64 c82) 0 fun i88 =>
  gb (bif r60 then (r75 == w57) else false) (pSl 1 c83) [] fun l89 =>
  gb (bif r60 then (r75 == w57) else false) (platform_Overlap n w3 i84 i85 l86 i87 i88 l89 some) false fun r90 =>
  k0 (bif (bif r60 then (r75 == w57) else false) then (r90 == w57) else false)
def law20_PlatformOverlapIsCommon_p12 {R : Type} (n : Nat) (w3 : Int) (w5 : List (List D)) (k0 : Bool → Option R) : Option R :=
  law20_PlatformOverlapIsCommon_p10 n w3 w5
    (fun w57 w58 w59 =>
    law20_PlatformOverlapIsCommon_p11 n w3 w5 w57 w58 w59
      (fun w92 =>
      k0 w92))
def law20_PlatformOverlapIsCommon_p13 {R : Type} (n : Nat) (w3 : Int) (w5 : List (List D)) (w9 : Bool) (k0 : Bool → Option R) : Option R :=
  law20_PlatformOverlapIsCommon_p5 n w3 w5 w9
    (law20_PlatformOverlapIsCommon_p12 n w3 w5
      (fun w93 =>
      k0 w93))
def law20_PlatformOverlapIsCommon_p14 {R : Type} (n : Nat) (w3 : Int) (w5 : List (List D)) (k0 : Bool → Option R) : Option R :=
  law20_PlatformOverlapIsCommon_p4 n w3 w5
    (fun w8 =>
    k0 w8)
    (fun w9 =>
    law20_PlatformOverlapIsCommon_p13 n w3 w5 w9
      (fun w94 =>
      k0 w94))
def law20_PlatformOverlapIsCommon_p15 {R : Type} (n : Nat) (w3 : Int) (a1 : List (List D)) (k0 : Bool → Option R) : Option R :=
  law20_PlatformOverlapIsCommon_p3 n w3 a1
    (fun w5 =>
    law20_PlatformOverlapIsCommon_p14 n w3 w5
      (fun w96 =>
      k0 w96))
def law20_PlatformOverlapIsCommon_p16 {R : Type} (n : Nat) (a0 : Int) (a1 : List (List D)) (k0 : Bool → Option R) : Option R :=
  law20_PlatformOverlapIsCommon_p2 n a0 a1
    (fun w3 =>
    law20_PlatformOverlapIsCommon_p15 n w3 a1
      (fun w97 =>
      k0 w97))
def law20_PlatformOverlapIsCommon_p17 {R : Type} (n : Nat) (a0 : Int) (a1 : List (List D)) (k0 : Bool → Option R) : Option R :=
  law20_PlatformOverlapIsCommon_p1 n a0 a1
    (law20_PlatformOverlapIsCommon_p16 n a0 a1
      (fun w98 =>
      k0 w98))
def law20_PlatformOverlapIsCommon {R : Type} (n : Nat) (a0 : Int) (a1 : List (List D)) (K : Bool → Option R) : Option R :=
  law20_PlatformOverlapIsCommon_p17 n a0 a1
    (fun w98 => K w98)
end Go.Vx
