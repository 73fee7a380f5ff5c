/- Part of a proof: texts Vfarith Mod Vfref1 Mod Vfkeep Pick Vfkeep Source Next Vfkeep From Vflaw20 visits Vfplatform Valid Vfplatform overlap Vfplatform Overlap Vfref19 in Vfref19 ValidVisits Vfref19 membe. No conditions of their own. -/
import Derived.Test.YtbkkpccmjhimjaaT2VA
/-
  arith_Mod: the pure function
-/
set_option linter.unusedVariables false
namespace Go.Vx
def arith_Mod_p1 {R : Type} (n : Nat) (a0 : Int) (a1 : Int) (k0 : Int → Option R) : Option R :=
  bif (decide (a1 < (1 : Int))) then
    k0 (0 : Int)
  else
    gb true (nz a1) () fun u1 =>
    bif (decide ((Int.tmod a0 a1) < (0 : Int))) then
      k0 (IntKind.wrap .i64 ((Int.tmod a0 a1) + a1))
    else
      k0 (Int.tmod a0 a1)
def arith_Mod {R : Type} (n : Nat) (a0 : Int) (a1 : Int) (K : Int → Option R) : Option R :=
  arith_Mod_p1 n a0 a1
    (fun z2 => K z2)
end Go.Vx
/-
  ref1_Mod: the pure function
-/
set_option linter.unusedVariables false
namespace Go.Vx
def ref1_Mod_p1 {R : Type} (n : Nat) (a0 : Int) (a1 : Int) (k0 : Int → Option R) : Option R :=
  bif (decide (a1 < (1 : Int))) then
    k0 (0 : Int)
  else
    gb true (nz a1) () fun u1 =>
    bif (decide ((Int.tmod a0 a1) < (0 : Int))) then
      k0 (IntKind.wrap .i64 ((Int.tmod a0 a1) + a1))
    else
      k0 (Int.tmod a0 a1)
def ref1_Mod {R : Type} (n : Nat) (a0 : Int) (a1 : Int) (K : Int → Option R) : Option R :=
  ref1_Mod_p1 n a0 a1
    (fun z2 => K z2)
end Go.Vx
/-
  keep_Pick: the pure function
-/
set_option linter.unusedVariables false
namespace Go.Vx
def keep_Pick_p1 {R : Type} (n : Nat) (a0 : Int) (a1 : Int) (k0 : Int → Option R) : Option R :=
  gb true (nz (IntKind.wrap .u64 a1)) () fun u1 =>
  k0 (IntKind.wrap .i64 (Int.tmod (IntKind.wrap .u64 a0) (IntKind.wrap .u64 a1)))
def keep_Pick {R : Type} (n : Nat) (a0 : Int) (a1 : Int) (K : Int → Option R) : Option R :=
  keep_Pick_p1 n a0 a1
    (fun z2 => K z2)
end Go.Vx
/-
  keep_Source_Next: the pure function
-/
set_option linter.unusedVariables false
namespace Go.Vx
def keep_Source_Next_p1 {R : Type} (n : Nat) (a1 : Int) (a0_0 : List (List D)) (a0_1 : Int) (k0 : Int → Int → Option R) : Option R :=
  bif (decide (a0_1 ≥ ((List.length a0_0 : Nat) : Int))) then
    k0 (0 : Int) a0_1
  else
    gb true (rowAt a0_0 (IntKind.wrap .i64 ((IntKind.wrap .i64 (a0_1 + (1 : Int))) - (1 : Int)))) [] fun r1 =>
    gb true (r1[0]?) (.bool false) fun c2 =>
    gb true (pInt .i64 c2) 0 fun i3 =>
    gb true (keep_Pick n i3 a1 some) 0 fun r4 =>
    k0 r4 (IntKind.wrap .i64 (a0_1 + (1 : Int)))
def keep_Source_Next {R : Type} (n : Nat) (a0_0 : List (List D)) (a0_1 : Int) (a1 : Int) (K : Int → (List (List D)) → Int → Option R) : Option R :=
  keep_Source_Next_p1 n a1 a0_0 a0_1
    (fun z5 z6 => K z5 a0_0 z6)
end Go.Vx
/-
  keep_From: the pure function
-/
set_option linter.unusedVariables false
namespace Go.Vx
def keep_From_p1 {R : Type} (n : Nat) (a0 : List (List D)) (k0 : Option R) : Option R :=
  k0
def keep_From {R : Type} (n : Nat) (a0 : List (List D)) (K : (List (List D)) → Int → Option R) : Option R :=
  keep_From_p1 n a0
    (K a0 (0 : Int))
end Go.Vx
/-
  law20_visits: the pure function
-/
set_option linter.unusedVariables false
namespace Go.Vx
def law20_visits_p1 {R : Type} (n : Nat) (a0 : Int) (a1 : List (List D)) (k0 : Option R) : Option R :=
  k0
def law20_visits_p2 {R : Type} (n : Nat) (a0 : Int) (a1 : List (List D)) (k0 : (List (List D)) → Int → Option R) : Option R :=
  gb true (keep_From n a1 (fun r0 r1 => some (r0, r1))) ([], 0) fun r1 =>
  k0 r1.1 r1.2
def law20_visits_p3 {R : Type} (n : Nat) (a0 : Int) (w4 : List (List D)) (w5 : Int) (k0 : Option R) : Option R :=
  k0
def law20_visits_p4 {R : Type} (n : Nat) (a0 : Int) (w4 : List (List D)) (w5 : Int) (k0 : Int → (List (List D)) → Int → Option R) : Option R :=
  gb true (keep_Source_Next n w4 w5 (8 : Int) (fun r0 r1 r2 => some (r0, r1, r2))) (0, [], 0) fun r6 =>
  k0 r6.1 r6.2.1 r6.2.2
def law20_visits_p5 {R : Type} (n : Nat) (a0 : Int) (h14 : Int) (h15 : List (List D)) (h16 : List (List D)) (h17 : Int) (k0 : Bool → Option R) (k1 : Bool → Option R) : Option R :=
  bif (decide (h14 > (0 : Int))) then
    k0 (decide (h14 > (0 : Int)))
  else
    k1 (decide (h14 > (0 : Int)))
def law20_visits_p6 {R : Type} (n : Nat) (a0 : Int) (h14 : Int) (w165 : Bool) (h15 : List (List D)) (h16 : List (List D)) (h17 : Int) (k0 : Int → Int → (List (List D)) → Int → Option R) : Option R :=
  gb true (keep_Source_Next n h16 h17 a0 (fun r0 r1 r2 => some (r0, r1, r2))) (0, [], 0) fun r166 =>
  gb true (keep_Source_Next n r166.2.1 r166.2.2 a0 (fun r0 r1 r2 => some (r0, r1, r2))) (0, [], 0) fun r167 =>
  k0 r166.1 (IntKind.wrap .i64 ((1 : Int) + r167.1)) r167.2.1 r167.2.2
def law20_visits_p7 {R : Type} (n : Nat) (a0 : Int) (h14 : Int) (w172 : Int) (w173 : Int) (h15 : List (List D)) (w174 : List (List D)) (w175 : Int) (k0 : Int → (List (List D)) → Int → Option R) (k1 : Bool → (List (List D)) → Int → Option R) : Option R :=
  gb true (keep_Source_Next n w174 w175 (2 : Int) (fun r0 r1 r2 => some (r0, r1, r2))) (0, [], 0) fun r176 =>
  bif (r176.1 == (0 : Int)) then
    gb true (nz (3 : Int)) () fun u177 =>
    gb true (keep_Source_Next n r176.2.1 r176.2.2 (IntKind.wrap .i64 ((1 : Int) + (IntKind.wrap .i64 (Int.tdiv a0 (3 : Int))))) (fun r0 r1 r2 => some (r0, r1, r2))) (0, [], 0) fun r178 =>
    k0 (IntKind.wrap .i64 ((1 : Int) + r178.1)) r178.2.1 r178.2.2
  else
    k1 (r176.1 == (0 : Int)) r176.2.1 r176.2.2
def law20_visits_p8 {R : Type} (n : Nat) (a0 : Int) (h14 : Int) (w172 : Int) (w185 : Int) (h15 : List (List D)) (w186 : List (List D)) (w187 : Int) (k0 : Option R) : Option R :=
  k0
def law20_visits_p9 {R : Type} (n : Nat) (a0 : Int) (h14 : Int) (h190 : Int) (h191 : List (List D)) (w172 : Int) (w185 : Int) (h15 : List (List D)) (h195 : List (List D)) (h196 : Int) (k0 : Int → (List (List D)) → (List (List D)) → Int → Option R) (k1 : Bool → Option R) : Option R :=
  bif (decide (h190 < (4 : Int))) then
    gb true (keep_Source_Next n h195 h196 (2 : Int) (fun r0 r1 r2 => some (r0, r1, r2))) (0, [], 0) fun r204 =>
    bif (r204.1 == (0 : Int)) then
      gb true (room ((List.length h191 + List.length [[D.int .i64 h190]]) * 8)) () fun u205 =>
      k0 (IntKind.wrap .i64 (h190 + (1 : Int))) (h191 ++ [[D.int .i64 h190]]) r204.2.1 r204.2.2
    else
      k0 (IntKind.wrap .i64 (h190 + (1 : Int))) h191 r204.2.1 r204.2.2
  else
    k1 (decide (h190 < (4 : Int)))
def law20_visits_r10 {R : Type} (n : Nat) (a0 : Int) (h14 : Int) (w172 : Int) (w185 : Int) (h15 : List (List D)) (k0 : Int → Bool → (List (List D)) → (List (List D)) → Int → Option R) : Nat → Int → (List (List D)) → (List (List D)) → Int → Option R
  | 0, _, _, _, _ => none
  | m + 1, h190, h191, h195, h196 =>
    law20_visits_p9 n a0 h14 h190 h191 w172 w185 h15 h195 h196
      (fun w211 w212 w213 w214 =>
      law20_visits_r10 n a0 h14 w172 w185 h15 k0 m w211 w212 w213 w214)
      (fun w215 =>
      k0 h190 w215 h191 h195 h196)
def law20_visits_p10 {R : Type} (n : Nat) (a0 : Int) (h14 : Int) (w172 : Int) (w185 : Int) (h15 : List (List D)) (w186 : List (List D)) (w187 : Int) (k0 : Int → Bool → (List (List D)) → (List (List D)) → Int → Option R) : Option R := law20_visits_r10 n a0 h14 w172 w185 h15 k0 n (0 : Int) [] w186 w187
def law20_visits_p11 {R : Type} (n : Nat) (a0 : Int) (h14 : Int) (w172 : Int) (w185 : Int) (h15 : List (List D)) (w186 : List (List D)) (w187 : Int) (k0 : Int → Bool → (List (List D)) → (List (List D)) → Int → Option R) : Option R :=
  law20_visits_p10 n a0 h14 w172 w185 h15 w186 w187
    (fun w216 w217 w218 w219 w220 =>
    k0 w216 w217 w218 w219 w220)
def law20_visits_p12 {R : Type} (n : Nat) (a0 : Int) (h14 : Int) (w172 : Int) (w185 : Int) (h15 : List (List D)) (w186 : List (List D)) (w187 : Int) (k0 : Int → Bool → (List (List D)) → (List (List D)) → Int → Option R) : Option R :=
  law20_visits_p8 n a0 h14 w172 w185 h15 w186 w187
    (law20_visits_p11 n a0 h14 w172 w185 h15 w186 w187
      (fun w221 w222 w223 w224 w225 =>
      k0 w221 w222 w223 w224 w225))
def law20_visits_p13 {R : Type} (n : Nat) (a0 : Int) (h14 : Int) (w226 : Int) (w227 : Bool) (w172 : Int) (w185 : Int) (h15 : List (List D)) (w228 : List (List D)) (w229 : List (List D)) (w230 : Int) (k0 : (List (List D)) → Option R) : Option R :=
  gb true (room ((List.length h15 + List.length [[D.int .i64 w172, D.int .i64 w185, D.sl 1 w228]]) * 40)) () fun u231 =>
  k0 (h15 ++ [[D.int .i64 w172, D.int .i64 w185, D.sl 1 w228]])
def law20_visits_p14 {R : Type} (n : Nat) (a0 : Int) (h14 : Int) (w172 : Int) (w185 : Int) (h15 : List (List D)) (w186 : List (List D)) (w187 : Int) (k0 : (List (List D)) → (List (List D)) → Int → Option R) : Option R :=
  law20_visits_p12 n a0 h14 w172 w185 h15 w186 w187
    (fun w226 w227 w228 w229 w230 =>
    law20_visits_p13 n a0 h14 w226 w227 w172 w185 h15 w228 w229 w230
      (fun w233 =>
      k0 w233 w229 w230))
def law20_visits_p15 {R : Type} (n : Nat) (a0 : Int) (h14 : Int) (w237 : Bool) (w172 : Int) (w173 : Int) (h15 : List (List D)) (w238 : List (List D)) (w239 : Int) (k0 : Option R) : Option R :=
  k0
def law20_visits_p16 {R : Type} (n : Nat) (a0 : Int) (h14 : Int) (h242 : Int) (h243 : List (List D)) (w172 : Int) (w173 : Int) (h15 : List (List D)) (h247 : List (List D)) (h248 : Int) (k0 : Int → (List (List D)) → (List (List D)) → Int → Option R) (k1 : Bool → Option R) : Option R :=
  bif (decide (h242 < (4 : Int))) then
    gb true (keep_Source_Next n h247 h248 (2 : Int) (fun r0 r1 r2 => some (r0, r1, r2))) (0, [], 0) fun r256 =>
    bif (r256.1 == (0 : Int)) then
      gb true (room ((List.length h243 + List.length [[D.int .i64 h242]]) * 8)) () fun u257 =>
      k0 (IntKind.wrap .i64 (h242 + (1 : Int))) (h243 ++ [[D.int .i64 h242]]) r256.2.1 r256.2.2
    else
      k0 (IntKind.wrap .i64 (h242 + (1 : Int))) h243 r256.2.1 r256.2.2
  else
    k1 (decide (h242 < (4 : Int)))
def law20_visits_r17 {R : Type} (n : Nat) (a0 : Int) (h14 : Int) (w172 : Int) (w173 : Int) (h15 : List (List D)) (k0 : Int → Bool → (List (List D)) → (List (List D)) → Int → Option R) : Nat → Int → (List (List D)) → (List (List D)) → Int → Option R
  | 0, _, _, _, _ => none
  | m + 1, h242, h243, h247, h248 =>
    law20_visits_p16 n a0 h14 h242 h243 w172 w173 h15 h247 h248
      (fun w263 w264 w265 w266 =>
      law20_visits_r17 n a0 h14 w172 w173 h15 k0 m w263 w264 w265 w266)
      (fun w267 =>
      k0 h242 w267 h243 h247 h248)
def law20_visits_p17 {R : Type} (n : Nat) (a0 : Int) (h14 : Int) (w172 : Int) (w173 : Int) (h15 : List (List D)) (w238 : List (List D)) (w239 : Int) (k0 : Int → Bool → (List (List D)) → (List (List D)) → Int → Option R) : Option R := law20_visits_r17 n a0 h14 w172 w173 h15 k0 n (0 : Int) [] w238 w239
def law20_visits_p18 {R : Type} (n : Nat) (a0 : Int) (h14 : Int) (w172 : Int) (w173 : Int) (h15 : List (List D)) (w238 : List (List D)) (w239 : Int) (k0 : Int → Bool → (List (List D)) → (List (List D)) → Int → Option R) : Option R :=
  law20_visits_p17 n a0 h14 w172 w173 h15 w238 w239
    (fun w268 w269 w270 w271 w272 =>
    k0 w268 w269 w270 w271 w272)
def law20_visits_p19 {R : Type} (n : Nat) (a0 : Int) (h14 : Int) (w237 : Bool) (w172 : Int) (w173 : Int) (h15 : List (List D)) (w238 : List (List D)) (w239 : Int) (k0 : Int → Bool → (List (List D)) → (List (List D)) → Int → Option R) : Option R :=
  law20_visits_p15 n a0 h14 w237 w172 w173 h15 w238 w239
    (law20_visits_p18 n a0 h14 w172 w173 h15 w238 w239
      (fun w273 w274 w275 w276 w277 =>
      k0 w273 w274 w275 w276 w277))
def law20_visits_p20 {R : Type} (n : Nat) (a0 : Int) (h14 : Int) (w278 : Int) (w279 : Bool) (w172 : Int) (w173 : Int) (h15 : List (List D)) (w280 : List (List D)) (w281 : List (List D)) (w282 : Int) (k0 : (List (List D)) → Option R) : Option R :=
  gb true (room ((List.length h15 + List.length [[D.int .i64 w172, D.int .i64 w173, D.sl 1 w280]]) * 40)) () fun u283 =>
  k0 (h15 ++ [[D.int .i64 w172, D.int .i64 w173, D.sl 1 w280]])
def law20_visits_p21 {R : Type} (n : Nat) (a0 : Int) (h14 : Int) (w237 : Bool) (w172 : Int) (w173 : Int) (h15 : List (List D)) (w238 : List (List D)) (w239 : Int) (k0 : (List (List D)) → (List (List D)) → Int → Option R) : Option R :=
  law20_visits_p19 n a0 h14 w237 w172 w173 h15 w238 w239
    (fun w278 w279 w280 w281 w282 =>
    law20_visits_p20 n a0 h14 w278 w279 w172 w173 h15 w280 w281 w282
      (fun w285 =>
      k0 w285 w281 w282))
def law20_visits_p22 {R : Type} (n : Nat) (a0 : Int) (h14 : Int) (w172 : Int) (w173 : Int) (h15 : List (List D)) (w174 : List (List D)) (w175 : Int) (k0 : (List (List D)) → (List (List D)) → Int → Option R) : Option R :=
  law20_visits_p7 n a0 h14 w172 w173 h15 w174 w175
    (fun w185 w186 w187 =>
    law20_visits_p14 n a0 h14 w172 w185 h15 w186 w187
      (fun w234 w235 w236 =>
      k0 w234 w235 w236))
    (fun w237 w238 w239 =>
    law20_visits_p21 n a0 h14 w237 w172 w173 h15 w238 w239
      (fun w286 w287 w288 =>
      k0 w286 w287 w288))
def law20_visits_p23 {R : Type} (n : Nat) (a0 : Int) (h14 : Int) (w165 : Bool) (h15 : List (List D)) (h16 : List (List D)) (h17 : Int) (k0 : (List (List D)) → (List (List D)) → Int → Option R) : Option R :=
  law20_visits_p6 n a0 h14 w165 h15 h16 h17
    (fun w172 w173 w174 w175 =>
    law20_visits_p22 n a0 h14 w172 w173 h15 w174 w175
      (fun w292 w293 w294 =>
      k0 w292 w293 w294))
def law20_visits_p24 {R : Type} (n : Nat) (a0 : Int) (h14 : Int) (w165 : Bool) (h15 : List (List D)) (h16 : List (List D)) (h17 : Int) (k0 : (List (List D)) → (List (List D)) → Int → Option R) : Option R :=
  law20_visits_p23 n a0 h14 w165 h15 h16 h17
    (fun w295 w296 w297 =>
    k0 w295 w296 w297)
def law20_visits_p25 {R : Type} (n : Nat) (a0 : Int) (h14 : Int) (w298 : List (List D)) (w299 : List (List D)) (w300 : Int) (k0 : Int → Option R) : Option R :=
  k0 (IntKind.wrap .i64 (h14 - (1 : Int)))
def law20_visits_p26 {R : Type} (n : Nat) (a0 : Int) (h14 : Int) (w165 : Bool) (h15 : List (List D)) (h16 : List (List D)) (h17 : Int) (k0 : Int → (List (List D)) → (List (List D)) → Int → Option R) : Option R :=
  law20_visits_p24 n a0 h14 w165 h15 h16 h17
    (fun w298 w299 w300 =>
    law20_visits_p25 n a0 h14 w298 w299 w300
      (fun w302 =>
      k0 w302 w298 w299 w300))
def law20_visits_p27 {R : Type} (n : Nat) (a0 : Int) (h14 : Int) (h15 : List (List D)) (h16 : List (List D)) (h17 : Int) (k0 : Int → (List (List D)) → (List (List D)) → Int → Option R) (k1 : Bool → Option R) : Option R :=
  law20_visits_p5 n a0 h14 h15 h16 h17
    (fun w165 =>
    law20_visits_p26 n a0 h14 w165 h15 h16 h17
      (fun w303 w304 w305 w306 =>
      k0 w303 w304 w305 w306))
    (fun w307 =>
    k1 w307)
def law20_visits_r28 {R : Type} (n : Nat) (a0 : Int) (k0 : Int → Bool → (List (List D)) → (List (List D)) → Int → Option R) : Nat → Int → (List (List D)) → (List (List D)) → Int → Option R
  | 0, _, _, _, _ => none
  | m + 1, h14, h15, h16, h17 =>
    law20_visits_p27 n a0 h14 h15 h16 h17
      (fun w308 w309 w310 w311 =>
      law20_visits_r28 n a0 k0 m w308 w309 w310 w311)
      (fun w312 =>
      k0 h14 w312 h15 h16 h17)
def law20_visits_p28 {R : Type} (n : Nat) (a0 : Int) (w10 : Int) (w11 : List (List D)) (w12 : Int) (k0 : Int → Bool → (List (List D)) → (List (List D)) → Int → Option R) : Option R := law20_visits_r28 n a0 k0 n w10 [] w11 w12
def law20_visits_p29 {R : Type} (n : Nat) (a0 : Int) (w10 : Int) (w11 : List (List D)) (w12 : Int) (k0 : Int → Bool → (List (List D)) → (List (List D)) → Int → Option R) : Option R :=
  law20_visits_p28 n a0 w10 w11 w12
    (fun w313 w314 w315 w316 w317 =>
    k0 w313 w314 w315 w316 w317)
def law20_visits_p30 {R : Type} (n : Nat) (a0 : Int) (w4 : List (List D)) (w5 : Int) (k0 : Int → Bool → (List (List D)) → (List (List D)) → Int → Option R) : Option R :=
  law20_visits_p4 n a0 w4 w5
    (fun w10 w11 w12 =>
    law20_visits_p29 n a0 w10 w11 w12
      (fun w318 w319 w320 w321 w322 =>
      k0 w318 w319 w320 w321 w322))
def law20_visits_p31 {R : Type} (n : Nat) (a0 : Int) (w323 : Int) (w324 : Bool) (w325 : List (List D)) (w326 : List (List D)) (w327 : Int) (k0 : Option R) : Option R :=
  k0
def law20_visits_p32 {R : Type} (n : Nat) (a0 : Int) (w4 : List (List D)) (w5 : Int) (k0 : (List (List D)) → Option R) : Option R :=
  law20_visits_p30 n a0 w4 w5
    (fun w323 w324 w325 w326 w327 =>
    law20_visits_p31 n a0 w323 w324 w325 w326 w327
      (k0 w325))
def law20_visits_p33 {R : Type} (n : Nat) (a0 : Int) (w4 : List (List D)) (w5 : Int) (k0 : (List (List D)) → Option R) : Option R :=
  law20_visits_p3 n a0 w4 w5
    (law20_visits_p32 n a0 w4 w5
      (fun w328 =>
      k0 w328))
def law20_visits_p34 {R : Type} (n : Nat) (a0 : Int) (a1 : List (List D)) (k0 : (List (List D)) → Option R) : Option R :=
  law20_visits_p2 n a0 a1
    (fun w4 w5 =>
    law20_visits_p33 n a0 w4 w5
      (fun w329 =>
      k0 w329))
def law20_visits_p35 {R : Type} (n : Nat) (a0 : Int) (a1 : List (List D)) (k0 : (List (List D)) → Option R) : Option R :=
  law20_visits_p1 n a0 a1
    (law20_visits_p34 n a0 a1
      (fun w330 =>
      k0 w330))
def law20_visits {R : Type} (n : Nat) (a0 : Int) (a1 : List (List D)) (K : (List (List D)) → Option R) : Option R :=
  law20_visits_p35 n a0 a1
    (fun w330 => K w330)
end Go.Vx
/-
  platform_Valid: the pure function
-/
set_option linter.unusedVariables false
namespace Go.Vx
def platform_Valid_p1 {R : Type} (n : Nat) (a0 : Int) (a1 : List (List D)) (k0 : Option R) : Option R :=
  k0
def platform_Valid_p2 {R : Type} (n : Nat) (a0 : Int) (a1 : List (List D)) (k0 : Option R) (k1 : Bool → Option R) : Option R :=
  bif (bif (bif (decide (a0 < (2 : Int))) then true else (decide (a0 > (7200 : Int)))) then true else (decide (((List.length a1 : Nat) : Int) > (16 : Int)))) then
    k0
  else
    k1 (bif (bif (decide (a0 < (2 : Int))) then true else (decide (a0 > (7200 : Int)))) then true else (decide (((List.length a1 : Nat) : Int) > (16 : Int))))
def platform_Valid_p3 {R : Type} (n : Nat) (a0 : Int) (a1 : List (List D)) (w2 : Bool) (k0 : Int → Option R) : Option R :=
  k0 ((List.length a1 : Nat) : Int)
def platform_Valid_p4 {R : Type} (n : Nat) (a0 : Int) (a1 : List (List D)) (w4 : Int) (h8 : Int) (k0 : Bool → Option R) : Option R :=
  k0 (decide (h8 < w4))
def platform_Valid_p5 {R : Type} (n : Nat) (a0 : Int) (a1 : List (List D)) (w4 : Int) (h8 : Int) (w86 : Bool) (k0 : Option R) (k1 : Option R) : Option R :=
  bif w86 then
    k0
  else
    k1
def platform_Valid_p6 {R : Type} (n : Nat) (a0 : Int) (a1 : List (List D)) (w4 : Int) (h8 : Int) (w86 : Bool) (k0 : D → D → D → Option R) : Option R :=
  gb true (rowAt a1 h8) [] fun r87 =>
  gb true (r87[0]?) (.bool false) fun c88 =>
  gb true (r87[1]?) (.bool false) fun c89 =>
  gb true (r87[2]?) (.bool false) fun c90 =>
  k0 c88 c89 c90
def platform_Valid_p7 {R : Type} (n : Nat) (a0 : Int) (a1 : List (List D)) (w4 : Int) (h8 : Int) (w91 : D) (w92 : D) (w93 : D) (k0 : Option R) (k1 : Bool → Option R) : Option R :=
  gb true (pInt .i64 w91) 0 fun i94 =>
  gb (!(decide (i94 < (0 : Int)))) (pInt .i64 w91) 0 fun i95 =>
  gb (!(bif (decide (i94 < (0 : Int))) then true else (decide (i95 ≥ a0)))) (pInt .i64 w92) 0 fun i96 =>
  gb (!(bif (bif (decide (i94 < (0 : Int))) then true else (decide (i95 ≥ a0))) then true else (decide (i96 < (1 : Int))))) (pInt .i64 w92) 0 fun i97 =>
  gb (!(bif (bif (bif (decide (i94 < (0 : Int))) then true else (decide (i95 ≥ a0))) then true else (decide (i96 < (1 : Int)))) then true else (decide (i97 > a0)))) (pSl 1 w93) [] fun l98 =>
  bif (bif (bif (bif (bif (decide (i94 < (0 : Int))) then true else (decide (i95 ≥ a0))) then true else (decide (i96 < (1 : Int)))) then true else (decide (i97 > a0))) then true else (decide (((List.length l98 : Nat) : Int) > (8 : Int)))) then
    k0
  else
    k1 (bif (bif (bif (bif (decide (i94 < (0 : Int))) then true else (decide (i95 ≥ a0))) then true else (decide (i96 < (1 : Int)))) then true else (decide (i97 > a0))) then true else (decide (((List.length l98 : Nat) : Int) > (8 : Int))))
def platform_Valid_p8 {R : Type} (n : Nat) (a0 : Int) (a1 : List (List D)) (w4 : Int) (h8 : Int) (w100 : Bool) (w91 : D) (w92 : D) (w93 : D) (k0 : Option R) : Option R :=
  k0
def platform_Valid_p9 {R : Type} (n : Nat) (a0 : Int) (a1 : List (List D)) (w4 : Int) (h8 : Int) (w91 : D) (w92 : D) (w93 : D) (k0 : (List (List D)) → Int → Option R) : Option R :=
  gb true (pSl 1 w93) [] fun l101 =>
  k0 l101 ((List.length l101 : Nat) : Int)
def platform_Valid_p10 {R : Type} (n : Nat) (a0 : Int) (h106 : Int) (a1 : List (List D)) (w4 : Int) (h8 : Int) (w103 : List (List D)) (w104 : Int) (h112 : Int) (k0 : Option R) (k1 : Int → Int → Option R) (k2 : Bool → Option R) : Option R :=
  bif (decide (h112 < w104)) then
    gb true (rowAt w103 h112) [] fun r118 =>
    gb true (r118[0]?) (.bool false) fun c119 =>
    gb true (pInt .i64 c119) 0 fun i120 =>
    bif (decide (i120 ≤ h106)) then
      k0
    else
      k1 i120 (IntKind.wrap .i64 (h112 + (1 : Int)))
  else
    k2 (decide (h112 < w104))
def platform_Valid_r11 {R : Type} (n : Nat) (a0 : Int) (a1 : List (List D)) (w4 : Int) (h8 : Int) (w103 : List (List D)) (w104 : Int) (k0 : Option R) (k1 : Int → Int → Bool → Option R) : Nat → Int → Int → Option R
  | 0, _, _ => none
  | m + 1, h106, h112 =>
    platform_Valid_p10 n a0 h106 a1 w4 h8 w103 w104 h112
      (k0)
      (fun w123 w124 =>
      platform_Valid_r11 n a0 a1 w4 h8 w103 w104 k0 k1 m w123 w124)
      (fun w125 =>
      k1 h106 h112 w125)
def platform_Valid_p11 {R : Type} (n : Nat) (a0 : Int) (a1 : List (List D)) (w4 : Int) (h8 : Int) (w103 : List (List D)) (w104 : Int) (k0 : Option R) (k1 : Int → Int → Bool → Option R) : Option R := platform_Valid_r11 n a0 a1 w4 h8 w103 w104 k0 k1 n (-1 : Int) (0 : Int)
def platform_Valid_p12 {R : Type} (n : Nat) (a0 : Int) (a1 : List (List D)) (w4 : Int) (h8 : Int) (w103 : List (List D)) (w104 : Int) (k0 : Option R) (k1 : Int → Int → Bool → Option R) : Option R :=
  platform_Valid_p11 n a0 a1 w4 h8 w103 w104
    (k0)
    (fun w126 w127 w128 =>
    k1 w126 w127 w128)
def platform_Valid_p13 {R : Type} (n : Nat) (a0 : Int) (a1 : List (List D)) (w4 : Int) (h8 : Int) (w91 : D) (w92 : D) (w93 : D) (k0 : Option R) (k1 : Int → (List (List D)) → Int → Int → Bool → Option R) : Option R :=
  platform_Valid_p9 n a0 a1 w4 h8 w91 w92 w93
    (fun w103 w104 =>
    platform_Valid_p12 n a0 a1 w4 h8 w103 w104
      (k0)
      (fun w129 w130 w131 =>
      k1 w129 w103 w104 w130 w131))
def platform_Valid_p14 {R : Type} (n : Nat) (a0 : Int) (a1 : List (List D)) (w4 : Int) (h8 : Int) (w100 : Bool) (w91 : D) (w92 : D) (w93 : D) (k0 : Option R) (k1 : Int → (List (List D)) → Int → Int → Bool → Option R) : Option R :=
  platform_Valid_p8 n a0 a1 w4 h8 w100 w91 w92 w93
    (platform_Valid_p13 n a0 a1 w4 h8 w91 w92 w93
      (k0)
      (fun w132 w133 w134 w135 w136 =>
      k1 w132 w133 w134 w135 w136))
def platform_Valid_p15 {R : Type} (n : Nat) (a0 : Int) (a1 : List (List D)) (w4 : Int) (h8 : Int) (w91 : D) (w92 : D) (w93 : D) (k0 : Option R) (k1 : Int → (List (List D)) → Int → Int → Bool → Option R) : Option R :=
  platform_Valid_p7 n a0 a1 w4 h8 w91 w92 w93
    (k0)
    (fun w100 =>
    platform_Valid_p14 n a0 a1 w4 h8 w100 w91 w92 w93
      (k0)
      (fun w137 w138 w139 w140 w141 =>
      k1 w137 w138 w139 w140 w141))
def platform_Valid_p16 {R : Type} (n : Nat) (a0 : Int) (a1 : List (List D)) (w4 : Int) (h8 : Int) (w86 : Bool) (k0 : Option R) (k1 : Int → (List (List D)) → Int → Int → Bool → Option R) : Option R :=
  platform_Valid_p6 n a0 a1 w4 h8 w86
    (fun w91 w92 w93 =>
    platform_Valid_p15 n a0 a1 w4 h8 w91 w92 w93
      (k0)
      (fun w142 w143 w144 w145 w146 =>
      k1 w142 w143 w144 w145 w146))
def platform_Valid_p17 {R : Type} (n : Nat) (a0 : Int) (a1 : List (List D)) (w4 : Int) (h8 : Int) (w86 : Bool) (k0 : Option R) (k1 : Int → (List (List D)) → Int → Int → Bool → Option R) : Option R :=
  platform_Valid_p16 n a0 a1 w4 h8 w86
    (k0)
    (fun w147 w148 w149 w150 w151 =>
    k1 w147 w148 w149 w150 w151)
def platform_Valid_p18 {R : Type} (n : Nat) (a0 : Int) (w152 : Int) (a1 : List (List D)) (w4 : Int) (h8 : Int) (w153 : List (List D)) (w154 : Int) (w155 : Int) (w156 : Bool) (k0 : Int → Option R) : Option R :=
  k0 (IntKind.wrap .i64 (h8 + (1 : Int)))
def platform_Valid_p19 {R : Type} (n : Nat) (a0 : Int) (a1 : List (List D)) (w4 : Int) (h8 : Int) (w86 : Bool) (k0 : Option R) (k1 : Int → Option R) : Option R :=
  platform_Valid_p17 n a0 a1 w4 h8 w86
    (k0)
    (fun w152 w153 w154 w155 w156 =>
    platform_Valid_p18 n a0 w152 a1 w4 h8 w153 w154 w155 w156
      (fun w158 =>
      k1 w158))
def platform_Valid_p20 {R : Type} (n : Nat) (a0 : Int) (a1 : List (List D)) (w4 : Int) (h8 : Int) (w86 : Bool) (k0 : Option R) (k1 : Int → Option R) (k2 : Option R) : Option R :=
  platform_Valid_p5 n a0 a1 w4 h8 w86
    (platform_Valid_p19 n a0 a1 w4 h8 w86
      (k0)
      (fun w159 =>
      k1 w159))
    (k2)
def platform_Valid_p21 {R : Type} (n : Nat) (a0 : Int) (a1 : List (List D)) (w4 : Int) (h8 : Int) (k0 : Option R) (k1 : Int → Option R) (k2 : Bool → Option R) : Option R :=
  platform_Valid_p4 n a0 a1 w4 h8
    (fun w86 =>
    platform_Valid_p20 n a0 a1 w4 h8 w86
      (k0)
      (fun w160 =>
      k1 w160)
      (k2 w86))
def platform_Valid_r22 {R : Type} (n : Nat) (a0 : Int) (a1 : List (List D)) (w4 : Int) (k0 : Option R) (k1 : Int → Bool → Option R) : Nat → Int → Option R
  | 0, _ => none
  | m + 1, h8 =>
    platform_Valid_p21 n a0 a1 w4 h8
      (k0)
      (fun w161 =>
      platform_Valid_r22 n a0 a1 w4 k0 k1 m w161)
      (fun w162 =>
      k1 h8 w162)
def platform_Valid_p22 {R : Type} (n : Nat) (a0 : Int) (a1 : List (List D)) (w4 : Int) (k0 : Option R) (k1 : Int → Bool → Option R) : Option R := platform_Valid_r22 n a0 a1 w4 k0 k1 n (0 : Int)
def platform_Valid_p23 {R : Type} (n : Nat) (a0 : Int) (a1 : List (List D)) (w4 : Int) (k0 : Option R) (k1 : Int → Bool → Option R) : Option R :=
  platform_Valid_p22 n a0 a1 w4
    (k0)
    (fun w163 w164 =>
    k1 w163 w164)
def platform_Valid_p24 {R : Type} (n : Nat) (a0 : Int) (a1 : List (List D)) (w2 : Bool) (k0 : Option R) (k1 : Int → Int → Bool → Option R) : Option R :=
  platform_Valid_p3 n a0 a1 w2
    (fun w4 =>
    platform_Valid_p23 n a0 a1 w4
      (k0)
      (fun w165 w166 =>
      k1 w4 w165 w166))
def platform_Valid_p25 {R : Type} (n : Nat) (a0 : Int) (a1 : List (List D)) (w167 : Int) (w168 : Int) (w169 : Bool) (k0 : Option R) : Option R :=
  k0
def platform_Valid_p26 {R : Type} (n : Nat) (a0 : Int) (a1 : List (List D)) (w2 : Bool) (k0 : Bool → Option R) : Option R :=
  platform_Valid_p24 n a0 a1 w2
    (k0 false)
    (fun w167 w168 w169 =>
    platform_Valid_p25 n a0 a1 w167 w168 w169
      (k0 true))
def platform_Valid_p27 {R : Type} (n : Nat) (a0 : Int) (a1 : List (List D)) (k0 : Bool → Option R) : Option R :=
  platform_Valid_p2 n a0 a1
    (k0 false)
    (fun w2 =>
    platform_Valid_p26 n a0 a1 w2
      (fun w171 =>
      k0 w171))
def platform_Valid_p28 {R : Type} (n : Nat) (a0 : Int) (a1 : List (List D)) (k0 : Bool → Option R) : Option R :=
  platform_Valid_p1 n a0 a1
    (platform_Valid_p27 n a0 a1
      (fun w173 =>
      k0 w173))
def platform_Valid {R : Type} (n : Nat) (a0 : Int) (a1 : List (List D)) (K : Bool → Option R) : Option R :=
  platform_Valid_p28 n a0 a1
    (fun w173 => K w173)
end Go.Vx
/-
  platform_overlap: the pure function
-/
set_option linter.unusedVariables false
namespace Go.Vx
def platform_overlap_p1 {R : Type} (n : Nat) (a0 : Int) (a1_0 : Int) (a1_1 : Int) (a1_2 : List (List D)) (a2_0 : Int) (a2_1 : Int) (a2_2 : List (List D)) (k0 : Bool → Option R) : Option R :=
  gb true (arith_Mod n (IntKind.wrap .i64 (a2_0 - a1_0)) a0 some) 0 fun r1 =>
  gb (!(decide (r1 < a1_1))) (arith_Mod n (IntKind.wrap .i64 (a1_0 - a2_0)) a0 some) 0 fun r2 =>
  k0 (bif (decide (r1 < a1_1)) then true else (decide (r2 < a2_1)))
def platform_overlap {R : Type} (n : Nat) (a0 : Int) (a1_0 : Int) (a1_1 : Int) (a1_2 : List (List D)) (a2_0 : Int) (a2_1 : Int) (a2_2 : List (List D)) (K : Bool → Option R) : Option R :=
  platform_overlap_p1 n a0 a1_0 a1_1 a1_2 a2_0 a2_1 a2_2
    (fun z3 => K z3)
end Go.Vx
/-
  platform_Overlap: the pure function
-/
set_option linter.unusedVariables false
namespace Go.Vx
def platform_Overlap_p1 {R : Type} (n : Nat) (a0 : Int) (a1_0 : Int) (a1_1 : Int) (a1_2 : List (List D)) (a2_0 : Int) (a2_1 : Int) (a2_2 : List (List D)) (k0 : Bool → Option R) : Option R :=
  gb true (platform_Valid n a0 [[D.int .i64 a1_0, D.int .i64 a1_1, D.sl 1 a1_2], [D.int .i64 a2_0, D.int .i64 a2_1, D.sl 1 a2_2]] some) false fun r1 =>
  gb r1 (platform_overlap n a0 a1_0 a1_1 a1_2 a2_0 a2_1 a2_2 some) false fun r2 =>
  k0 (bif r1 then r2 else false)
def platform_Overlap {R : Type} (n : Nat) (a0 : Int) (a1_0 : Int) (a1_1 : Int) (a1_2 : List (List D)) (a2_0 : Int) (a2_1 : Int) (a2_2 : List (List D)) (K : Bool → Option R) : Option R :=
  platform_Overlap_p1 n a0 a1_0 a1_1 a1_2 a2_0 a2_1 a2_2
    (fun z3 => K z3)
end Go.Vx
/-
  ref19_in: the pure function
-/
set_option linter.unusedVariables false
namespace Go.Vx
def ref19_in_p1 {R : Type} (n : Nat) (a0 : Int) (a1 : Int) (a2 : Int) (k0 : Bool → Option R) : Option R :=
  k0 (bif (decide (a0 ≥ a1)) then (decide (a0 ≤ a2)) else false)
def ref19_in {R : Type} (n : Nat) (a0 : Int) (a1 : Int) (a2 : Int) (K : Bool → Option R) : Option R :=
  ref19_in_p1 n a0 a1 a2
    (fun z1 => K z1)
end Go.Vx
/-
  ref19_ValidVisits: the pure function
-/
set_option linter.unusedVariables false
namespace Go.Vx
def ref19_ValidVisits_p1 {R : Type} (n : Nat) (a0 : Int) (a1 : List (List D)) (k0 : Option R) : Option R :=
  k0
def ref19_ValidVisits_p2 {R : Type} (n : Nat) (a0 : Int) (a1 : List (List D)) (k0 : Option R) (k1 : Bool → Option R) : Option R :=
  gb true (ref19_in n a0 (2 : Int) (7200 : Int) some) false fun r1 =>
  bif (bif (!r1) then true else (decide (((List.length a1 : Nat) : Int) > (16 : Int)))) then
    k0
  else
    k1 (bif (!r1) then true else (decide (((List.length a1 : Nat) : Int) > (16 : Int))))
def ref19_ValidVisits_p3 {R : Type} (n : Nat) (a0 : Int) (a1 : List (List D)) (w3 : Bool) (k0 : Int → Option R) : Option R :=
  k0 ((List.length a1 : Nat) : Int)
def ref19_ValidVisits_p4 {R : Type} (n : Nat) (a0 : Int) (a1 : List (List D)) (w5 : Int) (h9 : Int) (k0 : Bool → Option R) : Option R :=
  k0 (decide (h9 < w5))
def ref19_ValidVisits_p5 {R : Type} (n : Nat) (a0 : Int) (a1 : List (List D)) (w5 : Int) (h9 : Int) (w100 : Bool) (k0 : Option R) (k1 : Option R) : Option R :=
  bif w100 then
    k0
  else
    k1
def ref19_ValidVisits_p6 {R : Type} (n : Nat) (a0 : Int) (a1 : List (List D)) (w5 : Int) (h9 : Int) (w100 : Bool) (k0 : Option R) : Option R :=
  k0
def ref19_ValidVisits_p7 {R : Type} (n : Nat) (a0 : Int) (a1 : List (List D)) (h9 : Int) (w5 : Int) (k0 : Option R) (k1 : Bool → Option R) : Option R :=
  gb true (rowAt a1 h9) [] fun r101 =>
  gb true (r101[0]?) (.bool false) fun c102 =>
  gb true (pInt .i64 c102) 0 fun i103 =>
  gb true (ref19_in n i103 (0 : Int) (IntKind.wrap .i64 (a0 - (1 : Int))) some) false fun r104 =>
  gb (!(!r104)) (rowAt a1 h9) [] fun r105 =>
  gb (!(!r104)) (r105[1]?) (.bool false) fun c106 =>
  gb (!(!r104)) (pInt .i64 c106) 0 fun i107 =>
  gb (!(!r104)) (ref19_in n i107 (1 : Int) a0 some) false fun r108 =>
  gb (!(bif (!r104) then true else (!r108))) (rowAt a1 h9) [] fun r109 =>
  gb (!(bif (!r104) then true else (!r108))) (r109[2]?) (.bool false) fun c110 =>
  gb (!(bif (!r104) then true else (!r108))) (pSl 1 c110) [] fun l111 =>
  bif (bif (bif (!r104) then true else (!r108)) then true else (decide (((List.length l111 : Nat) : Int) > (8 : Int)))) then
    k0
  else
    k1 (bif (bif (!r104) then true else (!r108)) then true else (decide (((List.length l111 : Nat) : Int) > (8 : Int))))
def ref19_ValidVisits_p8 {R : Type} (n : Nat) (a0 : Int) (a1 : List (List D)) (h9 : Int) (w5 : Int) (w113 : Bool) (k0 : Int → Option R) : Option R :=
  gb true (rowAt a1 h9) [] fun r114 =>
  gb true (r114[2]?) (.bool false) fun c115 =>
  gb true (pSl 1 c115) [] fun l116 =>
  k0 ((List.length l116 : Nat) : Int)
def ref19_ValidVisits_p9 {R : Type} (n : Nat) (a0 : Int) (a1 : List (List D)) (h9 : Int) (w5 : Int) (w118 : Int) (h125 : Int) (k0 : Option R) (k1 : Int → Option R) (k2 : Bool → Option R) : Option R :=
  bif (decide (h125 < w118)) then
    gb true (rowAt a1 h9) [] fun r146 =>
    gb true (r146[2]?) (.bool false) fun c147 =>
    gb true (pSl 1 c147) [] fun l148 =>
    gb true (rowAt l148 h125) [] fun r149 =>
    gb true (r149[0]?) (.bool false) fun c150 =>
    gb true (pInt .i64 c150) 0 fun i151 =>
    gb ((!(decide (i151 < (0 : Int)))) && (decide (h125 > (0 : Int)))) (rowAt a1 h9) [] fun r152 =>
    gb ((!(decide (i151 < (0 : Int)))) && (decide (h125 > (0 : Int)))) (r152[2]?) (.bool false) fun c153 =>
    gb ((!(decide (i151 < (0 : Int)))) && (decide (h125 > (0 : Int)))) (pSl 1 c153) [] fun l154 =>
    gb ((!(decide (i151 < (0 : Int)))) && (decide (h125 > (0 : Int)))) (rowAt l154 h125) [] fun r155 =>
    gb ((!(decide (i151 < (0 : Int)))) && (decide (h125 > (0 : Int)))) (r155[0]?) (.bool false) fun c156 =>
    gb ((!(decide (i151 < (0 : Int)))) && (decide (h125 > (0 : Int)))) (pInt .i64 c156) 0 fun i157 =>
    gb ((!(decide (i151 < (0 : Int)))) && (decide (h125 > (0 : Int)))) (rowAt a1 h9) [] fun r158 =>
    gb ((!(decide (i151 < (0 : Int)))) && (decide (h125 > (0 : Int)))) (r158[2]?) (.bool false) fun c159 =>
    gb ((!(decide (i151 < (0 : Int)))) && (decide (h125 > (0 : Int)))) (pSl 1 c159) [] fun l160 =>
    gb ((!(decide (i151 < (0 : Int)))) && (decide (h125 > (0 : Int)))) (rowAt l160 (IntKind.wrap .i64 (h125 - (1 : Int)))) [] fun r161 =>
    gb ((!(decide (i151 < (0 : Int)))) && (decide (h125 > (0 : Int)))) (r161[0]?) (.bool false) fun c162 =>
    gb ((!(decide (i151 < (0 : Int)))) && (decide (h125 > (0 : Int)))) (pInt .i64 c162) 0 fun i163 =>
    bif (bif (decide (i151 < (0 : Int))) then true else (bif (decide (h125 > (0 : Int))) then (decide (i157 ≤ i163)) else false)) then
      k0
    else
      k1 (IntKind.wrap .i64 (h125 + (1 : Int)))
  else
    k2 (decide (h125 < w118))
def ref19_ValidVisits_r10 {R : Type} (n : Nat) (a0 : Int) (a1 : List (List D)) (h9 : Int) (w5 : Int) (w118 : Int) (k0 : Option R) (k1 : Int → Bool → Option R) : Nat → Int → Option R
  | 0, _ => none
  | m + 1, h125 =>
    ref19_ValidVisits_p9 n a0 a1 h9 w5 w118 h125
      (k0)
      (fun w166 =>
      ref19_ValidVisits_r10 n a0 a1 h9 w5 w118 k0 k1 m w166)
      (fun w167 =>
      k1 h125 w167)
def ref19_ValidVisits_p10 {R : Type} (n : Nat) (a0 : Int) (a1 : List (List D)) (h9 : Int) (w5 : Int) (w118 : Int) (k0 : Option R) (k1 : Int → Bool → Option R) : Option R := ref19_ValidVisits_r10 n a0 a1 h9 w5 w118 k0 k1 n (0 : Int)
def ref19_ValidVisits_p11 {R : Type} (n : Nat) (a0 : Int) (a1 : List (List D)) (h9 : Int) (w5 : Int) (w118 : Int) (k0 : Option R) (k1 : Int → Bool → Option R) : Option R :=
  ref19_ValidVisits_p10 n a0 a1 h9 w5 w118
    (k0)
    (fun w168 w169 =>
    k1 w168 w169)
def ref19_ValidVisits_p12 {R : Type} (n : Nat) (a0 : Int) (a1 : List (List D)) (h9 : Int) (w5 : Int) (w113 : Bool) (k0 : Option R) (k1 : Int → Int → Bool → Option R) : Option R :=
  ref19_ValidVisits_p8 n a0 a1 h9 w5 w113
    (fun w118 =>
    ref19_ValidVisits_p11 n a0 a1 h9 w5 w118
      (k0)
      (fun w170 w171 =>
      k1 w118 w170 w171))
def ref19_ValidVisits_p13 {R : Type} (n : Nat) (a0 : Int) (a1 : List (List D)) (h9 : Int) (w5 : Int) (k0 : Option R) (k1 : Int → Int → Bool → Option R) : Option R :=
  ref19_ValidVisits_p7 n a0 a1 h9 w5
    (k0)
    (fun w113 =>
    ref19_ValidVisits_p12 n a0 a1 h9 w5 w113
      (k0)
      (fun w172 w173 w174 =>
      k1 w172 w173 w174))
def ref19_ValidVisits_p14 {R : Type} (n : Nat) (a0 : Int) (a1 : List (List D)) (w5 : Int) (h9 : Int) (w100 : Bool) (k0 : Option R) (k1 : Int → Int → Bool → Option R) : Option R :=
  ref19_ValidVisits_p6 n a0 a1 w5 h9 w100
    (ref19_ValidVisits_p13 n a0 a1 h9 w5
      (k0)
      (fun w175 w176 w177 =>
      k1 w175 w176 w177))
def ref19_ValidVisits_p15 {R : Type} (n : Nat) (a0 : Int) (a1 : List (List D)) (w5 : Int) (h9 : Int) (w100 : Bool) (k0 : Option R) (k1 : Int → Int → Bool → Option R) : Option R :=
  ref19_ValidVisits_p14 n a0 a1 w5 h9 w100
    (k0)
    (fun w178 w179 w180 =>
    k1 w178 w179 w180)
def ref19_ValidVisits_p16 {R : Type} (n : Nat) (a0 : Int) (a1 : List (List D)) (h9 : Int) (w5 : Int) (w181 : Int) (w182 : Int) (w183 : Bool) (k0 : Int → Option R) : Option R :=
  k0 (IntKind.wrap .i64 (h9 + (1 : Int)))
def ref19_ValidVisits_p17 {R : Type} (n : Nat) (a0 : Int) (a1 : List (List D)) (w5 : Int) (h9 : Int) (w100 : Bool) (k0 : Option R) (k1 : Int → Option R) : Option R :=
  ref19_ValidVisits_p15 n a0 a1 w5 h9 w100
    (k0)
    (fun w181 w182 w183 =>
    ref19_ValidVisits_p16 n a0 a1 h9 w5 w181 w182 w183
      (fun w185 =>
      k1 w185))
def ref19_ValidVisits_p18 {R : Type} (n : Nat) (a0 : Int) (a1 : List (List D)) (w5 : Int) (h9 : Int) (w100 : Bool) (k0 : Option R) (k1 : Int → Option R) (k2 : Option R) : Option R :=
  ref19_ValidVisits_p5 n a0 a1 w5 h9 w100
    (ref19_ValidVisits_p17 n a0 a1 w5 h9 w100
      (k0)
      (fun w186 =>
      k1 w186))
    (k2)
def ref19_ValidVisits_p19 {R : Type} (n : Nat) (a0 : Int) (a1 : List (List D)) (w5 : Int) (h9 : Int) (k0 : Option R) (k1 : Int → Option R) (k2 : Bool → Option R) : Option R :=
  ref19_ValidVisits_p4 n a0 a1 w5 h9
    (fun w100 =>
    ref19_ValidVisits_p18 n a0 a1 w5 h9 w100
      (k0)
      (fun w187 =>
      k1 w187)
      (k2 w100))
def ref19_ValidVisits_r20 {R : Type} (n : Nat) (a0 : Int) (a1 : List (List D)) (w5 : Int) (k0 : Option R) (k1 : Int → Bool → Option R) : Nat → Int → Option R
  | 0, _ => none
  | m + 1, h9 =>
    ref19_ValidVisits_p19 n a0 a1 w5 h9
      (k0)
      (fun w188 =>
      ref19_ValidVisits_r20 n a0 a1 w5 k0 k1 m w188)
      (fun w189 =>
      k1 h9 w189)
def ref19_ValidVisits_p20 {R : Type} (n : Nat) (a0 : Int) (a1 : List (List D)) (w5 : Int) (k0 : Option R) (k1 : Int → Bool → Option R) : Option R := ref19_ValidVisits_r20 n a0 a1 w5 k0 k1 n (0 : Int)
def ref19_ValidVisits_p21 {R : Type} (n : Nat) (a0 : Int) (a1 : List (List D)) (w5 : Int) (k0 : Option R) (k1 : Int → Bool → Option R) : Option R :=
  ref19_ValidVisits_p20 n a0 a1 w5
    (k0)
    (fun w190 w191 =>
    k1 w190 w191)
def ref19_ValidVisits_p22 {R : Type} (n : Nat) (a0 : Int) (a1 : List (List D)) (w3 : Bool) (k0 : Option R) (k1 : Int → Int → Bool → Option R) : Option R :=
  ref19_ValidVisits_p3 n a0 a1 w3
    (fun w5 =>
    ref19_ValidVisits_p21 n a0 a1 w5
      (k0)
      (fun w192 w193 =>
      k1 w5 w192 w193))
def ref19_ValidVisits_p23 {R : Type} (n : Nat) (a0 : Int) (a1 : List (List D)) (w194 : Int) (w195 : Int) (w196 : Bool) (k0 : Option R) : Option R :=
  k0
def ref19_ValidVisits_p24 {R : Type} (n : Nat) (a0 : Int) (a1 : List (List D)) (w3 : Bool) (k0 : Bool → Option R) : Option R :=
  ref19_ValidVisits_p22 n a0 a1 w3
    (k0 false)
    (fun w194 w195 w196 =>
    ref19_ValidVisits_p23 n a0 a1 w194 w195 w196
      (k0 true))
def ref19_ValidVisits_p25 {R : Type} (n : Nat) (a0 : Int) (a1 : List (List D)) (k0 : Bool → Option R) : Option R :=
  ref19_ValidVisits_p2 n a0 a1
    (k0 false)
    (fun w3 =>
    ref19_ValidVisits_p24 n a0 a1 w3
      (fun w198 =>
      k0 w198))
def ref19_ValidVisits_p26 {R : Type} (n : Nat) (a0 : Int) (a1 : List (List D)) (k0 : Bool → Option R) : Option R :=
  ref19_ValidVisits_p1 n a0 a1
    (ref19_ValidVisits_p25 n a0 a1
      (fun w200 =>
      k0 w200))
def ref19_ValidVisits {R : Type} (n : Nat) (a0 : Int) (a1 : List (List D)) (K : Bool → Option R) : Option R :=
  ref19_ValidVisits_p26 n a0 a1
    (fun w200 => K w200)
end Go.Vx
/-
  ref19_member: the pure function
-/
set_option linter.unusedVariables false
namespace Go.Vx
def ref19_member_p1 {R : Type} (n : Nat) (a0 : List (List D)) (a1 : Int) (k0 : Option R) : Option R :=
  k0
def ref19_member_p2 {R : Type} (n : Nat) (a0 : List (List D)) (a1 : Int) (k0 : Int → Option R) : Option R :=
  k0 ((List.length a0 : Nat) : Int)
def ref19_member_p3 {R : Type} (n : Nat) (a0 : List (List D)) (a1 : Int) (w2 : Int) (h6 : Int) (k0 : Option R) (k1 : Int → Option R) (k2 : Bool → Option R) : Option R :=
  bif (decide (h6 < w2)) then
    gb true (rowAt a0 h6) [] fun r12 =>
    gb true (r12[0]?) (.bool false) fun c13 =>
    gb true (pInt .i64 c13) 0 fun i14 =>
    bif (i14 == a1) then
      k0
    else
      k1 (IntKind.wrap .i64 (h6 + (1 : Int)))
  else
    k2 (decide (h6 < w2))
def ref19_member_r4 {R : Type} (n : Nat) (a0 : List (List D)) (a1 : Int) (w2 : Int) (k0 : Option R) (k1 : Int → Bool → Option R) : Nat → Int → Option R
  | 0, _ => none
  | m + 1, h6 =>
    ref19_member_p3 n a0 a1 w2 h6
      (k0)
      (fun w17 =>
      ref19_member_r4 n a0 a1 w2 k0 k1 m w17)
      (fun w18 =>
      k1 h6 w18)
def ref19_member_p4 {R : Type} (n : Nat) (a0 : List (List D)) (a1 : Int) (w2 : Int) (k0 : Option R) (k1 : Int → Bool → Option R) : Option R := ref19_member_r4 n a0 a1 w2 k0 k1 n (0 : Int)
def ref19_member_p5 {R : Type} (n : Nat) (a0 : List (List D)) (a1 : Int) (w2 : Int) (k0 : Option R) (k1 : Int → Bool → Option R) : Option R :=
  ref19_member_p4 n a0 a1 w2
    (k0)
    (fun w19 w20 =>
    k1 w19 w20)
def ref19_member_p6 {R : Type} (n : Nat) (a0 : List (List D)) (a1 : Int) (k0 : Option R) (k1 : Int → Int → Bool → Option R) : Option R :=
  ref19_member_p2 n a0 a1
    (fun w2 =>
    ref19_member_p5 n a0 a1 w2
      (k0)
      (fun w21 w22 =>
      k1 w2 w21 w22))
def ref19_member_p7 {R : Type} (n : Nat) (a0 : List (List D)) (a1 : Int) (w23 : Int) (w24 : Int) (w25 : Bool) (k0 : Option R) : Option R :=
  k0
def ref19_member_p8 {R : Type} (n : Nat) (a0 : List (List D)) (a1 : Int) (k0 : Bool → Option R) : Option R :=
  ref19_member_p6 n a0 a1
    (k0 true)
    (fun w23 w24 w25 =>
    ref19_member_p7 n a0 a1 w23 w24 w25
      (k0 false))
def ref19_member_p9 {R : Type} (n : Nat) (a0 : List (List D)) (a1 : Int) (k0 : Bool → Option R) : Option R :=
  ref19_member_p1 n a0 a1
    (ref19_member_p8 n a0 a1
      (fun w27 =>
      k0 w27))
def ref19_member {R : Type} (n : Nat) (a0 : List (List D)) (a1 : Int) (K : Bool → Option R) : Option R :=
  ref19_member_p9 n a0 a1
    (fun w27 => K w27)
end Go.Vx
/-
  ref19_Overlap: the pure function
-/
set_option linter.unusedVariables false
namespace Go.Vx
def ref19_Overlap_p1 {R : Type} (n : Nat) (a0 : Int) (a1_0 : Int) (a1_1 : Int) (a1_2 : List (List D)) (a2_0 : Int) (a2_1 : Int) (a2_2 : List (List D)) (k0 : Bool → Option R) : Option R :=
  gb true (ref19_ValidVisits n a0 [[D.int .i64 a1_0, D.int .i64 a1_1, D.sl 1 a1_2], [D.int .i64 a2_0, D.int .i64 a2_1, D.sl 1 a2_2]] some) false fun r1 =>
  bif (!r1) then
    k0 false
  else
    gb true (ref1_Mod n (IntKind.wrap .i64 (a2_0 - a1_0)) a0 some) 0 fun r2 =>
    gb (!(decide (r2 < a1_1))) (ref1_Mod n (IntKind.wrap .i64 (a1_0 - a2_0)) a0 some) 0 fun r3 =>
    k0 (bif (decide (r2 < a1_1)) then true else (decide (r3 < a2_1)))
def ref19_Overlap {R : Type} (n : Nat) (a0 : Int) (a1_0 : Int) (a1_1 : Int) (a1_2 : List (List D)) (a2_0 : Int) (a2_1 : Int) (a2_2 : List (List D)) (K : Bool → Option R) : Option R :=
  ref19_Overlap_p1 n a0 a1_0 a1_1 a1_2 a2_0 a2_1 a2_2
    (fun z4 => K z4)
end Go.Vx
/-
  ref19_Proper: the pure function
-/
set_option linter.unusedVariables false
namespace Go.Vx
def ref19_Proper_p1 {R : Type} (n : Nat) (a0 : Int) (a1 : List (List D)) (a2 : List (List D)) (k0 : Option R) : Option R :=
  k0
def ref19_Proper_p2 {R : Type} (n : Nat) (a0 : Int) (a1 : List (List D)) (a2 : List (List D)) (k0 : Option R) (k1 : Bool → Option R) : Option R :=
  gb true (ref19_ValidVisits n a0 a1 some) false fun r1 =>
  bif (bif (!r1) then true else (((List.length a2 : Nat) : Int) != ((List.length a1 : Nat) : Int))) then
    k0
  else
    k1 (bif (!r1) then true else (((List.length a2 : Nat) : Int) != ((List.length a1 : Nat) : Int)))
def ref19_Proper_p3 {R : Type} (n : Nat) (a0 : Int) (a1 : List (List D)) (a2 : List (List D)) (w3 : Bool) (k0 : Int → Option R) : Option R :=
  k0 ((List.length a1 : Nat) : Int)
def ref19_Proper_p4 {R : Type} (n : Nat) (a0 : Int) (a1 : List (List D)) (a2 : List (List D)) (w5 : Int) (h10 : Int) (k0 : Bool → Option R) : Option R :=
  k0 (decide (h10 < w5))
def ref19_Proper_p5 {R : Type} (n : Nat) (a0 : Int) (a1 : List (List D)) (a2 : List (List D)) (w5 : Int) (h10 : Int) (w94 : Bool) (k0 : Option R) (k1 : Option R) : Option R :=
  bif w94 then
    k0
  else
    k1
def ref19_Proper_p6 {R : Type} (n : Nat) (a0 : Int) (a1 : List (List D)) (a2 : List (List D)) (w5 : Int) (h10 : Int) (w94 : Bool) (k0 : Option R) : Option R :=
  k0
def ref19_Proper_p7 {R : Type} (n : Nat) (a0 : Int) (a1 : List (List D)) (a2 : List (List D)) (h10 : Int) (w5 : Int) (k0 : Option R) (k1 : Bool → Option R) : Option R :=
  gb true (rowAt a1 h10) [] fun r95 =>
  gb true (r95[2]?) (.bool false) fun c96 =>
  gb true (pSl 1 c96) [] fun l97 =>
  gb true (rowAt a2 h10) [] fun r98 =>
  gb true (r98[0]?) (.bool false) fun c99 =>
  gb true (pInt .i64 c99) 0 fun i100 =>
  gb true (ref19_member n l97 i100 some) false fun r101 =>
  bif (!r101) then
    k0
  else
    k1 (!r101)
def ref19_Proper_p8 {R : Type} (n : Nat) (a0 : Int) (a1 : List (List D)) (a2 : List (List D)) (h10 : Int) (w5 : Int) (w103 : Bool) (k0 : Option R) : Option R :=
  k0
def ref19_Proper_p9 {R : Type} (n : Nat) (a0 : Int) (a1 : List (List D)) (a2 : List (List D)) (h10 : Int) (h108 : Int) (w5 : Int) (k0 : Option R) (k1 : Int → Option R) (k2 : Bool → Option R) : Option R :=
  bif (decide (h108 < h10)) then
    gb true (rowAt a2 h108) [] fun r134 =>
    gb true (r134[0]?) (.bool false) fun c135 =>
    gb true (pInt .i64 c135) 0 fun i136 =>
    gb true (rowAt a2 h10) [] fun r137 =>
    gb true (r137[0]?) (.bool false) fun c138 =>
    gb true (pInt .i64 c138) 0 fun i139 =>
    gb (i136 == i139) (rowAt a1 h108) [] fun r140 =>
    gb (i136 == i139) (r140[0]?) (.bool false) fun c141 =>
    gb (i136 == i139) (r140[1]?) (.bool false) fun c142 =>
    gb (i136 == i139) (r140[2]?) (.bool false) fun c143 =>
    gb (i136 == i139) (rowAt a1 h10) [] fun r144 =>
    gb (i136 == i139) (r144[0]?) (.bool false) fun c145 =>
    gb (i136 == i139) (r144[1]?) (.bool false) fun c146 =>
    gb (i136 == i139) (r144[2]?) (.bool false) fun c147 =>
    gb (i136 == i139) (pInt .i64 c141) 0 fun i148 =>
    gb (i136 == i139) (pInt .i64 c142) 0 fun i149 =>
    gb (i136 == i139) (pSl 1 c143) [] fun l150 =>
    gb (i136 == i139) (pInt .i64 c145) 0 fun i151 =>
    gb (i136 == i139) (pInt .i64 c146) 0 fun i152 =>
    gb (i136 == i139) (pSl 1 c147) [] fun l153 =>
    gb (i136 == i139) (ref19_Overlap n a0 i148 i149 l150 i151 i152 l153 some) false fun r154 =>
    bif (bif (i136 == i139) then r154 else false) then
      k0
    else
      k1 (IntKind.wrap .i64 (h108 + (1 : Int)))
  else
    k2 (decide (h108 < h10))
def ref19_Proper_r10 {R : Type} (n : Nat) (a0 : Int) (a1 : List (List D)) (a2 : List (List D)) (h10 : Int) (w5 : Int) (k0 : Option R) (k1 : Int → Bool → Option R) : Nat → Int → Option R
  | 0, _ => none
  | m + 1, h108 =>
    ref19_Proper_p9 n a0 a1 a2 h10 h108 w5
      (k0)
      (fun w157 =>
      ref19_Proper_r10 n a0 a1 a2 h10 w5 k0 k1 m w157)
      (fun w158 =>
      k1 h108 w158)
def ref19_Proper_p10 {R : Type} (n : Nat) (a0 : Int) (a1 : List (List D)) (a2 : List (List D)) (h10 : Int) (w5 : Int) (k0 : Option R) (k1 : Int → Bool → Option R) : Option R := ref19_Proper_r10 n a0 a1 a2 h10 w5 k0 k1 n (0 : Int)
def ref19_Proper_p11 {R : Type} (n : Nat) (a0 : Int) (a1 : List (List D)) (a2 : List (List D)) (h10 : Int) (w5 : Int) (k0 : Option R) (k1 : Int → Bool → Option R) : Option R :=
  ref19_Proper_p10 n a0 a1 a2 h10 w5
    (k0)
    (fun w159 w160 =>
    k1 w159 w160)
def ref19_Proper_p12 {R : Type} (n : Nat) (a0 : Int) (a1 : List (List D)) (a2 : List (List D)) (h10 : Int) (w5 : Int) (w103 : Bool) (k0 : Option R) (k1 : Int → Bool → Option R) : Option R :=
  ref19_Proper_p8 n a0 a1 a2 h10 w5 w103
    (ref19_Proper_p11 n a0 a1 a2 h10 w5
      (k0)
      (fun w161 w162 =>
      k1 w161 w162))
def ref19_Proper_p13 {R : Type} (n : Nat) (a0 : Int) (a1 : List (List D)) (a2 : List (List D)) (h10 : Int) (w5 : Int) (k0 : Option R) (k1 : Int → Bool → Option R) : Option R :=
  ref19_Proper_p7 n a0 a1 a2 h10 w5
    (k0)
    (fun w103 =>
    ref19_Proper_p12 n a0 a1 a2 h10 w5 w103
      (k0)
      (fun w163 w164 =>
      k1 w163 w164))
def ref19_Proper_p14 {R : Type} (n : Nat) (a0 : Int) (a1 : List (List D)) (a2 : List (List D)) (w5 : Int) (h10 : Int) (w94 : Bool) (k0 : Option R) (k1 : Int → Bool → Option R) : Option R :=
  ref19_Proper_p6 n a0 a1 a2 w5 h10 w94
    (ref19_Proper_p13 n a0 a1 a2 h10 w5
      (k0)
      (fun w165 w166 =>
      k1 w165 w166))
def ref19_Proper_p15 {R : Type} (n : Nat) (a0 : Int) (a1 : List (List D)) (a2 : List (List D)) (w5 : Int) (h10 : Int) (w94 : Bool) (k0 : Option R) (k1 : Int → Bool → Option R) : Option R :=
  ref19_Proper_p14 n a0 a1 a2 w5 h10 w94
    (k0)
    (fun w167 w168 =>
    k1 w167 w168)
def ref19_Proper_p16 {R : Type} (n : Nat) (a0 : Int) (a1 : List (List D)) (a2 : List (List D)) (h10 : Int) (w169 : Int) (w5 : Int) (w170 : Bool) (k0 : Int → Option R) : Option R :=
  k0 (IntKind.wrap .i64 (h10 + (1 : Int)))
def ref19_Proper_p17 {R : Type} (n : Nat) (a0 : Int) (a1 : List (List D)) (a2 : List (List D)) (w5 : Int) (h10 : Int) (w94 : Bool) (k0 : Option R) (k1 : Int → Option R) : Option R :=
  ref19_Proper_p15 n a0 a1 a2 w5 h10 w94
    (k0)
    (fun w169 w170 =>
    ref19_Proper_p16 n a0 a1 a2 h10 w169 w5 w170
      (fun w172 =>
      k1 w172))
def ref19_Proper_p18 {R : Type} (n : Nat) (a0 : Int) (a1 : List (List D)) (a2 : List (List D)) (w5 : Int) (h10 : Int) (w94 : Bool) (k0 : Option R) (k1 : Int → Option R) (k2 : Option R) : Option R :=
  ref19_Proper_p5 n a0 a1 a2 w5 h10 w94
    (ref19_Proper_p17 n a0 a1 a2 w5 h10 w94
      (k0)
      (fun w173 =>
      k1 w173))
    (k2)
def ref19_Proper_p19 {R : Type} (n : Nat) (a0 : Int) (a1 : List (List D)) (a2 : List (List D)) (w5 : Int) (h10 : Int) (k0 : Option R) (k1 : Int → Option R) (k2 : Bool → Option R) : Option R :=
  ref19_Proper_p4 n a0 a1 a2 w5 h10
    (fun w94 =>
    ref19_Proper_p18 n a0 a1 a2 w5 h10 w94
      (k0)
      (fun w174 =>
      k1 w174)
      (k2 w94))
def ref19_Proper_r20 {R : Type} (n : Nat) (a0 : Int) (a1 : List (List D)) (a2 : List (List D)) (w5 : Int) (k0 : Option R) (k1 : Int → Bool → Option R) : Nat → Int → Option R
  | 0, _ => none
  | m + 1, h10 =>
    ref19_Proper_p19 n a0 a1 a2 w5 h10
      (k0)
      (fun w175 =>
      ref19_Proper_r20 n a0 a1 a2 w5 k0 k1 m w175)
      (fun w176 =>
      k1 h10 w176)
def ref19_Proper_p20 {R : Type} (n : Nat) (a0 : Int) (a1 : List (List D)) (a2 : List (List D)) (w5 : Int) (k0 : Option R) (k1 : Int → Bool → Option R) : Option R := ref19_Proper_r20 n a0 a1 a2 w5 k0 k1 n (0 : Int)
def ref19_Proper_p21 {R : Type} (n : Nat) (a0 : Int) (a1 : List (List D)) (a2 : List (List D)) (w5 : Int) (k0 : Option R) (k1 : Int → Bool → Option R) : Option R :=
  ref19_Proper_p20 n a0 a1 a2 w5
    (k0)
    (fun w177 w178 =>
    k1 w177 w178)
def ref19_Proper_p22 {R : Type} (n : Nat) (a0 : Int) (a1 : List (List D)) (a2 : List (List D)) (w3 : Bool) (k0 : Option R) (k1 : Int → Int → Bool → Option R) : Option R :=
  ref19_Proper_p3 n a0 a1 a2 w3
    (fun w5 =>
    ref19_Proper_p21 n a0 a1 a2 w5
      (k0)
      (fun w179 w180 =>
      k1 w5 w179 w180))
def ref19_Proper_p23 {R : Type} (n : Nat) (a0 : Int) (a1 : List (List D)) (a2 : List (List D)) (w181 : Int) (w182 : Int) (w183 : Bool) (k0 : Option R) : Option R :=
  k0
def ref19_Proper_p24 {R : Type} (n : Nat) (a0 : Int) (a1 : List (List D)) (a2 : List (List D)) (w3 : Bool) (k0 : Bool → Option R) : Option R :=
  ref19_Proper_p22 n a0 a1 a2 w3
    (k0 false)
    (fun w181 w182 w183 =>
    ref19_Proper_p23 n a0 a1 a2 w181 w182 w183
      (k0 true))
def ref19_Proper_p25 {R : Type} (n : Nat) (a0 : Int) (a1 : List (List D)) (a2 : List (List D)) (k0 : Bool → Option R) : Option R :=
  ref19_Proper_p2 n a0 a1 a2
    (k0 false)
    (fun w3 =>
    ref19_Proper_p24 n a0 a1 a2 w3
      (fun w185 =>
      k0 w185))
def ref19_Proper_p26 {R : Type} (n : Nat) (a0 : Int) (a1 : List (List D)) (a2 : List (List D)) (k0 : Bool → Option R) : Option R :=
  ref19_Proper_p1 n a0 a1 a2
    (ref19_Proper_p25 n a0 a1 a2
      (fun w187 =>
      k0 w187))
def ref19_Proper {R : Type} (n : Nat) (a0 : Int) (a1 : List (List D)) (a2 : List (List D)) (K : Bool → Option R) : Option R :=
  ref19_Proper_p26 n a0 a1 a2
    (fun w187 => K w187)
end Go.Vx
/-
  slices_Index_int_int: the pure function
-/
set_option linter.unusedVariables false
namespace Go.Vx
def slices_Index_int_int_p1 {R : Type} (n : Nat) (a0 : List (List D)) (a1 : Int) (k0 : Option R) : Option R :=
  k0
def slices_Index_int_int_p2 {R : Type} (n : Nat) (a0 : List (List D)) (a1 : Int) (k0 : Int → Option R) : Option R :=
  k0 ((List.length a0 : Nat) : Int)
def slices_Index_int_int_p3 {R : Type} (n : Nat) (a0 : List (List D)) (a1 : Int) (w2 : Int) (h6 : Int) (k0 : Option R) (k1 : Int → Option R) (k2 : Bool → Option R) : Option R :=
  bif (decide (h6 < w2)) then
    gb true (rowAt a0 h6) [] fun r12 =>
    gb true (r12[0]?) (.bool false) fun c13 =>
    gb true (pInt .i64 c13) 0 fun i14 =>
    bif (a1 == i14) then
      k0
    else
      k1 (IntKind.wrap .i64 (h6 + (1 : Int)))
  else
    k2 (decide (h6 < w2))
def slices_Index_int_int_r4 {R : Type} (n : Nat) (a0 : List (List D)) (a1 : Int) (w2 : Int) (k0 : Int → Option R) (k1 : Int → Bool → Option R) : Nat → Int → Option R
  | 0, _ => none
  | m + 1, h6 =>
    slices_Index_int_int_p3 n a0 a1 w2 h6
      (k0 h6)
      (fun w17 =>
      slices_Index_int_int_r4 n a0 a1 w2 k0 k1 m w17)
      (fun w18 =>
      k1 h6 w18)
def slices_Index_int_int_p4 {R : Type} (n : Nat) (a0 : List (List D)) (a1 : Int) (w2 : Int) (k0 : Int → Option R) (k1 : Int → Bool → Option R) : Option R := slices_Index_int_int_r4 n a0 a1 w2 k0 k1 n (0 : Int)
def slices_Index_int_int_p5 {R : Type} (n : Nat) (a0 : List (List D)) (a1 : Int) (w2 : Int) (k0 : Int → Option R) (k1 : Int → Bool → Option R) : Option R :=
  slices_Index_int_int_p4 n a0 a1 w2
    (fun w19 =>
    k0 w19)
    (fun w20 w21 =>
    k1 w20 w21)
def slices_Index_int_int_p6 {R : Type} (n : Nat) (a0 : List (List D)) (a1 : Int) (k0 : Int → Option R) (k1 : Int → Int → Bool → Option R) : Option R :=
  slices_Index_int_int_p2 n a0 a1
    (fun w2 =>
    slices_Index_int_int_p5 n a0 a1 w2
      (fun w22 =>
      k0 w22)
      (fun w23 w24 =>
      k1 w2 w23 w24))
def slices_Index_int_int_p7 {R : Type} (n : Nat) (a0 : List (List D)) (a1 : Int) (w26 : Int) (w27 : Int) (w28 : Bool) (k0 : Option R) : Option R :=
  k0
def slices_Index_int_int_p8 {R : Type} (n : Nat) (a0 : List (List D)) (a1 : Int) (k0 : Int → Option R) : Option R :=
  slices_Index_int_int_p6 n a0 a1
    (fun w25 =>
    k0 w25)
    (fun w26 w27 w28 =>
    slices_Index_int_int_p7 n a0 a1 w26 w27 w28
      (k0 (-1 : Int)))
def slices_Index_int_int_p9 {R : Type} (n : Nat) (a0 : List (List D)) (a1 : Int) (k0 : Int → Option R) : Option R :=
  slices_Index_int_int_p1 n a0 a1
    (slices_Index_int_int_p8 n a0 a1
      (fun w30 =>
      k0 w30))
def slices_Index_int_int {R : Type} (n : Nat) (a0 : List (List D)) (a1 : Int) (K : Int → Option R) : Option R :=
  slices_Index_int_int_p9 n a0 a1
    (fun w30 => K w30)
end Go.Vx
/-
  slices_Contains_int_int: the pure function
-/
set_option linter.unusedVariables false
namespace Go.Vx
def slices_Contains_int_int_p1 {R : Type} (n : Nat) (a0 : List (List D)) (a1 : Int) (k0 : Bool → Option R) : Option R :=
  gb true (slices_Index_int_int n a0 a1 some) 0 fun r1 =>
  k0 (decide (r1 ≥ (0 : Int)))
def slices_Contains_int_int {R : Type} (n : Nat) (a0 : List (List D)) (a1 : Int) (K : Bool → Option R) : Option R :=
  slices_Contains_int_int_p1 n a0 a1
    (fun z2 => K z2)
end Go.Vx
/-
  platform_fits: the pure function
-/
set_option linter.unusedVariables false
namespace Go.Vx
def platform_fits_p1 {R : Type} (n : Nat) (a0 : Int) (a1 : List (List D)) (a2 : List (List D)) (a3 : Int) (a4 : Int) (k0 : Option R) : Option R :=
  k0
def platform_fits_p2 {R : Type} (n : Nat) (a0 : Int) (a1 : List (List D)) (a2 : List (List D)) (a3 : Int) (a4 : Int) (k0 : Option R) : Option R :=
  k0
def platform_fits_p3 {R : Type} (n : Nat) (a0 : Int) (a1 : List (List D)) (a2 : List (List D)) (a3 : Int) (a4 : Int) (h7 : Int) (k0 : Option R) (k1 : Int → Option R) (k2 : Bool → Option R) : Option R :=
  bif (decide (h7 < a3)) then
    gb true (rowAt a2 h7) [] fun r28 =>
    gb true (r28[0]?) (.bool false) fun c29 =>
    gb true (pInt .i64 c29) 0 fun i30 =>
    gb (i30 == a4) (rowAt a1 h7) [] fun r31 =>
    gb (i30 == a4) (r31[0]?) (.bool false) fun c32 =>
    gb (i30 == a4) (r31[1]?) (.bool false) fun c33 =>
    gb (i30 == a4) (r31[2]?) (.bool false) fun c34 =>
    gb (i30 == a4) (rowAt a1 a3) [] fun r35 =>
    gb (i30 == a4) (r35[0]?) (.bool false) fun c36 =>
    gb (i30 == a4) (r35[1]?) (.bool false) fun c37 =>
    gb (i30 == a4) (r35[2]?) (.bool false) fun c38 =>
    gb (i30 == a4) (pInt .i64 c32) 0 fun i39 =>
    gb (i30 == a4) (pInt .i64 c33) 0 fun i40 =>
    gb (i30 == a4) (pSl 1 c34) [] fun l41 =>
    gb (i30 == a4) (pInt .i64 c36) 0 fun i42 =>
    gb (i30 == a4) (pInt .i64 c37) 0 fun i43 =>
    gb (i30 == a4) (pSl 1 c38) [] fun l44 =>
    gb (i30 == a4) (platform_overlap n a0 i39 i40 l41 i42 i43 l44 some) false fun r45 =>
    bif (bif (i30 == a4) then r45 else false) then
      k0
    else
      k1 (IntKind.wrap .i64 (h7 + (1 : Int)))
  else
    k2 (decide (h7 < a3))
def platform_fits_r4 {R : Type} (n : Nat) (a0 : Int) (a1 : List (List D)) (a2 : List (List D)) (a3 : Int) (a4 : Int) (k0 : Option R) (k1 : Int → Bool → Option R) : Nat → Int → Option R
  | 0, _ => none
  | m + 1, h7 =>
    platform_fits_p3 n a0 a1 a2 a3 a4 h7
      (k0)
      (fun w48 =>
      platform_fits_r4 n a0 a1 a2 a3 a4 k0 k1 m w48)
      (fun w49 =>
      k1 h7 w49)
def platform_fits_p4 {R : Type} (n : Nat) (a0 : Int) (a1 : List (List D)) (a2 : List (List D)) (a3 : Int) (a4 : Int) (k0 : Option R) (k1 : Int → Bool → Option R) : Option R := platform_fits_r4 n a0 a1 a2 a3 a4 k0 k1 n (0 : Int)
def platform_fits_p5 {R : Type} (n : Nat) (a0 : Int) (a1 : List (List D)) (a2 : List (List D)) (a3 : Int) (a4 : Int) (k0 : Option R) (k1 : Int → Bool → Option R) : Option R :=
  platform_fits_p4 n a0 a1 a2 a3 a4
    (k0)
    (fun w50 w51 =>
    k1 w50 w51)
def platform_fits_p6 {R : Type} (n : Nat) (a0 : Int) (a1 : List (List D)) (a2 : List (List D)) (a3 : Int) (a4 : Int) (k0 : Option R) (k1 : Int → Bool → Option R) : Option R :=
  platform_fits_p2 n a0 a1 a2 a3 a4
    (platform_fits_p5 n a0 a1 a2 a3 a4
      (k0)
      (fun w52 w53 =>
      k1 w52 w53))
def platform_fits_p7 {R : Type} (n : Nat) (a0 : Int) (a1 : List (List D)) (a2 : List (List D)) (a3 : Int) (a4 : Int) (w54 : Int) (w55 : Bool) (k0 : Option R) : Option R :=
  k0
def platform_fits_p8 {R : Type} (n : Nat) (a0 : Int) (a1 : List (List D)) (a2 : List (List D)) (a3 : Int) (a4 : Int) (k0 : Bool → Option R) : Option R :=
  platform_fits_p6 n a0 a1 a2 a3 a4
    (k0 false)
    (fun w54 w55 =>
    platform_fits_p7 n a0 a1 a2 a3 a4 w54 w55
      (k0 true))
def platform_fits_p9 {R : Type} (n : Nat) (a0 : Int) (a1 : List (List D)) (a2 : List (List D)) (a3 : Int) (a4 : Int) (k0 : Bool → Option R) : Option R :=
  platform_fits_p1 n a0 a1 a2 a3 a4
    (platform_fits_p8 n a0 a1 a2 a3 a4
      (fun w57 =>
      k0 w57))
def platform_fits {R : Type} (n : Nat) (a0 : Int) (a1 : List (List D)) (a2 : List (List D)) (a3 : Int) (a4 : Int) (K : Bool → Option R) : Option R :=
  platform_fits_p9 n a0 a1 a2 a3 a4
    (fun w57 => K w57)
end Go.Vx
/-
  platform_Proper: the pure function
-/
set_option linter.unusedVariables false
namespace Go.Vx
def platform_Proper_p1 {R : Type} (n : Nat) (a0 : Int) (a1 : List (List D)) (a2 : List (List D)) (k0 : Option R) : Option R :=
  k0
def platform_Proper_p2 {R : Type} (n : Nat) (a0 : Int) (a1 : List (List D)) (a2 : List (List D)) (k0 : Option R) (k1 : Bool → Option R) : Option R :=
  gb true (platform_Valid n a0 a1 some) false fun r1 =>
  bif (bif (!r1) then true else (((List.length a2 : Nat) : Int) != ((List.length a1 : Nat) : Int))) then
    k0
  else
    k1 (bif (!r1) then true else (((List.length a2 : Nat) : Int) != ((List.length a1 : Nat) : Int)))
def platform_Proper_p3 {R : Type} (n : Nat) (a0 : Int) (a1 : List (List D)) (a2 : List (List D)) (w3 : Bool) (k0 : Int → Option R) : Option R :=
  k0 ((List.length a2 : Nat) : Int)
def platform_Proper_p4 {R : Type} (n : Nat) (a0 : Int) (a1 : List (List D)) (a2 : List (List D)) (w5 : Int) (h11 : Int) (k0 : Option R) (k1 : Int → Option R) (k2 : Bool → Option R) : Option R :=
  bif (decide (h11 < w5)) then
    gb true (rowAt a2 h11) [] fun r22 =>
    gb true (r22[0]?) (.bool false) fun c23 =>
    gb true (pInt .i64 c23) 0 fun i24 =>
    gb true (rowAt a1 h11) [] fun r25 =>
    gb true (r25[2]?) (.bool false) fun c26 =>
    gb true (pSl 1 c26) [] fun l27 =>
    gb true (slices_Contains_int_int n l27 i24 some) false fun r28 =>
    bif (!r28) then
      k0
    else
      gb true (platform_fits n a0 a1 a2 h11 i24 some) false fun r29 =>
      bif (!r29) then
        k0
      else
        k1 (IntKind.wrap .i64 (h11 + (1 : Int)))
  else
    k2 (decide (h11 < w5))
def platform_Proper_r5 {R : Type} (n : Nat) (a0 : Int) (a1 : List (List D)) (a2 : List (List D)) (w5 : Int) (k0 : Option R) (k1 : Int → Bool → Option R) : Nat → Int → Option R
  | 0, _ => none
  | m + 1, h11 =>
    platform_Proper_p4 n a0 a1 a2 w5 h11
      (k0)
      (fun w32 =>
      platform_Proper_r5 n a0 a1 a2 w5 k0 k1 m w32)
      (fun w33 =>
      k1 h11 w33)
def platform_Proper_p5 {R : Type} (n : Nat) (a0 : Int) (a1 : List (List D)) (a2 : List (List D)) (w5 : Int) (k0 : Option R) (k1 : Int → Bool → Option R) : Option R := platform_Proper_r5 n a0 a1 a2 w5 k0 k1 n (0 : Int)
def platform_Proper_p6 {R : Type} (n : Nat) (a0 : Int) (a1 : List (List D)) (a2 : List (List D)) (w5 : Int) (k0 : Option R) (k1 : Int → Bool → Option R) : Option R :=
  platform_Proper_p5 n a0 a1 a2 w5
    (k0)
    (fun w34 w35 =>
    k1 w34 w35)
def platform_Proper_p7 {R : Type} (n : Nat) (a0 : Int) (a1 : List (List D)) (a2 : List (List D)) (w3 : Bool) (k0 : Option R) (k1 : Int → Int → Bool → Option R) : Option R :=
  platform_Proper_p3 n a0 a1 a2 w3
    (fun w5 =>
    platform_Proper_p6 n a0 a1 a2 w5
      (k0)
      (fun w36 w37 =>
      k1 w5 w36 w37))
def platform_Proper_p8 {R : Type} (n : Nat) (a0 : Int) (a1 : List (List D)) (a2 : List (List D)) (w38 : Int) (w39 : Int) (w40 : Bool) (k0 : Option R) : Option R :=
  k0
def platform_Proper_p9 {R : Type} (n : Nat) (a0 : Int) (a1 : List (List D)) (a2 : List (List D)) (w3 : Bool) (k0 : Bool → Option R) : Option R :=
  platform_Proper_p7 n a0 a1 a2 w3
    (k0 false)
    (fun w38 w39 w40 =>
    platform_Proper_p8 n a0 a1 a2 w38 w39 w40
      (k0 true))
def platform_Proper_p10 {R : Type} (n : Nat) (a0 : Int) (a1 : List (List D)) (a2 : List (List D)) (k0 : Bool → Option R) : Option R :=
  platform_Proper_p2 n a0 a1 a2
    (k0 false)
    (fun w3 =>
    platform_Proper_p9 n a0 a1 a2 w3
      (fun w42 =>
      k0 w42))
def platform_Proper_p11 {R : Type} (n : Nat) (a0 : Int) (a1 : List (List D)) (a2 : List (List D)) (k0 : Bool → Option R) : Option R :=
  platform_Proper_p1 n a0 a1 a2
    (platform_Proper_p10 n a0 a1 a2
      (fun w44 =>
      k0 w44))
def platform_Proper {R : Type} (n : Nat) (a0 : Int) (a1 : List (List D)) (a2 : List (List D)) (K : Bool → Option R) : Option R :=
  platform_Proper_p11 n a0 a1 a2
    (fun w44 => K w44)
end Go.Vx
/-
  railplan_platform_Assign_1_s1: the pure function
-/
set_option linter.unusedVariables false
namespace Go.Vx
def railplan_platform_Assign_1_s1_p1 {R : Type} (n : Nat) (Fr : Int → (List (List D)) → Int → Int → Int → (List (List D)) → Option (Int × (List (List D)) × Int × Int × Int × (List (List D)))) (a0 : Int) (b0_0 : List (List D)) (b1_0 : Int) (b2_0 : Int) (b3_0 : Int) (q5 : List (List D)) (k0 : Option R) : Option R :=
  k0
def railplan_platform_Assign_1_s1_p2 {R : Type} (n : Nat) (Fr : Int → (List (List D)) → Int → Int → Int → (List (List D)) → Option (Int × (List (List D)) × Int × Int × Int × (List (List D)))) (a0 : Int) (b0_0 : List (List D)) (b1_0 : Int) (b2_0 : Int) (b3_0 : Int) (q5 : List (List D)) (k0 : Option R) (k1 : Bool → Option R) : Option R :=
  bif (a0 == ((List.length b0_0 : Nat) : Int)) then
    k0
  else
    k1 (a0 == ((List.length b0_0 : Nat) : Int))
def railplan_platform_Assign_1_s1_p3 {R : Type} (n : Nat) (Fr : Int → (List (List D)) → Int → Int → Int → (List (List D)) → Option (Int × (List (List D)) × Int × Int × Int × (List (List D)))) (a0 : Int) (w2 : Bool) (q5 : List (List D)) (b0_0 : List (List D)) (b1_0 : Int) (b2_0 : Int) (b3_0 : Int) (k0 : (List (List D)) → Int → Option R) : Option R :=
  gb true (rowAt b0_0 a0) [] fun r3 =>
  gb true (r3[2]?) (.bool false) fun c4 =>
  gb true (pSl 1 c4) [] fun l5 =>
  k0 l5 ((List.length l5 : Nat) : Int)
def railplan_platform_Assign_1_s1_p4 {R : Type} (n : Nat) (Fr : Int → (List (List D)) → Int → Int → Int → (List (List D)) → Option (Int × (List (List D)) × Int × Int × Int × (List (List D)))) (a0 : Int) (w7 : List (List D)) (w8 : Int) (h12 : Int) (h13 : List (List D)) (h14 : List (List D)) (h15 : Int) (h16 : Int) (h17 : Int) (k0 : Int → (List (List D)) → (List (List D)) → Int → Int → Int → Option R) (k1 : Int → (List (List D)) → (List (List D)) → Int → Int → Int → Option R) (k2 : Bool → Option R) : Option R :=
  bif (decide (h12 < w8)) then
    gb true (rowAt w7 h12) [] fun r38 =>
    gb true (r38[0]?) (.bool false) fun c39 =>
    gb true (pInt .i64 c39) 0 fun i40 =>
    bif (h15 == h16) then
      k0 (15 : Int) h13 h14 h15 h16 h17
    else
      gb true (platform_fits n h17 h14 h13 a0 i40 some) false fun r41 =>
      bif (!r41) then
        k1 (IntKind.wrap .i64 (h12 + (1 : Int))) h13 h14 (IntKind.wrap .i64 (h15 + (1 : Int))) h16 h17
      else
        gb true (inB (List.length h13) a0) () fun u42 =>
        gb true (h13[(Int.toNat a0)]?) [] fun r43 =>
        gb true (Fr (IntKind.wrap .i64 (a0 + (1 : Int))) h14 (IntKind.wrap .i64 (h15 + (1 : Int))) h16 h17 (List.set h13 (Int.toNat a0) (List.set r43 0 (D.int .i64 i40)))) (0, [], 0, 0, 0, []) fun r44 =>
        bif (r44.1 != (14 : Int)) then
          k0 r44.1 r44.2.2.2.2.2 r44.2.1 r44.2.2.1 r44.2.2.2.1 r44.2.2.2.2.1
        else
          k1 (IntKind.wrap .i64 (h12 + (1 : Int))) r44.2.2.2.2.2 r44.2.1 r44.2.2.1 r44.2.2.2.1 r44.2.2.2.2.1
  else
    k2 (decide (h12 < w8))
def railplan_platform_Assign_1_s1_r5 {R : Type} (n : Nat) (Fr : Int → (List (List D)) → Int → Int → Int → (List (List D)) → Option (Int × (List (List D)) × Int × Int × Int × (List (List D)))) (a0 : Int) (w7 : List (List D)) (w8 : Int) (k0 : Int → (List (List D)) → (List (List D)) → Int → Int → Int → Option R) (k1 : Int → Bool → (List (List D)) → (List (List D)) → Int → Int → Int → Option R) : Nat → Int → (List (List D)) → (List (List D)) → Int → Int → Int → Option R
  | 0, _, _, _, _, _, _ => none
  | m + 1, h12, h13, h14, h15, h16, h17 =>
    railplan_platform_Assign_1_s1_p4 n Fr a0 w7 w8 h12 h13 h14 h15 h16 h17
      (fun w58 w59 w60 w61 w62 w63 =>
      k0 w58 w59 w60 w61 w62 w63)
      (fun w64 w65 w66 w67 w68 w69 =>
      railplan_platform_Assign_1_s1_r5 n Fr a0 w7 w8 k0 k1 m w64 w65 w66 w67 w68 w69)
      (fun w70 =>
      k1 h12 w70 h13 h14 h15 h16 h17)
def railplan_platform_Assign_1_s1_p5 {R : Type} (n : Nat) (Fr : Int → (List (List D)) → Int → Int → Int → (List (List D)) → Option (Int × (List (List D)) × Int × Int × Int × (List (List D)))) (a0 : Int) (w7 : List (List D)) (w8 : Int) (q5 : List (List D)) (b0_0 : List (List D)) (b1_0 : Int) (b2_0 : Int) (b3_0 : Int) (k0 : Int → (List (List D)) → (List (List D)) → Int → Int → Int → Option R) (k1 : Int → Bool → (List (List D)) → (List (List D)) → Int → Int → Int → Option R) : Option R := railplan_platform_Assign_1_s1_r5 n Fr a0 w7 w8 k0 k1 n (0 : Int) q5 b0_0 b1_0 b2_0 b3_0
def railplan_platform_Assign_1_s1_p6 {R : Type} (n : Nat) (Fr : Int → (List (List D)) → Int → Int → Int → (List (List D)) → Option (Int × (List (List D)) × Int × Int × Int × (List (List D)))) (a0 : Int) (w7 : List (List D)) (w8 : Int) (q5 : List (List D)) (b0_0 : List (List D)) (b1_0 : Int) (b2_0 : Int) (b3_0 : Int) (k0 : Int → (List (List D)) → (List (List D)) → Int → Int → Int → Option R) (k1 : Int → Bool → (List (List D)) → (List (List D)) → Int → Int → Int → Option R) : Option R :=
  railplan_platform_Assign_1_s1_p5 n Fr a0 w7 w8 q5 b0_0 b1_0 b2_0 b3_0
    (fun w71 w72 w73 w74 w75 w76 =>
    k0 w71 w72 w73 w74 w75 w76)
    (fun w77 w78 w79 w80 w81 w82 w83 =>
    k1 w77 w78 w79 w80 w81 w82 w83)
def railplan_platform_Assign_1_s1_p7 {R : Type} (n : Nat) (Fr : Int → (List (List D)) → Int → Int → Int → (List (List D)) → Option (Int × (List (List D)) × Int × Int × Int × (List (List D)))) (a0 : Int) (w2 : Bool) (q5 : List (List D)) (b0_0 : List (List D)) (b1_0 : Int) (b2_0 : Int) (b3_0 : Int) (k0 : Int → (List (List D)) → (List (List D)) → Int → Int → Int → Option R) (k1 : (List (List D)) → Int → Int → Bool → (List (List D)) → (List (List D)) → Int → Int → Int → Option R) : Option R :=
  railplan_platform_Assign_1_s1_p3 n Fr a0 w2 q5 b0_0 b1_0 b2_0 b3_0
    (fun w7 w8 =>
    railplan_platform_Assign_1_s1_p6 n Fr a0 w7 w8 q5 b0_0 b1_0 b2_0 b3_0
      (fun w84 w85 w86 w87 w88 w89 =>
      k0 w84 w85 w86 w87 w88 w89)
      (fun w90 w91 w92 w93 w94 w95 w96 =>
      k1 w7 w8 w90 w91 w92 w93 w94 w95 w96))
def railplan_platform_Assign_1_s1_p8 {R : Type} (n : Nat) (Fr : Int → (List (List D)) → Int → Int → Int → (List (List D)) → Option (Int × (List (List D)) × Int × Int × Int × (List (List D)))) (a0 : Int) (w103 : List (List D)) (w104 : Int) (w105 : Int) (w106 : Bool) (w107 : List (List D)) (w108 : List (List D)) (w109 : Int) (w110 : Int) (w111 : Int) (k0 : Option R) : Option R :=
  k0
def railplan_platform_Assign_1_s1_p9 {R : Type} (n : Nat) (Fr : Int → (List (List D)) → Int → Int → Int → (List (List D)) → Option (Int × (List (List D)) × Int × Int × Int × (List (List D)))) (a0 : Int) (w2 : Bool) (q5 : List (List D)) (b0_0 : List (List D)) (b1_0 : Int) (b2_0 : Int) (b3_0 : Int) (k0 : Int → (List (List D)) → (List (List D)) → Int → Int → Int → Option R) : Option R :=
  railplan_platform_Assign_1_s1_p7 n Fr a0 w2 q5 b0_0 b1_0 b2_0 b3_0
    (fun w97 w98 w99 w100 w101 w102 =>
    k0 w97 w98 w99 w100 w101 w102)
    (fun w103 w104 w105 w106 w107 w108 w109 w110 w111 =>
    railplan_platform_Assign_1_s1_p8 n Fr a0 w103 w104 w105 w106 w107 w108 w109 w110 w111
      (k0 (14 : Int) w107 w108 w109 w110 w111))
def railplan_platform_Assign_1_s1_p10 {R : Type} (n : Nat) (Fr : Int → (List (List D)) → Int → Int → Int → (List (List D)) → Option (Int × (List (List D)) × Int × Int × Int × (List (List D)))) (a0 : Int) (b0_0 : List (List D)) (b1_0 : Int) (b2_0 : Int) (b3_0 : Int) (q5 : List (List D)) (k0 : Int → (List (List D)) → (List (List D)) → Int → Int → Int → Option R) : Option R :=
  railplan_platform_Assign_1_s1_p2 n Fr a0 b0_0 b1_0 b2_0 b3_0 q5
    (k0 (0 : Int) q5 b0_0 b1_0 b2_0 b3_0)
    (fun w2 =>
    railplan_platform_Assign_1_s1_p9 n Fr a0 w2 q5 b0_0 b1_0 b2_0 b3_0
      (fun w118 w119 w120 w121 w122 w123 =>
      k0 w118 w119 w120 w121 w122 w123))
def railplan_platform_Assign_1_s1_p11 {R : Type} (n : Nat) (Fr : Int → (List (List D)) → Int → Int → Int → (List (List D)) → Option (Int × (List (List D)) × Int × Int × Int × (List (List D)))) (a0 : Int) (b0_0 : List (List D)) (b1_0 : Int) (b2_0 : Int) (b3_0 : Int) (q5 : List (List D)) (k0 : Int → (List (List D)) → (List (List D)) → Int → Int → Int → Option R) : Option R :=
  railplan_platform_Assign_1_s1_p1 n Fr a0 b0_0 b1_0 b2_0 b3_0 q5
    (railplan_platform_Assign_1_s1_p10 n Fr a0 b0_0 b1_0 b2_0 b3_0 q5
      (fun w130 w131 w132 w133 w134 w135 =>
      k0 w130 w131 w132 w133 w134 w135))
def railplan_platform_Assign_1_s1 {R : Type} (n : Nat) (Fr : Int → (List (List D)) → Int → Int → Int → (List (List D)) → Option (Int × (List (List D)) × Int × Int × Int × (List (List D)))) (a0 : Int) (b0_0 : List (List D)) (b1_0 : Int) (b2_0 : Int) (b3_0 : Int) (q5 : List (List D)) (K : Int → (List (List D)) → Int → Int → Int → (List (List D)) → Option R) : Option R :=
  railplan_platform_Assign_1_s1_p11 n Fr a0 b0_0 b1_0 b2_0 b3_0 q5
    (fun w130 w131 w132 w133 w134 w135 => K w130 w132 w133 w134 w135 w131)
def railplan_platform_Assign_1_s1_F (n : Nat) : Nat → Int → (List (List D)) → Int → Int → Int → (List (List D)) → Option (Int × (List (List D)) × Int × Int × Int × (List (List D)))
  | 0, _, _, _, _, _, _ => none
  | d + 1, a0, b0_0, b1_0, b2_0, b3_0, q5 => railplan_platform_Assign_1_s1 n (railplan_platform_Assign_1_s1_F n d) a0 b0_0 b1_0 b2_0 b3_0 q5 (fun r0 r1 r2 r3 r4 r5 => some (r0, r1, r2, r3, r4, r5))
end Go.Vx
/-
  platform_Assign: the pure function
-/
set_option linter.unusedVariables false
namespace Go.Vx
def platform_Assign_p1 {R : Type} (n : Nat) (a0 : Int) (a1 : List (List D)) (a2 : Int) (k0 : Int → Int → Option R) (k1 : Int → (List (List D)) → Option R) : Option R :=
  gb true (platform_Valid n a0 a1 some) false fun r1 =>
  bif (!r1) then
    k0 (0 : Int) (1 : Int)
  else
    bif (bif (decide (a2 < (1 : Int))) then true else (decide (a2 > (1048576 : Int)))) then
      k0 (0 : Int) (4 : Int)
    else
      gb true (bif decide (0 ≤ ((List.length a1 : Nat) : Int)) && decide (((List.length a1 : Nat) : Int) ≤ ((List.length a1 : Nat) : Int)) then some () else none) () fun u2 =>
      gb true (room (Int.toNat ((List.length a1 : Nat) : Int) * 8)) () fun u3 =>
      gb true (railplan_platform_Assign_1_s1_F n n (0 : Int) a1 (0 : Int) a2 a0 (List.replicate (Int.toNat ((List.length a1 : Nat) : Int)) [D.int .i64 (0 : Int)])) (0, [], 0, 0, 0, []) fun r4 =>
      bif (r4.1 == (0 : Int)) then
        k1 r4.2.2.1 r4.2.2.2.2.2
      else
        bif (r4.1 == (14 : Int)) then
          k0 r4.2.2.1 r4.1
        else
          k0 (0 : Int) r4.1
def platform_Assign {R : Type} (n : Nat) (a0 : Int) (a1 : List (List D)) (a2 : Int) (K : (List (List D)) → Int → Int → Option R) : Option R :=
  platform_Assign_p1 n a0 a1 a2
    (fun z5 z6 => K [] z5 z6)
    (fun z7 z8 => K z8 z7 (0 : Int))
end Go.Vx
/-
  law20_two: the pure function
-/
set_option linter.unusedVariables false
namespace Go.Vx
def law20_two_p1 {R : Type} (n : Nat)  (k0 : (List (List D)) → Option R) : Option R :=
  k0 [[D.int .i64 (8 : Int), D.int .i64 (4 : Int), D.sl 1 [[D.int .i64 (1 : Int)], [D.int .i64 (2 : Int)]]], [D.int .i64 (0 : Int), D.int .i64 (3 : Int), D.sl 1 [[D.int .i64 (1 : Int)]]]]
def law20_two {R : Type} (n : Nat)  (K : (List (List D)) → Option R) : Option R :=
  law20_two_p1 n 
    (fun z1 => K z1)
end Go.Vx
/-
  law20_awake: the pure function
-/
set_option linter.unusedVariables false
namespace Go.Vx
def law20_awake_p1 {R : Type} (n : Nat)  (k0 : Bool → Option R) : Option R :=
  gb true (law20_two n  some) [] fun r1 =>
  gb true (platform_Proper n (10 : Int) r1 [[D.int .i64 (2 : Int)], [D.int .i64 (1 : Int)]] some) false fun r2 =>
  gb r2 (law20_two n  some) [] fun r3 =>
  gb r2 (platform_Proper n (10 : Int) r3 [[D.int .i64 (1 : Int)], [D.int .i64 (1 : Int)]] some) false fun r4 =>
  k0 (bif r2 then (!r4) else false)
def law20_awake {R : Type} (n : Nat)  (K : Bool → Option R) : Option R :=
  law20_awake_p1 n 
    (fun z5 => K z5)
end Go.Vx
/-
  law20_PlatformOverlapIsCommon: the pure function
-/
set_option linter.unusedVariables false
namespace Go.Vx
def law20_PlatformOverlapIsCommon_p1 {R : Type} (n : Nat) (a0 : Int) (a1 : List (List D)) (k0 : Option R) : Option R :=
  k0
def law20_PlatformOverlapIsCommon_p2 {R : Type} (n : Nat) (a0 : Int) (a1 : List (List D)) (k0 : Int → Option R) : Option R :=
  gb true (keep_Pick n a0 (30 : Int) some) 0 fun r1 =>
  k0 (IntKind.wrap .i64 ((2 : Int) + r1))
def law20_PlatformOverlapIsCommon_p3 {R : Type} (n : Nat) (w3 : Int) (a1 : List (List D)) (k0 : (List (List D)) → Option R) : Option R :=
  gb true (law20_visits n w3 a1 some) [] fun r4 =>
  k0 r4
def law20_PlatformOverlapIsCommon_p4 {R : Type} (n : Nat) (w3 : Int) (w5 : List (List D)) (k0 : Bool → Option R) (k1 : Bool → Option R) : Option R :=
  bif (decide (((List.length w5 : Nat) : Int) < (2 : Int))) then
    gb true (law20_awake n  some) false fun r6 =>
    k0 r6
  else
    k1 (decide (((List.length w5 : Nat) : Int) < (2 : Int)))
def law20_PlatformOverlapIsCommon_p5 {R : Type} (n : Nat) (w3 : Int) (w5 : List (List D)) (w9 : Bool) (k0 : Option R) : Option R :=
  k0
def law20_PlatformOverlapIsCommon_p6 {R : Type} (n : Nat) (w3 : Int) (w5 : List (List D)) (k0 : Option R) : Option R :=
  k0
def law20_PlatformOverlapIsCommon_p7 {R : Type} (n : Nat) (w3 : Int) (w5 : List (List D)) (h12 : Bool) (h13 : Int) (k0 : Bool → Int → Option R) (k1 : Bool → Option R) : Option R :=
  bif (decide (h13 < w3)) then
    gb (!h12) (rowAt w5 (0 : Int)) [] fun r31 =>
    gb (!h12) (r31[0]?) (.bool false) fun c32 =>
    gb (!h12) (pInt .i64 c32) 0 fun i33 =>
    gb (!h12) (ref1_Mod n (IntKind.wrap .i64 (h13 - i33)) w3 some) 0 fun r34 =>
    gb (!h12) (rowAt w5 (0 : Int)) [] fun r35 =>
    gb (!h12) (r35[1]?) (.bool false) fun c36 =>
    gb (!h12) (pInt .i64 c36) 0 fun i37 =>
    gb ((!h12) && (decide (r34 < i37))) (rowAt w5 (1 : Int)) [] fun r38 =>
    gb ((!h12) && (decide (r34 < i37))) (r38[0]?) (.bool false) fun c39 =>
    gb ((!h12) && (decide (r34 < i37))) (pInt .i64 c39) 0 fun i40 =>
    gb ((!h12) && (decide (r34 < i37))) (ref1_Mod n (IntKind.wrap .i64 (h13 - i40)) w3 some) 0 fun r41 =>
    gb ((!h12) && (decide (r34 < i37))) (rowAt w5 (1 : Int)) [] fun r42 =>
    gb ((!h12) && (decide (r34 < i37))) (r42[1]?) (.bool false) fun c43 =>
    gb ((!h12) && (decide (r34 < i37))) (pInt .i64 c43) 0 fun i44 =>
    k0 (bif h12 then true else (bif (decide (r34 < i37)) then (decide (r41 < i44)) else false)) (IntKind.wrap .i64 (h13 + (1 : Int)))
  else
    k1 (decide (h13 < w3))
def law20_PlatformOverlapIsCommon_r8 {R : Type} (n : Nat) (w3 : Int) (w5 : List (List D)) (k0 : Bool → Int → Bool → Option R) : Nat → Bool → Int → Option R
  | 0, _, _ => none
  | m + 1, h12, h13 =>
    law20_PlatformOverlapIsCommon_p7 n w3 w5 h12 h13
      (fun w48 w49 =>
      law20_PlatformOverlapIsCommon_r8 n w3 w5 k0 m w48 w49)
      (fun w50 =>
      k0 h12 h13 w50)
def law20_PlatformOverlapIsCommon_p8 {R : Type} (n : Nat) (w3 : Int) (w5 : List (List D)) (k0 : Bool → Int → Bool → Option R) : Option R := law20_PlatformOverlapIsCommon_r8 n w3 w5 k0 n false (0 : Int)
def law20_PlatformOverlapIsCommon_p9 {R : Type} (n : Nat) (w3 : Int) (w5 : List (List D)) (k0 : Bool → Int → Bool → Option R) : Option R :=
  law20_PlatformOverlapIsCommon_p8 n w3 w5
    (fun w51 w52 w53 =>
    k0 w51 w52 w53)
def law20_PlatformOverlapIsCommon_p10 {R : Type} (n : Nat) (w3 : Int) (w5 : List (List D)) (k0 : Bool → Int → Bool → Option R) : Option R :=
  law20_PlatformOverlapIsCommon_p6 n w3 w5
    (law20_PlatformOverlapIsCommon_p9 n w3 w5
      (fun w54 w55 w56 =>
      k0 w54 w55 w56))
def law20_PlatformOverlapIsCommon_p11 {R : Type} (n : Nat) (w3 : Int) (w5 : List (List D)) (w57 : Bool) (w58 : Int) (w59 : Bool) (k0 : Bool → Option R) : Option R :=
  gb true (law20_awake n  some) false fun r60 =>
  gb r60 (rowAt w5 (0 : Int)) [] fun r61 =>
  gb r60 (r61[0]?) (.bool false) fun c62 =>
  gb r60 (r61[1]?) (.bool false) fun c63 =>
  gb r60 (r61[2]?) (.bool false) fun c64 =>
  gb r60 (rowAt w5 (1 : Int)) [] fun r65 =>
  gb r60 (r65[0]?) (.bool false) fun c66 =>
  gb r60 (r65[1]?) (.bool false) fun c67 =>
  gb r60 (r65[2]?) (.bool false) fun c68 =>
  gb r60 (pInt .i64 c62) 0 fun i69 =>
  gb r60 (pInt .i64 c63) 0 fun i70 =>
  gb r60 (pSl 1 c64) [] fun l71 =>
  gb r60 (pInt .i64 c66) 0 fun i72 =>
  gb r60 (pInt .i64 c67) 0 fun i73 =>
  gb r60 (pSl 1 c68) [] fun l74 =>
  gb r60 (platform_Overlap n w3 i69 i70 l71 i72 i73 l74 some) false fun r75 =>
  gb (bif r60 then (r75 == w57) else false) (rowAt w5 (1 : Int)) [] fun r76 =>
  gb (bif r60 then (r75 == w57) else false) (r76[0]?) (.bool false) fun c77 =>
  gb (bif r60 then (r75 == w57) else false) (r76[1]?) (.bool false) fun c78 =>
  gb (bif r60 then (r75 == w57) else false) (r76[2]?) (.bool false) fun c79 =>
  gb (bif r60 then (r75 == w57) else false) (rowAt w5 (0 : Int)) [] fun r80 =>
  gb (bif r60 then (r75 == w57) else false) (r80[0]?) (.bool false) fun c81 =>
  gb (bif r60 then (r75 == w57) else false) (r80[1]?) (.bool false) fun c82 =>
  gb (bif r60 then (r75 == w57) else false) (r80[2]?) (.bool false) fun c83 =>
  gb (bif r60 then (r75 == w57) else false) (pInt .i64 c77) 0 fun i84 =>
  gb (bif r60 then (r75 == w57) else false) (pInt .i64 c78) 0 fun i85 =>
  gb (bif r60 then (r75 == w57) else false) (pSl 1 c79) [] fun l86 =>
  gb (bif r60 then (r75 == w57) else false) (pInt .i64 c81) 0 fun i87 =>
  gb (bif r60 then (r75 == w57) else false) (pInt .i64 c82) 0 fun i88 =>
  gb (bif r60 then (r75 == w57) else false) (pSl 1 c83) [] fun l89 =>
  gb (bif r60 then (r75 == w57) else false) (platform_Overlap n w3 i84 i85 l86 i87 i88 l89 some) false fun r90 =>
  k0 (bif (bif r60 then (r75 == w57) else false) then (r90 == w57) else false)
def law20_PlatformOverlapIsCommon_p12 {R : Type} (n : Nat) (w3 : Int) (w5 : List (List D)) (k0 : Bool → Option R) : Option R :=
  law20_PlatformOverlapIsCommon_p10 n w3 w5
    (fun w57 w58 w59 =>
    law20_PlatformOverlapIsCommon_p11 n w3 w5 w57 w58 w59
      (fun w92 =>
      k0 w92))
def law20_PlatformOverlapIsCommon_p13 {R : Type} (n : Nat) (w3 : Int) (w5 : List (List D)) (w9 : Bool) (k0 : Bool → Option R) : Option R :=
  law20_PlatformOverlapIsCommon_p5 n w3 w5 w9
    (law20_PlatformOverlapIsCommon_p12 n w3 w5
      (fun w93 =>
      k0 w93))
def law20_PlatformOverlapIsCommon_p14 {R : Type} (n : Nat) (w3 : Int) (w5 : List (List D)) (k0 : Bool → Option R) : Option R :=
  law20_PlatformOverlapIsCommon_p4 n w3 w5
    (fun w8 =>
    k0 w8)
    (fun w9 =>
    law20_PlatformOverlapIsCommon_p13 n w3 w5 w9
      (fun w94 =>
      k0 w94))
def law20_PlatformOverlapIsCommon_p15 {R : Type} (n : Nat) (w3 : Int) (a1 : List (List D)) (k0 : Bool → Option R) : Option R :=
  law20_PlatformOverlapIsCommon_p3 n w3 a1
    (fun w5 =>
    law20_PlatformOverlapIsCommon_p14 n w3 w5
      (fun w96 =>
      k0 w96))
def law20_PlatformOverlapIsCommon_p16 {R : Type} (n : Nat) (a0 : Int) (a1 : List (List D)) (k0 : Bool → Option R) : Option R :=
  law20_PlatformOverlapIsCommon_p2 n a0 a1
    (fun w3 =>
    law20_PlatformOverlapIsCommon_p15 n w3 a1
      (fun w97 =>
      k0 w97))
def law20_PlatformOverlapIsCommon_p17 {R : Type} (n : Nat) (a0 : Int) (a1 : List (List D)) (k0 : Bool → Option R) : Option R :=
  law20_PlatformOverlapIsCommon_p1 n a0 a1
    (law20_PlatformOverlapIsCommon_p16 n a0 a1
      (fun w98 =>
      k0 w98))
def law20_PlatformOverlapIsCommon {R : Type} (n : Nat) (a0 : Int) (a1 : List (List D)) (K : Bool → Option R) : Option R :=
  law20_PlatformOverlapIsCommon_p17 n a0 a1
    (fun w98 => K w98)
end Go.Vx
/-
  law20_PlatformAssigns: the pure function
-/
set_option linter.unusedVariables false
namespace Go.Vx
def law20_PlatformAssigns_p1 {R : Type} (n : Nat) (a0 : Int) (a1 : List (List D)) (a2 : List (List D)) (k0 : Option R) : Option R :=
  k0
def law20_PlatformAssigns_p2 {R : Type} (n : Nat) (a0 : Int) (a1 : List (List D)) (a2 : List (List D)) (k0 : Int → Option R) : Option R :=
  gb true (keep_Pick n a0 (30 : Int) some) 0 fun r1 =>
  k0 (IntKind.wrap .i64 ((2 : Int) + r1))
def law20_PlatformAssigns_p3 {R : Type} (n : Nat) (w3 : Int) (a1 : List (List D)) (a2 : List (List D)) (k0 : (List (List D)) → Option R) : Option R :=
  gb true (law20_visits n w3 a1 some) [] fun r4 =>
  k0 r4
def law20_PlatformAssigns_p4 {R : Type} (n : Nat) (w3 : Int) (a2 : List (List D)) (w5 : List (List D)) (k0 : (List (List D)) → Int → Option R) : Option R :=
  gb true (platform_Assign n w3 w5 (262144 : Int) (fun r0 r1 r2 => some (r0, r1, r2))) ([], 0, 0) fun r6 =>
  k0 r6.1 r6.2.2
def law20_PlatformAssigns_p5 {R : Type} (n : Nat) (w3 : Int) (a2 : List (List D)) (w5 : List (List D)) (w9 : List (List D)) (w10 : Int) (k0 : (List (List D)) → Int → Option R) : Option R :=
  gb true (keep_From n a2 (fun r0 r1 => some (r0, r1))) ([], 0) fun r11 =>
  k0 r11.1 r11.2
def law20_PlatformAssigns_p6 {R : Type} (n : Nat) (w3 : Int) (w5 : List (List D)) (w9 : List (List D)) (w10 : Int) (w14 : List (List D)) (w15 : Int) (k0 : Option R) : Option R :=
  k0
def law20_PlatformAssigns_p7 {R : Type} (n : Nat) (w3 : Int) (w5 : List (List D)) (w9 : List (List D)) (w10 : Int) (w14 : List (List D)) (w15 : Int) (k0 : Int → Option R) : Option R :=
  k0 ((List.length w5 : Nat) : Int)
def law20_PlatformAssigns_p8 {R : Type} (n : Nat) (w3 : Int) (w5 : List (List D)) (w9 : List (List D)) (w10 : Int) (w17 : Int) (h23 : Int) (h24 : List (List D)) (h25 : List (List D)) (h26 : Int) (k0 : Int → (List (List D)) → (List (List D)) → Int → Option R) (k1 : Bool → Option R) : Option R :=
  bif (decide (h23 < w17)) then
    gb true (rowAt w5 h23) [] fun r46 =>
    gb true (r46[2]?) (.bool false) fun c47 =>
    gb true (pSl 1 c47) [] fun l48 =>
    bif (decide (((List.length l48 : Nat) : Int) > (0 : Int))) then
      gb true (rowAt w5 h23) [] fun r49 =>
      gb true (r49[2]?) (.bool false) fun c50 =>
      gb true (pSl 1 c50) [] fun l51 =>
      gb true (rowAt w5 h23) [] fun r52 =>
      gb true (r52[2]?) (.bool false) fun c53 =>
      gb true (pSl 1 c53) [] fun l54 =>
      gb true (keep_Source_Next n h25 h26 ((List.length l54 : Nat) : Int) (fun r0 r1 r2 => some (r0, r1, r2))) (0, [], 0) fun r55 =>
      gb true (rowAt l51 r55.1) [] fun r56 =>
      gb true (r56[0]?) (.bool false) fun c57 =>
      gb true (pInt .i64 c57) 0 fun i58 =>
      gb true (room ((List.length h24 + List.length [[D.int .i64 i58]]) * 8)) () fun u59 =>
      k0 (IntKind.wrap .i64 (h23 + (1 : Int))) (h24 ++ [[D.int .i64 i58]]) r55.2.1 r55.2.2
    else
      k0 (IntKind.wrap .i64 (h23 + (1 : Int))) h24 h25 h26
  else
    k1 (decide (h23 < w17))
def law20_PlatformAssigns_r9 {R : Type} (n : Nat) (w3 : Int) (w5 : List (List D)) (w9 : List (List D)) (w10 : Int) (w17 : Int) (k0 : Int → Bool → (List (List D)) → (List (List D)) → Int → Option R) : Nat → Int → (List (List D)) → (List (List D)) → Int → Option R
  | 0, _, _, _, _ => none
  | m + 1, h23, h24, h25, h26 =>
    law20_PlatformAssigns_p8 n w3 w5 w9 w10 w17 h23 h24 h25 h26
      (fun w65 w66 w67 w68 =>
      law20_PlatformAssigns_r9 n w3 w5 w9 w10 w17 k0 m w65 w66 w67 w68)
      (fun w69 =>
      k0 h23 w69 h24 h25 h26)
def law20_PlatformAssigns_p9 {R : Type} (n : Nat) (w3 : Int) (w5 : List (List D)) (w9 : List (List D)) (w10 : Int) (w17 : Int) (w14 : List (List D)) (w15 : Int) (k0 : Int → Bool → (List (List D)) → (List (List D)) → Int → Option R) : Option R := law20_PlatformAssigns_r9 n w3 w5 w9 w10 w17 k0 n (0 : Int) [] w14 w15
def law20_PlatformAssigns_p10 {R : Type} (n : Nat) (w3 : Int) (w5 : List (List D)) (w9 : List (List D)) (w10 : Int) (w17 : Int) (w14 : List (List D)) (w15 : Int) (k0 : Int → Bool → (List (List D)) → (List (List D)) → Int → Option R) : Option R :=
  law20_PlatformAssigns_p9 n w3 w5 w9 w10 w17 w14 w15
    (fun w70 w71 w72 w73 w74 =>
    k0 w70 w71 w72 w73 w74)
def law20_PlatformAssigns_p11 {R : Type} (n : Nat) (w3 : Int) (w5 : List (List D)) (w9 : List (List D)) (w10 : Int) (w14 : List (List D)) (w15 : Int) (k0 : Int → Int → Bool → (List (List D)) → (List (List D)) → Int → Option R) : Option R :=
  law20_PlatformAssigns_p7 n w3 w5 w9 w10 w14 w15
    (fun w17 =>
    law20_PlatformAssigns_p10 n w3 w5 w9 w10 w17 w14 w15
      (fun w75 w76 w77 w78 w79 =>
      k0 w17 w75 w76 w77 w78 w79))
def law20_PlatformAssigns_p12 {R : Type} (n : Nat) (w3 : Int) (w5 : List (List D)) (w9 : List (List D)) (w10 : Int) (w80 : Int) (w81 : Int) (w82 : Bool) (w83 : List (List D)) (w84 : List (List D)) (w85 : Int) (k0 : Bool → Option R) (k1 : Bool → Option R) : Option R :=
  bif (w10 != (0 : Int)) then
    gb true (law20_awake n  some) false fun r86 =>
    gb (bif r86 then (w10 == (14 : Int)) else false) (ref19_Proper n w3 w5 w83 some) false fun r87 =>
    k0 (bif (bif r86 then (w10 == (14 : Int)) else false) then (!r87) else false)
  else
    k1 (w10 != (0 : Int))
def law20_PlatformAssigns_p13 {R : Type} (n : Nat) (w3 : Int) (w5 : List (List D)) (w9 : List (List D)) (w10 : Int) (w91 : Bool) (w83 : List (List D)) (k0 : Option R) (k1 : Bool → Option R) : Option R :=
  gb true (ref19_Proper n w3 w5 w9 some) false fun r92 =>
  bif (!r92) then
    k0
  else
    k1 (!r92)
def law20_PlatformAssigns_p14 {R : Type} (n : Nat) (w3 : Int) (w5 : List (List D)) (w9 : List (List D)) (w94 : Bool) (w83 : List (List D)) (k0 : Bool → Option R) (k1 : Bool → Option R) : Option R :=
  gb true (ref19_Proper n w3 w5 w83 some) false fun r95 =>
  bif (!r95) then
    gb true (law20_awake n  some) false fun r96 =>
    k0 r96
  else
    k1 (!r95)
def law20_PlatformAssigns_p15 {R : Type} (n : Nat) (w9 : List (List D)) (w99 : Bool) (w83 : List (List D)) (k0 : Int → Option R) : Option R :=
  k0 ((List.length w9 : Nat) : Int)
def law20_PlatformAssigns_p16 {R : Type} (n : Nat) (w9 : List (List D)) (w101 : Int) (h104 : Int) (w83 : List (List D)) (k0 : Bool → Option R) (k1 : Int → Option R) (k2 : Bool → Option R) : Option R :=
  bif (decide (h104 < w101)) then
    gb true (rowAt w9 h104) [] fun r124 =>
    gb true (r124[0]?) (.bool false) fun c125 =>
    gb true (pInt .i64 c125) 0 fun i126 =>
    gb true (inB (List.length w83) h104) () fun u127 =>
    gb true (w83[(Int.toNat h104)]?) [] fun r128 =>
    gb true (r128[0]?) (.bool false) fun c129 =>
    gb true (pInt .i64 c129) 0 fun i130 =>
    bif (i126 != i130) then
      gb true (law20_awake n  some) false fun r131 =>
      gb r131 (rowAt w9 h104) [] fun r132 =>
      gb r131 (r132[0]?) (.bool false) fun c133 =>
      gb r131 (pInt .i64 c133) 0 fun i134 =>
      gb r131 (inB (List.length w83) h104) () fun u135 =>
      gb r131 (w83[(Int.toNat h104)]?) [] fun r136 =>
      gb r131 (r136[0]?) (.bool false) fun c137 =>
      gb r131 (pInt .i64 c137) 0 fun i138 =>
      k0 (bif r131 then (decide (i134 < i138)) else false)
    else
      k1 (IntKind.wrap .i64 (h104 + (1 : Int)))
  else
    k2 (decide (h104 < w101))
def law20_PlatformAssigns_r17 {R : Type} (n : Nat) (w9 : List (List D)) (w101 : Int) (w83 : List (List D)) (k0 : Bool → Option R) (k1 : Int → Bool → Option R) : Nat → Int → Option R
  | 0, _ => none
  | m + 1, h104 =>
    law20_PlatformAssigns_p16 n w9 w101 h104 w83
      (fun w142 =>
      k0 w142)
      (fun w143 =>
      law20_PlatformAssigns_r17 n w9 w101 w83 k0 k1 m w143)
      (fun w144 =>
      k1 h104 w144)
def law20_PlatformAssigns_p17 {R : Type} (n : Nat) (w9 : List (List D)) (w101 : Int) (w83 : List (List D)) (k0 : Bool → Option R) (k1 : Int → Bool → Option R) : Option R := law20_PlatformAssigns_r17 n w9 w101 w83 k0 k1 n (0 : Int)
def law20_PlatformAssigns_p18 {R : Type} (n : Nat) (w9 : List (List D)) (w101 : Int) (w83 : List (List D)) (k0 : Bool → Option R) (k1 : Int → Bool → Option R) : Option R :=
  law20_PlatformAssigns_p17 n w9 w101 w83
    (fun w145 =>
    k0 w145)
    (fun w146 w147 =>
    k1 w146 w147)
def law20_PlatformAssigns_p19 {R : Type} (n : Nat) (w9 : List (List D)) (w99 : Bool) (w83 : List (List D)) (k0 : Bool → Option R) (k1 : Int → Int → Bool → Option R) : Option R :=
  law20_PlatformAssigns_p15 n w9 w99 w83
    (fun w101 =>
    law20_PlatformAssigns_p18 n w9 w101 w83
      (fun w148 =>
      k0 w148)
      (fun w149 w150 =>
      k1 w101 w149 w150))
def law20_PlatformAssigns_p20 {R : Type} (n : Nat) (w9 : List (List D)) (w152 : Int) (w153 : Int) (w154 : Bool) (w83 : List (List D)) (k0 : Bool → Option R) : Option R :=
  gb true (law20_awake n  some) false fun r155 =>
  k0 r155
def law20_PlatformAssigns_p21 {R : Type} (n : Nat) (w9 : List (List D)) (w99 : Bool) (w83 : List (List D)) (k0 : Bool → Option R) : Option R :=
  law20_PlatformAssigns_p19 n w9 w99 w83
    (fun w151 =>
    k0 w151)
    (fun w152 w153 w154 =>
    law20_PlatformAssigns_p20 n w9 w152 w153 w154 w83
      (fun w156 =>
      k0 w156))
def law20_PlatformAssigns_p22 {R : Type} (n : Nat) (w3 : Int) (w5 : List (List D)) (w9 : List (List D)) (w94 : Bool) (w83 : List (List D)) (k0 : Bool → Option R) : Option R :=
  law20_PlatformAssigns_p14 n w3 w5 w9 w94 w83
    (fun w98 =>
    k0 w98)
    (fun w99 =>
    law20_PlatformAssigns_p21 n w9 w99 w83
      (fun w158 =>
      k0 w158))
def law20_PlatformAssigns_p23 {R : Type} (n : Nat) (w3 : Int) (w5 : List (List D)) (w9 : List (List D)) (w10 : Int) (w91 : Bool) (w83 : List (List D)) (k0 : Bool → Option R) : Option R :=
  law20_PlatformAssigns_p13 n w3 w5 w9 w10 w91 w83
    (k0 false)
    (fun w94 =>
    law20_PlatformAssigns_p22 n w3 w5 w9 w94 w83
      (fun w160 =>
      k0 w160))
def law20_PlatformAssigns_p24 {R : Type} (n : Nat) (w3 : Int) (w5 : List (List D)) (w9 : List (List D)) (w10 : Int) (w80 : Int) (w81 : Int) (w82 : Bool) (w83 : List (List D)) (w84 : List (List D)) (w85 : Int) (k0 : Bool → Option R) : Option R :=
  law20_PlatformAssigns_p12 n w3 w5 w9 w10 w80 w81 w82 w83 w84 w85
    (fun w90 =>
    k0 w90)
    (fun w91 =>
    law20_PlatformAssigns_p23 n w3 w5 w9 w10 w91 w83
      (fun w162 =>
      k0 w162))
def law20_PlatformAssigns_p25 {R : Type} (n : Nat) (w3 : Int) (w5 : List (List D)) (w9 : List (List D)) (w10 : Int) (w14 : List (List D)) (w15 : Int) (k0 : Bool → Option R) : Option R :=
  law20_PlatformAssigns_p11 n w3 w5 w9 w10 w14 w15
    (fun w80 w81 w82 w83 w84 w85 =>
    law20_PlatformAssigns_p24 n w3 w5 w9 w10 w80 w81 w82 w83 w84 w85
      (fun w164 =>
      k0 w164))
def law20_PlatformAssigns_p26 {R : Type} (n : Nat) (w3 : Int) (w5 : List (List D)) (w9 : List (List D)) (w10 : Int) (w14 : List (List D)) (w15 : Int) (k0 : Bool → Option R) : Option R :=
  law20_PlatformAssigns_p6 n w3 w5 w9 w10 w14 w15
    (law20_PlatformAssigns_p25 n w3 w5 w9 w10 w14 w15
      (fun w165 =>
      k0 w165))
def law20_PlatformAssigns_p27 {R : Type} (n : Nat) (w3 : Int) (a2 : List (List D)) (w5 : List (List D)) (w9 : List (List D)) (w10 : Int) (k0 : Bool → Option R) : Option R :=
  law20_PlatformAssigns_p5 n w3 a2 w5 w9 w10
    (fun w14 w15 =>
    law20_PlatformAssigns_p26 n w3 w5 w9 w10 w14 w15
      (fun w166 =>
      k0 w166))
def law20_PlatformAssigns_p28 {R : Type} (n : Nat) (w3 : Int) (a2 : List (List D)) (w5 : List (List D)) (k0 : Bool → Option R) : Option R :=
  law20_PlatformAssigns_p4 n w3 a2 w5
    (fun w9 w10 =>
    law20_PlatformAssigns_p27 n w3 a2 w5 w9 w10
      (fun w167 =>
      k0 w167))
def law20_PlatformAssigns_p29 {R : Type} (n : Nat) (w3 : Int) (a1 : List (List D)) (a2 : List (List D)) (k0 : Bool → Option R) : Option R :=
  law20_PlatformAssigns_p3 n w3 a1 a2
    (fun w5 =>
    law20_PlatformAssigns_p28 n w3 a2 w5
      (fun w168 =>
      k0 w168))
def law20_PlatformAssigns_p30 {R : Type} (n : Nat) (a0 : Int) (a1 : List (List D)) (a2 : List (List D)) (k0 : Bool → Option R) : Option R :=
  law20_PlatformAssigns_p2 n a0 a1 a2
    (fun w3 =>
    law20_PlatformAssigns_p29 n w3 a1 a2
      (fun w169 =>
      k0 w169))
def law20_PlatformAssigns_p31 {R : Type} (n : Nat) (a0 : Int) (a1 : List (List D)) (a2 : List (List D)) (k0 : Bool → Option R) : Option R :=
  law20_PlatformAssigns_p1 n a0 a1 a2
    (law20_PlatformAssigns_p30 n a0 a1 a2
      (fun w170 =>
      k0 w170))
def law20_PlatformAssigns {R : Type} (n : Nat) (a0 : Int) (a1 : List (List D)) (a2 : List (List D)) (K : Bool → Option R) : Option R :=
  law20_PlatformAssigns_p31 n a0 a1 a2
    (fun w170 => K w170)
end Go.Vx
/-
  ref19_assigner_visit: the pure function
-/
set_option linter.unusedVariables false
namespace Go.Vx
def ref19_assigner_visit_p1 {R : Type} (n : Nat) (Fr : Int → (List (List D)) → Int → Int → Bool → (List (List D)) → Option (Bool × Int × (List (List D)) × Int × Int × Bool × (List (List D)))) (a0_0 : Int) (a0_1 : List (List D)) (a0_2 : Int) (a0_3 : Int) (a0_4 : Bool) (a0_5 : List (List D)) (k0 : Option R) : Option R :=
  k0
def ref19_assigner_visit_p2 {R : Type} (n : Nat) (Fr : Int → (List (List D)) → Int → Int → Bool → (List (List D)) → Option (Bool × Int × (List (List D)) × Int × Int × Bool × (List (List D)))) (a0_0 : Int) (a0_1 : List (List D)) (a0_2 : Int) (a0_3 : Int) (a0_4 : Bool) (a0_5 : List (List D)) (k0 : Int → Option R) : Option R :=
  k0 ((List.length a0_5 : Nat) : Int)
def ref19_assigner_visit_p3 {R : Type} (n : Nat) (Fr : Int → (List (List D)) → Int → Int → Bool → (List (List D)) → Option (Bool × Int × (List (List D)) × Int × Int × Bool × (List (List D)))) (w2 : Int) (a0_0 : Int) (a0_1 : List (List D)) (a0_2 : Int) (a0_3 : Int) (a0_4 : Bool) (a0_5 : List (List D)) (k0 : Option R) (k1 : Bool → Option R) : Option R :=
  bif (w2 == ((List.length a0_1 : Nat) : Int)) then
    k0
  else
    k1 (w2 == ((List.length a0_1 : Nat) : Int))
def ref19_assigner_visit_p4 {R : Type} (n : Nat) (Fr : Int → (List (List D)) → Int → Int → Bool → (List (List D)) → Option (Bool × Int × (List (List D)) × Int × Int × Bool × (List (List D)))) (w2 : Int) (w4 : Bool) (a0_0 : Int) (a0_1 : List (List D)) (a0_2 : Int) (a0_3 : Int) (a0_4 : Bool) (a0_5 : List (List D)) (k0 : Int → Option R) : Option R :=
  gb true (rowAt a0_1 w2) [] fun r5 =>
  gb true (r5[2]?) (.bool false) fun c6 =>
  gb true (pSl 1 c6) [] fun l7 =>
  k0 ((List.length l7 : Nat) : Int)
def ref19_assigner_visit_p5 {R : Type} (n : Nat) (Fr : Int → (List (List D)) → Int → Int → Bool → (List (List D)) → Option (Bool × Int × (List (List D)) × Int × Int × Bool × (List (List D)))) (w2 : Int) (w9 : Int) (h12 : Int) (h13 : Int) (h14 : List (List D)) (h15 : Int) (h16 : Int) (h17 : Bool) (h18 : List (List D)) (k0 : Bool → Int → (List (List D)) → Int → Int → Bool → (List (List D)) → Option R) (k1 : Int → Int → (List (List D)) → Int → Int → Bool → (List (List D)) → Option R) (k2 : Bool → Option R) : Option R :=
  bif (decide (h12 < w9)) then
    bif (decide ((IntKind.wrap .i64 (h16 + (1 : Int))) > h15)) then
      k0 false h13 h14 h15 (IntKind.wrap .i64 (h16 + (1 : Int))) true h18
    else
      gb true (slB3 (List.length h18) none (some w2) (some w2)) (0, 0) fun q46 =>
      gb true (rowAt h14 w2) [] fun r47 =>
      gb true (r47[2]?) (.bool false) fun c48 =>
      gb true (pSl 1 c48) [] fun l49 =>
      gb true (rowAt l49 h12) [] fun r50 =>
      gb true (r50[0]?) (.bool false) fun c51 =>
      gb true (pInt .i64 c51) 0 fun i52 =>
      gb true (neL [[D.int .i64 i52]]) () fun u53 =>
      gb true (room ((List.length (cut h18 q46) + List.length [[D.int .i64 i52]]) * 8)) () fun u54 =>
      gb true (slB (List.length h14) none (some (IntKind.wrap .i64 (w2 + (1 : Int))))) (0, 0) fun q55 =>
      gb true (ref19_Proper n h13 (cut h14 q55) ((cut h18 q46) ++ [[D.int .i64 i52]]) some) false fun r56 =>
      gb r56 (Fr h13 h14 h15 (IntKind.wrap .i64 (h16 + (1 : Int))) h17 ((cut h18 q46) ++ [[D.int .i64 i52]])) (false, 0, [], 0, 0, false, []) fun r57 =>
      bif (bif r56 then r57.1 else false) then
        k0 true (bif r56 then r57.2.1 else h13) (bif r56 then r57.2.2.1 else h14) (bif r56 then r57.2.2.2.1 else h15) (bif r56 then r57.2.2.2.2.1 else (IntKind.wrap .i64 (h16 + (1 : Int)))) (bif r56 then r57.2.2.2.2.2.1 else h17) (bif r56 then r57.2.2.2.2.2.2 else ((cut h18 q46) ++ [[D.int .i64 i52]]))
      else
        bif (bif r56 then r57.2.2.2.2.2.1 else h17) then
          k0 false (bif r56 then r57.2.1 else h13) (bif r56 then r57.2.2.1 else h14) (bif r56 then r57.2.2.2.1 else h15) (bif r56 then r57.2.2.2.2.1 else (IntKind.wrap .i64 (h16 + (1 : Int)))) (bif r56 then r57.2.2.2.2.2.1 else h17) (bif r56 then r57.2.2.2.2.2.2 else ((cut h18 q46) ++ [[D.int .i64 i52]]))
        else
          k1 (IntKind.wrap .i64 (h12 + (1 : Int))) (bif r56 then r57.2.1 else h13) (bif r56 then r57.2.2.1 else h14) (bif r56 then r57.2.2.2.1 else h15) (bif r56 then r57.2.2.2.2.1 else (IntKind.wrap .i64 (h16 + (1 : Int)))) (bif r56 then r57.2.2.2.2.2.1 else h17) (bif r56 then r57.2.2.2.2.2.2 else ((cut h18 q46) ++ [[D.int .i64 i52]]))
  else
    k2 (decide (h12 < w9))
def ref19_assigner_visit_r6 {R : Type} (n : Nat) (Fr : Int → (List (List D)) → Int → Int → Bool → (List (List D)) → Option (Bool × Int × (List (List D)) × Int × Int × Bool × (List (List D)))) (w2 : Int) (w9 : Int) (k0 : Bool → Int → (List (List D)) → Int → Int → Bool → (List (List D)) → Option R) (k1 : Int → Bool → Int → (List (List D)) → Int → Int → Bool → (List (List D)) → Option R) : Nat → Int → Int → (List (List D)) → Int → Int → Bool → (List (List D)) → Option R
  | 0, _, _, _, _, _, _, _ => none
  | m + 1, h12, h13, h14, h15, h16, h17, h18 =>
    ref19_assigner_visit_p5 n Fr w2 w9 h12 h13 h14 h15 h16 h17 h18
      (fun w73 w74 w75 w76 w77 w78 w79 =>
      k0 w73 w74 w75 w76 w77 w78 w79)
      (fun w80 w81 w82 w83 w84 w85 w86 =>
      ref19_assigner_visit_r6 n Fr w2 w9 k0 k1 m w80 w81 w82 w83 w84 w85 w86)
      (fun w87 =>
      k1 h12 w87 h13 h14 h15 h16 h17 h18)
def ref19_assigner_visit_p6 {R : Type} (n : Nat) (Fr : Int → (List (List D)) → Int → Int → Bool → (List (List D)) → Option (Bool × Int × (List (List D)) × Int × Int × Bool × (List (List D)))) (w2 : Int) (w9 : Int) (a0_0 : Int) (a0_1 : List (List D)) (a0_2 : Int) (a0_3 : Int) (a0_4 : Bool) (a0_5 : List (List D)) (k0 : Bool → Int → (List (List D)) → Int → Int → Bool → (List (List D)) → Option R) (k1 : Int → Bool → Int → (List (List D)) → Int → Int → Bool → (List (List D)) → Option R) : Option R := ref19_assigner_visit_r6 n Fr w2 w9 k0 k1 n (0 : Int) a0_0 a0_1 a0_2 a0_3 a0_4 a0_5
def ref19_assigner_visit_p7 {R : Type} (n : Nat) (Fr : Int → (List (List D)) → Int → Int → Bool → (List (List D)) → Option (Bool × Int × (List (List D)) × Int × Int × Bool × (List (List D)))) (w2 : Int) (w9 : Int) (a0_0 : Int) (a0_1 : List (List D)) (a0_2 : Int) (a0_3 : Int) (a0_4 : Bool) (a0_5 : List (List D)) (k0 : Bool → Int → (List (List D)) → Int → Int → Bool → (List (List D)) → Option R) (k1 : Int → Bool → Int → (List (List D)) → Int → Int → Bool → (List (List D)) → Option R) : Option R :=
  ref19_assigner_visit_p6 n Fr w2 w9 a0_0 a0_1 a0_2 a0_3 a0_4 a0_5
    (fun w88 w89 w90 w91 w92 w93 w94 =>
    k0 w88 w89 w90 w91 w92 w93 w94)
    (fun w95 w96 w97 w98 w99 w100 w101 w102 =>
    k1 w95 w96 w97 w98 w99 w100 w101 w102)
def ref19_assigner_visit_p8 {R : Type} (n : Nat) (Fr : Int → (List (List D)) → Int → Int → Bool → (List (List D)) → Option (Bool × Int × (List (List D)) × Int × Int × Bool × (List (List D)))) (w2 : Int) (w4 : Bool) (a0_0 : Int) (a0_1 : List (List D)) (a0_2 : Int) (a0_3 : Int) (a0_4 : Bool) (a0_5 : List (List D)) (k0 : Bool → Int → (List (List D)) → Int → Int → Bool → (List (List D)) → Option R) (k1 : Int → Int → Bool → Int → (List (List D)) → Int → Int → Bool → (List (List D)) → Option R) : Option R :=
  ref19_assigner_visit_p4 n Fr w2 w4 a0_0 a0_1 a0_2 a0_3 a0_4 a0_5
    (fun w9 =>
    ref19_assigner_visit_p7 n Fr w2 w9 a0_0 a0_1 a0_2 a0_3 a0_4 a0_5
      (fun w103 w104 w105 w106 w107 w108 w109 =>
      k0 w103 w104 w105 w106 w107 w108 w109)
      (fun w110 w111 w112 w113 w114 w115 w116 w117 =>
      k1 w9 w110 w111 w112 w113 w114 w115 w116 w117))
def ref19_assigner_visit_p9 {R : Type} (n : Nat) (Fr : Int → (List (List D)) → Int → Int → Bool → (List (List D)) → Option (Bool × Int × (List (List D)) × Int × Int × Bool × (List (List D)))) (w2 : Int) (w125 : Int) (w126 : Int) (w127 : Bool) (w128 : Int) (w129 : List (List D)) (w130 : Int) (w131 : Int) (w132 : Bool) (w133 : List (List D)) (k0 : (List (List D)) → Option R) : Option R :=
  gb true (slB3 (List.length w133) none (some w2) (some w2)) (0, 0) fun q134 =>
  k0 (cut w133 q134)
def ref19_assigner_visit_p10 {R : Type} (n : Nat) (Fr : Int → (List (List D)) → Int → Int → Bool → (List (List D)) → Option (Bool × Int × (List (List D)) × Int × Int × Bool × (List (List D)))) (w2 : Int) (w4 : Bool) (a0_0 : Int) (a0_1 : List (List D)) (a0_2 : Int) (a0_3 : Int) (a0_4 : Bool) (a0_5 : List (List D)) (k0 : Bool → Int → (List (List D)) → Int → Int → Bool → (List (List D)) → Option R) : Option R :=
  ref19_assigner_visit_p8 n Fr w2 w4 a0_0 a0_1 a0_2 a0_3 a0_4 a0_5
    (fun w118 w119 w120 w121 w122 w123 w124 =>
    k0 w118 w119 w120 w121 w122 w123 w124)
    (fun w125 w126 w127 w128 w129 w130 w131 w132 w133 =>
    ref19_assigner_visit_p9 n Fr w2 w125 w126 w127 w128 w129 w130 w131 w132 w133
      (fun w136 =>
      k0 false w128 w129 w130 w131 w132 w136))
def ref19_assigner_visit_p11 {R : Type} (n : Nat) (Fr : Int → (List (List D)) → Int → Int → Bool → (List (List D)) → Option (Bool × Int × (List (List D)) × Int × Int × Bool × (List (List D)))) (w2 : Int) (a0_0 : Int) (a0_1 : List (List D)) (a0_2 : Int) (a0_3 : Int) (a0_4 : Bool) (a0_5 : List (List D)) (k0 : Bool → Int → (List (List D)) → Int → Int → Bool → (List (List D)) → Option R) : Option R :=
  ref19_assigner_visit_p3 n Fr w2 a0_0 a0_1 a0_2 a0_3 a0_4 a0_5
    (k0 true a0_0 a0_1 a0_2 a0_3 a0_4 a0_5)
    (fun w4 =>
    ref19_assigner_visit_p10 n Fr w2 w4 a0_0 a0_1 a0_2 a0_3 a0_4 a0_5
      (fun w144 w145 w146 w147 w148 w149 w150 =>
      k0 w144 w145 w146 w147 w148 w149 w150))
def ref19_assigner_visit_p12 {R : Type} (n : Nat) (Fr : Int → (List (List D)) → Int → Int → Bool → (List (List D)) → Option (Bool × Int × (List (List D)) × Int × Int × Bool × (List (List D)))) (a0_0 : Int) (a0_1 : List (List D)) (a0_2 : Int) (a0_3 : Int) (a0_4 : Bool) (a0_5 : List (List D)) (k0 : Bool → Int → (List (List D)) → Int → Int → Bool → (List (List D)) → Option R) : Option R :=
  ref19_assigner_visit_p2 n Fr a0_0 a0_1 a0_2 a0_3 a0_4 a0_5
    (fun w2 =>
    ref19_assigner_visit_p11 n Fr w2 a0_0 a0_1 a0_2 a0_3 a0_4 a0_5
      (fun w158 w159 w160 w161 w162 w163 w164 =>
      k0 w158 w159 w160 w161 w162 w163 w164))
def ref19_assigner_visit_p13 {R : Type} (n : Nat) (Fr : Int → (List (List D)) → Int → Int → Bool → (List (List D)) → Option (Bool × Int × (List (List D)) × Int × Int × Bool × (List (List D)))) (a0_0 : Int) (a0_1 : List (List D)) (a0_2 : Int) (a0_3 : Int) (a0_4 : Bool) (a0_5 : List (List D)) (k0 : Bool → Int → (List (List D)) → Int → Int → Bool → (List (List D)) → Option R) : Option R :=
  ref19_assigner_visit_p1 n Fr a0_0 a0_1 a0_2 a0_3 a0_4 a0_5
    (ref19_assigner_visit_p12 n Fr a0_0 a0_1 a0_2 a0_3 a0_4 a0_5
      (fun w165 w166 w167 w168 w169 w170 w171 =>
      k0 w165 w166 w167 w168 w169 w170 w171))
def ref19_assigner_visit {R : Type} (n : Nat) (Fr : Int → (List (List D)) → Int → Int → Bool → (List (List D)) → Option (Bool × Int × (List (List D)) × Int × Int × Bool × (List (List D)))) (a0_0 : Int) (a0_1 : List (List D)) (a0_2 : Int) (a0_3 : Int) (a0_4 : Bool) (a0_5 : List (List D)) (K : Bool → Int → (List (List D)) → Int → Int → Bool → (List (List D)) → Option R) : Option R :=
  ref19_assigner_visit_p13 n Fr a0_0 a0_1 a0_2 a0_3 a0_4 a0_5
    (fun w165 w166 w167 w168 w169 w170 w171 => K w165 w166 w167 w168 w169 w170 w171)
def ref19_assigner_visit_F (n : Nat) : Nat → Int → (List (List D)) → Int → Int → Bool → (List (List D)) → Option (Bool × Int × (List (List D)) × Int × Int × Bool × (List (List D)))
  | 0, _, _, _, _, _, _ => none
  | d + 1, a0_0, a0_1, a0_2, a0_3, a0_4, a0_5 => ref19_assigner_visit n (ref19_assigner_visit_F n d) a0_0 a0_1 a0_2 a0_3 a0_4 a0_5 (fun r0 r1 r2 r3 r4 r5 r6 => some (r0, r1, r2, r3, r4, r5, r6))
end Go.Vx
/-
  ref19_Assign: the pure function
-/
set_option linter.unusedVariables false
namespace Go.Vx
def ref19_Assign_p1 {R : Type} (n : Nat) (a0 : Int) (a1 : List (List D)) (a2 : Int) (k0 : Int → Int → Option R) (k1 : (List (List D)) → Int → Option R) : Option R :=
  gb true (ref19_ValidVisits n a0 a1 some) false fun r1 =>
  bif (!r1) then
    k0 (0 : Int) (1 : Int)
  else
    gb true (ref19_in n a2 (1 : Int) (1048576 : Int) some) false fun r2 =>
    bif (!r2) then
      k0 (0 : Int) (4 : Int)
    else
      gb true (ref19_assigner_visit_F n n a0 a1 a2 (0 : Int) false []) (false, 0, [], 0, 0, false, []) fun r3 =>
      bif r3.1 then
        k1 r3.2.2.2.2.2.2 r3.2.2.2.2.1
      else
        bif r3.2.2.2.2.2.1 then
          k0 (0 : Int) (15 : Int)
        else
          k0 r3.2.2.2.2.1 (14 : Int)
def ref19_Assign {R : Type} (n : Nat) (a0 : Int) (a1 : List (List D)) (a2 : Int) (K : (List (List D)) → Int → Int → Option R) : Option R :=
  ref19_Assign_p1 n a0 a1 a2
    (fun z4 z5 => K [] z4 z5)
    (fun z6 z7 => K z6 z7 (0 : Int))
end Go.Vx
/-
  platform_members: the pure function
-/
set_option linter.unusedVariables false
namespace Go.Vx
def platform_members_p1 {R : Type} (n : Nat) (a0 : List (List D)) (k0 : Option R) : Option R :=
  k0
def platform_members_p2 {R : Type} (n : Nat) (a0 : List (List D)) (k0 : Option R) : Option R :=
  k0
def platform_members_p3 {R : Type} (n : Nat) (a0 : List (List D)) (k0 : Int → Option R) : Option R :=
  k0 ((List.length a0 : Nat) : Int)
def platform_members_p4 {R : Type} (n : Nat) (a0 : List (List D)) (w2 : Int) (h5 : Int) (h6 : List (List D)) (k0 : Int → (List (List D)) → Option R) (k1 : Bool → Option R) : Option R :=
  bif (decide (h5 < w2)) then
    gb true (rowAt a0 h5) [] fun r14 =>
    gb true (r14[0]?) (.bool false) fun c15 =>
    gb true (pBool c15) false fun b16 =>
    bif b16 then
      gb true (room ((List.length h6 + List.length [[D.int .i64 h5]]) * 8)) () fun u17 =>
      k0 (IntKind.wrap .i64 (h5 + (1 : Int))) (h6 ++ [[D.int .i64 h5]])
    else
      k0 (IntKind.wrap .i64 (h5 + (1 : Int))) h6
  else
    k1 (decide (h5 < w2))
def platform_members_r5 {R : Type} (n : Nat) (a0 : List (List D)) (w2 : Int) (k0 : Int → Bool → (List (List D)) → Option R) : Nat → Int → (List (List D)) → Option R
  | 0, _, _ => none
  | m + 1, h5, h6 =>
    platform_members_p4 n a0 w2 h5 h6
      (fun w21 w22 =>
      platform_members_r5 n a0 w2 k0 m w21 w22)
      (fun w23 =>
      k0 h5 w23 h6)
def platform_members_p5 {R : Type} (n : Nat) (a0 : List (List D)) (w2 : Int) (k0 : Int → Bool → (List (List D)) → Option R) : Option R := platform_members_r5 n a0 w2 k0 n (0 : Int) []
def platform_members_p6 {R : Type} (n : Nat) (a0 : List (List D)) (w2 : Int) (k0 : Int → Bool → (List (List D)) → Option R) : Option R :=
  platform_members_p5 n a0 w2
    (fun w24 w25 w26 =>
    k0 w24 w25 w26)
def platform_members_p7 {R : Type} (n : Nat) (a0 : List (List D)) (k0 : Int → Int → Bool → (List (List D)) → Option R) : Option R :=
  platform_members_p3 n a0
    (fun w2 =>
    platform_members_p6 n a0 w2
      (fun w27 w28 w29 =>
      k0 w2 w27 w28 w29))
def platform_members_p8 {R : Type} (n : Nat) (a0 : List (List D)) (w30 : Int) (w31 : Int) (w32 : Bool) (w33 : List (List D)) (k0 : Option R) : Option R :=
  k0
def platform_members_p9 {R : Type} (n : Nat) (a0 : List (List D)) (k0 : (List (List D)) → Option R) : Option R :=
  platform_members_p7 n a0
    (fun w30 w31 w32 w33 =>
    platform_members_p8 n a0 w30 w31 w32 w33
      (k0 w33))
def platform_members_p10 {R : Type} (n : Nat) (a0 : List (List D)) (k0 : (List (List D)) → Option R) : Option R :=
  platform_members_p2 n a0
    (platform_members_p9 n a0
      (fun w34 =>
      k0 w34))
def platform_members_p11 {R : Type} (n : Nat) (a0 : List (List D)) (k0 : (List (List D)) → Option R) : Option R :=
  platform_members_p1 n a0
    (platform_members_p10 n a0
      (fun w35 =>
      k0 w35))
def platform_members {R : Type} (n : Nat) (a0 : List (List D)) (K : (List (List D)) → Option R) : Option R :=
  platform_members_p11 n a0
    (fun w35 => K w35)
end Go.Vx
/-
  platform_Explain: the pure function
-/
set_option linter.unusedVariables false
namespace Go.Vx
def platform_Explain_p1 {R : Type} (n : Nat) (a0 : Int) (a1 : List (List D)) (a2 : Int) (k0 : Option R) : Option R :=
  k0
def platform_Explain_p2 {R : Type} (n : Nat) (a0 : Int) (a1 : List (List D)) (a2 : Int) (k0 : Int → Int → Option R) : Option R :=
  gb true (platform_Assign n a0 a1 a2 (fun r0 r1 r2 => some (r0, r1, r2))) ([], 0, 0) fun r1 =>
  k0 r1.2.1 r1.2.2
def platform_Explain_p3 {R : Type} (n : Nat) (a0 : Int) (a1 : List (List D)) (a2 : Int) (w4 : Int) (w5 : Int) (k0 : Option R) (k1 : Bool → Option R) : Option R :=
  bif (w5 == (0 : Int)) then
    k0
  else
    k1 (w5 == (0 : Int))
def platform_Explain_p4 {R : Type} (n : Nat) (a0 : Int) (a1 : List (List D)) (a2 : Int) (w4 : Int) (w5 : Int) (w7 : Bool) (k0 : Option R) (k1 : Bool → Option R) : Option R :=
  bif (w5 != (14 : Int)) then
    k0
  else
    k1 (w5 != (14 : Int))
def platform_Explain_p5 {R : Type} (n : Nat) (a0 : Int) (a1 : List (List D)) (a2 : Int) (w4 : Int) (w5 : Int) (w9 : Bool) (k0 : (List (List D)) → Option R) : Option R :=
  gb true (bif decide (0 ≤ ((List.length a1 : Nat) : Int)) && decide (((List.length a1 : Nat) : Int) ≤ ((List.length a1 : Nat) : Int)) then some () else none) () fun u10 =>
  gb true (room (Int.toNat ((List.length a1 : Nat) : Int) * 1)) () fun u11 =>
  k0 (List.replicate (Int.toNat ((List.length a1 : Nat) : Int)) [D.bool false])
def platform_Explain_p6 {R : Type} (n : Nat) (a0 : Int) (a1 : List (List D)) (a2 : Int) (w4 : Int) (w13 : List (List D)) (k0 : Int → Option R) : Option R :=
  k0 ((List.length w13 : Nat) : Int)
def platform_Explain_p7 {R : Type} (n : Nat) (a0 : Int) (a1 : List (List D)) (a2 : Int) (w4 : Int) (w15 : Int) (h21 : Int) (h22 : List (List D)) (k0 : Int → (List (List D)) → Option R) (k1 : Bool → Option R) : Option R :=
  bif (decide (h21 < w15)) then
    gb true (inB (List.length h22) h21) () fun u28 =>
    gb true (h22[(Int.toNat h21)]?) [] fun r29 =>
    k0 (IntKind.wrap .i64 (h21 + (1 : Int))) (List.set h22 (Int.toNat h21) (List.set r29 0 (D.bool true)))
  else
    k1 (decide (h21 < w15))
def platform_Explain_r8 {R : Type} (n : Nat) (a0 : Int) (a1 : List (List D)) (a2 : Int) (w4 : Int) (w15 : Int) (k0 : Int → Bool → (List (List D)) → Option R) : Nat → Int → (List (List D)) → Option R
  | 0, _, _ => none
  | m + 1, h21, h22 =>
    platform_Explain_p7 n a0 a1 a2 w4 w15 h21 h22
      (fun w33 w34 =>
      platform_Explain_r8 n a0 a1 a2 w4 w15 k0 m w33 w34)
      (fun w35 =>
      k0 h21 w35 h22)
def platform_Explain_p8 {R : Type} (n : Nat) (a0 : Int) (a1 : List (List D)) (a2 : Int) (w4 : Int) (w15 : Int) (w13 : List (List D)) (k0 : Int → Bool → (List (List D)) → Option R) : Option R := platform_Explain_r8 n a0 a1 a2 w4 w15 k0 n (0 : Int) w13
def platform_Explain_p9 {R : Type} (n : Nat) (a0 : Int) (a1 : List (List D)) (a2 : Int) (w4 : Int) (w15 : Int) (w13 : List (List D)) (k0 : Int → Bool → (List (List D)) → Option R) : Option R :=
  platform_Explain_p8 n a0 a1 a2 w4 w15 w13
    (fun w36 w37 w38 =>
    k0 w36 w37 w38)
def platform_Explain_p10 {R : Type} (n : Nat) (a0 : Int) (a1 : List (List D)) (a2 : Int) (w4 : Int) (w13 : List (List D)) (k0 : Int → Int → Bool → (List (List D)) → Option R) : Option R :=
  platform_Explain_p6 n a0 a1 a2 w4 w13
    (fun w15 =>
    platform_Explain_p9 n a0 a1 a2 w4 w15 w13
      (fun w39 w40 w41 =>
      k0 w15 w39 w40 w41))
def platform_Explain_p11 {R : Type} (n : Nat) (a0 : Int) (a1 : List (List D)) (a2 : Int) (w4 : Int) (w42 : Int) (w43 : Int) (w44 : Bool) (w45 : List (List D)) (k0 : Int → Option R) : Option R :=
  k0 ((List.length w45 : Nat) : Int)
def platform_Explain_p12 {R : Type} (n : Nat) (a0 : Int) (a1 : List (List D)) (a2 : Int) (h51 : Int) (w47 : Int) (h53 : Int) (h54 : List (List D)) (k0 : Bool → Option R) : Option R :=
  k0 (decide (h53 < w47))
def platform_Explain_p13 {R : Type} (n : Nat) (a0 : Int) (a1 : List (List D)) (a2 : Int) (h51 : Int) (w47 : Int) (h53 : Int) (w157 : Bool) (h54 : List (List D)) (k0 : Option R) (k1 : Option R) : Option R :=
  bif w157 then
    k0
  else
    k1
def platform_Explain_p14 {R : Type} (n : Nat) (a0 : Int) (a1 : List (List D)) (a2 : Int) (h51 : Int) (w47 : Int) (h53 : Int) (w157 : Bool) (h54 : List (List D)) (k0 : Option R) : Option R :=
  k0
def platform_Explain_p15 {R : Type} (n : Nat) (a0 : Int) (a1 : List (List D)) (a2 : Int) (h51 : Int) (h53 : Int) (w47 : Int) (h54 : List (List D)) (k0 : Option R) (k1 : Bool → Option R) : Option R :=
  bif (h51 == a2) then
    k0
  else
    k1 (h51 == a2)
def platform_Explain_p16 {R : Type} (n : Nat) (a0 : Int) (a1 : List (List D)) (a2 : Int) (h51 : Int) (h53 : Int) (w47 : Int) (w159 : Bool) (h54 : List (List D)) (k0 : (List (List D)) → Option R) : Option R :=
  gb true (inB (List.length h54) h53) () fun u160 =>
  gb true (h54[(Int.toNat h53)]?) [] fun r161 =>
  k0 (List.set h54 (Int.toNat h53) (List.set r161 0 (D.bool false)))
def platform_Explain_p17 {R : Type} (n : Nat) (a0 : Int) (a1 : List (List D)) (a2 : Int) (h51 : Int) (h53 : Int) (w47 : Int) (w163 : List (List D)) (k0 : Option R) : Option R :=
  k0
def platform_Explain_p18 {R : Type} (n : Nat) (a0 : Int) (a1 : List (List D)) (a2 : Int) (h51 : Int) (h53 : Int) (w47 : Int) (w163 : List (List D)) (k0 : Int → (List (List D)) → Option R) : Option R :=
  gb true (platform_members n w163 some) [] fun r164 =>
  gb true (flatRs [r164]) () fun u165 =>
  k0 ((List.length r164 : Nat) : Int) r164
def platform_Explain_p19 {R : Type} (n : Nat) (a0 : Int) (a1 : List (List D)) (a2 : Int) (h51 : Int) (h53 : Int) (w47 : Int) (w167 : Int) (h177 : Int) (h178 : List (List D)) (w163 : List (List D)) (w168 : List (List D)) (k0 : Int → (List (List D)) → Option R) (k1 : Bool → Option R) : Option R :=
  bif (decide (h177 < w167)) then
    gb true (inB (List.length w168) h177) () fun u193 =>
    gb true (w168[(Int.toNat h177)]?) [] fun r194 =>
    gb true (r194[0]?) (.bool false) fun c195 =>
    gb true (pInt .i64 c195) 0 fun i196 =>
    gb true (rowAt a1 i196) [] fun r197 =>
    gb true (r197[0]?) (.bool false) fun c198 =>
    gb true (r197[1]?) (.bool false) fun c199 =>
    gb true (r197[2]?) (.bool false) fun c200 =>
    gb true (room ((List.length h178 + List.length [[c198, c199, c200]]) * 40)) () fun u201 =>
    k0 (IntKind.wrap .i64 (h177 + (1 : Int))) (h178 ++ [[c198, c199, c200]])
  else
    k1 (decide (h177 < w167))
def platform_Explain_r20 {R : Type} (n : Nat) (a0 : Int) (a1 : List (List D)) (a2 : Int) (h51 : Int) (h53 : Int) (w47 : Int) (w167 : Int) (w163 : List (List D)) (w168 : List (List D)) (k0 : Int → Bool → (List (List D)) → Option R) : Nat → Int → (List (List D)) → Option R
  | 0, _, _ => none
  | m + 1, h177, h178 =>
    platform_Explain_p19 n a0 a1 a2 h51 h53 w47 w167 h177 h178 w163 w168
      (fun w205 w206 =>
      platform_Explain_r20 n a0 a1 a2 h51 h53 w47 w167 w163 w168 k0 m w205 w206)
      (fun w207 =>
      k0 h177 w207 h178)
def platform_Explain_p20 {R : Type} (n : Nat) (a0 : Int) (a1 : List (List D)) (a2 : Int) (h51 : Int) (h53 : Int) (w47 : Int) (w167 : Int) (w163 : List (List D)) (w168 : List (List D)) (k0 : Int → Bool → (List (List D)) → Option R) : Option R := platform_Explain_r20 n a0 a1 a2 h51 h53 w47 w167 w163 w168 k0 n (0 : Int) []
def platform_Explain_p21 {R : Type} (n : Nat) (a0 : Int) (a1 : List (List D)) (a2 : Int) (h51 : Int) (h53 : Int) (w47 : Int) (w167 : Int) (w163 : List (List D)) (w168 : List (List D)) (k0 : Int → Bool → (List (List D)) → Option R) : Option R :=
  platform_Explain_p20 n a0 a1 a2 h51 h53 w47 w167 w163 w168
    (fun w208 w209 w210 =>
    k0 w208 w209 w210)
def platform_Explain_p22 {R : Type} (n : Nat) (a0 : Int) (a1 : List (List D)) (a2 : Int) (h51 : Int) (h53 : Int) (w47 : Int) (w163 : List (List D)) (k0 : Int → Int → Bool → (List (List D)) → (List (List D)) → Option R) : Option R :=
  platform_Explain_p18 n a0 a1 a2 h51 h53 w47 w163
    (fun w167 w168 =>
    platform_Explain_p21 n a0 a1 a2 h51 h53 w47 w167 w163 w168
      (fun w211 w212 w213 =>
      k0 w167 w211 w212 w213 w168))
def platform_Explain_p23 {R : Type} (n : Nat) (a0 : Int) (a1 : List (List D)) (a2 : Int) (h51 : Int) (h53 : Int) (w47 : Int) (w214 : Int) (w215 : Int) (w216 : Bool) (w163 : List (List D)) (w217 : List (List D)) (w218 : List (List D)) (k0 : Int → Option R) (k1 : Int → (List (List D)) → Option R) : Option R :=
  gb true (platform_Assign n a0 w217 (IntKind.wrap .i64 (a2 - h51)) (fun r0 r1 r2 => some (r0, r1, r2))) ([], 0, 0) fun r219 =>
  bif (r219.2.2 == (15 : Int)) then
    k0 r219.2.2
  else
    gb true (inB (List.length w163) h53) () fun u220 =>
    gb true (w163[(Int.toNat h53)]?) [] fun r221 =>
    k1 (IntKind.wrap .i64 (h51 + r219.2.1)) (List.set w163 (Int.toNat h53) (List.set r221 0 (D.bool (r219.2.2 == (0 : Int)))))
def platform_Explain_p24 {R : Type} (n : Nat) (a0 : Int) (a1 : List (List D)) (a2 : Int) (h51 : Int) (h53 : Int) (w47 : Int) (w163 : List (List D)) (k0 : Int → Option R) (k1 : Int → (List (List D)) → Option R) : Option R :=
  platform_Explain_p22 n a0 a1 a2 h51 h53 w47 w163
    (fun w214 w215 w216 w217 w218 =>
    platform_Explain_p23 n a0 a1 a2 h51 h53 w47 w214 w215 w216 w163 w217 w218
      (fun w225 =>
      k0 w225)
      (fun w226 w227 =>
      k1 w226 w227))
def platform_Explain_p25 {R : Type} (n : Nat) (a0 : Int) (a1 : List (List D)) (a2 : Int) (h51 : Int) (h53 : Int) (w47 : Int) (w163 : List (List D)) (k0 : Int → Option R) (k1 : Int → (List (List D)) → Option R) : Option R :=
  platform_Explain_p17 n a0 a1 a2 h51 h53 w47 w163
    (platform_Explain_p24 n a0 a1 a2 h51 h53 w47 w163
      (fun w228 =>
      k0 w228)
      (fun w229 w230 =>
      k1 w229 w230))
def platform_Explain_p26 {R : Type} (n : Nat) (a0 : Int) (a1 : List (List D)) (a2 : Int) (h51 : Int) (h53 : Int) (w47 : Int) (w159 : Bool) (h54 : List (List D)) (k0 : Int → Option R) (k1 : Int → (List (List D)) → Option R) : Option R :=
  platform_Explain_p16 n a0 a1 a2 h51 h53 w47 w159 h54
    (fun w163 =>
    platform_Explain_p25 n a0 a1 a2 h51 h53 w47 w163
      (fun w231 =>
      k0 w231)
      (fun w232 w233 =>
      k1 w232 w233))
def platform_Explain_p27 {R : Type} (n : Nat) (a0 : Int) (a1 : List (List D)) (a2 : Int) (h51 : Int) (h53 : Int) (w47 : Int) (h54 : List (List D)) (k0 : Int → Option R) (k1 : Int → (List (List D)) → Option R) : Option R :=
  platform_Explain_p15 n a0 a1 a2 h51 h53 w47 h54
    (k0 (15 : Int))
    (fun w159 =>
    platform_Explain_p26 n a0 a1 a2 h51 h53 w47 w159 h54
      (fun w234 =>
      k0 w234)
      (fun w235 w236 =>
      k1 w235 w236))
def platform_Explain_p28 {R : Type} (n : Nat) (a0 : Int) (a1 : List (List D)) (a2 : Int) (h51 : Int) (w47 : Int) (h53 : Int) (w157 : Bool) (h54 : List (List D)) (k0 : Int → Option R) (k1 : Int → (List (List D)) → Option R) : Option R :=
  platform_Explain_p14 n a0 a1 a2 h51 w47 h53 w157 h54
    (platform_Explain_p27 n a0 a1 a2 h51 h53 w47 h54
      (fun w238 =>
      k0 w238)
      (fun w239 w240 =>
      k1 w239 w240))
def platform_Explain_p29 {R : Type} (n : Nat) (a0 : Int) (a1 : List (List D)) (a2 : Int) (h51 : Int) (w47 : Int) (h53 : Int) (w157 : Bool) (h54 : List (List D)) (k0 : Int → Option R) (k1 : Int → (List (List D)) → Option R) : Option R :=
  platform_Explain_p28 n a0 a1 a2 h51 w47 h53 w157 h54
    (fun w241 =>
    k0 w241)
    (fun w242 w243 =>
    k1 w242 w243)
def platform_Explain_p30 {R : Type} (n : Nat) (a0 : Int) (a1 : List (List D)) (a2 : Int) (w245 : Int) (w47 : Int) (h53 : Int) (w246 : List (List D)) (k0 : Int → Option R) : Option R :=
  k0 (IntKind.wrap .i64 (h53 + (1 : Int)))
def platform_Explain_p31 {R : Type} (n : Nat) (a0 : Int) (a1 : List (List D)) (a2 : Int) (h51 : Int) (w47 : Int) (h53 : Int) (w157 : Bool) (h54 : List (List D)) (k0 : Int → Option R) (k1 : Int → Int → (List (List D)) → Option R) : Option R :=
  platform_Explain_p29 n a0 a1 a2 h51 w47 h53 w157 h54
    (fun w244 =>
    k0 w244)
    (fun w245 w246 =>
    platform_Explain_p30 n a0 a1 a2 w245 w47 h53 w246
      (fun w248 =>
      k1 w245 w248 w246))
def platform_Explain_p32 {R : Type} (n : Nat) (a0 : Int) (a1 : List (List D)) (a2 : Int) (h51 : Int) (w47 : Int) (h53 : Int) (w157 : Bool) (h54 : List (List D)) (k0 : Int → Option R) (k1 : Int → Int → (List (List D)) → Option R) (k2 : Option R) : Option R :=
  platform_Explain_p13 n a0 a1 a2 h51 w47 h53 w157 h54
    (platform_Explain_p31 n a0 a1 a2 h51 w47 h53 w157 h54
      (fun w249 =>
      k0 w249)
      (fun w250 w251 w252 =>
      k1 w250 w251 w252))
    (k2)
def platform_Explain_p33 {R : Type} (n : Nat) (a0 : Int) (a1 : List (List D)) (a2 : Int) (h51 : Int) (w47 : Int) (h53 : Int) (h54 : List (List D)) (k0 : Int → Option R) (k1 : Int → Int → (List (List D)) → Option R) (k2 : Bool → Option R) : Option R :=
  platform_Explain_p12 n a0 a1 a2 h51 w47 h53 h54
    (fun w157 =>
    platform_Explain_p32 n a0 a1 a2 h51 w47 h53 w157 h54
      (fun w253 =>
      k0 w253)
      (fun w254 w255 w256 =>
      k1 w254 w255 w256)
      (k2 w157))
def platform_Explain_r34 {R : Type} (n : Nat) (a0 : Int) (a1 : List (List D)) (a2 : Int) (w47 : Int) (k0 : Int → Option R) (k1 : Int → Int → Bool → (List (List D)) → Option R) : Nat → Int → Int → (List (List D)) → Option R
  | 0, _, _, _ => none
  | m + 1, h51, h53, h54 =>
    platform_Explain_p33 n a0 a1 a2 h51 w47 h53 h54
      (fun w257 =>
      k0 w257)
      (fun w258 w259 w260 =>
      platform_Explain_r34 n a0 a1 a2 w47 k0 k1 m w258 w259 w260)
      (fun w261 =>
      k1 h51 h53 w261 h54)
def platform_Explain_p34 {R : Type} (n : Nat) (a0 : Int) (a1 : List (List D)) (a2 : Int) (w4 : Int) (w47 : Int) (w45 : List (List D)) (k0 : Int → Option R) (k1 : Int → Int → Bool → (List (List D)) → Option R) : Option R := platform_Explain_r34 n a0 a1 a2 w47 k0 k1 n w4 (0 : Int) w45
def platform_Explain_p35 {R : Type} (n : Nat) (a0 : Int) (a1 : List (List D)) (a2 : Int) (w4 : Int) (w47 : Int) (w45 : List (List D)) (k0 : Int → Option R) (k1 : Int → Int → Bool → (List (List D)) → Option R) : Option R :=
  platform_Explain_p34 n a0 a1 a2 w4 w47 w45
    (fun w262 =>
    k0 w262)
    (fun w263 w264 w265 w266 =>
    k1 w263 w264 w265 w266)
def platform_Explain_p36 {R : Type} (n : Nat) (a0 : Int) (a1 : List (List D)) (a2 : Int) (w4 : Int) (w42 : Int) (w43 : Int) (w44 : Bool) (w45 : List (List D)) (k0 : Int → Option R) (k1 : Int → Int → Int → Bool → (List (List D)) → Option R) : Option R :=
  platform_Explain_p11 n a0 a1 a2 w4 w42 w43 w44 w45
    (fun w47 =>
    platform_Explain_p35 n a0 a1 a2 w4 w47 w45
      (fun w267 =>
      k0 w267)
      (fun w268 w269 w270 w271 =>
      k1 w268 w47 w269 w270 w271))
def platform_Explain_p37 {R : Type} (n : Nat) (a0 : Int) (a1 : List (List D)) (a2 : Int) (w273 : Int) (w274 : Int) (w275 : Int) (w276 : Bool) (w277 : List (List D)) (k0 : (List (List D)) → Option R) : Option R :=
  gb true (platform_members n w277 some) [] fun r278 =>
  k0 r278
def platform_Explain_p38 {R : Type} (n : Nat) (a0 : Int) (a1 : List (List D)) (a2 : Int) (w4 : Int) (w42 : Int) (w43 : Int) (w44 : Bool) (w45 : List (List D)) (k0 : Int → Option R) (k1 : (List (List D)) → Int → Option R) : Option R :=
  platform_Explain_p36 n a0 a1 a2 w4 w42 w43 w44 w45
    (fun w272 =>
    k0 w272)
    (fun w273 w274 w275 w276 w277 =>
    platform_Explain_p37 n a0 a1 a2 w273 w274 w275 w276 w277
      (fun w279 =>
      k1 w279 w273))
def platform_Explain_p39 {R : Type} (n : Nat) (a0 : Int) (a1 : List (List D)) (a2 : Int) (w4 : Int) (w13 : List (List D)) (k0 : Int → Option R) (k1 : (List (List D)) → Int → Option R) : Option R :=
  platform_Explain_p10 n a0 a1 a2 w4 w13
    (fun w42 w43 w44 w45 =>
    platform_Explain_p38 n a0 a1 a2 w4 w42 w43 w44 w45
      (fun w280 =>
      k0 w280)
      (fun w281 w282 =>
      k1 w281 w282))
def platform_Explain_p40 {R : Type} (n : Nat) (a0 : Int) (a1 : List (List D)) (a2 : Int) (w4 : Int) (w5 : Int) (w9 : Bool) (k0 : Int → Option R) (k1 : (List (List D)) → Int → Option R) : Option R :=
  platform_Explain_p5 n a0 a1 a2 w4 w5 w9
    (fun w13 =>
    platform_Explain_p39 n a0 a1 a2 w4 w13
      (fun w283 =>
      k0 w283)
      (fun w284 w285 =>
      k1 w284 w285))
def platform_Explain_p41 {R : Type} (n : Nat) (a0 : Int) (a1 : List (List D)) (a2 : Int) (w4 : Int) (w5 : Int) (w7 : Bool) (k0 : Int → Option R) (k1 : (List (List D)) → Int → Option R) : Option R :=
  platform_Explain_p4 n a0 a1 a2 w4 w5 w7
    (k0 w5)
    (fun w9 =>
    platform_Explain_p40 n a0 a1 a2 w4 w5 w9
      (fun w286 =>
      k0 w286)
      (fun w287 w288 =>
      k1 w287 w288))
def platform_Explain_p42 {R : Type} (n : Nat) (a0 : Int) (a1 : List (List D)) (a2 : Int) (w4 : Int) (w5 : Int) (k0 : Int → Option R) (k1 : (List (List D)) → Int → Option R) : Option R :=
  platform_Explain_p3 n a0 a1 a2 w4 w5
    (k0 (6 : Int))
    (fun w7 =>
    platform_Explain_p41 n a0 a1 a2 w4 w5 w7
      (fun w290 =>
      k0 w290)
      (fun w291 w292 =>
      k1 w291 w292))
def platform_Explain_p43 {R : Type} (n : Nat) (a0 : Int) (a1 : List (List D)) (a2 : Int) (k0 : Int → Option R) (k1 : (List (List D)) → Int → Option R) : Option R :=
  platform_Explain_p2 n a0 a1 a2
    (fun w4 w5 =>
    platform_Explain_p42 n a0 a1 a2 w4 w5
      (fun w294 =>
      k0 w294)
      (fun w295 w296 =>
      k1 w295 w296))
def platform_Explain_p44 {R : Type} (n : Nat) (a0 : Int) (a1 : List (List D)) (a2 : Int) (k0 : Int → Option R) (k1 : (List (List D)) → Int → Option R) : Option R :=
  platform_Explain_p1 n a0 a1 a2
    (platform_Explain_p43 n a0 a1 a2
      (fun w297 =>
      k0 w297)
      (fun w298 w299 =>
      k1 w298 w299))
def platform_Explain {R : Type} (n : Nat) (a0 : Int) (a1 : List (List D)) (a2 : Int) (K : (List (List D)) → Int → Int → Option R) : Option R :=
  platform_Explain_p44 n a0 a1 a2
    (fun w297 => K [] (0 : Int) w297)
    (fun w298 w299 => K w298 w299 (0 : Int))
end Go.Vx
/-
  ref17_Without: the pure function
-/
set_option linter.unusedVariables false
namespace Go.Vx
def ref17_Without_p1 {R : Type} (n : Nat) (a0 : List (List D)) (a1 : Int) (k0 : (List (List D)) → Option R) : Option R :=
  gb true (slB (List.length a0) none (some a1)) (0, 0) fun q1 =>
  gb true (room (List.length (cut a0 q1) * 8)) () fun u2 =>
  gb true (slB (List.length a0) (some (IntKind.wrap .i64 (a1 + (1 : Int)))) none) (0, 0) fun q3 =>
  gb true (room ((List.length (cut a0 q1) + List.length (cut a0 q3)) * 8)) () fun u4 =>
  k0 ((cut a0 q1) ++ (cut a0 q3))
def ref17_Without {R : Type} (n : Nat) (a0 : List (List D)) (a1 : Int) (K : (List (List D)) → Option R) : Option R :=
  ref17_Without_p1 n a0 a1
    (fun z5 => K z5)
end Go.Vx
/-
  ref19_some: the pure function
-/
set_option linter.unusedVariables false
namespace Go.Vx
def ref19_some_p1 {R : Type} (n : Nat) (a0 : List (List D)) (a1 : List (List D)) (k0 : Option R) : Option R :=
  k0
def ref19_some_p2 {R : Type} (n : Nat) (a0 : List (List D)) (a1 : List (List D)) (k0 : Option R) : Option R :=
  k0
def ref19_some_p3 {R : Type} (n : Nat) (a0 : List (List D)) (a1 : List (List D)) (k0 : Int → Option R) : Option R :=
  k0 ((List.length a1 : Nat) : Int)
def ref19_some_p4 {R : Type} (n : Nat) (a0 : List (List D)) (a1 : List (List D)) (w2 : Int) (h6 : Int) (h7 : List (List D)) (k0 : Int → (List (List D)) → Option R) (k1 : Bool → Option R) : Option R :=
  bif (decide (h6 < w2)) then
    gb true (rowAt a1 h6) [] fun r19 =>
    gb true (r19[0]?) (.bool false) fun c20 =>
    gb true (pInt .i64 c20) 0 fun i21 =>
    gb true (rowAt a0 i21) [] fun r22 =>
    gb true (r22[0]?) (.bool false) fun c23 =>
    gb true (r22[1]?) (.bool false) fun c24 =>
    gb true (r22[2]?) (.bool false) fun c25 =>
    gb true (room ((List.length h7 + List.length [[c23, c24, c25]]) * 40)) () fun u26 =>
    k0 (IntKind.wrap .i64 (h6 + (1 : Int))) (h7 ++ [[c23, c24, c25]])
  else
    k1 (decide (h6 < w2))
def ref19_some_r5 {R : Type} (n : Nat) (a0 : List (List D)) (a1 : List (List D)) (w2 : Int) (k0 : Int → Bool → (List (List D)) → Option R) : Nat → Int → (List (List D)) → Option R
  | 0, _, _ => none
  | m + 1, h6, h7 =>
    ref19_some_p4 n a0 a1 w2 h6 h7
      (fun w30 w31 =>
      ref19_some_r5 n a0 a1 w2 k0 m w30 w31)
      (fun w32 =>
      k0 h6 w32 h7)
def ref19_some_p5 {R : Type} (n : Nat) (a0 : List (List D)) (a1 : List (List D)) (w2 : Int) (k0 : Int → Bool → (List (List D)) → Option R) : Option R := ref19_some_r5 n a0 a1 w2 k0 n (0 : Int) []
def ref19_some_p6 {R : Type} (n : Nat) (a0 : List (List D)) (a1 : List (List D)) (w2 : Int) (k0 : Int → Bool → (List (List D)) → Option R) : Option R :=
  ref19_some_p5 n a0 a1 w2
    (fun w33 w34 w35 =>
    k0 w33 w34 w35)
def ref19_some_p7 {R : Type} (n : Nat) (a0 : List (List D)) (a1 : List (List D)) (k0 : Int → Int → Bool → (List (List D)) → Option R) : Option R :=
  ref19_some_p3 n a0 a1
    (fun w2 =>
    ref19_some_p6 n a0 a1 w2
      (fun w36 w37 w38 =>
      k0 w2 w36 w37 w38))
def ref19_some_p8 {R : Type} (n : Nat) (a0 : List (List D)) (a1 : List (List D)) (w39 : Int) (w40 : Int) (w41 : Bool) (w42 : List (List D)) (k0 : Option R) : Option R :=
  k0
def ref19_some_p9 {R : Type} (n : Nat) (a0 : List (List D)) (a1 : List (List D)) (k0 : (List (List D)) → Option R) : Option R :=
  ref19_some_p7 n a0 a1
    (fun w39 w40 w41 w42 =>
    ref19_some_p8 n a0 a1 w39 w40 w41 w42
      (k0 w42))
def ref19_some_p10 {R : Type} (n : Nat) (a0 : List (List D)) (a1 : List (List D)) (k0 : (List (List D)) → Option R) : Option R :=
  ref19_some_p2 n a0 a1
    (ref19_some_p9 n a0 a1
      (fun w43 =>
      k0 w43))
def ref19_some_p11 {R : Type} (n : Nat) (a0 : List (List D)) (a1 : List (List D)) (k0 : (List (List D)) → Option R) : Option R :=
  ref19_some_p1 n a0 a1
    (ref19_some_p10 n a0 a1
      (fun w44 =>
      k0 w44))
def ref19_some {R : Type} (n : Nat) (a0 : List (List D)) (a1 : List (List D)) (K : (List (List D)) → Option R) : Option R :=
  ref19_some_p11 n a0 a1
    (fun w44 => K w44)
end Go.Vx
/-
  ref19_Explain: the pure function
-/
set_option linter.unusedVariables false
namespace Go.Vx
def ref19_Explain_p1 {R : Type} (n : Nat) (a0 : Int) (a1 : List (List D)) (a2 : Int) (k0 : Option R) : Option R :=
  k0
def ref19_Explain_p2 {R : Type} (n : Nat) (a0 : Int) (a1 : List (List D)) (a2 : Int) (k0 : Int → Int → Option R) : Option R :=
  gb true (ref19_Assign n a0 a1 a2 (fun r0 r1 r2 => some (r0, r1, r2))) ([], 0, 0) fun r1 =>
  k0 r1.2.1 r1.2.2
def ref19_Explain_p3 {R : Type} (n : Nat) (a0 : Int) (a1 : List (List D)) (a2 : Int) (w4 : Int) (w5 : Int) (k0 : Option R) (k1 : Bool → Option R) : Option R :=
  bif (w5 == (0 : Int)) then
    k0
  else
    k1 (w5 == (0 : Int))
def ref19_Explain_p4 {R : Type} (n : Nat) (a0 : Int) (a1 : List (List D)) (a2 : Int) (w4 : Int) (w5 : Int) (w7 : Bool) (k0 : Option R) (k1 : Bool → Option R) : Option R :=
  bif (w5 != (14 : Int)) then
    k0
  else
    k1 (w5 != (14 : Int))
def ref19_Explain_p5 {R : Type} (n : Nat) (a0 : Int) (a1 : List (List D)) (a2 : Int) (w4 : Int) (w5 : Int) (w9 : Bool) (k0 : Option R) : Option R :=
  k0
def ref19_Explain_p6 {R : Type} (n : Nat) (a0 : Int) (a1 : List (List D)) (a2 : Int) (w4 : Int) (k0 : Int → Option R) : Option R :=
  k0 ((List.length a1 : Nat) : Int)
def ref19_Explain_p7 {R : Type} (n : Nat) (a0 : Int) (a1 : List (List D)) (a2 : Int) (w4 : Int) (w11 : Int) (h17 : Int) (h18 : List (List D)) (k0 : Int → (List (List D)) → Option R) (k1 : Bool → Option R) : Option R :=
  bif (decide (h17 < w11)) then
    gb true (room ((List.length h18 + List.length [[D.int .i64 h17]]) * 8)) () fun u23 =>
    k0 (IntKind.wrap .i64 (h17 + (1 : Int))) (h18 ++ [[D.int .i64 h17]])
  else
    k1 (decide (h17 < w11))
def ref19_Explain_r8 {R : Type} (n : Nat) (a0 : Int) (a1 : List (List D)) (a2 : Int) (w4 : Int) (w11 : Int) (k0 : Int → Bool → (List (List D)) → Option R) : Nat → Int → (List (List D)) → Option R
  | 0, _, _ => none
  | m + 1, h17, h18 =>
    ref19_Explain_p7 n a0 a1 a2 w4 w11 h17 h18
      (fun w27 w28 =>
      ref19_Explain_r8 n a0 a1 a2 w4 w11 k0 m w27 w28)
      (fun w29 =>
      k0 h17 w29 h18)
def ref19_Explain_p8 {R : Type} (n : Nat) (a0 : Int) (a1 : List (List D)) (a2 : Int) (w4 : Int) (w11 : Int) (k0 : Int → Bool → (List (List D)) → Option R) : Option R := ref19_Explain_r8 n a0 a1 a2 w4 w11 k0 n (0 : Int) []
def ref19_Explain_p9 {R : Type} (n : Nat) (a0 : Int) (a1 : List (List D)) (a2 : Int) (w4 : Int) (w11 : Int) (k0 : Int → Bool → (List (List D)) → Option R) : Option R :=
  ref19_Explain_p8 n a0 a1 a2 w4 w11
    (fun w30 w31 w32 =>
    k0 w30 w31 w32)
def ref19_Explain_p10 {R : Type} (n : Nat) (a0 : Int) (a1 : List (List D)) (a2 : Int) (w4 : Int) (k0 : Int → Int → Bool → (List (List D)) → Option R) : Option R :=
  ref19_Explain_p6 n a0 a1 a2 w4
    (fun w11 =>
    ref19_Explain_p9 n a0 a1 a2 w4 w11
      (fun w33 w34 w35 =>
      k0 w11 w33 w34 w35))
def ref19_Explain_p11 {R : Type} (n : Nat) (a0 : Int) (a1 : List (List D)) (a2 : Int) (w4 : Int) (w36 : Int) (w37 : Int) (w38 : Bool) (w39 : List (List D)) (k0 : Option R) : Option R :=
  k0
def ref19_Explain_p12 {R : Type} (n : Nat) (a0 : Int) (a1 : List (List D)) (a2 : Int) (h43 : Int) (h44 : List (List D)) (h45 : Int) (k0 : Int → Option R) (k1 : Int → (List (List D)) → Int → Option R) (k2 : Bool → Option R) : Option R :=
  bif (decide (h45 < ((List.length h44 : Nat) : Int))) then
    bif (decide ((IntKind.wrap .i64 (a2 - h43)) < (1 : Int))) then
      k0 (15 : Int)
    else
      gb true (ref17_Without n h44 h45 some) [] fun r55 =>
      gb true (ref19_some n a1 r55 some) [] fun r56 =>
      gb true (ref19_Assign n a0 r56 (IntKind.wrap .i64 (a2 - h43)) (fun r0 r1 r2 => some (r0, r1, r2))) ([], 0, 0) fun r57 =>
      bif (r57.2.2 == (0 : Int)) then
        k1 (IntKind.wrap .i64 (h43 + r57.2.1)) h44 (IntKind.wrap .i64 (h45 + (1 : Int)))
      else
        bif (r57.2.2 == (14 : Int)) then
          gb true (ref17_Without n h44 h45 some) [] fun r58 =>
          k1 (IntKind.wrap .i64 (h43 + r57.2.1)) r58 h45
        else
          k0 r57.2.2
  else
    k2 (decide (h45 < ((List.length h44 : Nat) : Int)))
def ref19_Explain_r13 {R : Type} (n : Nat) (a0 : Int) (a1 : List (List D)) (a2 : Int) (k0 : Int → Option R) (k1 : Int → (List (List D)) → Int → Bool → Option R) : Nat → Int → (List (List D)) → Int → Option R
  | 0, _, _, _ => none
  | m + 1, h43, h44, h45 =>
    ref19_Explain_p12 n a0 a1 a2 h43 h44 h45
      (fun w64 =>
      k0 w64)
      (fun w65 w66 w67 =>
      ref19_Explain_r13 n a0 a1 a2 k0 k1 m w65 w66 w67)
      (fun w68 =>
      k1 h43 h44 h45 w68)
def ref19_Explain_p13 {R : Type} (n : Nat) (a0 : Int) (a1 : List (List D)) (a2 : Int) (w4 : Int) (w39 : List (List D)) (k0 : Int → Option R) (k1 : Int → (List (List D)) → Int → Bool → Option R) : Option R := ref19_Explain_r13 n a0 a1 a2 k0 k1 n w4 w39 (0 : Int)
def ref19_Explain_p14 {R : Type} (n : Nat) (a0 : Int) (a1 : List (List D)) (a2 : Int) (w4 : Int) (w39 : List (List D)) (k0 : Int → Option R) (k1 : Int → (List (List D)) → Int → Bool → Option R) : Option R :=
  ref19_Explain_p13 n a0 a1 a2 w4 w39
    (fun w69 =>
    k0 w69)
    (fun w70 w71 w72 w73 =>
    k1 w70 w71 w72 w73)
def ref19_Explain_p15 {R : Type} (n : Nat) (a0 : Int) (a1 : List (List D)) (a2 : Int) (w4 : Int) (w36 : Int) (w37 : Int) (w38 : Bool) (w39 : List (List D)) (k0 : Int → Option R) (k1 : Int → (List (List D)) → Int → Bool → Option R) : Option R :=
  ref19_Explain_p11 n a0 a1 a2 w4 w36 w37 w38 w39
    (ref19_Explain_p14 n a0 a1 a2 w4 w39
      (fun w74 =>
      k0 w74)
      (fun w75 w76 w77 w78 =>
      k1 w75 w76 w77 w78))
def ref19_Explain_p16 {R : Type} (n : Nat) (a0 : Int) (a1 : List (List D)) (a2 : Int) (w80 : Int) (w81 : List (List D)) (w82 : Int) (w83 : Bool) (k0 : Option R) : Option R :=
  k0
def ref19_Explain_p17 {R : Type} (n : Nat) (a0 : Int) (a1 : List (List D)) (a2 : Int) (w4 : Int) (w36 : Int) (w37 : Int) (w38 : Bool) (w39 : List (List D)) (k0 : Int → Option R) (k1 : (List (List D)) → Int → Option R) : Option R :=
  ref19_Explain_p15 n a0 a1 a2 w4 w36 w37 w38 w39
    (fun w79 =>
    k0 w79)
    (fun w80 w81 w82 w83 =>
    ref19_Explain_p16 n a0 a1 a2 w80 w81 w82 w83
      (k1 w81 w80))
def ref19_Explain_p18 {R : Type} (n : Nat) (a0 : Int) (a1 : List (List D)) (a2 : Int) (w4 : Int) (k0 : Int → Option R) (k1 : (List (List D)) → Int → Option R) : Option R :=
  ref19_Explain_p10 n a0 a1 a2 w4
    (fun w36 w37 w38 w39 =>
    ref19_Explain_p17 n a0 a1 a2 w4 w36 w37 w38 w39
      (fun w84 =>
      k0 w84)
      (fun w85 w86 =>
      k1 w85 w86))
def ref19_Explain_p19 {R : Type} (n : Nat) (a0 : Int) (a1 : List (List D)) (a2 : Int) (w4 : Int) (w5 : Int) (w9 : Bool) (k0 : Int → Option R) (k1 : (List (List D)) → Int → Option R) : Option R :=
  ref19_Explain_p5 n a0 a1 a2 w4 w5 w9
    (ref19_Explain_p18 n a0 a1 a2 w4
      (fun w87 =>
      k0 w87)
      (fun w88 w89 =>
      k1 w88 w89))
def ref19_Explain_p20 {R : Type} (n : Nat) (a0 : Int) (a1 : List (List D)) (a2 : Int) (w4 : Int) (w5 : Int) (w7 : Bool) (k0 : Int → Option R) (k1 : (List (List D)) → Int → Option R) : Option R :=
  ref19_Explain_p4 n a0 a1 a2 w4 w5 w7
    (k0 w5)
    (fun w9 =>
    ref19_Explain_p19 n a0 a1 a2 w4 w5 w9
      (fun w90 =>
      k0 w90)
      (fun w91 w92 =>
      k1 w91 w92))
def ref19_Explain_p21 {R : Type} (n : Nat) (a0 : Int) (a1 : List (List D)) (a2 : Int) (w4 : Int) (w5 : Int) (k0 : Int → Option R) (k1 : (List (List D)) → Int → Option R) : Option R :=
  ref19_Explain_p3 n a0 a1 a2 w4 w5
    (k0 (6 : Int))
    (fun w7 =>
    ref19_Explain_p20 n a0 a1 a2 w4 w5 w7
      (fun w94 =>
      k0 w94)
      (fun w95 w96 =>
      k1 w95 w96))
def ref19_Explain_p22 {R : Type} (n : Nat) (a0 : Int) (a1 : List (List D)) (a2 : Int) (k0 : Int → Option R) (k1 : (List (List D)) → Int → Option R) : Option R :=
  ref19_Explain_p2 n a0 a1 a2
    (fun w4 w5 =>
    ref19_Explain_p21 n a0 a1 a2 w4 w5
      (fun w98 =>
      k0 w98)
      (fun w99 w100 =>
      k1 w99 w100))
def ref19_Explain_p23 {R : Type} (n : Nat) (a0 : Int) (a1 : List (List D)) (a2 : Int) (k0 : Int → Option R) (k1 : (List (List D)) → Int → Option R) : Option R :=
  ref19_Explain_p1 n a0 a1 a2
    (ref19_Explain_p22 n a0 a1 a2
      (fun w101 =>
      k0 w101)
      (fun w102 w103 =>
      k1 w102 w103))
def ref19_Explain {R : Type} (n : Nat) (a0 : Int) (a1 : List (List D)) (a2 : Int) (K : (List (List D)) → Int → Int → Option R) : Option R :=
  ref19_Explain_p23 n a0 a1 a2
    (fun w101 => K [] (0 : Int) w101)
    (fun w102 w103 => K w102 w103 (0 : Int))
end Go.Vx
/-
  keep_Same_int: the pure function
-/
set_option linter.unusedVariables false
namespace Go.Vx
def keep_Same_int_p1 {R : Type} (n : Nat) (a0 : List (List D)) (a1 : List (List D)) (k0 : Option R) : Option R :=
  k0
def keep_Same_int_p2 {R : Type} (n : Nat) (a0 : List (List D)) (a1 : List (List D)) (k0 : Option R) (k1 : Bool → Option R) : Option R :=
  bif (((List.length a0 : Nat) : Int) != ((List.length a1 : Nat) : Int)) then
    k0
  else
    k1 (((List.length a0 : Nat) : Int) != ((List.length a1 : Nat) : Int))
def keep_Same_int_p3 {R : Type} (n : Nat) (a0 : List (List D)) (a1 : List (List D)) (w2 : Bool) (k0 : Int → Option R) : Option R :=
  k0 ((List.length a0 : Nat) : Int)
def keep_Same_int_p4 {R : Type} (n : Nat) (a0 : List (List D)) (a1 : List (List D)) (w4 : Int) (h8 : Int) (k0 : Option R) (k1 : Int → Option R) (k2 : Bool → Option R) : Option R :=
  bif (decide (h8 < w4)) then
    gb true (rowAt a0 h8) [] fun r17 =>
    gb true (r17[0]?) (.bool false) fun c18 =>
    gb true (pInt .i64 c18) 0 fun i19 =>
    gb true (rowAt a1 h8) [] fun r20 =>
    gb true (r20[0]?) (.bool false) fun c21 =>
    gb true (pInt .i64 c21) 0 fun i22 =>
    bif (i19 != i22) then
      k0
    else
      k1 (IntKind.wrap .i64 (h8 + (1 : Int)))
  else
    k2 (decide (h8 < w4))
def keep_Same_int_r5 {R : Type} (n : Nat) (a0 : List (List D)) (a1 : List (List D)) (w4 : Int) (k0 : Option R) (k1 : Int → Bool → Option R) : Nat → Int → Option R
  | 0, _ => none
  | m + 1, h8 =>
    keep_Same_int_p4 n a0 a1 w4 h8
      (k0)
      (fun w25 =>
      keep_Same_int_r5 n a0 a1 w4 k0 k1 m w25)
      (fun w26 =>
      k1 h8 w26)
def keep_Same_int_p5 {R : Type} (n : Nat) (a0 : List (List D)) (a1 : List (List D)) (w4 : Int) (k0 : Option R) (k1 : Int → Bool → Option R) : Option R := keep_Same_int_r5 n a0 a1 w4 k0 k1 n (0 : Int)
def keep_Same_int_p6 {R : Type} (n : Nat) (a0 : List (List D)) (a1 : List (List D)) (w4 : Int) (k0 : Option R) (k1 : Int → Bool → Option R) : Option R :=
  keep_Same_int_p5 n a0 a1 w4
    (k0)
    (fun w27 w28 =>
    k1 w27 w28)
def keep_Same_int_p7 {R : Type} (n : Nat) (a0 : List (List D)) (a1 : List (List D)) (w2 : Bool) (k0 : Option R) (k1 : Int → Int → Bool → Option R) : Option R :=
  keep_Same_int_p3 n a0 a1 w2
    (fun w4 =>
    keep_Same_int_p6 n a0 a1 w4
      (k0)
      (fun w29 w30 =>
      k1 w4 w29 w30))
def keep_Same_int_p8 {R : Type} (n : Nat) (a0 : List (List D)) (a1 : List (List D)) (w31 : Int) (w32 : Int) (w33 : Bool) (k0 : Option R) : Option R :=
  k0
def keep_Same_int_p9 {R : Type} (n : Nat) (a0 : List (List D)) (a1 : List (List D)) (w2 : Bool) (k0 : Bool → Option R) : Option R :=
  keep_Same_int_p7 n a0 a1 w2
    (k0 false)
    (fun w31 w32 w33 =>
    keep_Same_int_p8 n a0 a1 w31 w32 w33
      (k0 true))
def keep_Same_int_p10 {R : Type} (n : Nat) (a0 : List (List D)) (a1 : List (List D)) (k0 : Bool → Option R) : Option R :=
  keep_Same_int_p2 n a0 a1
    (k0 false)
    (fun w2 =>
    keep_Same_int_p9 n a0 a1 w2
      (fun w35 =>
      k0 w35))
def keep_Same_int_p11 {R : Type} (n : Nat) (a0 : List (List D)) (a1 : List (List D)) (k0 : Bool → Option R) : Option R :=
  keep_Same_int_p1 n a0 a1
    (keep_Same_int_p10 n a0 a1
      (fun w37 =>
      k0 w37))
def keep_Same_int {R : Type} (n : Nat) (a0 : List (List D)) (a1 : List (List D)) (K : Bool → Option R) : Option R :=
  keep_Same_int_p11 n a0 a1
    (fun w37 => K w37)
end Go.Vx
/-
  law20_agrees: the pure function
-/
set_option linter.unusedVariables false
namespace Go.Vx
def law20_agrees_p1 {R : Type} (n : Nat) (a0 : Int) (a1 : List (List D)) (a2 : List (List D)) (a3 : Int) (k0 : Bool → Option R) : Option R :=
  gb true (platform_Assign n a0 a1 a3 (fun r0 r1 r2 => some (r0, r1, r2))) ([], 0, 0) fun r1 =>
  gb true (ref19_Assign n a0 a1 a3 (fun r0 r1 r2 => some (r0, r1, r2))) ([], 0, 0) fun r2 =>
  gb true (platform_Explain n a0 a1 a3 (fun r0 r1 r2 => some (r0, r1, r2))) ([], 0, 0) fun r3 =>
  gb true (ref19_Explain n a0 a1 a3 (fun r0 r1 r2 => some (r0, r1, r2))) ([], 0, 0) fun r4 =>
  gb true (platform_Valid n a0 a1 some) false fun r5 =>
  gb true (ref19_ValidVisits n a0 a1 some) false fun r6 =>
  gb (r5 == r6) (platform_Proper n a0 a1 a2 some) false fun r7 =>
  gb (r5 == r6) (ref19_Proper n a0 a1 a2 some) false fun r8 =>
  gb (bif (r5 == r6) then (r7 == r8) else false) (keep_Same_int n r1.1 r2.1 some) false fun r9 =>
  gb (bif (bif (bif (bif (r5 == r6) then (r7 == r8) else false) then r9 else false) then (r1.2.1 == r2.2.1) else false) then (r1.2.2 == r2.2.2) else false) (keep_Same_int n r3.1 r4.1 some) false fun r10 =>
  k0 (bif (bif (bif (bif (bif (bif (bif (r5 == r6) then (r7 == r8) else false) then r9 else false) then (r1.2.1 == r2.2.1) else false) then (r1.2.2 == r2.2.2) else false) then r10 else false) then (r3.2.1 == r4.2.1) else false) then (r3.2.2 == r4.2.2) else false)
def law20_agrees {R : Type} (n : Nat) (a0 : Int) (a1 : List (List D)) (a2 : List (List D)) (a3 : Int) (K : Bool → Option R) : Option R :=
  law20_agrees_p1 n a0 a1 a2 a3
    (fun z11 => K z11)
end Go.Vx
/-
  law20_PlatformRaw: the pure function
-/
set_option linter.unusedVariables false
namespace Go.Vx
def law20_PlatformRaw_p1 {R : Type} (n : Nat) (a0 : Int) (a1 : List (List D)) (a2_0 : Int) (a2_1 : Int) (a2_2 : List (List D)) (a3_0 : Int) (a3_1 : Int) (a3_2 : List (List D)) (a4 : List (List D)) (a5 : Int) (k0 : Bool → Option R) : Option R :=
  gb true (law20_awake n  some) false fun r1 =>
  gb r1 (platform_Overlap n a0 a2_0 a2_1 a2_2 a3_0 a3_1 a3_2 some) false fun r2 =>
  gb r1 (ref19_Overlap n a0 a2_0 a2_1 a2_2 a3_0 a3_1 a3_2 some) false fun r3 =>
  gb (bif r1 then (r2 == r3) else false) (keep_Pick n a5 (200 : Int) some) 0 fun r4 =>
  gb (bif r1 then (r2 == r3) else false) (law20_agrees n a0 a1 a4 (IntKind.wrap .i64 (r4 - (2 : Int))) some) false fun r5 =>
  gb (bif (bif r1 then (r2 == r3) else false) then r5 else false) (law20_two n  some) [] fun r6 =>
  gb (bif (bif r1 then (r2 == r3) else false) then r5 else false) (law20_agrees n (10 : Int) r6 a4 a5 some) false fun r7 =>
  k0 (bif (bif (bif r1 then (r2 == r3) else false) then r5 else false) then r7 else false)
def law20_PlatformRaw {R : Type} (n : Nat) (a0 : Int) (a1 : List (List D)) (a2_0 : Int) (a2_1 : Int) (a2_2 : List (List D)) (a3_0 : Int) (a3_1 : Int) (a3_2 : List (List D)) (a4 : List (List D)) (a5 : Int) (K : Bool → Option R) : Option R :=
  law20_PlatformRaw_p1 n a0 a1 a2_0 a2_1 a2_2 a3_0 a3_1 a3_2 a4 a5
    (fun z8 => K z8)
end Go.Vx
/-
  law20_PlatformGenerated: the pure function
-/
set_option linter.unusedVariables false
namespace Go.Vx
def law20_PlatformGenerated_p1 {R : Type} (n : Nat) (a0 : Int) (a1 : List (List D)) (a2 : List (List D)) (a3 : Int) (k0 : Option R) : Option R :=
  k0
def law20_PlatformGenerated_p2 {R : Type} (n : Nat) (a0 : Int) (a1 : List (List D)) (a2 : List (List D)) (a3 : Int) (k0 : Int → Option R) : Option R :=
  gb true (keep_Pick n a0 (30 : Int) some) 0 fun r1 =>
  k0 (IntKind.wrap .i64 ((2 : Int) + r1))
def law20_PlatformGenerated_p3 {R : Type} (n : Nat) (w3 : Int) (a1 : List (List D)) (a2 : List (List D)) (a3 : Int) (k0 : (List (List D)) → Option R) : Option R :=
  gb true (law20_visits n w3 a1 some) [] fun r4 =>
  k0 r4
def law20_PlatformGenerated_p4 {R : Type} (n : Nat) (w3 : Int) (a2 : List (List D)) (a3 : Int) (w5 : List (List D)) (k0 : Option R) : Option R :=
  k0
def law20_PlatformGenerated_p5 {R : Type} (n : Nat) (w3 : Int) (a2 : List (List D)) (a3 : Int) (w5 : List (List D)) (k0 : Option R) : Option R :=
  k0
def law20_PlatformGenerated_p6 {R : Type} (n : Nat) (w3 : Int) (a2 : List (List D)) (a3 : Int) (w5 : List (List D)) (h10 : Int) (h11 : List (List D)) (k0 : Int → (List (List D)) → Option R) (k1 : Bool → Option R) : Option R :=
  bif (bif (decide (h10 < ((List.length w5 : Nat) : Int))) then (decide (h10 < ((List.length a2 : Nat) : Int))) else false) then
    gb true (rowAt a2 h10) [] fun r20 =>
    gb true (r20[0]?) (.bool false) fun c21 =>
    gb true (pInt .i64 c21) 0 fun i22 =>
    gb true (keep_Pick n i22 (4 : Int) some) 0 fun r23 =>
    gb true (room ((List.length h11 + List.length [[D.int .i64 r23]]) * 8)) () fun u24 =>
    k0 (IntKind.wrap .i64 (h10 + (1 : Int))) (h11 ++ [[D.int .i64 r23]])
  else
    k1 (bif (decide (h10 < ((List.length w5 : Nat) : Int))) then (decide (h10 < ((List.length a2 : Nat) : Int))) else false)
def law20_PlatformGenerated_r7 {R : Type} (n : Nat) (w3 : Int) (a2 : List (List D)) (a3 : Int) (w5 : List (List D)) (k0 : Int → Bool → (List (List D)) → Option R) : Nat → Int → (List (List D)) → Option R
  | 0, _, _ => none
  | m + 1, h10, h11 =>
    law20_PlatformGenerated_p6 n w3 a2 a3 w5 h10 h11
      (fun w28 w29 =>
      law20_PlatformGenerated_r7 n w3 a2 a3 w5 k0 m w28 w29)
      (fun w30 =>
      k0 h10 w30 h11)
def law20_PlatformGenerated_p7 {R : Type} (n : Nat) (w3 : Int) (a2 : List (List D)) (a3 : Int) (w5 : List (List D)) (k0 : Int → Bool → (List (List D)) → Option R) : Option R := law20_PlatformGenerated_r7 n w3 a2 a3 w5 k0 n (0 : Int) []
def law20_PlatformGenerated_p8 {R : Type} (n : Nat) (w3 : Int) (a2 : List (List D)) (a3 : Int) (w5 : List (List D)) (k0 : Int → Bool → (List (List D)) → Option R) : Option R :=
  law20_PlatformGenerated_p7 n w3 a2 a3 w5
    (fun w31 w32 w33 =>
    k0 w31 w32 w33)
def law20_PlatformGenerated_p9 {R : Type} (n : Nat) (w3 : Int) (a2 : List (List D)) (a3 : Int) (w5 : List (List D)) (k0 : Int → Bool → (List (List D)) → Option R) : Option R :=
  law20_PlatformGenerated_p5 n w3 a2 a3 w5
    (law20_PlatformGenerated_p8 n w3 a2 a3 w5
      (fun w34 w35 w36 =>
      k0 w34 w35 w36))
def law20_PlatformGenerated_p10 {R : Type} (n : Nat) (w3 : Int) (a2 : List (List D)) (a3 : Int) (w5 : List (List D)) (w37 : Int) (w38 : Bool) (w39 : List (List D)) (k0 : Bool → Option R) : Option R :=
  gb true (law20_awake n  some) false fun r40 =>
  gb r40 (law20_agrees n w3 w5 w39 (16384 : Int) some) false fun r41 =>
  gb (bif r40 then r41 else false) (keep_Pick n a3 (40 : Int) some) 0 fun r42 =>
  gb (bif r40 then r41 else false) (law20_agrees n w3 w5 w39 (IntKind.wrap .i64 ((1 : Int) + r42)) some) false fun r43 =>
  k0 (bif (bif r40 then r41 else false) then r43 else false)
def law20_PlatformGenerated_p11 {R : Type} (n : Nat) (w3 : Int) (a2 : List (List D)) (a3 : Int) (w5 : List (List D)) (k0 : Bool → Option R) : Option R :=
  law20_PlatformGenerated_p9 n w3 a2 a3 w5
    (fun w37 w38 w39 =>
    law20_PlatformGenerated_p10 n w3 a2 a3 w5 w37 w38 w39
      (fun w45 =>
      k0 w45))
def law20_PlatformGenerated_p12 {R : Type} (n : Nat) (w3 : Int) (a2 : List (List D)) (a3 : Int) (w5 : List (List D)) (k0 : Bool → Option R) : Option R :=
  law20_PlatformGenerated_p4 n w3 a2 a3 w5
    (law20_PlatformGenerated_p11 n w3 a2 a3 w5
      (fun w46 =>
      k0 w46))
def law20_PlatformGenerated_p13 {R : Type} (n : Nat) (w3 : Int) (a1 : List (List D)) (a2 : List (List D)) (a3 : Int) (k0 : Bool → Option R) : Option R :=
  law20_PlatformGenerated_p3 n w3 a1 a2 a3
    (fun w5 =>
    law20_PlatformGenerated_p12 n w3 a2 a3 w5
      (fun w47 =>
      k0 w47))
def law20_PlatformGenerated_p14 {R : Type} (n : Nat) (a0 : Int) (a1 : List (List D)) (a2 : List (List D)) (a3 : Int) (k0 : Bool → Option R) : Option R :=
  law20_PlatformGenerated_p2 n a0 a1 a2 a3
    (fun w3 =>
    law20_PlatformGenerated_p13 n w3 a1 a2 a3
      (fun w48 =>
      k0 w48))
def law20_PlatformGenerated_p15 {R : Type} (n : Nat) (a0 : Int) (a1 : List (List D)) (a2 : List (List D)) (a3 : Int) (k0 : Bool → Option R) : Option R :=
  law20_PlatformGenerated_p1 n a0 a1 a2 a3
    (law20_PlatformGenerated_p14 n a0 a1 a2 a3
      (fun w49 =>
      k0 w49))
def law20_PlatformGenerated {R : Type} (n : Nat) (a0 : Int) (a1 : List (List D)) (a2 : List (List D)) (a3 : Int) (K : Bool → Option R) : Option R :=
  law20_PlatformGenerated_p15 n a0 a1 a2 a3
    (fun w49 => K w49)
end Go.Vx
/-
  ref17_in: the pure function
-/
set_option linter.unusedVariables false
namespace Go.Vx
def ref17_in_p1 {R : Type} (n : Nat) (a0 : Int) (a1 : Int) (a2 : Int) (k0 : Bool → Option R) : Option R :=
  k0 (bif (decide (a0 ≥ a1)) then (decide (a0 ≤ a2)) else false)
def ref17_in {R : Type} (n : Nat) (a0 : Int) (a1 : Int) (a2 : Int) (K : Bool → Option R) : Option R :=
  ref17_in_p1 n a0 a1 a2
    (fun z1 => K z1)
end Go.Vx
/-
  ref17_Ascending: the pure function
-/
set_option linter.unusedVariables false
namespace Go.Vx
def ref17_Ascending_p1 {R : Type} (n : Nat) (a0 : List (List D)) (a1 : Int) (k0 : Option R) : Option R :=
  k0
def ref17_Ascending_p2 {R : Type} (n : Nat) (a0 : List (List D)) (a1 : Int) (k0 : Option R) : Option R :=
  k0
def ref17_Ascending_p3 {R : Type} (n : Nat) (a0 : List (List D)) (a1 : Int) (h3 : Int) (k0 : Option R) (k1 : Int → Option R) (k2 : Bool → Option R) : Option R :=
  bif (decide (h3 < ((List.length a0 : Nat) : Int))) then
    gb true (rowAt a0 h3) [] fun r16 =>
    gb true (r16[0]?) (.bool false) fun c17 =>
    gb true (pInt .i64 c17) 0 fun i18 =>
    gb true (ref17_in n i18 (0 : Int) a1 some) false fun r19 =>
    gb ((!(!r19)) && (decide (h3 > (0 : Int)))) (rowAt a0 h3) [] fun r20 =>
    gb ((!(!r19)) && (decide (h3 > (0 : Int)))) (r20[0]?) (.bool false) fun c21 =>
    gb ((!(!r19)) && (decide (h3 > (0 : Int)))) (pInt .i64 c21) 0 fun i22 =>
    gb ((!(!r19)) && (decide (h3 > (0 : Int)))) (rowAt a0 (IntKind.wrap .i64 (h3 - (1 : Int)))) [] fun r23 =>
    gb ((!(!r19)) && (decide (h3 > (0 : Int)))) (r23[0]?) (.bool false) fun c24 =>
    gb ((!(!r19)) && (decide (h3 > (0 : Int)))) (pInt .i64 c24) 0 fun i25 =>
    bif (bif (!r19) then true else (bif (decide (h3 > (0 : Int))) then (decide (i22 ≤ i25)) else false)) then
      k0
    else
      k1 (IntKind.wrap .i64 (h3 + (1 : Int)))
  else
    k2 (decide (h3 < ((List.length a0 : Nat) : Int)))
def ref17_Ascending_r4 {R : Type} (n : Nat) (a0 : List (List D)) (a1 : Int) (k0 : Option R) (k1 : Int → Bool → Option R) : Nat → Int → Option R
  | 0, _ => none
  | m + 1, h3 =>
    ref17_Ascending_p3 n a0 a1 h3
      (k0)
      (fun w28 =>
      ref17_Ascending_r4 n a0 a1 k0 k1 m w28)
      (fun w29 =>
      k1 h3 w29)
def ref17_Ascending_p4 {R : Type} (n : Nat) (a0 : List (List D)) (a1 : Int) (k0 : Option R) (k1 : Int → Bool → Option R) : Option R := ref17_Ascending_r4 n a0 a1 k0 k1 n (0 : Int)
def ref17_Ascending_p5 {R : Type} (n : Nat) (a0 : List (List D)) (a1 : Int) (k0 : Option R) (k1 : Int → Bool → Option R) : Option R :=
  ref17_Ascending_p4 n a0 a1
    (k0)
    (fun w30 w31 =>
    k1 w30 w31)
def ref17_Ascending_p6 {R : Type} (n : Nat) (a0 : List (List D)) (a1 : Int) (k0 : Option R) (k1 : Int → Bool → Option R) : Option R :=
  ref17_Ascending_p2 n a0 a1
    (ref17_Ascending_p5 n a0 a1
      (k0)
      (fun w32 w33 =>
      k1 w32 w33))
def ref17_Ascending_p7 {R : Type} (n : Nat) (a0 : List (List D)) (a1 : Int) (w34 : Int) (w35 : Bool) (k0 : Option R) : Option R :=
  k0
def ref17_Ascending_p8 {R : Type} (n : Nat) (a0 : List (List D)) (a1 : Int) (k0 : Bool → Option R) : Option R :=
  ref17_Ascending_p6 n a0 a1
    (k0 false)
    (fun w34 w35 =>
    ref17_Ascending_p7 n a0 a1 w34 w35
      (k0 true))
def ref17_Ascending_p9 {R : Type} (n : Nat) (a0 : List (List D)) (a1 : Int) (k0 : Bool → Option R) : Option R :=
  ref17_Ascending_p1 n a0 a1
    (ref17_Ascending_p8 n a0 a1
      (fun w37 =>
      k0 w37))
def ref17_Ascending {R : Type} (n : Nat) (a0 : List (List D)) (a1 : Int) (K : Bool → Option R) : Option R :=
  ref17_Ascending_p9 n a0 a1
    (fun w37 => K w37)
end Go.Vx
/-
  law20_pick: the pure function
-/
set_option linter.unusedVariables false
namespace Go.Vx
def law20_pick_p1 {R : Type} (n : Nat) (a0 : List (List D)) (a1 : List (List D)) (k0 : Option R) : Option R :=
  k0
def law20_pick_p2 {R : Type} (n : Nat) (a0 : List (List D)) (a1 : List (List D)) (k0 : Option R) : Option R :=
  k0
def law20_pick_p3 {R : Type} (n : Nat) (a0 : List (List D)) (a1 : List (List D)) (k0 : Int → Option R) : Option R :=
  k0 ((List.length a1 : Nat) : Int)
def law20_pick_p4 {R : Type} (n : Nat) (a0 : List (List D)) (a1 : List (List D)) (w2 : Int) (h6 : Int) (h7 : List (List D)) (k0 : Int → (List (List D)) → Option R) (k1 : Bool → Option R) : Option R :=
  bif (decide (h6 < w2)) then
    gb true (rowAt a1 h6) [] fun r19 =>
    gb true (r19[0]?) (.bool false) fun c20 =>
    gb true (pInt .i64 c20) 0 fun i21 =>
    gb true (rowAt a0 i21) [] fun r22 =>
    gb true (r22[0]?) (.bool false) fun c23 =>
    gb true (r22[1]?) (.bool false) fun c24 =>
    gb true (r22[2]?) (.bool false) fun c25 =>
    gb true (room ((List.length h7 + List.length [[c23, c24, c25]]) * 40)) () fun u26 =>
    k0 (IntKind.wrap .i64 (h6 + (1 : Int))) (h7 ++ [[c23, c24, c25]])
  else
    k1 (decide (h6 < w2))
def law20_pick_r5 {R : Type} (n : Nat) (a0 : List (List D)) (a1 : List (List D)) (w2 : Int) (k0 : Int → Bool → (List (List D)) → Option R) : Nat → Int → (List (List D)) → Option R
  | 0, _, _ => none
  | m + 1, h6, h7 =>
    law20_pick_p4 n a0 a1 w2 h6 h7
      (fun w30 w31 =>
      law20_pick_r5 n a0 a1 w2 k0 m w30 w31)
      (fun w32 =>
      k0 h6 w32 h7)
def law20_pick_p5 {R : Type} (n : Nat) (a0 : List (List D)) (a1 : List (List D)) (w2 : Int) (k0 : Int → Bool → (List (List D)) → Option R) : Option R := law20_pick_r5 n a0 a1 w2 k0 n (0 : Int) []
def law20_pick_p6 {R : Type} (n : Nat) (a0 : List (List D)) (a1 : List (List D)) (w2 : Int) (k0 : Int → Bool → (List (List D)) → Option R) : Option R :=
  law20_pick_p5 n a0 a1 w2
    (fun w33 w34 w35 =>
    k0 w33 w34 w35)
def law20_pick_p7 {R : Type} (n : Nat) (a0 : List (List D)) (a1 : List (List D)) (k0 : Int → Int → Bool → (List (List D)) → Option R) : Option R :=
  law20_pick_p3 n a0 a1
    (fun w2 =>
    law20_pick_p6 n a0 a1 w2
      (fun w36 w37 w38 =>
      k0 w2 w36 w37 w38))
def law20_pick_p8 {R : Type} (n : Nat) (a0 : List (List D)) (a1 : List (List D)) (w39 : Int) (w40 : Int) (w41 : Bool) (w42 : List (List D)) (k0 : Option R) : Option R :=
  k0
def law20_pick_p9 {R : Type} (n : Nat) (a0 : List (List D)) (a1 : List (List D)) (k0 : (List (List D)) → Option R) : Option R :=
  law20_pick_p7 n a0 a1
    (fun w39 w40 w41 w42 =>
    law20_pick_p8 n a0 a1 w39 w40 w41 w42
      (k0 w42))
def law20_pick_p10 {R : Type} (n : Nat) (a0 : List (List D)) (a1 : List (List D)) (k0 : (List (List D)) → Option R) : Option R :=
  law20_pick_p2 n a0 a1
    (law20_pick_p9 n a0 a1
      (fun w43 =>
      k0 w43))
def law20_pick_p11 {R : Type} (n : Nat) (a0 : List (List D)) (a1 : List (List D)) (k0 : (List (List D)) → Option R) : Option R :=
  law20_pick_p1 n a0 a1
    (law20_pick_p10 n a0 a1
      (fun w44 =>
      k0 w44))
def law20_pick {R : Type} (n : Nat) (a0 : List (List D)) (a1 : List (List D)) (K : (List (List D)) → Option R) : Option R :=
  law20_pick_p11 n a0 a1
    (fun w44 => K w44)
end Go.Vx
/-
  law20_PlatformExplains: the pure function
-/
set_option linter.unusedVariables false
namespace Go.Vx
def law20_PlatformExplains_p1 {R : Type} (n : Nat) (a0 : Int) (a1 : List (List D)) (a2 : Int) (k0 : Bool → Option R) : Option R :=
  gb true (keep_Pick n a0 (30 : Int) some) 0 fun r1 =>
  gb true (law20_visits n (IntKind.wrap .i64 ((2 : Int) + r1)) a1 some) [] fun r2 =>
  gb true (platform_Explain n (IntKind.wrap .i64 ((2 : Int) + r1)) r2 (262144 : Int) (fun r0 r1 r2 => some (r0, r1, r2))) ([], 0, 0) fun r3 =>
  gb true (ref19_Assign n (IntKind.wrap .i64 ((2 : Int) + r1)) r2 (262144 : Int) (fun r0 r1 r2 => some (r0, r1, r2))) ([], 0, 0) fun r4 =>
  bif (r3.2.2 != (0 : Int)) then
    gb true (law20_awake n  some) false fun r5 =>
    k0 (bif (bif r5 then (r3.2.2 == (6 : Int)) else false) then (r4.2.2 == (0 : Int)) else false)
  else
    gb (!(bif (r4.2.2 != (14 : Int)) then true else (((List.length r3.1 : Nat) : Int) == (0 : Int)))) (ref17_Ascending n r3.1 (IntKind.wrap .i64 (((List.length r2 : Nat) : Int) - (1 : Int))) some) false fun r6 =>
    bif (bif (bif (r4.2.2 != (14 : Int)) then true else (((List.length r3.1 : Nat) : Int) == (0 : Int))) then true else (!r6)) then
      k0 false
    else
      gb true (law20_pick n r2 r3.1 some) [] fun r7 =>
      gb true (ref19_Assign n (IntKind.wrap .i64 ((2 : Int) + r1)) r7 (262144 : Int) (fun r0 r1 r2 => some (r0, r1, r2))) ([], 0, 0) fun r8 =>
      gb true (keep_Pick n a2 ((List.length r3.1 : Nat) : Int) some) 0 fun r9 =>
      gb true (ref17_Without n r3.1 r9 some) [] fun r10 =>
      gb true (law20_pick n r2 r10 some) [] fun r11 =>
      gb true (ref19_Assign n (IntKind.wrap .i64 ((2 : Int) + r1)) r11 (262144 : Int) (fun r0 r1 r2 => some (r0, r1, r2))) ([], 0, 0) fun r12 =>
      gb true (law20_awake n  some) false fun r13 =>
      k0 (bif (bif r13 then (r8.2.2 == (14 : Int)) else false) then (r12.2.2 == (0 : Int)) else false)
def law20_PlatformExplains {R : Type} (n : Nat) (a0 : Int) (a1 : List (List D)) (a2 : Int) (K : Bool → Option R) : Option R :=
  law20_PlatformExplains_p1 n a0 a1 a2
    (fun z14 => K z14)
end Go.Vx
/-
  law20_PlatformTooMany: the pure function
-/
set_option linter.unusedVariables false
namespace Go.Vx
def law20_PlatformTooMany_p1 {R : Type} (n : Nat) (a0 : Int) (a1 : List (List D)) (a2 : Int) (k0 : Option R) : Option R :=
  k0
def law20_PlatformTooMany_p2 {R : Type} (n : Nat) (a0 : Int) (a1 : List (List D)) (a2 : Int) (k0 : Int → Option R) : Option R :=
  gb true (keep_Pick n a0 (30 : Int) some) 0 fun r1 =>
  k0 (IntKind.wrap .i64 ((2 : Int) + r1))
def law20_PlatformTooMany_p3 {R : Type} (n : Nat) (w3 : Int) (a1 : List (List D)) (a2 : Int) (k0 : (List (List D)) → Option R) : Option R :=
  gb true (law20_visits n w3 a1 some) [] fun r4 =>
  k0 r4
def law20_PlatformTooMany_p4 {R : Type} (n : Nat) (w3 : Int) (a2 : Int) (w5 : List (List D)) (k0 : Int → Option R) : Option R :=
  gb true (keep_Pick n a2 w3 some) 0 fun r6 =>
  k0 r6
def law20_PlatformTooMany_p5 {R : Type} (n : Nat) (w3 : Int) (w5 : List (List D)) (w7 : Int) (k0 : (List (List D)) → Option R) : Option R :=
  gb true (lenIs [[D.bool false], [D.bool false], [D.bool false], [D.bool false]] 4) () fun u8 =>
  k0 [[D.bool false], [D.bool false], [D.bool false], [D.bool false]]
def law20_PlatformTooMany_p6 {R : Type} (n : Nat) (w3 : Int) (w5 : List (List D)) (w7 : Int) (w10 : List (List D)) (k0 : Int → Option R) : Option R :=
  k0 ((List.length w5 : Nat) : Int)
def law20_PlatformTooMany_p7 {R : Type} (n : Nat) (w3 : Int) (w5 : List (List D)) (w7 : Int) (h16 : Int) (w12 : Int) (h18 : Int) (h19 : List (List D)) (k0 : Bool → Option R) : Option R :=
  k0 (decide (h18 < w12))
def law20_PlatformTooMany_p8 {R : Type} (n : Nat) (w3 : Int) (w5 : List (List D)) (w7 : Int) (h16 : Int) (w12 : Int) (h18 : Int) (w125 : Bool) (h19 : List (List D)) (k0 : Option R) (k1 : Option R) : Option R :=
  bif w125 then
    k0
  else
    k1
def law20_PlatformTooMany_p9 {R : Type} (n : Nat) (w3 : Int) (w5 : List (List D)) (w7 : Int) (h16 : Int) (w12 : Int) (h18 : Int) (w125 : Bool) (h19 : List (List D)) (k0 : Option R) : Option R :=
  k0
def law20_PlatformTooMany_p10 {R : Type} (n : Nat) (w3 : Int) (w5 : List (List D)) (w7 : Int) (h16 : Int) (h18 : Int) (w12 : Int) (h19 : List (List D)) (k0 : Bool → Option R) : Option R :=
  gb true (rowAt w5 h18) [] fun r126 =>
  gb true (r126[0]?) (.bool false) fun c127 =>
  gb true (pInt .i64 c127) 0 fun i128 =>
  gb true (ref1_Mod n (IntKind.wrap .i64 (w7 - i128)) w3 some) 0 fun r129 =>
  gb true (rowAt w5 h18) [] fun r130 =>
  gb true (r130[1]?) (.bool false) fun c131 =>
  gb true (pInt .i64 c131) 0 fun i132 =>
  k0 (decide (r129 < i132))
def law20_PlatformTooMany_p11 {R : Type} (n : Nat) (w3 : Int) (w5 : List (List D)) (w7 : Int) (h16 : Int) (h18 : Int) (w12 : Int) (w134 : Bool) (h19 : List (List D)) (k0 : Int → Option R) : Option R :=
  k0 (IntKind.wrap .i64 (h16 + (1 : Int)))
def law20_PlatformTooMany_p12 {R : Type} (n : Nat) (w3 : Int) (w5 : List (List D)) (w7 : Int) (w136 : Int) (h18 : Int) (w12 : Int) (h19 : List (List D)) (k0 : Int → Option R) : Option R :=
  gb true (rowAt w5 h18) [] fun r137 =>
  gb true (r137[2]?) (.bool false) fun c138 =>
  gb true (pSl 1 c138) [] fun l139 =>
  k0 ((List.length l139 : Nat) : Int)
def law20_PlatformTooMany_p13 {R : Type} (n : Nat) (w3 : Int) (w5 : List (List D)) (w7 : Int) (w136 : Int) (h18 : Int) (w12 : Int) (w141 : Int) (h150 : Int) (h151 : List (List D)) (k0 : Int → (List (List D)) → Option R) (k1 : Bool → Option R) : Option R :=
  bif (decide (h150 < w141)) then
    gb true (rowAt w5 h18) [] fun r163 =>
    gb true (r163[2]?) (.bool false) fun c164 =>
    gb true (pSl 1 c164) [] fun l165 =>
    gb true (rowAt l165 h150) [] fun r166 =>
    gb true (r166[0]?) (.bool false) fun c167 =>
    gb true (pInt .i64 c167) 0 fun i168 =>
    gb true (inB 4 i168) () fun u169 =>
    gb true (h151[(Int.toNat i168)]?) [] fun r170 =>
    k0 (IntKind.wrap .i64 (h150 + (1 : Int))) (List.set h151 (Int.toNat i168) (List.set r170 0 (D.bool true)))
  else
    k1 (decide (h150 < w141))
def law20_PlatformTooMany_r14 {R : Type} (n : Nat) (w3 : Int) (w5 : List (List D)) (w7 : Int) (w136 : Int) (h18 : Int) (w12 : Int) (w141 : Int) (k0 : Int → Bool → (List (List D)) → Option R) : Nat → Int → (List (List D)) → Option R
  | 0, _, _ => none
  | m + 1, h150, h151 =>
    law20_PlatformTooMany_p13 n w3 w5 w7 w136 h18 w12 w141 h150 h151
      (fun w174 w175 =>
      law20_PlatformTooMany_r14 n w3 w5 w7 w136 h18 w12 w141 k0 m w174 w175)
      (fun w176 =>
      k0 h150 w176 h151)
def law20_PlatformTooMany_p14 {R : Type} (n : Nat) (w3 : Int) (w5 : List (List D)) (w7 : Int) (w136 : Int) (h18 : Int) (w12 : Int) (w141 : Int) (h19 : List (List D)) (k0 : Int → Bool → (List (List D)) → Option R) : Option R := law20_PlatformTooMany_r14 n w3 w5 w7 w136 h18 w12 w141 k0 n (0 : Int) h19
def law20_PlatformTooMany_p15 {R : Type} (n : Nat) (w3 : Int) (w5 : List (List D)) (w7 : Int) (w136 : Int) (h18 : Int) (w12 : Int) (w141 : Int) (h19 : List (List D)) (k0 : Int → Bool → (List (List D)) → Option R) : Option R :=
  law20_PlatformTooMany_p14 n w3 w5 w7 w136 h18 w12 w141 h19
    (fun w177 w178 w179 =>
    k0 w177 w178 w179)
def law20_PlatformTooMany_p16 {R : Type} (n : Nat) (w3 : Int) (w5 : List (List D)) (w7 : Int) (w136 : Int) (h18 : Int) (w12 : Int) (h19 : List (List D)) (k0 : Int → Int → Bool → (List (List D)) → Option R) : Option R :=
  law20_PlatformTooMany_p12 n w3 w5 w7 w136 h18 w12 h19
    (fun w141 =>
    law20_PlatformTooMany_p15 n w3 w5 w7 w136 h18 w12 w141 h19
      (fun w180 w181 w182 =>
      k0 w141 w180 w181 w182))
def law20_PlatformTooMany_p17 {R : Type} (n : Nat) (w3 : Int) (w5 : List (List D)) (w7 : Int) (h16 : Int) (h18 : Int) (w12 : Int) (w134 : Bool) (h19 : List (List D)) (k0 : Int → Int → Int → Bool → (List (List D)) → Option R) : Option R :=
  law20_PlatformTooMany_p11 n w3 w5 w7 h16 h18 w12 w134 h19
    (fun w136 =>
    law20_PlatformTooMany_p16 n w3 w5 w7 w136 h18 w12 h19
      (fun w183 w184 w185 w186 =>
      k0 w136 w183 w184 w185 w186))
def law20_PlatformTooMany_p18 {R : Type} (n : Nat) (w3 : Int) (w5 : List (List D)) (w7 : Int) (h16 : Int) (h18 : Int) (w12 : Int) (w134 : Bool) (h19 : List (List D)) (k0 : Option R) : Option R :=
  k0
def law20_PlatformTooMany_p19 {R : Type} (n : Nat) (w3 : Int) (w5 : List (List D)) (w7 : Int) (h16 : Int) (h18 : Int) (w12 : Int) (w134 : Bool) (h19 : List (List D)) (k0 : Int → Int → Int → Bool → (List (List D)) → Option R) (k1 : Option R) : Option R :=
  bif w134 then
    law20_PlatformTooMany_p17 n w3 w5 w7 h16 h18 w12 w134 h19
      (fun w187 w188 w189 w190 w191 =>
      k0 w187 w188 w189 w190 w191)
  else
    law20_PlatformTooMany_p18 n w3 w5 w7 h16 h18 w12 w134 h19
      (k1)
def law20_PlatformTooMany_p20 {R : Type} (n : Nat) (w3 : Int) (w5 : List (List D)) (w7 : Int) (h16 : Int) (h18 : Int) (w12 : Int) (h19 : List (List D)) (k0 : Int → Int → Int → Bool → (List (List D)) → Option R) (k1 : Bool → Option R) : Option R :=
  law20_PlatformTooMany_p10 n w3 w5 w7 h16 h18 w12 h19
    (fun w134 =>
    law20_PlatformTooMany_p19 n w3 w5 w7 h16 h18 w12 w134 h19
      (fun w192 w193 w194 w195 w196 =>
      k0 w192 w193 w194 w195 w196)
      (k1 w134))
def law20_PlatformTooMany_p21 {R : Type} (n : Nat) (w3 : Int) (w5 : List (List D)) (w7 : Int) (h16 : Int) (w12 : Int) (h18 : Int) (w125 : Bool) (h19 : List (List D)) (k0 : Int → Int → Int → Bool → (List (List D)) → Option R) (k1 : Bool → Option R) : Option R :=
  law20_PlatformTooMany_p9 n w3 w5 w7 h16 w12 h18 w125 h19
    (law20_PlatformTooMany_p20 n w3 w5 w7 h16 h18 w12 h19
      (fun w197 w198 w199 w200 w201 =>
      k0 w197 w198 w199 w200 w201)
      (fun w202 =>
      k1 w202))
def law20_PlatformTooMany_p22 {R : Type} (n : Nat) (w3 : Int) (w5 : List (List D)) (w7 : Int) (h16 : Int) (w12 : Int) (h18 : Int) (w125 : Bool) (h19 : List (List D)) (k0 : Int → Int → Int → Bool → (List (List D)) → Option R) (k1 : Bool → Option R) : Option R :=
  law20_PlatformTooMany_p21 n w3 w5 w7 h16 w12 h18 w125 h19
    (fun w203 w204 w205 w206 w207 =>
    k0 w203 w204 w205 w206 w207)
    (fun w208 =>
    k1 w208)
def law20_PlatformTooMany_p23 {R : Type} (n : Nat) (w3 : Int) (w5 : List (List D)) (w7 : Int) (w209 : Int) (h18 : Int) (w12 : Int) (w210 : Int) (w211 : Int) (w212 : Bool) (w213 : List (List D)) (k0 : Int → Option R) : Option R :=
  k0 (IntKind.wrap .i64 (h18 + (1 : Int)))
def law20_PlatformTooMany_p24 {R : Type} (n : Nat) (w3 : Int) (w5 : List (List D)) (w7 : Int) (h16 : Int) (h18 : Int) (w12 : Int) (w216 : Bool) (h19 : List (List D)) (k0 : Int → Option R) : Option R :=
  k0 (IntKind.wrap .i64 (h18 + (1 : Int)))
def law20_PlatformTooMany_p25 {R : Type} (n : Nat) (w3 : Int) (w5 : List (List D)) (w7 : Int) (h16 : Int) (w12 : Int) (h18 : Int) (w125 : Bool) (h19 : List (List D)) (k0 : Int → Int → (List (List D)) → Option R) : Option R :=
  law20_PlatformTooMany_p22 n w3 w5 w7 h16 w12 h18 w125 h19
    (fun w209 w210 w211 w212 w213 =>
    law20_PlatformTooMany_p23 n w3 w5 w7 w209 h18 w12 w210 w211 w212 w213
      (fun w215 =>
      k0 w209 w215 w213))
    (fun w216 =>
    law20_PlatformTooMany_p24 n w3 w5 w7 h16 h18 w12 w216 h19
      (fun w218 =>
      k0 h16 w218 h19))
def law20_PlatformTooMany_p26 {R : Type} (n : Nat) (w3 : Int) (w5 : List (List D)) (w7 : Int) (h16 : Int) (w12 : Int) (h18 : Int) (w125 : Bool) (h19 : List (List D)) (k0 : Int → Int → (List (List D)) → Option R) (k1 : Option R) : Option R :=
  law20_PlatformTooMany_p8 n w3 w5 w7 h16 w12 h18 w125 h19
    (law20_PlatformTooMany_p25 n w3 w5 w7 h16 w12 h18 w125 h19
      (fun w222 w223 w224 =>
      k0 w222 w223 w224))
    (k1)
def law20_PlatformTooMany_p27 {R : Type} (n : Nat) (w3 : Int) (w5 : List (List D)) (w7 : Int) (h16 : Int) (w12 : Int) (h18 : Int) (h19 : List (List D)) (k0 : Int → Int → (List (List D)) → Option R) (k1 : Bool → Option R) : Option R :=
  law20_PlatformTooMany_p7 n w3 w5 w7 h16 w12 h18 h19
    (fun w125 =>
    law20_PlatformTooMany_p26 n w3 w5 w7 h16 w12 h18 w125 h19
      (fun w225 w226 w227 =>
      k0 w225 w226 w227)
      (k1 w125))
def law20_PlatformTooMany_r28 {R : Type} (n : Nat) (w3 : Int) (w5 : List (List D)) (w7 : Int) (w12 : Int) (k0 : Int → Int → Bool → (List (List D)) → Option R) : Nat → Int → Int → (List (List D)) → Option R
  | 0, _, _, _ => none
  | m + 1, h16, h18, h19 =>
    law20_PlatformTooMany_p27 n w3 w5 w7 h16 w12 h18 h19
      (fun w228 w229 w230 =>
      law20_PlatformTooMany_r28 n w3 w5 w7 w12 k0 m w228 w229 w230)
      (fun w231 =>
      k0 h16 h18 w231 h19)
def law20_PlatformTooMany_p28 {R : Type} (n : Nat) (w3 : Int) (w5 : List (List D)) (w7 : Int) (w12 : Int) (w10 : List (List D)) (k0 : Int → Int → Bool → (List (List D)) → Option R) : Option R := law20_PlatformTooMany_r28 n w3 w5 w7 w12 k0 n (0 : Int) (0 : Int) w10
def law20_PlatformTooMany_p29 {R : Type} (n : Nat) (w3 : Int) (w5 : List (List D)) (w7 : Int) (w12 : Int) (w10 : List (List D)) (k0 : Int → Int → Bool → (List (List D)) → Option R) : Option R :=
  law20_PlatformTooMany_p28 n w3 w5 w7 w12 w10
    (fun w232 w233 w234 w235 =>
    k0 w232 w233 w234 w235)
def law20_PlatformTooMany_p30 {R : Type} (n : Nat) (w3 : Int) (w5 : List (List D)) (w7 : Int) (w10 : List (List D)) (k0 : Int → Int → Int → Bool → (List (List D)) → Option R) : Option R :=
  law20_PlatformTooMany_p6 n w3 w5 w7 w10
    (fun w12 =>
    law20_PlatformTooMany_p29 n w3 w5 w7 w12 w10
      (fun w236 w237 w238 w239 =>
      k0 w236 w12 w237 w238 w239))
def law20_PlatformTooMany_p31 {R : Type} (n : Nat) (w3 : Int) (w5 : List (List D)) (w7 : Int) (w240 : Int) (w241 : Int) (w242 : Int) (w243 : Bool) (w244 : List (List D)) (k0 : Option R) : Option R :=
  k0
def law20_PlatformTooMany_p32 {R : Type} (n : Nat) (w3 : Int) (w5 : List (List D)) (w240 : Int) (w244 : List (List D)) (k0 : Option R) : Option R :=
  k0
def law20_PlatformTooMany_p33 {R : Type} (n : Nat) (w3 : Int) (w5 : List (List D)) (w240 : Int) (h248 : Int) (h249 : Int) (w244 : List (List D)) (k0 : Int → Int → Option R) (k1 : Bool → Option R) : Option R :=
  bif (decide (h249 < (4 : Int))) then
    gb true (inB 4 h249) () fun u258 =>
    gb true (w244[(Int.toNat h249)]?) [] fun r259 =>
    gb true (r259[0]?) (.bool false) fun c260 =>
    gb true (pBool c260) false fun b261 =>
    bif b261 then
      k0 (IntKind.wrap .i64 (h248 + (1 : Int))) (IntKind.wrap .i64 (h249 + (1 : Int)))
    else
      k0 h248 (IntKind.wrap .i64 (h249 + (1 : Int)))
  else
    k1 (decide (h249 < (4 : Int)))
def law20_PlatformTooMany_r34 {R : Type} (n : Nat) (w3 : Int) (w5 : List (List D)) (w240 : Int) (w244 : List (List D)) (k0 : Int → Int → Bool → Option R) : Nat → Int → Int → Option R
  | 0, _, _ => none
  | m + 1, h248, h249 =>
    law20_PlatformTooMany_p33 n w3 w5 w240 h248 h249 w244
      (fun w265 w266 =>
      law20_PlatformTooMany_r34 n w3 w5 w240 w244 k0 m w265 w266)
      (fun w267 =>
      k0 h248 h249 w267)
def law20_PlatformTooMany_p34 {R : Type} (n : Nat) (w3 : Int) (w5 : List (List D)) (w240 : Int) (w244 : List (List D)) (k0 : Int → Int → Bool → Option R) : Option R := law20_PlatformTooMany_r34 n w3 w5 w240 w244 k0 n (0 : Int) (0 : Int)
def law20_PlatformTooMany_p35 {R : Type} (n : Nat) (w3 : Int) (w5 : List (List D)) (w240 : Int) (w244 : List (List D)) (k0 : Int → Int → Bool → Option R) : Option R :=
  law20_PlatformTooMany_p34 n w3 w5 w240 w244
    (fun w268 w269 w270 =>
    k0 w268 w269 w270)
def law20_PlatformTooMany_p36 {R : Type} (n : Nat) (w3 : Int) (w5 : List (List D)) (w240 : Int) (w244 : List (List D)) (k0 : Int → Int → Bool → Option R) : Option R :=
  law20_PlatformTooMany_p32 n w3 w5 w240 w244
    (law20_PlatformTooMany_p35 n w3 w5 w240 w244
      (fun w271 w272 w273 =>
      k0 w271 w272 w273))
def law20_PlatformTooMany_p37 {R : Type} (n : Nat) (w3 : Int) (w5 : List (List D)) (w240 : Int) (w274 : Int) (w275 : Int) (w276 : Bool) (w244 : List (List D)) (k0 : Bool → Option R) : Option R :=
  gb true (platform_Assign n w3 w5 (262144 : Int) (fun r0 r1 r2 => some (r0, r1, r2))) ([], 0, 0) fun r277 =>
  gb true (law20_awake n  some) false fun r278 =>
  k0 (bif r278 then (bif (decide (w240 ≤ w274)) then true else (r277.2.2 == (14 : Int))) else false)
def law20_PlatformTooMany_p38 {R : Type} (n : Nat) (w3 : Int) (w5 : List (List D)) (w240 : Int) (w244 : List (List D)) (k0 : Bool → Option R) : Option R :=
  law20_PlatformTooMany_p36 n w3 w5 w240 w244
    (fun w274 w275 w276 =>
    law20_PlatformTooMany_p37 n w3 w5 w240 w274 w275 w276 w244
      (fun w280 =>
      k0 w280))
def law20_PlatformTooMany_p39 {R : Type} (n : Nat) (w3 : Int) (w5 : List (List D)) (w7 : Int) (w240 : Int) (w241 : Int) (w242 : Int) (w243 : Bool) (w244 : List (List D)) (k0 : Bool → Option R) : Option R :=
  law20_PlatformTooMany_p31 n w3 w5 w7 w240 w241 w242 w243 w244
    (law20_PlatformTooMany_p38 n w3 w5 w240 w244
      (fun w281 =>
      k0 w281))
def law20_PlatformTooMany_p40 {R : Type} (n : Nat) (w3 : Int) (w5 : List (List D)) (w7 : Int) (w10 : List (List D)) (k0 : Bool → Option R) : Option R :=
  law20_PlatformTooMany_p30 n w3 w5 w7 w10
    (fun w240 w241 w242 w243 w244 =>
    law20_PlatformTooMany_p39 n w3 w5 w7 w240 w241 w242 w243 w244
      (fun w282 =>
      k0 w282))
def law20_PlatformTooMany_p41 {R : Type} (n : Nat) (w3 : Int) (w5 : List (List D)) (w7 : Int) (k0 : Bool → Option R) : Option R :=
  law20_PlatformTooMany_p5 n w3 w5 w7
    (fun w10 =>
    law20_PlatformTooMany_p40 n w3 w5 w7 w10
      (fun w283 =>
      k0 w283))
def law20_PlatformTooMany_p42 {R : Type} (n : Nat) (w3 : Int) (a2 : Int) (w5 : List (List D)) (k0 : Bool → Option R) : Option R :=
  law20_PlatformTooMany_p4 n w3 a2 w5
    (fun w7 =>
    law20_PlatformTooMany_p41 n w3 w5 w7
      (fun w284 =>
      k0 w284))
def law20_PlatformTooMany_p43 {R : Type} (n : Nat) (w3 : Int) (a1 : List (List D)) (a2 : Int) (k0 : Bool → Option R) : Option R :=
  law20_PlatformTooMany_p3 n w3 a1 a2
    (fun w5 =>
    law20_PlatformTooMany_p42 n w3 a2 w5
      (fun w285 =>
      k0 w285))
def law20_PlatformTooMany_p44 {R : Type} (n : Nat) (a0 : Int) (a1 : List (List D)) (a2 : Int) (k0 : Bool → Option R) : Option R :=
  law20_PlatformTooMany_p2 n a0 a1 a2
    (fun w3 =>
    law20_PlatformTooMany_p43 n w3 a1 a2
      (fun w286 =>
      k0 w286))
def law20_PlatformTooMany_p45 {R : Type} (n : Nat) (a0 : Int) (a1 : List (List D)) (a2 : Int) (k0 : Bool → Option R) : Option R :=
  law20_PlatformTooMany_p1 n a0 a1 a2
    (law20_PlatformTooMany_p44 n a0 a1 a2
      (fun w287 =>
      k0 w287))
def law20_PlatformTooMany {R : Type} (n : Nat) (a0 : Int) (a1 : List (List D)) (a2 : Int) (K : Bool → Option R) : Option R :=
  law20_PlatformTooMany_p45 n a0 a1 a2
    (fun w287 => K w287)
end Go.Vx
