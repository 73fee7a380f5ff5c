/- Part of a proof: texts Vfkeep Pick Vfkeep Source Next Vfarith Mod Vfref1 Mod Vfkeep From Vflaw19 some Vfoccupancy Valid Vfarith CeilDiv Vfarith FloorDiv Vfoccupancy conflict VisPre Vfrailplan occupancy F. No conditions of their own. -/
import Derived.Test.YtnhpkkecnfooaaaQVA
import Derived.Test.YtnhpkkecnfooaaaQVC
/-
  keep_Pick: the pure function
-/
set_option linter.unusedVariables false
namespace Go.Vx
def keep_Pick_p1 {R : Type} (n : Nat) (a0 : Int) (a1 : Int) (k0 : Int → Option R) : Option R :=
  gb true (nz (IntKind.wrap .u64 a1)) () fun u1 =>
  k0 (IntKind.wrap .i64 (Int.tmod (IntKind.wrap .u64 a0) (IntKind.wrap .u64 a1)))
def keep_Pick {R : Type} (n : Nat) (a0 : Int) (a1 : Int) (K : Int → Option R) : Option R :=
  keep_Pick_p1 n a0 a1
    (fun z2 => K z2)
end Go.Vx
/-
  keep_Source_Next: the pure function
-/
set_option linter.unusedVariables false
namespace Go.Vx
def keep_Source_Next_p1 {R : Type} (n : Nat) (a1 : Int) (a0_0 : List (List D)) (a0_1 : Int) (k0 : Int → Int → Option R) : Option R :=
  bif (decide (a0_1 ≥ ((List.length a0_0 : Nat) : Int))) then
    k0 (0 : Int) a0_1
  else
    gb true (rowAt a0_0 (IntKind.wrap .i64 ((IntKind.wrap .i64 (a0_1 + (1 : Int))) - (1 : Int)))) [] fun r1 =>
    gb true (r1[0]?) (.bool false) fun c2 =>
    gb true (pInt .i64 c2) 0 fun i3 =>
    gb true (keep_Pick n i3 a1 some) 0 fun r4 =>
    k0 r4 (IntKind.wrap .i64 (a0_1 + (1 : Int)))
def keep_Source_Next {R : Type} (n : Nat) (a0_0 : List (List D)) (a0_1 : Int) (a1 : Int) (K : Int → (List (List D)) → Int → Option R) : Option R :=
  keep_Source_Next_p1 n a1 a0_0 a0_1
    (fun z5 z6 => K z5 a0_0 z6)
end Go.Vx
/-
  arith_Mod: the pure function
-/
set_option linter.unusedVariables false
namespace Go.Vx
def arith_Mod_p1 {R : Type} (n : Nat) (a0 : Int) (a1 : Int) (k0 : Int → Option R) : Option R :=
  bif (decide (a1 < (1 : Int))) then
    k0 (0 : Int)
  else
    gb true (nz a1) () fun u1 =>
    bif (decide ((Int.tmod a0 a1) < (0 : Int))) then
      k0 (IntKind.wrap .i64 ((Int.tmod a0 a1) + a1))
    else
      k0 (Int.tmod a0 a1)
def arith_Mod {R : Type} (n : Nat) (a0 : Int) (a1 : Int) (K : Int → Option R) : Option R :=
  arith_Mod_p1 n a0 a1
    (fun z2 => K z2)
end Go.Vx
/-
  ref1_Mod: the pure function
-/
set_option linter.unusedVariables false
namespace Go.Vx
def ref1_Mod_p1 {R : Type} (n : Nat) (a0 : Int) (a1 : Int) (k0 : Int → Option R) : Option R :=
  bif (decide (a1 < (1 : Int))) then
    k0 (0 : Int)
  else
    gb true (nz a1) () fun u1 =>
    bif (decide ((Int.tmod a0 a1) < (0 : Int))) then
      k0 (IntKind.wrap .i64 ((Int.tmod a0 a1) + a1))
    else
      k0 (Int.tmod a0 a1)
def ref1_Mod {R : Type} (n : Nat) (a0 : Int) (a1 : Int) (K : Int → Option R) : Option R :=
  ref1_Mod_p1 n a0 a1
    (fun z2 => K z2)
end Go.Vx
/-
  keep_From: the pure function
-/
set_option linter.unusedVariables false
namespace Go.Vx
def keep_From_p1 {R : Type} (n : Nat) (a0 : List (List D)) (k0 : Option R) : Option R :=
  k0
def keep_From {R : Type} (n : Nat) (a0 : List (List D)) (K : (List (List D)) → Int → Option R) : Option R :=
  keep_From_p1 n a0
    (K a0 (0 : Int))
end Go.Vx
/-
  law19_some: the pure function
-/
set_option linter.unusedVariables false
namespace Go.Vx
def law19_some_p1 {R : Type} (n : Nat) (a0 : List (List D)) (k0 : Option R) : Option R :=
  k0
def law19_some_p2 {R : Type} (n : Nat) (a0 : List (List D)) (k0 : (List (List D)) → Int → Option R) : Option R :=
  gb true (keep_From n a0 (fun r0 r1 => some (r0, r1))) ([], 0) fun r1 =>
  k0 r1.1 r1.2
def law19_some_p3 {R : Type} (n : Nat) (w4 : List (List D)) (w5 : Int) (k0 : Option R) : Option R :=
  k0
def law19_some_p4 {R : Type} (n : Nat) (w4 : List (List D)) (w5 : Int) (k0 : Int → (List (List D)) → Int → Option R) : Option R :=
  gb true (keep_Source_Next n w4 w5 (8 : Int) (fun r0 r1 r2 => some (r0, r1, r2))) (0, [], 0) fun r6 =>
  k0 r6.1 r6.2.1 r6.2.2
def law19_some_p5 {R : Type} (n : Nat) (h13 : Int) (h14 : List (List D)) (h15 : List (List D)) (h16 : Int) (k0 : Int → (List (List D)) → (List (List D)) → Int → Option R) (k1 : Bool → Option R) : Option R :=
  bif (decide (h13 > (0 : Int))) then
    gb true (keep_Source_Next n h15 h16 (3 : Int) (fun r0 r1 r2 => some (r0, r1, r2))) (0, [], 0) fun r17 =>
    gb true (keep_Source_Next n r17.2.1 r17.2.2 (3 : Int) (fun r0 r1 r2 => some (r0, r1, r2))) (0, [], 0) fun r18 =>
    gb true (keep_Source_Next n r18.2.1 r18.2.2 (60 : Int) (fun r0 r1 r2 => some (r0, r1, r2))) (0, [], 0) fun r19 =>
    gb true (keep_Source_Next n r19.2.1 r19.2.2 (14 : Int) (fun r0 r1 r2 => some (r0, r1, r2))) (0, [], 0) fun r20 =>
    gb true (keep_Source_Next n r20.2.1 r20.2.2 (4 : Int) (fun r0 r1 r2 => some (r0, r1, r2))) (0, [], 0) fun r21 =>
    gb true (room ((List.length h14 + List.length [[D.int .i64 r17.1, D.int .i64 r18.1, D.int .i64 (IntKind.wrap .i64 (r19.1 - (20 : Int))), D.int .i64 (IntKind.wrap .i64 ((1 : Int) + r20.1)), D.int .i64 r21.1]]) * 40)) () fun u22 =>
    k0 (IntKind.wrap .i64 (h13 - (1 : Int))) (h14 ++ [[D.int .i64 r17.1, D.int .i64 r18.1, D.int .i64 (IntKind.wrap .i64 (r19.1 - (20 : Int))), D.int .i64 (IntKind.wrap .i64 ((1 : Int) + r20.1)), D.int .i64 r21.1]]) r21.2.1 r21.2.2
  else
    k1 (decide (h13 > (0 : Int)))
def law19_some_r6 {R : Type} (n : Nat)  (k0 : Int → Bool → (List (List D)) → (List (List D)) → Int → Option R) : Nat → Int → (List (List D)) → (List (List D)) → Int → Option R
  | 0, _, _, _, _ => none
  | m + 1, h13, h14, h15, h16 =>
    law19_some_p5 n h13 h14 h15 h16
      (fun w28 w29 w30 w31 =>
      law19_some_r6 n  k0 m w28 w29 w30 w31)
      (fun w32 =>
      k0 h13 w32 h14 h15 h16)
def law19_some_p6 {R : Type} (n : Nat) (w10 : Int) (w11 : List (List D)) (w12 : Int) (k0 : Int → Bool → (List (List D)) → (List (List D)) → Int → Option R) : Option R := law19_some_r6 n  k0 n w10 [] w11 w12
def law19_some_p7 {R : Type} (n : Nat) (w10 : Int) (w11 : List (List D)) (w12 : Int) (k0 : Int → Bool → (List (List D)) → (List (List D)) → Int → Option R) : Option R :=
  law19_some_p6 n w10 w11 w12
    (fun w33 w34 w35 w36 w37 =>
    k0 w33 w34 w35 w36 w37)
def law19_some_p8 {R : Type} (n : Nat) (w4 : List (List D)) (w5 : Int) (k0 : Int → Bool → (List (List D)) → (List (List D)) → Int → Option R) : Option R :=
  law19_some_p4 n w4 w5
    (fun w10 w11 w12 =>
    law19_some_p7 n w10 w11 w12
      (fun w38 w39 w40 w41 w42 =>
      k0 w38 w39 w40 w41 w42))
def law19_some_p9 {R : Type} (n : Nat) (w43 : Int) (w44 : Bool) (w45 : List (List D)) (w46 : List (List D)) (w47 : Int) (k0 : Option R) : Option R :=
  k0
def law19_some_p10 {R : Type} (n : Nat) (w4 : List (List D)) (w5 : Int) (k0 : (List (List D)) → Option R) : Option R :=
  law19_some_p8 n w4 w5
    (fun w43 w44 w45 w46 w47 =>
    law19_some_p9 n w43 w44 w45 w46 w47
      (k0 w45))
def law19_some_p11 {R : Type} (n : Nat) (w4 : List (List D)) (w5 : Int) (k0 : (List (List D)) → Option R) : Option R :=
  law19_some_p3 n w4 w5
    (law19_some_p10 n w4 w5
      (fun w48 =>
      k0 w48))
def law19_some_p12 {R : Type} (n : Nat) (a0 : List (List D)) (k0 : (List (List D)) → Option R) : Option R :=
  law19_some_p2 n a0
    (fun w4 w5 =>
    law19_some_p11 n w4 w5
      (fun w49 =>
      k0 w49))
def law19_some_p13 {R : Type} (n : Nat) (a0 : List (List D)) (k0 : (List (List D)) → Option R) : Option R :=
  law19_some_p1 n a0
    (law19_some_p12 n a0
      (fun w50 =>
      k0 w50))
def law19_some {R : Type} (n : Nat) (a0 : List (List D)) (K : (List (List D)) → Option R) : Option R :=
  law19_some_p13 n a0
    (fun w50 => K w50)
end Go.Vx
/-
  occupancy_Valid: the pure function
-/
set_option linter.unusedVariables false
namespace Go.Vx
def occupancy_Valid_p1 {R : Type} (n : Nat) (a0 : Int) (a1 : List (List D)) (k0 : Option R) : Option R :=
  k0
def occupancy_Valid_p2 {R : Type} (n : Nat) (a0 : Int) (a1 : List (List D)) (k0 : Option R) (k1 : Bool → Option R) : Option R :=
  bif (bif (decide (a0 < (2 : Int))) then true else (decide (a0 > (7200 : Int)))) then
    k0
  else
    k1 (bif (decide (a0 < (2 : Int))) then true else (decide (a0 > (7200 : Int))))
def occupancy_Valid_p3 {R : Type} (n : Nat) (a1 : List (List D)) (w2 : Bool) (k0 : Int → Option R) : Option R :=
  k0 ((List.length a1 : Nat) : Int)
def occupancy_Valid_p4 {R : Type} (n : Nat) (a1 : List (List D)) (w4 : Int) (h7 : Int) (k0 : Option R) (k1 : Int → Option R) (k2 : Bool → Option R) : Option R :=
  bif (decide (h7 < w4)) then
    gb true (rowAt a1 h7) [] fun r24 =>
    gb true (r24[0]?) (.bool false) fun c25 =>
    gb true (r24[1]?) (.bool false) fun c26 =>
    gb true (r24[2]?) (.bool false) fun c27 =>
    gb true (r24[3]?) (.bool false) fun c28 =>
    gb true (r24[4]?) (.bool false) fun c29 =>
    gb true (pInt .i64 c25) 0 fun i30 =>
    gb (!(decide (i30 < (0 : Int)))) (pInt .i64 c26) 0 fun i31 =>
    gb (!(bif (decide (i30 < (0 : Int))) then true else (decide (i31 < (0 : Int))))) (pInt .i64 c27) 0 fun i32 =>
    gb (!(bif (bif (decide (i30 < (0 : Int))) then true else (decide (i31 < (0 : Int)))) then true else (decide (i32 < (-1099511627776 : Int))))) (pInt .i64 c27) 0 fun i33 =>
    bif (bif (bif (bif (decide (i30 < (0 : Int))) then true else (decide (i31 < (0 : Int)))) then true else (decide (i32 < (-1099511627776 : Int)))) then true else (decide (i33 > (1099511627776 : Int)))) then
      k0
    else
      gb true (pInt .i64 c28) 0 fun i34 =>
      gb (!(decide (i34 < (1 : Int)))) (pInt .i64 c28) 0 fun i35 =>
      gb (!(bif (decide (i34 < (1 : Int))) then true else (decide (i35 > (1099511627776 : Int))))) (pInt .i64 c29) 0 fun i36 =>
      gb (!(bif (bif (decide (i34 < (1 : Int))) then true else (decide (i35 > (1099511627776 : Int)))) then true else (decide (i36 < (0 : Int))))) (pInt .i64 c29) 0 fun i37 =>
      bif (bif (bif (bif (decide (i34 < (1 : Int))) then true else (decide (i35 > (1099511627776 : Int)))) then true else (decide (i36 < (0 : Int)))) then true else (decide (i37 > (1099511627776 : Int)))) then
        k0
      else
        k1 (IntKind.wrap .i64 (h7 + (1 : Int)))
  else
    k2 (decide (h7 < w4))
def occupancy_Valid_r5 {R : Type} (n : Nat) (a1 : List (List D)) (w4 : Int) (k0 : Option R) (k1 : Int → Bool → Option R) : Nat → Int → Option R
  | 0, _ => none
  | m + 1, h7 =>
    occupancy_Valid_p4 n a1 w4 h7
      (k0)
      (fun w40 =>
      occupancy_Valid_r5 n a1 w4 k0 k1 m w40)
      (fun w41 =>
      k1 h7 w41)
def occupancy_Valid_p5 {R : Type} (n : Nat) (a1 : List (List D)) (w4 : Int) (k0 : Option R) (k1 : Int → Bool → Option R) : Option R := occupancy_Valid_r5 n a1 w4 k0 k1 n (0 : Int)
def occupancy_Valid_p6 {R : Type} (n : Nat) (a1 : List (List D)) (w4 : Int) (k0 : Option R) (k1 : Int → Bool → Option R) : Option R :=
  occupancy_Valid_p5 n a1 w4
    (k0)
    (fun w42 w43 =>
    k1 w42 w43)
def occupancy_Valid_p7 {R : Type} (n : Nat) (a1 : List (List D)) (w2 : Bool) (k0 : Option R) (k1 : Int → Int → Bool → Option R) : Option R :=
  occupancy_Valid_p3 n a1 w2
    (fun w4 =>
    occupancy_Valid_p6 n a1 w4
      (k0)
      (fun w44 w45 =>
      k1 w4 w44 w45))
def occupancy_Valid_p8 {R : Type} (n : Nat) (a1 : List (List D)) (w46 : Int) (w47 : Int) (w48 : Bool) (k0 : Option R) : Option R :=
  k0
def occupancy_Valid_p9 {R : Type} (n : Nat) (a1 : List (List D)) (w2 : Bool) (k0 : Bool → Option R) : Option R :=
  occupancy_Valid_p7 n a1 w2
    (k0 false)
    (fun w46 w47 w48 =>
    occupancy_Valid_p8 n a1 w46 w47 w48
      (k0 true))
def occupancy_Valid_p10 {R : Type} (n : Nat) (a0 : Int) (a1 : List (List D)) (k0 : Bool → Option R) : Option R :=
  occupancy_Valid_p2 n a0 a1
    (k0 false)
    (fun w2 =>
    occupancy_Valid_p9 n a1 w2
      (fun w50 =>
      k0 w50))
def occupancy_Valid_p11 {R : Type} (n : Nat) (a0 : Int) (a1 : List (List D)) (k0 : Bool → Option R) : Option R :=
  occupancy_Valid_p1 n a0 a1
    (occupancy_Valid_p10 n a0 a1
      (fun w52 =>
      k0 w52))
def occupancy_Valid {R : Type} (n : Nat) (a0 : Int) (a1 : List (List D)) (K : Bool → Option R) : Option R :=
  occupancy_Valid_p11 n a0 a1
    (fun w52 => K w52)
end Go.Vx
/-
  arith_CeilDiv: the pure function
-/
set_option linter.unusedVariables false
namespace Go.Vx
def arith_CeilDiv_p1 {R : Type} (n : Nat) (a0 : Int) (a1 : Int) (k0 : Int → Int → Option R) : Option R :=
  bif (decide (a1 < (1 : Int))) then
    k0 (0 : Int) (1 : Int)
  else
    gb true (nz a1) () fun u1 =>
    gb true (nz a1) () fun u2 =>
    bif (decide ((Int.tmod a0 a1) > (0 : Int))) then
      k0 (IntKind.wrap .i64 ((IntKind.wrap .i64 (Int.tdiv a0 a1)) + (1 : Int))) (0 : Int)
    else
      k0 (IntKind.wrap .i64 (Int.tdiv a0 a1)) (0 : Int)
def arith_CeilDiv {R : Type} (n : Nat) (a0 : Int) (a1 : Int) (K : Int → Int → Option R) : Option R :=
  arith_CeilDiv_p1 n a0 a1
    (fun z3 z4 => K z3 z4)
end Go.Vx
/-
  arith_FloorDiv: the pure function
-/
set_option linter.unusedVariables false
namespace Go.Vx
def arith_FloorDiv_p1 {R : Type} (n : Nat) (a0 : Int) (a1 : Int) (k0 : Int → Int → Option R) : Option R :=
  bif (decide (a1 < (1 : Int))) then
    k0 (0 : Int) (1 : Int)
  else
    gb true (nz a1) () fun u1 =>
    gb true (nz a1) () fun u2 =>
    bif (decide ((Int.tmod a0 a1) < (0 : Int))) then
      k0 (IntKind.wrap .i64 ((IntKind.wrap .i64 (Int.tdiv a0 a1)) - (1 : Int))) (0 : Int)
    else
      k0 (IntKind.wrap .i64 (Int.tdiv a0 a1)) (0 : Int)
def arith_FloorDiv {R : Type} (n : Nat) (a0 : Int) (a1 : Int) (K : Int → Int → Option R) : Option R :=
  arith_FloorDiv_p1 n a0 a1
    (fun z3 z4 => K z3 z4)
end Go.Vx
/-
  occupancy_conflict: the pure function
-/
set_option linter.unusedVariables false
namespace Go.Vx
def occupancy_conflict_p1 {R : Type} (n : Nat) (a0 : Int) (a1_0 : Int) (a1_1 : Int) (a1_2 : Int) (a1_3 : Int) (a1_4 : Int) (a2_0 : Int) (a2_1 : Int) (a2_2 : Int) (a2_3 : Int) (a2_4 : Int) (k0 : Option R) : Option R :=
  k0
def occupancy_conflict_p2 {R : Type} (n : Nat) (a0 : Int) (a1_0 : Int) (a1_1 : Int) (a1_2 : Int) (a1_3 : Int) (a1_4 : Int) (a2_0 : Int) (a2_1 : Int) (a2_2 : Int) (a2_3 : Int) (a2_4 : Int) (k0 : Int → Option R) : Option R :=
  gb true (arith_CeilDiv n (IntKind.wrap .i64 ((IntKind.wrap .i64 ((IntKind.wrap .i64 (a1_2 - a2_2)) - a2_3)) + (1 : Int))) a0 (fun r0 r1 => some (r0, r1))) (0, 0) fun r1 =>
  k0 r1.1
def occupancy_conflict_p3 {R : Type} (n : Nat) (a0 : Int) (w3 : Int) (a1_0 : Int) (a1_1 : Int) (a1_2 : Int) (a1_3 : Int) (a1_4 : Int) (a2_0 : Int) (a2_1 : Int) (a2_2 : Int) (a2_3 : Int) (a2_4 : Int) (k0 : Int → Option R) : Option R :=
  gb true (arith_FloorDiv n (IntKind.wrap .i64 ((IntKind.wrap .i64 ((IntKind.wrap .i64 (a1_2 + a1_3)) - a2_2)) - (1 : Int))) a0 (fun r0 r1 => some (r0, r1))) (0, 0) fun r4 =>
  k0 r4.1
def occupancy_conflict_p4 {R : Type} (n : Nat) (w3 : Int) (w6 : Int) (a1_0 : Int) (a1_1 : Int) (a1_2 : Int) (a1_3 : Int) (a1_4 : Int) (a2_0 : Int) (a2_1 : Int) (a2_2 : Int) (a2_3 : Int) (a2_4 : Int) (k0 : Bool → Option R) (k1 : Bool → Option R) : Option R :=
  bif (decide (w3 > w6)) then
    k0 false
  else
    bif (a1_1 != a2_1) then
      k0 true
    else
      bif (a1_4 == (0 : Int)) then
        k0 (bif (decide (w3 < (0 : Int))) then true else (decide (w6 > (0 : Int))))
      else
        bif (a1_4 == (1 : Int)) then
          k0 false
        else
          k1 (a1_4 == (1 : Int))
def occupancy_conflict_p5 {R : Type} (n : Nat) (w3 : Int) (w6 : Int) (a1_0 : Int) (a1_1 : Int) (a1_2 : Int) (a1_3 : Int) (a1_4 : Int) (a2_0 : Int) (a2_1 : Int) (a2_2 : Int) (a2_3 : Int) (a2_4 : Int) (k0 : Bool → Option R) (k1 : Bool → Option R) : Option R :=
  occupancy_conflict_p4 n w3 w6 a1_0 a1_1 a1_2 a1_3 a1_4 a2_0 a2_1 a2_2 a2_3 a2_4
    (fun w9 =>
    k0 w9)
    (fun w10 =>
    k1 w10)
def occupancy_conflict_p6 {R : Type} (n : Nat) (w3 : Int) (w6 : Int) (w12 : Bool) (a1_0 : Int) (a1_1 : Int) (a1_2 : Int) (a1_3 : Int) (a1_4 : Int) (k0 : Bool → Option R) : Option R :=
  gb (!(decide (w3 < w6))) (nz a1_4) () fun u13 =>
  k0 (bif (decide (w3 < w6)) then true else ((Int.tmod w3 a1_4) != (0 : Int)))
def occupancy_conflict_p7 {R : Type} (n : Nat) (w3 : Int) (w6 : Int) (a1_0 : Int) (a1_1 : Int) (a1_2 : Int) (a1_3 : Int) (a1_4 : Int) (a2_0 : Int) (a2_1 : Int) (a2_2 : Int) (a2_3 : Int) (a2_4 : Int) (k0 : Bool → Option R) : Option R :=
  occupancy_conflict_p5 n w3 w6 a1_0 a1_1 a1_2 a1_3 a1_4 a2_0 a2_1 a2_2 a2_3 a2_4
    (fun w11 =>
    k0 w11)
    (fun w12 =>
    occupancy_conflict_p6 n w3 w6 w12 a1_0 a1_1 a1_2 a1_3 a1_4
      (fun w15 =>
      k0 w15))
def occupancy_conflict_p8 {R : Type} (n : Nat) (a0 : Int) (w3 : Int) (a1_0 : Int) (a1_1 : Int) (a1_2 : Int) (a1_3 : Int) (a1_4 : Int) (a2_0 : Int) (a2_1 : Int) (a2_2 : Int) (a2_3 : Int) (a2_4 : Int) (k0 : Bool → Option R) : Option R :=
  occupancy_conflict_p3 n a0 w3 a1_0 a1_1 a1_2 a1_3 a1_4 a2_0 a2_1 a2_2 a2_3 a2_4
    (fun w6 =>
    occupancy_conflict_p7 n w3 w6 a1_0 a1_1 a1_2 a1_3 a1_4 a2_0 a2_1 a2_2 a2_3 a2_4
      (fun w17 =>
      k0 w17))
def occupancy_conflict_p9 {R : Type} (n : Nat) (a0 : Int) (a1_0 : Int) (a1_1 : Int) (a1_2 : Int) (a1_3 : Int) (a1_4 : Int) (a2_0 : Int) (a2_1 : Int) (a2_2 : Int) (a2_3 : Int) (a2_4 : Int) (k0 : Bool → Option R) : Option R :=
  occupancy_conflict_p2 n a0 a1_0 a1_1 a1_2 a1_3 a1_4 a2_0 a2_1 a2_2 a2_3 a2_4
    (fun w3 =>
    occupancy_conflict_p8 n a0 w3 a1_0 a1_1 a1_2 a1_3 a1_4 a2_0 a2_1 a2_2 a2_3 a2_4
      (fun w18 =>
      k0 w18))
def occupancy_conflict_p10 {R : Type} (n : Nat) (a0 : Int) (a1_0 : Int) (a1_1 : Int) (a1_2 : Int) (a1_3 : Int) (a1_4 : Int) (a2_0 : Int) (a2_1 : Int) (a2_2 : Int) (a2_3 : Int) (a2_4 : Int) (k0 : Bool → Option R) : Option R :=
  occupancy_conflict_p1 n a0 a1_0 a1_1 a1_2 a1_3 a1_4 a2_0 a2_1 a2_2 a2_3 a2_4
    (occupancy_conflict_p9 n a0 a1_0 a1_1 a1_2 a1_3 a1_4 a2_0 a2_1 a2_2 a2_3 a2_4
      (fun w19 =>
      k0 w19))
def occupancy_conflict {R : Type} (n : Nat) (a0 : Int) (a1_0 : Int) (a1_1 : Int) (a1_2 : Int) (a1_3 : Int) (a1_4 : Int) (a2_0 : Int) (a2_1 : Int) (a2_2 : Int) (a2_3 : Int) (a2_4 : Int) (K : Bool → Option R) : Option R :=
  occupancy_conflict_p10 n a0 a1_0 a1_1 a1_2 a1_3 a1_4 a2_0 a2_1 a2_2 a2_3 a2_4
    (fun w19 => K w19)
end Go.Vx
/-
  occupancy.visit: what its first part leaves: for each resource the places of its uses; for each use its place among those.
-/
namespace Go.Vx

def resX : List (List D) → Option (List Int)
  | [] => some []
  | [.int .i64 r, _, _, _, _] :: l => bif decide (-9223372036854775808 ≤ r) && decide (r ≤ 9223372036854775807) then match resX l with
      | some s => some (r :: s)
      | none => none
    else none
  | _ => none

/-- The places of the resource r among the first i uses. -/
def grpI (rs : List Int) (i : Nat) (r : Int) : List Int := ((List.range i).filter fun j => rs.getD j 0 == r).map fun (j : Nat) => (j : Int)
def grpF (rs : List Int) : Int → List (List D) := fun r => (grpI rs rs.length r).map fun j => [.int .i64 j]
/-- The places' list behind i rounds. -/
def posL (rs : List Int) (i : Nat) : List (List D) := ((List.range i).map fun j => [D.int .i64 ((grpI rs j (rs.getD j 0)).length : Nat)]) ++ List.replicate (rs.length - i) [D.int .i64 0]
def visPre {R : Type} (rows : List (List D)) (k : (Int → List (List D)) → List (List D) → Option R) : Option R :=
  match resX rows with
  | some rs => bif Nat.ble rs.length 1000000000 then k (grpF rs) (posL rs rs.length) else none
  | none => none

theorem grpI_succ (rs : List Int) (i : Nat) (r : Int) : grpI rs (i + 1) r = grpI rs i r ++ (if rs.getD i 0 = r then [(i : Int)] else []) := by
  unfold grpI
  rw [List.range_succ, List.filter_append, List.map_append]
  congr 1
  by_cases h : rs.getD i 0 = r
  · rw [if_pos h]
    have : (rs.getD i 0 == r) = true := by simpa using h
    simp only [List.filter_cons, this, if_true, List.filter_nil]
    rfl
  · rw [if_neg h]
    have : (rs.getD i 0 == r) = false := by rw [beq_eq_false_iff_ne]; exact h
    simp only [List.filter_cons, this, List.filter_nil]
    rfl

theorem grpI_len (rs : List Int) (i : Nat) (r : Int) : (grpI rs i r).length ≤ i := by
  unfold grpI
  rw [List.length_map]
  exact Nat.le_trans (List.length_filter_le ..) (by simp)

theorem posL_length (rs : List Int) {i : Nat} (h : i ≤ rs.length) : (posL rs i).length = rs.length := by
  simp [posL]; omega

theorem posL_succ (rs : List Int) {i : Nat} (h : i < rs.length) : (posL rs i).set i [.int .i64 ((grpI rs i (rs.getD i 0)).length : Nat)] = posL rs (i + 1) := by
  unfold posL
  rw [List.set_append_right _ _ (by simp), List.range_succ, List.map_append, List.append_assoc]
  congr 1
  rw [show rs.length - i = (rs.length - (i + 1)) + 1 by omega, List.replicate_succ]
  simp

theorem posL_at (rs : List Int) {i : Nat} (h : i < rs.length) : (posL rs i)[i]? = some [.int .i64 0] := by
  unfold posL
  rw [List.getElem?_append_right (by simp), List.getElem?_replicate, if_pos (by simp; omega)]
theorem posL_zero (rs : List Int) : posL rs 0 = List.replicate rs.length [.int .i64 0] := by simp [posL]

theorem resX_length : ∀ {rows : List (List D)} {rs : List Int}, resX rows = some rs → rs.length = rows.length := by
  intro rows
  induction rows with
  | nil => intro rs h; simp only [resX, Option.some.injEq] at h; subst h; rfl
  | cons x l ih =>
    intro rs h
    unfold resX at h
    split at h
    · rename_i h0; cases h0
    · rename_i r c1 c2 c3 c4 l' h0
      injection h0 with e1 e2
      subst e2
      cases hb : (decide (-9223372036854775808 ≤ r) && decide (r ≤ 9223372036854775807)) with
      | false => simp [hb] at h
      | true =>
        simp only [hb, cond_true] at h
        split at h
        · rename_i s hs
          injection h with h
          subst h
          simp [ih hs]
        · cases h
    · cases h

theorem resX_at : ∀ {rows : List (List D)} {rs : List Int}, resX rows = some rs → ∀ (i : Nat), i < rows.length → ∃ r c1 c2 c3 c4, rows[i]? = some [.int .i64 r, c1, c2, c3, c4] ∧ rs.getD i 0 = r ∧ -9223372036854775808 ≤ r ∧ r ≤ 9223372036854775807 := by
  intro rows
  induction rows with
  | nil => intro rs h i hi; simp at hi
  | cons x l ih =>
    intro rs h i hi
    unfold resX at h
    split at h
    · rename_i h0; cases h0
    · rename_i r c1 c2 c3 c4 l' h0
      injection h0 with e1 e2
      subst e1 e2
      cases hb : (decide (-9223372036854775808 ≤ r) && decide (r ≤ 9223372036854775807)) with
      | false => simp [hb] at h
      | true =>
        simp only [hb, cond_true] at h
        split at h
        · rename_i s hs
          injection h with h
          subst h
          simp only [Bool.and_eq_true, decide_eq_true_eq] at hb
          cases i with
          | zero => exact ⟨r, c1, c2, c3, c4, rfl, rfl, hb.1, hb.2⟩
          | succ i => simpa using ih hs i (by simpa using hi)
        · cases h
    · cases h
end Go.Vx
/-
  railplan_occupancy_Free_1_s1: the pure function
-/
set_option linter.unusedVariables false
namespace Go.Vx
def railplan_occupancy_Free_1_s1_p1 {R : Type} (n : Nat) (a0 : Int) (a1 : Int) (b0_0 : Bool) (k0 : Option R) : Option R :=
  k0
def railplan_occupancy_Free_1_s1 {R : Type} (n : Nat) (a0 : Int) (a1 : Int) (b0_0 : Bool) (K : Bool → Bool → Option R) : Option R :=
  railplan_occupancy_Free_1_s1_p1 n a0 a1 b0_0
    (K false false)
end Go.Vx
/-
  occupancy_visit_s1: the pure function
-/
set_option linter.unusedVariables false
namespace Go.Vx
def occupancy_visit_s1_p1 {R : Type} (n : Nat) (a0 : Int) (a1 : List (List D)) (G : Int → List (List D)) (p : List (List D)) (b0_0 : Bool) (k0 : Int → Option R) : Option R :=
  k0 ((List.length a1 : Nat) : Int)
def occupancy_visit_s1_p2 {R : Type} (n : Nat) (a0 : Int) (a1 : List (List D)) (G : Int → List (List D)) (p : List (List D)) (w2 : Int) (h9 : Int) (h10 : Bool) (k0 : Bool → Option R) : Option R :=
  k0 (decide (h9 < w2))
def occupancy_visit_s1_p3 {R : Type} (n : Nat) (a0 : Int) (a1 : List (List D)) (G : Int → List (List D)) (p : List (List D)) (w2 : Int) (h9 : Int) (w196 : Bool) (h10 : Bool) (k0 : Option R) (k1 : Option R) : Option R :=
  bif w196 then
    k0
  else
    k1
def occupancy_visit_s1_p4 {R : Type} (n : Nat) (a0 : Int) (a1 : List (List D)) (G : Int → List (List D)) (p : List (List D)) (w2 : Int) (h9 : Int) (w196 : Bool) (h10 : Bool) (k0 : D → D → D → D → D → Option R) : Option R :=
  gb true (rowAt a1 h9) [] fun r197 =>
  gb true (r197[0]?) (.bool false) fun c198 =>
  gb true (r197[1]?) (.bool false) fun c199 =>
  gb true (r197[2]?) (.bool false) fun c200 =>
  gb true (r197[3]?) (.bool false) fun c201 =>
  gb true (r197[4]?) (.bool false) fun c202 =>
  k0 c198 c199 c200 c201 c202
def occupancy_visit_s1_p5 {R : Type} (n : Nat) (a0 : Int) (a1 : List (List D)) (G : Int → List (List D)) (p : List (List D)) (h9 : Int) (w2 : Int) (w203 : D) (w204 : D) (w205 : D) (w206 : D) (w207 : D) (h10 : Bool) (k0 : (List (List D)) → Int → Option R) : Option R :=
  gb true (pInt .i64 w203) 0 fun i208 =>
  gb true (rowAt p h9) [] fun r209 =>
  gb true (r209[0]?) (.bool false) fun c210 =>
  gb true (pInt .i64 c210) 0 fun i211 =>
  gb true (slB (List.length (G i208)) (some i211) none) (0, 0) fun q212 =>
  k0 (cut (G i208) q212) ((List.length (cut (G i208) q212) : Nat) : Int)
def occupancy_visit_s1_p6 {R : Type} (n : Nat) (a0 : Int) (a1 : List (List D)) (G : Int → List (List D)) (p : List (List D)) (h9 : Int) (w2 : Int) (w215 : List (List D)) (w216 : Int) (h227 : Int) (w203 : D) (w204 : D) (w205 : D) (w206 : D) (w207 : D) (h233 : Bool) (k0 : Bool → Bool → Option R) (k1 : Int → Bool → Option R) (k2 : Bool → Option R) : Option R :=
  bif (decide (h227 < w216)) then
    gb true (rowAt w215 h227) [] fun r260 =>
    gb true (r260[0]?) (.bool false) fun c261 =>
    gb true (pInt .i64 c261) 0 fun i262 =>
    gb true (rowAt a1 i262) [] fun r263 =>
    gb true (r263[0]?) (.bool false) fun c264 =>
    gb true (r263[1]?) (.bool false) fun c265 =>
    gb true (r263[2]?) (.bool false) fun c266 =>
    gb true (r263[3]?) (.bool false) fun c267 =>
    gb true (r263[4]?) (.bool false) fun c268 =>
    gb true (pInt .i64 w203) 0 fun i269 =>
    gb true (pInt .i64 w204) 0 fun i270 =>
    gb true (pInt .i64 w205) 0 fun i271 =>
    gb true (pInt .i64 w206) 0 fun i272 =>
    gb true (pInt .i64 w207) 0 fun i273 =>
    gb true (pInt .i64 c264) 0 fun i274 =>
    gb true (pInt .i64 c265) 0 fun i275 =>
    gb true (pInt .i64 c266) 0 fun i276 =>
    gb true (pInt .i64 c267) 0 fun i277 =>
    gb true (pInt .i64 c268) 0 fun i278 =>
    gb true (occupancy_conflict n a0 i269 i270 i271 i272 i273 i274 i275 i276 i277 i278 some) false fun r279 =>
    bif r279 then
      gb true (railplan_occupancy_Free_1_s1 n h9 i262 h233 (fun r0 r1 => some (r0, r1))) (false, false) fun r280 =>
      bif (bif true then (!r280.1) else false) then
        k0 (bif true then (!r280.1) else false) r280.2
      else
        k1 (IntKind.wrap .i64 (h227 + (1 : Int))) r280.2
    else
      bif (bif false then false else false) then
        k0 (bif false then false else false) h233
      else
        k1 (IntKind.wrap .i64 (h227 + (1 : Int))) h233
  else
    k2 (decide (h227 < w216))
def occupancy_visit_s1_r7 {R : Type} (n : Nat) (a0 : Int) (a1 : List (List D)) (G : Int → List (List D)) (p : List (List D)) (h9 : Int) (w2 : Int) (w215 : List (List D)) (w216 : Int) (w203 : D) (w204 : D) (w205 : D) (w206 : D) (w207 : D) (k0 : Int → Bool → Bool → Option R) (k1 : Int → Bool → Bool → Option R) : Nat → Int → Bool → Option R
  | 0, _, _ => none
  | m + 1, h227, h233 =>
    occupancy_visit_s1_p6 n a0 a1 G p h9 w2 w215 w216 h227 w203 w204 w205 w206 w207 h233
      (fun w286 w287 =>
      k0 h227 w286 w287)
      (fun w288 w289 =>
      occupancy_visit_s1_r7 n a0 a1 G p h9 w2 w215 w216 w203 w204 w205 w206 w207 k0 k1 m w288 w289)
      (fun w290 =>
      k1 h227 w290 h233)
def occupancy_visit_s1_p7 {R : Type} (n : Nat) (a0 : Int) (a1 : List (List D)) (G : Int → List (List D)) (p : List (List D)) (h9 : Int) (w2 : Int) (w215 : List (List D)) (w216 : Int) (w203 : D) (w204 : D) (w205 : D) (w206 : D) (w207 : D) (h10 : Bool) (k0 : Int → Bool → Bool → Option R) (k1 : Int → Bool → Bool → Option R) : Option R := occupancy_visit_s1_r7 n a0 a1 G p h9 w2 w215 w216 w203 w204 w205 w206 w207 k0 k1 n (0 : Int) h10
def occupancy_visit_s1_p8 {R : Type} (n : Nat) (a0 : Int) (a1 : List (List D)) (G : Int → List (List D)) (p : List (List D)) (h9 : Int) (w2 : Int) (w215 : List (List D)) (w216 : Int) (w203 : D) (w204 : D) (w205 : D) (w206 : D) (w207 : D) (h10 : Bool) (k0 : Int → Bool → Bool → Option R) (k1 : Int → Bool → Bool → Option R) : Option R :=
  occupancy_visit_s1_p7 n a0 a1 G p h9 w2 w215 w216 w203 w204 w205 w206 w207 h10
    (fun w291 w292 w293 =>
    k0 w291 w292 w293)
    (fun w294 w295 w296 =>
    k1 w294 w295 w296)
def occupancy_visit_s1_p9 {R : Type} (n : Nat) (a0 : Int) (a1 : List (List D)) (G : Int → List (List D)) (p : List (List D)) (h9 : Int) (w2 : Int) (w203 : D) (w204 : D) (w205 : D) (w206 : D) (w207 : D) (h10 : Bool) (k0 : (List (List D)) → Int → Int → Bool → Bool → Option R) (k1 : (List (List D)) → Int → Int → Bool → Bool → Option R) : Option R :=
  occupancy_visit_s1_p5 n a0 a1 G p h9 w2 w203 w204 w205 w206 w207 h10
    (fun w215 w216 =>
    occupancy_visit_s1_p8 n a0 a1 G p h9 w2 w215 w216 w203 w204 w205 w206 w207 h10
      (fun w297 w298 w299 =>
      k0 w215 w216 w297 w298 w299)
      (fun w300 w301 w302 =>
      k1 w215 w216 w300 w301 w302))
def occupancy_visit_s1_p10 {R : Type} (n : Nat) (a0 : Int) (a1 : List (List D)) (G : Int → List (List D)) (p : List (List D)) (w2 : Int) (h9 : Int) (w196 : Bool) (h10 : Bool) (k0 : (List (List D)) → Int → Int → Bool → D → D → D → D → D → Bool → Option R) (k1 : (List (List D)) → Int → Int → Bool → D → D → D → D → D → Bool → Option R) : Option R :=
  occupancy_visit_s1_p4 n a0 a1 G p w2 h9 w196 h10
    (fun w203 w204 w205 w206 w207 =>
    occupancy_visit_s1_p9 n a0 a1 G p h9 w2 w203 w204 w205 w206 w207 h10
      (fun w303 w304 w305 w306 w307 =>
      k0 w303 w304 w305 w306 w203 w204 w205 w206 w207 w307)
      (fun w308 w309 w310 w311 w312 =>
      k1 w308 w309 w310 w311 w203 w204 w205 w206 w207 w312))
def occupancy_visit_s1_p11 {R : Type} (n : Nat) (a0 : Int) (a1 : List (List D)) (G : Int → List (List D)) (p : List (List D)) (w2 : Int) (h9 : Int) (w196 : Bool) (h10 : Bool) (k0 : (List (List D)) → Int → Int → Bool → D → D → D → D → D → Bool → Option R) (k1 : (List (List D)) → Int → Int → Bool → D → D → D → D → D → Bool → Option R) : Option R :=
  occupancy_visit_s1_p10 n a0 a1 G p w2 h9 w196 h10
    (fun w313 w314 w315 w316 w317 w318 w319 w320 w321 w322 =>
    k0 w313 w314 w315 w316 w317 w318 w319 w320 w321 w322)
    (fun w323 w324 w325 w326 w327 w328 w329 w330 w331 w332 =>
    k1 w323 w324 w325 w326 w327 w328 w329 w330 w331 w332)
def occupancy_visit_s1_p12 {R : Type} (n : Nat) (a0 : Int) (a1 : List (List D)) (G : Int → List (List D)) (p : List (List D)) (h9 : Int) (w2 : Int) (w343 : List (List D)) (w344 : Int) (w345 : Int) (w346 : Bool) (w347 : D) (w348 : D) (w349 : D) (w350 : D) (w351 : D) (w352 : Bool) (k0 : Int → Option R) : Option R :=
  k0 (IntKind.wrap .i64 (h9 + (1 : Int)))
def occupancy_visit_s1_p13 {R : Type} (n : Nat) (a0 : Int) (a1 : List (List D)) (G : Int → List (List D)) (p : List (List D)) (w2 : Int) (h9 : Int) (w196 : Bool) (h10 : Bool) (k0 : (List (List D)) → Int → Int → Bool → D → D → D → D → D → Bool → Option R) (k1 : Int → Bool → Option R) : Option R :=
  occupancy_visit_s1_p11 n a0 a1 G p w2 h9 w196 h10
    (fun w333 w334 w335 w336 w337 w338 w339 w340 w341 w342 =>
    k0 w333 w334 w335 w336 w337 w338 w339 w340 w341 w342)
    (fun w343 w344 w345 w346 w347 w348 w349 w350 w351 w352 =>
    occupancy_visit_s1_p12 n a0 a1 G p h9 w2 w343 w344 w345 w346 w347 w348 w349 w350 w351 w352
      (fun w354 =>
      k1 w354 w352))
def occupancy_visit_s1_p14 {R : Type} (n : Nat) (a0 : Int) (a1 : List (List D)) (G : Int → List (List D)) (p : List (List D)) (w2 : Int) (h9 : Int) (w196 : Bool) (h10 : Bool) (k0 : (List (List D)) → Int → Int → Bool → D → D → D → D → D → Bool → Option R) (k1 : Int → Bool → Option R) (k2 : Option R) : Option R :=
  occupancy_visit_s1_p3 n a0 a1 G p w2 h9 w196 h10
    (occupancy_visit_s1_p13 n a0 a1 G p w2 h9 w196 h10
      (fun w355 w356 w357 w358 w359 w360 w361 w362 w363 w364 =>
      k0 w355 w356 w357 w358 w359 w360 w361 w362 w363 w364)
      (fun w365 w366 =>
      k1 w365 w366))
    (k2)
def occupancy_visit_s1_p15 {R : Type} (n : Nat) (a0 : Int) (a1 : List (List D)) (G : Int → List (List D)) (p : List (List D)) (w2 : Int) (h9 : Int) (h10 : Bool) (k0 : (List (List D)) → Int → Int → Bool → D → D → D → D → D → Bool → Option R) (k1 : Int → Bool → Option R) (k2 : Bool → Option R) : Option R :=
  occupancy_visit_s1_p2 n a0 a1 G p w2 h9 h10
    (fun w196 =>
    occupancy_visit_s1_p14 n a0 a1 G p w2 h9 w196 h10
      (fun w367 w368 w369 w370 w371 w372 w373 w374 w375 w376 =>
      k0 w367 w368 w369 w370 w371 w372 w373 w374 w375 w376)
      (fun w377 w378 =>
      k1 w377 w378)
      (k2 w196))
def occupancy_visit_s1_r16 {R : Type} (n : Nat) (a0 : Int) (a1 : List (List D)) (G : Int → List (List D)) (p : List (List D)) (w2 : Int) (k0 : Int → (List (List D)) → Int → Int → Bool → D → D → D → D → D → Bool → Option R) (k1 : Int → Bool → Bool → Option R) : Nat → Int → Bool → Option R
  | 0, _, _ => none
  | m + 1, h9, h10 =>
    occupancy_visit_s1_p15 n a0 a1 G p w2 h9 h10
      (fun w379 w380 w381 w382 w383 w384 w385 w386 w387 w388 =>
      k0 h9 w379 w380 w381 w382 w383 w384 w385 w386 w387 w388)
      (fun w389 w390 =>
      occupancy_visit_s1_r16 n a0 a1 G p w2 k0 k1 m w389 w390)
      (fun w391 =>
      k1 h9 w391 h10)
def occupancy_visit_s1_p16 {R : Type} (n : Nat) (a0 : Int) (a1 : List (List D)) (G : Int → List (List D)) (p : List (List D)) (w2 : Int) (b0_0 : Bool) (k0 : Int → (List (List D)) → Int → Int → Bool → D → D → D → D → D → Bool → Option R) (k1 : Int → Bool → Bool → Option R) : Option R := occupancy_visit_s1_r16 n a0 a1 G p w2 k0 k1 n (0 : Int) b0_0
def occupancy_visit_s1_p17 {R : Type} (n : Nat) (a0 : Int) (a1 : List (List D)) (G : Int → List (List D)) (p : List (List D)) (w2 : Int) (b0_0 : Bool) (k0 : Int → (List (List D)) → Int → Int → Bool → D → D → D → D → D → Bool → Option R) (k1 : Int → Bool → Bool → Option R) : Option R :=
  occupancy_visit_s1_p16 n a0 a1 G p w2 b0_0
    (fun w392 w393 w394 w395 w396 w397 w398 w399 w400 w401 w402 =>
    k0 w392 w393 w394 w395 w396 w397 w398 w399 w400 w401 w402)
    (fun w403 w404 w405 =>
    k1 w403 w404 w405)
def occupancy_visit_s1_p18 {R : Type} (n : Nat) (a0 : Int) (a1 : List (List D)) (G : Int → List (List D)) (p : List (List D)) (b0_0 : Bool) (k0 : Int → Int → (List (List D)) → Int → Int → Bool → D → D → D → D → D → Bool → Option R) (k1 : Int → Int → Bool → Bool → Option R) : Option R :=
  occupancy_visit_s1_p1 n a0 a1 G p b0_0
    (fun w2 =>
    occupancy_visit_s1_p17 n a0 a1 G p w2 b0_0
      (fun w406 w407 w408 w409 w410 w411 w412 w413 w414 w415 w416 =>
      k0 w406 w2 w407 w408 w409 w410 w411 w412 w413 w414 w415 w416)
      (fun w417 w418 w419 =>
      k1 w2 w417 w418 w419))
def occupancy_visit_s1 {R : Type} (n : Nat) (a0 : Int) (a1 : List (List D)) (b0_0 : Bool) (K : Bool → Option R) : Option R :=
  visPre a1 fun G p =>
  occupancy_visit_s1_p18 n a0 a1 G p b0_0
    (fun w406 w2 w407 w408 w409 w410 w411 w412 w413 w414 w415 w416 => K w416)
    (fun w2 w417 w418 w419 => K w419)
end Go.Vx
/-
  occupancy_Free: the pure function
-/
set_option linter.unusedVariables false
namespace Go.Vx
def occupancy_Free_p1 {R : Type} (n : Nat) (a0 : Int) (a1 : List (List D)) (k0 : Bool → Option R) : Option R :=
  gb true (occupancy_Valid n a0 a1 some) false fun r1 =>
  bif (!r1) then
    k0 false
  else
    gb true (occupancy_visit_s1 n a0 a1 true some) false fun r2 =>
    k0 r2
def occupancy_Free {R : Type} (n : Nat) (a0 : Int) (a1 : List (List D)) (K : Bool → Option R) : Option R :=
  occupancy_Free_p1 n a0 a1
    (fun z3 => K z3)
end Go.Vx
/-
  slices_Sort_int_int: no pure function
-/
/-
  slices_Compact_int_int: no pure function
-/
/-
  occupancy_At: the pure function
-/
set_option linter.unusedVariables false
namespace Go.Vx
def occupancy_At_p1 {R : Type} (n : Nat) (a0 : Int) (a1 : List (List D)) (a2 : Int) (a3 : Int) (k0 : Option R) : Option R :=
  k0
def occupancy_At_p2 {R : Type} (n : Nat) (a0 : Int) (a1 : List (List D)) (a2 : Int) (a3 : Int) (k0 : Option R) (k1 : Bool → Option R) : Option R :=
  gb true (occupancy_Valid n a0 a1 some) false fun r1 =>
  bif (!r1) then
    k0
  else
    k1 (!r1)
def occupancy_At_p3 {R : Type} (n : Nat) (a0 : Int) (a1 : List (List D)) (a2 : Int) (a3 : Int) (w3 : Bool) (k0 : Option R) : Option R :=
  k0
def occupancy_At_p4 {R : Type} (n : Nat) (a0 : Int) (a1 : List (List D)) (a2 : Int) (a3 : Int) (k0 : Int → Option R) : Option R :=
  gb true (arith_Mod n a3 a0 some) 0 fun r4 =>
  k0 r4
def occupancy_At_p5 {R : Type} (n : Nat) (a0 : Int) (a1 : List (List D)) (a2 : Int) (w5 : Int) (k0 : Int → Option R) : Option R :=
  k0 ((List.length a1 : Nat) : Int)
def occupancy_At_p6 {R : Type} (n : Nat) (a0 : Int) (a2 : Int) (w5 : Int) (a1 : List (List D)) (w7 : Int) (h13 : Int) (h14 : List (List D)) (k0 : Int → (List (List D)) → Option R) (k1 : Bool → Option R) : Option R :=
  bif (decide (h13 < w7)) then
    gb true (rowAt a1 h13) [] fun r30 =>
    gb true (r30[0]?) (.bool false) fun c31 =>
    gb true (r30[1]?) (.bool false) fun c32 =>
    gb true (r30[2]?) (.bool false) fun c33 =>
    gb true (r30[3]?) (.bool false) fun c34 =>
    gb true (r30[4]?) (.bool false) fun c35 =>
    gb true (pInt .i64 c31) 0 fun i36 =>
    gb (i36 == a2) (pInt .i64 c33) 0 fun i37 =>
    gb (i36 == a2) (arith_Mod n (IntKind.wrap .i64 (w5 - i37)) a0 some) 0 fun r38 =>
    gb (i36 == a2) (pInt .i64 c34) 0 fun i39 =>
    bif (bif (i36 == a2) then (decide (r38 < i39)) else false) then
      gb true (pInt .i64 c32) 0 fun i40 =>
      gb true (room ((List.length h14 + List.length [[D.int .i64 i40]]) * 8)) () fun u41 =>
      k0 (IntKind.wrap .i64 (h13 + (1 : Int))) (h14 ++ [[D.int .i64 i40]])
    else
      k0 (IntKind.wrap .i64 (h13 + (1 : Int))) h14
  else
    k1 (decide (h13 < w7))
def occupancy_At_r7 {R : Type} (n : Nat) (a0 : Int) (a2 : Int) (w5 : Int) (a1 : List (List D)) (w7 : Int) (k0 : Int → Bool → (List (List D)) → Option R) : Nat → Int → (List (List D)) → Option R
  | 0, _, _ => none
  | m + 1, h13, h14 =>
    occupancy_At_p6 n a0 a2 w5 a1 w7 h13 h14
      (fun w45 w46 =>
      occupancy_At_r7 n a0 a2 w5 a1 w7 k0 m w45 w46)
      (fun w47 =>
      k0 h13 w47 h14)
def occupancy_At_p7 {R : Type} (n : Nat) (a0 : Int) (a2 : Int) (w5 : Int) (a1 : List (List D)) (w7 : Int) (k0 : Int → Bool → (List (List D)) → Option R) : Option R := occupancy_At_r7 n a0 a2 w5 a1 w7 k0 n (0 : Int) []
def occupancy_At_p8 {R : Type} (n : Nat) (a0 : Int) (a2 : Int) (w5 : Int) (a1 : List (List D)) (w7 : Int) (k0 : Int → Bool → (List (List D)) → Option R) : Option R :=
  occupancy_At_p7 n a0 a2 w5 a1 w7
    (fun w48 w49 w50 =>
    k0 w48 w49 w50)
def occupancy_At_p9 {R : Type} (n : Nat) (a0 : Int) (a1 : List (List D)) (a2 : Int) (w5 : Int) (k0 : Int → Int → Bool → (List (List D)) → Option R) : Option R :=
  occupancy_At_p5 n a0 a1 a2 w5
    (fun w7 =>
    occupancy_At_p8 n a0 a2 w5 a1 w7
      (fun w51 w52 w53 =>
      k0 w7 w51 w52 w53))
def occupancy_At_p10 {R : Type} (n : Nat) (a0 : Int) (a2 : Int) (w5 : Int) (a1 : List (List D)) (w54 : Int) (w55 : Int) (w56 : Bool) (w57 : List (List D)) (k0 : (List (List D)) → Option R) : Option R :=
  gb true (intsX w57) [] fun z58 =>
  gb true (room (List.length z58)) () fun u59 =>
  gb true (intsX (intRowsS (sortI z58))) [] fun z60 =>
  gb true (room (List.length z60)) () fun u61 =>
  k0 (intRowsS (compI z60))
def occupancy_At_p11 {R : Type} (n : Nat) (a0 : Int) (a1 : List (List D)) (a2 : Int) (w5 : Int) (k0 : (List (List D)) → Option R) : Option R :=
  occupancy_At_p9 n a0 a1 a2 w5
    (fun w54 w55 w56 w57 =>
    occupancy_At_p10 n a0 a2 w5 a1 w54 w55 w56 w57
      (fun w63 =>
      k0 w63))
def occupancy_At_p12 {R : Type} (n : Nat) (a0 : Int) (a1 : List (List D)) (a2 : Int) (a3 : Int) (k0 : (List (List D)) → Option R) : Option R :=
  occupancy_At_p4 n a0 a1 a2 a3
    (fun w5 =>
    occupancy_At_p11 n a0 a1 a2 w5
      (fun w64 =>
      k0 w64))
def occupancy_At_p13 {R : Type} (n : Nat) (a0 : Int) (a1 : List (List D)) (a2 : Int) (a3 : Int) (w3 : Bool) (k0 : (List (List D)) → Option R) : Option R :=
  occupancy_At_p3 n a0 a1 a2 a3 w3
    (occupancy_At_p12 n a0 a1 a2 a3
      (fun w65 =>
      k0 w65))
def occupancy_At_p14 {R : Type} (n : Nat) (a0 : Int) (a1 : List (List D)) (a2 : Int) (a3 : Int) (k0 : Option R) (k1 : (List (List D)) → Option R) : Option R :=
  occupancy_At_p2 n a0 a1 a2 a3
    (k0)
    (fun w3 =>
    occupancy_At_p13 n a0 a1 a2 a3 w3
      (fun w66 =>
      k1 w66))
def occupancy_At_p15 {R : Type} (n : Nat) (a0 : Int) (a1 : List (List D)) (a2 : Int) (a3 : Int) (k0 : Option R) (k1 : (List (List D)) → Option R) : Option R :=
  occupancy_At_p1 n a0 a1 a2 a3
    (occupancy_At_p14 n a0 a1 a2 a3
      (k0)
      (fun w67 =>
      k1 w67))
def occupancy_At {R : Type} (n : Nat) (a0 : Int) (a1 : List (List D)) (a2 : Int) (a3 : Int) (K : (List (List D)) → Option R) : Option R :=
  occupancy_At_p15 n a0 a1 a2 a3
    (K [])
    (fun w67 => K w67)
end Go.Vx
/-
  keep_Same_int: the pure function
-/
set_option linter.unusedVariables false
namespace Go.Vx
def keep_Same_int_p1 {R : Type} (n : Nat) (a0 : List (List D)) (a1 : List (List D)) (k0 : Option R) : Option R :=
  k0
def keep_Same_int_p2 {R : Type} (n : Nat) (a0 : List (List D)) (a1 : List (List D)) (k0 : Option R) (k1 : Bool → Option R) : Option R :=
  bif (((List.length a0 : Nat) : Int) != ((List.length a1 : Nat) : Int)) then
    k0
  else
    k1 (((List.length a0 : Nat) : Int) != ((List.length a1 : Nat) : Int))
def keep_Same_int_p3 {R : Type} (n : Nat) (a0 : List (List D)) (a1 : List (List D)) (w2 : Bool) (k0 : Int → Option R) : Option R :=
  k0 ((List.length a0 : Nat) : Int)
def keep_Same_int_p4 {R : Type} (n : Nat) (a0 : List (List D)) (a1 : List (List D)) (w4 : Int) (h8 : Int) (k0 : Option R) (k1 : Int → Option R) (k2 : Bool → Option R) : Option R :=
  bif (decide (h8 < w4)) then
    gb true (rowAt a0 h8) [] fun r17 =>
    gb true (r17[0]?) (.bool false) fun c18 =>
    gb true (pInt .i64 c18) 0 fun i19 =>
    gb true (rowAt a1 h8) [] fun r20 =>
    gb true (r20[0]?) (.bool false) fun c21 =>
    gb true (pInt .i64 c21) 0 fun i22 =>
    bif (i19 != i22) then
      k0
    else
      k1 (IntKind.wrap .i64 (h8 + (1 : Int)))
  else
    k2 (decide (h8 < w4))
def keep_Same_int_r5 {R : Type} (n : Nat) (a0 : List (List D)) (a1 : List (List D)) (w4 : Int) (k0 : Option R) (k1 : Int → Bool → Option R) : Nat → Int → Option R
  | 0, _ => none
  | m + 1, h8 =>
    keep_Same_int_p4 n a0 a1 w4 h8
      (k0)
      (fun w25 =>
      keep_Same_int_r5 n a0 a1 w4 k0 k1 m w25)
      (fun w26 =>
      k1 h8 w26)
def keep_Same_int_p5 {R : Type} (n : Nat) (a0 : List (List D)) (a1 : List (List D)) (w4 : Int) (k0 : Option R) (k1 : Int → Bool → Option R) : Option R := keep_Same_int_r5 n a0 a1 w4 k0 k1 n (0 : Int)
def keep_Same_int_p6 {R : Type} (n : Nat) (a0 : List (List D)) (a1 : List (List D)) (w4 : Int) (k0 : Option R) (k1 : Int → Bool → Option R) : Option R :=
  keep_Same_int_p5 n a0 a1 w4
    (k0)
    (fun w27 w28 =>
    k1 w27 w28)
def keep_Same_int_p7 {R : Type} (n : Nat) (a0 : List (List D)) (a1 : List (List D)) (w2 : Bool) (k0 : Option R) (k1 : Int → Int → Bool → Option R) : Option R :=
  keep_Same_int_p3 n a0 a1 w2
    (fun w4 =>
    keep_Same_int_p6 n a0 a1 w4
      (k0)
      (fun w29 w30 =>
      k1 w4 w29 w30))
def keep_Same_int_p8 {R : Type} (n : Nat) (a0 : List (List D)) (a1 : List (List D)) (w31 : Int) (w32 : Int) (w33 : Bool) (k0 : Option R) : Option R :=
  k0
def keep_Same_int_p9 {R : Type} (n : Nat) (a0 : List (List D)) (a1 : List (List D)) (w2 : Bool) (k0 : Bool → Option R) : Option R :=
  keep_Same_int_p7 n a0 a1 w2
    (k0 false)
    (fun w31 w32 w33 =>
    keep_Same_int_p8 n a0 a1 w31 w32 w33
      (k0 true))
def keep_Same_int_p10 {R : Type} (n : Nat) (a0 : List (List D)) (a1 : List (List D)) (k0 : Bool → Option R) : Option R :=
  keep_Same_int_p2 n a0 a1
    (k0 false)
    (fun w2 =>
    keep_Same_int_p9 n a0 a1 w2
      (fun w35 =>
      k0 w35))
def keep_Same_int_p11 {R : Type} (n : Nat) (a0 : List (List D)) (a1 : List (List D)) (k0 : Bool → Option R) : Option R :=
  keep_Same_int_p1 n a0 a1
    (keep_Same_int_p10 n a0 a1
      (fun w37 =>
      k0 w37))
def keep_Same_int {R : Type} (n : Nat) (a0 : List (List D)) (a1 : List (List D)) (K : Bool → Option R) : Option R :=
  keep_Same_int_p11 n a0 a1
    (fun w37 => K w37)
end Go.Vx
/-
  law19_awake: the pure function
-/
set_option linter.unusedVariables false
namespace Go.Vx
def law19_awake_p1 {R : Type} (n : Nat)  (k0 : Bool → Option R) : Option R :=
  gb true (occupancy_Free n (5 : Int) [[D.int .i64 (0 : Int), D.int .i64 (3 : Int), D.int .i64 (1 : Int), D.int .i64 (2 : Int), D.int .i64 (0 : Int)]] some) false fun r1 =>
  gb r1 (occupancy_At n (5 : Int) [[D.int .i64 (0 : Int), D.int .i64 (3 : Int), D.int .i64 (1 : Int), D.int .i64 (2 : Int), D.int .i64 (0 : Int)]] (0 : Int) (7 : Int) some) [] fun r2 =>
  gb r1 (keep_Same_int n r2 [[D.int .i64 (3 : Int)]] some) false fun r3 =>
  k0 (bif r1 then r3 else false)
def law19_awake {R : Type} (n : Nat)  (K : Bool → Option R) : Option R :=
  law19_awake_p1 n 
    (fun z4 => K z4)
end Go.Vx
/-
  railplan_occupancy_Conflicts_1_s2: the pure function
-/
set_option linter.unusedVariables false
namespace Go.Vx
def railplan_occupancy_Conflicts_1_s2_p1 {R : Type} (n : Nat) (a0 : Int) (a1 : Int) (q1 : List (List D)) (k0 : (List (List D)) → Option R) : Option R :=
  gb true (room ((List.length q1 + List.length [[D.int .i64 a0, D.int .i64 a1]]) * 16)) () fun u1 =>
  k0 (q1 ++ [[D.int .i64 a0, D.int .i64 a1]])
def railplan_occupancy_Conflicts_1_s2 {R : Type} (n : Nat) (a0 : Int) (a1 : Int) (q1 : List (List D)) (K : Bool → (List (List D)) → Option R) : Option R :=
  railplan_occupancy_Conflicts_1_s2_p1 n a0 a1 q1
    (fun z2 => K true z2)
end Go.Vx
/-
  occupancy_visit_s3: the pure function
-/
set_option linter.unusedVariables false
namespace Go.Vx
def occupancy_visit_s3_p1 {R : Type} (n : Nat) (a0 : Int) (a1 : List (List D)) (G : Int → List (List D)) (p : List (List D)) (q1 : List (List D)) (k0 : Int → Option R) : Option R :=
  k0 ((List.length a1 : Nat) : Int)
def occupancy_visit_s3_p2 {R : Type} (n : Nat) (a0 : Int) (a1 : List (List D)) (G : Int → List (List D)) (p : List (List D)) (w2 : Int) (h9 : Int) (h10 : List (List D)) (k0 : Bool → Option R) : Option R :=
  k0 (decide (h9 < w2))
def occupancy_visit_s3_p3 {R : Type} (n : Nat) (a0 : Int) (a1 : List (List D)) (G : Int → List (List D)) (p : List (List D)) (w2 : Int) (h9 : Int) (w250 : Bool) (h10 : List (List D)) (k0 : Option R) (k1 : Option R) : Option R :=
  bif w250 then
    k0
  else
    k1
def occupancy_visit_s3_p4 {R : Type} (n : Nat) (a0 : Int) (a1 : List (List D)) (G : Int → List (List D)) (p : List (List D)) (w2 : Int) (h9 : Int) (w250 : Bool) (h10 : List (List D)) (k0 : D → D → D → D → D → Option R) : Option R :=
  gb true (rowAt a1 h9) [] fun r251 =>
  gb true (r251[0]?) (.bool false) fun c252 =>
  gb true (r251[1]?) (.bool false) fun c253 =>
  gb true (r251[2]?) (.bool false) fun c254 =>
  gb true (r251[3]?) (.bool false) fun c255 =>
  gb true (r251[4]?) (.bool false) fun c256 =>
  k0 c252 c253 c254 c255 c256
def occupancy_visit_s3_p5 {R : Type} (n : Nat) (a0 : Int) (a1 : List (List D)) (G : Int → List (List D)) (p : List (List D)) (h9 : Int) (w2 : Int) (w257 : D) (w258 : D) (w259 : D) (w260 : D) (w261 : D) (h10 : List (List D)) (k0 : (List (List D)) → Int → Option R) : Option R :=
  gb true (pInt .i64 w257) 0 fun i262 =>
  gb true (rowAt p h9) [] fun r263 =>
  gb true (r263[0]?) (.bool false) fun c264 =>
  gb true (pInt .i64 c264) 0 fun i265 =>
  gb true (slB (List.length (G i262)) (some i265) none) (0, 0) fun q266 =>
  k0 (cut (G i262) q266) ((List.length (cut (G i262) q266) : Nat) : Int)
def occupancy_visit_s3_p6 {R : Type} (n : Nat) (a0 : Int) (a1 : List (List D)) (G : Int → List (List D)) (p : List (List D)) (h9 : Int) (w2 : Int) (w269 : List (List D)) (w270 : Int) (h281 : Int) (w257 : D) (w258 : D) (w259 : D) (w260 : D) (w261 : D) (h287 : List (List D)) (k0 : Bool → (List (List D)) → Option R) (k1 : Int → (List (List D)) → Option R) (k2 : Bool → Option R) (k3 : Bool → Option R) : Option R :=
  bif (decide (h281 < w270)) then
    gb true (rowAt w269 h281) [] fun r315 =>
    gb true (r315[0]?) (.bool false) fun c316 =>
    gb true (pInt .i64 c316) 0 fun i317 =>
    gb true (rowAt a1 i317) [] fun r318 =>
    gb true (r318[0]?) (.bool false) fun c319 =>
    gb true (r318[1]?) (.bool false) fun c320 =>
    gb true (r318[2]?) (.bool false) fun c321 =>
    gb true (r318[3]?) (.bool false) fun c322 =>
    gb true (r318[4]?) (.bool false) fun c323 =>
    gb true (pInt .i64 w257) 0 fun i324 =>
    gb true (pInt .i64 w258) 0 fun i325 =>
    gb true (pInt .i64 w259) 0 fun i326 =>
    gb true (pInt .i64 w260) 0 fun i327 =>
    gb true (pInt .i64 w261) 0 fun i328 =>
    gb true (pInt .i64 c319) 0 fun i329 =>
    gb true (pInt .i64 c320) 0 fun i330 =>
    gb true (pInt .i64 c321) 0 fun i331 =>
    gb true (pInt .i64 c322) 0 fun i332 =>
    gb true (pInt .i64 c323) 0 fun i333 =>
    gb true (occupancy_conflict n a0 i324 i325 i326 i327 i328 i329 i330 i331 i332 i333 some) false fun r334 =>
    bif r334 then
      gb true (railplan_occupancy_Conflicts_1_s2 n h9 i317 h287 (fun r0 r1 => some (r0, r1))) (false, []) fun r335 =>
      bif (bif true then (!r335.1) else false) then
        k0 (bif true then (!r335.1) else false) r335.2
      else
        k1 (IntKind.wrap .i64 (h281 + (1 : Int))) r335.2
    else
      bif (bif false then false else false) then
        k2 (bif false then false else false)
      else
        k1 (IntKind.wrap .i64 (h281 + (1 : Int))) h287
  else
    k3 (decide (h281 < w270))
def occupancy_visit_s3_r7 {R : Type} (n : Nat) (a0 : Int) (a1 : List (List D)) (G : Int → List (List D)) (p : List (List D)) (h9 : Int) (w2 : Int) (w269 : List (List D)) (w270 : Int) (w257 : D) (w258 : D) (w259 : D) (w260 : D) (w261 : D) (k0 : Int → Bool → (List (List D)) → Option R) (k1 : Int → Bool → (List (List D)) → Option R) (k2 : Int → Bool → (List (List D)) → Option R) : Nat → Int → (List (List D)) → Option R
  | 0, _, _ => none
  | m + 1, h281, h287 =>
    occupancy_visit_s3_p6 n a0 a1 G p h9 w2 w269 w270 h281 w257 w258 w259 w260 w261 h287
      (fun w342 w343 =>
      k0 h281 w342 w343)
      (fun w344 w345 =>
      occupancy_visit_s3_r7 n a0 a1 G p h9 w2 w269 w270 w257 w258 w259 w260 w261 k0 k1 k2 m w344 w345)
      (fun w346 =>
      k1 h281 w346 h287)
      (fun w347 =>
      k2 h281 w347 h287)
def occupancy_visit_s3_p7 {R : Type} (n : Nat) (a0 : Int) (a1 : List (List D)) (G : Int → List (List D)) (p : List (List D)) (h9 : Int) (w2 : Int) (w269 : List (List D)) (w270 : Int) (w257 : D) (w258 : D) (w259 : D) (w260 : D) (w261 : D) (h10 : List (List D)) (k0 : Int → Bool → (List (List D)) → Option R) (k1 : Int → Bool → (List (List D)) → Option R) (k2 : Int → Bool → (List (List D)) → Option R) : Option R := occupancy_visit_s3_r7 n a0 a1 G p h9 w2 w269 w270 w257 w258 w259 w260 w261 k0 k1 k2 n (0 : Int) h10
def occupancy_visit_s3_p8 {R : Type} (n : Nat) (a0 : Int) (a1 : List (List D)) (G : Int → List (List D)) (p : List (List D)) (h9 : Int) (w2 : Int) (w269 : List (List D)) (w270 : Int) (w257 : D) (w258 : D) (w259 : D) (w260 : D) (w261 : D) (h10 : List (List D)) (k0 : Int → Bool → (List (List D)) → Option R) (k1 : Int → Bool → (List (List D)) → Option R) (k2 : Int → Bool → (List (List D)) → Option R) : Option R :=
  occupancy_visit_s3_p7 n a0 a1 G p h9 w2 w269 w270 w257 w258 w259 w260 w261 h10
    (fun w348 w349 w350 =>
    k0 w348 w349 w350)
    (fun w351 w352 w353 =>
    k1 w351 w352 w353)
    (fun w354 w355 w356 =>
    k2 w354 w355 w356)
def occupancy_visit_s3_p9 {R : Type} (n : Nat) (a0 : Int) (a1 : List (List D)) (G : Int → List (List D)) (p : List (List D)) (h9 : Int) (w2 : Int) (w257 : D) (w258 : D) (w259 : D) (w260 : D) (w261 : D) (h10 : List (List D)) (k0 : (List (List D)) → Int → Int → Bool → (List (List D)) → Option R) (k1 : (List (List D)) → Int → Int → Bool → (List (List D)) → Option R) (k2 : (List (List D)) → Int → Int → Bool → (List (List D)) → Option R) : Option R :=
  occupancy_visit_s3_p5 n a0 a1 G p h9 w2 w257 w258 w259 w260 w261 h10
    (fun w269 w270 =>
    occupancy_visit_s3_p8 n a0 a1 G p h9 w2 w269 w270 w257 w258 w259 w260 w261 h10
      (fun w357 w358 w359 =>
      k0 w269 w270 w357 w358 w359)
      (fun w360 w361 w362 =>
      k1 w269 w270 w360 w361 w362)
      (fun w363 w364 w365 =>
      k2 w269 w270 w363 w364 w365))
def occupancy_visit_s3_p10 {R : Type} (n : Nat) (a0 : Int) (a1 : List (List D)) (G : Int → List (List D)) (p : List (List D)) (w2 : Int) (h9 : Int) (w250 : Bool) (h10 : List (List D)) (k0 : (List (List D)) → Int → Int → Bool → D → D → D → D → D → (List (List D)) → Option R) (k1 : (List (List D)) → Int → Int → Bool → D → D → D → D → D → (List (List D)) → Option R) (k2 : (List (List D)) → Int → Int → Bool → D → D → D → D → D → (List (List D)) → Option R) : Option R :=
  occupancy_visit_s3_p4 n a0 a1 G p w2 h9 w250 h10
    (fun w257 w258 w259 w260 w261 =>
    occupancy_visit_s3_p9 n a0 a1 G p h9 w2 w257 w258 w259 w260 w261 h10
      (fun w366 w367 w368 w369 w370 =>
      k0 w366 w367 w368 w369 w257 w258 w259 w260 w261 w370)
      (fun w371 w372 w373 w374 w375 =>
      k1 w371 w372 w373 w374 w257 w258 w259 w260 w261 w375)
      (fun w376 w377 w378 w379 w380 =>
      k2 w376 w377 w378 w379 w257 w258 w259 w260 w261 w380))
def occupancy_visit_s3_p11 {R : Type} (n : Nat) (a0 : Int) (a1 : List (List D)) (G : Int → List (List D)) (p : List (List D)) (w2 : Int) (h9 : Int) (w250 : Bool) (h10 : List (List D)) (k0 : (List (List D)) → Int → Int → Bool → D → D → D → D → D → (List (List D)) → Option R) (k1 : (List (List D)) → Int → Int → Bool → D → D → D → D → D → (List (List D)) → Option R) (k2 : (List (List D)) → Int → Int → Bool → D → D → D → D → D → (List (List D)) → Option R) : Option R :=
  occupancy_visit_s3_p10 n a0 a1 G p w2 h9 w250 h10
    (fun w381 w382 w383 w384 w385 w386 w387 w388 w389 w390 =>
    k0 w381 w382 w383 w384 w385 w386 w387 w388 w389 w390)
    (fun w391 w392 w393 w394 w395 w396 w397 w398 w399 w400 =>
    k1 w391 w392 w393 w394 w395 w396 w397 w398 w399 w400)
    (fun w401 w402 w403 w404 w405 w406 w407 w408 w409 w410 =>
    k2 w401 w402 w403 w404 w405 w406 w407 w408 w409 w410)
def occupancy_visit_s3_p12 {R : Type} (n : Nat) (a0 : Int) (a1 : List (List D)) (G : Int → List (List D)) (p : List (List D)) (h9 : Int) (w2 : Int) (w431 : List (List D)) (w432 : Int) (w433 : Int) (w434 : Bool) (w435 : D) (w436 : D) (w437 : D) (w438 : D) (w439 : D) (w440 : List (List D)) (k0 : Int → Option R) : Option R :=
  k0 (IntKind.wrap .i64 (h9 + (1 : Int)))
def occupancy_visit_s3_p13 {R : Type} (n : Nat) (a0 : Int) (a1 : List (List D)) (G : Int → List (List D)) (p : List (List D)) (w2 : Int) (h9 : Int) (w250 : Bool) (h10 : List (List D)) (k0 : (List (List D)) → Int → Int → Bool → D → D → D → D → D → (List (List D)) → Option R) (k1 : (List (List D)) → Int → Int → Bool → D → D → D → D → D → (List (List D)) → Option R) (k2 : Int → (List (List D)) → Option R) : Option R :=
  occupancy_visit_s3_p11 n a0 a1 G p w2 h9 w250 h10
    (fun w411 w412 w413 w414 w415 w416 w417 w418 w419 w420 =>
    k0 w411 w412 w413 w414 w415 w416 w417 w418 w419 w420)
    (fun w421 w422 w423 w424 w425 w426 w427 w428 w429 w430 =>
    k1 w421 w422 w423 w424 w425 w426 w427 w428 w429 w430)
    (fun w431 w432 w433 w434 w435 w436 w437 w438 w439 w440 =>
    occupancy_visit_s3_p12 n a0 a1 G p h9 w2 w431 w432 w433 w434 w435 w436 w437 w438 w439 w440
      (fun w442 =>
      k2 w442 w440))
def occupancy_visit_s3_p14 {R : Type} (n : Nat) (a0 : Int) (a1 : List (List D)) (G : Int → List (List D)) (p : List (List D)) (w2 : Int) (h9 : Int) (w250 : Bool) (h10 : List (List D)) (k0 : (List (List D)) → Int → Int → Bool → D → D → D → D → D → (List (List D)) → Option R) (k1 : (List (List D)) → Int → Int → Bool → D → D → D → D → D → (List (List D)) → Option R) (k2 : Int → (List (List D)) → Option R) (k3 : Option R) : Option R :=
  occupancy_visit_s3_p3 n a0 a1 G p w2 h9 w250 h10
    (occupancy_visit_s3_p13 n a0 a1 G p w2 h9 w250 h10
      (fun w443 w444 w445 w446 w447 w448 w449 w450 w451 w452 =>
      k0 w443 w444 w445 w446 w447 w448 w449 w450 w451 w452)
      (fun w453 w454 w455 w456 w457 w458 w459 w460 w461 w462 =>
      k1 w453 w454 w455 w456 w457 w458 w459 w460 w461 w462)
      (fun w463 w464 =>
      k2 w463 w464))
    (k3)
def occupancy_visit_s3_p15 {R : Type} (n : Nat) (a0 : Int) (a1 : List (List D)) (G : Int → List (List D)) (p : List (List D)) (w2 : Int) (h9 : Int) (h10 : List (List D)) (k0 : (List (List D)) → Int → Int → Bool → D → D → D → D → D → (List (List D)) → Option R) (k1 : (List (List D)) → Int → Int → Bool → D → D → D → D → D → (List (List D)) → Option R) (k2 : Int → (List (List D)) → Option R) (k3 : Bool → Option R) : Option R :=
  occupancy_visit_s3_p2 n a0 a1 G p w2 h9 h10
    (fun w250 =>
    occupancy_visit_s3_p14 n a0 a1 G p w2 h9 w250 h10
      (fun w465 w466 w467 w468 w469 w470 w471 w472 w473 w474 =>
      k0 w465 w466 w467 w468 w469 w470 w471 w472 w473 w474)
      (fun w475 w476 w477 w478 w479 w480 w481 w482 w483 w484 =>
      k1 w475 w476 w477 w478 w479 w480 w481 w482 w483 w484)
      (fun w485 w486 =>
      k2 w485 w486)
      (k3 w250))
def occupancy_visit_s3_r16 {R : Type} (n : Nat) (a0 : Int) (a1 : List (List D)) (G : Int → List (List D)) (p : List (List D)) (w2 : Int) (k0 : Int → (List (List D)) → Int → Int → Bool → D → D → D → D → D → (List (List D)) → Option R) (k1 : Int → (List (List D)) → Int → Int → Bool → D → D → D → D → D → (List (List D)) → Option R) (k2 : Int → Bool → (List (List D)) → Option R) : Nat → Int → (List (List D)) → Option R
  | 0, _, _ => none
  | m + 1, h9, h10 =>
    occupancy_visit_s3_p15 n a0 a1 G p w2 h9 h10
      (fun w487 w488 w489 w490 w491 w492 w493 w494 w495 w496 =>
      k0 h9 w487 w488 w489 w490 w491 w492 w493 w494 w495 w496)
      (fun w497 w498 w499 w500 w501 w502 w503 w504 w505 w506 =>
      k1 h9 w497 w498 w499 w500 w501 w502 w503 w504 w505 w506)
      (fun w507 w508 =>
      occupancy_visit_s3_r16 n a0 a1 G p w2 k0 k1 k2 m w507 w508)
      (fun w509 =>
      k2 h9 w509 h10)
def occupancy_visit_s3_p16 {R : Type} (n : Nat) (a0 : Int) (a1 : List (List D)) (G : Int → List (List D)) (p : List (List D)) (w2 : Int) (q1 : List (List D)) (k0 : Int → (List (List D)) → Int → Int → Bool → D → D → D → D → D → (List (List D)) → Option R) (k1 : Int → (List (List D)) → Int → Int → Bool → D → D → D → D → D → (List (List D)) → Option R) (k2 : Int → Bool → (List (List D)) → Option R) : Option R := occupancy_visit_s3_r16 n a0 a1 G p w2 k0 k1 k2 n (0 : Int) q1
def occupancy_visit_s3_p17 {R : Type} (n : Nat) (a0 : Int) (a1 : List (List D)) (G : Int → List (List D)) (p : List (List D)) (w2 : Int) (q1 : List (List D)) (k0 : Int → (List (List D)) → Int → Int → Bool → D → D → D → D → D → (List (List D)) → Option R) (k1 : Int → (List (List D)) → Int → Int → Bool → D → D → D → D → D → (List (List D)) → Option R) (k2 : Int → Bool → (List (List D)) → Option R) : Option R :=
  occupancy_visit_s3_p16 n a0 a1 G p w2 q1
    (fun w510 w511 w512 w513 w514 w515 w516 w517 w518 w519 w520 =>
    k0 w510 w511 w512 w513 w514 w515 w516 w517 w518 w519 w520)
    (fun w521 w522 w523 w524 w525 w526 w527 w528 w529 w530 w531 =>
    k1 w521 w522 w523 w524 w525 w526 w527 w528 w529 w530 w531)
    (fun w532 w533 w534 =>
    k2 w532 w533 w534)
def occupancy_visit_s3_p18 {R : Type} (n : Nat) (a0 : Int) (a1 : List (List D)) (G : Int → List (List D)) (p : List (List D)) (q1 : List (List D)) (k0 : Int → Int → (List (List D)) → Int → Int → Bool → D → D → D → D → D → (List (List D)) → Option R) (k1 : Int → Int → (List (List D)) → Int → Int → Bool → D → D → D → D → D → (List (List D)) → Option R) (k2 : Int → Int → Bool → (List (List D)) → Option R) : Option R :=
  occupancy_visit_s3_p1 n a0 a1 G p q1
    (fun w2 =>
    occupancy_visit_s3_p17 n a0 a1 G p w2 q1
      (fun w535 w536 w537 w538 w539 w540 w541 w542 w543 w544 w545 =>
      k0 w535 w2 w536 w537 w538 w539 w540 w541 w542 w543 w544 w545)
      (fun w546 w547 w548 w549 w550 w551 w552 w553 w554 w555 w556 =>
      k1 w546 w2 w547 w548 w549 w550 w551 w552 w553 w554 w555 w556)
      (fun w557 w558 w559 =>
      k2 w2 w557 w558 w559))
def occupancy_visit_s3 {R : Type} (n : Nat) (a0 : Int) (a1 : List (List D)) (q1 : List (List D)) (K : (List (List D)) → Option R) : Option R :=
  visPre a1 fun G p =>
  occupancy_visit_s3_p18 n a0 a1 G p q1
    (fun w535 w2 w536 w537 w538 w539 w540 w541 w542 w543 w544 w545 => K w545)
    (fun w546 w2 w547 w548 w549 w550 w551 w552 w553 w554 w555 w556 => K w556)
    (fun w2 w557 w558 w559 => K w559)
end Go.Vx
/-
  occupancy_Conflicts: the pure function
-/
set_option linter.unusedVariables false
namespace Go.Vx
def occupancy_Conflicts_p1 {R : Type} (n : Nat) (a0 : Int) (a1 : List (List D)) (k0 : (List (List D)) → Option R) : Option R :=
  gb true (occupancy_Valid n a0 a1 some) false fun r1 =>
  bif (!r1) then
    k0 []
  else
    gb true (occupancy_visit_s3 n a0 a1 [] some) [] fun r2 =>
    k0 r2
def occupancy_Conflicts {R : Type} (n : Nat) (a0 : Int) (a1 : List (List D)) (K : (List (List D)) → Option R) : Option R :=
  occupancy_Conflicts_p1 n a0 a1
    (fun z3 => K z3)
end Go.Vx
/-
  law19_OccupancyFreeMeansOne: the pure function
-/
set_option linter.unusedVariables false
namespace Go.Vx
def law19_OccupancyFreeMeansOne_p1 {R : Type} (n : Nat) (a0 : Int) (a1 : List (List D)) (a2 : Int) (a3 : Int) (k0 : Bool → Option R) : Option R :=
  gb true (keep_Pick n a0 (40 : Int) some) 0 fun r1 =>
  gb true (law19_some n a1 some) [] fun r2 =>
  gb true (keep_Pick n a2 (3 : Int) some) 0 fun r3 =>
  gb true (occupancy_At n (IntKind.wrap .i64 ((2 : Int) + r1)) r2 r3 a3 some) [] fun r4 =>
  gb true (law19_awake n  some) false fun r5 =>
  gb r5 (occupancy_Free n (IntKind.wrap .i64 ((2 : Int) + r1)) r2 some) false fun r6 =>
  k0 (bif r5 then (bif (!r6) then true else (decide (((List.length r4 : Nat) : Int) ≤ (1 : Int)))) else false)
def law19_OccupancyFreeMeansOne {R : Type} (n : Nat) (a0 : Int) (a1 : List (List D)) (a2 : Int) (a3 : Int) (K : Bool → Option R) : Option R :=
  law19_OccupancyFreeMeansOne_p1 n a0 a1 a2 a3
    (fun z7 => K z7)
end Go.Vx
/-
  ref19_in: the pure function
-/
set_option linter.unusedVariables false
namespace Go.Vx
def ref19_in_p1 {R : Type} (n : Nat) (a0 : Int) (a1 : Int) (a2 : Int) (k0 : Bool → Option R) : Option R :=
  k0 (bif (decide (a0 ≥ a1)) then (decide (a0 ≤ a2)) else false)
def ref19_in {R : Type} (n : Nat) (a0 : Int) (a1 : Int) (a2 : Int) (K : Bool → Option R) : Option R :=
  ref19_in_p1 n a0 a1 a2
    (fun z1 => K z1)
end Go.Vx
/-
  ref19_Valid: the pure function
-/
set_option linter.unusedVariables false
namespace Go.Vx
def ref19_Valid_p1 {R : Type} (n : Nat) (a0 : Int) (a1 : List (List D)) (k0 : Option R) : Option R :=
  k0
def ref19_Valid_p2 {R : Type} (n : Nat) (a0 : Int) (a1 : List (List D)) (k0 : Option R) (k1 : Bool → Option R) : Option R :=
  gb true (ref19_in n a0 (2 : Int) (7200 : Int) some) false fun r1 =>
  bif (!r1) then
    k0
  else
    k1 (!r1)
def ref19_Valid_p3 {R : Type} (n : Nat) (a1 : List (List D)) (w3 : Bool) (k0 : Int → Option R) : Option R :=
  k0 ((List.length a1 : Nat) : Int)
def ref19_Valid_p4 {R : Type} (n : Nat) (a1 : List (List D)) (w5 : Int) (h8 : Int) (k0 : Option R) (k1 : Int → Option R) (k2 : Bool → Option R) : Option R :=
  bif (decide (h8 < w5)) then
    gb true (rowAt a1 h8) [] fun r25 =>
    gb true (r25[0]?) (.bool false) fun c26 =>
    gb true (r25[1]?) (.bool false) fun c27 =>
    gb true (r25[2]?) (.bool false) fun c28 =>
    gb true (r25[3]?) (.bool false) fun c29 =>
    gb true (r25[4]?) (.bool false) fun c30 =>
    gb true (pInt .i64 c26) 0 fun i31 =>
    gb (!(decide (i31 < (0 : Int)))) (pInt .i64 c27) 0 fun i32 =>
    gb (!(bif (decide (i31 < (0 : Int))) then true else (decide (i32 < (0 : Int))))) (pInt .i64 c28) 0 fun i33 =>
    gb (!(bif (decide (i31 < (0 : Int))) then true else (decide (i32 < (0 : Int))))) (ref19_in n i33 (-1099511627776 : Int) (1099511627776 : Int) some) false fun r34 =>
    gb (!(bif (bif (decide (i31 < (0 : Int))) then true else (decide (i32 < (0 : Int)))) then true else (!r34))) (pInt .i64 c29) 0 fun i35 =>
    gb (!(bif (bif (decide (i31 < (0 : Int))) then true else (decide (i32 < (0 : Int)))) then true else (!r34))) (ref19_in n i35 (1 : Int) (1099511627776 : Int) some) false fun r36 =>
    gb (!(bif (bif (bif (decide (i31 < (0 : Int))) then true else (decide (i32 < (0 : Int)))) then true else (!r34)) then true else (!r36))) (pInt .i64 c30) 0 fun i37 =>
    gb (!(bif (bif (bif (decide (i31 < (0 : Int))) then true else (decide (i32 < (0 : Int)))) then true else (!r34)) then true else (!r36))) (ref19_in n i37 (0 : Int) (1099511627776 : Int) some) false fun r38 =>
    bif (bif (bif (bif (bif (decide (i31 < (0 : Int))) then true else (decide (i32 < (0 : Int)))) then true else (!r34)) then true else (!r36)) then true else (!r38)) then
      k0
    else
      k1 (IntKind.wrap .i64 (h8 + (1 : Int)))
  else
    k2 (decide (h8 < w5))
def ref19_Valid_r5 {R : Type} (n : Nat) (a1 : List (List D)) (w5 : Int) (k0 : Option R) (k1 : Int → Bool → Option R) : Nat → Int → Option R
  | 0, _ => none
  | m + 1, h8 =>
    ref19_Valid_p4 n a1 w5 h8
      (k0)
      (fun w41 =>
      ref19_Valid_r5 n a1 w5 k0 k1 m w41)
      (fun w42 =>
      k1 h8 w42)
def ref19_Valid_p5 {R : Type} (n : Nat) (a1 : List (List D)) (w5 : Int) (k0 : Option R) (k1 : Int → Bool → Option R) : Option R := ref19_Valid_r5 n a1 w5 k0 k1 n (0 : Int)
def ref19_Valid_p6 {R : Type} (n : Nat) (a1 : List (List D)) (w5 : Int) (k0 : Option R) (k1 : Int → Bool → Option R) : Option R :=
  ref19_Valid_p5 n a1 w5
    (k0)
    (fun w43 w44 =>
    k1 w43 w44)
def ref19_Valid_p7 {R : Type} (n : Nat) (a1 : List (List D)) (w3 : Bool) (k0 : Option R) (k1 : Int → Int → Bool → Option R) : Option R :=
  ref19_Valid_p3 n a1 w3
    (fun w5 =>
    ref19_Valid_p6 n a1 w5
      (k0)
      (fun w45 w46 =>
      k1 w5 w45 w46))
def ref19_Valid_p8 {R : Type} (n : Nat) (a1 : List (List D)) (w47 : Int) (w48 : Int) (w49 : Bool) (k0 : Option R) : Option R :=
  k0
def ref19_Valid_p9 {R : Type} (n : Nat) (a1 : List (List D)) (w3 : Bool) (k0 : Bool → Option R) : Option R :=
  ref19_Valid_p7 n a1 w3
    (k0 false)
    (fun w47 w48 w49 =>
    ref19_Valid_p8 n a1 w47 w48 w49
      (k0 true))
def ref19_Valid_p10 {R : Type} (n : Nat) (a0 : Int) (a1 : List (List D)) (k0 : Bool → Option R) : Option R :=
  ref19_Valid_p2 n a0 a1
    (k0 false)
    (fun w3 =>
    ref19_Valid_p9 n a1 w3
      (fun w51 =>
      k0 w51))
def ref19_Valid_p11 {R : Type} (n : Nat) (a0 : Int) (a1 : List (List D)) (k0 : Bool → Option R) : Option R :=
  ref19_Valid_p1 n a0 a1
    (ref19_Valid_p10 n a0 a1
      (fun w53 =>
      k0 w53))
def ref19_Valid {R : Type} (n : Nat) (a0 : Int) (a1 : List (List D)) (K : Bool → Option R) : Option R :=
  ref19_Valid_p11 n a0 a1
    (fun w53 => K w53)
end Go.Vx
/-
  ref1_Floor: the pure function
-/
set_option linter.unusedVariables false
namespace Go.Vx
def ref1_Floor_p1 {R : Type} (n : Nat) (a0 : Int) (a1 : Int) (k0 : Int → Option R) : Option R :=
  gb true (nz a1) () fun u1 =>
  gb true (nz a1) () fun u2 =>
  bif (decide ((Int.tmod a0 a1) < (0 : Int))) then
    k0 (IntKind.wrap .i64 ((IntKind.wrap .i64 (Int.tdiv a0 a1)) - (1 : Int)))
  else
    k0 (IntKind.wrap .i64 (Int.tdiv a0 a1))
def ref1_Floor {R : Type} (n : Nat) (a0 : Int) (a1 : Int) (K : Int → Option R) : Option R :=
  ref1_Floor_p1 n a0 a1
    (fun z3 => K z3)
end Go.Vx
/-
  ref1_Ceil: the pure function
-/
set_option linter.unusedVariables false
namespace Go.Vx
def ref1_Ceil_p1 {R : Type} (n : Nat) (a0 : Int) (a1 : Int) (k0 : Int → Option R) : Option R :=
  gb true (nz a1) () fun u1 =>
  gb true (nz a1) () fun u2 =>
  bif (decide ((Int.tmod a0 a1) > (0 : Int))) then
    k0 (IntKind.wrap .i64 ((IntKind.wrap .i64 (Int.tdiv a0 a1)) + (1 : Int)))
  else
    k0 (IntKind.wrap .i64 (Int.tdiv a0 a1))
def ref1_Ceil {R : Type} (n : Nat) (a0 : Int) (a1 : Int) (K : Int → Option R) : Option R :=
  ref1_Ceil_p1 n a0 a1
    (fun z3 => K z3)
end Go.Vx
/-
  ref19_conflict: the pure function
-/
set_option linter.unusedVariables false
namespace Go.Vx
def ref19_conflict_p1 {R : Type} (n : Nat) (a0 : Int) (a1_0 : Int) (a1_1 : Int) (a1_2 : Int) (a1_3 : Int) (a1_4 : Int) (a2_0 : Int) (a2_1 : Int) (a2_2 : Int) (a2_3 : Int) (a2_4 : Int) (k0 : Bool → Option R) : Option R :=
  bif (a1_0 != a2_0) then
    k0 false
  else
    gb true (ref1_Floor n (IntKind.wrap .i64 ((IntKind.wrap .i64 (a1_2 - a2_2)) - a2_3)) a0 some) 0 fun r1 =>
    gb true (ref1_Ceil n (IntKind.wrap .i64 ((IntKind.wrap .i64 (a1_2 + a1_3)) - a2_2)) a0 some) 0 fun r2 =>
    bif (decide ((IntKind.wrap .i64 (r1 + (1 : Int))) > (IntKind.wrap .i64 (r2 - (1 : Int))))) then
      k0 false
    else
      bif (a1_1 != a2_1) then
        k0 true
      else
        bif (a1_4 == (0 : Int)) then
          k0 (bif ((IntKind.wrap .i64 (r1 + (1 : Int))) != (0 : Int)) then true else ((IntKind.wrap .i64 (r2 - (1 : Int))) != (0 : Int)))
        else
          bif (a1_4 == (1 : Int)) then
            k0 false
          else
            gb (!(decide ((IntKind.wrap .i64 (r1 + (1 : Int))) < (IntKind.wrap .i64 (r2 - (1 : Int)))))) (nz a1_4) () fun u3 =>
            k0 (bif (decide ((IntKind.wrap .i64 (r1 + (1 : Int))) < (IntKind.wrap .i64 (r2 - (1 : Int))))) then true else ((Int.tmod (IntKind.wrap .i64 (r1 + (1 : Int))) a1_4) != (0 : Int)))
def ref19_conflict {R : Type} (n : Nat) (a0 : Int) (a1_0 : Int) (a1_1 : Int) (a1_2 : Int) (a1_3 : Int) (a1_4 : Int) (a2_0 : Int) (a2_1 : Int) (a2_2 : Int) (a2_3 : Int) (a2_4 : Int) (K : Bool → Option R) : Option R :=
  ref19_conflict_p1 n a0 a1_0 a1_1 a1_2 a1_3 a1_4 a2_0 a2_1 a2_2 a2_3 a2_4
    (fun z4 => K z4)
end Go.Vx
/-
  ref19_Conflicts: the pure function
-/
set_option linter.unusedVariables false
namespace Go.Vx
def ref19_Conflicts_p1 {R : Type} (n : Nat) (a0 : Int) (a1 : List (List D)) (k0 : Option R) : Option R :=
  k0
def ref19_Conflicts_p2 {R : Type} (n : Nat) (a0 : Int) (a1 : List (List D)) (k0 : Option R) (k1 : Bool → Option R) : Option R :=
  gb true (ref19_Valid n a0 a1 some) false fun r1 =>
  bif (!r1) then
    k0
  else
    k1 (!r1)
def ref19_Conflicts_p3 {R : Type} (n : Nat) (a0 : Int) (a1 : List (List D)) (w3 : Bool) (k0 : Option R) : Option R :=
  k0
def ref19_Conflicts_p4 {R : Type} (n : Nat) (a0 : Int) (a1 : List (List D)) (k0 : Int → Option R) : Option R :=
  k0 ((List.length a1 : Nat) : Int)
def ref19_Conflicts_p5 {R : Type} (n : Nat) (a0 : Int) (a1 : List (List D)) (w5 : Int) (h9 : Int) (h10 : List (List D)) (k0 : Bool → Option R) : Option R :=
  k0 (decide (h9 < w5))
def ref19_Conflicts_p6 {R : Type} (n : Nat) (a0 : Int) (a1 : List (List D)) (w5 : Int) (h9 : Int) (w99 : Bool) (h10 : List (List D)) (k0 : Option R) (k1 : Option R) : Option R :=
  bif w99 then
    k0
  else
    k1
def ref19_Conflicts_p7 {R : Type} (n : Nat) (a0 : Int) (a1 : List (List D)) (w5 : Int) (h9 : Int) (w99 : Bool) (h10 : List (List D)) (k0 : Option R) : Option R :=
  k0
def ref19_Conflicts_p8 {R : Type} (n : Nat) (a0 : Int) (a1 : List (List D)) (h9 : Int) (w5 : Int) (h10 : List (List D)) (k0 : Option R) : Option R :=
  k0
def ref19_Conflicts_p9 {R : Type} (n : Nat) (a0 : Int) (a1 : List (List D)) (h9 : Int) (h103 : Int) (w5 : Int) (h106 : List (List D)) (k0 : Int → (List (List D)) → Option R) (k1 : Bool → Option R) : Option R :=
  bif (decide (h103 < ((List.length a1 : Nat) : Int))) then
    gb true (rowAt a1 h9) [] fun r134 =>
    gb true (r134[0]?) (.bool false) fun c135 =>
    gb true (r134[1]?) (.bool false) fun c136 =>
    gb true (r134[2]?) (.bool false) fun c137 =>
    gb true (r134[3]?) (.bool false) fun c138 =>
    gb true (r134[4]?) (.bool false) fun c139 =>
    gb true (rowAt a1 h103) [] fun r140 =>
    gb true (r140[0]?) (.bool false) fun c141 =>
    gb true (r140[1]?) (.bool false) fun c142 =>
    gb true (r140[2]?) (.bool false) fun c143 =>
    gb true (r140[3]?) (.bool false) fun c144 =>
    gb true (r140[4]?) (.bool false) fun c145 =>
    gb true (pInt .i64 c135) 0 fun i146 =>
    gb true (pInt .i64 c136) 0 fun i147 =>
    gb true (pInt .i64 c137) 0 fun i148 =>
    gb true (pInt .i64 c138) 0 fun i149 =>
    gb true (pInt .i64 c139) 0 fun i150 =>
    gb true (pInt .i64 c141) 0 fun i151 =>
    gb true (pInt .i64 c142) 0 fun i152 =>
    gb true (pInt .i64 c143) 0 fun i153 =>
    gb true (pInt .i64 c144) 0 fun i154 =>
    gb true (pInt .i64 c145) 0 fun i155 =>
    gb true (ref19_conflict n a0 i146 i147 i148 i149 i150 i151 i152 i153 i154 i155 some) false fun r156 =>
    bif r156 then
      gb true (room ((List.length h106 + List.length [[D.int .i64 h9, D.int .i64 h103]]) * 16)) () fun u157 =>
      k0 (IntKind.wrap .i64 (h103 + (1 : Int))) (h106 ++ [[D.int .i64 h9, D.int .i64 h103]])
    else
      k0 (IntKind.wrap .i64 (h103 + (1 : Int))) h106
  else
    k1 (decide (h103 < ((List.length a1 : Nat) : Int)))
def ref19_Conflicts_r10 {R : Type} (n : Nat) (a0 : Int) (a1 : List (List D)) (h9 : Int) (w5 : Int) (k0 : Int → Bool → (List (List D)) → Option R) : Nat → Int → (List (List D)) → Option R
  | 0, _, _ => none
  | m + 1, h103, h106 =>
    ref19_Conflicts_p9 n a0 a1 h9 h103 w5 h106
      (fun w161 w162 =>
      ref19_Conflicts_r10 n a0 a1 h9 w5 k0 m w161 w162)
      (fun w163 =>
      k0 h103 w163 h106)
def ref19_Conflicts_p10 {R : Type} (n : Nat) (a0 : Int) (a1 : List (List D)) (h9 : Int) (w5 : Int) (h10 : List (List D)) (k0 : Int → Bool → (List (List D)) → Option R) : Option R := ref19_Conflicts_r10 n a0 a1 h9 w5 k0 n h9 h10
def ref19_Conflicts_p11 {R : Type} (n : Nat) (a0 : Int) (a1 : List (List D)) (h9 : Int) (w5 : Int) (h10 : List (List D)) (k0 : Int → Bool → (List (List D)) → Option R) : Option R :=
  ref19_Conflicts_p10 n a0 a1 h9 w5 h10
    (fun w164 w165 w166 =>
    k0 w164 w165 w166)
def ref19_Conflicts_p12 {R : Type} (n : Nat) (a0 : Int) (a1 : List (List D)) (h9 : Int) (w5 : Int) (h10 : List (List D)) (k0 : Int → Bool → (List (List D)) → Option R) : Option R :=
  ref19_Conflicts_p8 n a0 a1 h9 w5 h10
    (ref19_Conflicts_p11 n a0 a1 h9 w5 h10
      (fun w167 w168 w169 =>
      k0 w167 w168 w169))
def ref19_Conflicts_p13 {R : Type} (n : Nat) (a0 : Int) (a1 : List (List D)) (w5 : Int) (h9 : Int) (w99 : Bool) (h10 : List (List D)) (k0 : Int → Bool → (List (List D)) → Option R) : Option R :=
  ref19_Conflicts_p7 n a0 a1 w5 h9 w99 h10
    (ref19_Conflicts_p12 n a0 a1 h9 w5 h10
      (fun w170 w171 w172 =>
      k0 w170 w171 w172))
def ref19_Conflicts_p14 {R : Type} (n : Nat) (a0 : Int) (a1 : List (List D)) (w5 : Int) (h9 : Int) (w99 : Bool) (h10 : List (List D)) (k0 : Int → Bool → (List (List D)) → Option R) : Option R :=
  ref19_Conflicts_p13 n a0 a1 w5 h9 w99 h10
    (fun w173 w174 w175 =>
    k0 w173 w174 w175)
def ref19_Conflicts_p15 {R : Type} (n : Nat) (a0 : Int) (a1 : List (List D)) (h9 : Int) (w176 : Int) (w5 : Int) (w177 : Bool) (w178 : List (List D)) (k0 : Int → Option R) : Option R :=
  k0 (IntKind.wrap .i64 (h9 + (1 : Int)))
def ref19_Conflicts_p16 {R : Type} (n : Nat) (a0 : Int) (a1 : List (List D)) (w5 : Int) (h9 : Int) (w99 : Bool) (h10 : List (List D)) (k0 : Int → (List (List D)) → Option R) : Option R :=
  ref19_Conflicts_p14 n a0 a1 w5 h9 w99 h10
    (fun w176 w177 w178 =>
    ref19_Conflicts_p15 n a0 a1 h9 w176 w5 w177 w178
      (fun w180 =>
      k0 w180 w178))
def ref19_Conflicts_p17 {R : Type} (n : Nat) (a0 : Int) (a1 : List (List D)) (w5 : Int) (h9 : Int) (w99 : Bool) (h10 : List (List D)) (k0 : Int → (List (List D)) → Option R) (k1 : Option R) : Option R :=
  ref19_Conflicts_p6 n a0 a1 w5 h9 w99 h10
    (ref19_Conflicts_p16 n a0 a1 w5 h9 w99 h10
      (fun w181 w182 =>
      k0 w181 w182))
    (k1)
def ref19_Conflicts_p18 {R : Type} (n : Nat) (a0 : Int) (a1 : List (List D)) (w5 : Int) (h9 : Int) (h10 : List (List D)) (k0 : Int → (List (List D)) → Option R) (k1 : Bool → Option R) : Option R :=
  ref19_Conflicts_p5 n a0 a1 w5 h9 h10
    (fun w99 =>
    ref19_Conflicts_p17 n a0 a1 w5 h9 w99 h10
      (fun w183 w184 =>
      k0 w183 w184)
      (k1 w99))
def ref19_Conflicts_r19 {R : Type} (n : Nat) (a0 : Int) (a1 : List (List D)) (w5 : Int) (k0 : Int → Bool → (List (List D)) → Option R) : Nat → Int → (List (List D)) → Option R
  | 0, _, _ => none
  | m + 1, h9, h10 =>
    ref19_Conflicts_p18 n a0 a1 w5 h9 h10
      (fun w185 w186 =>
      ref19_Conflicts_r19 n a0 a1 w5 k0 m w185 w186)
      (fun w187 =>
      k0 h9 w187 h10)
def ref19_Conflicts_p19 {R : Type} (n : Nat) (a0 : Int) (a1 : List (List D)) (w5 : Int) (k0 : Int → Bool → (List (List D)) → Option R) : Option R := ref19_Conflicts_r19 n a0 a1 w5 k0 n (0 : Int) []
def ref19_Conflicts_p20 {R : Type} (n : Nat) (a0 : Int) (a1 : List (List D)) (w5 : Int) (k0 : Int → Bool → (List (List D)) → Option R) : Option R :=
  ref19_Conflicts_p19 n a0 a1 w5
    (fun w188 w189 w190 =>
    k0 w188 w189 w190)
def ref19_Conflicts_p21 {R : Type} (n : Nat) (a0 : Int) (a1 : List (List D)) (k0 : Int → Int → Bool → (List (List D)) → Option R) : Option R :=
  ref19_Conflicts_p4 n a0 a1
    (fun w5 =>
    ref19_Conflicts_p20 n a0 a1 w5
      (fun w191 w192 w193 =>
      k0 w5 w191 w192 w193))
def ref19_Conflicts_p22 {R : Type} (n : Nat) (a0 : Int) (a1 : List (List D)) (w194 : Int) (w195 : Int) (w196 : Bool) (w197 : List (List D)) (k0 : Option R) : Option R :=
  k0
def ref19_Conflicts_p23 {R : Type} (n : Nat) (a0 : Int) (a1 : List (List D)) (k0 : (List (List D)) → Option R) : Option R :=
  ref19_Conflicts_p21 n a0 a1
    (fun w194 w195 w196 w197 =>
    ref19_Conflicts_p22 n a0 a1 w194 w195 w196 w197
      (k0 w197))
def ref19_Conflicts_p24 {R : Type} (n : Nat) (a0 : Int) (a1 : List (List D)) (w3 : Bool) (k0 : (List (List D)) → Option R) : Option R :=
  ref19_Conflicts_p3 n a0 a1 w3
    (ref19_Conflicts_p23 n a0 a1
      (fun w198 =>
      k0 w198))
def ref19_Conflicts_p25 {R : Type} (n : Nat) (a0 : Int) (a1 : List (List D)) (k0 : Option R) (k1 : (List (List D)) → Option R) : Option R :=
  ref19_Conflicts_p2 n a0 a1
    (k0)
    (fun w3 =>
    ref19_Conflicts_p24 n a0 a1 w3
      (fun w199 =>
      k1 w199))
def ref19_Conflicts_p26 {R : Type} (n : Nat) (a0 : Int) (a1 : List (List D)) (k0 : Option R) (k1 : (List (List D)) → Option R) : Option R :=
  ref19_Conflicts_p1 n a0 a1
    (ref19_Conflicts_p25 n a0 a1
      (k0)
      (fun w200 =>
      k1 w200))
def ref19_Conflicts {R : Type} (n : Nat) (a0 : Int) (a1 : List (List D)) (K : (List (List D)) → Option R) : Option R :=
  ref19_Conflicts_p26 n a0 a1
    (K [])
    (fun w200 => K w200)
end Go.Vx
/-
  keep_Same_2_int: the pure function
-/
set_option linter.unusedVariables false
namespace Go.Vx
def keep_Same_2_int_p1 {R : Type} (n : Nat) (a0 : List (List D)) (a1 : List (List D)) (k0 : Option R) : Option R :=
  k0
def keep_Same_2_int_p2 {R : Type} (n : Nat) (a0 : List (List D)) (a1 : List (List D)) (k0 : Option R) (k1 : Bool → Option R) : Option R :=
  bif (((List.length a0 : Nat) : Int) != ((List.length a1 : Nat) : Int)) then
    k0
  else
    k1 (((List.length a0 : Nat) : Int) != ((List.length a1 : Nat) : Int))
def keep_Same_2_int_p3 {R : Type} (n : Nat) (a0 : List (List D)) (a1 : List (List D)) (w2 : Bool) (k0 : Int → Option R) : Option R :=
  k0 ((List.length a0 : Nat) : Int)
def keep_Same_2_int_p4 {R : Type} (n : Nat) (a0 : List (List D)) (a1 : List (List D)) (w4 : Int) (h8 : Int) (k0 : Option R) (k1 : Int → Option R) (k2 : Bool → Option R) : Option R :=
  bif (decide (h8 < w4)) then
    gb true (rowAt a0 h8) [] fun r21 =>
    gb true (r21[0]?) (.bool false) fun c22 =>
    gb true (r21[1]?) (.bool false) fun c23 =>
    gb true (rowAt a1 h8) [] fun r24 =>
    gb true (r24[0]?) (.bool false) fun c25 =>
    gb true (r24[1]?) (.bool false) fun c26 =>
    gb true (pInt .i64 c22) 0 fun i27 =>
    gb true (pInt .i64 c25) 0 fun i28 =>
    gb true (pInt .i64 c23) 0 fun i29 =>
    gb true (pInt .i64 c26) 0 fun i30 =>
    bif (!((i27 == i28) && (i29 == i30))) then
      k0
    else
      k1 (IntKind.wrap .i64 (h8 + (1 : Int)))
  else
    k2 (decide (h8 < w4))
def keep_Same_2_int_r5 {R : Type} (n : Nat) (a0 : List (List D)) (a1 : List (List D)) (w4 : Int) (k0 : Option R) (k1 : Int → Bool → Option R) : Nat → Int → Option R
  | 0, _ => none
  | m + 1, h8 =>
    keep_Same_2_int_p4 n a0 a1 w4 h8
      (k0)
      (fun w33 =>
      keep_Same_2_int_r5 n a0 a1 w4 k0 k1 m w33)
      (fun w34 =>
      k1 h8 w34)
def keep_Same_2_int_p5 {R : Type} (n : Nat) (a0 : List (List D)) (a1 : List (List D)) (w4 : Int) (k0 : Option R) (k1 : Int → Bool → Option R) : Option R := keep_Same_2_int_r5 n a0 a1 w4 k0 k1 n (0 : Int)
def keep_Same_2_int_p6 {R : Type} (n : Nat) (a0 : List (List D)) (a1 : List (List D)) (w4 : Int) (k0 : Option R) (k1 : Int → Bool → Option R) : Option R :=
  keep_Same_2_int_p5 n a0 a1 w4
    (k0)
    (fun w35 w36 =>
    k1 w35 w36)
def keep_Same_2_int_p7 {R : Type} (n : Nat) (a0 : List (List D)) (a1 : List (List D)) (w2 : Bool) (k0 : Option R) (k1 : Int → Int → Bool → Option R) : Option R :=
  keep_Same_2_int_p3 n a0 a1 w2
    (fun w4 =>
    keep_Same_2_int_p6 n a0 a1 w4
      (k0)
      (fun w37 w38 =>
      k1 w4 w37 w38))
def keep_Same_2_int_p8 {R : Type} (n : Nat) (a0 : List (List D)) (a1 : List (List D)) (w39 : Int) (w40 : Int) (w41 : Bool) (k0 : Option R) : Option R :=
  k0
def keep_Same_2_int_p9 {R : Type} (n : Nat) (a0 : List (List D)) (a1 : List (List D)) (w2 : Bool) (k0 : Bool → Option R) : Option R :=
  keep_Same_2_int_p7 n a0 a1 w2
    (k0 false)
    (fun w39 w40 w41 =>
    keep_Same_2_int_p8 n a0 a1 w39 w40 w41
      (k0 true))
def keep_Same_2_int_p10 {R : Type} (n : Nat) (a0 : List (List D)) (a1 : List (List D)) (k0 : Bool → Option R) : Option R :=
  keep_Same_2_int_p2 n a0 a1
    (k0 false)
    (fun w2 =>
    keep_Same_2_int_p9 n a0 a1 w2
      (fun w43 =>
      k0 w43))
def keep_Same_2_int_p11 {R : Type} (n : Nat) (a0 : List (List D)) (a1 : List (List D)) (k0 : Bool → Option R) : Option R :=
  keep_Same_2_int_p1 n a0 a1
    (keep_Same_2_int_p10 n a0 a1
      (fun w45 =>
      k0 w45))
def keep_Same_2_int {R : Type} (n : Nat) (a0 : List (List D)) (a1 : List (List D)) (K : Bool → Option R) : Option R :=
  keep_Same_2_int_p11 n a0 a1
    (fun w45 => K w45)
end Go.Vx
/-
  ref19_Free: the pure function
-/
set_option linter.unusedVariables false
namespace Go.Vx
def ref19_Free_p1 {R : Type} (n : Nat) (a0 : Int) (a1 : List (List D)) (k0 : Bool → Option R) : Option R :=
  gb true (ref19_Valid n a0 a1 some) false fun r1 =>
  gb r1 (ref19_Conflicts n a0 a1 some) [] fun r2 =>
  k0 (bif r1 then (((List.length r2 : Nat) : Int) == (0 : Int)) else false)
def ref19_Free {R : Type} (n : Nat) (a0 : Int) (a1 : List (List D)) (K : Bool → Option R) : Option R :=
  ref19_Free_p1 n a0 a1
    (fun z3 => K z3)
end Go.Vx
/-
  ref19_member: the pure function
-/
set_option linter.unusedVariables false
namespace Go.Vx
def ref19_member_p1 {R : Type} (n : Nat) (a0 : List (List D)) (a1 : Int) (k0 : Option R) : Option R :=
  k0
def ref19_member_p2 {R : Type} (n : Nat) (a0 : List (List D)) (a1 : Int) (k0 : Int → Option R) : Option R :=
  k0 ((List.length a0 : Nat) : Int)
def ref19_member_p3 {R : Type} (n : Nat) (a0 : List (List D)) (a1 : Int) (w2 : Int) (h6 : Int) (k0 : Option R) (k1 : Int → Option R) (k2 : Bool → Option R) : Option R :=
  bif (decide (h6 < w2)) then
    gb true (rowAt a0 h6) [] fun r12 =>
    gb true (r12[0]?) (.bool false) fun c13 =>
    gb true (pInt .i64 c13) 0 fun i14 =>
    bif (i14 == a1) then
      k0
    else
      k1 (IntKind.wrap .i64 (h6 + (1 : Int)))
  else
    k2 (decide (h6 < w2))
def ref19_member_r4 {R : Type} (n : Nat) (a0 : List (List D)) (a1 : Int) (w2 : Int) (k0 : Option R) (k1 : Int → Bool → Option R) : Nat → Int → Option R
  | 0, _ => none
  | m + 1, h6 =>
    ref19_member_p3 n a0 a1 w2 h6
      (k0)
      (fun w17 =>
      ref19_member_r4 n a0 a1 w2 k0 k1 m w17)
      (fun w18 =>
      k1 h6 w18)
def ref19_member_p4 {R : Type} (n : Nat) (a0 : List (List D)) (a1 : Int) (w2 : Int) (k0 : Option R) (k1 : Int → Bool → Option R) : Option R := ref19_member_r4 n a0 a1 w2 k0 k1 n (0 : Int)
def ref19_member_p5 {R : Type} (n : Nat) (a0 : List (List D)) (a1 : Int) (w2 : Int) (k0 : Option R) (k1 : Int → Bool → Option R) : Option R :=
  ref19_member_p4 n a0 a1 w2
    (k0)
    (fun w19 w20 =>
    k1 w19 w20)
def ref19_member_p6 {R : Type} (n : Nat) (a0 : List (List D)) (a1 : Int) (k0 : Option R) (k1 : Int → Int → Bool → Option R) : Option R :=
  ref19_member_p2 n a0 a1
    (fun w2 =>
    ref19_member_p5 n a0 a1 w2
      (k0)
      (fun w21 w22 =>
      k1 w2 w21 w22))
def ref19_member_p7 {R : Type} (n : Nat) (a0 : List (List D)) (a1 : Int) (w23 : Int) (w24 : Int) (w25 : Bool) (k0 : Option R) : Option R :=
  k0
def ref19_member_p8 {R : Type} (n : Nat) (a0 : List (List D)) (a1 : Int) (k0 : Bool → Option R) : Option R :=
  ref19_member_p6 n a0 a1
    (k0 true)
    (fun w23 w24 w25 =>
    ref19_member_p7 n a0 a1 w23 w24 w25
      (k0 false))
def ref19_member_p9 {R : Type} (n : Nat) (a0 : List (List D)) (a1 : Int) (k0 : Bool → Option R) : Option R :=
  ref19_member_p1 n a0 a1
    (ref19_member_p8 n a0 a1
      (fun w27 =>
      k0 w27))
def ref19_member {R : Type} (n : Nat) (a0 : List (List D)) (a1 : Int) (K : Bool → Option R) : Option R :=
  ref19_member_p9 n a0 a1
    (fun w27 => K w27)
end Go.Vx
/-
  ref19_At: the pure function
-/
set_option linter.unusedVariables false
namespace Go.Vx
def ref19_At_p1 {R : Type} (n : Nat) (a0 : Int) (a1 : List (List D)) (a2 : Int) (a3 : Int) (k0 : Option R) : Option R :=
  k0
def ref19_At_p2 {R : Type} (n : Nat) (a0 : Int) (a1 : List (List D)) (a2 : Int) (a3 : Int) (k0 : Option R) (k1 : Bool → Option R) : Option R :=
  gb true (ref19_Valid n a0 a1 some) false fun r1 =>
  bif (!r1) then
    k0
  else
    k1 (!r1)
def ref19_At_p3 {R : Type} (n : Nat) (a0 : Int) (a1 : List (List D)) (a2 : Int) (a3 : Int) (w3 : Bool) (k0 : Int → Option R) : Option R :=
  gb true (ref1_Mod n a3 a0 some) 0 fun r4 =>
  k0 r4
def ref19_At_p4 {R : Type} (n : Nat) (a0 : Int) (a1 : List (List D)) (a2 : Int) (w5 : Int) (k0 : Option R) : Option R :=
  k0
def ref19_At_p5 {R : Type} (n : Nat) (a0 : Int) (a1 : List (List D)) (a2 : Int) (w5 : Int) (k0 : Int → Option R) : Option R :=
  k0 ((List.length a1 : Nat) : Int)
def ref19_At_p6 {R : Type} (n : Nat) (a0 : Int) (a1 : List (List D)) (a2 : Int) (w5 : Int) (w7 : Int) (h13 : Int) (h14 : List (List D)) (k0 : Bool → Option R) : Option R :=
  k0 (decide (h13 < w7))
def ref19_At_p7 {R : Type} (n : Nat) (a0 : Int) (a1 : List (List D)) (a2 : Int) (w5 : Int) (w7 : Int) (h13 : Int) (w113 : Bool) (h14 : List (List D)) (k0 : Option R) (k1 : Option R) : Option R :=
  bif w113 then
    k0
  else
    k1
def ref19_At_p8 {R : Type} (n : Nat) (a0 : Int) (a1 : List (List D)) (a2 : Int) (w5 : Int) (w7 : Int) (h13 : Int) (w113 : Bool) (h14 : List (List D)) (k0 : Option R) : Option R :=
  k0
def ref19_At_p9 {R : Type} (n : Nat) (a0 : Int) (a1 : List (List D)) (a2 : Int) (w5 : Int) (h13 : Int) (w7 : Int) (h14 : List (List D)) (k0 : D → D → D → D → D → Option R) : Option R :=
  gb true (rowAt a1 h13) [] fun r114 =>
  gb true (r114[0]?) (.bool false) fun c115 =>
  gb true (r114[1]?) (.bool false) fun c116 =>
  gb true (r114[2]?) (.bool false) fun c117 =>
  gb true (r114[3]?) (.bool false) fun c118 =>
  gb true (r114[4]?) (.bool false) fun c119 =>
  k0 c115 c116 c117 c118 c119
def ref19_At_p10 {R : Type} (n : Nat) (a0 : Int) (a1 : List (List D)) (a2 : Int) (w5 : Int) (w7 : Int) (h13 : Int) (w120 : D) (w121 : D) (w122 : D) (w123 : D) (w124 : D) (h14 : List (List D)) (k0 : Bool → Option R) (k1 : Bool → Option R) : Option R :=
  gb true (pInt .i64 w120) 0 fun i125 =>
  gb (!(i125 != a2)) (pInt .i64 w122) 0 fun i126 =>
  gb (!(i125 != a2)) (ref1_Mod n (IntKind.wrap .i64 (w5 - i126)) a0 some) 0 fun r127 =>
  gb (!(i125 != a2)) (pInt .i64 w123) 0 fun i128 =>
  gb (!(bif (i125 != a2) then true else (decide (r127 ≥ i128)))) (pInt .i64 w121) 0 fun i129 =>
  gb (!(bif (i125 != a2) then true else (decide (r127 ≥ i128)))) (ref19_member n h14 i129 some) false fun r130 =>
  bif (bif (bif (i125 != a2) then true else (decide (r127 ≥ i128))) then true else r130) then
    k0 (bif (bif (i125 != a2) then true else (decide (r127 ≥ i128))) then true else r130)
  else
    k1 (bif (bif (i125 != a2) then true else (decide (r127 ≥ i128))) then true else r130)
def ref19_At_p11 {R : Type} (n : Nat) (a0 : Int) (a1 : List (List D)) (a2 : Int) (w5 : Int) (w7 : Int) (h13 : Int) (w134 : Bool) (w120 : D) (w121 : D) (w122 : D) (w123 : D) (w124 : D) (h14 : List (List D)) (k0 : Option R) : Option R :=
  k0
def ref19_At_p12 {R : Type} (n : Nat) (a0 : Int) (a1 : List (List D)) (a2 : Int) (w5 : Int) (h14 : List (List D)) (h140 : Int) (w7 : Int) (h13 : Int) (w120 : D) (w121 : D) (w122 : D) (w123 : D) (w124 : D) (k0 : Int → Option R) (k1 : Bool → Option R) : Option R :=
  gb (decide (h140 < ((List.length h14 : Nat) : Int))) (rowAt h14 h140) [] fun r154 =>
  gb (decide (h140 < ((List.length h14 : Nat) : Int))) (r154[0]?) (.bool false) fun c155 =>
  gb (decide (h140 < ((List.length h14 : Nat) : Int))) (pInt .i64 c155) 0 fun i156 =>
  gb (decide (h140 < ((List.length h14 : Nat) : Int))) (pInt .i64 w121) 0 fun i157 =>
  bif (bif (decide (h140 < ((List.length h14 : Nat) : Int))) then (decide (i156 < i157)) else false) then
    k0 (IntKind.wrap .i64 (h140 + (1 : Int)))
  else
    k1 (bif (decide (h140 < ((List.length h14 : Nat) : Int))) then (decide (i156 < i157)) else false)
def ref19_At_r13 {R : Type} (n : Nat) (a0 : Int) (a1 : List (List D)) (a2 : Int) (w5 : Int) (h14 : List (List D)) (w7 : Int) (h13 : Int) (w120 : D) (w121 : D) (w122 : D) (w123 : D) (w124 : D) (k0 : Int → Bool → Option R) : Nat → Int → Option R
  | 0, _ => none
  | m + 1, h140 =>
    ref19_At_p12 n a0 a1 a2 w5 h14 h140 w7 h13 w120 w121 w122 w123 w124
      (fun w160 =>
      ref19_At_r13 n a0 a1 a2 w5 h14 w7 h13 w120 w121 w122 w123 w124 k0 m w160)
      (fun w161 =>
      k0 h140 w161)
def ref19_At_p13 {R : Type} (n : Nat) (a0 : Int) (a1 : List (List D)) (a2 : Int) (w5 : Int) (h14 : List (List D)) (w7 : Int) (h13 : Int) (w120 : D) (w121 : D) (w122 : D) (w123 : D) (w124 : D) (k0 : Int → Bool → Option R) : Option R := ref19_At_r13 n a0 a1 a2 w5 h14 w7 h13 w120 w121 w122 w123 w124 k0 n (0 : Int)
def ref19_At_p14 {R : Type} (n : Nat) (a0 : Int) (a1 : List (List D)) (a2 : Int) (w5 : Int) (h14 : List (List D)) (w7 : Int) (h13 : Int) (w120 : D) (w121 : D) (w122 : D) (w123 : D) (w124 : D) (k0 : Int → Bool → Option R) : Option R :=
  ref19_At_p13 n a0 a1 a2 w5 h14 w7 h13 w120 w121 w122 w123 w124
    (fun w162 w163 =>
    k0 w162 w163)
def ref19_At_p15 {R : Type} (n : Nat) (a0 : Int) (a1 : List (List D)) (a2 : Int) (w5 : Int) (h14 : List (List D)) (w164 : Int) (w7 : Int) (h13 : Int) (w165 : Bool) (w120 : D) (w121 : D) (w122 : D) (w123 : D) (w124 : D) (k0 : (List (List D)) → Option R) : Option R :=
  gb true (slB3 (List.length h14) none (some w164) (some w164)) (0, 0) fun q166 =>
  gb true (pInt .i64 w121) 0 fun i167 =>
  gb true (slB (List.length h14) (some w164) none) (0, 0) fun q168 =>
  gb true (room ((List.length [[D.int .i64 i167]] + List.length (cut h14 q168)) * 8)) () fun u169 =>
  gb true (neL ([[D.int .i64 i167]] ++ (cut h14 q168))) () fun u170 =>
  gb true (room ((List.length (cut h14 q166) + List.length ([[D.int .i64 i167]] ++ (cut h14 q168))) * 8)) () fun u171 =>
  k0 ((cut h14 q166) ++ ([[D.int .i64 i167]] ++ (cut h14 q168)))
def ref19_At_p16 {R : Type} (n : Nat) (a0 : Int) (a1 : List (List D)) (a2 : Int) (w5 : Int) (h14 : List (List D)) (w7 : Int) (h13 : Int) (w120 : D) (w121 : D) (w122 : D) (w123 : D) (w124 : D) (k0 : (List (List D)) → Option R) : Option R :=
  ref19_At_p14 n a0 a1 a2 w5 h14 w7 h13 w120 w121 w122 w123 w124
    (fun w164 w165 =>
    ref19_At_p15 n a0 a1 a2 w5 h14 w164 w7 h13 w165 w120 w121 w122 w123 w124
      (fun w173 =>
      k0 w173))
def ref19_At_p17 {R : Type} (n : Nat) (a0 : Int) (a1 : List (List D)) (a2 : Int) (w5 : Int) (w7 : Int) (h13 : Int) (w134 : Bool) (w120 : D) (w121 : D) (w122 : D) (w123 : D) (w124 : D) (h14 : List (List D)) (k0 : (List (List D)) → Option R) : Option R :=
  ref19_At_p11 n a0 a1 a2 w5 w7 h13 w134 w120 w121 w122 w123 w124 h14
    (ref19_At_p16 n a0 a1 a2 w5 h14 w7 h13 w120 w121 w122 w123 w124
      (fun w174 =>
      k0 w174))
def ref19_At_p18 {R : Type} (n : Nat) (a0 : Int) (a1 : List (List D)) (a2 : Int) (w5 : Int) (w7 : Int) (h13 : Int) (w120 : D) (w121 : D) (w122 : D) (w123 : D) (w124 : D) (h14 : List (List D)) (k0 : Bool → Option R) (k1 : (List (List D)) → Option R) : Option R :=
  ref19_At_p10 n a0 a1 a2 w5 w7 h13 w120 w121 w122 w123 w124 h14
    (fun w133 =>
    k0 w133)
    (fun w134 =>
    ref19_At_p17 n a0 a1 a2 w5 w7 h13 w134 w120 w121 w122 w123 w124 h14
      (fun w175 =>
      k1 w175))
def ref19_At_p19 {R : Type} (n : Nat) (a0 : Int) (a1 : List (List D)) (a2 : Int) (w5 : Int) (h13 : Int) (w7 : Int) (h14 : List (List D)) (k0 : Bool → D → D → D → D → D → Option R) (k1 : (List (List D)) → Option R) : Option R :=
  ref19_At_p9 n a0 a1 a2 w5 h13 w7 h14
    (fun w120 w121 w122 w123 w124 =>
    ref19_At_p18 n a0 a1 a2 w5 w7 h13 w120 w121 w122 w123 w124 h14
      (fun w176 =>
      k0 w176 w120 w121 w122 w123 w124)
      (fun w177 =>
      k1 w177))
def ref19_At_p20 {R : Type} (n : Nat) (a0 : Int) (a1 : List (List D)) (a2 : Int) (w5 : Int) (w7 : Int) (h13 : Int) (w113 : Bool) (h14 : List (List D)) (k0 : Bool → D → D → D → D → D → Option R) (k1 : (List (List D)) → Option R) : Option R :=
  ref19_At_p8 n a0 a1 a2 w5 w7 h13 w113 h14
    (ref19_At_p19 n a0 a1 a2 w5 h13 w7 h14
      (fun w178 w179 w180 w181 w182 w183 =>
      k0 w178 w179 w180 w181 w182 w183)
      (fun w184 =>
      k1 w184))
def ref19_At_p21 {R : Type} (n : Nat) (a0 : Int) (a1 : List (List D)) (a2 : Int) (w5 : Int) (w7 : Int) (h13 : Int) (w113 : Bool) (h14 : List (List D)) (k0 : Bool → D → D → D → D → D → Option R) (k1 : (List (List D)) → Option R) : Option R :=
  ref19_At_p20 n a0 a1 a2 w5 w7 h13 w113 h14
    (fun w185 w186 w187 w188 w189 w190 =>
    k0 w185 w186 w187 w188 w189 w190)
    (fun w191 =>
    k1 w191)
def ref19_At_p22 {R : Type} (n : Nat) (a0 : Int) (a1 : List (List D)) (a2 : Int) (w5 : Int) (w7 : Int) (h13 : Int) (w192 : Bool) (w193 : D) (w194 : D) (w195 : D) (w196 : D) (w197 : D) (h14 : List (List D)) (k0 : Int → Option R) : Option R :=
  k0 (IntKind.wrap .i64 (h13 + (1 : Int)))
def ref19_At_p23 {R : Type} (n : Nat) (a0 : Int) (a1 : List (List D)) (a2 : Int) (w5 : Int) (w7 : Int) (h13 : Int) (w200 : List (List D)) (k0 : Int → Option R) : Option R :=
  k0 (IntKind.wrap .i64 (h13 + (1 : Int)))
def ref19_At_p24 {R : Type} (n : Nat) (a0 : Int) (a1 : List (List D)) (a2 : Int) (w5 : Int) (w7 : Int) (h13 : Int) (w113 : Bool) (h14 : List (List D)) (k0 : Int → (List (List D)) → Option R) : Option R :=
  ref19_At_p21 n a0 a1 a2 w5 w7 h13 w113 h14
    (fun w192 w193 w194 w195 w196 w197 =>
    ref19_At_p22 n a0 a1 a2 w5 w7 h13 w192 w193 w194 w195 w196 w197 h14
      (fun w199 =>
      k0 w199 h14))
    (fun w200 =>
    ref19_At_p23 n a0 a1 a2 w5 w7 h13 w200
      (fun w202 =>
      k0 w202 w200))
def ref19_At_p25 {R : Type} (n : Nat) (a0 : Int) (a1 : List (List D)) (a2 : Int) (w5 : Int) (w7 : Int) (h13 : Int) (w113 : Bool) (h14 : List (List D)) (k0 : Int → (List (List D)) → Option R) (k1 : Option R) : Option R :=
  ref19_At_p7 n a0 a1 a2 w5 w7 h13 w113 h14
    (ref19_At_p24 n a0 a1 a2 w5 w7 h13 w113 h14
      (fun w205 w206 =>
      k0 w205 w206))
    (k1)
def ref19_At_p26 {R : Type} (n : Nat) (a0 : Int) (a1 : List (List D)) (a2 : Int) (w5 : Int) (w7 : Int) (h13 : Int) (h14 : List (List D)) (k0 : Int → (List (List D)) → Option R) (k1 : Bool → Option R) : Option R :=
  ref19_At_p6 n a0 a1 a2 w5 w7 h13 h14
    (fun w113 =>
    ref19_At_p25 n a0 a1 a2 w5 w7 h13 w113 h14
      (fun w207 w208 =>
      k0 w207 w208)
      (k1 w113))
def ref19_At_r27 {R : Type} (n : Nat) (a0 : Int) (a1 : List (List D)) (a2 : Int) (w5 : Int) (w7 : Int) (k0 : Int → Bool → (List (List D)) → Option R) : Nat → Int → (List (List D)) → Option R
  | 0, _, _ => none
  | m + 1, h13, h14 =>
    ref19_At_p26 n a0 a1 a2 w5 w7 h13 h14
      (fun w209 w210 =>
      ref19_At_r27 n a0 a1 a2 w5 w7 k0 m w209 w210)
      (fun w211 =>
      k0 h13 w211 h14)
def ref19_At_p27 {R : Type} (n : Nat) (a0 : Int) (a1 : List (List D)) (a2 : Int) (w5 : Int) (w7 : Int) (k0 : Int → Bool → (List (List D)) → Option R) : Option R := ref19_At_r27 n a0 a1 a2 w5 w7 k0 n (0 : Int) []
def ref19_At_p28 {R : Type} (n : Nat) (a0 : Int) (a1 : List (List D)) (a2 : Int) (w5 : Int) (w7 : Int) (k0 : Int → Bool → (List (List D)) → Option R) : Option R :=
  ref19_At_p27 n a0 a1 a2 w5 w7
    (fun w212 w213 w214 =>
    k0 w212 w213 w214)
def ref19_At_p29 {R : Type} (n : Nat) (a0 : Int) (a1 : List (List D)) (a2 : Int) (w5 : Int) (k0 : Int → Int → Bool → (List (List D)) → Option R) : Option R :=
  ref19_At_p5 n a0 a1 a2 w5
    (fun w7 =>
    ref19_At_p28 n a0 a1 a2 w5 w7
      (fun w215 w216 w217 =>
      k0 w7 w215 w216 w217))
def ref19_At_p30 {R : Type} (n : Nat) (a0 : Int) (a1 : List (List D)) (a2 : Int) (w5 : Int) (w218 : Int) (w219 : Int) (w220 : Bool) (w221 : List (List D)) (k0 : Option R) : Option R :=
  k0
def ref19_At_p31 {R : Type} (n : Nat) (a0 : Int) (a1 : List (List D)) (a2 : Int) (w5 : Int) (k0 : (List (List D)) → Option R) : Option R :=
  ref19_At_p29 n a0 a1 a2 w5
    (fun w218 w219 w220 w221 =>
    ref19_At_p30 n a0 a1 a2 w5 w218 w219 w220 w221
      (k0 w221))
def ref19_At_p32 {R : Type} (n : Nat) (a0 : Int) (a1 : List (List D)) (a2 : Int) (w5 : Int) (k0 : (List (List D)) → Option R) : Option R :=
  ref19_At_p4 n a0 a1 a2 w5
    (ref19_At_p31 n a0 a1 a2 w5
      (fun w222 =>
      k0 w222))
def ref19_At_p33 {R : Type} (n : Nat) (a0 : Int) (a1 : List (List D)) (a2 : Int) (a3 : Int) (w3 : Bool) (k0 : (List (List D)) → Option R) : Option R :=
  ref19_At_p3 n a0 a1 a2 a3 w3
    (fun w5 =>
    ref19_At_p32 n a0 a1 a2 w5
      (fun w223 =>
      k0 w223))
def ref19_At_p34 {R : Type} (n : Nat) (a0 : Int) (a1 : List (List D)) (a2 : Int) (a3 : Int) (k0 : Option R) (k1 : (List (List D)) → Option R) : Option R :=
  ref19_At_p2 n a0 a1 a2 a3
    (k0)
    (fun w3 =>
    ref19_At_p33 n a0 a1 a2 a3 w3
      (fun w224 =>
      k1 w224))
def ref19_At_p35 {R : Type} (n : Nat) (a0 : Int) (a1 : List (List D)) (a2 : Int) (a3 : Int) (k0 : Option R) (k1 : (List (List D)) → Option R) : Option R :=
  ref19_At_p1 n a0 a1 a2 a3
    (ref19_At_p34 n a0 a1 a2 a3
      (k0)
      (fun w225 =>
      k1 w225))
def ref19_At {R : Type} (n : Nat) (a0 : Int) (a1 : List (List D)) (a2 : Int) (a3 : Int) (K : (List (List D)) → Option R) : Option R :=
  ref19_At_p35 n a0 a1 a2 a3
    (K [])
    (fun w225 => K w225)
end Go.Vx
/-
  law19_queries: the pure function
-/
set_option linter.unusedVariables false
namespace Go.Vx
def law19_queries_p1 {R : Type} (n : Nat) (a0 : Int) (a1 : List (List D)) (a2 : Int) (a3 : Int) (k0 : Bool → Option R) : Option R :=
  gb true (occupancy_Valid n a0 a1 some) false fun r1 =>
  gb true (ref19_Valid n a0 a1 some) false fun r2 =>
  gb (r1 == r2) (occupancy_Conflicts n a0 a1 some) [] fun r3 =>
  gb (r1 == r2) (ref19_Conflicts n a0 a1 some) [] fun r4 =>
  gb (r1 == r2) (keep_Same_2_int n r3 r4 some) false fun r5 =>
  gb (bif (r1 == r2) then r5 else false) (occupancy_Free n a0 a1 some) false fun r6 =>
  gb (bif (r1 == r2) then r5 else false) (ref19_Free n a0 a1 some) false fun r7 =>
  gb (bif (bif (r1 == r2) then r5 else false) then (r6 == r7) else false) (occupancy_At n a0 a1 a2 a3 some) [] fun r8 =>
  gb (bif (bif (r1 == r2) then r5 else false) then (r6 == r7) else false) (ref19_At n a0 a1 a2 a3 some) [] fun r9 =>
  gb (bif (bif (r1 == r2) then r5 else false) then (r6 == r7) else false) (keep_Same_int n r8 r9 some) false fun r10 =>
  k0 (bif (bif (bif (r1 == r2) then r5 else false) then (r6 == r7) else false) then r10 else false)
def law19_queries {R : Type} (n : Nat) (a0 : Int) (a1 : List (List D)) (a2 : Int) (a3 : Int) (K : Bool → Option R) : Option R :=
  law19_queries_p1 n a0 a1 a2 a3
    (fun z11 => K z11)
end Go.Vx
/-
  law19_OccupancyQueries: the pure function
-/
set_option linter.unusedVariables false
namespace Go.Vx
def law19_OccupancyQueries_p1 {R : Type} (n : Nat) (a0 : Int) (a1 : List (List D)) (a2 : Int) (a3 : Int) (a4 : List (List D)) (k0 : Bool → Option R) : Option R :=
  gb true (keep_Pick n a0 (40 : Int) some) 0 fun r1 =>
  gb true (law19_awake n  some) false fun r2 =>
  bif r2 then
    gb true (law19_some n a1 some) [] fun r3 =>
    gb true (keep_Pick n a2 (4 : Int) some) 0 fun r4 =>
    gb true (law19_queries n (IntKind.wrap .i64 ((1 : Int) + r1)) r3 r4 a3 some) false fun r5 =>
    bif (bif true then r5 else false) then
      gb true (law19_some n a1 some) [] fun r6 =>
      gb true (room ((List.length r6 + List.length a4) * 40)) () fun u7 =>
      gb true (keep_Pick n a2 (4 : Int) some) 0 fun r8 =>
      gb true (law19_queries n (IntKind.wrap .i64 ((1 : Int) + r1)) (r6 ++ a4) r8 a3 some) false fun r9 =>
      k0 (bif true then r9 else false)
    else
      k0 (bif false then false else false)
  else
    bif (bif false then false else false) then
      gb true (law19_some n a1 some) [] fun r10 =>
      gb true (room ((List.length r10 + List.length a4) * 40)) () fun u11 =>
      gb true (keep_Pick n a2 (4 : Int) some) 0 fun r12 =>
      gb true (law19_queries n (IntKind.wrap .i64 ((1 : Int) + r1)) (r10 ++ a4) r12 a3 some) false fun r13 =>
      k0 (bif true then r13 else false)
    else
      k0 (bif false then false else false)
def law19_OccupancyQueries {R : Type} (n : Nat) (a0 : Int) (a1 : List (List D)) (a2 : Int) (a3 : Int) (a4 : List (List D)) (K : Bool → Option R) : Option R :=
  law19_OccupancyQueries_p1 n a0 a1 a2 a3 a4
    (fun z14 => K z14)
end Go.Vx
