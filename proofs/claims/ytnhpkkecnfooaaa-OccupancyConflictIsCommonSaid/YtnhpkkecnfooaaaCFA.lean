/- Part of a proof: texts Vfkeep Pick Vfkeep Source Next Vfarith Mod Vfref1 Mod Vfkeep From Vflaw19 some Vfoccupancy Valid Vfarith CeilDiv Vfarith FloorDiv Vfoccupancy conflict VisPre Vfrailplan occupancy F. No conditions of their own. -/
import Derived.Test.YtnhpkkecnfooaaaCVA
import Derived.Test.YtnhpkkecnfooaaaCVC
/-
  keep_Pick: the pure function
-/
set_option linter.unusedVariables false
namespace Go.Vx
def keep_Pick_p1 {R : Type} (n : Nat) (a0 : Int) (a1 : Int) (k0 : Int → Option R) : Option R :=
  gb true (nz (IntKind.wrap .u64 a1)) () fun u1 =>
  k0 (IntKind.wrap .i64 (Int.tmod (IntKind.wrap .u64 a0) (IntKind.wrap .u64 a1)))
def keep_Pick {R : Type} (n : Nat) (a0 : Int) (a1 : Int) (K : Int → Option R) : Option R :=
  keep_Pick_p1 n a0 a1
    (fun z2 => K z2)
end Go.Vx
/-
  keep_Source_Next: the pure function
-/
set_option linter.unusedVariables false
namespace Go.Vx
def keep_Source_Next_p1 {R : Type} (n : Nat) (a1 : Int) (a0_0 : List (List D)) (a0_1 : Int) (k0 : Int → Int → Option R) : Option R :=
  bif (decide (a0_1 ≥ ((List.length a0_0 : Nat) : Int))) then
    k0 (0 : Int) a0_1
  else
    gb true (rowAt a0_0 (IntKind.wrap .i64 ((IntKind.wrap .i64 (a0_1 + (1 : Int))) - (1 : Int)))) [] fun r1 =>
    gb true (r1[0]?) (.bool false) fun c2 =>
    gb true (pInt .i64 c2) 0 fun i3 =>
    gb true (keep_Pick n i3 a1 some) 0 fun r4 =>
    k0 r4 (IntKind.wrap .i64 (a0_1 + (1 : Int)))
def keep_Source_Next {R : Type} (n : Nat) (a0_0 : List (List D)) (a0_1 : Int) (a1 : Int) (K : Int → (List (List D)) → Int → Option R) : Option R :=
  keep_Source_Next_p1 n a1 a0_0 a0_1
    (fun z5 z6 => K z5 a0_0 z6)
end Go.Vx
/-
  arith_Mod: the pure function
-/
set_option linter.unusedVariables false
namespace Go.Vx
def arith_Mod_p1 {R : Type} (n : Nat) (a0 : Int) (a1 : Int) (k0 : Int → Option R) : Option R :=
  bif (decide (a1 < (1 : Int))) then
    k0 (0 : Int)
  else
    gb true (nz a1) () fun u1 =>
    bif (decide ((Int.tmod a0 a1) < (0 : Int))) then
      k0 (IntKind.wrap .i64 ((Int.tmod a0 a1) + a1))
    else
      k0 (Int.tmod a0 a1)
def arith_Mod {R : Type} (n : Nat) (a0 : Int) (a1 : Int) (K : Int → Option R) : Option R :=
  arith_Mod_p1 n a0 a1
    (fun z2 => K z2)
end Go.Vx
/-
  ref1_Mod: the pure function
-/
set_option linter.unusedVariables false
namespace Go.Vx
def ref1_Mod_p1 {R : Type} (n : Nat) (a0 : Int) (a1 : Int) (k0 : Int → Option R) : Option R :=
  bif (decide (a1 < (1 : Int))) then
    k0 (0 : Int)
  else
    gb true (nz a1) () fun u1 =>
    bif (decide ((Int.tmod a0 a1) < (0 : Int))) then
      k0 (IntKind.wrap .i64 ((Int.tmod a0 a1) + a1))
    else
      k0 (Int.tmod a0 a1)
def ref1_Mod {R : Type} (n : Nat) (a0 : Int) (a1 : Int) (K : Int → Option R) : Option R :=
  ref1_Mod_p1 n a0 a1
    (fun z2 => K z2)
end Go.Vx
/-
  keep_From: the pure function
-/
set_option linter.unusedVariables false
namespace Go.Vx
def keep_From_p1 {R : Type} (n : Nat) (a0 : List (List D)) (k0 : Option R) : Option R :=
  k0
def keep_From {R : Type} (n : Nat) (a0 : List (List D)) (K : (List (List D)) → Int → Option R) : Option R :=
  keep_From_p1 n a0
    (K a0 (0 : Int))
end Go.Vx
/-
  law19_some: the pure function
-/
set_option linter.unusedVariables false
namespace Go.Vx
def law19_some_p1 {R : Type} (n : Nat) (a0 : List (List D)) (k0 : Option R) : Option R :=
  k0
def law19_some_p2 {R : Type} (n : Nat) (a0 : List (List D)) (k0 : (List (List D)) → Int → Option R) : Option R :=
  gb true (keep_From n a0 (fun r0 r1 => some (r0, r1))) ([], 0) fun r1 =>
  k0 r1.1 r1.2
def law19_some_p3 {R : Type} (n : Nat) (w4 : List (List D)) (w5 : Int) (k0 : Option R) : Option R :=
  k0
def law19_some_p4 {R : Type} (n : Nat) (w4 : List (List D)) (w5 : Int) (k0 : Int → (List (List D)) → Int → Option R) : Option R :=
  gb true (keep_Source_Next n w4 w5 (8 : Int) (fun r0 r1 r2 => some (r0, r1, r2))) (0, [], 0) fun r6 =>
  k0 r6.1 r6.2.1 r6.2.2
def law19_some_p5 {R : Type} (n : Nat) (h13 : Int) (h14 : List (List D)) (h15 : List (List D)) (h16 : Int) (k0 : Int → (List (List D)) → (List (List D)) → Int → Option R) (k1 : Bool → Option R) : Option R :=
  bif (decide (h13 > (0 : Int))) then
    gb true (keep_Source_Next n h15 h16 (3 : Int) (fun r0 r1 r2 => some (r0, r1, r2))) (0, [], 0) fun r17 =>
    gb true (keep_Source_Next n r17.2.1 r17.2.2 (3 : Int) (fun r0 r1 r2 => some (r0, r1, r2))) (0, [], 0) fun r18 =>
    gb true (keep_Source_Next n r18.2.1 r18.2.2 (60 : Int) (fun r0 r1 r2 => some (r0, r1, r2))) (0, [], 0) fun r19 =>
    gb true (keep_Source_Next n r19.2.1 r19.2.2 (14 : Int) (fun r0 r1 r2 => some (r0, r1, r2))) (0, [], 0) fun r20 =>
    gb true (keep_Source_Next n r20.2.1 r20.2.2 (4 : Int) (fun r0 r1 r2 => some (r0, r1, r2))) (0, [], 0) fun r21 =>
    gb true (room ((List.length h14 + List.length [[D.int .i64 r17.1, D.int .i64 r18.1, D.int .i64 (IntKind.wrap .i64 (r19.1 - (20 : Int))), D.int .i64 (IntKind.wrap .i64 ((1 : Int) + r20.1)), D.int .i64 r21.1]]) * 40)) () fun u22 =>
    k0 (IntKind.wrap .i64 (h13 - (1 : Int))) (h14 ++ [[D.int .i64 r17.1, D.int .i64 r18.1, D.int .i64 (IntKind.wrap .i64 (r19.1 - (20 : Int))), D.int .i64 (IntKind.wrap .i64 ((1 : Int) + r20.1)), D.int .i64 r21.1]]) r21.2.1 r21.2.2
  else
    k1 (decide (h13 > (0 : Int)))
def law19_some_r6 {R : Type} (n : Nat)  (k0 : Int → Bool → (List (List D)) → (List (List D)) → Int → Option R) : Nat → Int → (List (List D)) → (List (List D)) → Int → Option R
  | 0, _, _, _, _ => none
  | m + 1, h13, h14, h15, h16 =>
    law19_some_p5 n h13 h14 h15 h16
      (fun w28 w29 w30 w31 =>
      law19_some_r6 n  k0 m w28 w29 w30 w31)
      (fun w32 =>
      k0 h13 w32 h14 h15 h16)
def law19_some_p6 {R : Type} (n : Nat) (w10 : Int) (w11 : List (List D)) (w12 : Int) (k0 : Int → Bool → (List (List D)) → (List (List D)) → Int → Option R) : Option R := law19_some_r6 n  k0 n w10 [] w11 w12
def law19_some_p7 {R : Type} (n : Nat) (w10 : Int) (w11 : List (List D)) (w12 : Int) (k0 : Int → Bool → (List (List D)) → (List (List D)) → Int → Option R) : Option R :=
  law19_some_p6 n w10 w11 w12
    (fun w33 w34 w35 w36 w37 =>
    k0 w33 w34 w35 w36 w37)
def law19_some_p8 {R : Type} (n : Nat) (w4 : List (List D)) (w5 : Int) (k0 : Int → Bool → (List (List D)) → (List (List D)) → Int → Option R) : Option R :=
  law19_some_p4 n w4 w5
    (fun w10 w11 w12 =>
    law19_some_p7 n w10 w11 w12
      (fun w38 w39 w40 w41 w42 =>
      k0 w38 w39 w40 w41 w42))
def law19_some_p9 {R : Type} (n : Nat) (w43 : Int) (w44 : Bool) (w45 : List (List D)) (w46 : List (List D)) (w47 : Int) (k0 : Option R) : Option R :=
  k0
def law19_some_p10 {R : Type} (n : Nat) (w4 : List (List D)) (w5 : Int) (k0 : (List (List D)) → Option R) : Option R :=
  law19_some_p8 n w4 w5
    (fun w43 w44 w45 w46 w47 =>
    law19_some_p9 n w43 w44 w45 w46 w47
      (k0 w45))
def law19_some_p11 {R : Type} (n : Nat) (w4 : List (List D)) (w5 : Int) (k0 : (List (List D)) → Option R) : Option R :=
  law19_some_p3 n w4 w5
    (law19_some_p10 n w4 w5
      (fun w48 =>
      k0 w48))
def law19_some_p12 {R : Type} (n : Nat) (a0 : List (List D)) (k0 : (List (List D)) → Option R) : Option R :=
  law19_some_p2 n a0
    (fun w4 w5 =>
    law19_some_p11 n w4 w5
      (fun w49 =>
      k0 w49))
def law19_some_p13 {R : Type} (n : Nat) (a0 : List (List D)) (k0 : (List (List D)) → Option R) : Option R :=
  law19_some_p1 n a0
    (law19_some_p12 n a0
      (fun w50 =>
      k0 w50))
def law19_some {R : Type} (n : Nat) (a0 : List (List D)) (K : (List (List D)) → Option R) : Option R :=
  law19_some_p13 n a0
    (fun w50 => K w50)
end Go.Vx
/-
  occupancy_Valid: the pure function
-/
set_option linter.unusedVariables false
namespace Go.Vx
def occupancy_Valid_p1 {R : Type} (n : Nat) (a0 : Int) (a1 : List (List D)) (k0 : Option R) : Option R :=
  k0
def occupancy_Valid_p2 {R : Type} (n : Nat) (a0 : Int) (a1 : List (List D)) (k0 : Option R) (k1 : Bool → Option R) : Option R :=
  bif (bif (decide (a0 < (2 : Int))) then true else (decide (a0 > (7200 : Int)))) then
    k0
  else
    k1 (bif (decide (a0 < (2 : Int))) then true else (decide (a0 > (7200 : Int))))
def occupancy_Valid_p3 {R : Type} (n : Nat) (a1 : List (List D)) (w2 : Bool) (k0 : Int → Option R) : Option R :=
  k0 ((List.length a1 : Nat) : Int)
def occupancy_Valid_p4 {R : Type} (n : Nat) (a1 : List (List D)) (w4 : Int) (h7 : Int) (k0 : Option R) (k1 : Int → Option R) (k2 : Bool → Option R) : Option R :=
  bif (decide (h7 < w4)) then
    gb true (rowAt a1 h7) [] fun r24 =>
    gb true (r24[0]?) (.bool false) fun c25 =>
    gb true (r24[1]?) (.bool false) fun c26 =>
    gb true (r24[2]?) (.bool false) fun c27 =>
    gb true (r24[3]?) (.bool false) fun c28 =>
    gb true (r24[4]?) (.bool false) fun c29 =>
    gb true (pInt .i64 c25) 0 fun i30 =>
    gb (!(decide (i30 < (0 : Int)))) (pInt .i64 c26) 0 fun i31 =>
    gb (!(bif (decide (i30 < (0 : Int))) then true else (decide (i31 < (0 : Int))))) (pInt .i64 c27) 0 fun i32 =>
    gb (!(bif (bif (decide (i30 < (0 : Int))) then true else (decide (i31 < (0 : Int)))) then true else (decide (i32 < (-1099511627776 : Int))))) (pInt .i64 c27) 0 fun i33 =>
    bif (bif (bif (bif (decide (i30 < (0 : Int))) then true else (decide (i31 < (0 : Int)))) then true else (decide (i32 < (-1099511627776 : Int)))) then true else (decide (i33 > (1099511627776 : Int)))) then
      k0
    else
      gb true (pInt .i64 c28) 0 fun i34 =>
      gb (!(decide (i34 < (1 : Int)))) (pInt .i64 c28) 0 fun i35 =>
      gb (!(bif (decide (i34 < (1 : Int))) then true else (decide (i35 > (1099511627776 : Int))))) (pInt .i64 c29) 0 fun i36 =>
      gb (!(bif (bif (decide (i34 < (1 : Int))) then true else (decide (i35 > (1099511627776 : Int)))) then true else (decide (i36 < (0 : Int))))) (pInt .i64 c29) 0 fun i37 =>
      bif (bif (bif (bif (decide (i34 < (1 : Int))) then true else (decide (i35 > (1099511627776 : Int)))) then true else (decide (i36 < (0 : Int)))) then true else (decide (i37 > (1099511627776 : Int)))) then
        k0
      else
        k1 (IntKind.wrap .i64 (h7 + (1 : Int)))
  else
    k2 (decide (h7 < w4))
def occupancy_Valid_r5 {R : Type} (n : Nat) (a1 : List (List D)) (w4 : Int) (k0 : Option R) (k1 : Int → Bool → Option R) : Nat → Int → Option R
  | 0, _ => none
  | m + 1, h7 =>
    occupancy_Valid_p4 n a1 w4 h7
      (k0)
      (fun w40 =>
      occupancy_Valid_r5 n a1 w4 k0 k1 m w40)
      (fun w41 =>
      k1 h7 w41)
def occupancy_Valid_p5 {R : Type} (n : Nat) (a1 : List (List D)) (w4 : Int) (k0 : Option R) (k1 : Int → Bool → Option R) : Option R := occupancy_Valid_r5 n a1 w4 k0 k1 n (0 : Int)
def occupancy_Valid_p6 {R : Type} (n : Nat) (a1 : List (List D)) (w4 : Int) (k0 : Option R) (k1 : Int → Bool → Option R) : Option R :=
  occupancy_Valid_p5 n a1 w4
    (k0)
    (fun w42 w43 =>
    k1 w42 w43)
def occupancy_Valid_p7 {R : Type} (n : Nat) (a1 : List (List D)) (w2 : Bool) (k0 : Option R) (k1 : Int → Int → Bool → Option R) : Option R :=
  occupancy_Valid_p3 n a1 w2
    (fun w4 =>
    occupancy_Valid_p6 n a1 w4
      (k0)
      (fun w44 w45 =>
      k1 w4 w44 w45))
def occupancy_Valid_p8 {R : Type} (n : Nat) (a1 : List (List D)) (w46 : Int) (w47 : Int) (w48 : Bool) (k0 : Option R) : Option R :=
  k0
def occupancy_Valid_p9 {R : Type} (n : Nat) (a1 : List (List D)) (w2 : Bool) (k0 : Bool → Option R) : Option R :=
  occupancy_Valid_p7 n a1 w2
    (k0 false)
    (fun w46 w47 w48 =>
    occupancy_Valid_p8 n a1 w46 w47 w48
      (k0 true))
def occupancy_Valid_p10 {R : Type} (n : Nat) (a0 : Int) (a1 : List (List D)) (k0 : Bool → Option R) : Option R :=
  occupancy_Valid_p2 n a0 a1
    (k0 false)
    (fun w2 =>
    occupancy_Valid_p9 n a1 w2
      (fun w50 =>
      k0 w50))
def occupancy_Valid_p11 {R : Type} (n : Nat) (a0 : Int) (a1 : List (List D)) (k0 : Bool → Option R) : Option R :=
  occupancy_Valid_p1 n a0 a1
    (occupancy_Valid_p10 n a0 a1
      (fun w52 =>
      k0 w52))
def occupancy_Valid {R : Type} (n : Nat) (a0 : Int) (a1 : List (List D)) (K : Bool → Option R) : Option R :=
  occupancy_Valid_p11 n a0 a1
    (fun w52 => K w52)
end Go.Vx
/-
  arith_CeilDiv: the pure function
-/
set_option linter.unusedVariables false
namespace Go.Vx
def arith_CeilDiv_p1 {R : Type} (n : Nat) (a0 : Int) (a1 : Int) (k0 : Int → Int → Option R) : Option R :=
  bif (decide (a1 < (1 : Int))) then
    k0 (0 : Int) (1 : Int)
  else
    gb true (nz a1) () fun u1 =>
    gb true (nz a1) () fun u2 =>
    bif (decide ((Int.tmod a0 a1) > (0 : Int))) then
      k0 (IntKind.wrap .i64 ((IntKind.wrap .i64 (Int.tdiv a0 a1)) + (1 : Int))) (0 : Int)
    else
      k0 (IntKind.wrap .i64 (Int.tdiv a0 a1)) (0 : Int)
def arith_CeilDiv {R : Type} (n : Nat) (a0 : Int) (a1 : Int) (K : Int → Int → Option R) : Option R :=
  arith_CeilDiv_p1 n a0 a1
    (fun z3 z4 => K z3 z4)
end Go.Vx
/-
  arith_FloorDiv: the pure function
-/
set_option linter.unusedVariables false
namespace Go.Vx
def arith_FloorDiv_p1 {R : Type} (n : Nat) (a0 : Int) (a1 : Int) (k0 : Int → Int → Option R) : Option R :=
  bif (decide (a1 < (1 : Int))) then
    k0 (0 : Int) (1 : Int)
  else
    gb true (nz a1) () fun u1 =>
    gb true (nz a1) () fun u2 =>
    bif (decide ((Int.tmod a0 a1) < (0 : Int))) then
      k0 (IntKind.wrap .i64 ((IntKind.wrap .i64 (Int.tdiv a0 a1)) - (1 : Int))) (0 : Int)
    else
      k0 (IntKind.wrap .i64 (Int.tdiv a0 a1)) (0 : Int)
def arith_FloorDiv {R : Type} (n : Nat) (a0 : Int) (a1 : Int) (K : Int → Int → Option R) : Option R :=
  arith_FloorDiv_p1 n a0 a1
    (fun z3 z4 => K z3 z4)
end Go.Vx
/-
  occupancy_conflict: the pure function
-/
set_option linter.unusedVariables false
namespace Go.Vx
def occupancy_conflict_p1 {R : Type} (n : Nat) (a0 : Int) (a1_0 : Int) (a1_1 : Int) (a1_2 : Int) (a1_3 : Int) (a1_4 : Int) (a2_0 : Int) (a2_1 : Int) (a2_2 : Int) (a2_3 : Int) (a2_4 : Int) (k0 : Option R) : Option R :=
  k0
def occupancy_conflict_p2 {R : Type} (n : Nat) (a0 : Int) (a1_0 : Int) (a1_1 : Int) (a1_2 : Int) (a1_3 : Int) (a1_4 : Int) (a2_0 : Int) (a2_1 : Int) (a2_2 : Int) (a2_3 : Int) (a2_4 : Int) (k0 : Int → Option R) : Option R :=
  gb true (arith_CeilDiv n (IntKind.wrap .i64 ((IntKind.wrap .i64 ((IntKind.wrap .i64 (a1_2 - a2_2)) - a2_3)) + (1 : Int))) a0 (fun r0 r1 => some (r0, r1))) (0, 0) fun r1 =>
  k0 r1.1
def occupancy_conflict_p3 {R : Type} (n : Nat) (a0 : Int) (w3 : Int) (a1_0 : Int) (a1_1 : Int) (a1_2 : Int) (a1_3 : Int) (a1_4 : Int) (a2_0 : Int) (a2_1 : Int) (a2_2 : Int) (a2_3 : Int) (a2_4 : Int) (k0 : Int → Option R) : Option R :=
  gb true (arith_FloorDiv n (IntKind.wrap .i64 ((IntKind.wrap .i64 ((IntKind.wrap .i64 (a1_2 + a1_3)) - a2_2)) - (1 : Int))) a0 (fun r0 r1 => some (r0, r1))) (0, 0) fun r4 =>
  k0 r4.1
def occupancy_conflict_p4 {R : Type} (n : Nat) (w3 : Int) (w6 : Int) (a1_0 : Int) (a1_1 : Int) (a1_2 : Int) (a1_3 : Int) (a1_4 : Int) (a2_0 : Int) (a2_1 : Int) (a2_2 : Int) (a2_3 : Int) (a2_4 : Int) (k0 : Bool → Option R) (k1 : Bool → Option R) : Option R :=
  bif (decide (w3 > w6)) then
    k0 false
  else
    bif (a1_1 != a2_1) then
      k0 true
    else
      bif (a1_4 == (0 : Int)) then
        k0 (bif (decide (w3 < (0 : Int))) then true else (decide (w6 > (0 : Int))))
      else
        bif (a1_4 == (1 : Int)) then
          k0 false
        else
          k1 (a1_4 == (1 : Int))
def occupancy_conflict_p5 {R : Type} (n : Nat) (w3 : Int) (w6 : Int) (a1_0 : Int) (a1_1 : Int) (a1_2 : Int) (a1_3 : Int) (a1_4 : Int) (a2_0 : Int) (a2_1 : Int) (a2_2 : Int) (a2_3 : Int) (a2_4 : Int) (k0 : Bool → Option R) (k1 : Bool → Option R) : Option R :=
  occupancy_conflict_p4 n w3 w6 a1_0 a1_1 a1_2 a1_3 a1_4 a2_0 a2_1 a2_2 a2_3 a2_4
    (fun w9 =>
    k0 w9)
    (fun w10 =>
    k1 w10)
def occupancy_conflict_p6 {R : Type} (n : Nat) (w3 : Int) (w6 : Int) (w12 : Bool) (a1_0 : Int) (a1_1 : Int) (a1_2 : Int) (a1_3 : Int) (a1_4 : Int) (k0 : Bool → Option R) : Option R :=
  gb (!(decide (w3 < w6))) (nz a1_4) () fun u13 =>
  k0 (bif (decide (w3 < w6)) then true else ((Int.tmod w3 a1_4) != (0 : Int)))
def occupancy_conflict_p7 {R : Type} (n : Nat) (w3 : Int) (w6 : Int) (a1_0 : Int) (a1_1 : Int) (a1_2 : Int) (a1_3 : Int) (a1_4 : Int) (a2_0 : Int) (a2_1 : Int) (a2_2 : Int) (a2_3 : Int) (a2_4 : Int) (k0 : Bool → Option R) : Option R :=
  occupancy_conflict_p5 n w3 w6 a1_0 a1_1 a1_2 a1_3 a1_4 a2_0 a2_1 a2_2 a2_3 a2_4
    (fun w11 =>
    k0 w11)
    (fun w12 =>
    occupancy_conflict_p6 n w3 w6 w12 a1_0 a1_1 a1_2 a1_3 a1_4
      (fun w15 =>
      k0 w15))
def occupancy_conflict_p8 {R : Type} (n : Nat) (a0 : Int) (w3 : Int) (a1_0 : Int) (a1_1 : Int) (a1_2 : Int) (a1_3 : Int) (a1_4 : Int) (a2_0 : Int) (a2_1 : Int) (a2_2 : Int) (a2_3 : Int) (a2_4 : Int) (k0 : Bool → Option R) : Option R :=
  occupancy_conflict_p3 n a0 w3 a1_0 a1_1 a1_2 a1_3 a1_4 a2_0 a2_1 a2_2 a2_3 a2_4
    (fun w6 =>
    occupancy_conflict_p7 n w3 w6 a1_0 a1_1 a1_2 a1_3 a1_4 a2_0 a2_1 a2_2 a2_3 a2_4
      (fun w17 =>
      k0 w17))
def occupancy_conflict_p9 {R : Type} (n : Nat) (a0 : Int) (a1_0 : Int) (a1_1 : Int) (a1_2 : Int) (a1_3 : Int) (a1_4 : Int) (a2_0 : Int) (a2_1 : Int) (a2_2 : Int) (a2_3 : Int) (a2_4 : Int) (k0 : Bool → Option R) : Option R :=
  occupancy_conflict_p2 n a0 a1_0 a1_1 a1_2 a1_3 a1_4 a2_0 a2_1 a2_2 a2_3 a2_4
    (fun w3 =>
    occupancy_conflict_p8 n a0 w3 a1_0 a1_1 a1_2 a1_3 a1_4 a2_0 a2_1 a2_2 a2_3 a2_4
      (fun w18 =>
      k0 w18))
def occupancy_conflict_p10 {R : Type} (n : Nat) (a0 : Int) (a1_0 : Int) (a1_1 : Int) (a1_2 : Int) (a1_3 : Int) (a1_4 : Int) (a2_0 : Int) (a2_1 : Int) (a2_2 : Int) (a2_3 : Int) (a2_4 : Int) (k0 : Bool → Option R) : Option R :=
  occupancy_conflict_p1 n a0 a1_0 a1_1 a1_2 a1_3 a1_4 a2_0 a2_1 a2_2 a2_3 a2_4
    (occupancy_conflict_p9 n a0 a1_0 a1_1 a1_2 a1_3 a1_4 a2_0 a2_1 a2_2 a2_3 a2_4
      (fun w19 =>
      k0 w19))
def occupancy_conflict {R : Type} (n : Nat) (a0 : Int) (a1_0 : Int) (a1_1 : Int) (a1_2 : Int) (a1_3 : Int) (a1_4 : Int) (a2_0 : Int) (a2_1 : Int) (a2_2 : Int) (a2_3 : Int) (a2_4 : Int) (K : Bool → Option R) : Option R :=
  occupancy_conflict_p10 n a0 a1_0 a1_1 a1_2 a1_3 a1_4 a2_0 a2_1 a2_2 a2_3 a2_4
    (fun w19 => K w19)
end Go.Vx
/-
  occupancy.visit: what its first part leaves: for each resource the places of its uses; for each use its place among those.
-/
namespace Go.Vx

def resX : List (List D) → Option (List Int)
  | [] => some []
  | [.int .i64 r, _, _, _, _] :: l => bif decide (-9223372036854775808 ≤ r) && decide (r ≤ 9223372036854775807) then match resX l with
      | some s => some (r :: s)
      | none => none
    else none
  | _ => none

/-- The places of the resource r among the first i uses. -/
def grpI (rs : List Int) (i : Nat) (r : Int) : List Int := ((List.range i).filter fun j => rs.getD j 0 == r).map fun (j : Nat) => (j : Int)
def grpF (rs : List Int) : Int → List (List D) := fun r => (grpI rs rs.length r).map fun j => [.int .i64 j]
/-- The places' list behind i rounds. -/
def posL (rs : List Int) (i : Nat) : List (List D) := ((List.range i).map fun j => [D.int .i64 ((grpI rs j (rs.getD j 0)).length : Nat)]) ++ List.replicate (rs.length - i) [D.int .i64 0]
def visPre {R : Type} (rows : List (List D)) (k : (Int → List (List D)) → List (List D) → Option R) : Option R :=
  match resX rows with
  | some rs => bif Nat.ble rs.length 1000000000 then k (grpF rs) (posL rs rs.length) else none
  | none => none

theorem grpI_succ (rs : List Int) (i : Nat) (r : Int) : grpI rs (i + 1) r = grpI rs i r ++ (if rs.getD i 0 = r then [(i : Int)] else []) := by
  unfold grpI
  rw [List.range_succ, List.filter_append, List.map_append]
  congr 1
  by_cases h : rs.getD i 0 = r
  · rw [if_pos h]
    have : (rs.getD i 0 == r) = true := by simpa using h
    simp only [List.filter_cons, this, if_true, List.filter_nil]
    rfl
  · rw [if_neg h]
    have : (rs.getD i 0 == r) = false := by rw [beq_eq_false_iff_ne]; exact h
    simp only [List.filter_cons, this, List.filter_nil]
    rfl

theorem grpI_len (rs : List Int) (i : Nat) (r : Int) : (grpI rs i r).length ≤ i := by
  unfold grpI
  rw [List.length_map]
  exact Nat.le_trans (List.length_filter_le ..) (by simp)

theorem posL_length (rs : List Int) {i : Nat} (h : i ≤ rs.length) : (posL rs i).length = rs.length := by
  simp [posL]; omega

theorem posL_succ (rs : List Int) {i : Nat} (h : i < rs.length) : (posL rs i).set i [.int .i64 ((grpI rs i (rs.getD i 0)).length : Nat)] = posL rs (i + 1) := by
  unfold posL
  rw [List.set_append_right _ _ (by simp), List.range_succ, List.map_append, List.append_assoc]
  congr 1
  rw [show rs.length - i = (rs.length - (i + 1)) + 1 by omega, List.replicate_succ]
  simp

theorem posL_at (rs : List Int) {i : Nat} (h : i < rs.length) : (posL rs i)[i]? = some [.int .i64 0] := by
  unfold posL
  rw [List.getElem?_append_right (by simp), List.getElem?_replicate, if_pos (by simp; omega)]
theorem posL_zero (rs : List Int) : posL rs 0 = List.replicate rs.length [.int .i64 0] := by simp [posL]

theorem resX_length : ∀ {rows : List (List D)} {rs : List Int}, resX rows = some rs → rs.length = rows.length := by
  intro rows
  induction rows with
  | nil => intro rs h; simp only [resX, Option.some.injEq] at h; subst h; rfl
  | cons x l ih =>
    intro rs h
    unfold resX at h
    split at h
    · rename_i h0; cases h0
    · rename_i r c1 c2 c3 c4 l' h0
      injection h0 with e1 e2
      subst e2
      cases hb : (decide (-9223372036854775808 ≤ r) && decide (r ≤ 9223372036854775807)) with
      | false => simp [hb] at h
      | true =>
        simp only [hb, cond_true] at h
        split at h
        · rename_i s hs
          injection h with h
          subst h
          simp [ih hs]
        · cases h
    · cases h

theorem resX_at : ∀ {rows : List (List D)} {rs : List Int}, resX rows = some rs → ∀ (i : Nat), i < rows.length → ∃ r c1 c2 c3 c4, rows[i]? = some [.int .i64 r, c1, c2, c3, c4] ∧ rs.getD i 0 = r ∧ -9223372036854775808 ≤ r ∧ r ≤ 9223372036854775807 := by
  intro rows
  induction rows with
  | nil => intro rs h i hi; simp at hi
  | cons x l ih =>
    intro rs h i hi
    unfold resX at h
    split at h
    · rename_i h0; cases h0
    · rename_i r c1 c2 c3 c4 l' h0
      injection h0 with e1 e2
      subst e1 e2
      cases hb : (decide (-9223372036854775808 ≤ r) && decide (r ≤ 9223372036854775807)) with
      | false => simp [hb] at h
      | true =>
        simp only [hb, cond_true] at h
        split at h
        · rename_i s hs
          injection h with h
          subst h
          simp only [Bool.and_eq_true, decide_eq_true_eq] at hb
          cases i with
          | zero => exact ⟨r, c1, c2, c3, c4, rfl, rfl, hb.1, hb.2⟩
          | succ i => simpa using ih hs i (by simpa using hi)
        · cases h
    · cases h
end Go.Vx
/-
  railplan_occupancy_Free_1_s1: the pure function
-/
set_option linter.unusedVariables false
namespace Go.Vx
def railplan_occupancy_Free_1_s1_p1 {R : Type} (n : Nat) (a0 : Int) (a1 : Int) (b0_0 : Bool) (k0 : Option R) : Option R :=
  k0
def railplan_occupancy_Free_1_s1 {R : Type} (n : Nat) (a0 : Int) (a1 : Int) (b0_0 : Bool) (K : Bool → Bool → Option R) : Option R :=
  railplan_occupancy_Free_1_s1_p1 n a0 a1 b0_0
    (K false false)
end Go.Vx
/-
  occupancy_visit_s1: the pure function
-/
set_option linter.unusedVariables false
namespace Go.Vx
def occupancy_visit_s1_p1 {R : Type} (n : Nat) (a0 : Int) (a1 : List (List D)) (G : Int → List (List D)) (p : List (List D)) (b0_0 : Bool) (k0 : Int → Option R) : Option R :=
  k0 ((List.length a1 : Nat) : Int)
def occupancy_visit_s1_p2 {R : Type} (n : Nat) (a0 : Int) (a1 : List (List D)) (G : Int → List (List D)) (p : List (List D)) (w2 : Int) (h9 : Int) (h10 : Bool) (k0 : Bool → Option R) : Option R :=
  k0 (decide (h9 < w2))
def occupancy_visit_s1_p3 {R : Type} (n : Nat) (a0 : Int) (a1 : List (List D)) (G : Int → List (List D)) (p : List (List D)) (w2 : Int) (h9 : Int) (w196 : Bool) (h10 : Bool) (k0 : Option R) (k1 : Option R) : Option R :=
  bif w196 then
    k0
  else
    k1
def occupancy_visit_s1_p4 {R : Type} (n : Nat) (a0 : Int) (a1 : List (List D)) (G : Int → List (List D)) (p : List (List D)) (w2 : Int) (h9 : Int) (w196 : Bool) (h10 : Bool) (k0 : D → D → D → D → D → Option R) : Option R :=
  gb true (rowAt a1 h9) [] fun r197 =>
  gb true (r197[0]?) (.bool false) fun c198 =>
  gb true (r197[1]?) (.bool false) fun c199 =>
  gb true (r197[2]?) (.bool false) fun c200 =>
  gb true (r197[3]?) (.bool false) fun c201 =>
  gb true (r197[4]?) (.bool false) fun c202 =>
  k0 c198 c199 c200 c201 c202
def occupancy_visit_s1_p5 {R : Type} (n : Nat) (a0 : Int) (a1 : List (List D)) (G : Int → List (List D)) (p : List (List D)) (h9 : Int) (w2 : Int) (w203 : D) (w204 : D) (w205 : D) (w206 : D) (w207 : D) (h10 : Bool) (k0 : (List (List D)) → Int → Option R) : Option R :=
  gb true (pInt .i64 w203) 0 fun i208 =>
  gb true (rowAt p h9) [] fun r209 =>
  gb true (r209[0]?) (.bool false) fun c210 =>
  gb true (pInt .i64 c210) 0 fun i211 =>
  gb true (slB (List.length (G i208)) (some i211) none) (0, 0) fun q212 =>
  k0 (cut (G i208) q212) ((List.length (cut (G i208) q212) : Nat) : Int)
def occupancy_visit_s1_p6 {R : Type} (n : Nat) (a0 : Int) (a1 : List (List D)) (G : Int → List (List D)) (p : List (List D)) (h9 : Int) (w2 : Int) (w215 : List (List D)) (w216 : Int) (h227 : Int) (w203 : D) (w204 : D) (w205 : D) (w206 : D) (w207 : D) (h233 : Bool) (k0 : Bool → Bool → Option R) (k1 : Int → Bool → Option R) (k2 : Bool → Option R) : Option R :=
  bif (decide (h227 < w216)) then
    gb true (rowAt w215 h227) [] fun r260 =>
    gb true (r260[0]?) (.bool false) fun c261 =>
    gb true (pInt .i64 c261) 0 fun i262 =>
    gb true (rowAt a1 i262) [] fun r263 =>
    gb true (r263[0]?) (.bool false) fun c264 =>
    gb true (r263[1]?) (.bool false) fun c265 =>
    gb true (r263[2]?) (.bool false) fun c266 =>
    gb true (r263[3]?) (.bool false) fun c267 =>
    gb true (r263[4]?) (.bool false) fun c268 =>
    gb true (pInt .i64 w203) 0 fun i269 =>
    gb true (pInt .i64 w204) 0 fun i270 =>
    gb true (pInt .i64 w205) 0 fun i271 =>
    gb true (pInt .i64 w206) 0 fun i272 =>
    gb true (pInt .i64 w207) 0 fun i273 =>
    gb true (pInt .i64 c264) 0 fun i274 =>
    gb true (pInt .i64 c265) 0 fun i275 =>
    gb true (pInt .i64 c266) 0 fun i276 =>
    gb true (pInt .i64 c267) 0 fun i277 =>
    gb true (pInt .i64 c268) 0 fun i278 =>
    gb true (occupancy_conflict n a0 i269 i270 i271 i272 i273 i274 i275 i276 i277 i278 some) false fun r279 =>
    bif r279 then
      gb true (railplan_occupancy_Free_1_s1 n h9 i262 h233 (fun r0 r1 => some (r0, r1))) (false, false) fun r280 =>
      bif (bif true then (!r280.1) else false) then
        k0 (bif true then (!r280.1) else false) r280.2
      else
        k1 (IntKind.wrap .i64 (h227 + (1 : Int))) r280.2
    else
      bif (bif false then false else false) then
        k0 (bif false then false else false) h233
      else
        k1 (IntKind.wrap .i64 (h227 + (1 : Int))) h233
  else
    k2 (decide (h227 < w216))
def occupancy_visit_s1_r7 {R : Type} (n : Nat) (a0 : Int) (a1 : List (List D)) (G : Int → List (List D)) (p : List (List D)) (h9 : Int) (w2 : Int) (w215 : List (List D)) (w216 : Int) (w203 : D) (w204 : D) (w205 : D) (w206 : D) (w207 : D) (k0 : Int → Bool → Bool → Option R) (k1 : Int → Bool → Bool → Option R) : Nat → Int → Bool → Option R
  | 0, _, _ => none
  | m + 1, h227, h233 =>
    occupancy_visit_s1_p6 n a0 a1 G p h9 w2 w215 w216 h227 w203 w204 w205 w206 w207 h233
      (fun w286 w287 =>
      k0 h227 w286 w287)
      (fun w288 w289 =>
      occupancy_visit_s1_r7 n a0 a1 G p h9 w2 w215 w216 w203 w204 w205 w206 w207 k0 k1 m w288 w289)
      (fun w290 =>
      k1 h227 w290 h233)
def occupancy_visit_s1_p7 {R : Type} (n : Nat) (a0 : Int) (a1 : List (List D)) (G : Int → List (List D)) (p : List (List D)) (h9 : Int) (w2 : Int) (w215 : List (List D)) (w216 : Int) (w203 : D) (w204 : D) (w205 : D) (w206 : D) (w207 : D) (h10 : Bool) (k0 : Int → Bool → Bool → Option R) (k1 : Int → Bool → Bool → Option R) : Option R := occupancy_visit_s1_r7 n a0 a1 G p h9 w2 w215 w216 w203 w204 w205 w206 w207 k0 k1 n (0 : Int) h10
def occupancy_visit_s1_p8 {R : Type} (n : Nat) (a0 : Int) (a1 : List (List D)) (G : Int → List (List D)) (p : List (List D)) (h9 : Int) (w2 : Int) (w215 : List (List D)) (w216 : Int) (w203 : D) (w204 : D) (w205 : D) (w206 : D) (w207 : D) (h10 : Bool) (k0 : Int → Bool → Bool → Option R) (k1 : Int → Bool → Bool → Option R) : Option R :=
  occupancy_visit_s1_p7 n a0 a1 G p h9 w2 w215 w216 w203 w204 w205 w206 w207 h10
    (fun w291 w292 w293 =>
    k0 w291 w292 w293)
    (fun w294 w295 w296 =>
    k1 w294 w295 w296)
def occupancy_visit_s1_p9 {R : Type} (n : Nat) (a0 : Int) (a1 : List (List D)) (G : Int → List (List D)) (p : List (List D)) (h9 : Int) (w2 : Int) (w203 : D) (w204 : D) (w205 : D) (w206 : D) (w207 : D) (h10 : Bool) (k0 : (List (List D)) → Int → Int → Bool → Bool → Option R) (k1 : (List (List D)) → Int → Int → Bool → Bool → Option R) : Option R :=
  occupancy_visit_s1_p5 n a0 a1 G p h9 w2 w203 w204 w205 w206 w207 h10
    (fun w215 w216 =>
    occupancy_visit_s1_p8 n a0 a1 G p h9 w2 w215 w216 w203 w204 w205 w206 w207 h10
      (fun w297 w298 w299 =>
      k0 w215 w216 w297 w298 w299)
      (fun w300 w301 w302 =>
      k1 w215 w216 w300 w301 w302))
def occupancy_visit_s1_p10 {R : Type} (n : Nat) (a0 : Int) (a1 : List (List D)) (G : Int → List (List D)) (p : List (List D)) (w2 : Int) (h9 : Int) (w196 : Bool) (h10 : Bool) (k0 : (List (List D)) → Int → Int → Bool → D → D → D → D → D → Bool → Option R) (k1 : (List (List D)) → Int → Int → Bool → D → D → D → D → D → Bool → Option R) : Option R :=
  occupancy_visit_s1_p4 n a0 a1 G p w2 h9 w196 h10
    (fun w203 w204 w205 w206 w207 =>
    occupancy_visit_s1_p9 n a0 a1 G p h9 w2 w203 w204 w205 w206 w207 h10
      (fun w303 w304 w305 w306 w307 =>
      k0 w303 w304 w305 w306 w203 w204 w205 w206 w207 w307)
      (fun w308 w309 w310 w311 w312 =>
      k1 w308 w309 w310 w311 w203 w204 w205 w206 w207 w312))
def occupancy_visit_s1_p11 {R : Type} (n : Nat) (a0 : Int) (a1 : List (List D)) (G : Int → List (List D)) (p : List (List D)) (w2 : Int) (h9 : Int) (w196 : Bool) (h10 : Bool) (k0 : (List (List D)) → Int → Int → Bool → D → D → D → D → D → Bool → Option R) (k1 : (List (List D)) → Int → Int → Bool → D → D → D → D → D → Bool → Option R) : Option R :=
  occupancy_visit_s1_p10 n a0 a1 G p w2 h9 w196 h10
    (fun w313 w314 w315 w316 w317 w318 w319 w320 w321 w322 =>
    k0 w313 w314 w315 w316 w317 w318 w319 w320 w321 w322)
    (fun w323 w324 w325 w326 w327 w328 w329 w330 w331 w332 =>
    k1 w323 w324 w325 w326 w327 w328 w329 w330 w331 w332)
def occupancy_visit_s1_p12 {R : Type} (n : Nat) (a0 : Int) (a1 : List (List D)) (G : Int → List (List D)) (p : List (List D)) (h9 : Int) (w2 : Int) (w343 : List (List D)) (w344 : Int) (w345 : Int) (w346 : Bool) (w347 : D) (w348 : D) (w349 : D) (w350 : D) (w351 : D) (w352 : Bool) (k0 : Int → Option R) : Option R :=
  k0 (IntKind.wrap .i64 (h9 + (1 : Int)))
def occupancy_visit_s1_p13 {R : Type} (n : Nat) (a0 : Int) (a1 : List (List D)) (G : Int → List (List D)) (p : List (List D)) (w2 : Int) (h9 : Int) (w196 : Bool) (h10 : Bool) (k0 : (List (List D)) → Int → Int → Bool → D → D → D → D → D → Bool → Option R) (k1 : Int → Bool → Option R) : Option R :=
  occupancy_visit_s1_p11 n a0 a1 G p w2 h9 w196 h10
    (fun w333 w334 w335 w336 w337 w338 w339 w340 w341 w342 =>
    k0 w333 w334 w335 w336 w337 w338 w339 w340 w341 w342)
    (fun w343 w344 w345 w346 w347 w348 w349 w350 w351 w352 =>
    occupancy_visit_s1_p12 n a0 a1 G p h9 w2 w343 w344 w345 w346 w347 w348 w349 w350 w351 w352
      (fun w354 =>
      k1 w354 w352))
def occupancy_visit_s1_p14 {R : Type} (n : Nat) (a0 : Int) (a1 : List (List D)) (G : Int → List (List D)) (p : List (List D)) (w2 : Int) (h9 : Int) (w196 : Bool) (h10 : Bool) (k0 : (List (List D)) → Int → Int → Bool → D → D → D → D → D → Bool → Option R) (k1 : Int → Bool → Option R) (k2 : Option R) : Option R :=
  occupancy_visit_s1_p3 n a0 a1 G p w2 h9 w196 h10
    (occupancy_visit_s1_p13 n a0 a1 G p w2 h9 w196 h10
      (fun w355 w356 w357 w358 w359 w360 w361 w362 w363 w364 =>
      k0 w355 w356 w357 w358 w359 w360 w361 w362 w363 w364)
      (fun w365 w366 =>
      k1 w365 w366))
    (k2)
def occupancy_visit_s1_p15 {R : Type} (n : Nat) (a0 : Int) (a1 : List (List D)) (G : Int → List (List D)) (p : List (List D)) (w2 : Int) (h9 : Int) (h10 : Bool) (k0 : (List (List D)) → Int → Int → Bool → D → D → D → D → D → Bool → Option R) (k1 : Int → Bool → Option R) (k2 : Bool → Option R) : Option R :=
  occupancy_visit_s1_p2 n a0 a1 G p w2 h9 h10
    (fun w196 =>
    occupancy_visit_s1_p14 n a0 a1 G p w2 h9 w196 h10
      (fun w367 w368 w369 w370 w371 w372 w373 w374 w375 w376 =>
      k0 w367 w368 w369 w370 w371 w372 w373 w374 w375 w376)
      (fun w377 w378 =>
      k1 w377 w378)
      (k2 w196))
def occupancy_visit_s1_r16 {R : Type} (n : Nat) (a0 : Int) (a1 : List (List D)) (G : Int → List (List D)) (p : List (List D)) (w2 : Int) (k0 : Int → (List (List D)) → Int → Int → Bool → D → D → D → D → D → Bool → Option R) (k1 : Int → Bool → Bool → Option R) : Nat → Int → Bool → Option R
  | 0, _, _ => none
  | m + 1, h9, h10 =>
    occupancy_visit_s1_p15 n a0 a1 G p w2 h9 h10
      (fun w379 w380 w381 w382 w383 w384 w385 w386 w387 w388 =>
      k0 h9 w379 w380 w381 w382 w383 w384 w385 w386 w387 w388)
      (fun w389 w390 =>
      occupancy_visit_s1_r16 n a0 a1 G p w2 k0 k1 m w389 w390)
      (fun w391 =>
      k1 h9 w391 h10)
def occupancy_visit_s1_p16 {R : Type} (n : Nat) (a0 : Int) (a1 : List (List D)) (G : Int → List (List D)) (p : List (List D)) (w2 : Int) (b0_0 : Bool) (k0 : Int → (List (List D)) → Int → Int → Bool → D → D → D → D → D → Bool → Option R) (k1 : Int → Bool → Bool → Option R) : Option R := occupancy_visit_s1_r16 n a0 a1 G p w2 k0 k1 n (0 : Int) b0_0
def occupancy_visit_s1_p17 {R : Type} (n : Nat) (a0 : Int) (a1 : List (List D)) (G : Int → List (List D)) (p : List (List D)) (w2 : Int) (b0_0 : Bool) (k0 : Int → (List (List D)) → Int → Int → Bool → D → D → D → D → D → Bool → Option R) (k1 : Int → Bool → Bool → Option R) : Option R :=
  occupancy_visit_s1_p16 n a0 a1 G p w2 b0_0
    (fun w392 w393 w394 w395 w396 w397 w398 w399 w400 w401 w402 =>
    k0 w392 w393 w394 w395 w396 w397 w398 w399 w400 w401 w402)
    (fun w403 w404 w405 =>
    k1 w403 w404 w405)
def occupancy_visit_s1_p18 {R : Type} (n : Nat) (a0 : Int) (a1 : List (List D)) (G : Int → List (List D)) (p : List (List D)) (b0_0 : Bool) (k0 : Int → Int → (List (List D)) → Int → Int → Bool → D → D → D → D → D → Bool → Option R) (k1 : Int → Int → Bool → Bool → Option R) : Option R :=
  occupancy_visit_s1_p1 n a0 a1 G p b0_0
    (fun w2 =>
    occupancy_visit_s1_p17 n a0 a1 G p w2 b0_0
      (fun w406 w407 w408 w409 w410 w411 w412 w413 w414 w415 w416 =>
      k0 w406 w2 w407 w408 w409 w410 w411 w412 w413 w414 w415 w416)
      (fun w417 w418 w419 =>
      k1 w2 w417 w418 w419))
def occupancy_visit_s1 {R : Type} (n : Nat) (a0 : Int) (a1 : List (List D)) (b0_0 : Bool) (K : Bool → Option R) : Option R :=
  visPre a1 fun G p =>
  occupancy_visit_s1_p18 n a0 a1 G p b0_0
    (fun w406 w2 w407 w408 w409 w410 w411 w412 w413 w414 w415 w416 => K w416)
    (fun w2 w417 w418 w419 => K w419)
end Go.Vx
/-
  occupancy_Free: the pure function
-/
set_option linter.unusedVariables false
namespace Go.Vx
def occupancy_Free_p1 {R : Type} (n : Nat) (a0 : Int) (a1 : List (List D)) (k0 : Bool → Option R) : Option R :=
  gb true (occupancy_Valid n a0 a1 some) false fun r1 =>
  bif (!r1) then
    k0 false
  else
    gb true (occupancy_visit_s1 n a0 a1 true some) false fun r2 =>
    k0 r2
def occupancy_Free {R : Type} (n : Nat) (a0 : Int) (a1 : List (List D)) (K : Bool → Option R) : Option R :=
  occupancy_Free_p1 n a0 a1
    (fun z3 => K z3)
end Go.Vx
/-
  slices_Sort_int_int: no pure function
-/
/-
  slices_Compact_int_int: no pure function
-/
/-
  occupancy_At: the pure function
-/
set_option linter.unusedVariables false
namespace Go.Vx
def occupancy_At_p1 {R : Type} (n : Nat) (a0 : Int) (a1 : List (List D)) (a2 : Int) (a3 : Int) (k0 : Option R) : Option R :=
  k0
def occupancy_At_p2 {R : Type} (n : Nat) (a0 : Int) (a1 : List (List D)) (a2 : Int) (a3 : Int) (k0 : Option R) (k1 : Bool → Option R) : Option R :=
  gb true (occupancy_Valid n a0 a1 some) false fun r1 =>
  bif (!r1) then
    k0
  else
    k1 (!r1)
def occupancy_At_p3 {R : Type} (n : Nat) (a0 : Int) (a1 : List (List D)) (a2 : Int) (a3 : Int) (w3 : Bool) (k0 : Option R) : Option R :=
  k0
def occupancy_At_p4 {R : Type} (n : Nat) (a0 : Int) (a1 : List (List D)) (a2 : Int) (a3 : Int) (k0 : Int → Option R) : Option R :=
  gb true (arith_Mod n a3 a0 some) 0 fun r4 =>
  k0 r4
def occupancy_At_p5 {R : Type} (n : Nat) (a0 : Int) (a1 : List (List D)) (a2 : Int) (w5 : Int) (k0 : Int → Option R) : Option R :=
  k0 ((List.length a1 : Nat) : Int)
def occupancy_At_p6 {R : Type} (n : Nat) (a0 : Int) (a2 : Int) (w5 : Int) (a1 : List (List D)) (w7 : Int) (h13 : Int) (h14 : List (List D)) (k0 : Int → (List (List D)) → Option R) (k1 : Bool → Option R) : Option R :=
  bif (decide (h13 < w7)) then
    gb true (rowAt a1 h13) [] fun r30 =>
    gb true (r30[0]?) (.bool false) fun c31 =>
    gb true (r30[1]?) (.bool false) fun c32 =>
    gb true (r30[2]?) (.bool false) fun c33 =>
    gb true (r30[3]?) (.bool false) fun c34 =>
    gb true (r30[4]?) (.bool false) fun c35 =>
    gb true (pInt .i64 c31) 0 fun i36 =>
    gb (i36 == a2) (pInt .i64 c33) 0 fun i37 =>
    gb (i36 == a2) (arith_Mod n (IntKind.wrap .i64 (w5 - i37)) a0 some) 0 fun r38 =>
    gb (i36 == a2) (pInt .i64 c34) 0 fun i39 =>
    bif (bif (i36 == a2) then (decide (r38 < i39)) else false) then
      gb true (pInt .i64 c32) 0 fun i40 =>
      gb true (room ((List.length h14 + List.length [[D.int .i64 i40]]) * 8)) () fun u41 =>
      k0 (IntKind.wrap .i64 (h13 + (1 : Int))) (h14 ++ [[D.int .i64 i40]])
    else
      k0 (IntKind.wrap .i64 (h13 + (1 : Int))) h14
  else
    k1 (decide (h13 < w7))
def occupancy_At_r7 {R : Type} (n : Nat) (a0 : Int) (a2 : Int) (w5 : Int) (a1 : List (List D)) (w7 : Int) (k0 : Int → Bool → (List (List D)) → Option R) : Nat → Int → (List (List D)) → Option R
  | 0, _, _ => none
  | m + 1, h13, h14 =>
    occupancy_At_p6 n a0 a2 w5 a1 w7 h13 h14
      (fun w45 w46 =>
      occupancy_At_r7 n a0 a2 w5 a1 w7 k0 m w45 w46)
      (fun w47 =>
      k0 h13 w47 h14)
def occupancy_At_p7 {R : Type} (n : Nat) (a0 : Int) (a2 : Int) (w5 : Int) (a1 : List (List D)) (w7 : Int) (k0 : Int → Bool → (List (List D)) → Option R) : Option R := occupancy_At_r7 n a0 a2 w5 a1 w7 k0 n (0 : Int) []
def occupancy_At_p8 {R : Type} (n : Nat) (a0 : Int) (a2 : Int) (w5 : Int) (a1 : List (List D)) (w7 : Int) (k0 : Int → Bool → (List (List D)) → Option R) : Option R :=
  occupancy_At_p7 n a0 a2 w5 a1 w7
    (fun w48 w49 w50 =>
    k0 w48 w49 w50)
def occupancy_At_p9 {R : Type} (n : Nat) (a0 : Int) (a1 : List (List D)) (a2 : Int) (w5 : Int) (k0 : Int → Int → Bool → (List (List D)) → Option R) : Option R :=
  occupancy_At_p5 n a0 a1 a2 w5
    (fun w7 =>
    occupancy_At_p8 n a0 a2 w5 a1 w7
      (fun w51 w52 w53 =>
      k0 w7 w51 w52 w53))
def occupancy_At_p10 {R : Type} (n : Nat) (a0 : Int) (a2 : Int) (w5 : Int) (a1 : List (List D)) (w54 : Int) (w55 : Int) (w56 : Bool) (w57 : List (List D)) (k0 : (List (List D)) → Option R) : Option R :=
  gb true (intsX w57) [] fun z58 =>
  gb true (room (List.length z58)) () fun u59 =>
  gb true (intsX (intRowsS (sortI z58))) [] fun z60 =>
  gb true (room (List.length z60)) () fun u61 =>
  k0 (intRowsS (compI z60))
def occupancy_At_p11 {R : Type} (n : Nat) (a0 : Int) (a1 : List (List D)) (a2 : Int) (w5 : Int) (k0 : (List (List D)) → Option R) : Option R :=
  occupancy_At_p9 n a0 a1 a2 w5
    (fun w54 w55 w56 w57 =>
    occupancy_At_p10 n a0 a2 w5 a1 w54 w55 w56 w57
      (fun w63 =>
      k0 w63))
def occupancy_At_p12 {R : Type} (n : Nat) (a0 : Int) (a1 : List (List D)) (a2 : Int) (a3 : Int) (k0 : (List (List D)) → Option R) : Option R :=
  occupancy_At_p4 n a0 a1 a2 a3
    (fun w5 =>
    occupancy_At_p11 n a0 a1 a2 w5
      (fun w64 =>
      k0 w64))
def occupancy_At_p13 {R : Type} (n : Nat) (a0 : Int) (a1 : List (List D)) (a2 : Int) (a3 : Int) (w3 : Bool) (k0 : (List (List D)) → Option R) : Option R :=
  occupancy_At_p3 n a0 a1 a2 a3 w3
    (occupancy_At_p12 n a0 a1 a2 a3
      (fun w65 =>
      k0 w65))
def occupancy_At_p14 {R : Type} (n : Nat) (a0 : Int) (a1 : List (List D)) (a2 : Int) (a3 : Int) (k0 : Option R) (k1 : (List (List D)) → Option R) : Option R :=
  occupancy_At_p2 n a0 a1 a2 a3
    (k0)
    (fun w3 =>
    occupancy_At_p13 n a0 a1 a2 a3 w3
      (fun w66 =>
      k1 w66))
def occupancy_At_p15 {R : Type} (n : Nat) (a0 : Int) (a1 : List (List D)) (a2 : Int) (a3 : Int) (k0 : Option R) (k1 : (List (List D)) → Option R) : Option R :=
  occupancy_At_p1 n a0 a1 a2 a3
    (occupancy_At_p14 n a0 a1 a2 a3
      (k0)
      (fun w67 =>
      k1 w67))
def occupancy_At {R : Type} (n : Nat) (a0 : Int) (a1 : List (List D)) (a2 : Int) (a3 : Int) (K : (List (List D)) → Option R) : Option R :=
  occupancy_At_p15 n a0 a1 a2 a3
    (K [])
    (fun w67 => K w67)
end Go.Vx
/-
  keep_Same_int: the pure function
-/
set_option linter.unusedVariables false
namespace Go.Vx
def keep_Same_int_p1 {R : Type} (n : Nat) (a0 : List (List D)) (a1 : List (List D)) (k0 : Option R) : Option R :=
  k0
def keep_Same_int_p2 {R : Type} (n : Nat) (a0 : List (List D)) (a1 : List (List D)) (k0 : Option R) (k1 : Bool → Option R) : Option R :=
  bif (((List.length a0 : Nat) : Int) != ((List.length a1 : Nat) : Int)) then
    k0
  else
    k1 (((List.length a0 : Nat) : Int) != ((List.length a1 : Nat) : Int))
def keep_Same_int_p3 {R : Type} (n : Nat) (a0 : List (List D)) (a1 : List (List D)) (w2 : Bool) (k0 : Int → Option R) : Option R :=
  k0 ((List.length a0 : Nat) : Int)
def keep_Same_int_p4 {R : Type} (n : Nat) (a0 : List (List D)) (a1 : List (List D)) (w4 : Int) (h8 : Int) (k0 : Option R) (k1 : Int → Option R) (k2 : Bool → Option R) : Option R :=
  bif (decide (h8 < w4)) then
    gb true (rowAt a0 h8) [] fun r17 =>
    gb true (r17[0]?) (.bool false) fun c18 =>
    gb true (pInt .i64 c18) 0 fun i19 =>
    gb true (rowAt a1 h8) [] fun r20 =>
    gb true (r20[0]?) (.bool false) fun c21 =>
    gb true (pInt .i64 c21) 0 fun i22 =>
    bif (i19 != i22) then
      k0
    else
      k1 (IntKind.wrap .i64 (h8 + (1 : Int)))
  else
    k2 (decide (h8 < w4))
def keep_Same_int_r5 {R : Type} (n : Nat) (a0 : List (List D)) (a1 : List (List D)) (w4 : Int) (k0 : Option R) (k1 : Int → Bool → Option R) : Nat → Int → Option R
  | 0, _ => none
  | m + 1, h8 =>
    keep_Same_int_p4 n a0 a1 w4 h8
      (k0)
      (fun w25 =>
      keep_Same_int_r5 n a0 a1 w4 k0 k1 m w25)
      (fun w26 =>
      k1 h8 w26)
def keep_Same_int_p5 {R : Type} (n : Nat) (a0 : List (List D)) (a1 : List (List D)) (w4 : Int) (k0 : Option R) (k1 : Int → Bool → Option R) : Option R := keep_Same_int_r5 n a0 a1 w4 k0 k1 n (0 : Int)
def keep_Same_int_p6 {R : Type} (n : Nat) (a0 : List (List D)) (a1 : List (List D)) (w4 : Int) (k0 : Option R) (k1 : Int → Bool → Option R) : Option R :=
  keep_Same_int_p5 n a0 a1 w4
    (k0)
    (fun w27 w28 =>
    k1 w27 w28)
def keep_Same_int_p7 {R : Type} (n : Nat) (a0 : List (List D)) (a1 : List (List D)) (w2 : Bool) (k0 : Option R) (k1 : Int → Int → Bool → Option R) : Option R :=
  keep_Same_int_p3 n a0 a1 w2
    (fun w4 =>
    keep_Same_int_p6 n a0 a1 w4
      (k0)
      (fun w29 w30 =>
      k1 w4 w29 w30))
def keep_Same_int_p8 {R : Type} (n : Nat) (a0 : List (List D)) (a1 : List (List D)) (w31 : Int) (w32 : Int) (w33 : Bool) (k0 : Option R) : Option R :=
  k0
def keep_Same_int_p9 {R : Type} (n : Nat) (a0 : List (List D)) (a1 : List (List D)) (w2 : Bool) (k0 : Bool → Option R) : Option R :=
  keep_Same_int_p7 n a0 a1 w2
    (k0 false)
    (fun w31 w32 w33 =>
    keep_Same_int_p8 n a0 a1 w31 w32 w33
      (k0 true))
def keep_Same_int_p10 {R : Type} (n : Nat) (a0 : List (List D)) (a1 : List (List D)) (k0 : Bool → Option R) : Option R :=
  keep_Same_int_p2 n a0 a1
    (k0 false)
    (fun w2 =>
    keep_Same_int_p9 n a0 a1 w2
      (fun w35 =>
      k0 w35))
def keep_Same_int_p11 {R : Type} (n : Nat) (a0 : List (List D)) (a1 : List (List D)) (k0 : Bool → Option R) : Option R :=
  keep_Same_int_p1 n a0 a1
    (keep_Same_int_p10 n a0 a1
      (fun w37 =>
      k0 w37))
def keep_Same_int {R : Type} (n : Nat) (a0 : List (List D)) (a1 : List (List D)) (K : Bool → Option R) : Option R :=
  keep_Same_int_p11 n a0 a1
    (fun w37 => K w37)
end Go.Vx
/-
  law19_awake: the pure function
-/
set_option linter.unusedVariables false
namespace Go.Vx
def law19_awake_p1 {R : Type} (n : Nat)  (k0 : Bool → Option R) : Option R :=
  gb true (occupancy_Free n (5 : Int) [[D.int .i64 (0 : Int), D.int .i64 (3 : Int), D.int .i64 (1 : Int), D.int .i64 (2 : Int), D.int .i64 (0 : Int)]] some) false fun r1 =>
  gb r1 (occupancy_At n (5 : Int) [[D.int .i64 (0 : Int), D.int .i64 (3 : Int), D.int .i64 (1 : Int), D.int .i64 (2 : Int), D.int .i64 (0 : Int)]] (0 : Int) (7 : Int) some) [] fun r2 =>
  gb r1 (keep_Same_int n r2 [[D.int .i64 (3 : Int)]] some) false fun r3 =>
  k0 (bif r1 then r3 else false)
def law19_awake {R : Type} (n : Nat)  (K : Bool → Option R) : Option R :=
  law19_awake_p1 n 
    (fun z4 => K z4)
end Go.Vx
/-
  railplan_occupancy_Conflicts_1_s2: the pure function
-/
set_option linter.unusedVariables false
namespace Go.Vx
def railplan_occupancy_Conflicts_1_s2_p1 {R : Type} (n : Nat) (a0 : Int) (a1 : Int) (q1 : List (List D)) (k0 : (List (List D)) → Option R) : Option R :=
  gb true (room ((List.length q1 + List.length [[D.int .i64 a0, D.int .i64 a1]]) * 16)) () fun u1 =>
  k0 (q1 ++ [[D.int .i64 a0, D.int .i64 a1]])
def railplan_occupancy_Conflicts_1_s2 {R : Type} (n : Nat) (a0 : Int) (a1 : Int) (q1 : List (List D)) (K : Bool → (List (List D)) → Option R) : Option R :=
  railplan_occupancy_Conflicts_1_s2_p1 n a0 a1 q1
    (fun z2 => K true z2)
end Go.Vx
/-
  occupancy_visit_s3: the pure function
-/
set_option linter.unusedVariables false
namespace Go.Vx
def occupancy_visit_s3_p1 {R : Type} (n : Nat) (a0 : Int) (a1 : List (List D)) (G : Int → List (List D)) (p : List (List D)) (q1 : List (List D)) (k0 : Int → Option R) : Option R :=
  k0 ((List.length a1 : Nat) : Int)
def occupancy_visit_s3_p2 {R : Type} (n : Nat) (a0 : Int) (a1 : List (List D)) (G : Int → List (List D)) (p : List (List D)) (w2 : Int) (h9 : Int) (h10 : List (List D)) (k0 : Bool → Option R) : Option R :=
  k0 (decide (h9 < w2))
def occupancy_visit_s3_p3 {R : Type} (n : Nat) (a0 : Int) (a1 : List (List D)) (G : Int → List (List D)) (p : List (List D)) (w2 : Int) (h9 : Int) (w250 : Bool) (h10 : List (List D)) (k0 : Option R) (k1 : Option R) : Option R :=
  bif w250 then
    k0
  else
    k1
def occupancy_visit_s3_p4 {R : Type} (n : Nat) (a0 : Int) (a1 : List (List D)) (G : Int → List (List D)) (p : List (List D)) (w2 : Int) (h9 : Int) (w250 : Bool) (h10 : List (List D)) (k0 : D → D → D → D → D → Option R) : Option R :=
  gb true (rowAt a1 h9) [] fun r251 =>
  gb true (r251[0]?) (.bool false) fun c252 =>
  gb true (r251[1]?) (.bool false) fun c253 =>
  gb true (r251[2]?) (.bool false) fun c254 =>
  gb true (r251[3]?) (.bool false) fun c255 =>
  gb true (r251[4]?) (.bool false) fun c256 =>
  k0 c252 c253 c254 c255 c256
def occupancy_visit_s3_p5 {R : Type} (n : Nat) (a0 : Int) (a1 : List (List D)) (G : Int → List (List D)) (p : List (List D)) (h9 : Int) (w2 : Int) (w257 : D) (w258 : D) (w259 : D) (w260 : D) (w261 : D) (h10 : List (List D)) (k0 : (List (List D)) → Int → Option R) : Option R :=
  gb true (pInt .i64 w257) 0 fun i262 =>
  gb true (rowAt p h9) [] fun r263 =>
  gb true (r263[0]?) (.bool false) fun c264 =>
  gb true (pInt .i64 c264) 0 fun i265 =>
  gb true (slB (List.length (G i262)) (some i265) none) (0, 0) fun q266 =>
  k0 (cut (G i262) q266) ((List.length (cut (G i262) q266) : Nat) : Int)
def occupancy_visit_s3_p6 {R : Type} (n : Nat) (a0 : Int) (a1 : List (List D)) (G : Int → List (List D)) (p : List (List D)) (h9 : Int) (w2 : Int) (w269 : List (List D)) (w270 : Int) (h281 : Int) (w257 : D) (w258 : D) (w259 : D) (w260 : D) (w261 : D) (h287 : List (List D)) (k0 : Bool → (List (List D)) → Option R) (k1 : Int → (List (List D)) → Option R) (k2 : Bool → Option R) (k3 : Bool → Option R) : Option R :=
  bif (decide (h281 < w270)) then
    gb true (rowAt w269 h281) [] fun r315 =>
    gb true (r315[0]?) (.bool false) fun c316 =>
    gb true (pInt .i64 c316) 0 fun i317 =>
    gb true (rowAt a1 i317) [] fun r318 =>
    gb true (r318[0]?) (.bool false) fun c319 =>
    gb true (r318[1]?) (.bool false) fun c320 =>
    gb true (r318[2]?) (.bool false) fun c321 =>
    gb true (r318[3]?) (.bool false) fun c322 =>
    gb true (r318[4]?) (.bool false) fun c323 =>
    gb true (pInt .i64 w257) 0 fun i324 =>
    gb true (pInt .i64 w258) 0 fun i325 =>
    gb true (pInt .i64 w259) 0 fun i326 =>
    gb true (pInt .i64 w260) 0 fun i327 =>
    gb true (pInt .i64 w261) 0 fun i328 =>
    gb true (pInt .i64 c319) 0 fun i329 =>
    gb true (pInt .i64 c320) 0 fun i330 =>
    gb true (pInt .i64 c321) 0 fun i331 =>
    gb true (pInt .i64 c322) 0 fun i332 =>
    gb true (pInt .i64 c323) 0 fun i333 =>
    gb true (occupancy_conflict n a0 i324 i325 i326 i327 i328 i329 i330 i331 i332 i333 some) false fun r334 =>
    bif r334 then
      gb true (railplan_occupancy_Conflicts_1_s2 n h9 i317 h287 (fun r0 r1 => some (r0, r1))) (false, []) fun r335 =>
      bif (bif true then (!r335.1) else false) then
        k0 (bif true then (!r335.1) else false) r335.2
      else
        k1 (IntKind.wrap .i64 (h281 + (1 : Int))) r335.2
    else
      bif (bif false then false else false) then
        k2 (bif false then false else false)
      else
        k1 (IntKind.wrap .i64 (h281 + (1 : Int))) h287
  else
    k3 (decide (h281 < w270))
def occupancy_visit_s3_r7 {R : Type} (n : Nat) (a0 : Int) (a1 : List (List D)) (G : Int → List (List D)) (p : List (List D)) (h9 : Int) (w2 : Int) (w269 : List (List D)) (w270 : Int) (w257 : D) (w258 : D) (w259 : D) (w260 : D) (w261 : D) (k0 : Int → Bool → (List (List D)) → Option R) (k1 : Int → Bool → (List (List D)) → Option R) (k2 : Int → Bool → (List (List D)) → Option R) : Nat → Int → (List (List D)) → Option R
  | 0, _, _ => none
  | m + 1, h281, h287 =>
    occupancy_visit_s3_p6 n a0 a1 G p h9 w2 w269 w270 h281 w257 w258 w259 w260 w261 h287
      (fun w342 w343 =>
      k0 h281 w342 w343)
      (fun w344 w345 =>
      occupancy_visit_s3_r7 n a0 a1 G p h9 w2 w269 w270 w257 w258 w259 w260 w261 k0 k1 k2 m w344 w345)
      (fun w346 =>
      k1 h281 w346 h287)
      (fun w347 =>
      k2 h281 w347 h287)
def occupancy_visit_s3_p7 {R : Type} (n : Nat) (a0 : Int) (a1 : List (List D)) (G : Int → List (List D)) (p : List (List D)) (h9 : Int) (w2 : Int) (w269 : List (List D)) (w270 : Int) (w257 : D) (w258 : D) (w259 : D) (w260 : D) (w261 : D) (h10 : List (List D)) (k0 : Int → Bool → (List (List D)) → Option R) (k1 : Int → Bool → (List (List D)) → Option R) (k2 : Int → Bool → (List (List D)) → Option R) : Option R := occupancy_visit_s3_r7 n a0 a1 G p h9 w2 w269 w270 w257 w258 w259 w260 w261 k0 k1 k2 n (0 : Int) h10
def occupancy_visit_s3_p8 {R : Type} (n : Nat) (a0 : Int) (a1 : List (List D)) (G : Int → List (List D)) (p : List (List D)) (h9 : Int) (w2 : Int) (w269 : List (List D)) (w270 : Int) (w257 : D) (w258 : D) (w259 : D) (w260 : D) (w261 : D) (h10 : List (List D)) (k0 : Int → Bool → (List (List D)) → Option R) (k1 : Int → Bool → (List (List D)) → Option R) (k2 : Int → Bool → (List (List D)) → Option R) : Option R :=
  occupancy_visit_s3_p7 n a0 a1 G p h9 w2 w269 w270 w257 w258 w259 w260 w261 h10
    (fun w348 w349 w350 =>
    k0 w348 w349 w350)
    (fun w351 w352 w353 =>
    k1 w351 w352 w353)
    (fun w354 w355 w356 =>
    k2 w354 w355 w356)
def occupancy_visit_s3_p9 {R : Type} (n : Nat) (a0 : Int) (a1 : List (List D)) (G : Int → List (List D)) (p : List (List D)) (h9 : Int) (w2 : Int) (w257 : D) (w258 : D) (w259 : D) (w260 : D) (w261 : D) (h10 : List (List D)) (k0 : (List (List D)) → Int → Int → Bool → (List (List D)) → Option R) (k1 : (List (List D)) → Int → Int → Bool → (List (List D)) → Option R) (k2 : (List (List D)) → Int → Int → Bool → (List (List D)) → Option R) : Option R :=
  occupancy_visit_s3_p5 n a0 a1 G p h9 w2 w257 w258 w259 w260 w261 h10
    (fun w269 w270 =>
    occupancy_visit_s3_p8 n a0 a1 G p h9 w2 w269 w270 w257 w258 w259 w260 w261 h10
      (fun w357 w358 w359 =>
      k0 w269 w270 w357 w358 w359)
      (fun w360 w361 w362 =>
      k1 w269 w270 w360 w361 w362)
      (fun w363 w364 w365 =>
      k2 w269 w270 w363 w364 w365))
def occupancy_visit_s3_p10 {R : Type} (n : Nat) (a0 : Int) (a1 : List (List D)) (G : Int → List (List D)) (p : List (List D)) (w2 : Int) (h9 : Int) (w250 : Bool) (h10 : List (List D)) (k0 : (List (List D)) → Int → Int → Bool → D → D → D → D → D → (List (List D)) → Option R) (k1 : (List (List D)) → Int → Int → Bool → D → D → D → D → D → (List (List D)) → Option R) (k2 : (List (List D)) → Int → Int → Bool → D → D → D → D → D → (List (List D)) → Option R) : Option R :=
  occupancy_visit_s3_p4 n a0 a1 G p w2 h9 w250 h10
    (fun w257 w258 w259 w260 w261 =>
    occupancy_visit_s3_p9 n a0 a1 G p h9 w2 w257 w258 w259 w260 w261 h10
      (fun w366 w367 w368 w369 w370 =>
      k0 w366 w367 w368 w369 w257 w258 w259 w260 w261 w370)
      (fun w371 w372 w373 w374 w375 =>
      k1 w371 w372 w373 w374 w257 w258 w259 w260 w261 w375)
      (fun w376 w377 w378 w379 w380 =>
      k2 w376 w377 w378 w379 w257 w258 w259 w260 w261 w380))
def occupancy_visit_s3_p11 {R : Type} (n : Nat) (a0 : Int) (a1 : List (List D)) (G : Int → List (List D)) (p : List (List D)) (w2 : Int) (h9 : Int) (w250 : Bool) (h10 : List (List D)) (k0 : (List (List D)) → Int → Int → Bool → D → D → D → D → D → (List (List D)) → Option R) (k1 : (List (List D)) → Int → Int → Bool → D → D → D → D → D → (List (List D)) → Option R) (k2 : (List (List D)) → Int → Int → Bool → D → D → D → D → D → (List (List D)) → Option R) : Option R :=
  occupancy_visit_s3_p10 n a0 a1 G p w2 h9 w250 h10
    (fun w381 w382 w383 w384 w385 w386 w387 w388 w389 w390 =>
    k0 w381 w382 w383 w384 w385 w386 w387 w388 w389 w390)
    (fun w391 w392 w393 w394 w395 w396 w397 w398 w399 w400 =>
    k1 w391 w392 w393 w394 w395 w396 w397 w398 w399 w400)
    (fun w401 w402 w403 w404 w405 w406 w407 w408 w409 w410 =>
    k2 w401 w402 w403 w404 w405 w406 w407 w408 w409 w410)
def occupancy_visit_s3_p12 {R : Type} (n : Nat) (a0 : Int) (a1 : List (List D)) (G : Int → List (List D)) (p : List (List D)) (h9 : Int) (w2 : Int) (w431 : List (List D)) (w432 : Int) (w433 : Int) (w434 : Bool) (w435 : D) (w436 : D) (w437 : D) (w438 : D) (w439 : D) (w440 : List (List D)) (k0 : Int → Option R) : Option R :=
  k0 (IntKind.wrap .i64 (h9 + (1 : Int)))
def occupancy_visit_s3_p13 {R : Type} (n : Nat) (a0 : Int) (a1 : List (List D)) (G : Int → List (List D)) (p : List (List D)) (w2 : Int) (h9 : Int) (w250 : Bool) (h10 : List (List D)) (k0 : (List (List D)) → Int → Int → Bool → D → D → D → D → D → (List (List D)) → Option R) (k1 : (List (List D)) → Int → Int → Bool → D → D → D → D → D → (List (List D)) → Option R) (k2 : Int → (List (List D)) → Option R) : Option R :=
  occupancy_visit_s3_p11 n a0 a1 G p w2 h9 w250 h10
    (fun w411 w412 w413 w414 w415 w416 w417 w418 w419 w420 =>
    k0 w411 w412 w413 w414 w415 w416 w417 w418 w419 w420)
    (fun w421 w422 w423 w424 w425 w426 w427 w428 w429 w430 =>
    k1 w421 w422 w423 w424 w425 w426 w427 w428 w429 w430)
    (fun w431 w432 w433 w434 w435 w436 w437 w438 w439 w440 =>
    occupancy_visit_s3_p12 n a0 a1 G p h9 w2 w431 w432 w433 w434 w435 w436 w437 w438 w439 w440
      (fun w442 =>
      k2 w442 w440))
def occupancy_visit_s3_p14 {R : Type} (n : Nat) (a0 : Int) (a1 : List (List D)) (G : Int → List (List D)) (p : List (List D)) (w2 : Int) (h9 : Int) (w250 : Bool) (h10 : List (List D)) (k0 : (List (List D)) → Int → Int → Bool → D → D → D → D → D → (List (List D)) → Option R) (k1 : (List (List D)) → Int → Int → Bool → D → D → D → D → D → (List (List D)) → Option R) (k2 : Int → (List (List D)) → Option R) (k3 : Option R) : Option R :=
  occupancy_visit_s3_p3 n a0 a1 G p w2 h9 w250 h10
    (occupancy_visit_s3_p13 n a0 a1 G p w2 h9 w250 h10
      (fun w443 w444 w445 w446 w447 w448 w449 w450 w451 w452 =>
      k0 w443 w444 w445 w446 w447 w448 w449 w450 w451 w452)
      (fun w453 w454 w455 w456 w457 w458 w459 w460 w461 w462 =>
      k1 w453 w454 w455 w456 w457 w458 w459 w460 w461 w462)
      (fun w463 w464 =>
      k2 w463 w464))
    (k3)
def occupancy_visit_s3_p15 {R : Type} (n : Nat) (a0 : Int) (a1 : List (List D)) (G : Int → List (List D)) (p : List (List D)) (w2 : Int) (h9 : Int) (h10 : List (List D)) (k0 : (List (List D)) → Int → Int → Bool → D → D → D → D → D → (List (List D)) → Option R) (k1 : (List (List D)) → Int → Int → Bool → D → D → D → D → D → (List (List D)) → Option R) (k2 : Int → (List (List D)) → Option R) (k3 : Bool → Option R) : Option R :=
  occupancy_visit_s3_p2 n a0 a1 G p w2 h9 h10
    (fun w250 =>
    occupancy_visit_s3_p14 n a0 a1 G p w2 h9 w250 h10
      (fun w465 w466 w467 w468 w469 w470 w471 w472 w473 w474 =>
      k0 w465 w466 w467 w468 w469 w470 w471 w472 w473 w474)
      (fun w475 w476 w477 w478 w479 w480 w481 w482 w483 w484 =>
      k1 w475 w476 w477 w478 w479 w480 w481 w482 w483 w484)
      (fun w485 w486 =>
      k2 w485 w486)
      (k3 w250))
def occupancy_visit_s3_r16 {R : Type} (n : Nat) (a0 : Int) (a1 : List (List D)) (G : Int → List (List D)) (p : List (List D)) (w2 : Int) (k0 : Int → (List (List D)) → Int → Int → Bool → D → D → D → D → D → (List (List D)) → Option R) (k1 : Int → (List (List D)) → Int → Int → Bool → D → D → D → D → D → (List (List D)) → Option R) (k2 : Int → Bool → (List (List D)) → Option R) : Nat → Int → (List (List D)) → Option R
  | 0, _, _ => none
  | m + 1, h9, h10 =>
    occupancy_visit_s3_p15 n a0 a1 G p w2 h9 h10
      (fun w487 w488 w489 w490 w491 w492 w493 w494 w495 w496 =>
      k0 h9 w487 w488 w489 w490 w491 w492 w493 w494 w495 w496)
      (fun w497 w498 w499 w500 w501 w502 w503 w504 w505 w506 =>
      k1 h9 w497 w498 w499 w500 w501 w502 w503 w504 w505 w506)
      (fun w507 w508 =>
      occupancy_visit_s3_r16 n a0 a1 G p w2 k0 k1 k2 m w507 w508)
      (fun w509 =>
      k2 h9 w509 h10)
def occupancy_visit_s3_p16 {R : Type} (n : Nat) (a0 : Int) (a1 : List (List D)) (G : Int → List (List D)) (p : List (List D)) (w2 : Int) (q1 : List (List D)) (k0 : Int → (List (List D)) → Int → Int → Bool → D → D → D → D → D → (List (List D)) → Option R) (k1 : Int → (List (List D)) → Int → Int → Bool → D → D → D → D → D → (List (List D)) → Option R) (k2 : Int → Bool → (List (List D)) → Option R) : Option R := occupancy_visit_s3_r16 n a0 a1 G p w2 k0 k1 k2 n (0 : Int) q1
def occupancy_visit_s3_p17 {R : Type} (n : Nat) (a0 : Int) (a1 : List (List D)) (G : Int → List (List D)) (p : List (List D)) (w2 : Int) (q1 : List (List D)) (k0 : Int → (List (List D)) → Int → Int → Bool → D → D → D → D → D → (List (List D)) → Option R) (k1 : Int → (List (List D)) → Int → Int → Bool → D → D → D → D → D → (List (List D)) → Option R) (k2 : Int → Bool → (List (List D)) → Option R) : Option R :=
  occupancy_visit_s3_p16 n a0 a1 G p w2 q1
    (fun w510 w511 w512 w513 w514 w515 w516 w517 w518 w519 w520 =>
    k0 w510 w511 w512 w513 w514 w515 w516 w517 w518 w519 w520)
    (fun w521 w522 w523 w524 w525 w526 w527 w528 w529 w530 w531 =>
    k1 w521 w522 w523 w524 w525 w526 w527 w528 w529 w530 w531)
    (fun w532 w533 w534 =>
    k2 w532 w533 w534)
def occupancy_visit_s3_p18 {R : Type} (n : Nat) (a0 : Int) (a1 : List (List D)) (G : Int → List (List D)) (p : List (List D)) (q1 : List (List D)) (k0 : Int → Int → (List (List D)) → Int → Int → Bool → D → D → D → D → D → (List (List D)) → Option R) (k1 : Int → Int → (List (List D)) → Int → Int → Bool → D → D → D → D → D → (List (List D)) → Option R) (k2 : Int → Int → Bool → (List (List D)) → Option R) : Option R :=
  occupancy_visit_s3_p1 n a0 a1 G p q1
    (fun w2 =>
    occupancy_visit_s3_p17 n a0 a1 G p w2 q1
      (fun w535 w536 w537 w538 w539 w540 w541 w542 w543 w544 w545 =>
      k0 w535 w2 w536 w537 w538 w539 w540 w541 w542 w543 w544 w545)
      (fun w546 w547 w548 w549 w550 w551 w552 w553 w554 w555 w556 =>
      k1 w546 w2 w547 w548 w549 w550 w551 w552 w553 w554 w555 w556)
      (fun w557 w558 w559 =>
      k2 w2 w557 w558 w559))
def occupancy_visit_s3 {R : Type} (n : Nat) (a0 : Int) (a1 : List (List D)) (q1 : List (List D)) (K : (List (List D)) → Option R) : Option R :=
  visPre a1 fun G p =>
  occupancy_visit_s3_p18 n a0 a1 G p q1
    (fun w535 w2 w536 w537 w538 w539 w540 w541 w542 w543 w544 w545 => K w545)
    (fun w546 w2 w547 w548 w549 w550 w551 w552 w553 w554 w555 w556 => K w556)
    (fun w2 w557 w558 w559 => K w559)
end Go.Vx
/-
  occupancy_Conflicts: the pure function
-/
set_option linter.unusedVariables false
namespace Go.Vx
def occupancy_Conflicts_p1 {R : Type} (n : Nat) (a0 : Int) (a1 : List (List D)) (k0 : (List (List D)) → Option R) : Option R :=
  gb true (occupancy_Valid n a0 a1 some) false fun r1 =>
  bif (!r1) then
    k0 []
  else
    gb true (occupancy_visit_s3 n a0 a1 [] some) [] fun r2 =>
    k0 r2
def occupancy_Conflicts {R : Type} (n : Nat) (a0 : Int) (a1 : List (List D)) (K : (List (List D)) → Option R) : Option R :=
  occupancy_Conflicts_p1 n a0 a1
    (fun z3 => K z3)
end Go.Vx
/-
  law19_OccupancyConflictIsCommon: the pure function
-/
set_option linter.unusedVariables false
namespace Go.Vx
def law19_OccupancyConflictIsCommon_p1 {R : Type} (n : Nat) (a0 : Int) (a1 : List (List D)) (k0 : Option R) : Option R :=
  k0
def law19_OccupancyConflictIsCommon_p2 {R : Type} (n : Nat) (a0 : Int) (a1 : List (List D)) (k0 : Int → Option R) : Option R :=
  gb true (keep_Pick n a0 (30 : Int) some) 0 fun r1 =>
  k0 (IntKind.wrap .i64 ((2 : Int) + r1))
def law19_OccupancyConflictIsCommon_p3 {R : Type} (n : Nat) (w3 : Int) (a1 : List (List D)) (k0 : (List (List D)) → Option R) : Option R :=
  gb true (law19_some n a1 some) [] fun r4 =>
  k0 r4
def law19_OccupancyConflictIsCommon_p4 {R : Type} (n : Nat) (w3 : Int) (w5 : List (List D)) (k0 : Int → Option R) : Option R :=
  k0 ((List.length w5 : Nat) : Int)
def law19_OccupancyConflictIsCommon_p5 {R : Type} (n : Nat) (w3 : Int) (w7 : Int) (h10 : Int) (h11 : List (List D)) (k0 : Int → (List (List D)) → Option R) (k1 : Bool → Option R) : Option R :=
  bif (decide (h10 < w7)) then
    gb true (inB (List.length h11) h10) () fun u17 =>
    gb true (h11[(Int.toNat h10)]?) [] fun r18 =>
    k0 (IntKind.wrap .i64 (h10 + (1 : Int))) (List.set h11 (Int.toNat h10) (List.set r18 1 (D.int .i64 h10)))
  else
    k1 (decide (h10 < w7))
def law19_OccupancyConflictIsCommon_r6 {R : Type} (n : Nat) (w3 : Int) (w7 : Int) (k0 : Int → Bool → (List (List D)) → Option R) : Nat → Int → (List (List D)) → Option R
  | 0, _, _ => none
  | m + 1, h10, h11 =>
    law19_OccupancyConflictIsCommon_p5 n w3 w7 h10 h11
      (fun w22 w23 =>
      law19_OccupancyConflictIsCommon_r6 n w3 w7 k0 m w22 w23)
      (fun w24 =>
      k0 h10 w24 h11)
def law19_OccupancyConflictIsCommon_p6 {R : Type} (n : Nat) (w3 : Int) (w7 : Int) (w5 : List (List D)) (k0 : Int → Bool → (List (List D)) → Option R) : Option R := law19_OccupancyConflictIsCommon_r6 n w3 w7 k0 n (0 : Int) w5
def law19_OccupancyConflictIsCommon_p7 {R : Type} (n : Nat) (w3 : Int) (w7 : Int) (w5 : List (List D)) (k0 : Int → Bool → (List (List D)) → Option R) : Option R :=
  law19_OccupancyConflictIsCommon_p6 n w3 w7 w5
    (fun w25 w26 w27 =>
    k0 w25 w26 w27)
def law19_OccupancyConflictIsCommon_p8 {R : Type} (n : Nat) (w3 : Int) (w5 : List (List D)) (k0 : Int → Int → Bool → (List (List D)) → Option R) : Option R :=
  law19_OccupancyConflictIsCommon_p4 n w3 w5
    (fun w7 =>
    law19_OccupancyConflictIsCommon_p7 n w3 w7 w5
      (fun w28 w29 w30 =>
      k0 w7 w28 w29 w30))
def law19_OccupancyConflictIsCommon_p9 {R : Type} (n : Nat) (w3 : Int) (w31 : Int) (w32 : Int) (w33 : Bool) (w34 : List (List D)) (k0 : (List (List D)) → Option R) : Option R :=
  gb true (occupancy_Conflicts n w3 w34 some) [] fun r35 =>
  gb true (flatRs [r35]) () fun u36 =>
  k0 r35
def law19_OccupancyConflictIsCommon_p10 {R : Type} (n : Nat) (w3 : Int) (w34 : List (List D)) (w37 : List (List D)) (k0 : Int → Option R) : Option R :=
  k0 ((List.length w34 : Nat) : Int)
def law19_OccupancyConflictIsCommon_p11 {R : Type} (n : Nat) (w3 : Int) (w39 : Int) (h42 : Int) (w34 : List (List D)) (w37 : List (List D)) (k0 : Bool → Option R) : Option R :=
  k0 (decide (h42 < w39))
def law19_OccupancyConflictIsCommon_p12 {R : Type} (n : Nat) (w3 : Int) (w39 : Int) (h42 : Int) (w329 : Bool) (w34 : List (List D)) (w37 : List (List D)) (k0 : Option R) (k1 : Option R) : Option R :=
  bif w329 then
    k0
  else
    k1
def law19_OccupancyConflictIsCommon_p13 {R : Type} (n : Nat) (w3 : Int) (w39 : Int) (h42 : Int) (w329 : Bool) (w34 : List (List D)) (w37 : List (List D)) (k0 : Option R) : Option R :=
  k0
def law19_OccupancyConflictIsCommon_p14 {R : Type} (n : Nat) (w3 : Int) (h42 : Int) (w39 : Int) (w34 : List (List D)) (w37 : List (List D)) (k0 : Option R) : Option R :=
  k0
def law19_OccupancyConflictIsCommon_p15 {R : Type} (n : Nat) (w3 : Int) (h42 : Int) (h332 : Int) (w39 : Int) (w34 : List (List D)) (w37 : List (List D)) (k0 : Bool → Option R) (k1 : Bool → Option R) : Option R :=
  bif (decide (h332 < h42)) then
    k0 (decide (h332 < h42))
  else
    k1 (decide (h332 < h42))
def law19_OccupancyConflictIsCommon_p16 {R : Type} (n : Nat) (w3 : Int) (h42 : Int) (h332 : Int) (w39 : Int) (w468 : Bool) (w34 : List (List D)) (w37 : List (List D)) (k0 : Option R) : Option R :=
  k0
def law19_OccupancyConflictIsCommon_p17 {R : Type} (n : Nat) (w3 : Int) (h42 : Int) (h332 : Int) (w39 : Int) (w34 : List (List D)) (w37 : List (List D)) (k0 : Option R) : Option R :=
  k0
def law19_OccupancyConflictIsCommon_p18 {R : Type} (n : Nat) (w3 : Int) (h42 : Int) (h332 : Int) (h472 : Bool) (h473 : Int) (w39 : Int) (w34 : List (List D)) (w37 : List (List D)) (k0 : Bool → Int → Option R) (k1 : Bool → Option R) : Option R :=
  bif (decide (h473 < w3)) then
    gb (!h472) (inB (List.length w34) h42) () fun u499 =>
    gb (!h472) (w34[(Int.toNat h42)]?) [] fun r500 =>
    gb (!h472) (r500[2]?) (.bool false) fun c501 =>
    gb (!h472) (pInt .i64 c501) 0 fun i502 =>
    gb (!h472) (ref1_Mod n (IntKind.wrap .i64 (h473 - i502)) w3 some) 0 fun r503 =>
    gb (!h472) (inB (List.length w34) h42) () fun u504 =>
    gb (!h472) (w34[(Int.toNat h42)]?) [] fun r505 =>
    gb (!h472) (r505[3]?) (.bool false) fun c506 =>
    gb (!h472) (pInt .i64 c506) 0 fun i507 =>
    gb ((!h472) && (decide (r503 < i507))) (inB (List.length w34) h332) () fun u508 =>
    gb ((!h472) && (decide (r503 < i507))) (w34[(Int.toNat h332)]?) [] fun r509 =>
    gb ((!h472) && (decide (r503 < i507))) (r509[2]?) (.bool false) fun c510 =>
    gb ((!h472) && (decide (r503 < i507))) (pInt .i64 c510) 0 fun i511 =>
    gb ((!h472) && (decide (r503 < i507))) (ref1_Mod n (IntKind.wrap .i64 (h473 - i511)) w3 some) 0 fun r512 =>
    gb ((!h472) && (decide (r503 < i507))) (inB (List.length w34) h332) () fun u513 =>
    gb ((!h472) && (decide (r503 < i507))) (w34[(Int.toNat h332)]?) [] fun r514 =>
    gb ((!h472) && (decide (r503 < i507))) (r514[3]?) (.bool false) fun c515 =>
    gb ((!h472) && (decide (r503 < i507))) (pInt .i64 c515) 0 fun i516 =>
    k0 (bif h472 then true else (bif (decide (r503 < i507)) then (decide (r512 < i516)) else false)) (IntKind.wrap .i64 (h473 + (1 : Int)))
  else
    k1 (decide (h473 < w3))
def law19_OccupancyConflictIsCommon_r19 {R : Type} (n : Nat) (w3 : Int) (h42 : Int) (h332 : Int) (w39 : Int) (w34 : List (List D)) (w37 : List (List D)) (k0 : Bool → Int → Bool → Option R) : Nat → Bool → Int → Option R
  | 0, _, _ => none
  | m + 1, h472, h473 =>
    law19_OccupancyConflictIsCommon_p18 n w3 h42 h332 h472 h473 w39 w34 w37
      (fun w520 w521 =>
      law19_OccupancyConflictIsCommon_r19 n w3 h42 h332 w39 w34 w37 k0 m w520 w521)
      (fun w522 =>
      k0 h472 h473 w522)
def law19_OccupancyConflictIsCommon_p19 {R : Type} (n : Nat) (w3 : Int) (h42 : Int) (h332 : Int) (w39 : Int) (w34 : List (List D)) (w37 : List (List D)) (k0 : Bool → Int → Bool → Option R) : Option R := law19_OccupancyConflictIsCommon_r19 n w3 h42 h332 w39 w34 w37 k0 n false (0 : Int)
def law19_OccupancyConflictIsCommon_p20 {R : Type} (n : Nat) (w3 : Int) (h42 : Int) (h332 : Int) (w39 : Int) (w34 : List (List D)) (w37 : List (List D)) (k0 : Bool → Int → Bool → Option R) : Option R :=
  law19_OccupancyConflictIsCommon_p19 n w3 h42 h332 w39 w34 w37
    (fun w523 w524 w525 =>
    k0 w523 w524 w525)
def law19_OccupancyConflictIsCommon_p21 {R : Type} (n : Nat) (w3 : Int) (h42 : Int) (h332 : Int) (w39 : Int) (w34 : List (List D)) (w37 : List (List D)) (k0 : Bool → Int → Bool → Option R) : Option R :=
  law19_OccupancyConflictIsCommon_p17 n w3 h42 h332 w39 w34 w37
    (law19_OccupancyConflictIsCommon_p20 n w3 h42 h332 w39 w34 w37
      (fun w526 w527 w528 =>
      k0 w526 w527 w528))
def law19_OccupancyConflictIsCommon_p22 {R : Type} (n : Nat) (w3 : Int) (h42 : Int) (h332 : Int) (w529 : Bool) (w530 : Int) (w39 : Int) (w531 : Bool) (w34 : List (List D)) (w37 : List (List D)) (k0 : Option R) : Option R :=
  k0
def law19_OccupancyConflictIsCommon_p23 {R : Type} (n : Nat) (w3 : Int) (h42 : Int) (h332 : Int) (w529 : Bool) (w39 : Int) (w34 : List (List D)) (w37 : List (List D)) (k0 : Int → Option R) : Option R :=
  k0 ((List.length w37 : Nat) : Int)
def law19_OccupancyConflictIsCommon_p24 {R : Type} (n : Nat) (w3 : Int) (h42 : Int) (h332 : Int) (w529 : Bool) (h538 : Bool) (w39 : Int) (w533 : Int) (h542 : Int) (w34 : List (List D)) (w37 : List (List D)) (k0 : Bool → Int → Option R) (k1 : Bool → Option R) : Option R :=
  bif (decide (h542 < w533)) then
    gb (!h538) (inB (List.length w37) h542) () fun u554 =>
    gb (!h538) (w37[(Int.toNat h542)]?) [] fun r555 =>
    gb (!h538) (r555[0]?) (.bool false) fun c556 =>
    gb (!h538) (r555[1]?) (.bool false) fun c557 =>
    gb (!h538) (pInt .i64 c556) 0 fun i558 =>
    gb (!h538) (pInt .i64 c557) 0 fun i559 =>
    k0 (bif h538 then true else ((i558 == h332) && (i559 == h42))) (IntKind.wrap .i64 (h542 + (1 : Int)))
  else
    k1 (decide (h542 < w533))
def law19_OccupancyConflictIsCommon_r25 {R : Type} (n : Nat) (w3 : Int) (h42 : Int) (h332 : Int) (w529 : Bool) (w39 : Int) (w533 : Int) (w34 : List (List D)) (w37 : List (List D)) (k0 : Bool → Int → Bool → Option R) : Nat → Bool → Int → Option R
  | 0, _, _ => none
  | m + 1, h538, h542 =>
    law19_OccupancyConflictIsCommon_p24 n w3 h42 h332 w529 h538 w39 w533 h542 w34 w37
      (fun w563 w564 =>
      law19_OccupancyConflictIsCommon_r25 n w3 h42 h332 w529 w39 w533 w34 w37 k0 m w563 w564)
      (fun w565 =>
      k0 h538 h542 w565)
def law19_OccupancyConflictIsCommon_p25 {R : Type} (n : Nat) (w3 : Int) (h42 : Int) (h332 : Int) (w529 : Bool) (w39 : Int) (w533 : Int) (w34 : List (List D)) (w37 : List (List D)) (k0 : Bool → Int → Bool → Option R) : Option R := law19_OccupancyConflictIsCommon_r25 n w3 h42 h332 w529 w39 w533 w34 w37 k0 n false (0 : Int)
def law19_OccupancyConflictIsCommon_p26 {R : Type} (n : Nat) (w3 : Int) (h42 : Int) (h332 : Int) (w529 : Bool) (w39 : Int) (w533 : Int) (w34 : List (List D)) (w37 : List (List D)) (k0 : Bool → Int → Bool → Option R) : Option R :=
  law19_OccupancyConflictIsCommon_p25 n w3 h42 h332 w529 w39 w533 w34 w37
    (fun w566 w567 w568 =>
    k0 w566 w567 w568)
def law19_OccupancyConflictIsCommon_p27 {R : Type} (n : Nat) (w3 : Int) (h42 : Int) (h332 : Int) (w529 : Bool) (w39 : Int) (w34 : List (List D)) (w37 : List (List D)) (k0 : Bool → Int → Int → Bool → Option R) : Option R :=
  law19_OccupancyConflictIsCommon_p23 n w3 h42 h332 w529 w39 w34 w37
    (fun w533 =>
    law19_OccupancyConflictIsCommon_p26 n w3 h42 h332 w529 w39 w533 w34 w37
      (fun w569 w570 w571 =>
      k0 w569 w533 w570 w571))
def law19_OccupancyConflictIsCommon_p28 {R : Type} (n : Nat) (w3 : Int) (h42 : Int) (h332 : Int) (w529 : Bool) (w572 : Bool) (w39 : Int) (w573 : Int) (w574 : Int) (w575 : Bool) (w34 : List (List D)) (w37 : List (List D)) (k0 : Option R) (k1 : Bool → Option R) : Option R :=
  gb w529 (inB (List.length w34) h42) () fun u576 =>
  gb w529 (w34[(Int.toNat h42)]?) [] fun r577 =>
  gb w529 (r577[0]?) (.bool false) fun c578 =>
  gb w529 (pInt .i64 c578) 0 fun i579 =>
  gb w529 (inB (List.length w34) h332) () fun u580 =>
  gb w529 (w34[(Int.toNat h332)]?) [] fun r581 =>
  gb w529 (r581[0]?) (.bool false) fun c582 =>
  gb w529 (pInt .i64 c582) 0 fun i583 =>
  bif (!(w572 == (bif w529 then (i579 == i583) else false))) then
    k0
  else
    k1 (!(w572 == (bif w529 then (i579 == i583) else false)))
def law19_OccupancyConflictIsCommon_p29 {R : Type} (n : Nat) (w3 : Int) (h42 : Int) (h332 : Int) (w529 : Bool) (w39 : Int) (w34 : List (List D)) (w37 : List (List D)) (k0 : Option R) (k1 : Bool → Option R) : Option R :=
  law19_OccupancyConflictIsCommon_p27 n w3 h42 h332 w529 w39 w34 w37
    (fun w572 w573 w574 w575 =>
    law19_OccupancyConflictIsCommon_p28 n w3 h42 h332 w529 w572 w39 w573 w574 w575 w34 w37
      (k0)
      (fun w585 =>
      k1 w585))
def law19_OccupancyConflictIsCommon_p30 {R : Type} (n : Nat) (w3 : Int) (h42 : Int) (h332 : Int) (w529 : Bool) (w530 : Int) (w39 : Int) (w531 : Bool) (w34 : List (List D)) (w37 : List (List D)) (k0 : Option R) (k1 : Bool → Option R) : Option R :=
  law19_OccupancyConflictIsCommon_p22 n w3 h42 h332 w529 w530 w39 w531 w34 w37
    (law19_OccupancyConflictIsCommon_p29 n w3 h42 h332 w529 w39 w34 w37
      (k0)
      (fun w586 =>
      k1 w586))
def law19_OccupancyConflictIsCommon_p31 {R : Type} (n : Nat) (w3 : Int) (h42 : Int) (h332 : Int) (w39 : Int) (w34 : List (List D)) (w37 : List (List D)) (k0 : Option R) (k1 : Bool → Option R) : Option R :=
  law19_OccupancyConflictIsCommon_p21 n w3 h42 h332 w39 w34 w37
    (fun w529 w530 w531 =>
    law19_OccupancyConflictIsCommon_p30 n w3 h42 h332 w529 w530 w39 w531 w34 w37
      (k0)
      (fun w587 =>
      k1 w587))
def law19_OccupancyConflictIsCommon_p32 {R : Type} (n : Nat) (w3 : Int) (h42 : Int) (h332 : Int) (w39 : Int) (w468 : Bool) (w34 : List (List D)) (w37 : List (List D)) (k0 : Option R) (k1 : Bool → Option R) : Option R :=
  law19_OccupancyConflictIsCommon_p16 n w3 h42 h332 w39 w468 w34 w37
    (law19_OccupancyConflictIsCommon_p31 n w3 h42 h332 w39 w34 w37
      (k0)
      (fun w588 =>
      k1 w588))
def law19_OccupancyConflictIsCommon_p33 {R : Type} (n : Nat) (w3 : Int) (h42 : Int) (h332 : Int) (w39 : Int) (w468 : Bool) (w34 : List (List D)) (w37 : List (List D)) (k0 : Option R) (k1 : Bool → Option R) : Option R :=
  law19_OccupancyConflictIsCommon_p32 n w3 h42 h332 w39 w468 w34 w37
    (k0)
    (fun w589 =>
    k1 w589)
def law19_OccupancyConflictIsCommon_p34 {R : Type} (n : Nat) (w3 : Int) (h42 : Int) (h332 : Int) (w39 : Int) (w590 : Bool) (w34 : List (List D)) (w37 : List (List D)) (k0 : Int → Option R) : Option R :=
  k0 (IntKind.wrap .i64 (h332 + (1 : Int)))
def law19_OccupancyConflictIsCommon_p35 {R : Type} (n : Nat) (w3 : Int) (h42 : Int) (h332 : Int) (w39 : Int) (w468 : Bool) (w34 : List (List D)) (w37 : List (List D)) (k0 : Option R) (k1 : Int → Option R) : Option R :=
  law19_OccupancyConflictIsCommon_p33 n w3 h42 h332 w39 w468 w34 w37
    (k0)
    (fun w590 =>
    law19_OccupancyConflictIsCommon_p34 n w3 h42 h332 w39 w590 w34 w37
      (fun w592 =>
      k1 w592))
def law19_OccupancyConflictIsCommon_p36 {R : Type} (n : Nat) (w3 : Int) (h42 : Int) (h332 : Int) (w39 : Int) (w34 : List (List D)) (w37 : List (List D)) (k0 : Option R) (k1 : Int → Option R) (k2 : Bool → Option R) : Option R :=
  law19_OccupancyConflictIsCommon_p15 n w3 h42 h332 w39 w34 w37
    (fun w468 =>
    law19_OccupancyConflictIsCommon_p35 n w3 h42 h332 w39 w468 w34 w37
      (k0)
      (fun w593 =>
      k1 w593))
    (fun w594 =>
    k2 w594)
def law19_OccupancyConflictIsCommon_r37 {R : Type} (n : Nat) (w3 : Int) (h42 : Int) (w39 : Int) (w34 : List (List D)) (w37 : List (List D)) (k0 : Option R) (k1 : Int → Bool → Option R) : Nat → Int → Option R
  | 0, _ => none
  | m + 1, h332 =>
    law19_OccupancyConflictIsCommon_p36 n w3 h42 h332 w39 w34 w37
      (k0)
      (fun w595 =>
      law19_OccupancyConflictIsCommon_r37 n w3 h42 w39 w34 w37 k0 k1 m w595)
      (fun w596 =>
      k1 h332 w596)
def law19_OccupancyConflictIsCommon_p37 {R : Type} (n : Nat) (w3 : Int) (h42 : Int) (w39 : Int) (w34 : List (List D)) (w37 : List (List D)) (k0 : Option R) (k1 : Int → Bool → Option R) : Option R := law19_OccupancyConflictIsCommon_r37 n w3 h42 w39 w34 w37 k0 k1 n (0 : Int)
def law19_OccupancyConflictIsCommon_p38 {R : Type} (n : Nat) (w3 : Int) (h42 : Int) (w39 : Int) (w34 : List (List D)) (w37 : List (List D)) (k0 : Option R) (k1 : Int → Bool → Option R) : Option R :=
  law19_OccupancyConflictIsCommon_p37 n w3 h42 w39 w34 w37
    (k0)
    (fun w597 w598 =>
    k1 w597 w598)
def law19_OccupancyConflictIsCommon_p39 {R : Type} (n : Nat) (w3 : Int) (h42 : Int) (w39 : Int) (w34 : List (List D)) (w37 : List (List D)) (k0 : Option R) (k1 : Int → Bool → Option R) : Option R :=
  law19_OccupancyConflictIsCommon_p14 n w3 h42 w39 w34 w37
    (law19_OccupancyConflictIsCommon_p38 n w3 h42 w39 w34 w37
      (k0)
      (fun w599 w600 =>
      k1 w599 w600))
def law19_OccupancyConflictIsCommon_p40 {R : Type} (n : Nat) (w3 : Int) (w39 : Int) (h42 : Int) (w329 : Bool) (w34 : List (List D)) (w37 : List (List D)) (k0 : Option R) (k1 : Int → Bool → Option R) : Option R :=
  law19_OccupancyConflictIsCommon_p13 n w3 w39 h42 w329 w34 w37
    (law19_OccupancyConflictIsCommon_p39 n w3 h42 w39 w34 w37
      (k0)
      (fun w601 w602 =>
      k1 w601 w602))
def law19_OccupancyConflictIsCommon_p41 {R : Type} (n : Nat) (w3 : Int) (w39 : Int) (h42 : Int) (w329 : Bool) (w34 : List (List D)) (w37 : List (List D)) (k0 : Option R) (k1 : Int → Bool → Option R) : Option R :=
  law19_OccupancyConflictIsCommon_p40 n w3 w39 h42 w329 w34 w37
    (k0)
    (fun w603 w604 =>
    k1 w603 w604)
def law19_OccupancyConflictIsCommon_p42 {R : Type} (n : Nat) (w3 : Int) (h42 : Int) (w605 : Int) (w39 : Int) (w606 : Bool) (w34 : List (List D)) (w37 : List (List D)) (k0 : Int → Option R) : Option R :=
  k0 (IntKind.wrap .i64 (h42 + (1 : Int)))
def law19_OccupancyConflictIsCommon_p43 {R : Type} (n : Nat) (w3 : Int) (w39 : Int) (h42 : Int) (w329 : Bool) (w34 : List (List D)) (w37 : List (List D)) (k0 : Option R) (k1 : Int → Option R) : Option R :=
  law19_OccupancyConflictIsCommon_p41 n w3 w39 h42 w329 w34 w37
    (k0)
    (fun w605 w606 =>
    law19_OccupancyConflictIsCommon_p42 n w3 h42 w605 w39 w606 w34 w37
      (fun w608 =>
      k1 w608))
def law19_OccupancyConflictIsCommon_p44 {R : Type} (n : Nat) (w3 : Int) (w39 : Int) (h42 : Int) (w329 : Bool) (w34 : List (List D)) (w37 : List (List D)) (k0 : Option R) (k1 : Int → Option R) (k2 : Option R) : Option R :=
  law19_OccupancyConflictIsCommon_p12 n w3 w39 h42 w329 w34 w37
    (law19_OccupancyConflictIsCommon_p43 n w3 w39 h42 w329 w34 w37
      (k0)
      (fun w609 =>
      k1 w609))
    (k2)
def law19_OccupancyConflictIsCommon_p45 {R : Type} (n : Nat) (w3 : Int) (w39 : Int) (h42 : Int) (w34 : List (List D)) (w37 : List (List D)) (k0 : Option R) (k1 : Int → Option R) (k2 : Bool → Option R) : Option R :=
  law19_OccupancyConflictIsCommon_p11 n w3 w39 h42 w34 w37
    (fun w329 =>
    law19_OccupancyConflictIsCommon_p44 n w3 w39 h42 w329 w34 w37
      (k0)
      (fun w610 =>
      k1 w610)
      (k2 w329))
def law19_OccupancyConflictIsCommon_r46 {R : Type} (n : Nat) (w3 : Int) (w39 : Int) (w34 : List (List D)) (w37 : List (List D)) (k0 : Option R) (k1 : Int → Bool → Option R) : Nat → Int → Option R
  | 0, _ => none
  | m + 1, h42 =>
    law19_OccupancyConflictIsCommon_p45 n w3 w39 h42 w34 w37
      (k0)
      (fun w611 =>
      law19_OccupancyConflictIsCommon_r46 n w3 w39 w34 w37 k0 k1 m w611)
      (fun w612 =>
      k1 h42 w612)
def law19_OccupancyConflictIsCommon_p46 {R : Type} (n : Nat) (w3 : Int) (w39 : Int) (w34 : List (List D)) (w37 : List (List D)) (k0 : Option R) (k1 : Int → Bool → Option R) : Option R := law19_OccupancyConflictIsCommon_r46 n w3 w39 w34 w37 k0 k1 n (0 : Int)
def law19_OccupancyConflictIsCommon_p47 {R : Type} (n : Nat) (w3 : Int) (w39 : Int) (w34 : List (List D)) (w37 : List (List D)) (k0 : Option R) (k1 : Int → Bool → Option R) : Option R :=
  law19_OccupancyConflictIsCommon_p46 n w3 w39 w34 w37
    (k0)
    (fun w613 w614 =>
    k1 w613 w614)
def law19_OccupancyConflictIsCommon_p48 {R : Type} (n : Nat) (w3 : Int) (w34 : List (List D)) (w37 : List (List D)) (k0 : Option R) (k1 : Int → Int → Bool → Option R) : Option R :=
  law19_OccupancyConflictIsCommon_p10 n w3 w34 w37
    (fun w39 =>
    law19_OccupancyConflictIsCommon_p47 n w3 w39 w34 w37
      (k0)
      (fun w615 w616 =>
      k1 w39 w615 w616))
def law19_OccupancyConflictIsCommon_p49 {R : Type} (n : Nat) (w3 : Int) (w617 : Int) (w618 : Int) (w619 : Bool) (w34 : List (List D)) (w37 : List (List D)) (k0 : Bool → Option R) : Option R :=
  gb true (law19_awake n  some) false fun r620 =>
  k0 r620
def law19_OccupancyConflictIsCommon_p50 {R : Type} (n : Nat) (w3 : Int) (w34 : List (List D)) (w37 : List (List D)) (k0 : Bool → Option R) : Option R :=
  law19_OccupancyConflictIsCommon_p48 n w3 w34 w37
    (k0 false)
    (fun w617 w618 w619 =>
    law19_OccupancyConflictIsCommon_p49 n w3 w617 w618 w619 w34 w37
      (fun w621 =>
      k0 w621))
def law19_OccupancyConflictIsCommon_p51 {R : Type} (n : Nat) (w3 : Int) (w31 : Int) (w32 : Int) (w33 : Bool) (w34 : List (List D)) (k0 : Bool → Option R) : Option R :=
  law19_OccupancyConflictIsCommon_p9 n w3 w31 w32 w33 w34
    (fun w37 =>
    law19_OccupancyConflictIsCommon_p50 n w3 w34 w37
      (fun w623 =>
      k0 w623))
def law19_OccupancyConflictIsCommon_p52 {R : Type} (n : Nat) (w3 : Int) (w5 : List (List D)) (k0 : Bool → Option R) : Option R :=
  law19_OccupancyConflictIsCommon_p8 n w3 w5
    (fun w31 w32 w33 w34 =>
    law19_OccupancyConflictIsCommon_p51 n w3 w31 w32 w33 w34
      (fun w624 =>
      k0 w624))
def law19_OccupancyConflictIsCommon_p53 {R : Type} (n : Nat) (w3 : Int) (a1 : List (List D)) (k0 : Bool → Option R) : Option R :=
  law19_OccupancyConflictIsCommon_p3 n w3 a1
    (fun w5 =>
    law19_OccupancyConflictIsCommon_p52 n w3 w5
      (fun w625 =>
      k0 w625))
def law19_OccupancyConflictIsCommon_p54 {R : Type} (n : Nat) (a0 : Int) (a1 : List (List D)) (k0 : Bool → Option R) : Option R :=
  law19_OccupancyConflictIsCommon_p2 n a0 a1
    (fun w3 =>
    law19_OccupancyConflictIsCommon_p53 n w3 a1
      (fun w626 =>
      k0 w626))
def law19_OccupancyConflictIsCommon_p55 {R : Type} (n : Nat) (a0 : Int) (a1 : List (List D)) (k0 : Bool → Option R) : Option R :=
  law19_OccupancyConflictIsCommon_p1 n a0 a1
    (law19_OccupancyConflictIsCommon_p54 n a0 a1
      (fun w627 =>
      k0 w627))
def law19_OccupancyConflictIsCommon {R : Type} (n : Nat) (a0 : Int) (a1 : List (List D)) (K : Bool → Option R) : Option R :=
  law19_OccupancyConflictIsCommon_p55 n a0 a1
    (fun w627 => K w627)
end Go.Vx
