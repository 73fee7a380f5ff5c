/- Part of a proof: texts Vfnetwork isEvent Vfnetwork Check Vfref11 in Vfref11 Check Vfnetwork Good Vfref11 Good Vfarith Mod Vfnetwork duration Vfnetwork First Vfref1 Mod Vfref11 Lasts Vfref11 First Vfnetwo. No conditions of their own. -/
import Derived.Test.YtpaalnanfaipjaaRVA
/-
  network_isEvent: the pure function
-/
set_option linter.unusedVariables false
namespace Go.Vx
def network_isEvent_p1 {R : Type} (n : Nat) (a0_0 : Int) (a0_1 : List (List D)) (a0_2 : List (List D)) (a1 : Int) (k0 : Bool → Option R) : Option R :=
  k0 (bif (decide (a1 ≥ (0 : Int))) then (decide (a1 < ((List.length a0_1 : Nat) : Int))) else false)
def network_isEvent {R : Type} (n : Nat) (a0_0 : Int) (a0_1 : List (List D)) (a0_2 : List (List D)) (a1 : Int) (K : Bool → Option R) : Option R :=
  network_isEvent_p1 n a0_0 a0_1 a0_2 a1
    (fun z1 => K z1)
end Go.Vx
/-
  network_Check: the pure function
-/
set_option linter.unusedVariables false
namespace Go.Vx
def network_Check_p1 {R : Type} (n : Nat) (a0_0 : Int) (a0_1 : List (List D)) (a0_2 : List (List D)) (k0 : Option R) : Option R :=
  k0
def network_Check_p2 {R : Type} (n : Nat) (a0_0 : Int) (a0_1 : List (List D)) (a0_2 : List (List D)) (k0 : Option R) (k1 : Bool → Option R) : Option R :=
  bif (bif (bif (bif (decide (a0_0 < (2 : Int))) then true else (decide (a0_0 > (7200 : Int)))) then true else (decide (((List.length a0_1 : Nat) : Int) > (48 : Int)))) then true else (decide (((List.length a0_2 : Nat) : Int) > (512 : Int)))) then
    k0
  else
    k1 (bif (bif (bif (decide (a0_0 < (2 : Int))) then true else (decide (a0_0 > (7200 : Int)))) then true else (decide (((List.length a0_1 : Nat) : Int) > (48 : Int)))) then true else (decide (((List.length a0_2 : Nat) : Int) > (512 : Int))))
def network_Check_p3 {R : Type} (n : Nat) (w2 : Bool) (a0_0 : Int) (a0_1 : List (List D)) (a0_2 : List (List D)) (k0 : Int → Option R) : Option R :=
  k0 ((List.length a0_2 : Nat) : Int)
def network_Check_p4 {R : Type} (n : Nat) (a0_2 : List (List D)) (w4 : Int) (h7 : Int) (a0_0 : Int) (a0_1 : List (List D)) (k0 : Option R) (k1 : Int → Option R) (k2 : Bool → Option R) : Option R :=
  bif (decide (h7 < w4)) then
    gb true (rowAt a0_2 h7) [] fun r34 =>
    gb true (r34[0]?) (.bool false) fun c35 =>
    gb true (r34[1]?) (.bool false) fun c36 =>
    gb true (r34[2]?) (.bool false) fun c37 =>
    gb true (r34[3]?) (.bool false) fun c38 =>
    gb true (r34[4]?) (.bool false) fun c39 =>
    gb true (r34[5]?) (.bool false) fun c40 =>
    gb true (pInt .i64 c36) 0 fun i41 =>
    gb true (network_isEvent n a0_0 a0_1 a0_2 i41 some) false fun r42 =>
    gb (!(!r42)) (pInt .i64 c37) 0 fun i43 =>
    gb (!(!r42)) (network_isEvent n a0_0 a0_1 a0_2 i43 some) false fun r44 =>
    gb (!(bif (!r42) then true else (!r44))) (pInt .i64 c36) 0 fun i45 =>
    gb (!(bif (!r42) then true else (!r44))) (pInt .i64 c37) 0 fun i46 =>
    bif (bif (bif (!r42) then true else (!r44)) then true else (i45 == i46)) then
      k0
    else
      gb true (pInt .i64 c38) 0 fun i47 =>
      gb (!(decide (i47 < (-65536 : Int)))) (pInt .i64 c38) 0 fun i48 =>
      gb (!(decide (i47 < (-65536 : Int)))) (pInt .i64 c39) 0 fun i49 =>
      gb (!(bif (decide (i47 < (-65536 : Int))) then true else (decide (i48 > i49)))) (pInt .i64 c39) 0 fun i50 =>
      gb (!(bif (bif (decide (i47 < (-65536 : Int))) then true else (decide (i48 > i49))) then true else (decide (i50 > (65536 : Int))))) (pInt .i64 c39) 0 fun i51 =>
      gb (!(bif (bif (decide (i47 < (-65536 : Int))) then true else (decide (i48 > i49))) then true else (decide (i50 > (65536 : Int))))) (pInt .i64 c38) 0 fun i52 =>
      bif (bif (bif (bif (decide (i47 < (-65536 : Int))) then true else (decide (i48 > i49))) then true else (decide (i50 > (65536 : Int)))) then true else (decide ((IntKind.wrap .i64 (i51 - i52)) ≥ a0_0))) then
        k0
      else
        gb true (pInt .i64 c40) 0 fun i53 =>
        gb (!(decide (i53 < (0 : Int)))) (pInt .i64 c40) 0 fun i54 =>
        bif (bif (decide (i53 < (0 : Int))) then true else (decide (i54 > (1048576 : Int)))) then
          k0
        else
          k1 (IntKind.wrap .i64 (h7 + (1 : Int)))
  else
    k2 (decide (h7 < w4))
def network_Check_r5 {R : Type} (n : Nat) (a0_2 : List (List D)) (w4 : Int) (a0_0 : Int) (a0_1 : List (List D)) (k0 : Option R) (k1 : Int → Bool → Option R) : Nat → Int → Option R
  | 0, _ => none
  | m + 1, h7 =>
    network_Check_p4 n a0_2 w4 h7 a0_0 a0_1
      (k0)
      (fun w57 =>
      network_Check_r5 n a0_2 w4 a0_0 a0_1 k0 k1 m w57)
      (fun w58 =>
      k1 h7 w58)
def network_Check_p5 {R : Type} (n : Nat) (a0_2 : List (List D)) (w4 : Int) (a0_0 : Int) (a0_1 : List (List D)) (k0 : Option R) (k1 : Int → Bool → Option R) : Option R := network_Check_r5 n a0_2 w4 a0_0 a0_1 k0 k1 n (0 : Int)
def network_Check_p6 {R : Type} (n : Nat) (a0_2 : List (List D)) (w4 : Int) (a0_0 : Int) (a0_1 : List (List D)) (k0 : Option R) (k1 : Int → Bool → Option R) : Option R :=
  network_Check_p5 n a0_2 w4 a0_0 a0_1
    (k0)
    (fun w59 w60 =>
    k1 w59 w60)
def network_Check_p7 {R : Type} (n : Nat) (w2 : Bool) (a0_0 : Int) (a0_1 : List (List D)) (a0_2 : List (List D)) (k0 : Option R) (k1 : Int → Int → Bool → Option R) : Option R :=
  network_Check_p3 n w2 a0_0 a0_1 a0_2
    (fun w4 =>
    network_Check_p6 n a0_2 w4 a0_0 a0_1
      (k0)
      (fun w61 w62 =>
      k1 w4 w61 w62))
def network_Check_p8 {R : Type} (n : Nat) (a0_2 : List (List D)) (w63 : Int) (w64 : Int) (w65 : Bool) (a0_0 : Int) (a0_1 : List (List D)) (k0 : Option R) : Option R :=
  k0
def network_Check_p9 {R : Type} (n : Nat) (w2 : Bool) (a0_0 : Int) (a0_1 : List (List D)) (a0_2 : List (List D)) (k0 : Bool → Option R) : Option R :=
  network_Check_p7 n w2 a0_0 a0_1 a0_2
    (k0 false)
    (fun w63 w64 w65 =>
    network_Check_p8 n a0_2 w63 w64 w65 a0_0 a0_1
      (k0 true))
def network_Check_p10 {R : Type} (n : Nat) (a0_0 : Int) (a0_1 : List (List D)) (a0_2 : List (List D)) (k0 : Bool → Option R) : Option R :=
  network_Check_p2 n a0_0 a0_1 a0_2
    (k0 false)
    (fun w2 =>
    network_Check_p9 n w2 a0_0 a0_1 a0_2
      (fun w67 =>
      k0 w67))
def network_Check_p11 {R : Type} (n : Nat) (a0_0 : Int) (a0_1 : List (List D)) (a0_2 : List (List D)) (k0 : Bool → Option R) : Option R :=
  network_Check_p1 n a0_0 a0_1 a0_2
    (network_Check_p10 n a0_0 a0_1 a0_2
      (fun w69 =>
      k0 w69))
def network_Check {R : Type} (n : Nat) (a0_0 : Int) (a0_1 : List (List D)) (a0_2 : List (List D)) (K : Bool → Option R) : Option R :=
  network_Check_p11 n a0_0 a0_1 a0_2
    (fun w69 => K w69)
end Go.Vx
/-
  ref11_in: the pure function
-/
set_option linter.unusedVariables false
namespace Go.Vx
def ref11_in_p1 {R : Type} (n : Nat) (a0 : Int) (a1 : Int) (a2 : Int) (k0 : Bool → Option R) : Option R :=
  k0 (bif (decide (a0 ≥ a1)) then (decide (a0 ≤ a2)) else false)
def ref11_in {R : Type} (n : Nat) (a0 : Int) (a1 : Int) (a2 : Int) (K : Bool → Option R) : Option R :=
  ref11_in_p1 n a0 a1 a2
    (fun z1 => K z1)
end Go.Vx
/-
  ref11_Check: the pure function
-/
set_option linter.unusedVariables false
namespace Go.Vx
def ref11_Check_p1 {R : Type} (n : Nat) (a0_0 : Int) (a0_1 : List (List D)) (a0_2 : List (List D)) (k0 : Option R) : Option R :=
  k0
def ref11_Check_p2 {R : Type} (n : Nat) (a0_0 : Int) (a0_1 : List (List D)) (a0_2 : List (List D)) (k0 : Option R) (k1 : Bool → Option R) : Option R :=
  gb true (ref11_in n a0_0 (2 : Int) (7200 : Int) some) false fun r1 =>
  bif (bif (bif (!r1) then true else (decide (((List.length a0_1 : Nat) : Int) > (48 : Int)))) then true else (decide (((List.length a0_2 : Nat) : Int) > (512 : Int)))) then
    k0
  else
    k1 (bif (bif (!r1) then true else (decide (((List.length a0_1 : Nat) : Int) > (48 : Int)))) then true else (decide (((List.length a0_2 : Nat) : Int) > (512 : Int))))
def ref11_Check_p3 {R : Type} (n : Nat) (w3 : Bool) (a0_0 : Int) (a0_1 : List (List D)) (a0_2 : List (List D)) (k0 : Option R) : Option R :=
  k0
def ref11_Check_p4 {R : Type} (n : Nat) (h4 : Int) (a0_0 : Int) (a0_1 : List (List D)) (a0_2 : List (List D)) (k0 : Option R) (k1 : Int → Option R) (k2 : Bool → Option R) : Option R :=
  bif (decide (h4 < ((List.length a0_2 : Nat) : Int))) then
    gb true (rowAt a0_2 h4) [] fun r31 =>
    gb true (r31[0]?) (.bool false) fun c32 =>
    gb true (r31[1]?) (.bool false) fun c33 =>
    gb true (r31[2]?) (.bool false) fun c34 =>
    gb true (r31[3]?) (.bool false) fun c35 =>
    gb true (r31[4]?) (.bool false) fun c36 =>
    gb true (r31[5]?) (.bool false) fun c37 =>
    gb true (pInt .i64 c33) 0 fun i38 =>
    gb true (ref11_in n i38 (0 : Int) (IntKind.wrap .i64 (((List.length a0_1 : Nat) : Int) - (1 : Int))) some) false fun r39 =>
    gb (!(!r39)) (pInt .i64 c34) 0 fun i40 =>
    gb (!(!r39)) (ref11_in n i40 (0 : Int) (IntKind.wrap .i64 (((List.length a0_1 : Nat) : Int) - (1 : Int))) some) false fun r41 =>
    gb (!(bif (!r39) then true else (!r41))) (pInt .i64 c33) 0 fun i42 =>
    gb (!(bif (!r39) then true else (!r41))) (pInt .i64 c34) 0 fun i43 =>
    gb (!(bif (bif (!r39) then true else (!r41)) then true else (i42 == i43))) (pInt .i64 c35) 0 fun i44 =>
    gb (!(bif (bif (bif (!r39) then true else (!r41)) then true else (i42 == i43)) then true else (decide (i44 < (-65536 : Int))))) (pInt .i64 c36) 0 fun i45 =>
    gb (!(bif (bif (bif (bif (!r39) then true else (!r41)) then true else (i42 == i43)) then true else (decide (i44 < (-65536 : Int)))) then true else (decide (i45 > (65536 : Int))))) (pInt .i64 c35) 0 fun i46 =>
    gb (!(bif (bif (bif (bif (!r39) then true else (!r41)) then true else (i42 == i43)) then true else (decide (i44 < (-65536 : Int)))) then true else (decide (i45 > (65536 : Int))))) (pInt .i64 c36) 0 fun i47 =>
    gb (!(bif (bif (bif (bif (bif (!r39) then true else (!r41)) then true else (i42 == i43)) then true else (decide (i44 < (-65536 : Int)))) then true else (decide (i45 > (65536 : Int)))) then true else (decide (i46 > i47)))) (pInt .i64 c36) 0 fun i48 =>
    gb (!(bif (bif (bif (bif (bif (!r39) then true else (!r41)) then true else (i42 == i43)) then true else (decide (i44 < (-65536 : Int)))) then true else (decide (i45 > (65536 : Int)))) then true else (decide (i46 > i47)))) (pInt .i64 c35) 0 fun i49 =>
    gb (!(bif (bif (bif (bif (bif (bif (!r39) then true else (!r41)) then true else (i42 == i43)) then true else (decide (i44 < (-65536 : Int)))) then true else (decide (i45 > (65536 : Int)))) then true else (decide (i46 > i47))) then true else (decide ((IntKind.wrap .i64 (i48 - i49)) ≥ a0_0)))) (pInt .i64 c37) 0 fun i50 =>
    gb (!(bif (bif (bif (bif (bif (bif (!r39) then true else (!r41)) then true else (i42 == i43)) then true else (decide (i44 < (-65536 : Int)))) then true else (decide (i45 > (65536 : Int)))) then true else (decide (i46 > i47))) then true else (decide ((IntKind.wrap .i64 (i48 - i49)) ≥ a0_0)))) (ref11_in n i50 (0 : Int) (1048576 : Int) some) false fun r51 =>
    bif (bif (bif (bif (bif (bif (bif (bif (!r39) then true else (!r41)) then true else (i42 == i43)) then true else (decide (i44 < (-65536 : Int)))) then true else (decide (i45 > (65536 : Int)))) then true else (decide (i46 > i47))) then true else (decide ((IntKind.wrap .i64 (i48 - i49)) ≥ a0_0))) then true else (!r51)) then
      k0
    else
      k1 (IntKind.wrap .i64 (h4 + (1 : Int)))
  else
    k2 (decide (h4 < ((List.length a0_2 : Nat) : Int)))
def ref11_Check_r5 {R : Type} (n : Nat) (a0_0 : Int) (a0_1 : List (List D)) (a0_2 : List (List D)) (k0 : Option R) (k1 : Int → Bool → Option R) : Nat → Int → Option R
  | 0, _ => none
  | m + 1, h4 =>
    ref11_Check_p4 n h4 a0_0 a0_1 a0_2
      (k0)
      (fun w54 =>
      ref11_Check_r5 n a0_0 a0_1 a0_2 k0 k1 m w54)
      (fun w55 =>
      k1 h4 w55)
def ref11_Check_p5 {R : Type} (n : Nat) (a0_0 : Int) (a0_1 : List (List D)) (a0_2 : List (List D)) (k0 : Option R) (k1 : Int → Bool → Option R) : Option R := ref11_Check_r5 n a0_0 a0_1 a0_2 k0 k1 n (0 : Int)
def ref11_Check_p6 {R : Type} (n : Nat) (a0_0 : Int) (a0_1 : List (List D)) (a0_2 : List (List D)) (k0 : Option R) (k1 : Int → Bool → Option R) : Option R :=
  ref11_Check_p5 n a0_0 a0_1 a0_2
    (k0)
    (fun w56 w57 =>
    k1 w56 w57)
def ref11_Check_p7 {R : Type} (n : Nat) (w3 : Bool) (a0_0 : Int) (a0_1 : List (List D)) (a0_2 : List (List D)) (k0 : Option R) (k1 : Int → Bool → Option R) : Option R :=
  ref11_Check_p3 n w3 a0_0 a0_1 a0_2
    (ref11_Check_p6 n a0_0 a0_1 a0_2
      (k0)
      (fun w58 w59 =>
      k1 w58 w59))
def ref11_Check_p8 {R : Type} (n : Nat) (w60 : Int) (w61 : Bool) (a0_0 : Int) (a0_1 : List (List D)) (a0_2 : List (List D)) (k0 : Option R) : Option R :=
  k0
def ref11_Check_p9 {R : Type} (n : Nat) (w3 : Bool) (a0_0 : Int) (a0_1 : List (List D)) (a0_2 : List (List D)) (k0 : Bool → Option R) : Option R :=
  ref11_Check_p7 n w3 a0_0 a0_1 a0_2
    (k0 false)
    (fun w60 w61 =>
    ref11_Check_p8 n w60 w61 a0_0 a0_1 a0_2
      (k0 true))
def ref11_Check_p10 {R : Type} (n : Nat) (a0_0 : Int) (a0_1 : List (List D)) (a0_2 : List (List D)) (k0 : Bool → Option R) : Option R :=
  ref11_Check_p2 n a0_0 a0_1 a0_2
    (k0 false)
    (fun w3 =>
    ref11_Check_p9 n w3 a0_0 a0_1 a0_2
      (fun w63 =>
      k0 w63))
def ref11_Check_p11 {R : Type} (n : Nat) (a0_0 : Int) (a0_1 : List (List D)) (a0_2 : List (List D)) (k0 : Bool → Option R) : Option R :=
  ref11_Check_p1 n a0_0 a0_1 a0_2
    (ref11_Check_p10 n a0_0 a0_1 a0_2
      (fun w65 =>
      k0 w65))
def ref11_Check {R : Type} (n : Nat) (a0_0 : Int) (a0_1 : List (List D)) (a0_2 : List (List D)) (K : Bool → Option R) : Option R :=
  ref11_Check_p11 n a0_0 a0_1 a0_2
    (fun w65 => K w65)
end Go.Vx
/-
  network_Good: the pure function
-/
set_option linter.unusedVariables false
namespace Go.Vx
def network_Good_p1 {R : Type} (n : Nat) (a0_0 : Int) (a0_1 : List (List D)) (a0_2 : List (List D)) (a1 : List (List D)) (k0 : Option R) : Option R :=
  k0
def network_Good_p2 {R : Type} (n : Nat) (a1 : List (List D)) (a0_0 : Int) (a0_1 : List (List D)) (a0_2 : List (List D)) (k0 : Option R) (k1 : Bool → Option R) : Option R :=
  gb true (network_Check n a0_0 a0_1 a0_2 some) false fun r1 =>
  bif (bif (!r1) then true else (((List.length a1 : Nat) : Int) != ((List.length a0_1 : Nat) : Int))) then
    k0
  else
    k1 (bif (!r1) then true else (((List.length a1 : Nat) : Int) != ((List.length a0_1 : Nat) : Int)))
def network_Good_p3 {R : Type} (n : Nat) (a1 : List (List D)) (w3 : Bool) (a0_0 : Int) (a0_1 : List (List D)) (a0_2 : List (List D)) (k0 : Int → Option R) : Option R :=
  k0 ((List.length a1 : Nat) : Int)
def network_Good_p4 {R : Type} (n : Nat) (a1 : List (List D)) (w5 : Int) (h8 : Int) (a0_0 : Int) (a0_1 : List (List D)) (a0_2 : List (List D)) (k0 : Option R) (k1 : Int → Option R) (k2 : Bool → Option R) : Option R :=
  bif (decide (h8 < w5)) then
    gb true (rowAt a1 h8) [] fun r17 =>
    gb true (r17[0]?) (.bool false) fun c18 =>
    gb true (pInt .i64 c18) 0 fun i19 =>
    bif (bif (decide (i19 < (0 : Int))) then true else (decide (i19 ≥ a0_0))) then
      k0
    else
      k1 (IntKind.wrap .i64 (h8 + (1 : Int)))
  else
    k2 (decide (h8 < w5))
def network_Good_r5 {R : Type} (n : Nat) (a1 : List (List D)) (w5 : Int) (a0_0 : Int) (a0_1 : List (List D)) (a0_2 : List (List D)) (k0 : Option R) (k1 : Int → Bool → Option R) : Nat → Int → Option R
  | 0, _ => none
  | m + 1, h8 =>
    network_Good_p4 n a1 w5 h8 a0_0 a0_1 a0_2
      (k0)
      (fun w22 =>
      network_Good_r5 n a1 w5 a0_0 a0_1 a0_2 k0 k1 m w22)
      (fun w23 =>
      k1 h8 w23)
def network_Good_p5 {R : Type} (n : Nat) (a1 : List (List D)) (w5 : Int) (a0_0 : Int) (a0_1 : List (List D)) (a0_2 : List (List D)) (k0 : Option R) (k1 : Int → Bool → Option R) : Option R := network_Good_r5 n a1 w5 a0_0 a0_1 a0_2 k0 k1 n (0 : Int)
def network_Good_p6 {R : Type} (n : Nat) (a1 : List (List D)) (w5 : Int) (a0_0 : Int) (a0_1 : List (List D)) (a0_2 : List (List D)) (k0 : Option R) (k1 : Int → Bool → Option R) : Option R :=
  network_Good_p5 n a1 w5 a0_0 a0_1 a0_2
    (k0)
    (fun w24 w25 =>
    k1 w24 w25)
def network_Good_p7 {R : Type} (n : Nat) (a1 : List (List D)) (w3 : Bool) (a0_0 : Int) (a0_1 : List (List D)) (a0_2 : List (List D)) (k0 : Option R) (k1 : Int → Int → Bool → Option R) : Option R :=
  network_Good_p3 n a1 w3 a0_0 a0_1 a0_2
    (fun w5 =>
    network_Good_p6 n a1 w5 a0_0 a0_1 a0_2
      (k0)
      (fun w26 w27 =>
      k1 w5 w26 w27))
def network_Good_p8 {R : Type} (n : Nat) (a1 : List (List D)) (w28 : Int) (w29 : Int) (w30 : Bool) (a0_0 : Int) (a0_1 : List (List D)) (a0_2 : List (List D)) (k0 : Option R) : Option R :=
  k0
def network_Good_p9 {R : Type} (n : Nat) (a1 : List (List D)) (w3 : Bool) (a0_0 : Int) (a0_1 : List (List D)) (a0_2 : List (List D)) (k0 : Bool → Option R) : Option R :=
  network_Good_p7 n a1 w3 a0_0 a0_1 a0_2
    (k0 false)
    (fun w28 w29 w30 =>
    network_Good_p8 n a1 w28 w29 w30 a0_0 a0_1 a0_2
      (k0 true))
def network_Good_p10 {R : Type} (n : Nat) (a1 : List (List D)) (a0_0 : Int) (a0_1 : List (List D)) (a0_2 : List (List D)) (k0 : Bool → Option R) : Option R :=
  network_Good_p2 n a1 a0_0 a0_1 a0_2
    (k0 false)
    (fun w3 =>
    network_Good_p9 n a1 w3 a0_0 a0_1 a0_2
      (fun w32 =>
      k0 w32))
def network_Good_p11 {R : Type} (n : Nat) (a0_0 : Int) (a0_1 : List (List D)) (a0_2 : List (List D)) (a1 : List (List D)) (k0 : Bool → Option R) : Option R :=
  network_Good_p1 n a0_0 a0_1 a0_2 a1
    (network_Good_p10 n a1 a0_0 a0_1 a0_2
      (fun w34 =>
      k0 w34))
def network_Good {R : Type} (n : Nat) (a0_0 : Int) (a0_1 : List (List D)) (a0_2 : List (List D)) (a1 : List (List D)) (K : Bool → Option R) : Option R :=
  network_Good_p11 n a0_0 a0_1 a0_2 a1
    (fun w34 => K w34)
end Go.Vx
/-
  ref11_Good: the pure function
-/
set_option linter.unusedVariables false
namespace Go.Vx
def ref11_Good_p1 {R : Type} (n : Nat) (a0_0 : Int) (a0_1 : List (List D)) (a0_2 : List (List D)) (a1 : List (List D)) (k0 : Option R) : Option R :=
  k0
def ref11_Good_p2 {R : Type} (n : Nat) (a1 : List (List D)) (a0_0 : Int) (a0_1 : List (List D)) (a0_2 : List (List D)) (k0 : Option R) (k1 : Bool → Option R) : Option R :=
  gb true (ref11_Check n a0_0 a0_1 a0_2 some) false fun r1 =>
  bif (bif (!r1) then true else (((List.length a1 : Nat) : Int) != ((List.length a0_1 : Nat) : Int))) then
    k0
  else
    k1 (bif (!r1) then true else (((List.length a1 : Nat) : Int) != ((List.length a0_1 : Nat) : Int)))
def ref11_Good_p3 {R : Type} (n : Nat) (a1 : List (List D)) (w3 : Bool) (a0_0 : Int) (a0_1 : List (List D)) (a0_2 : List (List D)) (k0 : Option R) : Option R :=
  k0
def ref11_Good_p4 {R : Type} (n : Nat) (a1 : List (List D)) (h5 : Int) (a0_0 : Int) (a0_1 : List (List D)) (a0_2 : List (List D)) (k0 : Option R) (k1 : Int → Option R) (k2 : Bool → Option R) : Option R :=
  bif (decide (h5 < ((List.length a1 : Nat) : Int))) then
    gb true (rowAt a1 h5) [] fun r15 =>
    gb true (r15[0]?) (.bool false) fun c16 =>
    gb true (pInt .i64 c16) 0 fun i17 =>
    gb true (ref11_in n i17 (0 : Int) (IntKind.wrap .i64 (a0_0 - (1 : Int))) some) false fun r18 =>
    bif (!r18) then
      k0
    else
      k1 (IntKind.wrap .i64 (h5 + (1 : Int)))
  else
    k2 (decide (h5 < ((List.length a1 : Nat) : Int)))
def ref11_Good_r5 {R : Type} (n : Nat) (a1 : List (List D)) (a0_0 : Int) (a0_1 : List (List D)) (a0_2 : List (List D)) (k0 : Option R) (k1 : Int → Bool → Option R) : Nat → Int → Option R
  | 0, _ => none
  | m + 1, h5 =>
    ref11_Good_p4 n a1 h5 a0_0 a0_1 a0_2
      (k0)
      (fun w21 =>
      ref11_Good_r5 n a1 a0_0 a0_1 a0_2 k0 k1 m w21)
      (fun w22 =>
      k1 h5 w22)
def ref11_Good_p5 {R : Type} (n : Nat) (a1 : List (List D)) (a0_0 : Int) (a0_1 : List (List D)) (a0_2 : List (List D)) (k0 : Option R) (k1 : Int → Bool → Option R) : Option R := ref11_Good_r5 n a1 a0_0 a0_1 a0_2 k0 k1 n (0 : Int)
def ref11_Good_p6 {R : Type} (n : Nat) (a1 : List (List D)) (a0_0 : Int) (a0_1 : List (List D)) (a0_2 : List (List D)) (k0 : Option R) (k1 : Int → Bool → Option R) : Option R :=
  ref11_Good_p5 n a1 a0_0 a0_1 a0_2
    (k0)
    (fun w23 w24 =>
    k1 w23 w24)
def ref11_Good_p7 {R : Type} (n : Nat) (a1 : List (List D)) (w3 : Bool) (a0_0 : Int) (a0_1 : List (List D)) (a0_2 : List (List D)) (k0 : Option R) (k1 : Int → Bool → Option R) : Option R :=
  ref11_Good_p3 n a1 w3 a0_0 a0_1 a0_2
    (ref11_Good_p6 n a1 a0_0 a0_1 a0_2
      (k0)
      (fun w25 w26 =>
      k1 w25 w26))
def ref11_Good_p8 {R : Type} (n : Nat) (a1 : List (List D)) (w27 : Int) (w28 : Bool) (a0_0 : Int) (a0_1 : List (List D)) (a0_2 : List (List D)) (k0 : Option R) : Option R :=
  k0
def ref11_Good_p9 {R : Type} (n : Nat) (a1 : List (List D)) (w3 : Bool) (a0_0 : Int) (a0_1 : List (List D)) (a0_2 : List (List D)) (k0 : Bool → Option R) : Option R :=
  ref11_Good_p7 n a1 w3 a0_0 a0_1 a0_2
    (k0 false)
    (fun w27 w28 =>
    ref11_Good_p8 n a1 w27 w28 a0_0 a0_1 a0_2
      (k0 true))
def ref11_Good_p10 {R : Type} (n : Nat) (a1 : List (List D)) (a0_0 : Int) (a0_1 : List (List D)) (a0_2 : List (List D)) (k0 : Bool → Option R) : Option R :=
  ref11_Good_p2 n a1 a0_0 a0_1 a0_2
    (k0 false)
    (fun w3 =>
    ref11_Good_p9 n a1 w3 a0_0 a0_1 a0_2
      (fun w30 =>
      k0 w30))
def ref11_Good_p11 {R : Type} (n : Nat) (a0_0 : Int) (a0_1 : List (List D)) (a0_2 : List (List D)) (a1 : List (List D)) (k0 : Bool → Option R) : Option R :=
  ref11_Good_p1 n a0_0 a0_1 a0_2 a1
    (ref11_Good_p10 n a1 a0_0 a0_1 a0_2
      (fun w32 =>
      k0 w32))
def ref11_Good {R : Type} (n : Nat) (a0_0 : Int) (a0_1 : List (List D)) (a0_2 : List (List D)) (a1 : List (List D)) (K : Bool → Option R) : Option R :=
  ref11_Good_p11 n a0_0 a0_1 a0_2 a1
    (fun w32 => K w32)
end Go.Vx
/-
  arith_Mod: the pure function
-/
set_option linter.unusedVariables false
namespace Go.Vx
def arith_Mod_p1 {R : Type} (n : Nat) (a0 : Int) (a1 : Int) (k0 : Int → Option R) : Option R :=
  bif (decide (a1 < (1 : Int))) then
    k0 (0 : Int)
  else
    gb true (nz a1) () fun u1 =>
    bif (decide ((Int.tmod a0 a1) < (0 : Int))) then
      k0 (IntKind.wrap .i64 ((Int.tmod a0 a1) + a1))
    else
      k0 (Int.tmod a0 a1)
def arith_Mod {R : Type} (n : Nat) (a0 : Int) (a1 : Int) (K : Int → Option R) : Option R :=
  arith_Mod_p1 n a0 a1
    (fun z2 => K z2)
end Go.Vx
/-
  network_duration: the pure function
-/
set_option linter.unusedVariables false
namespace Go.Vx
def network_duration_p1 {R : Type} (n : Nat) (a0_0 : Int) (a0_1 : List (List D)) (a0_2 : List (List D)) (a1 : List (List D)) (a2_0 : Int) (a2_1 : Int) (a2_2 : Int) (a2_3 : Int) (a2_4 : Int) (a2_5 : Int) (k0 : Int → Option R) : Option R :=
  gb true (rowAt a1 a2_2) [] fun r1 =>
  gb true (r1[0]?) (.bool false) fun c2 =>
  gb true (pInt .i64 c2) 0 fun i3 =>
  gb true (rowAt a1 a2_1) [] fun r4 =>
  gb true (r4[0]?) (.bool false) fun c5 =>
  gb true (pInt .i64 c5) 0 fun i6 =>
  gb true (arith_Mod n (IntKind.wrap .i64 ((IntKind.wrap .i64 (i3 - i6)) - a2_3)) a0_0 some) 0 fun r7 =>
  k0 (IntKind.wrap .i64 (a2_3 + r7))
def network_duration {R : Type} (n : Nat) (a0_0 : Int) (a0_1 : List (List D)) (a0_2 : List (List D)) (a1 : List (List D)) (a2_0 : Int) (a2_1 : Int) (a2_2 : Int) (a2_3 : Int) (a2_4 : Int) (a2_5 : Int) (K : Int → Option R) : Option R :=
  network_duration_p1 n a0_0 a0_1 a0_2 a1 a2_0 a2_1 a2_2 a2_3 a2_4 a2_5
    (fun z8 => K z8)
end Go.Vx
/-
  network_First: the pure function
-/
set_option linter.unusedVariables false
namespace Go.Vx
def network_First_p1 {R : Type} (n : Nat) (a0_0 : Int) (a0_1 : List (List D)) (a0_2 : List (List D)) (a1 : List (List D)) (k0 : Option R) : Option R :=
  k0
def network_First_p2 {R : Type} (n : Nat) (a1 : List (List D)) (a0_0 : Int) (a0_1 : List (List D)) (a0_2 : List (List D)) (k0 : Option R) (k1 : Bool → Option R) : Option R :=
  gb true (network_Good n a0_0 a0_1 a0_2 a1 some) false fun r1 =>
  bif (!r1) then
    k0
  else
    k1 (!r1)
def network_First_p3 {R : Type} (n : Nat) (a1 : List (List D)) (w3 : Bool) (a0_0 : Int) (a0_1 : List (List D)) (a0_2 : List (List D)) (k0 : Int → Option R) : Option R :=
  k0 ((List.length a0_2 : Nat) : Int)
def network_First_p4 {R : Type} (n : Nat) (a1 : List (List D)) (a0_2 : List (List D)) (w5 : Int) (h9 : Int) (a0_0 : Int) (a0_1 : List (List D)) (k0 : Option R) (k1 : Int → Option R) (k2 : Bool → Option R) : Option R :=
  bif (decide (h9 < w5)) then
    gb true (rowAt a0_2 h9) [] fun r30 =>
    gb true (r30[0]?) (.bool false) fun c31 =>
    gb true (r30[1]?) (.bool false) fun c32 =>
    gb true (r30[2]?) (.bool false) fun c33 =>
    gb true (r30[3]?) (.bool false) fun c34 =>
    gb true (r30[4]?) (.bool false) fun c35 =>
    gb true (r30[5]?) (.bool false) fun c36 =>
    gb true (pInt .i64 c31) 0 fun i37 =>
    gb true (pInt .i64 c32) 0 fun i38 =>
    gb true (pInt .i64 c33) 0 fun i39 =>
    gb true (pInt .i64 c34) 0 fun i40 =>
    gb true (pInt .i64 c35) 0 fun i41 =>
    gb true (pInt .i64 c36) 0 fun i42 =>
    gb true (network_duration n a0_0 a0_1 a0_2 a1 i37 i38 i39 i40 i41 i42 some) 0 fun r43 =>
    gb true (pInt .i64 c35) 0 fun i44 =>
    bif (decide (r43 > i44)) then
      k0
    else
      k1 (IntKind.wrap .i64 (h9 + (1 : Int)))
  else
    k2 (decide (h9 < w5))
def network_First_r5 {R : Type} (n : Nat) (a1 : List (List D)) (a0_2 : List (List D)) (w5 : Int) (a0_0 : Int) (a0_1 : List (List D)) (k0 : Int → Option R) (k1 : Int → Bool → Option R) : Nat → Int → Option R
  | 0, _ => none
  | m + 1, h9 =>
    network_First_p4 n a1 a0_2 w5 h9 a0_0 a0_1
      (k0 h9)
      (fun w47 =>
      network_First_r5 n a1 a0_2 w5 a0_0 a0_1 k0 k1 m w47)
      (fun w48 =>
      k1 h9 w48)
def network_First_p5 {R : Type} (n : Nat) (a1 : List (List D)) (a0_2 : List (List D)) (w5 : Int) (a0_0 : Int) (a0_1 : List (List D)) (k0 : Int → Option R) (k1 : Int → Bool → Option R) : Option R := network_First_r5 n a1 a0_2 w5 a0_0 a0_1 k0 k1 n (0 : Int)
def network_First_p6 {R : Type} (n : Nat) (a1 : List (List D)) (a0_2 : List (List D)) (w5 : Int) (a0_0 : Int) (a0_1 : List (List D)) (k0 : Int → Option R) (k1 : Int → Bool → Option R) : Option R :=
  network_First_p5 n a1 a0_2 w5 a0_0 a0_1
    (fun w49 =>
    k0 w49)
    (fun w50 w51 =>
    k1 w50 w51)
def network_First_p7 {R : Type} (n : Nat) (a1 : List (List D)) (w3 : Bool) (a0_0 : Int) (a0_1 : List (List D)) (a0_2 : List (List D)) (k0 : Int → Option R) (k1 : Int → Int → Bool → Option R) : Option R :=
  network_First_p3 n a1 w3 a0_0 a0_1 a0_2
    (fun w5 =>
    network_First_p6 n a1 a0_2 w5 a0_0 a0_1
      (fun w52 =>
      k0 w52)
      (fun w53 w54 =>
      k1 w5 w53 w54))
def network_First_p8 {R : Type} (n : Nat) (a1 : List (List D)) (a0_2 : List (List D)) (w56 : Int) (w57 : Int) (w58 : Bool) (a0_0 : Int) (a0_1 : List (List D)) (k0 : Option R) : Option R :=
  k0
def network_First_p9 {R : Type} (n : Nat) (a1 : List (List D)) (w3 : Bool) (a0_0 : Int) (a0_1 : List (List D)) (a0_2 : List (List D)) (k0 : Int → Bool → Option R) : Option R :=
  network_First_p7 n a1 w3 a0_0 a0_1 a0_2
    (fun w55 =>
    k0 w55 true)
    (fun w56 w57 w58 =>
    network_First_p8 n a1 a0_2 w56 w57 w58 a0_0 a0_1
      (k0 (0 : Int) false))
def network_First_p10 {R : Type} (n : Nat) (a1 : List (List D)) (a0_0 : Int) (a0_1 : List (List D)) (a0_2 : List (List D)) (k0 : Int → Bool → Option R) : Option R :=
  network_First_p2 n a1 a0_0 a0_1 a0_2
    (k0 (0 : Int) false)
    (fun w3 =>
    network_First_p9 n a1 w3 a0_0 a0_1 a0_2
      (fun w61 w62 =>
      k0 w61 w62))
def network_First_p11 {R : Type} (n : Nat) (a0_0 : Int) (a0_1 : List (List D)) (a0_2 : List (List D)) (a1 : List (List D)) (k0 : Int → Bool → Option R) : Option R :=
  network_First_p1 n a0_0 a0_1 a0_2 a1
    (network_First_p10 n a1 a0_0 a0_1 a0_2
      (fun w65 w66 =>
      k0 w65 w66))
def network_First {R : Type} (n : Nat) (a0_0 : Int) (a0_1 : List (List D)) (a0_2 : List (List D)) (a1 : List (List D)) (K : Int → Bool → Option R) : Option R :=
  network_First_p11 n a0_0 a0_1 a0_2 a1
    (fun w65 w66 => K w65 w66)
end Go.Vx
/-
  ref1_Mod: the pure function
-/
set_option linter.unusedVariables false
namespace Go.Vx
def ref1_Mod_p1 {R : Type} (n : Nat) (a0 : Int) (a1 : Int) (k0 : Int → Option R) : Option R :=
  bif (decide (a1 < (1 : Int))) then
    k0 (0 : Int)
  else
    gb true (nz a1) () fun u1 =>
    bif (decide ((Int.tmod a0 a1) < (0 : Int))) then
      k0 (IntKind.wrap .i64 ((Int.tmod a0 a1) + a1))
    else
      k0 (Int.tmod a0 a1)
def ref1_Mod {R : Type} (n : Nat) (a0 : Int) (a1 : Int) (K : Int → Option R) : Option R :=
  ref1_Mod_p1 n a0 a1
    (fun z2 => K z2)
end Go.Vx
/-
  ref11_Lasts: the pure function
-/
set_option linter.unusedVariables false
namespace Go.Vx
def ref11_Lasts_p1 {R : Type} (n : Nat) (a0_0 : Int) (a0_1 : List (List D)) (a0_2 : List (List D)) (a1 : List (List D)) (a2_0 : Int) (a2_1 : Int) (a2_2 : Int) (a2_3 : Int) (a2_4 : Int) (a2_5 : Int) (k0 : Int → Option R) : Option R :=
  gb true (rowAt a1 a2_2) [] fun r1 =>
  gb true (r1[0]?) (.bool false) fun c2 =>
  gb true (pInt .i64 c2) 0 fun i3 =>
  gb true (rowAt a1 a2_1) [] fun r4 =>
  gb true (r4[0]?) (.bool false) fun c5 =>
  gb true (pInt .i64 c5) 0 fun i6 =>
  gb true (ref1_Mod n (IntKind.wrap .i64 ((IntKind.wrap .i64 (i3 - i6)) - a2_3)) a0_0 some) 0 fun r7 =>
  k0 (IntKind.wrap .i64 (a2_3 + r7))
def ref11_Lasts {R : Type} (n : Nat) (a0_0 : Int) (a0_1 : List (List D)) (a0_2 : List (List D)) (a1 : List (List D)) (a2_0 : Int) (a2_1 : Int) (a2_2 : Int) (a2_3 : Int) (a2_4 : Int) (a2_5 : Int) (K : Int → Option R) : Option R :=
  ref11_Lasts_p1 n a0_0 a0_1 a0_2 a1 a2_0 a2_1 a2_2 a2_3 a2_4 a2_5
    (fun z8 => K z8)
end Go.Vx
/-
  ref11_First: the pure function
-/
set_option linter.unusedVariables false
namespace Go.Vx
def ref11_First_p1 {R : Type} (n : Nat) (a0_0 : Int) (a0_1 : List (List D)) (a0_2 : List (List D)) (a1 : List (List D)) (k0 : Option R) : Option R :=
  k0
def ref11_First_p2 {R : Type} (n : Nat) (a1 : List (List D)) (a0_0 : Int) (a0_1 : List (List D)) (a0_2 : List (List D)) (k0 : Option R) (k1 : Bool → Option R) : Option R :=
  gb true (ref11_Good n a0_0 a0_1 a0_2 a1 some) false fun r1 =>
  bif (!r1) then
    k0
  else
    k1 (!r1)
def ref11_First_p3 {R : Type} (n : Nat) (a1 : List (List D)) (w3 : Bool) (a0_0 : Int) (a0_1 : List (List D)) (a0_2 : List (List D)) (k0 : Option R) : Option R :=
  k0
def ref11_First_p4 {R : Type} (n : Nat) (a1 : List (List D)) (h5 : Int) (a0_0 : Int) (a0_1 : List (List D)) (a0_2 : List (List D)) (k0 : Option R) (k1 : Int → Option R) (k2 : Bool → Option R) : Option R :=
  bif (decide (h5 < ((List.length a0_2 : Nat) : Int))) then
    gb true (rowAt a0_2 h5) [] fun r28 =>
    gb true (r28[0]?) (.bool false) fun c29 =>
    gb true (r28[1]?) (.bool false) fun c30 =>
    gb true (r28[2]?) (.bool false) fun c31 =>
    gb true (r28[3]?) (.bool false) fun c32 =>
    gb true (r28[4]?) (.bool false) fun c33 =>
    gb true (r28[5]?) (.bool false) fun c34 =>
    gb true (pInt .i64 c29) 0 fun i35 =>
    gb true (pInt .i64 c30) 0 fun i36 =>
    gb true (pInt .i64 c31) 0 fun i37 =>
    gb true (pInt .i64 c32) 0 fun i38 =>
    gb true (pInt .i64 c33) 0 fun i39 =>
    gb true (pInt .i64 c34) 0 fun i40 =>
    gb true (ref11_Lasts n a0_0 a0_1 a0_2 a1 i35 i36 i37 i38 i39 i40 some) 0 fun r41 =>
    gb true (rowAt a0_2 h5) [] fun r42 =>
    gb true (r42[4]?) (.bool false) fun c43 =>
    gb true (pInt .i64 c43) 0 fun i44 =>
    bif (decide (r41 > i44)) then
      k0
    else
      k1 (IntKind.wrap .i64 (h5 + (1 : Int)))
  else
    k2 (decide (h5 < ((List.length a0_2 : Nat) : Int)))
def ref11_First_r5 {R : Type} (n : Nat) (a1 : List (List D)) (a0_0 : Int) (a0_1 : List (List D)) (a0_2 : List (List D)) (k0 : Int → Option R) (k1 : Int → Bool → Option R) : Nat → Int → Option R
  | 0, _ => none
  | m + 1, h5 =>
    ref11_First_p4 n a1 h5 a0_0 a0_1 a0_2
      (k0 h5)
      (fun w47 =>
      ref11_First_r5 n a1 a0_0 a0_1 a0_2 k0 k1 m w47)
      (fun w48 =>
      k1 h5 w48)
def ref11_First_p5 {R : Type} (n : Nat) (a1 : List (List D)) (a0_0 : Int) (a0_1 : List (List D)) (a0_2 : List (List D)) (k0 : Int → Option R) (k1 : Int → Bool → Option R) : Option R := ref11_First_r5 n a1 a0_0 a0_1 a0_2 k0 k1 n (0 : Int)
def ref11_First_p6 {R : Type} (n : Nat) (a1 : List (List D)) (a0_0 : Int) (a0_1 : List (List D)) (a0_2 : List (List D)) (k0 : Int → Option R) (k1 : Int → Bool → Option R) : Option R :=
  ref11_First_p5 n a1 a0_0 a0_1 a0_2
    (fun w49 =>
    k0 w49)
    (fun w50 w51 =>
    k1 w50 w51)
def ref11_First_p7 {R : Type} (n : Nat) (a1 : List (List D)) (w3 : Bool) (a0_0 : Int) (a0_1 : List (List D)) (a0_2 : List (List D)) (k0 : Int → Option R) (k1 : Int → Bool → Option R) : Option R :=
  ref11_First_p3 n a1 w3 a0_0 a0_1 a0_2
    (ref11_First_p6 n a1 a0_0 a0_1 a0_2
      (fun w52 =>
      k0 w52)
      (fun w53 w54 =>
      k1 w53 w54))
def ref11_First_p8 {R : Type} (n : Nat) (a1 : List (List D)) (w56 : Int) (w57 : Bool) (a0_0 : Int) (a0_1 : List (List D)) (a0_2 : List (List D)) (k0 : Option R) : Option R :=
  k0
def ref11_First_p9 {R : Type} (n : Nat) (a1 : List (List D)) (w3 : Bool) (a0_0 : Int) (a0_1 : List (List D)) (a0_2 : List (List D)) (k0 : Int → Bool → Option R) : Option R :=
  ref11_First_p7 n a1 w3 a0_0 a0_1 a0_2
    (fun w55 =>
    k0 w55 true)
    (fun w56 w57 =>
    ref11_First_p8 n a1 w56 w57 a0_0 a0_1 a0_2
      (k0 (0 : Int) false))
def ref11_First_p10 {R : Type} (n : Nat) (a1 : List (List D)) (a0_0 : Int) (a0_1 : List (List D)) (a0_2 : List (List D)) (k0 : Int → Bool → Option R) : Option R :=
  ref11_First_p2 n a1 a0_0 a0_1 a0_2
    (k0 (0 : Int) false)
    (fun w3 =>
    ref11_First_p9 n a1 w3 a0_0 a0_1 a0_2
      (fun w60 w61 =>
      k0 w60 w61))
def ref11_First_p11 {R : Type} (n : Nat) (a0_0 : Int) (a0_1 : List (List D)) (a0_2 : List (List D)) (a1 : List (List D)) (k0 : Int → Bool → Option R) : Option R :=
  ref11_First_p1 n a0_0 a0_1 a0_2 a1
    (ref11_First_p10 n a1 a0_0 a0_1 a0_2
      (fun w64 w65 =>
      k0 w64 w65))
def ref11_First {R : Type} (n : Nat) (a0_0 : Int) (a0_1 : List (List D)) (a0_2 : List (List D)) (a1 : List (List D)) (K : Int → Bool → Option R) : Option R :=
  ref11_First_p11 n a0_0 a0_1 a0_2 a1
    (fun w64 w65 => K w64 w65)
end Go.Vx
/-
  network_Cost: the pure function
-/
set_option linter.unusedVariables false
namespace Go.Vx
def network_Cost_p1 {R : Type} (n : Nat) (a0_0 : Int) (a0_1 : List (List D)) (a0_2 : List (List D)) (a1 : List (List D)) (k0 : Option R) : Option R :=
  k0
def network_Cost_p2 {R : Type} (n : Nat) (a1 : List (List D)) (a0_0 : Int) (a0_1 : List (List D)) (a0_2 : List (List D)) (k0 : Option R) (k1 : Bool → Option R) : Option R :=
  gb true (network_Good n a0_0 a0_1 a0_2 a1 some) false fun r1 =>
  bif (!r1) then
    k0
  else
    k1 (!r1)
def network_Cost_p3 {R : Type} (n : Nat) (a1 : List (List D)) (w3 : Bool) (a0_0 : Int) (a0_1 : List (List D)) (a0_2 : List (List D)) (k0 : Option R) : Option R :=
  k0
def network_Cost_p4 {R : Type} (n : Nat) (a1 : List (List D)) (a0_0 : Int) (a0_1 : List (List D)) (a0_2 : List (List D)) (k0 : Int → Option R) : Option R :=
  k0 ((List.length a0_2 : Nat) : Int)
def network_Cost_p5 {R : Type} (n : Nat) (a1 : List (List D)) (h7 : Int) (a0_2 : List (List D)) (w5 : Int) (h10 : Int) (a0_0 : Int) (a0_1 : List (List D)) (k0 : Int → Int → Option R) (k1 : Bool → Option R) : Option R :=
  bif (decide (h10 < w5)) then
    gb true (rowAt a0_2 h10) [] fun r32 =>
    gb true (r32[0]?) (.bool false) fun c33 =>
    gb true (r32[1]?) (.bool false) fun c34 =>
    gb true (r32[2]?) (.bool false) fun c35 =>
    gb true (r32[3]?) (.bool false) fun c36 =>
    gb true (r32[4]?) (.bool false) fun c37 =>
    gb true (r32[5]?) (.bool false) fun c38 =>
    gb true (pInt .i64 c38) 0 fun i39 =>
    gb true (pInt .i64 c33) 0 fun i40 =>
    gb true (pInt .i64 c34) 0 fun i41 =>
    gb true (pInt .i64 c35) 0 fun i42 =>
    gb true (pInt .i64 c36) 0 fun i43 =>
    gb true (pInt .i64 c37) 0 fun i44 =>
    gb true (pInt .i64 c38) 0 fun i45 =>
    gb true (network_duration n a0_0 a0_1 a0_2 a1 i40 i41 i42 i43 i44 i45 some) 0 fun r46 =>
    k0 (IntKind.wrap .i64 (h7 + (IntKind.wrap .i64 (i39 * r46)))) (IntKind.wrap .i64 (h10 + (1 : Int)))
  else
    k1 (decide (h10 < w5))
def network_Cost_r6 {R : Type} (n : Nat) (a1 : List (List D)) (a0_2 : List (List D)) (w5 : Int) (a0_0 : Int) (a0_1 : List (List D)) (k0 : Int → Int → Bool → Option R) : Nat → Int → Int → Option R
  | 0, _, _ => none
  | m + 1, h7, h10 =>
    network_Cost_p5 n a1 h7 a0_2 w5 h10 a0_0 a0_1
      (fun w50 w51 =>
      network_Cost_r6 n a1 a0_2 w5 a0_0 a0_1 k0 m w50 w51)
      (fun w52 =>
      k0 h7 h10 w52)
def network_Cost_p6 {R : Type} (n : Nat) (a1 : List (List D)) (a0_2 : List (List D)) (w5 : Int) (a0_0 : Int) (a0_1 : List (List D)) (k0 : Int → Int → Bool → Option R) : Option R := network_Cost_r6 n a1 a0_2 w5 a0_0 a0_1 k0 n (0 : Int) (0 : Int)
def network_Cost_p7 {R : Type} (n : Nat) (a1 : List (List D)) (a0_2 : List (List D)) (w5 : Int) (a0_0 : Int) (a0_1 : List (List D)) (k0 : Int → Int → Bool → Option R) : Option R :=
  network_Cost_p6 n a1 a0_2 w5 a0_0 a0_1
    (fun w53 w54 w55 =>
    k0 w53 w54 w55)
def network_Cost_p8 {R : Type} (n : Nat) (a1 : List (List D)) (a0_0 : Int) (a0_1 : List (List D)) (a0_2 : List (List D)) (k0 : Int → Int → Int → Bool → Option R) : Option R :=
  network_Cost_p4 n a1 a0_0 a0_1 a0_2
    (fun w5 =>
    network_Cost_p7 n a1 a0_2 w5 a0_0 a0_1
      (fun w56 w57 w58 =>
      k0 w56 w5 w57 w58))
def network_Cost_p9 {R : Type} (n : Nat) (a1 : List (List D)) (w59 : Int) (a0_2 : List (List D)) (w60 : Int) (w61 : Int) (w62 : Bool) (a0_0 : Int) (a0_1 : List (List D)) (k0 : Option R) : Option R :=
  k0
def network_Cost_p10 {R : Type} (n : Nat) (a1 : List (List D)) (a0_0 : Int) (a0_1 : List (List D)) (a0_2 : List (List D)) (k0 : Int → Option R) : Option R :=
  network_Cost_p8 n a1 a0_0 a0_1 a0_2
    (fun w59 w60 w61 w62 =>
    network_Cost_p9 n a1 w59 a0_2 w60 w61 w62 a0_0 a0_1
      (k0 w59))
def network_Cost_p11 {R : Type} (n : Nat) (a1 : List (List D)) (w3 : Bool) (a0_0 : Int) (a0_1 : List (List D)) (a0_2 : List (List D)) (k0 : Int → Option R) : Option R :=
  network_Cost_p3 n a1 w3 a0_0 a0_1 a0_2
    (network_Cost_p10 n a1 a0_0 a0_1 a0_2
      (fun w63 =>
      k0 w63))
def network_Cost_p12 {R : Type} (n : Nat) (a1 : List (List D)) (a0_0 : Int) (a0_1 : List (List D)) (a0_2 : List (List D)) (k0 : Int → Int → Option R) : Option R :=
  network_Cost_p2 n a1 a0_0 a0_1 a0_2
    (k0 (0 : Int) (1 : Int))
    (fun w3 =>
    network_Cost_p11 n a1 w3 a0_0 a0_1 a0_2
      (fun w64 =>
      k0 w64 (0 : Int)))
def network_Cost_p13 {R : Type} (n : Nat) (a0_0 : Int) (a0_1 : List (List D)) (a0_2 : List (List D)) (a1 : List (List D)) (k0 : Int → Int → Option R) : Option R :=
  network_Cost_p1 n a0_0 a0_1 a0_2 a1
    (network_Cost_p12 n a1 a0_0 a0_1 a0_2
      (fun w67 w68 =>
      k0 w67 w68))
def network_Cost {R : Type} (n : Nat) (a0_0 : Int) (a0_1 : List (List D)) (a0_2 : List (List D)) (a1 : List (List D)) (K : Int → Int → Option R) : Option R :=
  network_Cost_p13 n a0_0 a0_1 a0_2 a1
    (fun w67 w68 => K w67 w68)
end Go.Vx
/-
  ref11_Cost: the pure function
-/
set_option linter.unusedVariables false
namespace Go.Vx
def ref11_Cost_p1 {R : Type} (n : Nat) (a0_0 : Int) (a0_1 : List (List D)) (a0_2 : List (List D)) (a1 : List (List D)) (k0 : Option R) : Option R :=
  k0
def ref11_Cost_p2 {R : Type} (n : Nat) (a1 : List (List D)) (a0_0 : Int) (a0_1 : List (List D)) (a0_2 : List (List D)) (k0 : Option R) (k1 : Bool → Option R) : Option R :=
  gb true (ref11_Good n a0_0 a0_1 a0_2 a1 some) false fun r1 =>
  bif (!r1) then
    k0
  else
    k1 (!r1)
def ref11_Cost_p3 {R : Type} (n : Nat) (a1 : List (List D)) (w3 : Bool) (a0_0 : Int) (a0_1 : List (List D)) (a0_2 : List (List D)) (k0 : Option R) : Option R :=
  k0
def ref11_Cost_p4 {R : Type} (n : Nat) (a1 : List (List D)) (a0_0 : Int) (a0_1 : List (List D)) (a0_2 : List (List D)) (k0 : Option R) : Option R :=
  k0
def ref11_Cost_p5 {R : Type} (n : Nat) (a1 : List (List D)) (h5 : Int) (h6 : Int) (a0_0 : Int) (a0_1 : List (List D)) (a0_2 : List (List D)) (k0 : Int → Int → Option R) (k1 : Bool → Option R) : Option R :=
  bif (decide (h6 < ((List.length a0_2 : Nat) : Int))) then
    gb true (rowAt a0_2 h6) [] fun r30 =>
    gb true (r30[5]?) (.bool false) fun c31 =>
    gb true (pInt .i64 c31) 0 fun i32 =>
    gb true (rowAt a0_2 h6) [] fun r33 =>
    gb true (r33[0]?) (.bool false) fun c34 =>
    gb true (r33[1]?) (.bool false) fun c35 =>
    gb true (r33[2]?) (.bool false) fun c36 =>
    gb true (r33[3]?) (.bool false) fun c37 =>
    gb true (r33[4]?) (.bool false) fun c38 =>
    gb true (r33[5]?) (.bool false) fun c39 =>
    gb true (pInt .i64 c34) 0 fun i40 =>
    gb true (pInt .i64 c35) 0 fun i41 =>
    gb true (pInt .i64 c36) 0 fun i42 =>
    gb true (pInt .i64 c37) 0 fun i43 =>
    gb true (pInt .i64 c38) 0 fun i44 =>
    gb true (pInt .i64 c39) 0 fun i45 =>
    gb true (ref11_Lasts n a0_0 a0_1 a0_2 a1 i40 i41 i42 i43 i44 i45 some) 0 fun r46 =>
    k0 (IntKind.wrap .i64 (h5 + (IntKind.wrap .i64 (i32 * r46)))) (IntKind.wrap .i64 (h6 + (1 : Int)))
  else
    k1 (decide (h6 < ((List.length a0_2 : Nat) : Int)))
def ref11_Cost_r6 {R : Type} (n : Nat) (a1 : List (List D)) (a0_0 : Int) (a0_1 : List (List D)) (a0_2 : List (List D)) (k0 : Int → Int → Bool → Option R) : Nat → Int → Int → Option R
  | 0, _, _ => none
  | m + 1, h5, h6 =>
    ref11_Cost_p5 n a1 h5 h6 a0_0 a0_1 a0_2
      (fun w50 w51 =>
      ref11_Cost_r6 n a1 a0_0 a0_1 a0_2 k0 m w50 w51)
      (fun w52 =>
      k0 h5 h6 w52)
def ref11_Cost_p6 {R : Type} (n : Nat) (a1 : List (List D)) (a0_0 : Int) (a0_1 : List (List D)) (a0_2 : List (List D)) (k0 : Int → Int → Bool → Option R) : Option R := ref11_Cost_r6 n a1 a0_0 a0_1 a0_2 k0 n (0 : Int) (0 : Int)
def ref11_Cost_p7 {R : Type} (n : Nat) (a1 : List (List D)) (a0_0 : Int) (a0_1 : List (List D)) (a0_2 : List (List D)) (k0 : Int → Int → Bool → Option R) : Option R :=
  ref11_Cost_p6 n a1 a0_0 a0_1 a0_2
    (fun w53 w54 w55 =>
    k0 w53 w54 w55)
def ref11_Cost_p8 {R : Type} (n : Nat) (a1 : List (List D)) (a0_0 : Int) (a0_1 : List (List D)) (a0_2 : List (List D)) (k0 : Int → Int → Bool → Option R) : Option R :=
  ref11_Cost_p4 n a1 a0_0 a0_1 a0_2
    (ref11_Cost_p7 n a1 a0_0 a0_1 a0_2
      (fun w56 w57 w58 =>
      k0 w56 w57 w58))
def ref11_Cost_p9 {R : Type} (n : Nat) (a1 : List (List D)) (w59 : Int) (w60 : Int) (w61 : Bool) (a0_0 : Int) (a0_1 : List (List D)) (a0_2 : List (List D)) (k0 : Option R) : Option R :=
  k0
def ref11_Cost_p10 {R : Type} (n : Nat) (a1 : List (List D)) (a0_0 : Int) (a0_1 : List (List D)) (a0_2 : List (List D)) (k0 : Int → Option R) : Option R :=
  ref11_Cost_p8 n a1 a0_0 a0_1 a0_2
    (fun w59 w60 w61 =>
    ref11_Cost_p9 n a1 w59 w60 w61 a0_0 a0_1 a0_2
      (k0 w59))
def ref11_Cost_p11 {R : Type} (n : Nat) (a1 : List (List D)) (w3 : Bool) (a0_0 : Int) (a0_1 : List (List D)) (a0_2 : List (List D)) (k0 : Int → Option R) : Option R :=
  ref11_Cost_p3 n a1 w3 a0_0 a0_1 a0_2
    (ref11_Cost_p10 n a1 a0_0 a0_1 a0_2
      (fun w62 =>
      k0 w62))
def ref11_Cost_p12 {R : Type} (n : Nat) (a1 : List (List D)) (a0_0 : Int) (a0_1 : List (List D)) (a0_2 : List (List D)) (k0 : Int → Int → Option R) : Option R :=
  ref11_Cost_p2 n a1 a0_0 a0_1 a0_2
    (k0 (0 : Int) (1 : Int))
    (fun w3 =>
    ref11_Cost_p11 n a1 w3 a0_0 a0_1 a0_2
      (fun w63 =>
      k0 w63 (0 : Int)))
def ref11_Cost_p13 {R : Type} (n : Nat) (a0_0 : Int) (a0_1 : List (List D)) (a0_2 : List (List D)) (a1 : List (List D)) (k0 : Int → Int → Option R) : Option R :=
  ref11_Cost_p1 n a0_0 a0_1 a0_2 a1
    (ref11_Cost_p12 n a1 a0_0 a0_1 a0_2
      (fun w66 w67 =>
      k0 w66 w67))
def ref11_Cost {R : Type} (n : Nat) (a0_0 : Int) (a0_1 : List (List D)) (a0_2 : List (List D)) (a1 : List (List D)) (K : Int → Int → Option R) : Option R :=
  ref11_Cost_p13 n a0_0 a0_1 a0_2 a1
    (fun w66 w67 => K w66 w67)
end Go.Vx
/-
  network_Duration: the pure function
-/
set_option linter.unusedVariables false
namespace Go.Vx
def network_Duration_p1 {R : Type} (n : Nat) (a0_0 : Int) (a0_1 : List (List D)) (a0_2 : List (List D)) (a1 : List (List D)) (a2 : Int) (k0 : Int → Option R) : Option R :=
  gb true (network_Good n a0_0 a0_1 a0_2 a1 some) false fun r1 =>
  bif (bif (bif (!r1) then true else (decide (a2 < (0 : Int)))) then true else (decide (a2 ≥ ((List.length a0_2 : Nat) : Int)))) then
    k0 (0 : Int)
  else
    gb true (rowAt a0_2 a2) [] fun r2 =>
    gb true (r2[0]?) (.bool false) fun c3 =>
    gb true (r2[1]?) (.bool false) fun c4 =>
    gb true (r2[2]?) (.bool false) fun c5 =>
    gb true (r2[3]?) (.bool false) fun c6 =>
    gb true (r2[4]?) (.bool false) fun c7 =>
    gb true (r2[5]?) (.bool false) fun c8 =>
    gb true (pInt .i64 c3) 0 fun i9 =>
    gb true (pInt .i64 c4) 0 fun i10 =>
    gb true (pInt .i64 c5) 0 fun i11 =>
    gb true (pInt .i64 c6) 0 fun i12 =>
    gb true (pInt .i64 c7) 0 fun i13 =>
    gb true (pInt .i64 c8) 0 fun i14 =>
    gb true (network_duration n a0_0 a0_1 a0_2 a1 i9 i10 i11 i12 i13 i14 some) 0 fun r15 =>
    k0 r15
def network_Duration {R : Type} (n : Nat) (a0_0 : Int) (a0_1 : List (List D)) (a0_2 : List (List D)) (a1 : List (List D)) (a2 : Int) (K : Int → Option R) : Option R :=
  network_Duration_p1 n a0_0 a0_1 a0_2 a1 a2
    (fun z16 => K z16)
end Go.Vx
/-
  ref11_Duration: the pure function
-/
set_option linter.unusedVariables false
namespace Go.Vx
def ref11_Duration_p1 {R : Type} (n : Nat) (a0_0 : Int) (a0_1 : List (List D)) (a0_2 : List (List D)) (a1 : List (List D)) (a2 : Int) (k0 : Int → Option R) : Option R :=
  gb true (ref11_Good n a0_0 a0_1 a0_2 a1 some) false fun r1 =>
  gb (!(!r1)) (ref11_in n a2 (0 : Int) (IntKind.wrap .i64 (((List.length a0_2 : Nat) : Int) - (1 : Int))) some) false fun r2 =>
  bif (bif (!r1) then true else (!r2)) then
    k0 (0 : Int)
  else
    gb true (rowAt a0_2 a2) [] fun r3 =>
    gb true (r3[0]?) (.bool false) fun c4 =>
    gb true (r3[1]?) (.bool false) fun c5 =>
    gb true (r3[2]?) (.bool false) fun c6 =>
    gb true (r3[3]?) (.bool false) fun c7 =>
    gb true (r3[4]?) (.bool false) fun c8 =>
    gb true (r3[5]?) (.bool false) fun c9 =>
    gb true (pInt .i64 c4) 0 fun i10 =>
    gb true (pInt .i64 c5) 0 fun i11 =>
    gb true (pInt .i64 c6) 0 fun i12 =>
    gb true (pInt .i64 c7) 0 fun i13 =>
    gb true (pInt .i64 c8) 0 fun i14 =>
    gb true (pInt .i64 c9) 0 fun i15 =>
    gb true (ref11_Lasts n a0_0 a0_1 a0_2 a1 i10 i11 i12 i13 i14 i15 some) 0 fun r16 =>
    k0 r16
def ref11_Duration {R : Type} (n : Nat) (a0_0 : Int) (a0_1 : List (List D)) (a0_2 : List (List D)) (a1 : List (List D)) (a2 : Int) (K : Int → Option R) : Option R :=
  ref11_Duration_p1 n a0_0 a0_1 a0_2 a1 a2
    (fun z17 => K z17)
end Go.Vx
/-
  network_Feasible: the pure function
-/
set_option linter.unusedVariables false
namespace Go.Vx
def network_Feasible_p1 {R : Type} (n : Nat) (a0_0 : Int) (a0_1 : List (List D)) (a0_2 : List (List D)) (a1 : List (List D)) (k0 : Bool → Option R) : Option R :=
  gb true (network_First n a0_0 a0_1 a0_2 a1 (fun r0 r1 => some (r0, r1))) (0, false) fun r1 =>
  gb (!r1.2) (network_Good n a0_0 a0_1 a0_2 a1 some) false fun r2 =>
  k0 (bif (!r1.2) then r2 else false)
def network_Feasible {R : Type} (n : Nat) (a0_0 : Int) (a0_1 : List (List D)) (a0_2 : List (List D)) (a1 : List (List D)) (K : Bool → Option R) : Option R :=
  network_Feasible_p1 n a0_0 a0_1 a0_2 a1
    (fun z3 => K z3)
end Go.Vx
/-
  ref11_Feasible: the pure function
-/
set_option linter.unusedVariables false
namespace Go.Vx
def ref11_Feasible_p1 {R : Type} (n : Nat) (a0_0 : Int) (a0_1 : List (List D)) (a0_2 : List (List D)) (a1 : List (List D)) (k0 : Bool → Option R) : Option R :=
  gb true (ref11_First n a0_0 a0_1 a0_2 a1 (fun r0 r1 => some (r0, r1))) (0, false) fun r1 =>
  gb true (ref11_Good n a0_0 a0_1 a0_2 a1 some) false fun r2 =>
  k0 (bif r2 then (!r1.2) else false)
def ref11_Feasible {R : Type} (n : Nat) (a0_0 : Int) (a0_1 : List (List D)) (a0_2 : List (List D)) (a1 : List (List D)) (K : Bool → Option R) : Option R :=
  ref11_Feasible_p1 n a0_0 a0_1 a0_2 a1
    (fun z3 => K z3)
end Go.Vx
/-
  keep_From: the pure function
-/
set_option linter.unusedVariables false
namespace Go.Vx
def keep_From_p1 {R : Type} (n : Nat) (a0 : List (List D)) (k0 : Option R) : Option R :=
  k0
def keep_From {R : Type} (n : Nat) (a0 : List (List D)) (K : (List (List D)) → Int → Option R) : Option R :=
  keep_From_p1 n a0
    (K a0 (0 : Int))
end Go.Vx
/-
  keep_Pick: the pure function
-/
set_option linter.unusedVariables false
namespace Go.Vx
def keep_Pick_p1 {R : Type} (n : Nat) (a0 : Int) (a1 : Int) (k0 : Int → Option R) : Option R :=
  gb true (nz (IntKind.wrap .u64 a1)) () fun u1 =>
  k0 (IntKind.wrap .i64 (Int.tmod (IntKind.wrap .u64 a0) (IntKind.wrap .u64 a1)))
def keep_Pick {R : Type} (n : Nat) (a0 : Int) (a1 : Int) (K : Int → Option R) : Option R :=
  keep_Pick_p1 n a0 a1
    (fun z2 => K z2)
end Go.Vx
/-
  keep_Source_Next: the pure function
-/
set_option linter.unusedVariables false
namespace Go.Vx
def keep_Source_Next_p1 {R : Type} (n : Nat) (a1 : Int) (a0_0 : List (List D)) (a0_1 : Int) (k0 : Int → Int → Option R) : Option R :=
  bif (decide (a0_1 ≥ ((List.length a0_0 : Nat) : Int))) then
    k0 (0 : Int) a0_1
  else
    gb true (rowAt a0_0 (IntKind.wrap .i64 ((IntKind.wrap .i64 (a0_1 + (1 : Int))) - (1 : Int)))) [] fun r1 =>
    gb true (r1[0]?) (.bool false) fun c2 =>
    gb true (pInt .i64 c2) 0 fun i3 =>
    gb true (keep_Pick n i3 a1 some) 0 fun r4 =>
    k0 r4 (IntKind.wrap .i64 (a0_1 + (1 : Int)))
def keep_Source_Next {R : Type} (n : Nat) (a0_0 : List (List D)) (a0_1 : Int) (a1 : Int) (K : Int → (List (List D)) → Int → Option R) : Option R :=
  keep_Source_Next_p1 n a1 a0_0 a0_1
    (fun z5 z6 => K z5 a0_0 z6)
end Go.Vx
/-
  keep_Network: the pure function
-/
set_option linter.unusedVariables false
namespace Go.Vx
def keep_Network_p1 {R : Type} (n : Nat) (a0 : List (List D)) (k0 : Option R) : Option R :=
  k0
def keep_Network_p2 {R : Type} (n : Nat) (a0 : List (List D)) (k0 : (List (List D)) → Int → Option R) : Option R :=
  gb true (keep_From n a0 (fun r0 r1 => some (r0, r1))) ([], 0) fun r1 =>
  k0 r1.1 r1.2
def keep_Network_p3 {R : Type} (n : Nat) (w4 : List (List D)) (w5 : Int) (k0 : Int → (List (List D)) → Int → Option R) : Option R :=
  gb true (keep_Source_Next n w4 w5 (8 : Int) (fun r0 r1 r2 => some (r0, r1, r2))) (0, [], 0) fun r6 =>
  k0 (IntKind.wrap .i64 ((2 : Int) + r6.1)) r6.2.1 r6.2.2
def keep_Network_p4 {R : Type} (n : Nat) (w10 : Int) (w11 : List (List D)) (w12 : Int) (k0 : Int → (List (List D)) → Int → Option R) : Option R :=
  gb true (keep_Source_Next n w11 w12 (5 : Int) (fun r0 r1 r2 => some (r0, r1, r2))) (0, [], 0) fun r13 =>
  k0 (IntKind.wrap .i64 ((1 : Int) + r13.1)) r13.2.1 r13.2.2
def keep_Network_p5 {R : Type} (n : Nat) (h20 : Int) (h21 : List (List D)) (w10 : Int) (h24 : List (List D)) (h25 : Int) (k0 : Int → (List (List D)) → (List (List D)) → Int → Option R) (k1 : Bool → Option R) : Option R :=
  bif (decide (h20 > (0 : Int))) then
    gb true (keep_Source_Next n h24 h25 (2 : Int) (fun r0 r1 r2 => some (r0, r1, r2))) (0, [], 0) fun r35 =>
    gb true (keep_Source_Next n r35.2.1 r35.2.2 (3 : Int) (fun r0 r1 r2 => some (r0, r1, r2))) (0, [], 0) fun r36 =>
    gb true (keep_Source_Next n r36.2.1 r36.2.2 (3 : Int) (fun r0 r1 r2 => some (r0, r1, r2))) (0, [], 0) fun r37 =>
    gb true (room ((List.length h21 + List.length [[D.int .i64 (IntKind.wrap .i64 ((1 : Int) + r35.1)), D.int .i64 r36.1, D.int .i64 r37.1]]) * 24)) () fun u38 =>
    k0 (IntKind.wrap .i64 (h20 - (1 : Int))) (h21 ++ [[D.int .i64 (IntKind.wrap .i64 ((1 : Int) + r35.1)), D.int .i64 r36.1, D.int .i64 r37.1]]) r37.2.1 r37.2.2
  else
    k1 (decide (h20 > (0 : Int)))
def keep_Network_r6 {R : Type} (n : Nat) (w10 : Int) (k0 : Int → Bool → (List (List D)) → (List (List D)) → Int → Option R) : Nat → Int → (List (List D)) → (List (List D)) → Int → Option R
  | 0, _, _, _, _ => none
  | m + 1, h20, h21, h24, h25 =>
    keep_Network_p5 n h20 h21 w10 h24 h25
      (fun w44 w45 w46 w47 =>
      keep_Network_r6 n w10 k0 m w44 w45 w46 w47)
      (fun w48 =>
      k0 h20 w48 h21 h24 h25)
def keep_Network_p6 {R : Type} (n : Nat) (w17 : Int) (w10 : Int) (w18 : List (List D)) (w19 : Int) (k0 : Int → Bool → (List (List D)) → (List (List D)) → Int → Option R) : Option R := keep_Network_r6 n w10 k0 n w17 [] w18 w19
def keep_Network_p7 {R : Type} (n : Nat) (w17 : Int) (w10 : Int) (w18 : List (List D)) (w19 : Int) (k0 : Int → Bool → (List (List D)) → (List (List D)) → Int → Option R) : Option R :=
  keep_Network_p6 n w17 w10 w18 w19
    (fun w49 w50 w51 w52 w53 =>
    k0 w49 w50 w51 w52 w53)
def keep_Network_p8 {R : Type} (n : Nat) (w10 : Int) (w11 : List (List D)) (w12 : Int) (k0 : Int → Bool → (List (List D)) → (List (List D)) → Int → Option R) : Option R :=
  keep_Network_p4 n w10 w11 w12
    (fun w17 w18 w19 =>
    keep_Network_p7 n w17 w10 w18 w19
      (fun w54 w55 w56 w57 w58 =>
      k0 w54 w55 w56 w57 w58))
def keep_Network_p9 {R : Type} (n : Nat) (w59 : Int) (w60 : Bool) (w10 : Int) (w61 : List (List D)) (w62 : List (List D)) (w63 : Int) (k0 : Int → Option R) : Option R :=
  k0 ((List.length w61 : Nat) : Int)
def keep_Network_p10 {R : Type} (n : Nat) (w65 : Int) (w10 : Int) (w61 : List (List D)) (w62 : List (List D)) (w63 : Int) (k0 : Int → (List (List D)) → Int → Option R) : Option R :=
  gb true (keep_Source_Next n w62 w63 (9 : Int) (fun r0 r1 r2 => some (r0, r1, r2))) (0, [], 0) fun r66 =>
  k0 r66.1 r66.2.1 r66.2.2
def keep_Network_p11 {R : Type} (n : Nat) (w65 : Int) (h74 : Int) (h75 : List (List D)) (w10 : Int) (w61 : List (List D)) (h79 : List (List D)) (h80 : Int) (k0 : Int → (List (List D)) → (List (List D)) → Int → Option R) (k1 : Bool → Option R) : Option R :=
  bif (bif (decide (h74 > (0 : Int))) then (decide (w65 > (1 : Int))) else false) then
    gb true (keep_Source_Next n h79 h80 (6 : Int) (fun r0 r1 r2 => some (r0, r1, r2))) (0, [], 0) fun r94 =>
    gb true (keep_Source_Next n r94.2.1 r94.2.2 w65 (fun r0 r1 r2 => some (r0, r1, r2))) (0, [], 0) fun r95 =>
    gb true (keep_Source_Next n r95.2.1 r95.2.2 (5 : Int) (fun r0 r1 r2 => some (r0, r1, r2))) (0, [], 0) fun r96 =>
    gb true (keep_Source_Next n r96.2.1 r96.2.2 (IntKind.wrap .i64 (w65 - (1 : Int))) (fun r0 r1 r2 => some (r0, r1, r2))) (0, [], 0) fun r97 =>
    gb true (nz w65) () fun u98 =>
    gb true (keep_Source_Next n r97.2.1 r97.2.2 (IntKind.wrap .i64 ((3 : Int) * w10)) (fun r0 r1 r2 => some (r0, r1, r2))) (0, [], 0) fun r99 =>
    gb true (keep_Source_Next n r99.2.1 r99.2.2 w10 (fun r0 r1 r2 => some (r0, r1, r2))) (0, [], 0) fun r100 =>
    gb true (room ((List.length h75 + List.length [[D.int .i64 (IntKind.wrap .i64 ((1 : Int) + r94.1)), D.int .i64 r95.1, D.int .i64 (Int.tmod (IntKind.wrap .i64 ((IntKind.wrap .i64 (r95.1 + (1 : Int))) + r97.1)) w65), D.int .i64 (IntKind.wrap .i64 (r99.1 - w10)), D.int .i64 (IntKind.wrap .i64 ((IntKind.wrap .i64 (r99.1 - w10)) + r100.1)), D.int .i64 r96.1]]) * 48)) () fun u101 =>
    k0 (IntKind.wrap .i64 (h74 - (1 : Int))) (h75 ++ [[D.int .i64 (IntKind.wrap .i64 ((1 : Int) + r94.1)), D.int .i64 r95.1, D.int .i64 (Int.tmod (IntKind.wrap .i64 ((IntKind.wrap .i64 (r95.1 + (1 : Int))) + r97.1)) w65), D.int .i64 (IntKind.wrap .i64 (r99.1 - w10)), D.int .i64 (IntKind.wrap .i64 ((IntKind.wrap .i64 (r99.1 - w10)) + r100.1)), D.int .i64 r96.1]]) r100.2.1 r100.2.2
  else
    k1 (bif (decide (h74 > (0 : Int))) then (decide (w65 > (1 : Int))) else false)
def keep_Network_r12 {R : Type} (n : Nat) (w65 : Int) (w10 : Int) (w61 : List (List D)) (k0 : Int → Bool → (List (List D)) → (List (List D)) → Int → Option R) : Nat → Int → (List (List D)) → (List (List D)) → Int → Option R
  | 0, _, _, _, _ => none
  | m + 1, h74, h75, h79, h80 =>
    keep_Network_p11 n w65 h74 h75 w10 w61 h79 h80
      (fun w107 w108 w109 w110 =>
      keep_Network_r12 n w65 w10 w61 k0 m w107 w108 w109 w110)
      (fun w111 =>
      k0 h74 w111 h75 h79 h80)
def keep_Network_p12 {R : Type} (n : Nat) (w65 : Int) (w70 : Int) (w10 : Int) (w61 : List (List D)) (w71 : List (List D)) (w72 : Int) (k0 : Int → Bool → (List (List D)) → (List (List D)) → Int → Option R) : Option R := keep_Network_r12 n w65 w10 w61 k0 n w70 [] w71 w72
def keep_Network_p13 {R : Type} (n : Nat) (w65 : Int) (w70 : Int) (w10 : Int) (w61 : List (List D)) (w71 : List (List D)) (w72 : Int) (k0 : Int → Bool → (List (List D)) → (List (List D)) → Int → Option R) : Option R :=
  keep_Network_p12 n w65 w70 w10 w61 w71 w72
    (fun w112 w113 w114 w115 w116 =>
    k0 w112 w113 w114 w115 w116)
def keep_Network_p14 {R : Type} (n : Nat) (w65 : Int) (w10 : Int) (w61 : List (List D)) (w62 : List (List D)) (w63 : Int) (k0 : Int → Bool → (List (List D)) → (List (List D)) → Int → Option R) : Option R :=
  keep_Network_p10 n w65 w10 w61 w62 w63
    (fun w70 w71 w72 =>
    keep_Network_p13 n w65 w70 w10 w61 w71 w72
      (fun w117 w118 w119 w120 w121 =>
      k0 w117 w118 w119 w120 w121))
def keep_Network_p15 {R : Type} (n : Nat) (w65 : Int) (w122 : Int) (w123 : Bool) (w10 : Int) (w61 : List (List D)) (w124 : List (List D)) (w125 : List (List D)) (w126 : Int) (k0 : Option R) : Option R :=
  k0
def keep_Network_p16 {R : Type} (n : Nat) (w65 : Int) (w10 : Int) (w61 : List (List D)) (w62 : List (List D)) (w63 : Int) (k0 : (List (List D)) → Option R) : Option R :=
  keep_Network_p14 n w65 w10 w61 w62 w63
    (fun w122 w123 w124 w125 w126 =>
    keep_Network_p15 n w65 w122 w123 w10 w61 w124 w125 w126
      (k0 w124))
def keep_Network_p17 {R : Type} (n : Nat) (w59 : Int) (w60 : Bool) (w10 : Int) (w61 : List (List D)) (w62 : List (List D)) (w63 : Int) (k0 : (List (List D)) → Option R) : Option R :=
  keep_Network_p9 n w59 w60 w10 w61 w62 w63
    (fun w65 =>
    keep_Network_p16 n w65 w10 w61 w62 w63
      (fun w127 =>
      k0 w127))
def keep_Network_p18 {R : Type} (n : Nat) (w10 : Int) (w11 : List (List D)) (w12 : Int) (k0 : (List (List D)) → (List (List D)) → Option R) : Option R :=
  keep_Network_p8 n w10 w11 w12
    (fun w59 w60 w61 w62 w63 =>
    keep_Network_p17 n w59 w60 w10 w61 w62 w63
      (fun w128 =>
      k0 w61 w128))
def keep_Network_p19 {R : Type} (n : Nat) (w4 : List (List D)) (w5 : Int) (k0 : Int → (List (List D)) → (List (List D)) → Option R) : Option R :=
  keep_Network_p3 n w4 w5
    (fun w10 w11 w12 =>
    keep_Network_p18 n w10 w11 w12
      (fun w129 w130 =>
      k0 w10 w129 w130))
def keep_Network_p20 {R : Type} (n : Nat) (a0 : List (List D)) (k0 : Int → (List (List D)) → (List (List D)) → Option R) : Option R :=
  keep_Network_p2 n a0
    (fun w4 w5 =>
    keep_Network_p19 n w4 w5
      (fun w131 w132 w133 =>
      k0 w131 w132 w133))
def keep_Network_p21 {R : Type} (n : Nat) (a0 : List (List D)) (k0 : Int → (List (List D)) → (List (List D)) → Option R) : Option R :=
  keep_Network_p1 n a0
    (keep_Network_p20 n a0
      (fun w134 w135 w136 =>
      k0 w134 w135 w136))
def keep_Network {R : Type} (n : Nat) (a0 : List (List D)) (K : Int → (List (List D)) → (List (List D)) → Option R) : Option R :=
  keep_Network_p21 n a0
    (fun w134 w135 w136 => K w134 w135 w136)
end Go.Vx
/-
  keep_Times: the pure function
-/
set_option linter.unusedVariables false
namespace Go.Vx
def keep_Times_p1 {R : Type} (n : Nat) (a0_0 : Int) (a0_1 : List (List D)) (a0_2 : List (List D)) (a1 : List (List D)) (k0 : Option R) : Option R :=
  k0
def keep_Times_p2 {R : Type} (n : Nat) (a1 : List (List D)) (a0_0 : Int) (a0_1 : List (List D)) (a0_2 : List (List D)) (k0 : (List (List D)) → Int → Option R) : Option R :=
  gb true (keep_From n a1 (fun r0 r1 => some (r0, r1))) ([], 0) fun r1 =>
  k0 r1.1 r1.2
def keep_Times_p3 {R : Type} (n : Nat) (a0_0 : Int) (a0_1 : List (List D)) (a0_2 : List (List D)) (w4 : List (List D)) (w5 : Int) (k0 : (List (List D)) → Option R) : Option R :=
  gb true (bif decide (0 ≤ ((List.length a0_1 : Nat) : Int)) && decide (((List.length a0_1 : Nat) : Int) ≤ ((List.length a0_1 : Nat) : Int)) then some () else none) () fun u6 =>
  gb true (room (Int.toNat ((List.length a0_1 : Nat) : Int) * 8)) () fun u7 =>
  k0 (List.replicate (Int.toNat ((List.length a0_1 : Nat) : Int)) [D.int .i64 (0 : Int)])
def keep_Times_p4 {R : Type} (n : Nat) (a0_0 : Int) (a0_1 : List (List D)) (a0_2 : List (List D)) (w9 : List (List D)) (w4 : List (List D)) (w5 : Int) (k0 : Int → Option R) : Option R :=
  k0 ((List.length w9 : Nat) : Int)
def keep_Times_p5 {R : Type} (n : Nat) (w11 : Int) (h13 : Int) (a0_0 : Int) (a0_1 : List (List D)) (a0_2 : List (List D)) (h17 : List (List D)) (h18 : List (List D)) (h19 : Int) (k0 : Int → (List (List D)) → (List (List D)) → Int → Option R) (k1 : Bool → Option R) : Option R :=
  bif (decide (h13 < w11)) then
    gb true (keep_Source_Next n h18 h19 a0_0 (fun r0 r1 r2 => some (r0, r1, r2))) (0, [], 0) fun r28 =>
    gb true (inB (List.length h17) h13) () fun u29 =>
    gb true (h17[(Int.toNat h13)]?) [] fun r30 =>
    k0 (IntKind.wrap .i64 (h13 + (1 : Int))) (List.set h17 (Int.toNat h13) (List.set r30 0 (D.int .i64 r28.1))) r28.2.1 r28.2.2
  else
    k1 (decide (h13 < w11))
def keep_Times_r6 {R : Type} (n : Nat) (w11 : Int) (a0_0 : Int) (a0_1 : List (List D)) (a0_2 : List (List D)) (k0 : Int → Bool → (List (List D)) → (List (List D)) → Int → Option R) : Nat → Int → (List (List D)) → (List (List D)) → Int → Option R
  | 0, _, _, _, _ => none
  | m + 1, h13, h17, h18, h19 =>
    keep_Times_p5 n w11 h13 a0_0 a0_1 a0_2 h17 h18 h19
      (fun w36 w37 w38 w39 =>
      keep_Times_r6 n w11 a0_0 a0_1 a0_2 k0 m w36 w37 w38 w39)
      (fun w40 =>
      k0 h13 w40 h17 h18 h19)
def keep_Times_p6 {R : Type} (n : Nat) (w11 : Int) (a0_0 : Int) (a0_1 : List (List D)) (a0_2 : List (List D)) (w9 : List (List D)) (w4 : List (List D)) (w5 : Int) (k0 : Int → Bool → (List (List D)) → (List (List D)) → Int → Option R) : Option R := keep_Times_r6 n w11 a0_0 a0_1 a0_2 k0 n (0 : Int) w9 w4 w5
def keep_Times_p7 {R : Type} (n : Nat) (w11 : Int) (a0_0 : Int) (a0_1 : List (List D)) (a0_2 : List (List D)) (w9 : List (List D)) (w4 : List (List D)) (w5 : Int) (k0 : Int → Bool → (List (List D)) → (List (List D)) → Int → Option R) : Option R :=
  keep_Times_p6 n w11 a0_0 a0_1 a0_2 w9 w4 w5
    (fun w41 w42 w43 w44 w45 =>
    k0 w41 w42 w43 w44 w45)
def keep_Times_p8 {R : Type} (n : Nat) (a0_0 : Int) (a0_1 : List (List D)) (a0_2 : List (List D)) (w9 : List (List D)) (w4 : List (List D)) (w5 : Int) (k0 : Int → Int → Bool → (List (List D)) → (List (List D)) → Int → Option R) : Option R :=
  keep_Times_p4 n a0_0 a0_1 a0_2 w9 w4 w5
    (fun w11 =>
    keep_Times_p7 n w11 a0_0 a0_1 a0_2 w9 w4 w5
      (fun w46 w47 w48 w49 w50 =>
      k0 w11 w46 w47 w48 w49 w50))
def keep_Times_p9 {R : Type} (n : Nat) (w51 : Int) (w52 : Int) (w53 : Bool) (a0_0 : Int) (a0_1 : List (List D)) (a0_2 : List (List D)) (w54 : List (List D)) (w55 : List (List D)) (w56 : Int) (k0 : Option R) : Option R :=
  k0
def keep_Times_p10 {R : Type} (n : Nat) (a0_0 : Int) (a0_1 : List (List D)) (a0_2 : List (List D)) (w9 : List (List D)) (w4 : List (List D)) (w5 : Int) (k0 : (List (List D)) → Option R) : Option R :=
  keep_Times_p8 n a0_0 a0_1 a0_2 w9 w4 w5
    (fun w51 w52 w53 w54 w55 w56 =>
    keep_Times_p9 n w51 w52 w53 a0_0 a0_1 a0_2 w54 w55 w56
      (k0 w54))
def keep_Times_p11 {R : Type} (n : Nat) (a0_0 : Int) (a0_1 : List (List D)) (a0_2 : List (List D)) (w4 : List (List D)) (w5 : Int) (k0 : (List (List D)) → Option R) : Option R :=
  keep_Times_p3 n a0_0 a0_1 a0_2 w4 w5
    (fun w9 =>
    keep_Times_p10 n a0_0 a0_1 a0_2 w9 w4 w5
      (fun w57 =>
      k0 w57))
def keep_Times_p12 {R : Type} (n : Nat) (a1 : List (List D)) (a0_0 : Int) (a0_1 : List (List D)) (a0_2 : List (List D)) (k0 : (List (List D)) → Option R) : Option R :=
  keep_Times_p2 n a1 a0_0 a0_1 a0_2
    (fun w4 w5 =>
    keep_Times_p11 n a0_0 a0_1 a0_2 w4 w5
      (fun w58 =>
      k0 w58))
def keep_Times_p13 {R : Type} (n : Nat) (a0_0 : Int) (a0_1 : List (List D)) (a0_2 : List (List D)) (a1 : List (List D)) (k0 : (List (List D)) → Option R) : Option R :=
  keep_Times_p1 n a0_0 a0_1 a0_2 a1
    (keep_Times_p12 n a1 a0_0 a0_1 a0_2
      (fun w59 =>
      k0 w59))
def keep_Times {R : Type} (n : Nat) (a0_0 : Int) (a0_1 : List (List D)) (a0_2 : List (List D)) (a1 : List (List D)) (K : (List (List D)) → Option R) : Option R :=
  keep_Times_p13 n a0_0 a0_1 a0_2 a1
    (fun w59 => K w59)
end Go.Vx
/-
  law11_small: the pure function
-/
set_option linter.unusedVariables false
namespace Go.Vx
def law11_small_p1 {R : Type} (n : Nat)  (k0 : (List (List D)) → (List (List D)) → Option R) : Option R :=
  k0 [[D.int .i64 (1 : Int), D.int .i64 (0 : Int), D.int .i64 (0 : Int)], [D.int .i64 (2 : Int), D.int .i64 (0 : Int), D.int .i64 (0 : Int)]] [[D.int .i64 (1 : Int), D.int .i64 (0 : Int), D.int .i64 (1 : Int), D.int .i64 (3 : Int), D.int .i64 (5 : Int), D.int .i64 (2 : Int)]]
def law11_small {R : Type} (n : Nat)  (K : Int → (List (List D)) → (List (List D)) → Option R) : Option R :=
  law11_small_p1 n 
    (fun z1 z2 => K (10 : Int) z1 z2)
end Go.Vx
/-
  law11_awake: the pure function
-/
set_option linter.unusedVariables false
namespace Go.Vx
def law11_awake_p1 {R : Type} (n : Nat)  (k0 : Bool → Option R) : Option R :=
  gb true (law11_small n  (fun r0 r1 r2 => some (r0, r1, r2))) (0, [], []) fun r1 =>
  gb true (network_First n r1.1 r1.2.1 r1.2.2 [[D.int .i64 (0 : Int)], [D.int .i64 (7 : Int)]] (fun r0 r1 => some (r0, r1))) (0, false) fun r2 =>
  gb true (law11_small n  (fun r0 r1 r2 => some (r0, r1, r2))) (0, [], []) fun r3 =>
  gb true (network_Check n r3.1 r3.2.1 r3.2.2 some) false fun r4 =>
  k0 (bif r4 then r2.2 else false)
def law11_awake {R : Type} (n : Nat)  (K : Bool → Option R) : Option R :=
  law11_awake_p1 n 
    (fun z5 => K z5)
end Go.Vx
/-
  law11_NetworkMutations: the pure function
-/
set_option linter.unusedVariables false
namespace Go.Vx
def law11_NetworkMutations_p1 {R : Type} (n : Nat) (a0 : List (List D)) (a1 : Int) (a2 : Int) (a3 : Int) (a4 : Bool) (k0 : Option R) : Option R :=
  k0
def law11_NetworkMutations_p2 {R : Type} (n : Nat) (a0 : List (List D)) (a1 : Int) (a2 : Int) (a3 : Int) (a4 : Bool) (k0 : Int → (List (List D)) → (List (List D)) → Option R) : Option R :=
  gb true (keep_Network n a0 (fun r0 r1 r2 => some (r0, r1, r2))) (0, [], []) fun r1 =>
  k0 r1.1 r1.2.1 r1.2.2
def law11_NetworkMutations_p3 {R : Type} (n : Nat) (a1 : Int) (a2 : Int) (a3 : Int) (a4 : Bool) (w5 : Int) (w6 : List (List D)) (w7 : List (List D)) (k0 : Bool → Option R) (k1 : Bool → Option R) : Option R :=
  bif (((List.length w7 : Nat) : Int) == (0 : Int)) then
    gb true (law11_awake n  some) false fun r8 =>
    k0 r8
  else
    k1 (((List.length w7 : Nat) : Int) == (0 : Int))
def law11_NetworkMutations_p4 {R : Type} (n : Nat) (a1 : Int) (a2 : Int) (a3 : Int) (a4 : Bool) (w11 : Bool) (w5 : Int) (w6 : List (List D)) (w7 : List (List D)) (k0 : Nat → Option R) : Option R :=
  gb true (keep_Pick n a1 ((List.length w7 : Nat) : Int) some) 0 fun r12 =>
  gb true (inB (List.length w7) r12) () fun u13 =>
  k0 (Int.toNat r12)
def law11_NetworkMutations_p5 {R : Type} (n : Nat) (a2 : Int) (a3 : Int) (a4 : Bool) (w15 : Nat) (w5 : Int) (w6 : List (List D)) (w7 : List (List D)) (k0 : Int → Option R) : Option R :=
  gb true (keep_Pick n a3 (40 : Int) some) 0 fun r16 =>
  k0 (IntKind.wrap .i64 (r16 - (20 : Int)))
def law11_NetworkMutations_p6 {R : Type} (n : Nat) (a2 : Int) (a3 : Int) (a4 : Bool) (w15 : Nat) (w18 : Int) (w5 : Int) (w6 : List (List D)) (w7 : List (List D)) (k0 : Option R) (k1 : Option R) : Option R :=
  bif a4 then
    k0
  else
    k1
def law11_NetworkMutations_p7 {R : Type} (n : Nat) (a2 : Int) (w15 : Nat) (a3 : Int) (w5 : Int) (w6 : List (List D)) (w7 : List (List D)) (k0 : Bool → Option R) : Option R :=
  gb true (keep_Pick n a2 (6 : Int) some) 0 fun r19 =>
  bif (r19 == (0 : Int)) then
    gb true (w7[w15]?) [] fun r20 =>
    gb true (law11_awake n  some) false fun r21 =>
    gb r21 (network_Check n w5 w6 (List.set w7 w15 (List.set r20 1 (D.int .i64 a3))) some) false fun r22 =>
    gb r21 (ref11_Check n w5 w6 (List.set w7 w15 (List.set r20 1 (D.int .i64 a3))) some) false fun r23 =>
    k0 (bif r21 then (r22 == r23) else false)
  else
    bif (r19 == (1 : Int)) then
      gb true (w7[w15]?) [] fun r24 =>
      gb true (law11_awake n  some) false fun r25 =>
      gb r25 (network_Check n w5 w6 (List.set w7 w15 (List.set r24 2 (D.int .i64 a3))) some) false fun r26 =>
      gb r25 (ref11_Check n w5 w6 (List.set w7 w15 (List.set r24 2 (D.int .i64 a3))) some) false fun r27 =>
      k0 (bif r25 then (r26 == r27) else false)
    else
      bif (r19 == (2 : Int)) then
        gb true (w7[w15]?) [] fun r28 =>
        gb true (law11_awake n  some) false fun r29 =>
        gb r29 (network_Check n w5 w6 (List.set w7 w15 (List.set r28 3 (D.int .i64 a3))) some) false fun r30 =>
        gb r29 (ref11_Check n w5 w6 (List.set w7 w15 (List.set r28 3 (D.int .i64 a3))) some) false fun r31 =>
        k0 (bif r29 then (r30 == r31) else false)
      else
        bif (r19 == (3 : Int)) then
          gb true (w7[w15]?) [] fun r32 =>
          gb true (law11_awake n  some) false fun r33 =>
          gb r33 (network_Check n w5 w6 (List.set w7 w15 (List.set r32 4 (D.int .i64 a3))) some) false fun r34 =>
          gb r33 (ref11_Check n w5 w6 (List.set w7 w15 (List.set r32 4 (D.int .i64 a3))) some) false fun r35 =>
          k0 (bif r33 then (r34 == r35) else false)
        else
          bif (r19 == (4 : Int)) then
            gb true (w7[w15]?) [] fun r36 =>
            gb true (law11_awake n  some) false fun r37 =>
            gb r37 (network_Check n w5 w6 (List.set w7 w15 (List.set r36 5 (D.int .i64 a3))) some) false fun r38 =>
            gb r37 (ref11_Check n w5 w6 (List.set w7 w15 (List.set r36 5 (D.int .i64 a3))) some) false fun r39 =>
            k0 (bif r37 then (r38 == r39) else false)
          else
            gb true (law11_awake n  some) false fun r40 =>
            gb r40 (network_Check n a3 w6 w7 some) false fun r41 =>
            gb r40 (ref11_Check n a3 w6 w7 some) false fun r42 =>
            k0 (bif r40 then (r41 == r42) else false)
def law11_NetworkMutations_p8 {R : Type} (n : Nat) (a2 : Int) (a3 : Int) (w15 : Nat) (w18 : Int) (a4 : Bool) (w5 : Int) (w6 : List (List D)) (w7 : List (List D)) (k0 : Bool → Option R) : Option R :=
  gb true (keep_Pick n a2 (6 : Int) some) 0 fun r45 =>
  bif (r45 == (0 : Int)) then
    gb true (w7[w15]?) [] fun r46 =>
    gb true (law11_awake n  some) false fun r47 =>
    gb r47 (network_Check n w5 w6 (List.set w7 w15 (List.set r46 1 (D.int .i64 w18))) some) false fun r48 =>
    gb r47 (ref11_Check n w5 w6 (List.set w7 w15 (List.set r46 1 (D.int .i64 w18))) some) false fun r49 =>
    k0 (bif r47 then (r48 == r49) else false)
  else
    bif (r45 == (1 : Int)) then
      gb true (w7[w15]?) [] fun r50 =>
      gb true (law11_awake n  some) false fun r51 =>
      gb r51 (network_Check n w5 w6 (List.set w7 w15 (List.set r50 2 (D.int .i64 w18))) some) false fun r52 =>
      gb r51 (ref11_Check n w5 w6 (List.set w7 w15 (List.set r50 2 (D.int .i64 w18))) some) false fun r53 =>
      k0 (bif r51 then (r52 == r53) else false)
    else
      bif (r45 == (2 : Int)) then
        gb true (w7[w15]?) [] fun r54 =>
        gb true (law11_awake n  some) false fun r55 =>
        gb r55 (network_Check n w5 w6 (List.set w7 w15 (List.set r54 3 (D.int .i64 w18))) some) false fun r56 =>
        gb r55 (ref11_Check n w5 w6 (List.set w7 w15 (List.set r54 3 (D.int .i64 w18))) some) false fun r57 =>
        k0 (bif r55 then (r56 == r57) else false)
      else
        bif (r45 == (3 : Int)) then
          gb true (w7[w15]?) [] fun r58 =>
          gb true (law11_awake n  some) false fun r59 =>
          gb r59 (network_Check n w5 w6 (List.set w7 w15 (List.set r58 4 (D.int .i64 w18))) some) false fun r60 =>
          gb r59 (ref11_Check n w5 w6 (List.set w7 w15 (List.set r58 4 (D.int .i64 w18))) some) false fun r61 =>
          k0 (bif r59 then (r60 == r61) else false)
        else
          bif (r45 == (4 : Int)) then
            gb true (w7[w15]?) [] fun r62 =>
            gb true (law11_awake n  some) false fun r63 =>
            gb r63 (network_Check n w5 w6 (List.set w7 w15 (List.set r62 5 (D.int .i64 w18))) some) false fun r64 =>
            gb r63 (ref11_Check n w5 w6 (List.set w7 w15 (List.set r62 5 (D.int .i64 w18))) some) false fun r65 =>
            k0 (bif r63 then (r64 == r65) else false)
          else
            gb true (law11_awake n  some) false fun r66 =>
            gb r66 (network_Check n w18 w6 w7 some) false fun r67 =>
            gb r66 (ref11_Check n w18 w6 w7 some) false fun r68 =>
            k0 (bif r66 then (r67 == r68) else false)
def law11_NetworkMutations_p9 {R : Type} (n : Nat) (a2 : Int) (a3 : Int) (a4 : Bool) (w15 : Nat) (w18 : Int) (w5 : Int) (w6 : List (List D)) (w7 : List (List D)) (k0 : Bool → Option R) : Option R :=
  law11_NetworkMutations_p6 n a2 a3 a4 w15 w18 w5 w6 w7
    (law11_NetworkMutations_p7 n a2 w15 a3 w5 w6 w7
      (fun w44 =>
      k0 w44))
    (law11_NetworkMutations_p8 n a2 a3 w15 w18 a4 w5 w6 w7
      (fun w70 =>
      k0 w70))
def law11_NetworkMutations_p10 {R : Type} (n : Nat) (a2 : Int) (a3 : Int) (a4 : Bool) (w15 : Nat) (w5 : Int) (w6 : List (List D)) (w7 : List (List D)) (k0 : Bool → Option R) : Option R :=
  law11_NetworkMutations_p5 n a2 a3 a4 w15 w5 w6 w7
    (fun w18 =>
    law11_NetworkMutations_p9 n a2 a3 a4 w15 w18 w5 w6 w7
      (fun w72 =>
      k0 w72))
def law11_NetworkMutations_p11 {R : Type} (n : Nat) (a1 : Int) (a2 : Int) (a3 : Int) (a4 : Bool) (w11 : Bool) (w5 : Int) (w6 : List (List D)) (w7 : List (List D)) (k0 : Bool → Option R) : Option R :=
  law11_NetworkMutations_p4 n a1 a2 a3 a4 w11 w5 w6 w7
    (fun w15 =>
    law11_NetworkMutations_p10 n a2 a3 a4 w15 w5 w6 w7
      (fun w73 =>
      k0 w73))
def law11_NetworkMutations_p12 {R : Type} (n : Nat) (a1 : Int) (a2 : Int) (a3 : Int) (a4 : Bool) (w5 : Int) (w6 : List (List D)) (w7 : List (List D)) (k0 : Bool → Option R) : Option R :=
  law11_NetworkMutations_p3 n a1 a2 a3 a4 w5 w6 w7
    (fun w10 =>
    k0 w10)
    (fun w11 =>
    law11_NetworkMutations_p11 n a1 a2 a3 a4 w11 w5 w6 w7
      (fun w74 =>
      k0 w74))
def law11_NetworkMutations_p13 {R : Type} (n : Nat) (a0 : List (List D)) (a1 : Int) (a2 : Int) (a3 : Int) (a4 : Bool) (k0 : Bool → Option R) : Option R :=
  law11_NetworkMutations_p2 n a0 a1 a2 a3 a4
    (fun w5 w6 w7 =>
    law11_NetworkMutations_p12 n a1 a2 a3 a4 w5 w6 w7
      (fun w76 =>
      k0 w76))
def law11_NetworkMutations_p14 {R : Type} (n : Nat) (a0 : List (List D)) (a1 : Int) (a2 : Int) (a3 : Int) (a4 : Bool) (k0 : Bool → Option R) : Option R :=
  law11_NetworkMutations_p1 n a0 a1 a2 a3 a4
    (law11_NetworkMutations_p13 n a0 a1 a2 a3 a4
      (fun w77 =>
      k0 w77))
def law11_NetworkMutations {R : Type} (n : Nat) (a0 : List (List D)) (a1 : Int) (a2 : Int) (a3 : Int) (a4 : Bool) (K : Bool → Option R) : Option R :=
  law11_NetworkMutations_p14 n a0 a1 a2 a3 a4
    (fun w77 => K w77)
end Go.Vx
/-
  law11_NetworkDurations: the pure function
-/
set_option linter.unusedVariables false
namespace Go.Vx
def law11_NetworkDurations_p1 {R : Type} (n : Nat) (a0 : List (List D)) (a1 : List (List D)) (k0 : Option R) : Option R :=
  k0
def law11_NetworkDurations_p2 {R : Type} (n : Nat) (a0 : List (List D)) (a1 : List (List D)) (k0 : Int → (List (List D)) → (List (List D)) → Option R) : Option R :=
  gb true (keep_Network n a0 (fun r0 r1 r2 => some (r0, r1, r2))) (0, [], []) fun r1 =>
  k0 r1.1 r1.2.1 r1.2.2
def law11_NetworkDurations_p3 {R : Type} (n : Nat) (a1 : List (List D)) (w5 : Int) (w6 : List (List D)) (w7 : List (List D)) (k0 : (List (List D)) → Option R) : Option R :=
  gb true (keep_Times n w5 w6 w7 a1 some) [] fun r8 =>
  k0 r8
def law11_NetworkDurations_p4 {R : Type} (n : Nat) (w9 : List (List D)) (w5 : Int) (w6 : List (List D)) (w7 : List (List D)) (k0 : Option R) : Option R :=
  k0
def law11_NetworkDurations_p5 {R : Type} (n : Nat) (w9 : List (List D)) (w5 : Int) (w6 : List (List D)) (w7 : List (List D)) (k0 : Int → Option R) : Option R :=
  k0 ((List.length w7 : Nat) : Int)
def law11_NetworkDurations_p6 {R : Type} (n : Nat) (w9 : List (List D)) (h13 : Bool) (w11 : Int) (h15 : Int) (w5 : Int) (w6 : List (List D)) (w7 : List (List D)) (k0 : Option R) (k1 : Bool → Int → Option R) (k2 : Bool → Option R) : Option R :=
  bif (decide (h15 < w11)) then
    gb true (rowAt w7 h15) [] fun r42 =>
    gb true (r42[0]?) (.bool false) fun c43 =>
    gb true (r42[1]?) (.bool false) fun c44 =>
    gb true (r42[2]?) (.bool false) fun c45 =>
    gb true (r42[3]?) (.bool false) fun c46 =>
    gb true (r42[4]?) (.bool false) fun c47 =>
    gb true (r42[5]?) (.bool false) fun c48 =>
    gb true (network_Duration n w5 w6 w7 w9 h15 some) 0 fun r49 =>
    gb true (pInt .i64 c46) 0 fun i50 =>
    gb (!(decide (r49 < i50))) (pInt .i64 c46) 0 fun i51 =>
    gb (!(bif (decide (r49 < i50)) then true else (decide (r49 ≥ (IntKind.wrap .i64 (i51 + w5)))))) (pInt .i64 c45) 0 fun i52 =>
    gb (!(bif (decide (r49 < i50)) then true else (decide (r49 ≥ (IntKind.wrap .i64 (i51 + w5)))))) (rowAt w9 i52) [] fun r53 =>
    gb (!(bif (decide (r49 < i50)) then true else (decide (r49 ≥ (IntKind.wrap .i64 (i51 + w5)))))) (r53[0]?) (.bool false) fun c54 =>
    gb (!(bif (decide (r49 < i50)) then true else (decide (r49 ≥ (IntKind.wrap .i64 (i51 + w5)))))) (pInt .i64 c54) 0 fun i55 =>
    gb (!(bif (decide (r49 < i50)) then true else (decide (r49 ≥ (IntKind.wrap .i64 (i51 + w5)))))) (pInt .i64 c44) 0 fun i56 =>
    gb (!(bif (decide (r49 < i50)) then true else (decide (r49 ≥ (IntKind.wrap .i64 (i51 + w5)))))) (rowAt w9 i56) [] fun r57 =>
    gb (!(bif (decide (r49 < i50)) then true else (decide (r49 ≥ (IntKind.wrap .i64 (i51 + w5)))))) (r57[0]?) (.bool false) fun c58 =>
    gb (!(bif (decide (r49 < i50)) then true else (decide (r49 ≥ (IntKind.wrap .i64 (i51 + w5)))))) (pInt .i64 c58) 0 fun i59 =>
    gb (!(bif (decide (r49 < i50)) then true else (decide (r49 ≥ (IntKind.wrap .i64 (i51 + w5)))))) (ref1_Mod n (IntKind.wrap .i64 (r49 - (IntKind.wrap .i64 (i55 - i59)))) w5 some) 0 fun r60 =>
    bif (bif (bif (decide (r49 < i50)) then true else (decide (r49 ≥ (IntKind.wrap .i64 (i51 + w5))))) then true else (r60 != (0 : Int))) then
      k0
    else
      gb h13 (pInt .i64 c47) 0 fun i61 =>
      k1 (bif h13 then (decide (r49 ≤ i61)) else false) (IntKind.wrap .i64 (h15 + (1 : Int)))
  else
    k2 (decide (h15 < w11))
def law11_NetworkDurations_r7 {R : Type} (n : Nat) (w9 : List (List D)) (w11 : Int) (w5 : Int) (w6 : List (List D)) (w7 : List (List D)) (k0 : Option R) (k1 : Bool → Int → Bool → Option R) : Nat → Bool → Int → Option R
  | 0, _, _ => none
  | m + 1, h13, h15 =>
    law11_NetworkDurations_p6 n w9 h13 w11 h15 w5 w6 w7
      (k0)
      (fun w65 w66 =>
      law11_NetworkDurations_r7 n w9 w11 w5 w6 w7 k0 k1 m w65 w66)
      (fun w67 =>
      k1 h13 h15 w67)
def law11_NetworkDurations_p7 {R : Type} (n : Nat) (w9 : List (List D)) (w11 : Int) (w5 : Int) (w6 : List (List D)) (w7 : List (List D)) (k0 : Option R) (k1 : Bool → Int → Bool → Option R) : Option R := law11_NetworkDurations_r7 n w9 w11 w5 w6 w7 k0 k1 n true (0 : Int)
def law11_NetworkDurations_p8 {R : Type} (n : Nat) (w9 : List (List D)) (w11 : Int) (w5 : Int) (w6 : List (List D)) (w7 : List (List D)) (k0 : Option R) (k1 : Bool → Int → Bool → Option R) : Option R :=
  law11_NetworkDurations_p7 n w9 w11 w5 w6 w7
    (k0)
    (fun w68 w69 w70 =>
    k1 w68 w69 w70)
def law11_NetworkDurations_p9 {R : Type} (n : Nat) (w9 : List (List D)) (w5 : Int) (w6 : List (List D)) (w7 : List (List D)) (k0 : Option R) (k1 : Bool → Int → Int → Bool → Option R) : Option R :=
  law11_NetworkDurations_p5 n w9 w5 w6 w7
    (fun w11 =>
    law11_NetworkDurations_p8 n w9 w11 w5 w6 w7
      (k0)
      (fun w71 w72 w73 =>
      k1 w71 w11 w72 w73))
def law11_NetworkDurations_p10 {R : Type} (n : Nat) (w9 : List (List D)) (w74 : Bool) (w75 : Int) (w76 : Int) (w77 : Bool) (w5 : Int) (w6 : List (List D)) (w7 : List (List D)) (k0 : Bool → Option R) : Option R :=
  gb true (law11_awake n  some) false fun r78 =>
  gb r78 (network_Feasible n w5 w6 w7 w9 some) false fun r79 =>
  k0 (bif r78 then (r79 == w74) else false)
def law11_NetworkDurations_p11 {R : Type} (n : Nat) (w9 : List (List D)) (w5 : Int) (w6 : List (List D)) (w7 : List (List D)) (k0 : Bool → Option R) : Option R :=
  law11_NetworkDurations_p9 n w9 w5 w6 w7
    (k0 false)
    (fun w74 w75 w76 w77 =>
    law11_NetworkDurations_p10 n w9 w74 w75 w76 w77 w5 w6 w7
      (fun w81 =>
      k0 w81))
def law11_NetworkDurations_p12 {R : Type} (n : Nat) (w9 : List (List D)) (w5 : Int) (w6 : List (List D)) (w7 : List (List D)) (k0 : Bool → Option R) : Option R :=
  law11_NetworkDurations_p4 n w9 w5 w6 w7
    (law11_NetworkDurations_p11 n w9 w5 w6 w7
      (fun w83 =>
      k0 w83))
def law11_NetworkDurations_p13 {R : Type} (n : Nat) (a1 : List (List D)) (w5 : Int) (w6 : List (List D)) (w7 : List (List D)) (k0 : Bool → Option R) : Option R :=
  law11_NetworkDurations_p3 n a1 w5 w6 w7
    (fun w9 =>
    law11_NetworkDurations_p12 n w9 w5 w6 w7
      (fun w84 =>
      k0 w84))
def law11_NetworkDurations_p14 {R : Type} (n : Nat) (a0 : List (List D)) (a1 : List (List D)) (k0 : Bool → Option R) : Option R :=
  law11_NetworkDurations_p2 n a0 a1
    (fun w5 w6 w7 =>
    law11_NetworkDurations_p13 n a1 w5 w6 w7
      (fun w85 =>
      k0 w85))
def law11_NetworkDurations_p15 {R : Type} (n : Nat) (a0 : List (List D)) (a1 : List (List D)) (k0 : Bool → Option R) : Option R :=
  law11_NetworkDurations_p1 n a0 a1
    (law11_NetworkDurations_p14 n a0 a1
      (fun w86 =>
      k0 w86))
def law11_NetworkDurations {R : Type} (n : Nat) (a0 : List (List D)) (a1 : List (List D)) (K : Bool → Option R) : Option R :=
  law11_NetworkDurations_p15 n a0 a1
    (fun w86 => K w86)
end Go.Vx
/-
  law11_NetworkShift: the pure function
-/
set_option linter.unusedVariables false
namespace Go.Vx
def law11_NetworkShift_p1 {R : Type} (n : Nat) (a0 : List (List D)) (a1 : List (List D)) (a2 : Int) (k0 : Option R) : Option R :=
  k0
def law11_NetworkShift_p2 {R : Type} (n : Nat) (a0 : List (List D)) (a1 : List (List D)) (a2 : Int) (k0 : Int → (List (List D)) → (List (List D)) → Option R) : Option R :=
  gb true (keep_Network n a0 (fun r0 r1 r2 => some (r0, r1, r2))) (0, [], []) fun r1 =>
  k0 r1.1 r1.2.1 r1.2.2
def law11_NetworkShift_p3 {R : Type} (n : Nat) (a1 : List (List D)) (a2 : Int) (w5 : Int) (w6 : List (List D)) (w7 : List (List D)) (k0 : (List (List D)) → Option R) : Option R :=
  gb true (keep_Times n w5 w6 w7 a1 some) [] fun r8 =>
  k0 r8
def law11_NetworkShift_p4 {R : Type} (n : Nat) (a2 : Int) (w9 : List (List D)) (w5 : Int) (w6 : List (List D)) (w7 : List (List D)) (k0 : Int → Option R) : Option R :=
  gb true (keep_Pick n a2 w5 some) 0 fun r10 =>
  k0 r10
def law11_NetworkShift_p5 {R : Type} (n : Nat) (w11 : Int) (w9 : List (List D)) (w5 : Int) (w6 : List (List D)) (w7 : List (List D)) (k0 : Option R) : Option R :=
  k0
def law11_NetworkShift_p6 {R : Type} (n : Nat) (w11 : Int) (w9 : List (List D)) (w5 : Int) (w6 : List (List D)) (w7 : List (List D)) (k0 : Int → Option R) : Option R :=
  k0 ((List.length w9 : Nat) : Int)
def law11_NetworkShift_p7 {R : Type} (n : Nat) (w11 : Int) (w9 : List (List D)) (w13 : Int) (h17 : Int) (h18 : List (List D)) (w5 : Int) (w6 : List (List D)) (w7 : List (List D)) (k0 : Int → (List (List D)) → Option R) (k1 : Bool → Option R) : Option R :=
  bif (decide (h17 < w13)) then
    gb true (rowAt w9 h17) [] fun r30 =>
    gb true (r30[0]?) (.bool false) fun c31 =>
    gb true (pInt .i64 c31) 0 fun i32 =>
    gb true (nz w5) () fun u33 =>
    gb true (room ((List.length h18 + List.length [[D.int .i64 (Int.tmod (IntKind.wrap .i64 (i32 + w11)) w5)]]) * 8)) () fun u34 =>
    k0 (IntKind.wrap .i64 (h17 + (1 : Int))) (h18 ++ [[D.int .i64 (Int.tmod (IntKind.wrap .i64 (i32 + w11)) w5)]])
  else
    k1 (decide (h17 < w13))
def law11_NetworkShift_r8 {R : Type} (n : Nat) (w11 : Int) (w9 : List (List D)) (w13 : Int) (w5 : Int) (w6 : List (List D)) (w7 : List (List D)) (k0 : Int → Bool → (List (List D)) → Option R) : Nat → Int → (List (List D)) → Option R
  | 0, _, _ => none
  | m + 1, h17, h18 =>
    law11_NetworkShift_p7 n w11 w9 w13 h17 h18 w5 w6 w7
      (fun w38 w39 =>
      law11_NetworkShift_r8 n w11 w9 w13 w5 w6 w7 k0 m w38 w39)
      (fun w40 =>
      k0 h17 w40 h18)
def law11_NetworkShift_p8 {R : Type} (n : Nat) (w11 : Int) (w9 : List (List D)) (w13 : Int) (w5 : Int) (w6 : List (List D)) (w7 : List (List D)) (k0 : Int → Bool → (List (List D)) → Option R) : Option R := law11_NetworkShift_r8 n w11 w9 w13 w5 w6 w7 k0 n (0 : Int) []
def law11_NetworkShift_p9 {R : Type} (n : Nat) (w11 : Int) (w9 : List (List D)) (w13 : Int) (w5 : Int) (w6 : List (List D)) (w7 : List (List D)) (k0 : Int → Bool → (List (List D)) → Option R) : Option R :=
  law11_NetworkShift_p8 n w11 w9 w13 w5 w6 w7
    (fun w41 w42 w43 =>
    k0 w41 w42 w43)
def law11_NetworkShift_p10 {R : Type} (n : Nat) (w11 : Int) (w9 : List (List D)) (w5 : Int) (w6 : List (List D)) (w7 : List (List D)) (k0 : Int → Int → Bool → (List (List D)) → Option R) : Option R :=
  law11_NetworkShift_p6 n w11 w9 w5 w6 w7
    (fun w13 =>
    law11_NetworkShift_p9 n w11 w9 w13 w5 w6 w7
      (fun w44 w45 w46 =>
      k0 w13 w44 w45 w46))
def law11_NetworkShift_p11 {R : Type} (n : Nat) (w11 : Int) (w9 : List (List D)) (w47 : Int) (w48 : Int) (w49 : Bool) (w5 : Int) (w6 : List (List D)) (w7 : List (List D)) (w50 : List (List D)) (k0 : Int → Int → Option R) : Option R :=
  gb true (network_Cost n w5 w6 w7 w9 (fun r0 r1 => some (r0, r1))) (0, 0) fun r51 =>
  k0 r51.1 r51.2
def law11_NetworkShift_p12 {R : Type} (n : Nat) (w9 : List (List D)) (w54 : Int) (w55 : Int) (w5 : Int) (w6 : List (List D)) (w7 : List (List D)) (w50 : List (List D)) (k0 : Int → Int → Option R) : Option R :=
  gb true (network_Cost n w5 w6 w7 w50 (fun r0 r1 => some (r0, r1))) (0, 0) fun r56 =>
  k0 r56.1 r56.2
def law11_NetworkShift_p13 {R : Type} (n : Nat) (w9 : List (List D)) (w54 : Int) (w55 : Int) (w59 : Int) (w60 : Int) (w5 : Int) (w6 : List (List D)) (w7 : List (List D)) (w50 : List (List D)) (k0 : Int → Option R) : Option R :=
  k0 ((List.length w7 : Nat) : Int)
def law11_NetworkShift_p14 {R : Type} (n : Nat) (w9 : List (List D)) (w54 : Int) (w55 : Int) (w59 : Int) (w60 : Int) (w62 : Int) (h69 : Int) (w5 : Int) (w6 : List (List D)) (w7 : List (List D)) (w50 : List (List D)) (k0 : Option R) (k1 : Int → Option R) (k2 : Bool → Option R) : Option R :=
  bif (decide (h69 < w62)) then
    gb true (network_Duration n w5 w6 w7 w9 h69 some) 0 fun r78 =>
    gb true (network_Duration n w5 w6 w7 w50 h69 some) 0 fun r79 =>
    bif (r78 != r79) then
      k0
    else
      k1 (IntKind.wrap .i64 (h69 + (1 : Int)))
  else
    k2 (decide (h69 < w62))
def law11_NetworkShift_r15 {R : Type} (n : Nat) (w9 : List (List D)) (w54 : Int) (w55 : Int) (w59 : Int) (w60 : Int) (w62 : Int) (w5 : Int) (w6 : List (List D)) (w7 : List (List D)) (w50 : List (List D)) (k0 : Option R) (k1 : Int → Bool → Option R) : Nat → Int → Option R
  | 0, _ => none
  | m + 1, h69 =>
    law11_NetworkShift_p14 n w9 w54 w55 w59 w60 w62 h69 w5 w6 w7 w50
      (k0)
      (fun w82 =>
      law11_NetworkShift_r15 n w9 w54 w55 w59 w60 w62 w5 w6 w7 w50 k0 k1 m w82)
      (fun w83 =>
      k1 h69 w83)
def law11_NetworkShift_p15 {R : Type} (n : Nat) (w9 : List (List D)) (w54 : Int) (w55 : Int) (w59 : Int) (w60 : Int) (w62 : Int) (w5 : Int) (w6 : List (List D)) (w7 : List (List D)) (w50 : List (List D)) (k0 : Option R) (k1 : Int → Bool → Option R) : Option R := law11_NetworkShift_r15 n w9 w54 w55 w59 w60 w62 w5 w6 w7 w50 k0 k1 n (0 : Int)
def law11_NetworkShift_p16 {R : Type} (n : Nat) (w9 : List (List D)) (w54 : Int) (w55 : Int) (w59 : Int) (w60 : Int) (w62 : Int) (w5 : Int) (w6 : List (List D)) (w7 : List (List D)) (w50 : List (List D)) (k0 : Option R) (k1 : Int → Bool → Option R) : Option R :=
  law11_NetworkShift_p15 n w9 w54 w55 w59 w60 w62 w5 w6 w7 w50
    (k0)
    (fun w84 w85 =>
    k1 w84 w85)
def law11_NetworkShift_p17 {R : Type} (n : Nat) (w9 : List (List D)) (w54 : Int) (w55 : Int) (w59 : Int) (w60 : Int) (w5 : Int) (w6 : List (List D)) (w7 : List (List D)) (w50 : List (List D)) (k0 : Option R) (k1 : Int → Int → Bool → Option R) : Option R :=
  law11_NetworkShift_p13 n w9 w54 w55 w59 w60 w5 w6 w7 w50
    (fun w62 =>
    law11_NetworkShift_p16 n w9 w54 w55 w59 w60 w62 w5 w6 w7 w50
      (k0)
      (fun w86 w87 =>
      k1 w62 w86 w87))
def law11_NetworkShift_p18 {R : Type} (n : Nat) (w9 : List (List D)) (w54 : Int) (w55 : Int) (w59 : Int) (w60 : Int) (w88 : Int) (w89 : Int) (w90 : Bool) (w5 : Int) (w6 : List (List D)) (w7 : List (List D)) (w50 : List (List D)) (k0 : Bool → Option R) : Option R :=
  gb true (law11_awake n  some) false fun r91 =>
  gb (bif (bif (bif r91 then (w55 == (0 : Int)) else false) then (w60 == (0 : Int)) else false) then (w54 == w59) else false) (network_Feasible n w5 w6 w7 w9 some) false fun r92 =>
  gb (bif (bif (bif r91 then (w55 == (0 : Int)) else false) then (w60 == (0 : Int)) else false) then (w54 == w59) else false) (network_Feasible n w5 w6 w7 w50 some) false fun r93 =>
  k0 (bif (bif (bif (bif r91 then (w55 == (0 : Int)) else false) then (w60 == (0 : Int)) else false) then (w54 == w59) else false) then (r92 == r93) else false)
def law11_NetworkShift_p19 {R : Type} (n : Nat) (w9 : List (List D)) (w54 : Int) (w55 : Int) (w59 : Int) (w60 : Int) (w5 : Int) (w6 : List (List D)) (w7 : List (List D)) (w50 : List (List D)) (k0 : Bool → Option R) : Option R :=
  law11_NetworkShift_p17 n w9 w54 w55 w59 w60 w5 w6 w7 w50
    (k0 false)
    (fun w88 w89 w90 =>
    law11_NetworkShift_p18 n w9 w54 w55 w59 w60 w88 w89 w90 w5 w6 w7 w50
      (fun w95 =>
      k0 w95))
def law11_NetworkShift_p20 {R : Type} (n : Nat) (w9 : List (List D)) (w54 : Int) (w55 : Int) (w5 : Int) (w6 : List (List D)) (w7 : List (List D)) (w50 : List (List D)) (k0 : Bool → Option R) : Option R :=
  law11_NetworkShift_p12 n w9 w54 w55 w5 w6 w7 w50
    (fun w59 w60 =>
    law11_NetworkShift_p19 n w9 w54 w55 w59 w60 w5 w6 w7 w50
      (fun w97 =>
      k0 w97))
def law11_NetworkShift_p21 {R : Type} (n : Nat) (w11 : Int) (w9 : List (List D)) (w47 : Int) (w48 : Int) (w49 : Bool) (w5 : Int) (w6 : List (List D)) (w7 : List (List D)) (w50 : List (List D)) (k0 : Bool → Option R) : Option R :=
  law11_NetworkShift_p11 n w11 w9 w47 w48 w49 w5 w6 w7 w50
    (fun w54 w55 =>
    law11_NetworkShift_p20 n w9 w54 w55 w5 w6 w7 w50
      (fun w98 =>
      k0 w98))
def law11_NetworkShift_p22 {R : Type} (n : Nat) (w11 : Int) (w9 : List (List D)) (w5 : Int) (w6 : List (List D)) (w7 : List (List D)) (k0 : Bool → Option R) : Option R :=
  law11_NetworkShift_p10 n w11 w9 w5 w6 w7
    (fun w47 w48 w49 w50 =>
    law11_NetworkShift_p21 n w11 w9 w47 w48 w49 w5 w6 w7 w50
      (fun w99 =>
      k0 w99))
def law11_NetworkShift_p23 {R : Type} (n : Nat) (w11 : Int) (w9 : List (List D)) (w5 : Int) (w6 : List (List D)) (w7 : List (List D)) (k0 : Bool → Option R) : Option R :=
  law11_NetworkShift_p5 n w11 w9 w5 w6 w7
    (law11_NetworkShift_p22 n w11 w9 w5 w6 w7
      (fun w100 =>
      k0 w100))
def law11_NetworkShift_p24 {R : Type} (n : Nat) (a2 : Int) (w9 : List (List D)) (w5 : Int) (w6 : List (List D)) (w7 : List (List D)) (k0 : Bool → Option R) : Option R :=
  law11_NetworkShift_p4 n a2 w9 w5 w6 w7
    (fun w11 =>
    law11_NetworkShift_p23 n w11 w9 w5 w6 w7
      (fun w101 =>
      k0 w101))
def law11_NetworkShift_p25 {R : Type} (n : Nat) (a1 : List (List D)) (a2 : Int) (w5 : Int) (w6 : List (List D)) (w7 : List (List D)) (k0 : Bool → Option R) : Option R :=
  law11_NetworkShift_p3 n a1 a2 w5 w6 w7
    (fun w9 =>
    law11_NetworkShift_p24 n a2 w9 w5 w6 w7
      (fun w102 =>
      k0 w102))
def law11_NetworkShift_p26 {R : Type} (n : Nat) (a0 : List (List D)) (a1 : List (List D)) (a2 : Int) (k0 : Bool → Option R) : Option R :=
  law11_NetworkShift_p2 n a0 a1 a2
    (fun w5 w6 w7 =>
    law11_NetworkShift_p25 n a1 a2 w5 w6 w7
      (fun w103 =>
      k0 w103))
def law11_NetworkShift_p27 {R : Type} (n : Nat) (a0 : List (List D)) (a1 : List (List D)) (a2 : Int) (k0 : Bool → Option R) : Option R :=
  law11_NetworkShift_p1 n a0 a1 a2
    (law11_NetworkShift_p26 n a0 a1 a2
      (fun w104 =>
      k0 w104))
def law11_NetworkShift {R : Type} (n : Nat) (a0 : List (List D)) (a1 : List (List D)) (a2 : Int) (K : Bool → Option R) : Option R :=
  law11_NetworkShift_p27 n a0 a1 a2
    (fun w104 => K w104)
end Go.Vx
/-
  slices_Index_railplan_api_Event_railplan_api_Event: the pure function
-/
set_option linter.unusedVariables false
namespace Go.Vx
def slices_Index_railplan_api_Event_railplan_api_Event_p1 {R : Type} (n : Nat) (a0 : List (List D)) (a1_0 : Int) (a1_1 : Int) (a1_2 : Int) (k0 : Option R) : Option R :=
  k0
def slices_Index_railplan_api_Event_railplan_api_Event_p2 {R : Type} (n : Nat) (a0 : List (List D)) (a1_0 : Int) (a1_1 : Int) (a1_2 : Int) (k0 : Int → Option R) : Option R :=
  k0 ((List.length a0 : Nat) : Int)
def slices_Index_railplan_api_Event_railplan_api_Event_p3 {R : Type} (n : Nat) (a0 : List (List D)) (w2 : Int) (h5 : Int) (a1_0 : Int) (a1_1 : Int) (a1_2 : Int) (k0 : Option R) (k1 : Int → Option R) (k2 : Bool → Option R) : Option R :=
  bif (decide (h5 < w2)) then
    gb true (rowAt a0 h5) [] fun r18 =>
    gb true (r18[0]?) (.bool false) fun c19 =>
    gb true (r18[1]?) (.bool false) fun c20 =>
    gb true (r18[2]?) (.bool false) fun c21 =>
    gb true (pInt .i64 c19) 0 fun i22 =>
    gb true (pInt .i64 c20) 0 fun i23 =>
    gb true (pInt .i64 c21) 0 fun i24 =>
    bif ((a1_0 == i22) && ((a1_1 == i23) && (a1_2 == i24))) then
      k0
    else
      k1 (IntKind.wrap .i64 (h5 + (1 : Int)))
  else
    k2 (decide (h5 < w2))
def slices_Index_railplan_api_Event_railplan_api_Event_r4 {R : Type} (n : Nat) (a0 : List (List D)) (w2 : Int) (a1_0 : Int) (a1_1 : Int) (a1_2 : Int) (k0 : Int → Option R) (k1 : Int → Bool → Option R) : Nat → Int → Option R
  | 0, _ => none
  | m + 1, h5 =>
    slices_Index_railplan_api_Event_railplan_api_Event_p3 n a0 w2 h5 a1_0 a1_1 a1_2
      (k0 h5)
      (fun w27 =>
      slices_Index_railplan_api_Event_railplan_api_Event_r4 n a0 w2 a1_0 a1_1 a1_2 k0 k1 m w27)
      (fun w28 =>
      k1 h5 w28)
def slices_Index_railplan_api_Event_railplan_api_Event_p4 {R : Type} (n : Nat) (a0 : List (List D)) (w2 : Int) (a1_0 : Int) (a1_1 : Int) (a1_2 : Int) (k0 : Int → Option R) (k1 : Int → Bool → Option R) : Option R := slices_Index_railplan_api_Event_railplan_api_Event_r4 n a0 w2 a1_0 a1_1 a1_2 k0 k1 n (0 : Int)
def slices_Index_railplan_api_Event_railplan_api_Event_p5 {R : Type} (n : Nat) (a0 : List (List D)) (w2 : Int) (a1_0 : Int) (a1_1 : Int) (a1_2 : Int) (k0 : Int → Option R) (k1 : Int → Bool → Option R) : Option R :=
  slices_Index_railplan_api_Event_railplan_api_Event_p4 n a0 w2 a1_0 a1_1 a1_2
    (fun w29 =>
    k0 w29)
    (fun w30 w31 =>
    k1 w30 w31)
def slices_Index_railplan_api_Event_railplan_api_Event_p6 {R : Type} (n : Nat) (a0 : List (List D)) (a1_0 : Int) (a1_1 : Int) (a1_2 : Int) (k0 : Int → Option R) (k1 : Int → Int → Bool → Option R) : Option R :=
  slices_Index_railplan_api_Event_railplan_api_Event_p2 n a0 a1_0 a1_1 a1_2
    (fun w2 =>
    slices_Index_railplan_api_Event_railplan_api_Event_p5 n a0 w2 a1_0 a1_1 a1_2
      (fun w32 =>
      k0 w32)
      (fun w33 w34 =>
      k1 w2 w33 w34))
def slices_Index_railplan_api_Event_railplan_api_Event_p7 {R : Type} (n : Nat) (a0 : List (List D)) (w36 : Int) (w37 : Int) (w38 : Bool) (a1_0 : Int) (a1_1 : Int) (a1_2 : Int) (k0 : Option R) : Option R :=
  k0
def slices_Index_railplan_api_Event_railplan_api_Event_p8 {R : Type} (n : Nat) (a0 : List (List D)) (a1_0 : Int) (a1_1 : Int) (a1_2 : Int) (k0 : Int → Option R) : Option R :=
  slices_Index_railplan_api_Event_railplan_api_Event_p6 n a0 a1_0 a1_1 a1_2
    (fun w35 =>
    k0 w35)
    (fun w36 w37 w38 =>
    slices_Index_railplan_api_Event_railplan_api_Event_p7 n a0 w36 w37 w38 a1_0 a1_1 a1_2
      (k0 (-1 : Int)))
def slices_Index_railplan_api_Event_railplan_api_Event_p9 {R : Type} (n : Nat) (a0 : List (List D)) (a1_0 : Int) (a1_1 : Int) (a1_2 : Int) (k0 : Int → Option R) : Option R :=
  slices_Index_railplan_api_Event_railplan_api_Event_p1 n a0 a1_0 a1_1 a1_2
    (slices_Index_railplan_api_Event_railplan_api_Event_p8 n a0 a1_0 a1_1 a1_2
      (fun w40 =>
      k0 w40))
def slices_Index_railplan_api_Event_railplan_api_Event {R : Type} (n : Nat) (a0 : List (List D)) (a1_0 : Int) (a1_1 : Int) (a1_2 : Int) (K : Int → Option R) : Option R :=
  slices_Index_railplan_api_Event_railplan_api_Event_p9 n a0 a1_0 a1_1 a1_2
    (fun w40 => K w40)
end Go.Vx
/-
  network_Index: the pure function
-/
set_option linter.unusedVariables false
namespace Go.Vx
def network_Index_p1 {R : Type} (n : Nat) (a0_0 : Int) (a0_1 : List (List D)) (a0_2 : List (List D)) (a1_0 : Int) (a1_1 : Int) (a1_2 : Int) (k0 : Int → Option R) : Option R :=
  gb true (slices_Index_railplan_api_Event_railplan_api_Event n a0_1 a1_0 a1_1 a1_2 some) 0 fun r1 =>
  k0 r1
def network_Index {R : Type} (n : Nat) (a0_0 : Int) (a0_1 : List (List D)) (a0_2 : List (List D)) (a1_0 : Int) (a1_1 : Int) (a1_2 : Int) (K : Int → Option R) : Option R :=
  network_Index_p1 n a0_0 a0_1 a0_2 a1_0 a1_1 a1_2
    (fun r1 => K r1)
end Go.Vx
/-
  law11_NetworkExamples: the pure function
-/
set_option linter.unusedVariables false
namespace Go.Vx
def law11_NetworkExamples_p1 {R : Type} (n : Nat)  (k0 : Bool → Option R) : Option R :=
  gb true (law11_small n  (fun r0 r1 r2 => some (r0, r1, r2))) (0, [], []) fun r1 =>
  gb true (network_Cost n r1.1 r1.2.1 r1.2.2 [[D.int .i64 (8 : Int)], [D.int .i64 (2 : Int)]] (fun r0 r1 => some (r0, r1))) (0, 0) fun r2 =>
  gb true (law11_small n  (fun r0 r1 r2 => some (r0, r1, r2))) (0, [], []) fun r3 =>
  gb true (network_Duration n r3.1 r3.2.1 r3.2.2 [[D.int .i64 (8 : Int)], [D.int .i64 (2 : Int)]] (0 : Int) some) 0 fun r4 =>
  gb (bif (bif (r4 == (4 : Int)) then (r2.1 == (8 : Int)) else false) then (r2.2 == (0 : Int)) else false) (law11_small n  (fun r0 r1 r2 => some (r0, r1, r2))) (0, [], []) fun r5 =>
  gb (bif (bif (r4 == (4 : Int)) then (r2.1 == (8 : Int)) else false) then (r2.2 == (0 : Int)) else false) (network_Feasible n r5.1 r5.2.1 r5.2.2 [[D.int .i64 (8 : Int)], [D.int .i64 (2 : Int)]] some) false fun r6 =>
  gb (bif (bif (bif (r4 == (4 : Int)) then (r2.1 == (8 : Int)) else false) then (r2.2 == (0 : Int)) else false) then r6 else false) (law11_small n  (fun r0 r1 r2 => some (r0, r1, r2))) (0, [], []) fun r7 =>
  gb (bif (bif (bif (r4 == (4 : Int)) then (r2.1 == (8 : Int)) else false) then (r2.2 == (0 : Int)) else false) then r6 else false) (network_Index n r7.1 r7.2.1 r7.2.2 (2 : Int) (0 : Int) (0 : Int) some) 0 fun r8 =>
  k0 (bif (bif (bif (bif (r4 == (4 : Int)) then (r2.1 == (8 : Int)) else false) then (r2.2 == (0 : Int)) else false) then r6 else false) then (r8 == (1 : Int)) else false)
def law11_NetworkExamples {R : Type} (n : Nat)  (K : Bool → Option R) : Option R :=
  law11_NetworkExamples_p1 n 
    (fun z9 => K z9)
end Go.Vx
/-
  ref11_Index: the pure function
-/
set_option linter.unusedVariables false
namespace Go.Vx
def ref11_Index_p1 {R : Type} (n : Nat) (a0_0 : Int) (a0_1 : List (List D)) (a0_2 : List (List D)) (a1_0 : Int) (a1_1 : Int) (a1_2 : Int) (k0 : Option R) : Option R :=
  k0
def ref11_Index_p2 {R : Type} (n : Nat) (a0_0 : Int) (a0_1 : List (List D)) (a0_2 : List (List D)) (a1_0 : Int) (a1_1 : Int) (a1_2 : Int) (k0 : Option R) : Option R :=
  k0
def ref11_Index_p3 {R : Type} (n : Nat) (h1 : Int) (a0_0 : Int) (a0_1 : List (List D)) (a0_2 : List (List D)) (a1_0 : Int) (a1_1 : Int) (a1_2 : Int) (k0 : Option R) (k1 : Int → Option R) (k2 : Bool → Option R) : Option R :=
  bif (decide (h1 < ((List.length a0_1 : Nat) : Int))) then
    gb true (rowAt a0_1 h1) [] fun r17 =>
    gb true (r17[0]?) (.bool false) fun c18 =>
    gb true (r17[1]?) (.bool false) fun c19 =>
    gb true (r17[2]?) (.bool false) fun c20 =>
    gb true (pInt .i64 c18) 0 fun i21 =>
    gb true (pInt .i64 c19) 0 fun i22 =>
    gb true (pInt .i64 c20) 0 fun i23 =>
    bif ((i21 == a1_0) && ((i22 == a1_1) && (i23 == a1_2))) then
      k0
    else
      k1 (IntKind.wrap .i64 (h1 + (1 : Int)))
  else
    k2 (decide (h1 < ((List.length a0_1 : Nat) : Int)))
def ref11_Index_r4 {R : Type} (n : Nat) (a0_0 : Int) (a0_1 : List (List D)) (a0_2 : List (List D)) (a1_0 : Int) (a1_1 : Int) (a1_2 : Int) (k0 : Int → Option R) (k1 : Int → Bool → Option R) : Nat → Int → Option R
  | 0, _ => none
  | m + 1, h1 =>
    ref11_Index_p3 n h1 a0_0 a0_1 a0_2 a1_0 a1_1 a1_2
      (k0 h1)
      (fun w26 =>
      ref11_Index_r4 n a0_0 a0_1 a0_2 a1_0 a1_1 a1_2 k0 k1 m w26)
      (fun w27 =>
      k1 h1 w27)
def ref11_Index_p4 {R : Type} (n : Nat) (a0_0 : Int) (a0_1 : List (List D)) (a0_2 : List (List D)) (a1_0 : Int) (a1_1 : Int) (a1_2 : Int) (k0 : Int → Option R) (k1 : Int → Bool → Option R) : Option R := ref11_Index_r4 n a0_0 a0_1 a0_2 a1_0 a1_1 a1_2 k0 k1 n (0 : Int)
def ref11_Index_p5 {R : Type} (n : Nat) (a0_0 : Int) (a0_1 : List (List D)) (a0_2 : List (List D)) (a1_0 : Int) (a1_1 : Int) (a1_2 : Int) (k0 : Int → Option R) (k1 : Int → Bool → Option R) : Option R :=
  ref11_Index_p4 n a0_0 a0_1 a0_2 a1_0 a1_1 a1_2
    (fun w28 =>
    k0 w28)
    (fun w29 w30 =>
    k1 w29 w30)
def ref11_Index_p6 {R : Type} (n : Nat) (a0_0 : Int) (a0_1 : List (List D)) (a0_2 : List (List D)) (a1_0 : Int) (a1_1 : Int) (a1_2 : Int) (k0 : Int → Option R) (k1 : Int → Bool → Option R) : Option R :=
  ref11_Index_p2 n a0_0 a0_1 a0_2 a1_0 a1_1 a1_2
    (ref11_Index_p5 n a0_0 a0_1 a0_2 a1_0 a1_1 a1_2
      (fun w31 =>
      k0 w31)
      (fun w32 w33 =>
      k1 w32 w33))
def ref11_Index_p7 {R : Type} (n : Nat) (w35 : Int) (w36 : Bool) (a0_0 : Int) (a0_1 : List (List D)) (a0_2 : List (List D)) (a1_0 : Int) (a1_1 : Int) (a1_2 : Int) (k0 : Option R) : Option R :=
  k0
def ref11_Index_p8 {R : Type} (n : Nat) (a0_0 : Int) (a0_1 : List (List D)) (a0_2 : List (List D)) (a1_0 : Int) (a1_1 : Int) (a1_2 : Int) (k0 : Int → Option R) : Option R :=
  ref11_Index_p6 n a0_0 a0_1 a0_2 a1_0 a1_1 a1_2
    (fun w34 =>
    k0 w34)
    (fun w35 w36 =>
    ref11_Index_p7 n w35 w36 a0_0 a0_1 a0_2 a1_0 a1_1 a1_2
      (k0 (-1 : Int)))
def ref11_Index_p9 {R : Type} (n : Nat) (a0_0 : Int) (a0_1 : List (List D)) (a0_2 : List (List D)) (a1_0 : Int) (a1_1 : Int) (a1_2 : Int) (k0 : Int → Option R) : Option R :=
  ref11_Index_p1 n a0_0 a0_1 a0_2 a1_0 a1_1 a1_2
    (ref11_Index_p8 n a0_0 a0_1 a0_2 a1_0 a1_1 a1_2
      (fun w38 =>
      k0 w38))
def ref11_Index {R : Type} (n : Nat) (a0_0 : Int) (a0_1 : List (List D)) (a0_2 : List (List D)) (a1_0 : Int) (a1_1 : Int) (a1_2 : Int) (K : Int → Option R) : Option R :=
  ref11_Index_p9 n a0_0 a0_1 a0_2 a1_0 a1_1 a1_2
    (fun w38 => K w38)
end Go.Vx
/-
  law11_agrees: the pure function
-/
set_option linter.unusedVariables false
namespace Go.Vx
def law11_agrees_p1 {R : Type} (n : Nat) (a0_0 : Int) (a0_1 : List (List D)) (a0_2 : List (List D)) (a1 : List (List D)) (a2 : Int) (a3_0 : Int) (a3_1 : Int) (a3_2 : Int) (k0 : Bool → Option R) : Option R :=
  gb true (network_First n a0_0 a0_1 a0_2 a1 (fun r0 r1 => some (r0, r1))) (0, false) fun r1 =>
  gb true (ref11_First n a0_0 a0_1 a0_2 a1 (fun r0 r1 => some (r0, r1))) (0, false) fun r2 =>
  gb true (network_Cost n a0_0 a0_1 a0_2 a1 (fun r0 r1 => some (r0, r1))) (0, 0) fun r3 =>
  gb true (ref11_Cost n a0_0 a0_1 a0_2 a1 (fun r0 r1 => some (r0, r1))) (0, 0) fun r4 =>
  gb true (network_Check n a0_0 a0_1 a0_2 some) false fun r5 =>
  gb true (ref11_Check n a0_0 a0_1 a0_2 some) false fun r6 =>
  gb (r5 == r6) (network_Good n a0_0 a0_1 a0_2 a1 some) false fun r7 =>
  gb (r5 == r6) (ref11_Good n a0_0 a0_1 a0_2 a1 some) false fun r8 =>
  gb (bif (r5 == r6) then (r7 == r8) else false) (network_Duration n a0_0 a0_1 a0_2 a1 a2 some) 0 fun r9 =>
  gb (bif (r5 == r6) then (r7 == r8) else false) (ref11_Duration n a0_0 a0_1 a0_2 a1 a2 some) 0 fun r10 =>
  gb (bif (bif (bif (bif (r5 == r6) then (r7 == r8) else false) then (r9 == r10) else false) then (r1.1 == r2.1) else false) then (r1.2 == r2.2) else false) (network_Feasible n a0_0 a0_1 a0_2 a1 some) false fun r11 =>
  gb (bif (bif (bif (bif (r5 == r6) then (r7 == r8) else false) then (r9 == r10) else false) then (r1.1 == r2.1) else false) then (r1.2 == r2.2) else false) (ref11_Feasible n a0_0 a0_1 a0_2 a1 some) false fun r12 =>
  gb (bif (bif (bif (bif (bif (bif (bif (r5 == r6) then (r7 == r8) else false) then (r9 == r10) else false) then (r1.1 == r2.1) else false) then (r1.2 == r2.2) else false) then (r11 == r12) else false) then (r3.1 == r4.1) else false) then (r3.2 == r4.2) else false) (network_Index n a0_0 a0_1 a0_2 a3_0 a3_1 a3_2 some) 0 fun r13 =>
  gb (bif (bif (bif (bif (bif (bif (bif (r5 == r6) then (r7 == r8) else false) then (r9 == r10) else false) then (r1.1 == r2.1) else false) then (r1.2 == r2.2) else false) then (r11 == r12) else false) then (r3.1 == r4.1) else false) then (r3.2 == r4.2) else false) (ref11_Index n a0_0 a0_1 a0_2 a3_0 a3_1 a3_2 some) 0 fun r14 =>
  k0 (bif (bif (bif (bif (bif (bif (bif (bif (r5 == r6) then (r7 == r8) else false) then (r9 == r10) else false) then (r1.1 == r2.1) else false) then (r1.2 == r2.2) else false) then (r11 == r12) else false) then (r3.1 == r4.1) else false) then (r3.2 == r4.2) else false) then (r13 == r14) else false)
def law11_agrees {R : Type} (n : Nat) (a0_0 : Int) (a0_1 : List (List D)) (a0_2 : List (List D)) (a1 : List (List D)) (a2 : Int) (a3_0 : Int) (a3_1 : Int) (a3_2 : Int) (K : Bool → Option R) : Option R :=
  law11_agrees_p1 n a0_0 a0_1 a0_2 a1 a2 a3_0 a3_1 a3_2
    (fun z15 => K z15)
end Go.Vx
/-
  law11_NetworkRaw: the pure function
-/
set_option linter.unusedVariables false
namespace Go.Vx
def law11_NetworkRaw_p1 {R : Type} (n : Nat) (a0_0 : Int) (a0_1 : List (List D)) (a0_2 : List (List D)) (a1 : List (List D)) (a2 : Int) (a3_0 : Int) (a3_1 : Int) (a3_2 : Int) (k0 : Bool → Option R) : Option R :=
  gb true (law11_awake n  some) false fun r1 =>
  gb r1 (law11_agrees n a0_0 a0_1 a0_2 a1 a2 a3_0 a3_1 a3_2 some) false fun r2 =>
  gb (bif r1 then r2 else false) (law11_small n  (fun r0 r1 r2 => some (r0, r1, r2))) (0, [], []) fun r3 =>
  gb (bif r1 then r2 else false) (law11_agrees n r3.1 r3.2.1 r3.2.2 a1 a2 a3_0 a3_1 a3_2 some) false fun r4 =>
  k0 (bif (bif r1 then r2 else false) then r4 else false)
def law11_NetworkRaw {R : Type} (n : Nat) (a0_0 : Int) (a0_1 : List (List D)) (a0_2 : List (List D)) (a1 : List (List D)) (a2 : Int) (a3_0 : Int) (a3_1 : Int) (a3_2 : Int) (K : Bool → Option R) : Option R :=
  law11_NetworkRaw_p1 n a0_0 a0_1 a0_2 a1 a2 a3_0 a3_1 a3_2
    (fun z5 => K z5)
end Go.Vx
/-
  law11_NetworkGenerated: the pure function
-/
set_option linter.unusedVariables false
namespace Go.Vx
def law11_NetworkGenerated_p1 {R : Type} (n : Nat) (a0 : List (List D)) (a1 : List (List D)) (a2 : Int) (a3_0 : Int) (a3_1 : Int) (a3_2 : Int) (k0 : Bool → Option R) : Option R :=
  gb true (keep_Network n a0 (fun r0 r1 r2 => some (r0, r1, r2))) (0, [], []) fun r1 =>
  gb true (keep_Pick n a2 (IntKind.wrap .i64 (((List.length r1.2.2 : Nat) : Int) + (2 : Int))) some) 0 fun r2 =>
  gb true (keep_Pick n a3_0 (2 : Int) some) 0 fun r3 =>
  gb true (keep_Pick n a3_1 (3 : Int) some) 0 fun r4 =>
  gb true (keep_Pick n a3_2 (3 : Int) some) 0 fun r5 =>
  gb true (law11_awake n  some) false fun r6 =>
  gb r6 (network_Check n r1.1 r1.2.1 r1.2.2 some) false fun r7 =>
  gb (bif r6 then r7 else false) (keep_Times n r1.1 r1.2.1 r1.2.2 a1 some) [] fun r8 =>
  gb (bif r6 then r7 else false) (law11_agrees n r1.1 r1.2.1 r1.2.2 r8 (IntKind.wrap .i64 (r2 - (1 : Int))) (IntKind.wrap .i64 ((1 : Int) + r3)) r4 r5 some) false fun r9 =>
  k0 (bif (bif r6 then r7 else false) then r9 else false)
def law11_NetworkGenerated {R : Type} (n : Nat) (a0 : List (List D)) (a1 : List (List D)) (a2 : Int) (a3_0 : Int) (a3_1 : Int) (a3_2 : Int) (K : Bool → Option R) : Option R :=
  law11_NetworkGenerated_p1 n a0 a1 a2 a3_0 a3_1 a3_2
    (fun z10 => K z10)
end Go.Vx
