/- Part of a proof: texts Vflaw20 two Vfplatform Valid Vfarith Mod Vfplatform overlap Vfplatform fits Vfrailplan platform Assign 1 s1 Vfplatform Assign Vfplatform Overlap Vfkeep Same int Vfslices Index int . No conditions of their own. -/
import Derived.Test.YtbkkpccmjhimjaaE2VA
/-
  law20_two: the pure function
-/
set_option linter.unusedVariables false
namespace Go.Vx
def law20_two_p1 {R : Type} (n : Nat)  (k0 : (List (List D)) → Option R) : Option R :=
  k0 [[D.int .i64 (8 : Int), D.int .i64 (4 : Int), D.sl 1 [[D.int .i64 (1 : Int)], [D.int .i64 (2 : Int)]]], [D.int .i64 (0 : Int), D.int .i64 (3 : Int), D.sl 1 [[D.int .i64 (1 : Int)]]]]
def law20_two {R : Type} (n : Nat)  (K : (List (List D)) → Option R) : Option R :=
  law20_two_p1 n 
    (fun z1 => K z1)
end Go.Vx
/-
  platform_Valid: the pure function
-/
set_option linter.unusedVariables false
namespace Go.Vx
def platform_Valid_p1 {R : Type} (n : Nat) (a0 : Int) (a1 : List (List D)) (k0 : Option R) : Option R :=
  k0
def platform_Valid_p2 {R : Type} (n : Nat) (a0 : Int) (a1 : List (List D)) (k0 : Option R) (k1 : Bool → Option R) : Option R :=
  bif (bif (bif (decide (a0 < (2 : Int))) then true else (decide (a0 > (7200 : Int)))) then true else (decide (((List.length a1 : Nat) : Int) > (16 : Int)))) then
    k0
  else
    k1 (bif (bif (decide (a0 < (2 : Int))) then true else (decide (a0 > (7200 : Int)))) then true else (decide (((List.length a1 : Nat) : Int) > (16 : Int))))
def platform_Valid_p3 {R : Type} (n : Nat) (a0 : Int) (a1 : List (List D)) (w2 : Bool) (k0 : Int → Option R) : Option R :=
  k0 ((List.length a1 : Nat) : Int)
def platform_Valid_p4 {R : Type} (n : Nat) (a0 : Int) (a1 : List (List D)) (w4 : Int) (h8 : Int) (k0 : Bool → Option R) : Option R :=
  k0 (decide (h8 < w4))
def platform_Valid_p5 {R : Type} (n : Nat) (a0 : Int) (a1 : List (List D)) (w4 : Int) (h8 : Int) (w86 : Bool) (k0 : Option R) (k1 : Option R) : Option R :=
  bif w86 then
    k0
  else
    k1
def platform_Valid_p6 {R : Type} (n : Nat) (a0 : Int) (a1 : List (List D)) (w4 : Int) (h8 : Int) (w86 : Bool) (k0 : D → D → D → Option R) : Option R :=
  gb true (rowAt a1 h8) [] fun r87 =>
  gb true (r87[0]?) (.bool false) fun c88 =>
  gb true (r87[1]?) (.bool false) fun c89 =>
  gb true (r87[2]?) (.bool false) fun c90 =>
  k0 c88 c89 c90
def platform_Valid_p7 {R : Type} (n : Nat) (a0 : Int) (a1 : List (List D)) (w4 : Int) (h8 : Int) (w91 : D) (w92 : D) (w93 : D) (k0 : Option R) (k1 : Bool → Option R) : Option R :=
  gb true (pInt .i64 w91) 0 fun i94 =>
  gb (!(decide (i94 < (0 : Int)))) (pInt .i64 w91) 0 fun i95 =>
  gb (!(bif (decide (i94 < (0 : Int))) then true else (decide (i95 ≥ a0)))) (pInt .i64 w92) 0 fun i96 =>
  gb (!(bif (bif (decide (i94 < (0 : Int))) then true else (decide (i95 ≥ a0))) then true else (decide (i96 < (1 : Int))))) (pInt .i64 w92) 0 fun i97 =>
  gb (!(bif (bif (bif (decide (i94 < (0 : Int))) then true else (decide (i95 ≥ a0))) then true else (decide (i96 < (1 : Int)))) then true else (decide (i97 > a0)))) (pSl 1 w93) [] fun l98 =>
  bif (bif (bif (bif (bif (decide (i94 < (0 : Int))) then true else (decide (i95 ≥ a0))) then true else (decide (i96 < (1 : Int)))) then true else (decide (i97 > a0))) then true else (decide (((List.length l98 : Nat) : Int) > (8 : Int)))) then
    k0
  else
    k1 (bif (bif (bif (bif (decide (i94 < (0 : Int))) then true else (decide (i95 ≥ a0))) then true else (decide (i96 < (1 : Int)))) then true else (decide (i97 > a0))) then true else (decide (((List.length l98 : Nat) : Int) > (8 : Int))))
def platform_Valid_p8 {R : Type} (n : Nat) (a0 : Int) (a1 : List (List D)) (w4 : Int) (h8 : Int) (w100 : Bool) (w91 : D) (w92 : D) (w93 : D) (k0 : Option R) : Option R :=
  k0
def platform_Valid_p9 {R : Type} (n : Nat) (a0 : Int) (a1 : List (List D)) (w4 : Int) (h8 : Int) (w91 : D) (w92 : D) (w93 : D) (k0 : (List (List D)) → Int → Option R) : Option R :=
  gb true (pSl 1 w93) [] fun l101 =>
  k0 l101 ((List.length l101 : Nat) : Int)
def platform_Valid_p10 {R : Type} (n : Nat) (a0 : Int) (h106 : Int) (a1 : List (List D)) (w4 : Int) (h8 : Int) (w103 : List (List D)) (w104 : Int) (h112 : Int) (k0 : Option R) (k1 : Int → Int → Option R) (k2 : Bool → Option R) : Option R :=
  bif (decide (h112 < w104)) then
    gb true (rowAt w103 h112) [] fun r118 =>
    gb true (r118[0]?) (.bool false) fun c119 =>
    gb true (pInt .i64 c119) 0 fun i120 =>
    bif (decide (i120 ≤ h106)) then
      k0
    else
      k1 i120 (IntKind.wrap .i64 (h112 + (1 : Int)))
  else
    k2 (decide (h112 < w104))
def platform_Valid_r11 {R : Type} (n : Nat) (a0 : Int) (a1 : List (List D)) (w4 : Int) (h8 : Int) (w103 : List (List D)) (w104 : Int) (k0 : Option R) (k1 : Int → Int → Bool → Option R) : Nat → Int → Int → Option R
  | 0, _, _ => none
  | m + 1, h106, h112 =>
    platform_Valid_p10 n a0 h106 a1 w4 h8 w103 w104 h112
      (k0)
      (fun w123 w124 =>
      platform_Valid_r11 n a0 a1 w4 h8 w103 w104 k0 k1 m w123 w124)
      (fun w125 =>
      k1 h106 h112 w125)
def platform_Valid_p11 {R : Type} (n : Nat) (a0 : Int) (a1 : List (List D)) (w4 : Int) (h8 : Int) (w103 : List (List D)) (w104 : Int) (k0 : Option R) (k1 : Int → Int → Bool → Option R) : Option R := platform_Valid_r11 n a0 a1 w4 h8 w103 w104 k0 k1 n (-1 : Int) (0 : Int)
def platform_Valid_p12 {R : Type} (n : Nat) (a0 : Int) (a1 : List (List D)) (w4 : Int) (h8 : Int) (w103 : List (List D)) (w104 : Int) (k0 : Option R) (k1 : Int → Int → Bool → Option R) : Option R :=
  platform_Valid_p11 n a0 a1 w4 h8 w103 w104
    (k0)
    (fun w126 w127 w128 =>
    k1 w126 w127 w128)
def platform_Valid_p13 {R : Type} (n : Nat) (a0 : Int) (a1 : List (List D)) (w4 : Int) (h8 : Int) (w91 : D) (w92 : D) (w93 : D) (k0 : Option R) (k1 : Int → (List (List D)) → Int → Int → Bool → Option R) : Option R :=
  platform_Valid_p9 n a0 a1 w4 h8 w91 w92 w93
    (fun w103 w104 =>
    platform_Valid_p12 n a0 a1 w4 h8 w103 w104
      (k0)
      (fun w129 w130 w131 =>
      k1 w129 w103 w104 w130 w131))
def platform_Valid_p14 {R : Type} (n : Nat) (a0 : Int) (a1 : List (List D)) (w4 : Int) (h8 : Int) (w100 : Bool) (w91 : D) (w92 : D) (w93 : D) (k0 : Option R) (k1 : Int → (List (List D)) → Int → Int → Bool → Option R) : Option R :=
  platform_Valid_p8 n a0 a1 w4 h8 w100 w91 w92 w93
    (platform_Valid_p13 n a0 a1 w4 h8 w91 w92 w93
      (k0)
      (fun w132 w133 w134 w135 w136 =>
      k1 w132 w133 w134 w135 w136))
def platform_Valid_p15 {R : Type} (n : Nat) (a0 : Int) (a1 : List (List D)) (w4 : Int) (h8 : Int) (w91 : D) (w92 : D) (w93 : D) (k0 : Option R) (k1 : Int → (List (List D)) → Int → Int → Bool → Option R) : Option R :=
  platform_Valid_p7 n a0 a1 w4 h8 w91 w92 w93
    (k0)
    (fun w100 =>
    platform_Valid_p14 n a0 a1 w4 h8 w100 w91 w92 w93
      (k0)
      (fun w137 w138 w139 w140 w141 =>
      k1 w137 w138 w139 w140 w141))
def platform_Valid_p16 {R : Type} (n : Nat) (a0 : Int) (a1 : List (List D)) (w4 : Int) (h8 : Int) (w86 : Bool) (k0 : Option R) (k1 : Int → (List (List D)) → Int → Int → Bool → Option R) : Option R :=
  platform_Valid_p6 n a0 a1 w4 h8 w86
    (fun w91 w92 w93 =>
    platform_Valid_p15 n a0 a1 w4 h8 w91 w92 w93
      (k0)
      (fun w142 w143 w144 w145 w146 =>
      k1 w142 w143 w144 w145 w146))
def platform_Valid_p17 {R : Type} (n : Nat) (a0 : Int) (a1 : List (List D)) (w4 : Int) (h8 : Int) (w86 : Bool) (k0 : Option R) (k1 : Int → (List (List D)) → Int → Int → Bool → Option R) : Option R :=
  platform_Valid_p16 n a0 a1 w4 h8 w86
    (k0)
    (fun w147 w148 w149 w150 w151 =>
    k1 w147 w148 w149 w150 w151)
def platform_Valid_p18 {R : Type} (n : Nat) (a0 : Int) (w152 : Int) (a1 : List (List D)) (w4 : Int) (h8 : Int) (w153 : List (List D)) (w154 : Int) (w155 : Int) (w156 : Bool) (k0 : Int → Option R) : Option R :=
  k0 (IntKind.wrap .i64 (h8 + (1 : Int)))
def platform_Valid_p19 {R : Type} (n : Nat) (a0 : Int) (a1 : List (List D)) (w4 : Int) (h8 : Int) (w86 : Bool) (k0 : Option R) (k1 : Int → Option R) : Option R :=
  platform_Valid_p17 n a0 a1 w4 h8 w86
    (k0)
    (fun w152 w153 w154 w155 w156 =>
    platform_Valid_p18 n a0 w152 a1 w4 h8 w153 w154 w155 w156
      (fun w158 =>
      k1 w158))
def platform_Valid_p20 {R : Type} (n : Nat) (a0 : Int) (a1 : List (List D)) (w4 : Int) (h8 : Int) (w86 : Bool) (k0 : Option R) (k1 : Int → Option R) (k2 : Option R) : Option R :=
  platform_Valid_p5 n a0 a1 w4 h8 w86
    (platform_Valid_p19 n a0 a1 w4 h8 w86
      (k0)
      (fun w159 =>
      k1 w159))
    (k2)
def platform_Valid_p21 {R : Type} (n : Nat) (a0 : Int) (a1 : List (List D)) (w4 : Int) (h8 : Int) (k0 : Option R) (k1 : Int → Option R) (k2 : Bool → Option R) : Option R :=
  platform_Valid_p4 n a0 a1 w4 h8
    (fun w86 =>
    platform_Valid_p20 n a0 a1 w4 h8 w86
      (k0)
      (fun w160 =>
      k1 w160)
      (k2 w86))
def platform_Valid_r22 {R : Type} (n : Nat) (a0 : Int) (a1 : List (List D)) (w4 : Int) (k0 : Option R) (k1 : Int → Bool → Option R) : Nat → Int → Option R
  | 0, _ => none
  | m + 1, h8 =>
    platform_Valid_p21 n a0 a1 w4 h8
      (k0)
      (fun w161 =>
      platform_Valid_r22 n a0 a1 w4 k0 k1 m w161)
      (fun w162 =>
      k1 h8 w162)
def platform_Valid_p22 {R : Type} (n : Nat) (a0 : Int) (a1 : List (List D)) (w4 : Int) (k0 : Option R) (k1 : Int → Bool → Option R) : Option R := platform_Valid_r22 n a0 a1 w4 k0 k1 n (0 : Int)
def platform_Valid_p23 {R : Type} (n : Nat) (a0 : Int) (a1 : List (List D)) (w4 : Int) (k0 : Option R) (k1 : Int → Bool → Option R) : Option R :=
  platform_Valid_p22 n a0 a1 w4
    (k0)
    (fun w163 w164 =>
    k1 w163 w164)
def platform_Valid_p24 {R : Type} (n : Nat) (a0 : Int) (a1 : List (List D)) (w2 : Bool) (k0 : Option R) (k1 : Int → Int → Bool → Option R) : Option R :=
  platform_Valid_p3 n a0 a1 w2
    (fun w4 =>
    platform_Valid_p23 n a0 a1 w4
      (k0)
      (fun w165 w166 =>
      k1 w4 w165 w166))
def platform_Valid_p25 {R : Type} (n : Nat) (a0 : Int) (a1 : List (List D)) (w167 : Int) (w168 : Int) (w169 : Bool) (k0 : Option R) : Option R :=
  k0
def platform_Valid_p26 {R : Type} (n : Nat) (a0 : Int) (a1 : List (List D)) (w2 : Bool) (k0 : Bool → Option R) : Option R :=
  platform_Valid_p24 n a0 a1 w2
    (k0 false)
    (fun w167 w168 w169 =>
    platform_Valid_p25 n a0 a1 w167 w168 w169
      (k0 true))
def platform_Valid_p27 {R : Type} (n : Nat) (a0 : Int) (a1 : List (List D)) (k0 : Bool → Option R) : Option R :=
  platform_Valid_p2 n a0 a1
    (k0 false)
    (fun w2 =>
    platform_Valid_p26 n a0 a1 w2
      (fun w171 =>
      k0 w171))
def platform_Valid_p28 {R : Type} (n : Nat) (a0 : Int) (a1 : List (List D)) (k0 : Bool → Option R) : Option R :=
  platform_Valid_p1 n a0 a1
    (platform_Valid_p27 n a0 a1
      (fun w173 =>
      k0 w173))
def platform_Valid {R : Type} (n : Nat) (a0 : Int) (a1 : List (List D)) (K : Bool → Option R) : Option R :=
  platform_Valid_p28 n a0 a1
    (fun w173 => K w173)
end Go.Vx
/-
  arith_Mod: the pure function
-/
set_option linter.unusedVariables false
namespace Go.Vx
def arith_Mod_p1 {R : Type} (n : Nat) (a0 : Int) (a1 : Int) (k0 : Int → Option R) : Option R :=
  bif (decide (a1 < (1 : Int))) then
    k0 (0 : Int)
  else
    gb true (nz a1) () fun u1 =>
    bif (decide ((Int.tmod a0 a1) < (0 : Int))) then
      k0 (IntKind.wrap .i64 ((Int.tmod a0 a1) + a1))
    else
      k0 (Int.tmod a0 a1)
def arith_Mod {R : Type} (n : Nat) (a0 : Int) (a1 : Int) (K : Int → Option R) : Option R :=
  arith_Mod_p1 n a0 a1
    (fun z2 => K z2)
end Go.Vx
/-
  platform_overlap: the pure function
-/
set_option linter.unusedVariables false
namespace Go.Vx
def platform_overlap_p1 {R : Type} (n : Nat) (a0 : Int) (a1_0 : Int) (a1_1 : Int) (a1_2 : List (List D)) (a2_0 : Int) (a2_1 : Int) (a2_2 : List (List D)) (k0 : Bool → Option R) : Option R :=
  gb true (arith_Mod n (IntKind.wrap .i64 (a2_0 - a1_0)) a0 some) 0 fun r1 =>
  gb (!(decide (r1 < a1_1))) (arith_Mod n (IntKind.wrap .i64 (a1_0 - a2_0)) a0 some) 0 fun r2 =>
  k0 (bif (decide (r1 < a1_1)) then true else (decide (r2 < a2_1)))
def platform_overlap {R : Type} (n : Nat) (a0 : Int) (a1_0 : Int) (a1_1 : Int) (a1_2 : List (List D)) (a2_0 : Int) (a2_1 : Int) (a2_2 : List (List D)) (K : Bool → Option R) : Option R :=
  platform_overlap_p1 n a0 a1_0 a1_1 a1_2 a2_0 a2_1 a2_2
    (fun z3 => K z3)
end Go.Vx
/-
  platform_fits: the pure function
-/
set_option linter.unusedVariables false
namespace Go.Vx
def platform_fits_p1 {R : Type} (n : Nat) (a0 : Int) (a1 : List (List D)) (a2 : List (List D)) (a3 : Int) (a4 : Int) (k0 : Option R) : Option R :=
  k0
def platform_fits_p2 {R : Type} (n : Nat) (a0 : Int) (a1 : List (List D)) (a2 : List (List D)) (a3 : Int) (a4 : Int) (k0 : Option R) : Option R :=
  k0
def platform_fits_p3 {R : Type} (n : Nat) (a0 : Int) (a1 : List (List D)) (a2 : List (List D)) (a3 : Int) (a4 : Int) (h7 : Int) (k0 : Option R) (k1 : Int → Option R) (k2 : Bool → Option R) : Option R :=
  bif (decide (h7 < a3)) then
    gb true (rowAt a2 h7) [] fun r28 =>
    gb true (r28[0]?) (.bool false) fun c29 =>
    gb true (pInt .i64 c29) 0 fun i30 =>
    gb (i30 == a4) (rowAt a1 h7) [] fun r31 =>
    gb (i30 == a4) (r31[0]?) (.bool false) fun c32 =>
    gb (i30 == a4) (r31[1]?) (.bool false) fun c33 =>
    gb (i30 == a4) (r31[2]?) (.bool false) fun c34 =>
    gb (i30 == a4) (rowAt a1 a3) [] fun r35 =>
    gb (i30 == a4) (r35[0]?) (.bool false) fun c36 =>
    gb (i30 == a4) (r35[1]?) (.bool false) fun c37 =>
    gb (i30 == a4) (r35[2]?) (.bool false) fun c38 =>
    gb (i30 == a4) (pInt .i64 c32) 0 fun i39 =>
    gb (i30 == a4) (pInt .i64 c33) 0 fun i40 =>
    gb (i30 == a4) (pSl 1 c34) [] fun l41 =>
    gb (i30 == a4) (pInt .i64 c36) 0 fun i42 =>
    gb (i30 == a4) (pInt .i64 c37) 0 fun i43 =>
    gb (i30 == a4) (pSl 1 c38) [] fun l44 =>
    gb (i30 == a4) (platform_overlap n a0 i39 i40 l41 i42 i43 l44 some) false fun r45 =>
    bif (bif (i30 == a4) then r45 else false) then
      k0
    else
      k1 (IntKind.wrap .i64 (h7 + (1 : Int)))
  else
    k2 (decide (h7 < a3))
def platform_fits_r4 {R : Type} (n : Nat) (a0 : Int) (a1 : List (List D)) (a2 : List (List D)) (a3 : Int) (a4 : Int) (k0 : Option R) (k1 : Int → Bool → Option R) : Nat → Int → Option R
  | 0, _ => none
  | m + 1, h7 =>
    platform_fits_p3 n a0 a1 a2 a3 a4 h7
      (k0)
      (fun w48 =>
      platform_fits_r4 n a0 a1 a2 a3 a4 k0 k1 m w48)
      (fun w49 =>
      k1 h7 w49)
def platform_fits_p4 {R : Type} (n : Nat) (a0 : Int) (a1 : List (List D)) (a2 : List (List D)) (a3 : Int) (a4 : Int) (k0 : Option R) (k1 : Int → Bool → Option R) : Option R := platform_fits_r4 n a0 a1 a2 a3 a4 k0 k1 n (0 : Int)
def platform_fits_p5 {R : Type} (n : Nat) (a0 : Int) (a1 : List (List D)) (a2 : List (List D)) (a3 : Int) (a4 : Int) (k0 : Option R) (k1 : Int → Bool → Option R) : Option R :=
  platform_fits_p4 n a0 a1 a2 a3 a4
    (k0)
    (fun w50 w51 =>
    k1 w50 w51)
def platform_fits_p6 {R : Type} (n : Nat) (a0 : Int) (a1 : List (List D)) (a2 : List (List D)) (a3 : Int) (a4 : Int) (k0 : Option R) (k1 : Int → Bool → Option R) : Option R :=
  platform_fits_p2 n a0 a1 a2 a3 a4
    (platform_fits_p5 n a0 a1 a2 a3 a4
      (k0)
      (fun w52 w53 =>
      k1 w52 w53))
def platform_fits_p7 {R : Type} (n : Nat) (a0 : Int) (a1 : List (List D)) (a2 : List (List D)) (a3 : Int) (a4 : Int) (w54 : Int) (w55 : Bool) (k0 : Option R) : Option R :=
  k0
def platform_fits_p8 {R : Type} (n : Nat) (a0 : Int) (a1 : List (List D)) (a2 : List (List D)) (a3 : Int) (a4 : Int) (k0 : Bool → Option R) : Option R :=
  platform_fits_p6 n a0 a1 a2 a3 a4
    (k0 false)
    (fun w54 w55 =>
    platform_fits_p7 n a0 a1 a2 a3 a4 w54 w55
      (k0 true))
def platform_fits_p9 {R : Type} (n : Nat) (a0 : Int) (a1 : List (List D)) (a2 : List (List D)) (a3 : Int) (a4 : Int) (k0 : Bool → Option R) : Option R :=
  platform_fits_p1 n a0 a1 a2 a3 a4
    (platform_fits_p8 n a0 a1 a2 a3 a4
      (fun w57 =>
      k0 w57))
def platform_fits {R : Type} (n : Nat) (a0 : Int) (a1 : List (List D)) (a2 : List (List D)) (a3 : Int) (a4 : Int) (K : Bool → Option R) : Option R :=
  platform_fits_p9 n a0 a1 a2 a3 a4
    (fun w57 => K w57)
end Go.Vx
/-
  railplan_platform_Assign_1_s1: the pure function
-/
set_option linter.unusedVariables false
namespace Go.Vx
def railplan_platform_Assign_1_s1_p1 {R : Type} (n : Nat) (Fr : Int → (List (List D)) → Int → Int → Int → (List (List D)) → Option (Int × (List (List D)) × Int × Int × Int × (List (List D)))) (a0 : Int) (b0_0 : List (List D)) (b1_0 : Int) (b2_0 : Int) (b3_0 : Int) (q5 : List (List D)) (k0 : Option R) : Option R :=
  k0
def railplan_platform_Assign_1_s1_p2 {R : Type} (n : Nat) (Fr : Int → (List (List D)) → Int → Int → Int → (List (List D)) → Option (Int × (List (List D)) × Int × Int × Int × (List (List D)))) (a0 : Int) (b0_0 : List (List D)) (b1_0 : Int) (b2_0 : Int) (b3_0 : Int) (q5 : List (List D)) (k0 : Option R) (k1 : Bool → Option R) : Option R :=
  bif (a0 == ((List.length b0_0 : Nat) : Int)) then
    k0
  else
    k1 (a0 == ((List.length b0_0 : Nat) : Int))
def railplan_platform_Assign_1_s1_p3 {R : Type} (n : Nat) (Fr : Int → (List (List D)) → Int → Int → Int → (List (List D)) → Option (Int × (List (List D)) × Int × Int × Int × (List (List D)))) (a0 : Int) (w2 : Bool) (q5 : List (List D)) (b0_0 : List (List D)) (b1_0 : Int) (b2_0 : Int) (b3_0 : Int) (k0 : (List (List D)) → Int → Option R) : Option R :=
  gb true (rowAt b0_0 a0) [] fun r3 =>
  gb true (r3[2]?) (.bool false) fun c4 =>
  gb true (pSl 1 c4) [] fun l5 =>
  k0 l5 ((List.length l5 : Nat) : Int)
def railplan_platform_Assign_1_s1_p4 {R : Type} (n : Nat) (Fr : Int → (List (List D)) → Int → Int → Int → (List (List D)) → Option (Int × (List (List D)) × Int × Int × Int × (List (List D)))) (a0 : Int) (w7 : List (List D)) (w8 : Int) (h12 : Int) (h13 : List (List D)) (h14 : List (List D)) (h15 : Int) (h16 : Int) (h17 : Int) (k0 : Int → (List (List D)) → (List (List D)) → Int → Int → Int → Option R) (k1 : Int → (List (List D)) → (List (List D)) → Int → Int → Int → Option R) (k2 : Bool → Option R) : Option R :=
  bif (decide (h12 < w8)) then
    gb true (rowAt w7 h12) [] fun r38 =>
    gb true (r38[0]?) (.bool false) fun c39 =>
    gb true (pInt .i64 c39) 0 fun i40 =>
    bif (h15 == h16) then
      k0 (15 : Int) h13 h14 h15 h16 h17
    else
      gb true (platform_fits n h17 h14 h13 a0 i40 some) false fun r41 =>
      bif (!r41) then
        k1 (IntKind.wrap .i64 (h12 + (1 : Int))) h13 h14 (IntKind.wrap .i64 (h15 + (1 : Int))) h16 h17
      else
        gb true (inB (List.length h13) a0) () fun u42 =>
        gb true (h13[(Int.toNat a0)]?) [] fun r43 =>
        gb true (Fr (IntKind.wrap .i64 (a0 + (1 : Int))) h14 (IntKind.wrap .i64 (h15 + (1 : Int))) h16 h17 (List.set h13 (Int.toNat a0) (List.set r43 0 (D.int .i64 i40)))) (0, [], 0, 0, 0, []) fun r44 =>
        bif (r44.1 != (14 : Int)) then
          k0 r44.1 r44.2.2.2.2.2 r44.2.1 r44.2.2.1 r44.2.2.2.1 r44.2.2.2.2.1
        else
          k1 (IntKind.wrap .i64 (h12 + (1 : Int))) r44.2.2.2.2.2 r44.2.1 r44.2.2.1 r44.2.2.2.1 r44.2.2.2.2.1
  else
    k2 (decide (h12 < w8))
def railplan_platform_Assign_1_s1_r5 {R : Type} (n : Nat) (Fr : Int → (List (List D)) → Int → Int → Int → (List (List D)) → Option (Int × (List (List D)) × Int × Int × Int × (List (List D)))) (a0 : Int) (w7 : List (List D)) (w8 : Int) (k0 : Int → (List (List D)) → (List (List D)) → Int → Int → Int → Option R) (k1 : Int → Bool → (List (List D)) → (List (List D)) → Int → Int → Int → Option R) : Nat → Int → (List (List D)) → (List (List D)) → Int → Int → Int → Option R
  | 0, _, _, _, _, _, _ => none
  | m + 1, h12, h13, h14, h15, h16, h17 =>
    railplan_platform_Assign_1_s1_p4 n Fr a0 w7 w8 h12 h13 h14 h15 h16 h17
      (fun w58 w59 w60 w61 w62 w63 =>
      k0 w58 w59 w60 w61 w62 w63)
      (fun w64 w65 w66 w67 w68 w69 =>
      railplan_platform_Assign_1_s1_r5 n Fr a0 w7 w8 k0 k1 m w64 w65 w66 w67 w68 w69)
      (fun w70 =>
      k1 h12 w70 h13 h14 h15 h16 h17)
def railplan_platform_Assign_1_s1_p5 {R : Type} (n : Nat) (Fr : Int → (List (List D)) → Int → Int → Int → (List (List D)) → Option (Int × (List (List D)) × Int × Int × Int × (List (List D)))) (a0 : Int) (w7 : List (List D)) (w8 : Int) (q5 : List (List D)) (b0_0 : List (List D)) (b1_0 : Int) (b2_0 : Int) (b3_0 : Int) (k0 : Int → (List (List D)) → (List (List D)) → Int → Int → Int → Option R) (k1 : Int → Bool → (List (List D)) → (List (List D)) → Int → Int → Int → Option R) : Option R := railplan_platform_Assign_1_s1_r5 n Fr a0 w7 w8 k0 k1 n (0 : Int) q5 b0_0 b1_0 b2_0 b3_0
def railplan_platform_Assign_1_s1_p6 {R : Type} (n : Nat) (Fr : Int → (List (List D)) → Int → Int → Int → (List (List D)) → Option (Int × (List (List D)) × Int × Int × Int × (List (List D)))) (a0 : Int) (w7 : List (List D)) (w8 : Int) (q5 : List (List D)) (b0_0 : List (List D)) (b1_0 : Int) (b2_0 : Int) (b3_0 : Int) (k0 : Int → (List (List D)) → (List (List D)) → Int → Int → Int → Option R) (k1 : Int → Bool → (List (List D)) → (List (List D)) → Int → Int → Int → Option R) : Option R :=
  railplan_platform_Assign_1_s1_p5 n Fr a0 w7 w8 q5 b0_0 b1_0 b2_0 b3_0
    (fun w71 w72 w73 w74 w75 w76 =>
    k0 w71 w72 w73 w74 w75 w76)
    (fun w77 w78 w79 w80 w81 w82 w83 =>
    k1 w77 w78 w79 w80 w81 w82 w83)
def railplan_platform_Assign_1_s1_p7 {R : Type} (n : Nat) (Fr : Int → (List (List D)) → Int → Int → Int → (List (List D)) → Option (Int × (List (List D)) × Int × Int × Int × (List (List D)))) (a0 : Int) (w2 : Bool) (q5 : List (List D)) (b0_0 : List (List D)) (b1_0 : Int) (b2_0 : Int) (b3_0 : Int) (k0 : Int → (List (List D)) → (List (List D)) → Int → Int → Int → Option R) (k1 : (List (List D)) → Int → Int → Bool → (List (List D)) → (List (List D)) → Int → Int → Int → Option R) : Option R :=
  railplan_platform_Assign_1_s1_p3 n Fr a0 w2 q5 b0_0 b1_0 b2_0 b3_0
    (fun w7 w8 =>
    railplan_platform_Assign_1_s1_p6 n Fr a0 w7 w8 q5 b0_0 b1_0 b2_0 b3_0
      (fun w84 w85 w86 w87 w88 w89 =>
      k0 w84 w85 w86 w87 w88 w89)
      (fun w90 w91 w92 w93 w94 w95 w96 =>
      k1 w7 w8 w90 w91 w92 w93 w94 w95 w96))
def railplan_platform_Assign_1_s1_p8 {R : Type} (n : Nat) (Fr : Int → (List (List D)) → Int → Int → Int → (List (List D)) → Option (Int × (List (List D)) × Int × Int × Int × (List (List D)))) (a0 : Int) (w103 : List (List D)) (w104 : Int) (w105 : Int) (w106 : Bool) (w107 : List (List D)) (w108 : List (List D)) (w109 : Int) (w110 : Int) (w111 : Int) (k0 : Option R) : Option R :=
  k0
def railplan_platform_Assign_1_s1_p9 {R : Type} (n : Nat) (Fr : Int → (List (List D)) → Int → Int → Int → (List (List D)) → Option (Int × (List (List D)) × Int × Int × Int × (List (List D)))) (a0 : Int) (w2 : Bool) (q5 : List (List D)) (b0_0 : List (List D)) (b1_0 : Int) (b2_0 : Int) (b3_0 : Int) (k0 : Int → (List (List D)) → (List (List D)) → Int → Int → Int → Option R) : Option R :=
  railplan_platform_Assign_1_s1_p7 n Fr a0 w2 q5 b0_0 b1_0 b2_0 b3_0
    (fun w97 w98 w99 w100 w101 w102 =>
    k0 w97 w98 w99 w100 w101 w102)
    (fun w103 w104 w105 w106 w107 w108 w109 w110 w111 =>
    railplan_platform_Assign_1_s1_p8 n Fr a0 w103 w104 w105 w106 w107 w108 w109 w110 w111
      (k0 (14 : Int) w107 w108 w109 w110 w111))
def railplan_platform_Assign_1_s1_p10 {R : Type} (n : Nat) (Fr : Int → (List (List D)) → Int → Int → Int → (List (List D)) → Option (Int × (List (List D)) × Int × Int × Int × (List (List D)))) (a0 : Int) (b0_0 : List (List D)) (b1_0 : Int) (b2_0 : Int) (b3_0 : Int) (q5 : List (List D)) (k0 : Int → (List (List D)) → (List (List D)) → Int → Int → Int → Option R) : Option R :=
  railplan_platform_Assign_1_s1_p2 n Fr a0 b0_0 b1_0 b2_0 b3_0 q5
    (k0 (0 : Int) q5 b0_0 b1_0 b2_0 b3_0)
    (fun w2 =>
    railplan_platform_Assign_1_s1_p9 n Fr a0 w2 q5 b0_0 b1_0 b2_0 b3_0
      (fun w118 w119 w120 w121 w122 w123 =>
      k0 w118 w119 w120 w121 w122 w123))
def railplan_platform_Assign_1_s1_p11 {R : Type} (n : Nat) (Fr : Int → (List (List D)) → Int → Int → Int → (List (List D)) → Option (Int × (List (List D)) × Int × Int × Int × (List (List D)))) (a0 : Int) (b0_0 : List (List D)) (b1_0 : Int) (b2_0 : Int) (b3_0 : Int) (q5 : List (List D)) (k0 : Int → (List (List D)) → (List (List D)) → Int → Int → Int → Option R) : Option R :=
  railplan_platform_Assign_1_s1_p1 n Fr a0 b0_0 b1_0 b2_0 b3_0 q5
    (railplan_platform_Assign_1_s1_p10 n Fr a0 b0_0 b1_0 b2_0 b3_0 q5
      (fun w130 w131 w132 w133 w134 w135 =>
      k0 w130 w131 w132 w133 w134 w135))
def railplan_platform_Assign_1_s1 {R : Type} (n : Nat) (Fr : Int → (List (List D)) → Int → Int → Int → (List (List D)) → Option (Int × (List (List D)) × Int × Int × Int × (List (List D)))) (a0 : Int) (b0_0 : List (List D)) (b1_0 : Int) (b2_0 : Int) (b3_0 : Int) (q5 : List (List D)) (K : Int → (List (List D)) → Int → Int → Int → (List (List D)) → Option R) : Option R :=
  railplan_platform_Assign_1_s1_p11 n Fr a0 b0_0 b1_0 b2_0 b3_0 q5
    (fun w130 w131 w132 w133 w134 w135 => K w130 w132 w133 w134 w135 w131)
def railplan_platform_Assign_1_s1_F (n : Nat) : Nat → Int → (List (List D)) → Int → Int → Int → (List (List D)) → Option (Int × (List (List D)) × Int × Int × Int × (List (List D)))
  | 0, _, _, _, _, _, _ => none
  | d + 1, a0, b0_0, b1_0, b2_0, b3_0, q5 => railplan_platform_Assign_1_s1 n (railplan_platform_Assign_1_s1_F n d) a0 b0_0 b1_0 b2_0 b3_0 q5 (fun r0 r1 r2 r3 r4 r5 => some (r0, r1, r2, r3, r4, r5))
end Go.Vx
/-
  platform_Assign: the pure function
-/
set_option linter.unusedVariables false
namespace Go.Vx
def platform_Assign_p1 {R : Type} (n : Nat) (a0 : Int) (a1 : List (List D)) (a2 : Int) (k0 : Int → Int → Option R) (k1 : Int → (List (List D)) → Option R) : Option R :=
  gb true (platform_Valid n a0 a1 some) false fun r1 =>
  bif (!r1) then
    k0 (0 : Int) (1 : Int)
  else
    bif (bif (decide (a2 < (1 : Int))) then true else (decide (a2 > (1048576 : Int)))) then
      k0 (0 : Int) (4 : Int)
    else
      gb true (bif decide (0 ≤ ((List.length a1 : Nat) : Int)) && decide (((List.length a1 : Nat) : Int) ≤ ((List.length a1 : Nat) : Int)) then some () else none) () fun u2 =>
      gb true (room (Int.toNat ((List.length a1 : Nat) : Int) * 8)) () fun u3 =>
      gb true (railplan_platform_Assign_1_s1_F n n (0 : Int) a1 (0 : Int) a2 a0 (List.replicate (Int.toNat ((List.length a1 : Nat) : Int)) [D.int .i64 (0 : Int)])) (0, [], 0, 0, 0, []) fun r4 =>
      bif (r4.1 == (0 : Int)) then
        k1 r4.2.2.1 r4.2.2.2.2.2
      else
        bif (r4.1 == (14 : Int)) then
          k0 r4.2.2.1 r4.1
        else
          k0 (0 : Int) r4.1
def platform_Assign {R : Type} (n : Nat) (a0 : Int) (a1 : List (List D)) (a2 : Int) (K : (List (List D)) → Int → Int → Option R) : Option R :=
  platform_Assign_p1 n a0 a1 a2
    (fun z5 z6 => K [] z5 z6)
    (fun z7 z8 => K z8 z7 (0 : Int))
end Go.Vx
/-
  platform_Overlap: the pure function
-/
set_option linter.unusedVariables false
namespace Go.Vx
def platform_Overlap_p1 {R : Type} (n : Nat) (a0 : Int) (a1_0 : Int) (a1_1 : Int) (a1_2 : List (List D)) (a2_0 : Int) (a2_1 : Int) (a2_2 : List (List D)) (k0 : Bool → Option R) : Option R :=
  gb true (platform_Valid n a0 [[D.int .i64 a1_0, D.int .i64 a1_1, D.sl 1 a1_2], [D.int .i64 a2_0, D.int .i64 a2_1, D.sl 1 a2_2]] some) false fun r1 =>
  gb r1 (platform_overlap n a0 a1_0 a1_1 a1_2 a2_0 a2_1 a2_2 some) false fun r2 =>
  k0 (bif r1 then r2 else false)
def platform_Overlap {R : Type} (n : Nat) (a0 : Int) (a1_0 : Int) (a1_1 : Int) (a1_2 : List (List D)) (a2_0 : Int) (a2_1 : Int) (a2_2 : List (List D)) (K : Bool → Option R) : Option R :=
  platform_Overlap_p1 n a0 a1_0 a1_1 a1_2 a2_0 a2_1 a2_2
    (fun z3 => K z3)
end Go.Vx
/-
  keep_Same_int: the pure function
-/
set_option linter.unusedVariables false
namespace Go.Vx
def keep_Same_int_p1 {R : Type} (n : Nat) (a0 : List (List D)) (a1 : List (List D)) (k0 : Option R) : Option R :=
  k0
def keep_Same_int_p2 {R : Type} (n : Nat) (a0 : List (List D)) (a1 : List (List D)) (k0 : Option R) (k1 : Bool → Option R) : Option R :=
  bif (((List.length a0 : Nat) : Int) != ((List.length a1 : Nat) : Int)) then
    k0
  else
    k1 (((List.length a0 : Nat) : Int) != ((List.length a1 : Nat) : Int))
def keep_Same_int_p3 {R : Type} (n : Nat) (a0 : List (List D)) (a1 : List (List D)) (w2 : Bool) (k0 : Int → Option R) : Option R :=
  k0 ((List.length a0 : Nat) : Int)
def keep_Same_int_p4 {R : Type} (n : Nat) (a0 : List (List D)) (a1 : List (List D)) (w4 : Int) (h8 : Int) (k0 : Option R) (k1 : Int → Option R) (k2 : Bool → Option R) : Option R :=
  bif (decide (h8 < w4)) then
    gb true (rowAt a0 h8) [] fun r17 =>
    gb true (r17[0]?) (.bool false) fun c18 =>
    gb true (pInt .i64 c18) 0 fun i19 =>
    gb true (rowAt a1 h8) [] fun r20 =>
    gb true (r20[0]?) (.bool false) fun c21 =>
    gb true (pInt .i64 c21) 0 fun i22 =>
    bif (i19 != i22) then
      k0
    else
      k1 (IntKind.wrap .i64 (h8 + (1 : Int)))
  else
    k2 (decide (h8 < w4))
def keep_Same_int_r5 {R : Type} (n : Nat) (a0 : List (List D)) (a1 : List (List D)) (w4 : Int) (k0 : Option R) (k1 : Int → Bool → Option R) : Nat → Int → Option R
  | 0, _ => none
  | m + 1, h8 =>
    keep_Same_int_p4 n a0 a1 w4 h8
      (k0)
      (fun w25 =>
      keep_Same_int_r5 n a0 a1 w4 k0 k1 m w25)
      (fun w26 =>
      k1 h8 w26)
def keep_Same_int_p5 {R : Type} (n : Nat) (a0 : List (List D)) (a1 : List (List D)) (w4 : Int) (k0 : Option R) (k1 : Int → Bool → Option R) : Option R := keep_Same_int_r5 n a0 a1 w4 k0 k1 n (0 : Int)
def keep_Same_int_p6 {R : Type} (n : Nat) (a0 : List (List D)) (a1 : List (List D)) (w4 : Int) (k0 : Option R) (k1 : Int → Bool → Option R) : Option R :=
  keep_Same_int_p5 n a0 a1 w4
    (k0)
    (fun w27 w28 =>
    k1 w27 w28)
def keep_Same_int_p7 {R : Type} (n : Nat) (a0 : List (List D)) (a1 : List (List D)) (w2 : Bool) (k0 : Option R) (k1 : Int → Int → Bool → Option R) : Option R :=
  keep_Same_int_p3 n a0 a1 w2
    (fun w4 =>
    keep_Same_int_p6 n a0 a1 w4
      (k0)
      (fun w29 w30 =>
      k1 w4 w29 w30))
def keep_Same_int_p8 {R : Type} (n : Nat) (a0 : List (List D)) (a1 : List (List D)) (w31 : Int) (w32 : Int) (w33 : Bool) (k0 : Option R) : Option R :=
  k0
def keep_Same_int_p9 {R : Type} (n : Nat) (a0 : List (List D)) (a1 : List (List D)) (w2 : Bool) (k0 : Bool → Option R) : Option R :=
  keep_Same_int_p7 n a0 a1 w2
    (k0 false)
    (fun w31 w32 w33 =>
    keep_Same_int_p8 n a0 a1 w31 w32 w33
      (k0 true))
def keep_Same_int_p10 {R : Type} (n : Nat) (a0 : List (List D)) (a1 : List (List D)) (k0 : Bool → Option R) : Option R :=
  keep_Same_int_p2 n a0 a1
    (k0 false)
    (fun w2 =>
    keep_Same_int_p9 n a0 a1 w2
      (fun w35 =>
      k0 w35))
def keep_Same_int_p11 {R : Type} (n : Nat) (a0 : List (List D)) (a1 : List (List D)) (k0 : Bool → Option R) : Option R :=
  keep_Same_int_p1 n a0 a1
    (keep_Same_int_p10 n a0 a1
      (fun w37 =>
      k0 w37))
def keep_Same_int {R : Type} (n : Nat) (a0 : List (List D)) (a1 : List (List D)) (K : Bool → Option R) : Option R :=
  keep_Same_int_p11 n a0 a1
    (fun w37 => K w37)
end Go.Vx
/-
  slices_Index_int_int: the pure function
-/
set_option linter.unusedVariables false
namespace Go.Vx
def slices_Index_int_int_p1 {R : Type} (n : Nat) (a0 : List (List D)) (a1 : Int) (k0 : Option R) : Option R :=
  k0
def slices_Index_int_int_p2 {R : Type} (n : Nat) (a0 : List (List D)) (a1 : Int) (k0 : Int → Option R) : Option R :=
  k0 ((List.length a0 : Nat) : Int)
def slices_Index_int_int_p3 {R : Type} (n : Nat) (a0 : List (List D)) (a1 : Int) (w2 : Int) (h6 : Int) (k0 : Option R) (k1 : Int → Option R) (k2 : Bool → Option R) : Option R :=
  bif (decide (h6 < w2)) then
    gb true (rowAt a0 h6) [] fun r12 =>
    gb true (r12[0]?) (.bool false) fun c13 =>
    gb true (pInt .i64 c13) 0 fun i14 =>
    bif (a1 == i14) then
      k0
    else
      k1 (IntKind.wrap .i64 (h6 + (1 : Int)))
  else
    k2 (decide (h6 < w2))
def slices_Index_int_int_r4 {R : Type} (n : Nat) (a0 : List (List D)) (a1 : Int) (w2 : Int) (k0 : Int → Option R) (k1 : Int → Bool → Option R) : Nat → Int → Option R
  | 0, _ => none
  | m + 1, h6 =>
    slices_Index_int_int_p3 n a0 a1 w2 h6
      (k0 h6)
      (fun w17 =>
      slices_Index_int_int_r4 n a0 a1 w2 k0 k1 m w17)
      (fun w18 =>
      k1 h6 w18)
def slices_Index_int_int_p4 {R : Type} (n : Nat) (a0 : List (List D)) (a1 : Int) (w2 : Int) (k0 : Int → Option R) (k1 : Int → Bool → Option R) : Option R := slices_Index_int_int_r4 n a0 a1 w2 k0 k1 n (0 : Int)
def slices_Index_int_int_p5 {R : Type} (n : Nat) (a0 : List (List D)) (a1 : Int) (w2 : Int) (k0 : Int → Option R) (k1 : Int → Bool → Option R) : Option R :=
  slices_Index_int_int_p4 n a0 a1 w2
    (fun w19 =>
    k0 w19)
    (fun w20 w21 =>
    k1 w20 w21)
def slices_Index_int_int_p6 {R : Type} (n : Nat) (a0 : List (List D)) (a1 : Int) (k0 : Int → Option R) (k1 : Int → Int → Bool → Option R) : Option R :=
  slices_Index_int_int_p2 n a0 a1
    (fun w2 =>
    slices_Index_int_int_p5 n a0 a1 w2
      (fun w22 =>
      k0 w22)
      (fun w23 w24 =>
      k1 w2 w23 w24))
def slices_Index_int_int_p7 {R : Type} (n : Nat) (a0 : List (List D)) (a1 : Int) (w26 : Int) (w27 : Int) (w28 : Bool) (k0 : Option R) : Option R :=
  k0
def slices_Index_int_int_p8 {R : Type} (n : Nat) (a0 : List (List D)) (a1 : Int) (k0 : Int → Option R) : Option R :=
  slices_Index_int_int_p6 n a0 a1
    (fun w25 =>
    k0 w25)
    (fun w26 w27 w28 =>
    slices_Index_int_int_p7 n a0 a1 w26 w27 w28
      (k0 (-1 : Int)))
def slices_Index_int_int_p9 {R : Type} (n : Nat) (a0 : List (List D)) (a1 : Int) (k0 : Int → Option R) : Option R :=
  slices_Index_int_int_p1 n a0 a1
    (slices_Index_int_int_p8 n a0 a1
      (fun w30 =>
      k0 w30))
def slices_Index_int_int {R : Type} (n : Nat) (a0 : List (List D)) (a1 : Int) (K : Int → Option R) : Option R :=
  slices_Index_int_int_p9 n a0 a1
    (fun w30 => K w30)
end Go.Vx
/-
  slices_Contains_int_int: the pure function
-/
set_option linter.unusedVariables false
namespace Go.Vx
def slices_Contains_int_int_p1 {R : Type} (n : Nat) (a0 : List (List D)) (a1 : Int) (k0 : Bool → Option R) : Option R :=
  gb true (slices_Index_int_int n a0 a1 some) 0 fun r1 =>
  k0 (decide (r1 ≥ (0 : Int)))
def slices_Contains_int_int {R : Type} (n : Nat) (a0 : List (List D)) (a1 : Int) (K : Bool → Option R) : Option R :=
  slices_Contains_int_int_p1 n a0 a1
    (fun z2 => K z2)
end Go.Vx
/-
  platform_Proper: the pure function
-/
set_option linter.unusedVariables false
namespace Go.Vx
def platform_Proper_p1 {R : Type} (n : Nat) (a0 : Int) (a1 : List (List D)) (a2 : List (List D)) (k0 : Option R) : Option R :=
  k0
def platform_Proper_p2 {R : Type} (n : Nat) (a0 : Int) (a1 : List (List D)) (a2 : List (List D)) (k0 : Option R) (k1 : Bool → Option R) : Option R :=
  gb true (platform_Valid n a0 a1 some) false fun r1 =>
  bif (bif (!r1) then true else (((List.length a2 : Nat) : Int) != ((List.length a1 : Nat) : Int))) then
    k0
  else
    k1 (bif (!r1) then true else (((List.length a2 : Nat) : Int) != ((List.length a1 : Nat) : Int)))
def platform_Proper_p3 {R : Type} (n : Nat) (a0 : Int) (a1 : List (List D)) (a2 : List (List D)) (w3 : Bool) (k0 : Int → Option R) : Option R :=
  k0 ((List.length a2 : Nat) : Int)
def platform_Proper_p4 {R : Type} (n : Nat) (a0 : Int) (a1 : List (List D)) (a2 : List (List D)) (w5 : Int) (h11 : Int) (k0 : Option R) (k1 : Int → Option R) (k2 : Bool → Option R) : Option R :=
  bif (decide (h11 < w5)) then
    gb true (rowAt a2 h11) [] fun r22 =>
    gb true (r22[0]?) (.bool false) fun c23 =>
    gb true (pInt .i64 c23) 0 fun i24 =>
    gb true (rowAt a1 h11) [] fun r25 =>
    gb true (r25[2]?) (.bool false) fun c26 =>
    gb true (pSl 1 c26) [] fun l27 =>
    gb true (slices_Contains_int_int n l27 i24 some) false fun r28 =>
    bif (!r28) then
      k0
    else
      gb true (platform_fits n a0 a1 a2 h11 i24 some) false fun r29 =>
      bif (!r29) then
        k0
      else
        k1 (IntKind.wrap .i64 (h11 + (1 : Int)))
  else
    k2 (decide (h11 < w5))
def platform_Proper_r5 {R : Type} (n : Nat) (a0 : Int) (a1 : List (List D)) (a2 : List (List D)) (w5 : Int) (k0 : Option R) (k1 : Int → Bool → Option R) : Nat → Int → Option R
  | 0, _ => none
  | m + 1, h11 =>
    platform_Proper_p4 n a0 a1 a2 w5 h11
      (k0)
      (fun w32 =>
      platform_Proper_r5 n a0 a1 a2 w5 k0 k1 m w32)
      (fun w33 =>
      k1 h11 w33)
def platform_Proper_p5 {R : Type} (n : Nat) (a0 : Int) (a1 : List (List D)) (a2 : List (List D)) (w5 : Int) (k0 : Option R) (k1 : Int → Bool → Option R) : Option R := platform_Proper_r5 n a0 a1 a2 w5 k0 k1 n (0 : Int)
def platform_Proper_p6 {R : Type} (n : Nat) (a0 : Int) (a1 : List (List D)) (a2 : List (List D)) (w5 : Int) (k0 : Option R) (k1 : Int → Bool → Option R) : Option R :=
  platform_Proper_p5 n a0 a1 a2 w5
    (k0)
    (fun w34 w35 =>
    k1 w34 w35)
def platform_Proper_p7 {R : Type} (n : Nat) (a0 : Int) (a1 : List (List D)) (a2 : List (List D)) (w3 : Bool) (k0 : Option R) (k1 : Int → Int → Bool → Option R) : Option R :=
  platform_Proper_p3 n a0 a1 a2 w3
    (fun w5 =>
    platform_Proper_p6 n a0 a1 a2 w5
      (k0)
      (fun w36 w37 =>
      k1 w5 w36 w37))
def platform_Proper_p8 {R : Type} (n : Nat) (a0 : Int) (a1 : List (List D)) (a2 : List (List D)) (w38 : Int) (w39 : Int) (w40 : Bool) (k0 : Option R) : Option R :=
  k0
def platform_Proper_p9 {R : Type} (n : Nat) (a0 : Int) (a1 : List (List D)) (a2 : List (List D)) (w3 : Bool) (k0 : Bool → Option R) : Option R :=
  platform_Proper_p7 n a0 a1 a2 w3
    (k0 false)
    (fun w38 w39 w40 =>
    platform_Proper_p8 n a0 a1 a2 w38 w39 w40
      (k0 true))
def platform_Proper_p10 {R : Type} (n : Nat) (a0 : Int) (a1 : List (List D)) (a2 : List (List D)) (k0 : Bool → Option R) : Option R :=
  platform_Proper_p2 n a0 a1 a2
    (k0 false)
    (fun w3 =>
    platform_Proper_p9 n a0 a1 a2 w3
      (fun w42 =>
      k0 w42))
def platform_Proper_p11 {R : Type} (n : Nat) (a0 : Int) (a1 : List (List D)) (a2 : List (List D)) (k0 : Bool → Option R) : Option R :=
  platform_Proper_p1 n a0 a1 a2
    (platform_Proper_p10 n a0 a1 a2
      (fun w44 =>
      k0 w44))
def platform_Proper {R : Type} (n : Nat) (a0 : Int) (a1 : List (List D)) (a2 : List (List D)) (K : Bool → Option R) : Option R :=
  platform_Proper_p11 n a0 a1 a2
    (fun w44 => K w44)
end Go.Vx
/-
  law20_PlatformExamples: the pure function
-/
set_option linter.unusedVariables false
namespace Go.Vx
def law20_PlatformExamples_p1 {R : Type} (n : Nat)  (k0 : Bool → Option R) : Option R :=
  gb true (law20_two n  some) [] fun r1 =>
  gb true (platform_Assign n (10 : Int) r1 (100 : Int) (fun r0 r1 r2 => some (r0, r1, r2))) ([], 0, 0) fun r2 =>
  gb true (law20_two n  some) [] fun r3 =>
  gb true (rowAt r3 (0 : Int)) [] fun r4 =>
  gb true (r4[0]?) (.bool false) fun c5 =>
  gb true (r4[1]?) (.bool false) fun c6 =>
  gb true (r4[2]?) (.bool false) fun c7 =>
  gb true (law20_two n  some) [] fun r8 =>
  gb true (rowAt r8 (1 : Int)) [] fun r9 =>
  gb true (r9[0]?) (.bool false) fun c10 =>
  gb true (r9[1]?) (.bool false) fun c11 =>
  gb true (r9[2]?) (.bool false) fun c12 =>
  gb true (pInt .i64 c5) 0 fun i13 =>
  gb true (pInt .i64 c6) 0 fun i14 =>
  gb true (pSl 1 c7) [] fun l15 =>
  gb true (pInt .i64 c10) 0 fun i16 =>
  gb true (pInt .i64 c11) 0 fun i17 =>
  gb true (pSl 1 c12) [] fun l18 =>
  gb true (platform_Overlap n (10 : Int) i13 i14 l15 i16 i17 l18 some) false fun r19 =>
  gb (bif (bif r19 then (r2.2.2 == (0 : Int)) else false) then (r2.2.1 == (4 : Int)) else false) (keep_Same_int n r2.1 [[D.int .i64 (2 : Int)], [D.int .i64 (1 : Int)]] some) false fun r20 =>
  gb (bif (bif (bif r19 then (r2.2.2 == (0 : Int)) else false) then (r2.2.1 == (4 : Int)) else false) then r20 else false) (law20_two n  some) [] fun r21 =>
  gb (bif (bif (bif r19 then (r2.2.2 == (0 : Int)) else false) then (r2.2.1 == (4 : Int)) else false) then r20 else false) (platform_Proper n (10 : Int) r21 r2.1 some) false fun r22 =>
  k0 (bif (bif (bif (bif r19 then (r2.2.2 == (0 : Int)) else false) then (r2.2.1 == (4 : Int)) else false) then r20 else false) then r22 else false)
def law20_PlatformExamples {R : Type} (n : Nat)  (K : Bool → Option R) : Option R :=
  law20_PlatformExamples_p1 n 
    (fun z23 => K z23)
end Go.Vx
