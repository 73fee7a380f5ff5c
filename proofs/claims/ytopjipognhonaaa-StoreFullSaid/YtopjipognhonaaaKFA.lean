/- Part of a proof: texts Vfkeep Pick Vfkeep Source Next Vfstore check Vfstore number Vflayoutbin Sum Vfstore Encode Vfref41 four Vfref1 Crc Vfref41 Encode Vfstore value Vfref41 value Vfinternal stringslite. No conditions of their own. -/
import Derived.Test.YtopjipognhonaaaKVA
import Derived.Test.YtopjipognhonaaaKVC
/-
  keep_Pick: the pure function
-/
set_option linter.unusedVariables false
namespace Go.Vx
def keep_Pick_p1 {R : Type} (n : Nat) (a0 : Int) (a1 : Int) (k0 : Int → Option R) : Option R :=
  gb true (nz (IntKind.wrap .u64 a1)) () fun u1 =>
  k0 (IntKind.wrap .i64 (Int.tmod (IntKind.wrap .u64 a0) (IntKind.wrap .u64 a1)))
def keep_Pick {R : Type} (n : Nat) (a0 : Int) (a1 : Int) (K : Int → Option R) : Option R :=
  keep_Pick_p1 n a0 a1
    (fun z2 => K z2)
end Go.Vx
/-
  keep_Source_Next: the pure function
-/
set_option linter.unusedVariables false
namespace Go.Vx
def keep_Source_Next_p1 {R : Type} (n : Nat) (a1 : Int) (a0_0 : List (List D)) (a0_1 : Int) (k0 : Int → Int → Option R) : Option R :=
  bif (decide (a0_1 ≥ ((List.length a0_0 : Nat) : Int))) then
    k0 (0 : Int) a0_1
  else
    gb true (rowAt a0_0 (IntKind.wrap .i64 ((IntKind.wrap .i64 (a0_1 + (1 : Int))) - (1 : Int)))) [] fun r1 =>
    gb true (r1[0]?) (.bool false) fun c2 =>
    gb true (pInt .i64 c2) 0 fun i3 =>
    gb true (keep_Pick n i3 a1 some) 0 fun r4 =>
    k0 r4 (IntKind.wrap .i64 (a0_1 + (1 : Int)))
def keep_Source_Next {R : Type} (n : Nat) (a0_0 : List (List D)) (a0_1 : Int) (a1 : Int) (K : Int → (List (List D)) → Int → Option R) : Option R :=
  keep_Source_Next_p1 n a1 a0_0 a0_1
    (fun z5 z6 => K z5 a0_0 z6)
end Go.Vx
/-
  store_check: the pure function
-/
set_option linter.unusedVariables false
namespace Go.Vx
def store_check_p1 {R : Type} (n : Nat) (a0_0 : Int) (a0_1 : List UInt8) (k0 : Int → Option R) : Option R :=
  bif (bif (decide (a0_0 < (1 : Int))) then true else (decide (a0_0 > (2147483647 : Int)))) then
    k0 (4 : Int)
  else
    bif (decide (((List.length a0_1 : Nat) : Int) > (65536 : Int))) then
      k0 (7 : Int)
    else
      k0 (0 : Int)
def store_check {R : Type} (n : Nat) (a0_0 : Int) (a0_1 : List UInt8) (K : Int → Option R) : Option R :=
  store_check_p1 n a0_0 a0_1
    (fun z1 => K z1)
end Go.Vx
/-
  store_number: the pure function
-/
set_option linter.unusedVariables false
namespace Go.Vx
def store_number_p1 {R : Type} (n : Nat) (a0 : Int) (k0 : (List UInt8) → Option R) : Option R :=
  gb true (nneg (24 : Int)) () fun u1 =>
  gb true (nneg (16 : Int)) () fun u2 =>
  gb true (nneg (8 : Int)) () fun u3 =>
  gb true (bytesOf [[D.int .u8 (IntKind.wrap .u8 (shR .u32 a0 (24 : Int)))], [D.int .u8 (IntKind.wrap .u8 (shR .u32 a0 (16 : Int)))], [D.int .u8 (IntKind.wrap .u8 (shR .u32 a0 (8 : Int)))], [D.int .u8 (IntKind.wrap .u8 a0)]]) [] fun s4 =>
  k0 s4
def store_number {R : Type} (n : Nat) (a0 : Int) (K : (List UInt8) → Option R) : Option R :=
  store_number_p1 n a0
    (fun s4 => K s4)
end Go.Vx
/-
  layoutbin_Sum: the pure function
-/
set_option linter.unusedVariables false
namespace Go.Vx
def layoutbin_Sum_p1 {R : Type} (n : Nat) (a0 : List UInt8) (k0 : Option R) : Option R :=
  k0
def layoutbin_Sum_p2 {R : Type} (n : Nat) (a0 : List UInt8) (k0 : Option R) : Option R :=
  k0
def layoutbin_Sum_p3 {R : Type} (n : Nat) (a0 : List UInt8) (k0 : Int → Option R) : Option R :=
  k0 ((List.length a0 : Nat) : Int)
def layoutbin_Sum_p4 {R : Type} (n : Nat) (a0 : List UInt8) (h4 : Int) (w2 : Int) (h6 : Int) (k0 : Bool → Option R) : Option R :=
  k0 (decide (h6 < w2))
def layoutbin_Sum_p5 {R : Type} (n : Nat) (a0 : List UInt8) (h4 : Int) (w2 : Int) (h6 : Int) (w53 : Bool) (k0 : Option R) (k1 : Option R) : Option R :=
  bif w53 then
    k0
  else
    k1
def layoutbin_Sum_p6 {R : Type} (n : Nat) (a0 : List UInt8) (h4 : Int) (w2 : Int) (h6 : Int) (w53 : Bool) (k0 : Option R) : Option R :=
  k0
def layoutbin_Sum_p7 {R : Type} (n : Nat) (a0 : List UInt8) (h4 : Int) (h6 : Int) (w2 : Int) (k0 : Int → Option R) : Option R :=
  gb true (byteAt a0 h6) 0 fun i54 =>
  k0 (bXor .u32 h4 (IntKind.wrap .u32 i54))
def layoutbin_Sum_p8 {R : Type} (n : Nat) (a0 : List UInt8) (w56 : Int) (w2 : Int) (h6 : Int) (k0 : Option R) : Option R :=
  k0
def layoutbin_Sum_p9 {R : Type} (n : Nat) (a0 : List UInt8) (h58 : Int) (w2 : Int) (h6 : Int) (h61 : Int) (k0 : Int → Int → Option R) (k1 : Bool → Option R) : Option R :=
  bif (decide (h61 < (8 : Int))) then
    gb true (nneg (1 : Int)) () fun u66 =>
    bif ((bAnd .u32 h58 (1 : Int)) == (1 : Int)) then
      k0 (bXor .u32 (shR .u32 h58 (1 : Int)) (3988292384 : Int)) (IntKind.wrap .i64 (h61 + (1 : Int)))
    else
      k0 (shR .u32 h58 (1 : Int)) (IntKind.wrap .i64 (h61 + (1 : Int)))
  else
    k1 (decide (h61 < (8 : Int)))
def layoutbin_Sum_r10 {R : Type} (n : Nat) (a0 : List UInt8) (w2 : Int) (h6 : Int) (k0 : Int → Int → Bool → Option R) : Nat → Int → Int → Option R
  | 0, _, _ => none
  | m + 1, h58, h61 =>
    layoutbin_Sum_p9 n a0 h58 w2 h6 h61
      (fun w70 w71 =>
      layoutbin_Sum_r10 n a0 w2 h6 k0 m w70 w71)
      (fun w72 =>
      k0 h58 h61 w72)
def layoutbin_Sum_p10 {R : Type} (n : Nat) (a0 : List UInt8) (w56 : Int) (w2 : Int) (h6 : Int) (k0 : Int → Int → Bool → Option R) : Option R := layoutbin_Sum_r10 n a0 w2 h6 k0 n w56 (0 : Int)
def layoutbin_Sum_p11 {R : Type} (n : Nat) (a0 : List UInt8) (w56 : Int) (w2 : Int) (h6 : Int) (k0 : Int → Int → Bool → Option R) : Option R :=
  layoutbin_Sum_p10 n a0 w56 w2 h6
    (fun w73 w74 w75 =>
    k0 w73 w74 w75)
def layoutbin_Sum_p12 {R : Type} (n : Nat) (a0 : List UInt8) (w56 : Int) (w2 : Int) (h6 : Int) (k0 : Int → Int → Bool → Option R) : Option R :=
  layoutbin_Sum_p8 n a0 w56 w2 h6
    (layoutbin_Sum_p11 n a0 w56 w2 h6
      (fun w76 w77 w78 =>
      k0 w76 w77 w78))
def layoutbin_Sum_p13 {R : Type} (n : Nat) (a0 : List UInt8) (h4 : Int) (h6 : Int) (w2 : Int) (k0 : Int → Int → Bool → Option R) : Option R :=
  layoutbin_Sum_p7 n a0 h4 h6 w2
    (fun w56 =>
    layoutbin_Sum_p12 n a0 w56 w2 h6
      (fun w79 w80 w81 =>
      k0 w79 w80 w81))
def layoutbin_Sum_p14 {R : Type} (n : Nat) (a0 : List UInt8) (h4 : Int) (w2 : Int) (h6 : Int) (w53 : Bool) (k0 : Int → Int → Bool → Option R) : Option R :=
  layoutbin_Sum_p6 n a0 h4 w2 h6 w53
    (layoutbin_Sum_p13 n a0 h4 h6 w2
      (fun w82 w83 w84 =>
      k0 w82 w83 w84))
def layoutbin_Sum_p15 {R : Type} (n : Nat) (a0 : List UInt8) (h4 : Int) (w2 : Int) (h6 : Int) (w53 : Bool) (k0 : Int → Int → Bool → Option R) : Option R :=
  layoutbin_Sum_p14 n a0 h4 w2 h6 w53
    (fun w85 w86 w87 =>
    k0 w85 w86 w87)
def layoutbin_Sum_p16 {R : Type} (n : Nat) (a0 : List UInt8) (w88 : Int) (w2 : Int) (h6 : Int) (w89 : Int) (w90 : Bool) (k0 : Int → Option R) : Option R :=
  k0 (IntKind.wrap .i64 (h6 + (1 : Int)))
def layoutbin_Sum_p17 {R : Type} (n : Nat) (a0 : List UInt8) (h4 : Int) (w2 : Int) (h6 : Int) (w53 : Bool) (k0 : Int → Int → Option R) : Option R :=
  layoutbin_Sum_p15 n a0 h4 w2 h6 w53
    (fun w88 w89 w90 =>
    layoutbin_Sum_p16 n a0 w88 w2 h6 w89 w90
      (fun w92 =>
      k0 w88 w92))
def layoutbin_Sum_p18 {R : Type} (n : Nat) (a0 : List UInt8) (h4 : Int) (w2 : Int) (h6 : Int) (w53 : Bool) (k0 : Int → Int → Option R) (k1 : Option R) : Option R :=
  layoutbin_Sum_p5 n a0 h4 w2 h6 w53
    (layoutbin_Sum_p17 n a0 h4 w2 h6 w53
      (fun w93 w94 =>
      k0 w93 w94))
    (k1)
def layoutbin_Sum_p19 {R : Type} (n : Nat) (a0 : List UInt8) (h4 : Int) (w2 : Int) (h6 : Int) (k0 : Int → Int → Option R) (k1 : Bool → Option R) : Option R :=
  layoutbin_Sum_p4 n a0 h4 w2 h6
    (fun w53 =>
    layoutbin_Sum_p18 n a0 h4 w2 h6 w53
      (fun w95 w96 =>
      k0 w95 w96)
      (k1 w53))
def layoutbin_Sum_r20 {R : Type} (n : Nat) (a0 : List UInt8) (w2 : Int) (k0 : Int → Int → Bool → Option R) : Nat → Int → Int → Option R
  | 0, _, _ => none
  | m + 1, h4, h6 =>
    layoutbin_Sum_p19 n a0 h4 w2 h6
      (fun w97 w98 =>
      layoutbin_Sum_r20 n a0 w2 k0 m w97 w98)
      (fun w99 =>
      k0 h4 h6 w99)
def layoutbin_Sum_p20 {R : Type} (n : Nat) (a0 : List UInt8) (w2 : Int) (k0 : Int → Int → Bool → Option R) : Option R := layoutbin_Sum_r20 n a0 w2 k0 n (4294967295 : Int) (0 : Int)
def layoutbin_Sum_p21 {R : Type} (n : Nat) (a0 : List UInt8) (w2 : Int) (k0 : Int → Int → Bool → Option R) : Option R :=
  layoutbin_Sum_p20 n a0 w2
    (fun w100 w101 w102 =>
    k0 w100 w101 w102)
def layoutbin_Sum_p22 {R : Type} (n : Nat) (a0 : List UInt8) (k0 : Int → Int → Int → Bool → Option R) : Option R :=
  layoutbin_Sum_p3 n a0
    (fun w2 =>
    layoutbin_Sum_p21 n a0 w2
      (fun w103 w104 w105 =>
      k0 w103 w2 w104 w105))
def layoutbin_Sum_p23 {R : Type} (n : Nat) (a0 : List UInt8) (w106 : Int) (w107 : Int) (w108 : Int) (w109 : Bool) (k0 : Int → Option R) : Option R :=
  k0 (cmplI .u32 w106)
def layoutbin_Sum_p24 {R : Type} (n : Nat) (a0 : List UInt8) (k0 : Int → Option R) : Option R :=
  layoutbin_Sum_p22 n a0
    (fun w106 w107 w108 w109 =>
    layoutbin_Sum_p23 n a0 w106 w107 w108 w109
      (fun w111 =>
      k0 w111))
def layoutbin_Sum_p25 {R : Type} (n : Nat) (a0 : List UInt8) (k0 : Int → Option R) : Option R :=
  layoutbin_Sum_p2 n a0
    (layoutbin_Sum_p24 n a0
      (fun w112 =>
      k0 w112))
def layoutbin_Sum_p26 {R : Type} (n : Nat) (a0 : List UInt8) (k0 : Int → Option R) : Option R :=
  layoutbin_Sum_p1 n a0
    (layoutbin_Sum_p25 n a0
      (fun w113 =>
      k0 w113))
def layoutbin_Sum {R : Type} (n : Nat) (a0 : List UInt8) (K : Int → Option R) : Option R :=
  layoutbin_Sum_p26 n a0
    (fun w113 => K w113)
end Go.Vx
/-
  store_Encode: the pure function
-/
set_option linter.unusedVariables false
namespace Go.Vx
def store_Encode_p1 {R : Type} (n : Nat) (a0_0 : Int) (a0_1 : List UInt8) (k0 : (List UInt8) → Int → Option R) : Option R :=
  gb true (store_check n a0_0 a0_1 some) 0 fun r1 =>
  bif (r1 != (0 : Int)) then
    k0 [] r1
  else
    gb true (store_number n (IntKind.wrap .u32 a0_0) some) [] fun r2 =>
    gb true (sumOk (List.length [80, 76, 65, 78] + List.length r2)) () fun u3 =>
    gb true (store_number n (IntKind.wrap .u32 ((List.length a0_1 : Nat) : Int)) some) [] fun r4 =>
    gb true (sumOk (List.length ([80, 76, 65, 78] ++ r2) + List.length r4)) () fun u5 =>
    gb true (sumOk (List.length (([80, 76, 65, 78] ++ r2) ++ r4) + List.length a0_1)) () fun u6 =>
    gb true (layoutbin_Sum n ((([80, 76, 65, 78] ++ r2) ++ r4) ++ a0_1) some) 0 fun r7 =>
    gb true (store_number n r7 some) [] fun r8 =>
    gb true (sumOk (List.length (([80, 76, 65, 78] ++ r2) ++ r4) + List.length r8)) () fun u9 =>
    gb true (sumOk (List.length ((([80, 76, 65, 78] ++ r2) ++ r4) ++ r8) + List.length a0_1)) () fun u10 =>
    k0 (((([80, 76, 65, 78] ++ r2) ++ r4) ++ r8) ++ a0_1) (0 : Int)
def store_Encode {R : Type} (n : Nat) (a0_0 : Int) (a0_1 : List UInt8) (K : (List UInt8) → Int → Option R) : Option R :=
  store_Encode_p1 n a0_0 a0_1
    (fun z11 z12 => K z11 z12)
end Go.Vx
/-
  ref41_four: the pure function
-/
set_option linter.unusedVariables false
namespace Go.Vx
def ref41_four_p1 {R : Type} (n : Nat) (a0 : Int) (k0 : (List UInt8) → Option R) : Option R :=
  gb true (nneg (24 : Int)) () fun u1 =>
  gb true (nneg (16 : Int)) () fun u2 =>
  gb true (nneg (8 : Int)) () fun u3 =>
  gb true (bytesOf [[D.int .u8 (IntKind.wrap .u8 (shR .i64 a0 (24 : Int)))], [D.int .u8 (IntKind.wrap .u8 (shR .i64 a0 (16 : Int)))], [D.int .u8 (IntKind.wrap .u8 (shR .i64 a0 (8 : Int)))], [D.int .u8 (IntKind.wrap .u8 a0)]]) [] fun s4 =>
  k0 s4
def ref41_four {R : Type} (n : Nat) (a0 : Int) (K : (List UInt8) → Option R) : Option R :=
  ref41_four_p1 n a0
    (fun s4 => K s4)
end Go.Vx
/-
  ref1_Crc: the pure function
-/
set_option linter.unusedVariables false
namespace Go.Vx
def ref1_Crc_p1 {R : Type} (n : Nat) (a0 : List UInt8) (k0 : Option R) : Option R :=
  k0
def ref1_Crc_p2 {R : Type} (n : Nat) (a0 : List UInt8) (k0 : Option R) : Option R :=
  k0
def ref1_Crc_p3 {R : Type} (n : Nat) (a0 : List UInt8) (k0 : Option R) : Option R :=
  k0
def ref1_Crc_p4 {R : Type} (n : Nat) (a0 : List UInt8) (h2 : Int) (h3 : Int) (k0 : Bool → Option R) (k1 : Bool → Option R) : Option R :=
  bif (decide (h3 < ((List.length a0 : Nat) : Int))) then
    k0 (decide (h3 < ((List.length a0 : Nat) : Int)))
  else
    k1 (decide (h3 < ((List.length a0 : Nat) : Int)))
def ref1_Crc_p5 {R : Type} (n : Nat) (a0 : List UInt8) (h2 : Int) (h3 : Int) (w49 : Bool) (k0 : Int → Option R) : Option R :=
  gb true (byteAt a0 h3) 0 fun i50 =>
  k0 (bXor .u32 h2 (IntKind.wrap .u32 i50))
def ref1_Crc_p6 {R : Type} (n : Nat) (a0 : List UInt8) (w52 : Int) (h3 : Int) (k0 : Option R) : Option R :=
  k0
def ref1_Crc_p7 {R : Type} (n : Nat) (a0 : List UInt8) (h54 : Int) (h3 : Int) (h56 : Int) (k0 : Int → Int → Option R) (k1 : Bool → Option R) : Option R :=
  bif (decide (h56 < (8 : Int))) then
    bif ((bAnd .u32 h54 (1 : Int)) == (1 : Int)) then
      gb true (nneg (1 : Int)) () fun u62 =>
      k0 (bXor .u32 (shR .u32 h54 (1 : Int)) (3988292384 : Int)) (IntKind.wrap .i64 (h56 + (1 : Int)))
    else
      gb true (nneg (1 : Int)) () fun u63 =>
      k0 (shR .u32 h54 (1 : Int)) (IntKind.wrap .i64 (h56 + (1 : Int)))
  else
    k1 (decide (h56 < (8 : Int)))
def ref1_Crc_r8 {R : Type} (n : Nat) (a0 : List UInt8) (h3 : Int) (k0 : Int → Int → Bool → Option R) : Nat → Int → Int → Option R
  | 0, _, _ => none
  | m + 1, h54, h56 =>
    ref1_Crc_p7 n a0 h54 h3 h56
      (fun w67 w68 =>
      ref1_Crc_r8 n a0 h3 k0 m w67 w68)
      (fun w69 =>
      k0 h54 h56 w69)
def ref1_Crc_p8 {R : Type} (n : Nat) (a0 : List UInt8) (w52 : Int) (h3 : Int) (k0 : Int → Int → Bool → Option R) : Option R := ref1_Crc_r8 n a0 h3 k0 n w52 (0 : Int)
def ref1_Crc_p9 {R : Type} (n : Nat) (a0 : List UInt8) (w52 : Int) (h3 : Int) (k0 : Int → Int → Bool → Option R) : Option R :=
  ref1_Crc_p8 n a0 w52 h3
    (fun w70 w71 w72 =>
    k0 w70 w71 w72)
def ref1_Crc_p10 {R : Type} (n : Nat) (a0 : List UInt8) (w52 : Int) (h3 : Int) (k0 : Int → Int → Bool → Option R) : Option R :=
  ref1_Crc_p6 n a0 w52 h3
    (ref1_Crc_p9 n a0 w52 h3
      (fun w73 w74 w75 =>
      k0 w73 w74 w75))
def ref1_Crc_p11 {R : Type} (n : Nat) (a0 : List UInt8) (h2 : Int) (h3 : Int) (w49 : Bool) (k0 : Int → Int → Bool → Option R) : Option R :=
  ref1_Crc_p5 n a0 h2 h3 w49
    (fun w52 =>
    ref1_Crc_p10 n a0 w52 h3
      (fun w76 w77 w78 =>
      k0 w76 w77 w78))
def ref1_Crc_p12 {R : Type} (n : Nat) (a0 : List UInt8) (h2 : Int) (h3 : Int) (w49 : Bool) (k0 : Int → Int → Bool → Option R) : Option R :=
  ref1_Crc_p11 n a0 h2 h3 w49
    (fun w79 w80 w81 =>
    k0 w79 w80 w81)
def ref1_Crc_p13 {R : Type} (n : Nat) (a0 : List UInt8) (w82 : Int) (h3 : Int) (w83 : Int) (w84 : Bool) (k0 : Int → Option R) : Option R :=
  k0 (IntKind.wrap .i64 (h3 + (1 : Int)))
def ref1_Crc_p14 {R : Type} (n : Nat) (a0 : List UInt8) (h2 : Int) (h3 : Int) (w49 : Bool) (k0 : Int → Int → Option R) : Option R :=
  ref1_Crc_p12 n a0 h2 h3 w49
    (fun w82 w83 w84 =>
    ref1_Crc_p13 n a0 w82 h3 w83 w84
      (fun w86 =>
      k0 w82 w86))
def ref1_Crc_p15 {R : Type} (n : Nat) (a0 : List UInt8) (h2 : Int) (h3 : Int) (k0 : Int → Int → Option R) (k1 : Bool → Option R) : Option R :=
  ref1_Crc_p4 n a0 h2 h3
    (fun w49 =>
    ref1_Crc_p14 n a0 h2 h3 w49
      (fun w87 w88 =>
      k0 w87 w88))
    (fun w89 =>
    k1 w89)
def ref1_Crc_r16 {R : Type} (n : Nat) (a0 : List UInt8) (k0 : Int → Int → Bool → Option R) : Nat → Int → Int → Option R
  | 0, _, _ => none
  | m + 1, h2, h3 =>
    ref1_Crc_p15 n a0 h2 h3
      (fun w90 w91 =>
      ref1_Crc_r16 n a0 k0 m w90 w91)
      (fun w92 =>
      k0 h2 h3 w92)
def ref1_Crc_p16 {R : Type} (n : Nat) (a0 : List UInt8) (k0 : Int → Int → Bool → Option R) : Option R := ref1_Crc_r16 n a0 k0 n (4294967295 : Int) (0 : Int)
def ref1_Crc_p17 {R : Type} (n : Nat) (a0 : List UInt8) (k0 : Int → Int → Bool → Option R) : Option R :=
  ref1_Crc_p16 n a0
    (fun w93 w94 w95 =>
    k0 w93 w94 w95)
def ref1_Crc_p18 {R : Type} (n : Nat) (a0 : List UInt8) (k0 : Int → Int → Bool → Option R) : Option R :=
  ref1_Crc_p3 n a0
    (ref1_Crc_p17 n a0
      (fun w96 w97 w98 =>
      k0 w96 w97 w98))
def ref1_Crc_p19 {R : Type} (n : Nat) (a0 : List UInt8) (w99 : Int) (w100 : Int) (w101 : Bool) (k0 : Int → Option R) : Option R :=
  k0 (cmplI .u32 w99)
def ref1_Crc_p20 {R : Type} (n : Nat) (a0 : List UInt8) (k0 : Int → Option R) : Option R :=
  ref1_Crc_p18 n a0
    (fun w99 w100 w101 =>
    ref1_Crc_p19 n a0 w99 w100 w101
      (fun w103 =>
      k0 w103))
def ref1_Crc_p21 {R : Type} (n : Nat) (a0 : List UInt8) (k0 : Int → Option R) : Option R :=
  ref1_Crc_p2 n a0
    (ref1_Crc_p20 n a0
      (fun w104 =>
      k0 w104))
def ref1_Crc_p22 {R : Type} (n : Nat) (a0 : List UInt8) (k0 : Int → Option R) : Option R :=
  ref1_Crc_p1 n a0
    (ref1_Crc_p21 n a0
      (fun w105 =>
      k0 w105))
def ref1_Crc {R : Type} (n : Nat) (a0 : List UInt8) (K : Int → Option R) : Option R :=
  ref1_Crc_p22 n a0
    (fun w105 => K w105)
end Go.Vx
/-
  ref41_Encode: the pure function
-/
set_option linter.unusedVariables false
namespace Go.Vx
def ref41_Encode_p1 {R : Type} (n : Nat) (a0_0 : Int) (a0_1 : List UInt8) (k0 : (List UInt8) → Int → Option R) : Option R :=
  bif (bif (decide (a0_0 < (1 : Int))) then true else (decide (a0_0 > (2147483647 : Int)))) then
    k0 [] (4 : Int)
  else
    bif (decide (((List.length a0_1 : Nat) : Int) > (65536 : Int))) then
      k0 [] (7 : Int)
    else
      gb true (ref41_four n a0_0 some) [] fun r1 =>
      gb true (sumOk (List.length [80, 76, 65, 78] + List.length r1)) () fun u2 =>
      gb true (ref41_four n ((List.length a0_1 : Nat) : Int) some) [] fun r3 =>
      gb true (sumOk (List.length ([80, 76, 65, 78] ++ r1) + List.length r3)) () fun u4 =>
      gb true (sumOk (List.length (([80, 76, 65, 78] ++ r1) ++ r3) + List.length a0_1)) () fun u5 =>
      gb true (ref1_Crc n ((([80, 76, 65, 78] ++ r1) ++ r3) ++ a0_1) some) 0 fun r6 =>
      gb true (ref41_four n (IntKind.wrap .i64 r6) some) [] fun r7 =>
      gb true (sumOk (List.length (([80, 76, 65, 78] ++ r1) ++ r3) + List.length r7)) () fun u8 =>
      gb true (sumOk (List.length ((([80, 76, 65, 78] ++ r1) ++ r3) ++ r7) + List.length a0_1)) () fun u9 =>
      k0 (((([80, 76, 65, 78] ++ r1) ++ r3) ++ r7) ++ a0_1) (0 : Int)
def ref41_Encode {R : Type} (n : Nat) (a0_0 : Int) (a0_1 : List UInt8) (K : (List UInt8) → Int → Option R) : Option R :=
  ref41_Encode_p1 n a0_0 a0_1
    (fun z10 z11 => K z10 z11)
end Go.Vx
/-
  store_value: the pure function
-/
set_option linter.unusedVariables false
namespace Go.Vx
def store_value_p1 {R : Type} (n : Nat) (a0 : List UInt8) (k0 : Option R) : Option R :=
  k0
def store_value_p2 {R : Type} (n : Nat) (a0 : List UInt8) (k0 : Option R) : Option R :=
  k0
def store_value_p3 {R : Type} (n : Nat) (a0 : List UInt8) (k0 : (List (List D)) → Int → Option R) : Option R :=
  gb true (slB (List.length a0) none (some (4 : Int))) (0, 0) fun q1 =>
  k0 (rowsB (cut a0 q1)) ((List.length (rowsB (cut a0 q1)) : Nat) : Int)
def store_value_p4 {R : Type} (n : Nat) (h6 : Int) (w4 : List (List D)) (w5 : Int) (h9 : Int) (k0 : Int → Int → Option R) (k1 : Bool → Option R) : Option R :=
  bif (decide (h9 < w5)) then
    gb true (rowAt w4 h9) [] fun r17 =>
    gb true (r17[0]?) (.bool false) fun c18 =>
    gb true (pInt .u8 c18) 0 fun i19 =>
    gb true (nneg (8 : Int)) () fun u20 =>
    k0 (bOr .i64 (shL .i64 h6 (8 : Int)) (IntKind.wrap .i64 i19)) (IntKind.wrap .i64 (h9 + (1 : Int)))
  else
    k1 (decide (h9 < w5))
def store_value_r5 {R : Type} (n : Nat) (w4 : List (List D)) (w5 : Int) (k0 : Int → Int → Bool → Option R) : Nat → Int → Int → Option R
  | 0, _, _ => none
  | m + 1, h6, h9 =>
    store_value_p4 n h6 w4 w5 h9
      (fun w24 w25 =>
      store_value_r5 n w4 w5 k0 m w24 w25)
      (fun w26 =>
      k0 h6 h9 w26)
def store_value_p5 {R : Type} (n : Nat) (w4 : List (List D)) (w5 : Int) (k0 : Int → Int → Bool → Option R) : Option R := store_value_r5 n w4 w5 k0 n (0 : Int) (0 : Int)
def store_value_p6 {R : Type} (n : Nat) (w4 : List (List D)) (w5 : Int) (k0 : Int → Int → Bool → Option R) : Option R :=
  store_value_p5 n w4 w5
    (fun w27 w28 w29 =>
    k0 w27 w28 w29)
def store_value_p7 {R : Type} (n : Nat) (a0 : List UInt8) (k0 : Int → (List (List D)) → Int → Int → Bool → Option R) : Option R :=
  store_value_p3 n a0
    (fun w4 w5 =>
    store_value_p6 n w4 w5
      (fun w30 w31 w32 =>
      k0 w30 w4 w5 w31 w32))
def store_value_p8 {R : Type} (n : Nat) (w33 : Int) (w34 : List (List D)) (w35 : Int) (w36 : Int) (w37 : Bool) (k0 : Option R) : Option R :=
  k0
def store_value_p9 {R : Type} (n : Nat) (a0 : List UInt8) (k0 : Int → Option R) : Option R :=
  store_value_p7 n a0
    (fun w33 w34 w35 w36 w37 =>
    store_value_p8 n w33 w34 w35 w36 w37
      (k0 w33))
def store_value_p10 {R : Type} (n : Nat) (a0 : List UInt8) (k0 : Int → Option R) : Option R :=
  store_value_p2 n a0
    (store_value_p9 n a0
      (fun w38 =>
      k0 w38))
def store_value_p11 {R : Type} (n : Nat) (a0 : List UInt8) (k0 : Int → Option R) : Option R :=
  store_value_p1 n a0
    (store_value_p10 n a0
      (fun w39 =>
      k0 w39))
def store_value {R : Type} (n : Nat) (a0 : List UInt8) (K : Int → Option R) : Option R :=
  store_value_p11 n a0
    (fun w39 => K w39)
end Go.Vx
/-
  ref41_value: the pure function
-/
set_option linter.unusedVariables false
namespace Go.Vx
def ref41_value_p1 {R : Type} (n : Nat) (a0 : List UInt8) (a1 : Int) (k0 : Int → Option R) : Option R :=
  gb true (byteAt a0 a1) 0 fun i1 =>
  gb true (nneg (24 : Int)) () fun u2 =>
  gb true (byteAt a0 (IntKind.wrap .i64 (a1 + (1 : Int)))) 0 fun i3 =>
  gb true (nneg (16 : Int)) () fun u4 =>
  gb true (byteAt a0 (IntKind.wrap .i64 (a1 + (2 : Int)))) 0 fun i5 =>
  gb true (nneg (8 : Int)) () fun u6 =>
  gb true (byteAt a0 (IntKind.wrap .i64 (a1 + (3 : Int)))) 0 fun i7 =>
  k0 (bOr .i64 (bOr .i64 (bOr .i64 (shL .i64 (IntKind.wrap .i64 i1) (24 : Int)) (shL .i64 (IntKind.wrap .i64 i3) (16 : Int))) (shL .i64 (IntKind.wrap .i64 i5) (8 : Int))) (IntKind.wrap .i64 i7))
def ref41_value {R : Type} (n : Nat) (a0 : List UInt8) (a1 : Int) (K : Int → Option R) : Option R :=
  ref41_value_p1 n a0 a1
    (fun z8 => K z8)
end Go.Vx
/-
  internal_stringslite_HasPrefix: the pure function
-/
set_option linter.unusedVariables false
namespace Go.Vx
def internal_stringslite_HasPrefix_p1 {R : Type} (n : Nat) (a0 : List UInt8) (a1 : List UInt8) (k0 : Bool → Option R) : Option R :=
  gb (decide (((List.length a0 : Nat) : Int) ≥ ((List.length a1 : Nat) : Int))) (slB (List.length a0) none (some ((List.length a1 : Nat) : Int))) (0, 0) fun q1 =>
  k0 (bif (decide (((List.length a0 : Nat) : Int) ≥ ((List.length a1 : Nat) : Int))) then ((cut a0 q1) == a1) else false)
def internal_stringslite_HasPrefix {R : Type} (n : Nat) (a0 : List UInt8) (a1 : List UInt8) (K : Bool → Option R) : Option R :=
  internal_stringslite_HasPrefix_p1 n a0 a1
    (fun z2 => K z2)
end Go.Vx
/-
  strings_HasPrefix: the pure function
-/
set_option linter.unusedVariables false
namespace Go.Vx
def strings_HasPrefix_p1 {R : Type} (n : Nat) (a0 : List UInt8) (a1 : List UInt8) (k0 : Bool → Option R) : Option R :=
  gb true (internal_stringslite_HasPrefix n a0 a1 some) false fun r1 =>
  k0 r1
def strings_HasPrefix {R : Type} (n : Nat) (a0 : List UInt8) (a1 : List UInt8) (K : Bool → Option R) : Option R :=
  strings_HasPrefix_p1 n a0 a1
    (fun r1 => K r1)
end Go.Vx
/-
  internal_stringslite_Clone: the pure function
-/
set_option linter.unusedVariables false
namespace Go.Vx
def internal_stringslite_Clone {R : Type} (n : Nat) (a0 : List UInt8) (K : List UInt8 → Option R) : Option R :=
  bif Nat.ble a0.length 281474976710656 then K a0 else none
end Go.Vx
/-
  strings_Clone: the pure function
-/
set_option linter.unusedVariables false
namespace Go.Vx
def strings_Clone_p1 {R : Type} (n : Nat) (a0 : List UInt8) (k0 : (List UInt8) → Option R) : Option R :=
  gb true (internal_stringslite_Clone n a0 some) [] fun r1 =>
  k0 r1
def strings_Clone {R : Type} (n : Nat) (a0 : List UInt8) (K : (List UInt8) → Option R) : Option R :=
  strings_Clone_p1 n a0
    (fun r1 => K r1)
end Go.Vx
/-
  store_decode: the pure function
-/
set_option linter.unusedVariables false
namespace Go.Vx
def store_decode_p1 {R : Type} (n : Nat) (a0 : List UInt8) (k0 : Int → Bool → Int → (List UInt8) → Option R) : Option R :=
  gb (!(decide (((List.length a0 : Nat) : Int) < (16 : Int)))) (strings_HasPrefix n a0 [80, 76, 65, 78] some) false fun r1 =>
  bif (bif (decide (((List.length a0 : Nat) : Int) < (16 : Int))) then true else (!r1)) then
    k0 (0 : Int) false (0 : Int) []
  else
    gb true (slB (List.length a0) (some (8 : Int)) none) (0, 0) fun q2 =>
    gb true (store_value n (cut a0 q2) some) 0 fun r3 =>
    bif (bif (decide (r3 > (65536 : Int))) then true else (decide (r3 > (IntKind.wrap .i64 (((List.length a0 : Nat) : Int) - (16 : Int)))))) then
      k0 (0 : Int) false (0 : Int) []
    else
      gb true (slB (List.length a0) (some (4 : Int)) none) (0, 0) fun q4 =>
      gb true (store_value n (cut a0 q4) some) 0 fun r5 =>
      gb true (slB (List.length a0) (some (16 : Int)) (some (IntKind.wrap .i64 ((16 : Int) + r3)))) (0, 0) fun q6 =>
      gb true (strings_Clone n (cut a0 q6) some) [] fun r7 =>
      gb true (store_Encode n r5 r7 (fun r0 r1 => some (r0, r1))) ([], 0) fun r8 =>
      gb (!(r8.2 != (0 : Int))) (strings_HasPrefix n a0 r8.1 some) false fun r9 =>
      bif (bif (r8.2 != (0 : Int)) then true else (!r9)) then
        k0 (0 : Int) false (0 : Int) []
      else
        k0 ((List.length r8.1 : Nat) : Int) true r5 r7
def store_decode {R : Type} (n : Nat) (a0 : List UInt8) (K : Int → (List UInt8) → Int → Bool → Option R) : Option R :=
  store_decode_p1 n a0
    (fun z10 z11 z12 z13 => K z12 z13 z10 z11)
end Go.Vx
/-
  store_Scan: the pure function
-/
set_option linter.unusedVariables false
namespace Go.Vx
def store_Scan_p1 {R : Type} (n : Nat) (a0 : List UInt8) (k0 : Option R) : Option R :=
  k0
def store_Scan_p2 {R : Type} (n : Nat) (a0 : List UInt8) (k0 : Option R) : Option R :=
  k0
def store_Scan_p3 {R : Type} (n : Nat) (a0 : List UInt8) (k0 : Option R) : Option R :=
  k0
def store_Scan_p4 {R : Type} (n : Nat) (a0 : List UInt8) (h2 : Int) (h3 : List (List D)) (k0 : Int → Bool → Int → (List UInt8) → Option R) (k1 : Int → (List (List D)) → Option R) (k2 : Bool → Option R) : Option R :=
  bif (decide (((List.length h3 : Nat) : Int) < (64 : Int))) then
    gb true (slB (List.length a0) (some h2) none) (0, 0) fun q18 =>
    gb true (store_decode n (cut a0 q18) (fun r0 r1 r2 r3 => some (r0, r1, r2, r3))) (0, [], 0, false) fun r19 =>
    gb ((!(!r19.2.2.2)) && (decide (((List.length h3 : Nat) : Int) > (0 : Int)))) (inB (List.length h3) (IntKind.wrap .i64 (((List.length h3 : Nat) : Int) - (1 : Int)))) () fun u20 =>
    gb ((!(!r19.2.2.2)) && (decide (((List.length h3 : Nat) : Int) > (0 : Int)))) (h3[(Int.toNat (IntKind.wrap .i64 (((List.length h3 : Nat) : Int) - (1 : Int))))]?) [] fun r21 =>
    gb ((!(!r19.2.2.2)) && (decide (((List.length h3 : Nat) : Int) > (0 : Int)))) (r21[0]?) (.bool false) fun c22 =>
    gb ((!(!r19.2.2.2)) && (decide (((List.length h3 : Nat) : Int) > (0 : Int)))) (pInt .i64 c22) 0 fun i23 =>
    bif (bif (!r19.2.2.2) then true else (bif (decide (((List.length h3 : Nat) : Int) > (0 : Int))) then (decide (r19.1 ≤ i23)) else false)) then
      k0 r19.2.2.1 (bif (!r19.2.2.2) then true else (bif (decide (((List.length h3 : Nat) : Int) > (0 : Int))) then (decide (r19.1 ≤ i23)) else false)) r19.1 r19.2.1
    else
      gb true (room ((List.length h3 + List.length [[D.int .i64 r19.1, D.str r19.2.1]]) * 24)) () fun u24 =>
      k1 (IntKind.wrap .i64 (h2 + r19.2.2.1)) (h3 ++ [[D.int .i64 r19.1, D.str r19.2.1]])
  else
    k2 (decide (((List.length h3 : Nat) : Int) < (64 : Int)))
def store_Scan_r5 {R : Type} (n : Nat) (a0 : List UInt8) (k0 : Int → Int → Bool → Int → (List UInt8) → (List (List D)) → Option R) (k1 : Int → Bool → (List (List D)) → Option R) : Nat → Int → (List (List D)) → Option R
  | 0, _, _ => none
  | m + 1, h2, h3 =>
    store_Scan_p4 n a0 h2 h3
      (fun w32 w33 w34 w35 =>
      k0 h2 w32 w33 w34 w35 h3)
      (fun w36 w37 =>
      store_Scan_r5 n a0 k0 k1 m w36 w37)
      (fun w38 =>
      k1 h2 w38 h3)
def store_Scan_p5 {R : Type} (n : Nat) (a0 : List UInt8) (k0 : Int → Int → Bool → Int → (List UInt8) → (List (List D)) → Option R) (k1 : Int → Bool → (List (List D)) → Option R) : Option R := store_Scan_r5 n a0 k0 k1 n (0 : Int) []
def store_Scan_p6 {R : Type} (n : Nat) (a0 : List UInt8) (k0 : Int → Int → Bool → Int → (List UInt8) → (List (List D)) → Option R) (k1 : Int → Bool → (List (List D)) → Option R) : Option R :=
  store_Scan_p5 n a0
    (fun w39 w40 w41 w42 w43 w44 =>
    k0 w39 w40 w41 w42 w43 w44)
    (fun w45 w46 w47 =>
    k1 w45 w46 w47)
def store_Scan_p7 {R : Type} (n : Nat) (a0 : List UInt8) (w48 : Int) (w49 : Int) (w50 : Bool) (w51 : Int) (w52 : List UInt8) (w53 : List (List D)) (k0 : Option R) : Option R :=
  k0
def store_Scan_p8 {R : Type} (n : Nat) (a0 : List UInt8) (w54 : Int) (w55 : Bool) (w56 : List (List D)) (k0 : Option R) : Option R :=
  k0
def store_Scan_p9 {R : Type} (n : Nat) (a0 : List UInt8) (k0 : Int → (List (List D)) → Option R) : Option R :=
  store_Scan_p6 n a0
    (fun w48 w49 w50 w51 w52 w53 =>
    store_Scan_p7 n a0 w48 w49 w50 w51 w52 w53
      (k0 w48 w53))
    (fun w54 w55 w56 =>
    store_Scan_p8 n a0 w54 w55 w56
      (k0 w54 w56))
def store_Scan_p10 {R : Type} (n : Nat) (a0 : List UInt8) (k0 : Int → (List (List D)) → Option R) : Option R :=
  store_Scan_p3 n a0
    (store_Scan_p9 n a0
      (fun w59 w60 =>
      k0 w59 w60))
def store_Scan_p11 {R : Type} (n : Nat) (a0 : List UInt8) (k0 : Int → (List (List D)) → Option R) : Option R :=
  store_Scan_p2 n a0
    (store_Scan_p10 n a0
      (fun w61 w62 =>
      k0 w61 w62))
def store_Scan_p12 {R : Type} (n : Nat) (a0 : List UInt8) (k0 : Int → (List (List D)) → Option R) : Option R :=
  store_Scan_p1 n a0
    (store_Scan_p11 n a0
      (fun w63 w64 =>
      k0 w63 w64))
def store_Scan {R : Type} (n : Nat) (a0 : List UInt8) (K : (List (List D)) → Int → Option R) : Option R :=
  store_Scan_p12 n a0
    (fun w63 w64 => K w64 w63)
end Go.Vx
/-
  store_Append: the pure function
-/
set_option linter.unusedVariables false
namespace Go.Vx
def store_Append_p1 {R : Type} (n : Nat) (a0 : List UInt8) (a1_0 : Int) (a1_1 : List UInt8) (k0 : (List UInt8) → Int → Option R) : Option R :=
  gb true (store_Encode n a1_0 a1_1 (fun r0 r1 => some (r0, r1))) ([], 0) fun r1 =>
  bif (r1.2 != (0 : Int)) then
    k0 [] r1.2
  else
    gb true (store_Scan n a0 (fun r0 r1 => some (r0, r1))) ([], 0) fun r2 =>
    gb (decide (((List.length r2.1 : Nat) : Int) > (0 : Int))) (rowAt r2.1 (IntKind.wrap .i64 (((List.length r2.1 : Nat) : Int) - (1 : Int)))) [] fun r3 =>
    gb (decide (((List.length r2.1 : Nat) : Int) > (0 : Int))) (r3[0]?) (.bool false) fun c4 =>
    gb (decide (((List.length r2.1 : Nat) : Int) > (0 : Int))) (pInt .i64 c4) 0 fun i5 =>
    bif (bif (decide (((List.length r2.1 : Nat) : Int) > (0 : Int))) then (decide (a1_0 ≤ i5)) else false) then
      k0 [] (20 : Int)
    else
      bif (bif (((List.length r2.1 : Nat) : Int) == (64 : Int)) then true else (decide ((IntKind.wrap .i64 (r2.2 + ((List.length r1.1 : Nat) : Int))) > (1048576 : Int)))) then
        k0 [] (7 : Int)
      else
        gb true (slB (List.length a0) none (some r2.2)) (0, 0) fun q6 =>
        gb true (sumOk (List.length (cut a0 q6) + List.length r1.1)) () fun u7 =>
        k0 ((cut a0 q6) ++ r1.1) (0 : Int)
def store_Append {R : Type} (n : Nat) (a0 : List UInt8) (a1_0 : Int) (a1_1 : List UInt8) (K : (List UInt8) → Int → Option R) : Option R :=
  store_Append_p1 n a0 a1_0 a1_1
    (fun z8 z9 => K z8 z9)
end Go.Vx
/-
  ref41_first: the pure function
-/
set_option linter.unusedVariables false
namespace Go.Vx
def ref41_first_p1 {R : Type} (n : Nat) (a0 : List UInt8) (k0 : Int → Bool → Int → (List UInt8) → Option R) : Option R :=
  bif (decide (((List.length a0 : Nat) : Int) < (16 : Int))) then
    k0 (0 : Int) false (0 : Int) []
  else
    gb true (ref41_value n a0 (8 : Int) some) 0 fun r1 =>
    bif (bif (decide (r1 > (65536 : Int))) then true else (decide (((List.length a0 : Nat) : Int) < (IntKind.wrap .i64 ((16 : Int) + r1))))) then
      k0 (0 : Int) false (0 : Int) []
    else
      gb true (ref41_value n a0 (4 : Int) some) 0 fun r2 =>
      gb true (slB (List.length a0) (some (16 : Int)) (some (IntKind.wrap .i64 ((16 : Int) + r1)))) (0, 0) fun q3 =>
      gb true (ref41_Encode n r2 (cut a0 q3) (fun r0 r1 => some (r0, r1))) ([], 0) fun r4 =>
      gb (!(r4.2 != (0 : Int))) (slB (List.length a0) none (some (IntKind.wrap .i64 ((16 : Int) + r1)))) (0, 0) fun q5 =>
      bif (bif (r4.2 != (0 : Int)) then true else (!(r4.1 == (cut a0 q5)))) then
        k0 (0 : Int) false (0 : Int) []
      else
        k0 (IntKind.wrap .i64 ((16 : Int) + r1)) true r2 (cut a0 q3)
def ref41_first {R : Type} (n : Nat) (a0 : List UInt8) (K : Int → (List UInt8) → Int → Bool → Option R) : Option R :=
  ref41_first_p1 n a0
    (fun z6 z7 z8 z9 => K z8 z9 z6 z7)
end Go.Vx
/-
  ref41_Scan: the pure function
-/
set_option linter.unusedVariables false
namespace Go.Vx
def ref41_Scan_p1 {R : Type} (n : Nat) (a0 : List UInt8) (k0 : Option R) : Option R :=
  k0
def ref41_Scan_p2 {R : Type} (n : Nat) (a0 : List UInt8) (k0 : Option R) : Option R :=
  k0
def ref41_Scan_p3 {R : Type} (n : Nat) (a0 : List UInt8) (k0 : Option R) : Option R :=
  k0
def ref41_Scan_p4 {R : Type} (n : Nat) (a0 : List UInt8) (h2 : Int) (h3 : List (List D)) (k0 : Int → Bool → Int → (List UInt8) → Option R) (k1 : Int → (List (List D)) → Option R) (k2 : Bool → Option R) : Option R :=
  bif (decide (((List.length h3 : Nat) : Int) < (64 : Int))) then
    gb true (slB (List.length a0) (some h2) none) (0, 0) fun q18 =>
    gb true (ref41_first n (cut a0 q18) (fun r0 r1 r2 r3 => some (r0, r1, r2, r3))) (0, [], 0, false) fun r19 =>
    gb ((!(!r19.2.2.2)) && (decide (((List.length h3 : Nat) : Int) > (0 : Int)))) (inB (List.length h3) (IntKind.wrap .i64 (((List.length h3 : Nat) : Int) - (1 : Int)))) () fun u20 =>
    gb ((!(!r19.2.2.2)) && (decide (((List.length h3 : Nat) : Int) > (0 : Int)))) (h3[(Int.toNat (IntKind.wrap .i64 (((List.length h3 : Nat) : Int) - (1 : Int))))]?) [] fun r21 =>
    gb ((!(!r19.2.2.2)) && (decide (((List.length h3 : Nat) : Int) > (0 : Int)))) (r21[0]?) (.bool false) fun c22 =>
    gb ((!(!r19.2.2.2)) && (decide (((List.length h3 : Nat) : Int) > (0 : Int)))) (pInt .i64 c22) 0 fun i23 =>
    bif (bif (!r19.2.2.2) then true else (bif (decide (((List.length h3 : Nat) : Int) > (0 : Int))) then (decide (r19.1 ≤ i23)) else false)) then
      k0 r19.2.2.1 (bif (!r19.2.2.2) then true else (bif (decide (((List.length h3 : Nat) : Int) > (0 : Int))) then (decide (r19.1 ≤ i23)) else false)) r19.1 r19.2.1
    else
      gb true (room ((List.length h3 + List.length [[D.int .i64 r19.1, D.str r19.2.1]]) * 24)) () fun u24 =>
      k1 (IntKind.wrap .i64 (h2 + r19.2.2.1)) (h3 ++ [[D.int .i64 r19.1, D.str r19.2.1]])
  else
    k2 (decide (((List.length h3 : Nat) : Int) < (64 : Int)))
def ref41_Scan_r5 {R : Type} (n : Nat) (a0 : List UInt8) (k0 : Int → Int → Bool → Int → (List UInt8) → (List (List D)) → Option R) (k1 : Int → Bool → (List (List D)) → Option R) : Nat → Int → (List (List D)) → Option R
  | 0, _, _ => none
  | m + 1, h2, h3 =>
    ref41_Scan_p4 n a0 h2 h3
      (fun w32 w33 w34 w35 =>
      k0 h2 w32 w33 w34 w35 h3)
      (fun w36 w37 =>
      ref41_Scan_r5 n a0 k0 k1 m w36 w37)
      (fun w38 =>
      k1 h2 w38 h3)
def ref41_Scan_p5 {R : Type} (n : Nat) (a0 : List UInt8) (k0 : Int → Int → Bool → Int → (List UInt8) → (List (List D)) → Option R) (k1 : Int → Bool → (List (List D)) → Option R) : Option R := ref41_Scan_r5 n a0 k0 k1 n (0 : Int) []
def ref41_Scan_p6 {R : Type} (n : Nat) (a0 : List UInt8) (k0 : Int → Int → Bool → Int → (List UInt8) → (List (List D)) → Option R) (k1 : Int → Bool → (List (List D)) → Option R) : Option R :=
  ref41_Scan_p5 n a0
    (fun w39 w40 w41 w42 w43 w44 =>
    k0 w39 w40 w41 w42 w43 w44)
    (fun w45 w46 w47 =>
    k1 w45 w46 w47)
def ref41_Scan_p7 {R : Type} (n : Nat) (a0 : List UInt8) (w48 : Int) (w49 : Int) (w50 : Bool) (w51 : Int) (w52 : List UInt8) (w53 : List (List D)) (k0 : Option R) : Option R :=
  k0
def ref41_Scan_p8 {R : Type} (n : Nat) (a0 : List UInt8) (w54 : Int) (w55 : Bool) (w56 : List (List D)) (k0 : Option R) : Option R :=
  k0
def ref41_Scan_p9 {R : Type} (n : Nat) (a0 : List UInt8) (k0 : Int → (List (List D)) → Option R) : Option R :=
  ref41_Scan_p6 n a0
    (fun w48 w49 w50 w51 w52 w53 =>
    ref41_Scan_p7 n a0 w48 w49 w50 w51 w52 w53
      (k0 w48 w53))
    (fun w54 w55 w56 =>
    ref41_Scan_p8 n a0 w54 w55 w56
      (k0 w54 w56))
def ref41_Scan_p10 {R : Type} (n : Nat) (a0 : List UInt8) (k0 : Int → (List (List D)) → Option R) : Option R :=
  ref41_Scan_p3 n a0
    (ref41_Scan_p9 n a0
      (fun w59 w60 =>
      k0 w59 w60))
def ref41_Scan_p11 {R : Type} (n : Nat) (a0 : List UInt8) (k0 : Int → (List (List D)) → Option R) : Option R :=
  ref41_Scan_p2 n a0
    (ref41_Scan_p10 n a0
      (fun w61 w62 =>
      k0 w61 w62))
def ref41_Scan_p12 {R : Type} (n : Nat) (a0 : List UInt8) (k0 : Int → (List (List D)) → Option R) : Option R :=
  ref41_Scan_p1 n a0
    (ref41_Scan_p11 n a0
      (fun w63 w64 =>
      k0 w63 w64))
def ref41_Scan {R : Type} (n : Nat) (a0 : List UInt8) (K : (List (List D)) → Int → Option R) : Option R :=
  ref41_Scan_p12 n a0
    (fun w63 w64 => K w64 w63)
end Go.Vx
/-
  ref41_Append: the pure function
-/
set_option linter.unusedVariables false
namespace Go.Vx
def ref41_Append_p1 {R : Type} (n : Nat) (a0 : List UInt8) (a1_0 : Int) (a1_1 : List UInt8) (k0 : (List UInt8) → Int → Option R) : Option R :=
  gb true (ref41_Encode n a1_0 a1_1 (fun r0 r1 => some (r0, r1))) ([], 0) fun r1 =>
  bif (r1.2 != (0 : Int)) then
    k0 [] r1.2
  else
    gb true (ref41_Scan n a0 (fun r0 r1 => some (r0, r1))) ([], 0) fun r2 =>
    gb (decide (((List.length r2.1 : Nat) : Int) > (0 : Int))) (rowAt r2.1 (IntKind.wrap .i64 (((List.length r2.1 : Nat) : Int) - (1 : Int)))) [] fun r3 =>
    gb (decide (((List.length r2.1 : Nat) : Int) > (0 : Int))) (r3[0]?) (.bool false) fun c4 =>
    gb (decide (((List.length r2.1 : Nat) : Int) > (0 : Int))) (pInt .i64 c4) 0 fun i5 =>
    bif (bif (decide (((List.length r2.1 : Nat) : Int) > (0 : Int))) then (decide (a1_0 ≤ i5)) else false) then
      k0 [] (20 : Int)
    else
      bif (bif (decide (((List.length r2.1 : Nat) : Int) ≥ (64 : Int))) then true else (decide ((IntKind.wrap .i64 (r2.2 + ((List.length r1.1 : Nat) : Int))) > (1048576 : Int)))) then
        k0 [] (7 : Int)
      else
        gb true (slB (List.length a0) none (some r2.2)) (0, 0) fun q6 =>
        gb true (sumOk (List.length (cut a0 q6) + List.length r1.1)) () fun u7 =>
        k0 ((cut a0 q6) ++ r1.1) (0 : Int)
def ref41_Append {R : Type} (n : Nat) (a0 : List UInt8) (a1_0 : Int) (a1_1 : List UInt8) (K : (List UInt8) → Int → Option R) : Option R :=
  ref41_Append_p1 n a0 a1_0 a1_1
    (fun z8 z9 => K z8 z9)
end Go.Vx
/-
  store_Latest: the pure function
-/
set_option linter.unusedVariables false
namespace Go.Vx
def store_Latest_p1 {R : Type} (n : Nat) (a0 : List UInt8) (k0 : Option R) (k1 : D → D → Option R) : Option R :=
  gb true (store_Scan n a0 (fun r0 r1 => some (r0, r1))) ([], 0) fun r1 =>
  bif (((List.length r1.1 : Nat) : Int) == (0 : Int)) then
    k0
  else
    gb true (rowAt r1.1 (IntKind.wrap .i64 (((List.length r1.1 : Nat) : Int) - (1 : Int)))) [] fun r2 =>
    gb true (r2[0]?) (.bool false) fun c3 =>
    gb true (r2[1]?) (.bool false) fun c4 =>
    k1 c3 c4
def store_Latest {R : Type} (n : Nat) (a0 : List UInt8) (K : D → D → Int → Option R) : Option R :=
  store_Latest_p1 n a0
    (K (D.int .i64 (0 : Int)) (D.str []) (6 : Int))
    (fun c3 c4 => K c3 c4 (0 : Int))
end Go.Vx
/-
  law41_awake: the pure function
-/
set_option linter.unusedVariables false
namespace Go.Vx
def law41_awake_p1 {R : Type} (n : Nat)  (k0 : Bool → Option R) : Option R :=
  gb true (store_Encode n (1 : Int) [] (fun r0 r1 => some (r0, r1))) ([], 0) fun r1 =>
  gb true (store_Append n [] (1 : Int) [] (fun r0 r1 => some (r0, r1))) ([], 0) fun r2 =>
  gb true (store_Append n r2.1 (3 : Int) [120] (fun r0 r1 => some (r0, r1))) ([], 0) fun r3 =>
  gb true (store_Latest n r3.1 (fun r0 r1 r2 => some (r0, r1, r2))) ((.bool false), (.bool false), 0) fun r4 =>
  gb true (store_Append n r3.1 (2 : Int) [] (fun r0 r1 => some (r0, r1))) ([], 0) fun r5 =>
  gb (bif (r1.2 == (0 : Int)) then (((List.length r1.1 : Nat) : Int) == (16 : Int)) else false) (slB (List.length r1.1) none (some (12 : Int))) (0, 0) fun q6 =>
  gb (bif (bif (bif (bif (bif (bif (r1.2 == (0 : Int)) then (((List.length r1.1 : Nat) : Int) == (16 : Int)) else false) then ((cut r1.1 q6) == ([80, 76, 65, 78, 0, 0, 0, 1, 0, 0, 0, 0] : List UInt8)) else false) then (r2.2 == (0 : Int)) else false) then (r2.1 == r1.1) else false) then (r3.2 == (0 : Int)) else false) then (r4.2.2 == (0 : Int)) else false) (pInt .i64 r4.1) 0 fun i7 =>
  gb (bif (bif (bif (bif (bif (bif (r1.2 == (0 : Int)) then (((List.length r1.1 : Nat) : Int) == (16 : Int)) else false) then ((cut r1.1 q6) == ([80, 76, 65, 78, 0, 0, 0, 1, 0, 0, 0, 0] : List UInt8)) else false) then (r2.2 == (0 : Int)) else false) then (r2.1 == r1.1) else false) then (r3.2 == (0 : Int)) else false) then (r4.2.2 == (0 : Int)) else false) (pStr r4.2.1) [] fun s8 =>
  k0 (bif (bif (bif (bif (bif (bif (bif (bif (r1.2 == (0 : Int)) then (((List.length r1.1 : Nat) : Int) == (16 : Int)) else false) then ((cut r1.1 q6) == ([80, 76, 65, 78, 0, 0, 0, 1, 0, 0, 0, 0] : List UInt8)) else false) then (r2.2 == (0 : Int)) else false) then (r2.1 == r1.1) else false) then (r3.2 == (0 : Int)) else false) then (r4.2.2 == (0 : Int)) else false) then ((i7 == (3 : Int)) && (s8 == [120])) else false) then (r5.2 == (20 : Int)) else false)
def law41_awake {R : Type} (n : Nat)  (K : Bool → Option R) : Option R :=
  law41_awake_p1 n 
    (fun z9 => K z9)
end Go.Vx
/-
  law41_StoreEncode: the pure function
-/
set_option linter.unusedVariables false
namespace Go.Vx
def law41_StoreEncode_p1 {R : Type} (n : Nat) (a0_0 : Int) (a0_1 : List UInt8) (a1 : Int) (k0 : Bool → Option R) : Option R :=
  gb true (store_Encode n a0_0 a0_1 (fun r0 r1 => some (r0, r1))) ([], 0) fun r1 =>
  gb true (ref41_Encode n a0_0 a0_1 (fun r0 r1 => some (r0, r1))) ([], 0) fun r2 =>
  gb true (keep_Pick n a1 (2147483653 : Int) some) 0 fun r3 =>
  gb true (store_Encode n (IntKind.wrap .i64 (r3 - (2 : Int))) a0_1 (fun r0 r1 => some (r0, r1))) ([], 0) fun r4 =>
  gb true (ref41_Encode n (IntKind.wrap .i64 (r3 - (2 : Int))) a0_1 (fun r0 r1 => some (r0, r1))) ([], 0) fun r5 =>
  gb true (law41_awake n  some) false fun r6 =>
  k0 (bif (bif (bif (bif r6 then (r1.1 == r2.1) else false) then (r1.2 == r2.2) else false) then (r4.1 == r5.1) else false) then (r4.2 == r5.2) else false)
def law41_StoreEncode {R : Type} (n : Nat) (a0_0 : Int) (a0_1 : List UInt8) (a1 : Int) (K : Bool → Option R) : Option R :=
  law41_StoreEncode_p1 n a0_0 a0_1 a1
    (fun z7 => K z7)
end Go.Vx
/-
  keep_From: the pure function
-/
set_option linter.unusedVariables false
namespace Go.Vx
def keep_From_p1 {R : Type} (n : Nat) (a0 : List (List D)) (k0 : Option R) : Option R :=
  k0
def keep_From {R : Type} (n : Nat) (a0 : List (List D)) (K : (List (List D)) → Int → Option R) : Option R :=
  keep_From_p1 n a0
    (K a0 (0 : Int))
end Go.Vx
/-
  law41_versions: the pure function
-/
set_option linter.unusedVariables false
namespace Go.Vx
def law41_versions_p1 {R : Type} (n : Nat) (a0 : List (List D)) (k0 : Option R) : Option R :=
  k0
def law41_versions_p2 {R : Type} (n : Nat) (a0 : List (List D)) (k0 : (List (List D)) → Int → Option R) : Option R :=
  gb true (keep_From n a0 (fun r0 r1 => some (r0, r1))) ([], 0) fun r1 =>
  k0 r1.1 r1.2
def law41_versions_p3 {R : Type} (n : Nat) (w4 : List (List D)) (w5 : Int) (k0 : Option R) : Option R :=
  k0
def law41_versions_p4 {R : Type} (n : Nat) (w4 : List (List D)) (w5 : Int) (k0 : Int → (List (List D)) → Int → Option R) : Option R :=
  gb true (keep_Source_Next n w4 w5 (3 : Int) (fun r0 r1 r2 => some (r0, r1, r2))) (0, [], 0) fun r6 =>
  k0 r6.1 r6.2.1 r6.2.2
def law41_versions_p5 {R : Type} (n : Nat) (w10 : Int) (w11 : List (List D)) (w12 : Int) (k0 : Int → (List (List D)) → Int → Option R) : Option R :=
  gb true (keep_Source_Next n w11 w12 (6 : Int) (fun r0 r1 r2 => some (r0, r1, r2))) (0, [], 0) fun r13 =>
  k0 r13.1 r13.2.1 r13.2.2
def law41_versions_p6 {R : Type} (n : Nat) (h20 : Int) (h21 : Int) (h22 : List (List D)) (h23 : List (List D)) (h24 : Int) (k0 : Bool → Option R) (k1 : Bool → Option R) : Option R :=
  bif (decide (h21 > (0 : Int))) then
    k0 (decide (h21 > (0 : Int)))
  else
    k1 (decide (h21 > (0 : Int)))
def law41_versions_p7 {R : Type} (n : Nat) (h20 : Int) (h21 : Int) (w27 : Bool) (h22 : List (List D)) (h23 : List (List D)) (h24 : Int) (k0 : Int → (List (List D)) → Int → Option R) : Option R :=
  gb true (keep_Source_Next n h23 h24 (4 : Int) (fun r0 r1 r2 => some (r0, r1, r2))) (0, [], 0) fun r28 =>
  k0 (IntKind.wrap .i64 (h20 + r28.1)) r28.2.1 r28.2.2
def law41_versions_p8 {R : Type} (n : Nat) (w32 : Int) (h21 : Int) (h22 : List (List D)) (w33 : List (List D)) (w34 : Int) (k0 : Option R) : Option R :=
  k0
def law41_versions_p9 {R : Type} (n : Nat) (w32 : Int) (h21 : Int) (h22 : List (List D)) (w33 : List (List D)) (w34 : Int) (k0 : Int → (List (List D)) → Int → Option R) : Option R :=
  gb true (keep_Source_Next n w33 w34 (9 : Int) (fun r0 r1 r2 => some (r0, r1, r2))) (0, [], 0) fun r35 =>
  k0 r35.1 r35.2.1 r35.2.2
def law41_versions_p10 {R : Type} (n : Nat) (w32 : Int) (h21 : Int) (h44 : Int) (h46 : List UInt8) (h22 : List (List D)) (h48 : List (List D)) (h49 : Int) (k0 : Int → (List UInt8) → (List (List D)) → Int → Option R) (k1 : Bool → Option R) : Option R :=
  bif (decide (h44 > (0 : Int))) then
    gb true (keep_Source_Next n h48 h49 (256 : Int) (fun r0 r1 r2 => some (r0, r1, r2))) (0, [], 0) fun r58 =>
    gb true (bytesOf [[D.int .u8 (IntKind.wrap .u8 r58.1)]]) [] fun s59 =>
    gb true (sumOk (List.length h46 + List.length s59)) () fun u60 =>
    k0 (IntKind.wrap .i64 (h44 - (1 : Int))) (h46 ++ s59) r58.2.1 r58.2.2
  else
    k1 (decide (h44 > (0 : Int)))
def law41_versions_r11 {R : Type} (n : Nat) (w32 : Int) (h21 : Int) (h22 : List (List D)) (k0 : Int → Bool → (List UInt8) → (List (List D)) → Int → Option R) : Nat → Int → (List UInt8) → (List (List D)) → Int → Option R
  | 0, _, _, _, _ => none
  | m + 1, h44, h46, h48, h49 =>
    law41_versions_p10 n w32 h21 h44 h46 h22 h48 h49
      (fun w66 w67 w68 w69 =>
      law41_versions_r11 n w32 h21 h22 k0 m w66 w67 w68 w69)
      (fun w70 =>
      k0 h44 w70 h46 h48 h49)
def law41_versions_p11 {R : Type} (n : Nat) (w32 : Int) (h21 : Int) (w39 : Int) (h22 : List (List D)) (w40 : List (List D)) (w41 : Int) (k0 : Int → Bool → (List UInt8) → (List (List D)) → Int → Option R) : Option R := law41_versions_r11 n w32 h21 h22 k0 n w39 [] w40 w41
def law41_versions_p12 {R : Type} (n : Nat) (w32 : Int) (h21 : Int) (w39 : Int) (h22 : List (List D)) (w40 : List (List D)) (w41 : Int) (k0 : Int → Bool → (List UInt8) → (List (List D)) → Int → Option R) : Option R :=
  law41_versions_p11 n w32 h21 w39 h22 w40 w41
    (fun w71 w72 w73 w74 w75 =>
    k0 w71 w72 w73 w74 w75)
def law41_versions_p13 {R : Type} (n : Nat) (w32 : Int) (h21 : Int) (h22 : List (List D)) (w33 : List (List D)) (w34 : Int) (k0 : Int → Bool → (List UInt8) → (List (List D)) → Int → Option R) : Option R :=
  law41_versions_p9 n w32 h21 h22 w33 w34
    (fun w39 w40 w41 =>
    law41_versions_p12 n w32 h21 w39 h22 w40 w41
      (fun w76 w77 w78 w79 w80 =>
      k0 w76 w77 w78 w79 w80))
def law41_versions_p14 {R : Type} (n : Nat) (w32 : Int) (h21 : Int) (w81 : Int) (w82 : Bool) (w83 : List UInt8) (h22 : List (List D)) (w84 : List (List D)) (w85 : Int) (k0 : (List (List D)) → Option R) : Option R :=
  gb true (room ((List.length h22 + List.length [[D.int .i64 w32, D.str w83]]) * 24)) () fun u86 =>
  k0 (h22 ++ [[D.int .i64 w32, D.str w83]])
def law41_versions_p15 {R : Type} (n : Nat) (w32 : Int) (h21 : Int) (h22 : List (List D)) (w33 : List (List D)) (w34 : Int) (k0 : (List (List D)) → (List (List D)) → Int → Option R) : Option R :=
  law41_versions_p13 n w32 h21 h22 w33 w34
    (fun w81 w82 w83 w84 w85 =>
    law41_versions_p14 n w32 h21 w81 w82 w83 h22 w84 w85
      (fun w88 =>
      k0 w88 w84 w85))
def law41_versions_p16 {R : Type} (n : Nat) (w32 : Int) (h21 : Int) (h22 : List (List D)) (w33 : List (List D)) (w34 : Int) (k0 : (List (List D)) → (List (List D)) → Int → Option R) : Option R :=
  law41_versions_p8 n w32 h21 h22 w33 w34
    (law41_versions_p15 n w32 h21 h22 w33 w34
      (fun w89 w90 w91 =>
      k0 w89 w90 w91))
def law41_versions_p17 {R : Type} (n : Nat) (h20 : Int) (h21 : Int) (w27 : Bool) (h22 : List (List D)) (h23 : List (List D)) (h24 : Int) (k0 : Int → (List (List D)) → (List (List D)) → Int → Option R) : Option R :=
  law41_versions_p7 n h20 h21 w27 h22 h23 h24
    (fun w32 w33 w34 =>
    law41_versions_p16 n w32 h21 h22 w33 w34
      (fun w92 w93 w94 =>
      k0 w32 w92 w93 w94))
def law41_versions_p18 {R : Type} (n : Nat) (h20 : Int) (h21 : Int) (w27 : Bool) (h22 : List (List D)) (h23 : List (List D)) (h24 : Int) (k0 : Int → (List (List D)) → (List (List D)) → Int → Option R) : Option R :=
  law41_versions_p17 n h20 h21 w27 h22 h23 h24
    (fun w95 w96 w97 w98 =>
    k0 w95 w96 w97 w98)
def law41_versions_p19 {R : Type} (n : Nat) (w99 : Int) (h21 : Int) (w100 : List (List D)) (w101 : List (List D)) (w102 : Int) (k0 : Int → Option R) : Option R :=
  k0 (IntKind.wrap .i64 (h21 - (1 : Int)))
def law41_versions_p20 {R : Type} (n : Nat) (h20 : Int) (h21 : Int) (w27 : Bool) (h22 : List (List D)) (h23 : List (List D)) (h24 : Int) (k0 : Int → Int → (List (List D)) → (List (List D)) → Int → Option R) : Option R :=
  law41_versions_p18 n h20 h21 w27 h22 h23 h24
    (fun w99 w100 w101 w102 =>
    law41_versions_p19 n w99 h21 w100 w101 w102
      (fun w104 =>
      k0 w99 w104 w100 w101 w102))
def law41_versions_p21 {R : Type} (n : Nat) (h20 : Int) (h21 : Int) (h22 : List (List D)) (h23 : List (List D)) (h24 : Int) (k0 : Int → Int → (List (List D)) → (List (List D)) → Int → Option R) (k1 : Bool → Option R) : Option R :=
  law41_versions_p6 n h20 h21 h22 h23 h24
    (fun w27 =>
    law41_versions_p20 n h20 h21 w27 h22 h23 h24
      (fun w105 w106 w107 w108 w109 =>
      k0 w105 w106 w107 w108 w109))
    (fun w110 =>
    k1 w110)
def law41_versions_r22 {R : Type} (n : Nat)  (k0 : Int → Int → Bool → (List (List D)) → (List (List D)) → Int → Option R) : Nat → Int → Int → (List (List D)) → (List (List D)) → Int → Option R
  | 0, _, _, _, _, _ => none
  | m + 1, h20, h21, h22, h23, h24 =>
    law41_versions_p21 n h20 h21 h22 h23 h24
      (fun w111 w112 w113 w114 w115 =>
      law41_versions_r22 n  k0 m w111 w112 w113 w114 w115)
      (fun w116 =>
      k0 h20 h21 w116 h22 h23 h24)
def law41_versions_p22 {R : Type} (n : Nat) (w10 : Int) (w17 : Int) (w18 : List (List D)) (w19 : Int) (k0 : Int → Int → Bool → (List (List D)) → (List (List D)) → Int → Option R) : Option R := law41_versions_r22 n  k0 n w10 w17 [] w18 w19
def law41_versions_p23 {R : Type} (n : Nat) (w10 : Int) (w17 : Int) (w18 : List (List D)) (w19 : Int) (k0 : Int → Int → Bool → (List (List D)) → (List (List D)) → Int → Option R) : Option R :=
  law41_versions_p22 n w10 w17 w18 w19
    (fun w117 w118 w119 w120 w121 w122 =>
    k0 w117 w118 w119 w120 w121 w122)
def law41_versions_p24 {R : Type} (n : Nat) (w10 : Int) (w11 : List (List D)) (w12 : Int) (k0 : Int → Int → Bool → (List (List D)) → (List (List D)) → Int → Option R) : Option R :=
  law41_versions_p5 n w10 w11 w12
    (fun w17 w18 w19 =>
    law41_versions_p23 n w10 w17 w18 w19
      (fun w123 w124 w125 w126 w127 w128 =>
      k0 w123 w124 w125 w126 w127 w128))
def law41_versions_p25 {R : Type} (n : Nat) (w129 : Int) (w130 : Int) (w131 : Bool) (w132 : List (List D)) (w133 : List (List D)) (w134 : Int) (k0 : Option R) : Option R :=
  k0
def law41_versions_p26 {R : Type} (n : Nat) (w10 : Int) (w11 : List (List D)) (w12 : Int) (k0 : (List (List D)) → Option R) : Option R :=
  law41_versions_p24 n w10 w11 w12
    (fun w129 w130 w131 w132 w133 w134 =>
    law41_versions_p25 n w129 w130 w131 w132 w133 w134
      (k0 w132))
def law41_versions_p27 {R : Type} (n : Nat) (w4 : List (List D)) (w5 : Int) (k0 : (List (List D)) → Option R) : Option R :=
  law41_versions_p4 n w4 w5
    (fun w10 w11 w12 =>
    law41_versions_p26 n w10 w11 w12
      (fun w135 =>
      k0 w135))
def law41_versions_p28 {R : Type} (n : Nat) (w4 : List (List D)) (w5 : Int) (k0 : (List (List D)) → Option R) : Option R :=
  law41_versions_p3 n w4 w5
    (law41_versions_p27 n w4 w5
      (fun w136 =>
      k0 w136))
def law41_versions_p29 {R : Type} (n : Nat) (a0 : List (List D)) (k0 : (List (List D)) → Option R) : Option R :=
  law41_versions_p2 n a0
    (fun w4 w5 =>
    law41_versions_p28 n w4 w5
      (fun w137 =>
      k0 w137))
def law41_versions_p30 {R : Type} (n : Nat) (a0 : List (List D)) (k0 : (List (List D)) → Option R) : Option R :=
  law41_versions_p1 n a0
    (law41_versions_p29 n a0
      (fun w138 =>
      k0 w138))
def law41_versions {R : Type} (n : Nat) (a0 : List (List D)) (K : (List (List D)) → Option R) : Option R :=
  law41_versions_p30 n a0
    (fun w138 => K w138)
end Go.Vx
/-
  law41_file: the pure function
-/
set_option linter.unusedVariables false
namespace Go.Vx
def law41_file_p1 {R : Type} (n : Nat) (a0 : List (List D)) (k0 : Option R) : Option R :=
  k0
def law41_file_p2 {R : Type} (n : Nat) (a0 : List (List D)) (k0 : Option R) : Option R :=
  k0
def law41_file_p3 {R : Type} (n : Nat) (a0 : List (List D)) (k0 : Int → Option R) : Option R :=
  k0 ((List.length a0 : Nat) : Int)
def law41_file_p4 {R : Type} (n : Nat) (h3 : List UInt8) (a0 : List (List D)) (w2 : Int) (h6 : Int) (k0 : (List UInt8) → Int → Option R) (k1 : Bool → Option R) : Option R :=
  bif (decide (h6 < w2)) then
    gb true (rowAt a0 h6) [] fun r16 =>
    gb true (r16[0]?) (.bool false) fun c17 =>
    gb true (r16[1]?) (.bool false) fun c18 =>
    gb true (pInt .i64 c17) 0 fun i19 =>
    gb true (pStr c18) [] fun s20 =>
    gb true (ref41_Append n h3 i19 s20 (fun r0 r1 => some (r0, r1))) ([], 0) fun r21 =>
    bif (r21.2 == (0 : Int)) then
      k0 r21.1 (IntKind.wrap .i64 (h6 + (1 : Int)))
    else
      k0 h3 (IntKind.wrap .i64 (h6 + (1 : Int)))
  else
    k1 (decide (h6 < w2))
def law41_file_r5 {R : Type} (n : Nat) (a0 : List (List D)) (w2 : Int) (k0 : (List UInt8) → Int → Bool → Option R) : Nat → (List UInt8) → Int → Option R
  | 0, _, _ => none
  | m + 1, h3, h6 =>
    law41_file_p4 n h3 a0 w2 h6
      (fun w25 w26 =>
      law41_file_r5 n a0 w2 k0 m w25 w26)
      (fun w27 =>
      k0 h3 h6 w27)
def law41_file_p5 {R : Type} (n : Nat) (a0 : List (List D)) (w2 : Int) (k0 : (List UInt8) → Int → Bool → Option R) : Option R := law41_file_r5 n a0 w2 k0 n [] (0 : Int)
def law41_file_p6 {R : Type} (n : Nat) (a0 : List (List D)) (w2 : Int) (k0 : (List UInt8) → Int → Bool → Option R) : Option R :=
  law41_file_p5 n a0 w2
    (fun w28 w29 w30 =>
    k0 w28 w29 w30)
def law41_file_p7 {R : Type} (n : Nat) (a0 : List (List D)) (k0 : (List UInt8) → Int → Int → Bool → Option R) : Option R :=
  law41_file_p3 n a0
    (fun w2 =>
    law41_file_p6 n a0 w2
      (fun w31 w32 w33 =>
      k0 w31 w2 w32 w33))
def law41_file_p8 {R : Type} (n : Nat) (w34 : List UInt8) (a0 : List (List D)) (w35 : Int) (w36 : Int) (w37 : Bool) (k0 : Option R) : Option R :=
  k0
def law41_file_p9 {R : Type} (n : Nat) (a0 : List (List D)) (k0 : (List UInt8) → Option R) : Option R :=
  law41_file_p7 n a0
    (fun w34 w35 w36 w37 =>
    law41_file_p8 n w34 a0 w35 w36 w37
      (k0 w34))
def law41_file_p10 {R : Type} (n : Nat) (a0 : List (List D)) (k0 : (List UInt8) → Option R) : Option R :=
  law41_file_p2 n a0
    (law41_file_p9 n a0
      (fun w38 =>
      k0 w38))
def law41_file_p11 {R : Type} (n : Nat) (a0 : List (List D)) (k0 : (List UInt8) → Option R) : Option R :=
  law41_file_p1 n a0
    (law41_file_p10 n a0
      (fun w39 =>
      k0 w39))
def law41_file {R : Type} (n : Nat) (a0 : List (List D)) (K : (List UInt8) → Option R) : Option R :=
  law41_file_p11 n a0
    (fun w39 => K w39)
end Go.Vx
/-
  law41_damaged: the pure function
-/
set_option linter.unusedVariables false
namespace Go.Vx
def law41_damaged_p1 {R : Type} (n : Nat) (a0 : List UInt8) (a1 : Int) (a2 : Int) (a3 : Int) (k0 : (List UInt8) → Option R) : Option R :=
  bif (((List.length a0 : Nat) : Int) == (0 : Int)) then
    gb true (bytesOf [[D.int .u8 (IntKind.wrap .u8 a3)]]) [] fun s1 =>
    k0 s1
  else
    gb true (keep_Pick n a2 ((List.length a0 : Nat) : Int) some) 0 fun r2 =>
    gb true (keep_Pick n a1 (3 : Int) some) 0 fun r3 =>
    bif (r3 == (0 : Int)) then
      gb true (slB (List.length a0) none (some r2)) (0, 0) fun q4 =>
      gb true (bytesOf [[D.int .u8 (IntKind.wrap .u8 a3)]]) [] fun s5 =>
      gb true (sumOk (List.length (cut a0 q4) + List.length s5)) () fun u6 =>
      gb true (slB (List.length a0) (some (IntKind.wrap .i64 (r2 + (1 : Int)))) none) (0, 0) fun q7 =>
      gb true (sumOk (List.length ((cut a0 q4) ++ s5) + List.length (cut a0 q7))) () fun u8 =>
      k0 (((cut a0 q4) ++ s5) ++ (cut a0 q7))
    else
      bif (r3 == (1 : Int)) then
        gb true (slB (List.length a0) none (some r2)) (0, 0) fun q9 =>
        k0 (cut a0 q9)
      else
        gb true (slB (List.length a0) none (some r2)) (0, 0) fun q10 =>
        gb true (bytesOf [[D.int .u8 (IntKind.wrap .u8 a3)]]) [] fun s11 =>
        gb true (sumOk (List.length (cut a0 q10) + List.length s11)) () fun u12 =>
        gb true (slB (List.length a0) (some r2) none) (0, 0) fun q13 =>
        gb true (sumOk (List.length ((cut a0 q10) ++ s11) + List.length (cut a0 q13))) () fun u14 =>
        k0 (((cut a0 q10) ++ s11) ++ (cut a0 q13))
def law41_damaged {R : Type} (n : Nat) (a0 : List UInt8) (a1 : Int) (a2 : Int) (a3 : Int) (K : (List UInt8) → Option R) : Option R :=
  law41_damaged_p1 n a0 a1 a2 a3
    (fun z15 => K z15)
end Go.Vx
/-
  keep_Same_railplan_api_Version: the pure function
-/
set_option linter.unusedVariables false
namespace Go.Vx
def keep_Same_railplan_api_Version_p1 {R : Type} (n : Nat) (a0 : List (List D)) (a1 : List (List D)) (k0 : Option R) : Option R :=
  k0
def keep_Same_railplan_api_Version_p2 {R : Type} (n : Nat) (a0 : List (List D)) (a1 : List (List D)) (k0 : Option R) (k1 : Bool → Option R) : Option R :=
  bif (((List.length a0 : Nat) : Int) != ((List.length a1 : Nat) : Int)) then
    k0
  else
    k1 (((List.length a0 : Nat) : Int) != ((List.length a1 : Nat) : Int))
def keep_Same_railplan_api_Version_p3 {R : Type} (n : Nat) (a0 : List (List D)) (a1 : List (List D)) (w2 : Bool) (k0 : Int → Option R) : Option R :=
  k0 ((List.length a0 : Nat) : Int)
def keep_Same_railplan_api_Version_p4 {R : Type} (n : Nat) (a0 : List (List D)) (a1 : List (List D)) (w4 : Int) (h8 : Int) (k0 : Option R) (k1 : Int → Option R) (k2 : Bool → Option R) : Option R :=
  bif (decide (h8 < w4)) then
    gb true (rowAt a0 h8) [] fun r21 =>
    gb true (r21[0]?) (.bool false) fun c22 =>
    gb true (r21[1]?) (.bool false) fun c23 =>
    gb true (rowAt a1 h8) [] fun r24 =>
    gb true (r24[0]?) (.bool false) fun c25 =>
    gb true (r24[1]?) (.bool false) fun c26 =>
    gb true (pInt .i64 c22) 0 fun i27 =>
    gb true (pInt .i64 c25) 0 fun i28 =>
    gb true (pStr c23) [] fun s29 =>
    gb true (pStr c26) [] fun s30 =>
    bif (!((i27 == i28) && (s29 == s30))) then
      k0
    else
      k1 (IntKind.wrap .i64 (h8 + (1 : Int)))
  else
    k2 (decide (h8 < w4))
def keep_Same_railplan_api_Version_r5 {R : Type} (n : Nat) (a0 : List (List D)) (a1 : List (List D)) (w4 : Int) (k0 : Option R) (k1 : Int → Bool → Option R) : Nat → Int → Option R
  | 0, _ => none
  | m + 1, h8 =>
    keep_Same_railplan_api_Version_p4 n a0 a1 w4 h8
      (k0)
      (fun w33 =>
      keep_Same_railplan_api_Version_r5 n a0 a1 w4 k0 k1 m w33)
      (fun w34 =>
      k1 h8 w34)
def keep_Same_railplan_api_Version_p5 {R : Type} (n : Nat) (a0 : List (List D)) (a1 : List (List D)) (w4 : Int) (k0 : Option R) (k1 : Int → Bool → Option R) : Option R := keep_Same_railplan_api_Version_r5 n a0 a1 w4 k0 k1 n (0 : Int)
def keep_Same_railplan_api_Version_p6 {R : Type} (n : Nat) (a0 : List (List D)) (a1 : List (List D)) (w4 : Int) (k0 : Option R) (k1 : Int → Bool → Option R) : Option R :=
  keep_Same_railplan_api_Version_p5 n a0 a1 w4
    (k0)
    (fun w35 w36 =>
    k1 w35 w36)
def keep_Same_railplan_api_Version_p7 {R : Type} (n : Nat) (a0 : List (List D)) (a1 : List (List D)) (w2 : Bool) (k0 : Option R) (k1 : Int → Int → Bool → Option R) : Option R :=
  keep_Same_railplan_api_Version_p3 n a0 a1 w2
    (fun w4 =>
    keep_Same_railplan_api_Version_p6 n a0 a1 w4
      (k0)
      (fun w37 w38 =>
      k1 w4 w37 w38))
def keep_Same_railplan_api_Version_p8 {R : Type} (n : Nat) (a0 : List (List D)) (a1 : List (List D)) (w39 : Int) (w40 : Int) (w41 : Bool) (k0 : Option R) : Option R :=
  k0
def keep_Same_railplan_api_Version_p9 {R : Type} (n : Nat) (a0 : List (List D)) (a1 : List (List D)) (w2 : Bool) (k0 : Bool → Option R) : Option R :=
  keep_Same_railplan_api_Version_p7 n a0 a1 w2
    (k0 false)
    (fun w39 w40 w41 =>
    keep_Same_railplan_api_Version_p8 n a0 a1 w39 w40 w41
      (k0 true))
def keep_Same_railplan_api_Version_p10 {R : Type} (n : Nat) (a0 : List (List D)) (a1 : List (List D)) (k0 : Bool → Option R) : Option R :=
  keep_Same_railplan_api_Version_p2 n a0 a1
    (k0 false)
    (fun w2 =>
    keep_Same_railplan_api_Version_p9 n a0 a1 w2
      (fun w43 =>
      k0 w43))
def keep_Same_railplan_api_Version_p11 {R : Type} (n : Nat) (a0 : List (List D)) (a1 : List (List D)) (k0 : Bool → Option R) : Option R :=
  keep_Same_railplan_api_Version_p1 n a0 a1
    (keep_Same_railplan_api_Version_p10 n a0 a1
      (fun w45 =>
      k0 w45))
def keep_Same_railplan_api_Version {R : Type} (n : Nat) (a0 : List (List D)) (a1 : List (List D)) (K : Bool → Option R) : Option R :=
  keep_Same_railplan_api_Version_p11 n a0 a1
    (fun w45 => K w45)
end Go.Vx
/-
  law41_StoreScan: the pure function
-/
set_option linter.unusedVariables false
namespace Go.Vx
def law41_StoreScan_p1 {R : Type} (n : Nat) (a0 : List UInt8) (a1 : List (List D)) (a2 : Int) (a3 : Int) (a4 : Int) (k0 : Bool → Option R) : Option R :=
  gb true (law41_versions n a1 some) [] fun r1 =>
  gb true (law41_file n r1 some) [] fun r2 =>
  gb true (law41_damaged n r2 a2 a3 a4 some) [] fun r3 =>
  gb true (store_Scan n r2 (fun r0 r1 => some (r0, r1))) ([], 0) fun r4 =>
  gb true (ref41_Scan n r2 (fun r0 r1 => some (r0, r1))) ([], 0) fun r5 =>
  gb true (store_Scan n r3 (fun r0 r1 => some (r0, r1))) ([], 0) fun r6 =>
  gb true (ref41_Scan n r3 (fun r0 r1 => some (r0, r1))) ([], 0) fun r7 =>
  gb true (store_Scan n a0 (fun r0 r1 => some (r0, r1))) ([], 0) fun r8 =>
  gb true (ref41_Scan n a0 (fun r0 r1 => some (r0, r1))) ([], 0) fun r9 =>
  gb true (law41_awake n  some) false fun r10 =>
  gb r10 (keep_Same_railplan_api_Version n r4.1 r5.1 some) false fun r11 =>
  gb (bif (bif r10 then r11 else false) then (r4.2 == r5.2) else false) (keep_Same_railplan_api_Version n r6.1 r7.1 some) false fun r12 =>
  gb (bif (bif (bif (bif r10 then r11 else false) then (r4.2 == r5.2) else false) then r12 else false) then (r6.2 == r7.2) else false) (keep_Same_railplan_api_Version n r8.1 r9.1 some) false fun r13 =>
  k0 (bif (bif (bif (bif (bif (bif r10 then r11 else false) then (r4.2 == r5.2) else false) then r12 else false) then (r6.2 == r7.2) else false) then r13 else false) then (r8.2 == r9.2) else false)
def law41_StoreScan {R : Type} (n : Nat) (a0 : List UInt8) (a1 : List (List D)) (a2 : Int) (a3 : Int) (a4 : Int) (K : Bool → Option R) : Option R :=
  law41_StoreScan_p1 n a0 a1 a2 a3 a4
    (fun z14 => K z14)
end Go.Vx
/-
  law41_StoreAppend: the pure function
-/
set_option linter.unusedVariables false
namespace Go.Vx
def law41_StoreAppend_p1 {R : Type} (n : Nat) (a0 : List (List D)) (a1_0 : Int) (a1_1 : List UInt8) (a2 : Int) (a3 : Int) (a4 : Int) (k0 : Bool → Option R) : Option R :=
  gb true (law41_versions n a0 some) [] fun r1 =>
  gb true (law41_file n r1 some) [] fun r2 =>
  gb true (law41_damaged n r2 a2 a3 a4 some) [] fun r3 =>
  gb true (keep_Pick n a1_0 (12 : Int) some) 0 fun r4 =>
  gb true (store_Append n r3 a1_0 a1_1 (fun r0 r1 => some (r0, r1))) ([], 0) fun r5 =>
  gb true (ref41_Append n r3 a1_0 a1_1 (fun r0 r1 => some (r0, r1))) ([], 0) fun r6 =>
  gb true (store_Append n r3 r4 a1_1 (fun r0 r1 => some (r0, r1))) ([], 0) fun r7 =>
  gb true (ref41_Append n r3 r4 a1_1 (fun r0 r1 => some (r0, r1))) ([], 0) fun r8 =>
  gb true (law41_awake n  some) false fun r9 =>
  k0 (bif (bif (bif (bif r9 then (r5.1 == r6.1) else false) then (r5.2 == r6.2) else false) then (r7.1 == r8.1) else false) then (r7.2 == r8.2) else false)
def law41_StoreAppend {R : Type} (n : Nat) (a0 : List (List D)) (a1_0 : Int) (a1_1 : List UInt8) (a2 : Int) (a3 : Int) (a4 : Int) (K : Bool → Option R) : Option R :=
  law41_StoreAppend_p1 n a0 a1_0 a1_1 a2 a3 a4
    (fun z10 => K z10)
end Go.Vx
/-
  law41_StoreCrash: the pure function
-/
set_option linter.unusedVariables false
namespace Go.Vx
def law41_StoreCrash_p1 {R : Type} (n : Nat) (a0 : List (List D)) (a1_0 : Int) (a1_1 : List UInt8) (a2 : Int) (k0 : Bool → Option R) : Option R :=
  gb true (law41_versions n a0 some) [] fun r1 =>
  gb true (law41_file n r1 some) [] fun r2 =>
  gb true (ref41_Scan n r2 (fun r0 r1 => some (r0, r1))) ([], 0) fun r3 =>
  bif (decide (((List.length r3.1 : Nat) : Int) > (0 : Int))) then
    gb true (rowAt r3.1 (IntKind.wrap .i64 (((List.length r3.1 : Nat) : Int) - (1 : Int)))) [] fun r4 =>
    gb true (r4[0]?) (.bool false) fun c5 =>
    gb true (pInt .i64 c5) 0 fun i6 =>
    gb true (keep_Pick n a1_0 (5 : Int) some) 0 fun r7 =>
    gb true (store_Append n r2 (IntKind.wrap .i64 ((IntKind.wrap .i64 (i6 + (1 : Int))) + r7)) a1_1 (fun r0 r1 => some (r0, r1))) ([], 0) fun r8 =>
    bif (decide (((List.length a1_1 : Nat) : Int) > (65536 : Int))) then
      gb true (law41_awake n  some) false fun r9 =>
      k0 (bif r9 then (r8.2 == (7 : Int)) else false)
    else
      bif (bif (r8.2 != (0 : Int)) then true else (((List.length r8.1 : Nat) : Int) != (IntKind.wrap .i64 ((IntKind.wrap .i64 (r3.2 + (16 : Int))) + ((List.length a1_1 : Nat) : Int))))) then
        k0 false
      else
        gb true (keep_Pick n a2 (IntKind.wrap .i64 (((List.length r8.1 : Nat) : Int) - r3.2)) some) 0 fun r10 =>
        gb true (slB (List.length r8.1) none (some (IntKind.wrap .i64 (r3.2 + r10)))) (0, 0) fun q11 =>
        gb true (store_Scan n (cut r8.1 q11) (fun r0 r1 => some (r0, r1))) ([], 0) fun r12 =>
        gb true (store_Scan n r8.1 (fun r0 r1 => some (r0, r1))) ([], 0) fun r13 =>
        gb true (law41_awake n  some) false fun r14 =>
        gb r14 (keep_Same_railplan_api_Version n r12.1 r3.1 some) false fun r15 =>
        gb (bif (bif r14 then r15 else false) then (r12.2 == r3.2) else false) (room (List.length r3.1 * 24)) () fun u16 =>
        gb (bif (bif r14 then r15 else false) then (r12.2 == r3.2) else false) (room ((List.length (bif (bif (bif r14 then r15 else false) then (r12.2 == r3.2) else false) then r3.1 else []) + List.length [[D.int .i64 (IntKind.wrap .i64 ((IntKind.wrap .i64 (i6 + (1 : Int))) + r7)), D.str a1_1]]) * 24)) () fun u17 =>
        gb (bif (bif r14 then r15 else false) then (r12.2 == r3.2) else false) (keep_Same_railplan_api_Version n r13.1 (bif (bif (bif r14 then r15 else false) then (r12.2 == r3.2) else false) then ((bif (bif (bif r14 then r15 else false) then (r12.2 == r3.2) else false) then r3.1 else []) ++ [[D.int .i64 (IntKind.wrap .i64 ((IntKind.wrap .i64 (i6 + (1 : Int))) + r7)), D.str a1_1]]) else []) some) false fun r18 =>
        k0 (bif (bif (bif (bif r14 then r15 else false) then (r12.2 == r3.2) else false) then r18 else false) then (r13.2 == ((List.length r8.1 : Nat) : Int)) else false)
  else
    gb true (keep_Pick n a1_0 (5 : Int) some) 0 fun r19 =>
    gb true (store_Append n r2 (IntKind.wrap .i64 ((IntKind.wrap .i64 ((0 : Int) + (1 : Int))) + r19)) a1_1 (fun r0 r1 => some (r0, r1))) ([], 0) fun r20 =>
    bif (decide (((List.length a1_1 : Nat) : Int) > (65536 : Int))) then
      gb true (law41_awake n  some) false fun r21 =>
      k0 (bif r21 then (r20.2 == (7 : Int)) else false)
    else
      bif (bif (r20.2 != (0 : Int)) then true else (((List.length r20.1 : Nat) : Int) != (IntKind.wrap .i64 ((IntKind.wrap .i64 (r3.2 + (16 : Int))) + ((List.length a1_1 : Nat) : Int))))) then
        k0 false
      else
        gb true (keep_Pick n a2 (IntKind.wrap .i64 (((List.length r20.1 : Nat) : Int) - r3.2)) some) 0 fun r22 =>
        gb true (slB (List.length r20.1) none (some (IntKind.wrap .i64 (r3.2 + r22)))) (0, 0) fun q23 =>
        gb true (store_Scan n (cut r20.1 q23) (fun r0 r1 => some (r0, r1))) ([], 0) fun r24 =>
        gb true (store_Scan n r20.1 (fun r0 r1 => some (r0, r1))) ([], 0) fun r25 =>
        gb true (law41_awake n  some) false fun r26 =>
        gb r26 (keep_Same_railplan_api_Version n r24.1 r3.1 some) false fun r27 =>
        gb (bif (bif r26 then r27 else false) then (r24.2 == r3.2) else false) (room (List.length r3.1 * 24)) () fun u28 =>
        gb (bif (bif r26 then r27 else false) then (r24.2 == r3.2) else false) (room ((List.length (bif (bif (bif r26 then r27 else false) then (r24.2 == r3.2) else false) then r3.1 else []) + List.length [[D.int .i64 (IntKind.wrap .i64 ((IntKind.wrap .i64 ((0 : Int) + (1 : Int))) + r19)), D.str a1_1]]) * 24)) () fun u29 =>
        gb (bif (bif r26 then r27 else false) then (r24.2 == r3.2) else false) (keep_Same_railplan_api_Version n r25.1 (bif (bif (bif r26 then r27 else false) then (r24.2 == r3.2) else false) then ((bif (bif (bif r26 then r27 else false) then (r24.2 == r3.2) else false) then r3.1 else []) ++ [[D.int .i64 (IntKind.wrap .i64 ((IntKind.wrap .i64 ((0 : Int) + (1 : Int))) + r19)), D.str a1_1]]) else []) some) false fun r30 =>
        k0 (bif (bif (bif (bif r26 then r27 else false) then (r24.2 == r3.2) else false) then r30 else false) then (r25.2 == ((List.length r20.1 : Nat) : Int)) else false)
def law41_StoreCrash {R : Type} (n : Nat) (a0 : List (List D)) (a1_0 : Int) (a1_1 : List UInt8) (a2 : Int) (K : Bool → Option R) : Option R :=
  law41_StoreCrash_p1 n a0 a1_0 a1_1 a2
    (fun z31 => K z31)
end Go.Vx
/-
  law41_StoreAgain: the pure function
-/
set_option linter.unusedVariables false
namespace Go.Vx
def law41_StoreAgain_p1 {R : Type} (n : Nat) (a0 : List (List D)) (a1_0 : Int) (a1_1 : List UInt8) (a2 : Int) (k0 : Bool → Option R) : Option R :=
  gb true (law41_versions n a0 some) [] fun r1 =>
  gb true (law41_file n r1 some) [] fun r2 =>
  gb true (ref41_Scan n r2 (fun r0 r1 => some (r0, r1))) ([], 0) fun r3 =>
  bif (decide (((List.length r3.1 : Nat) : Int) > (0 : Int))) then
    gb true (rowAt r3.1 (IntKind.wrap .i64 (((List.length r3.1 : Nat) : Int) - (1 : Int)))) [] fun r4 =>
    gb true (r4[0]?) (.bool false) fun c5 =>
    gb true (pInt .i64 c5) 0 fun i6 =>
    gb true (keep_Pick n a1_0 (5 : Int) some) 0 fun r7 =>
    gb true (store_Append n r2 (IntKind.wrap .i64 ((IntKind.wrap .i64 (i6 + (1 : Int))) + r7)) a1_1 (fun r0 r1 => some (r0, r1))) ([], 0) fun r8 =>
    bif (bif (bif (decide (((List.length a1_1 : Nat) : Int) > (65536 : Int))) then true else (r8.2 != (0 : Int))) then true else (decide (((List.length r8.1 : Nat) : Int) ≤ r3.2))) then
      gb true (law41_awake n  some) false fun r9 =>
      k0 (bif (bif r9 then (r8.2 == (7 : Int)) else false) then (decide (((List.length a1_1 : Nat) : Int) > (65536 : Int))) else false)
    else
      gb true (keep_Pick n a2 (IntKind.wrap .i64 (((List.length r8.1 : Nat) : Int) - r3.2)) some) 0 fun r10 =>
      gb true (slB (List.length r8.1) none (some (IntKind.wrap .i64 (r3.2 + r10)))) (0, 0) fun q11 =>
      gb true (store_Append n (cut r8.1 q11) (IntKind.wrap .i64 ((IntKind.wrap .i64 (i6 + (1 : Int))) + r7)) a1_1 (fun r0 r1 => some (r0, r1))) ([], 0) fun r12 =>
      gb true (law41_awake n  some) false fun r13 =>
      k0 (bif (bif r13 then (r12.2 == (0 : Int)) else false) then (r12.1 == r8.1) else false)
  else
    gb true (keep_Pick n a1_0 (5 : Int) some) 0 fun r14 =>
    gb true (store_Append n r2 (IntKind.wrap .i64 ((IntKind.wrap .i64 ((0 : Int) + (1 : Int))) + r14)) a1_1 (fun r0 r1 => some (r0, r1))) ([], 0) fun r15 =>
    bif (bif (bif (decide (((List.length a1_1 : Nat) : Int) > (65536 : Int))) then true else (r15.2 != (0 : Int))) then true else (decide (((List.length r15.1 : Nat) : Int) ≤ r3.2))) then
      gb true (law41_awake n  some) false fun r16 =>
      k0 (bif (bif r16 then (r15.2 == (7 : Int)) else false) then (decide (((List.length a1_1 : Nat) : Int) > (65536 : Int))) else false)
    else
      gb true (keep_Pick n a2 (IntKind.wrap .i64 (((List.length r15.1 : Nat) : Int) - r3.2)) some) 0 fun r17 =>
      gb true (slB (List.length r15.1) none (some (IntKind.wrap .i64 (r3.2 + r17)))) (0, 0) fun q18 =>
      gb true (store_Append n (cut r15.1 q18) (IntKind.wrap .i64 ((IntKind.wrap .i64 ((0 : Int) + (1 : Int))) + r14)) a1_1 (fun r0 r1 => some (r0, r1))) ([], 0) fun r19 =>
      gb true (law41_awake n  some) false fun r20 =>
      k0 (bif (bif r20 then (r19.2 == (0 : Int)) else false) then (r19.1 == r15.1) else false)
def law41_StoreAgain {R : Type} (n : Nat) (a0 : List (List D)) (a1_0 : Int) (a1_1 : List UInt8) (a2 : Int) (K : Bool → Option R) : Option R :=
  law41_StoreAgain_p1 n a0 a1_0 a1_1 a2
    (fun z21 => K z21)
end Go.Vx
/-
  store_Get: the pure function
-/
set_option linter.unusedVariables false
namespace Go.Vx
def store_Get_p1 {R : Type} (n : Nat) (a0 : List UInt8) (a1 : Int) (k0 : Option R) : Option R :=
  k0
def store_Get_p2 {R : Type} (n : Nat) (a0 : List UInt8) (a1 : Int) (k0 : (List (List D)) → Option R) : Option R :=
  gb true (store_Scan n a0 (fun r0 r1 => some (r0, r1))) ([], 0) fun r1 =>
  k0 r1.1
def store_Get_p3 {R : Type} (n : Nat) (a1 : Int) (w3 : List (List D)) (k0 : Int → Option R) : Option R :=
  k0 ((List.length w3 : Nat) : Int)
def store_Get_p4 {R : Type} (n : Nat) (a1 : Int) (w3 : List (List D)) (w5 : Int) (h9 : Int) (k0 : D → D → Option R) (k1 : Int → Option R) (k2 : Bool → Option R) : Option R :=
  bif (decide (h9 < w5)) then
    gb true (rowAt w3 h9) [] fun r18 =>
    gb true (r18[0]?) (.bool false) fun c19 =>
    gb true (r18[1]?) (.bool false) fun c20 =>
    gb true (pInt .i64 c19) 0 fun i21 =>
    bif (i21 == a1) then
      k0 c19 c20
    else
      k1 (IntKind.wrap .i64 (h9 + (1 : Int)))
  else
    k2 (decide (h9 < w5))
def store_Get_r5 {R : Type} (n : Nat) (a1 : Int) (w3 : List (List D)) (w5 : Int) (k0 : D → D → Option R) (k1 : Int → Bool → Option R) : Nat → Int → Option R
  | 0, _ => none
  | m + 1, h9 =>
    store_Get_p4 n a1 w3 w5 h9
      (fun w24 w25 =>
      k0 w24 w25)
      (fun w26 =>
      store_Get_r5 n a1 w3 w5 k0 k1 m w26)
      (fun w27 =>
      k1 h9 w27)
def store_Get_p5 {R : Type} (n : Nat) (a1 : Int) (w3 : List (List D)) (w5 : Int) (k0 : D → D → Option R) (k1 : Int → Bool → Option R) : Option R := store_Get_r5 n a1 w3 w5 k0 k1 n (0 : Int)
def store_Get_p6 {R : Type} (n : Nat) (a1 : Int) (w3 : List (List D)) (w5 : Int) (k0 : D → D → Option R) (k1 : Int → Bool → Option R) : Option R :=
  store_Get_p5 n a1 w3 w5
    (fun w28 w29 =>
    k0 w28 w29)
    (fun w30 w31 =>
    k1 w30 w31)
def store_Get_p7 {R : Type} (n : Nat) (a1 : Int) (w3 : List (List D)) (k0 : D → D → Option R) (k1 : Int → Int → Bool → Option R) : Option R :=
  store_Get_p3 n a1 w3
    (fun w5 =>
    store_Get_p6 n a1 w3 w5
      (fun w32 w33 =>
      k0 w32 w33)
      (fun w34 w35 =>
      k1 w5 w34 w35))
def store_Get_p8 {R : Type} (n : Nat) (a1 : Int) (w3 : List (List D)) (w38 : Int) (w39 : Int) (w40 : Bool) (k0 : Option R) : Option R :=
  k0
def store_Get_p9 {R : Type} (n : Nat) (a1 : Int) (w3 : List (List D)) (k0 : D → D → Option R) (k1 : Option R) : Option R :=
  store_Get_p7 n a1 w3
    (fun w36 w37 =>
    k0 w36 w37)
    (fun w38 w39 w40 =>
    store_Get_p8 n a1 w3 w38 w39 w40
      (k1))
def store_Get_p10 {R : Type} (n : Nat) (a0 : List UInt8) (a1 : Int) (k0 : D → D → Option R) (k1 : Option R) : Option R :=
  store_Get_p2 n a0 a1
    (fun w3 =>
    store_Get_p9 n a1 w3
      (fun w41 w42 =>
      k0 w41 w42)
      (k1))
def store_Get_p11 {R : Type} (n : Nat) (a0 : List UInt8) (a1 : Int) (k0 : D → D → Option R) (k1 : Option R) : Option R :=
  store_Get_p1 n a0 a1
    (store_Get_p10 n a0 a1
      (fun w43 w44 =>
      k0 w43 w44)
      (k1))
def store_Get {R : Type} (n : Nat) (a0 : List UInt8) (a1 : Int) (K : D → D → Int → Option R) : Option R :=
  store_Get_p11 n a0 a1
    (fun w43 w44 => K w43 w44 (0 : Int))
    (K (D.int .i64 (0 : Int)) (D.str []) (6 : Int))
end Go.Vx
/-
  law41_StoreHistory: the pure function
-/
set_option linter.unusedVariables false
namespace Go.Vx
def law41_StoreHistory_p1 {R : Type} (n : Nat) (a0 : List (List D)) (k0 : Option R) : Option R :=
  k0
def law41_StoreHistory_p2 {R : Type} (n : Nat) (a0 : List (List D)) (k0 : (List (List D)) → Option R) : Option R :=
  gb true (law41_versions n a0 some) [] fun r1 =>
  k0 r1
def law41_StoreHistory_p3 {R : Type} (n : Nat) (w2 : List (List D)) (k0 : Option R) : Option R :=
  k0
def law41_StoreHistory_p4 {R : Type} (n : Nat) (w2 : List (List D)) (k0 : Option R) : Option R :=
  k0
def law41_StoreHistory_p5 {R : Type} (n : Nat) (w2 : List (List D)) (k0 : Int → Option R) : Option R :=
  k0 ((List.length w2 : Nat) : Int)
def law41_StoreHistory_p6 {R : Type} (n : Nat) (h5 : List UInt8) (w2 : List (List D)) (w4 : Int) (h8 : Int) (h9 : List (List D)) (k0 : Bool → Option R) : Option R :=
  k0 (decide (h8 < w4))
def law41_StoreHistory_p7 {R : Type} (n : Nat) (h5 : List UInt8) (w2 : List (List D)) (w4 : Int) (h8 : Int) (w80 : Bool) (h9 : List (List D)) (k0 : Option R) (k1 : Option R) : Option R :=
  bif w80 then
    k0
  else
    k1
def law41_StoreHistory_p8 {R : Type} (n : Nat) (h5 : List UInt8) (w2 : List (List D)) (w4 : Int) (h8 : Int) (w80 : Bool) (h9 : List (List D)) (k0 : D → D → Option R) : Option R :=
  gb true (rowAt w2 h8) [] fun r81 =>
  gb true (r81[0]?) (.bool false) fun c82 =>
  gb true (r81[1]?) (.bool false) fun c83 =>
  k0 c82 c83
def law41_StoreHistory_p9 {R : Type} (n : Nat) (h5 : List UInt8) (w2 : List (List D)) (w4 : Int) (h8 : Int) (w84 : D) (w85 : D) (h9 : List (List D)) (k0 : (List UInt8) → Int → Option R) : Option R :=
  gb true (pInt .i64 w84) 0 fun i86 =>
  gb true (pStr w85) [] fun s87 =>
  gb true (store_Append n h5 i86 s87 (fun r0 r1 => some (r0, r1))) ([], 0) fun r88 =>
  k0 r88.1 r88.2
def law41_StoreHistory_p10 {R : Type} (n : Nat) (h5 : List UInt8) (w91 : List UInt8) (w92 : Int) (w2 : List (List D)) (w4 : Int) (h8 : Int) (w84 : D) (w85 : D) (h9 : List (List D)) (k0 : Bool → Option R) : Option R :=
  gb true (pInt .i64 w84) 0 fun i93 =>
  gb ((decide (i93 ≥ (1 : Int))) && (!(((List.length h9 : Nat) : Int) == (0 : Int)))) (pInt .i64 w84) 0 fun i94 =>
  gb ((decide (i93 ≥ (1 : Int))) && (!(((List.length h9 : Nat) : Int) == (0 : Int)))) (inB (List.length h9) (IntKind.wrap .i64 (((List.length h9 : Nat) : Int) - (1 : Int)))) () fun u95 =>
  gb ((decide (i93 ≥ (1 : Int))) && (!(((List.length h9 : Nat) : Int) == (0 : Int)))) (h9[(Int.toNat (IntKind.wrap .i64 (((List.length h9 : Nat) : Int) - (1 : Int))))]?) [] fun r96 =>
  gb ((decide (i93 ≥ (1 : Int))) && (!(((List.length h9 : Nat) : Int) == (0 : Int)))) (r96[0]?) (.bool false) fun c97 =>
  gb ((decide (i93 ≥ (1 : Int))) && (!(((List.length h9 : Nat) : Int) == (0 : Int)))) (pInt .i64 c97) 0 fun i98 =>
  k0 (bif (decide (i93 ≥ (1 : Int))) then (bif (((List.length h9 : Nat) : Int) == (0 : Int)) then true else (decide (i94 > i98))) else false)
def law41_StoreHistory_p11 {R : Type} (n : Nat) (h5 : List UInt8) (w91 : List UInt8) (w92 : Int) (w100 : Bool) (w2 : List (List D)) (w4 : Int) (h8 : Int) (w84 : D) (w85 : D) (h9 : List (List D)) (k0 : Option R) (k1 : Bool → Option R) (k2 : Bool → Option R) : Option R :=
  bif (bif w100 then (w92 != (0 : Int)) else false) then
    bif (bif w100 then (w92 != (0 : Int)) else false) then
      k0
    else
      k1 (bif w100 then (w92 != (0 : Int)) else false)
  else
    gb (!w100) (pInt .i64 w84) 0 fun i101 =>
    bif (bif (bif (!w100) then (decide (i101 < (1 : Int))) else false) then (w92 != (4 : Int)) else false) then
      bif (bif (bif (!w100) then (decide (i101 < (1 : Int))) else false) then (w92 != (4 : Int)) else false) then
        k0
      else
        k1 (bif (bif (!w100) then (decide (i101 < (1 : Int))) else false) then (w92 != (4 : Int)) else false)
    else
      gb (!w100) (pInt .i64 w84) 0 fun i102 =>
      bif (bif (bif (!w100) then (decide (i102 ≥ (1 : Int))) else false) then (w92 != (20 : Int)) else false) then
        k0
      else
        k2 (bif (bif (!w100) then (decide (i102 ≥ (1 : Int))) else false) then (w92 != (20 : Int)) else false)
def law41_StoreHistory_p12 {R : Type} (n : Nat) (h5 : List UInt8) (w91 : List UInt8) (w92 : Int) (w100 : Bool) (w2 : List (List D)) (w4 : Int) (h8 : Int) (w84 : D) (w85 : D) (h9 : List (List D)) (k0 : Option R) (k1 : Bool → Option R) (k2 : Bool → Option R) : Option R :=
  law41_StoreHistory_p11 n h5 w91 w92 w100 w2 w4 h8 w84 w85 h9
    (k0)
    (fun w105 =>
    k1 w105)
    (fun w106 =>
    k2 w106)
def law41_StoreHistory_p13 {R : Type} (n : Nat) (h5 : List UInt8) (w91 : List UInt8) (w92 : Int) (w100 : Bool) (w2 : List (List D)) (w4 : Int) (h8 : Int) (w107 : Bool) (w84 : D) (w85 : D) (h9 : List (List D)) (k0 : (List (List D)) → Option R) (k1 : Option R) : Option R :=
  bif w100 then
    gb true (room ((List.length h9 + List.length [[w84, w85]]) * 24)) () fun u108 =>
    k0 (h9 ++ [[w84, w85]])
  else
    k1
def law41_StoreHistory_p14 {R : Type} (n : Nat) (h5 : List UInt8) (w91 : List UInt8) (w100 : Bool) (w2 : List (List D)) (w4 : Int) (h8 : Int) (w111 : Bool) (w84 : D) (w85 : D) (h9 : List (List D)) (k0 : (List (List D)) → Option R) (k1 : Option R) : Option R :=
  bif w100 then
    gb true (room ((List.length h9 + List.length [[w84, w85]]) * 24)) () fun u112 =>
    k0 (h9 ++ [[w84, w85]])
  else
    k1
def law41_StoreHistory_p15 {R : Type} (n : Nat) (h5 : List UInt8) (w91 : List UInt8) (w92 : Int) (w100 : Bool) (w2 : List (List D)) (w4 : Int) (h8 : Int) (w84 : D) (w85 : D) (h9 : List (List D)) (k0 : Option R) (k1 : (List (List D)) → Option R) (k2 : Option R) : Option R :=
  law41_StoreHistory_p12 n h5 w91 w92 w100 w2 w4 h8 w84 w85 h9
    (k0)
    (fun w107 =>
    law41_StoreHistory_p13 n h5 w91 w92 w100 w2 w4 h8 w107 w84 w85 h9
      (fun w110 =>
      k1 w110)
      (k2))
    (fun w111 =>
    law41_StoreHistory_p14 n h5 w91 w100 w2 w4 h8 w111 w84 w85 h9
      (fun w114 =>
      k1 w114)
      (k2))
def law41_StoreHistory_p16 {R : Type} (n : Nat) (h5 : List UInt8) (w91 : List UInt8) (w92 : Int) (w2 : List (List D)) (w4 : Int) (h8 : Int) (w84 : D) (w85 : D) (h9 : List (List D)) (k0 : Option R) (k1 : (List (List D)) → Option R) (k2 : Bool → Option R) : Option R :=
  law41_StoreHistory_p10 n h5 w91 w92 w2 w4 h8 w84 w85 h9
    (fun w100 =>
    law41_StoreHistory_p15 n h5 w91 w92 w100 w2 w4 h8 w84 w85 h9
      (k0)
      (fun w116 =>
      k1 w116)
      (k2 w100))
def law41_StoreHistory_p17 {R : Type} (n : Nat) (h5 : List UInt8) (w2 : List (List D)) (w4 : Int) (h8 : Int) (w84 : D) (w85 : D) (h9 : List (List D)) (k0 : Option R) (k1 : (List UInt8) → (List (List D)) → Option R) (k2 : (List UInt8) → Bool → Option R) : Option R :=
  law41_StoreHistory_p9 n h5 w2 w4 h8 w84 w85 h9
    (fun w91 w92 =>
    law41_StoreHistory_p16 n h5 w91 w92 w2 w4 h8 w84 w85 h9
      (k0)
      (fun w117 =>
      k1 w91 w117)
      (fun w118 =>
      k2 w91 w118))
def law41_StoreHistory_p18 {R : Type} (n : Nat) (h5 : List UInt8) (w2 : List (List D)) (w4 : Int) (h8 : Int) (w80 : Bool) (h9 : List (List D)) (k0 : Option R) (k1 : (List UInt8) → (List (List D)) → Option R) (k2 : (List UInt8) → Bool → D → D → Option R) : Option R :=
  law41_StoreHistory_p8 n h5 w2 w4 h8 w80 h9
    (fun w84 w85 =>
    law41_StoreHistory_p17 n h5 w2 w4 h8 w84 w85 h9
      (k0)
      (fun w119 w120 =>
      k1 w119 w120)
      (fun w121 w122 =>
      k2 w121 w122 w84 w85))
def law41_StoreHistory_p19 {R : Type} (n : Nat) (h5 : List UInt8) (w2 : List (List D)) (w4 : Int) (h8 : Int) (w80 : Bool) (h9 : List (List D)) (k0 : Option R) (k1 : (List UInt8) → (List (List D)) → Option R) (k2 : (List UInt8) → Bool → D → D → Option R) : Option R :=
  law41_StoreHistory_p18 n h5 w2 w4 h8 w80 h9
    (k0)
    (fun w123 w124 =>
    k1 w123 w124)
    (fun w125 w126 w127 w128 =>
    k2 w125 w126 w127 w128)
def law41_StoreHistory_p20 {R : Type} (n : Nat) (w129 : List UInt8) (w2 : List (List D)) (w4 : Int) (h8 : Int) (w130 : List (List D)) (k0 : Int → Option R) : Option R :=
  k0 (IntKind.wrap .i64 (h8 + (1 : Int)))
def law41_StoreHistory_p21 {R : Type} (n : Nat) (h5 : List UInt8) (w133 : List UInt8) (w2 : List (List D)) (w4 : Int) (h8 : Int) (w134 : Bool) (w135 : D) (w136 : D) (h9 : List (List D)) (k0 : Int → Option R) : Option R :=
  k0 (IntKind.wrap .i64 (h8 + (1 : Int)))
def law41_StoreHistory_p22 {R : Type} (n : Nat) (h5 : List UInt8) (w2 : List (List D)) (w4 : Int) (h8 : Int) (w80 : Bool) (h9 : List (List D)) (k0 : Option R) (k1 : (List UInt8) → Int → (List (List D)) → Option R) : Option R :=
  law41_StoreHistory_p19 n h5 w2 w4 h8 w80 h9
    (k0)
    (fun w129 w130 =>
    law41_StoreHistory_p20 n w129 w2 w4 h8 w130
      (fun w132 =>
      k1 w129 w132 w130))
    (fun w133 w134 w135 w136 =>
    law41_StoreHistory_p21 n h5 w133 w2 w4 h8 w134 w135 w136 h9
      (fun w138 =>
      k1 h5 w138 h9))
def law41_StoreHistory_p23 {R : Type} (n : Nat) (h5 : List UInt8) (w2 : List (List D)) (w4 : Int) (h8 : Int) (w80 : Bool) (h9 : List (List D)) (k0 : Option R) (k1 : (List UInt8) → Int → (List (List D)) → Option R) (k2 : Option R) : Option R :=
  law41_StoreHistory_p7 n h5 w2 w4 h8 w80 h9
    (law41_StoreHistory_p22 n h5 w2 w4 h8 w80 h9
      (k0)
      (fun w142 w143 w144 =>
      k1 w142 w143 w144))
    (k2)
def law41_StoreHistory_p24 {R : Type} (n : Nat) (h5 : List UInt8) (w2 : List (List D)) (w4 : Int) (h8 : Int) (h9 : List (List D)) (k0 : Option R) (k1 : (List UInt8) → Int → (List (List D)) → Option R) (k2 : Bool → Option R) : Option R :=
  law41_StoreHistory_p6 n h5 w2 w4 h8 h9
    (fun w80 =>
    law41_StoreHistory_p23 n h5 w2 w4 h8 w80 h9
      (k0)
      (fun w145 w146 w147 =>
      k1 w145 w146 w147)
      (k2 w80))
def law41_StoreHistory_r25 {R : Type} (n : Nat) (w2 : List (List D)) (w4 : Int) (k0 : Option R) (k1 : (List UInt8) → Int → Bool → (List (List D)) → Option R) : Nat → (List UInt8) → Int → (List (List D)) → Option R
  | 0, _, _, _ => none
  | m + 1, h5, h8, h9 =>
    law41_StoreHistory_p24 n h5 w2 w4 h8 h9
      (k0)
      (fun w148 w149 w150 =>
      law41_StoreHistory_r25 n w2 w4 k0 k1 m w148 w149 w150)
      (fun w151 =>
      k1 h5 h8 w151 h9)
def law41_StoreHistory_p25 {R : Type} (n : Nat) (w2 : List (List D)) (w4 : Int) (k0 : Option R) (k1 : (List UInt8) → Int → Bool → (List (List D)) → Option R) : Option R := law41_StoreHistory_r25 n w2 w4 k0 k1 n [] (0 : Int) []
def law41_StoreHistory_p26 {R : Type} (n : Nat) (w2 : List (List D)) (w4 : Int) (k0 : Option R) (k1 : (List UInt8) → Int → Bool → (List (List D)) → Option R) : Option R :=
  law41_StoreHistory_p25 n w2 w4
    (k0)
    (fun w152 w153 w154 w155 =>
    k1 w152 w153 w154 w155)
def law41_StoreHistory_p27 {R : Type} (n : Nat) (w2 : List (List D)) (k0 : Option R) (k1 : (List UInt8) → Int → Int → Bool → (List (List D)) → Option R) : Option R :=
  law41_StoreHistory_p5 n w2
    (fun w4 =>
    law41_StoreHistory_p26 n w2 w4
      (k0)
      (fun w156 w157 w158 w159 =>
      k1 w156 w4 w157 w158 w159))
def law41_StoreHistory_p28 {R : Type} (n : Nat) (w160 : List UInt8) (w2 : List (List D)) (w161 : Int) (w162 : Int) (w163 : Bool) (w164 : List (List D)) (k0 : Int → Option R) : Option R :=
  k0 ((List.length w164 : Nat) : Int)
def law41_StoreHistory_p29 {R : Type} (n : Nat) (w160 : List UInt8) (w166 : Int) (h169 : Int) (w164 : List (List D)) (k0 : Option R) (k1 : Int → Option R) (k2 : Bool → Option R) : Option R :=
  bif (decide (h169 < w166)) then
    gb true (inB (List.length w164) h169) () fun u183 =>
    gb true (w164[(Int.toNat h169)]?) [] fun r184 =>
    gb true (r184[0]?) (.bool false) fun c185 =>
    gb true (r184[1]?) (.bool false) fun c186 =>
    gb true (pInt .i64 c185) 0 fun i187 =>
    gb true (store_Get n w160 i187 (fun r0 r1 r2 => some (r0, r1, r2))) ((.bool false), (.bool false), 0) fun r188 =>
    gb (!(r188.2.2 != (0 : Int))) (pInt .i64 r188.1) 0 fun i189 =>
    gb (!(r188.2.2 != (0 : Int))) (pInt .i64 c185) 0 fun i190 =>
    gb (!(r188.2.2 != (0 : Int))) (pStr r188.2.1) [] fun s191 =>
    gb (!(r188.2.2 != (0 : Int))) (pStr c186) [] fun s192 =>
    bif (bif (r188.2.2 != (0 : Int)) then true else (!((i189 == i190) && (s191 == s192)))) then
      k0
    else
      k1 (IntKind.wrap .i64 (h169 + (1 : Int)))
  else
    k2 (decide (h169 < w166))
def law41_StoreHistory_r30 {R : Type} (n : Nat) (w160 : List UInt8) (w166 : Int) (w164 : List (List D)) (k0 : Option R) (k1 : Int → Bool → Option R) : Nat → Int → Option R
  | 0, _ => none
  | m + 1, h169 =>
    law41_StoreHistory_p29 n w160 w166 h169 w164
      (k0)
      (fun w195 =>
      law41_StoreHistory_r30 n w160 w166 w164 k0 k1 m w195)
      (fun w196 =>
      k1 h169 w196)
def law41_StoreHistory_p30 {R : Type} (n : Nat) (w160 : List UInt8) (w166 : Int) (w164 : List (List D)) (k0 : Option R) (k1 : Int → Bool → Option R) : Option R := law41_StoreHistory_r30 n w160 w166 w164 k0 k1 n (0 : Int)
def law41_StoreHistory_p31 {R : Type} (n : Nat) (w160 : List UInt8) (w166 : Int) (w164 : List (List D)) (k0 : Option R) (k1 : Int → Bool → Option R) : Option R :=
  law41_StoreHistory_p30 n w160 w166 w164
    (k0)
    (fun w197 w198 =>
    k1 w197 w198)
def law41_StoreHistory_p32 {R : Type} (n : Nat) (w160 : List UInt8) (w2 : List (List D)) (w161 : Int) (w162 : Int) (w163 : Bool) (w164 : List (List D)) (k0 : Option R) (k1 : Int → Int → Bool → Option R) : Option R :=
  law41_StoreHistory_p28 n w160 w2 w161 w162 w163 w164
    (fun w166 =>
    law41_StoreHistory_p31 n w160 w166 w164
      (k0)
      (fun w199 w200 =>
      k1 w166 w199 w200))
def law41_StoreHistory_p33 {R : Type} (n : Nat) (w160 : List UInt8) (w201 : Int) (w202 : Int) (w203 : Bool) (w164 : List (List D)) (k0 : Bool → Option R) : Option R :=
  gb true (store_Scan n w160 (fun r0 r1 => some (r0, r1))) ([], 0) fun r204 =>
  gb true (law41_awake n  some) false fun r205 =>
  gb r205 (keep_Same_railplan_api_Version n r204.1 w164 some) false fun r206 =>
  k0 (bif (bif r205 then r206 else false) then (r204.2 == ((List.length w160 : Nat) : Int)) else false)
def law41_StoreHistory_p34 {R : Type} (n : Nat) (w160 : List UInt8) (w2 : List (List D)) (w161 : Int) (w162 : Int) (w163 : Bool) (w164 : List (List D)) (k0 : Bool → Option R) : Option R :=
  law41_StoreHistory_p32 n w160 w2 w161 w162 w163 w164
    (k0 false)
    (fun w201 w202 w203 =>
    law41_StoreHistory_p33 n w160 w201 w202 w203 w164
      (fun w208 =>
      k0 w208))
def law41_StoreHistory_p35 {R : Type} (n : Nat) (w2 : List (List D)) (k0 : Bool → Option R) : Option R :=
  law41_StoreHistory_p27 n w2
    (k0 false)
    (fun w160 w161 w162 w163 w164 =>
    law41_StoreHistory_p34 n w160 w2 w161 w162 w163 w164
      (fun w210 =>
      k0 w210))
def law41_StoreHistory_p36 {R : Type} (n : Nat) (w2 : List (List D)) (k0 : Bool → Option R) : Option R :=
  law41_StoreHistory_p4 n w2
    (law41_StoreHistory_p35 n w2
      (fun w212 =>
      k0 w212))
def law41_StoreHistory_p37 {R : Type} (n : Nat) (w2 : List (List D)) (k0 : Bool → Option R) : Option R :=
  law41_StoreHistory_p3 n w2
    (law41_StoreHistory_p36 n w2
      (fun w213 =>
      k0 w213))
def law41_StoreHistory_p38 {R : Type} (n : Nat) (a0 : List (List D)) (k0 : Bool → Option R) : Option R :=
  law41_StoreHistory_p2 n a0
    (fun w2 =>
    law41_StoreHistory_p37 n w2
      (fun w214 =>
      k0 w214))
def law41_StoreHistory_p39 {R : Type} (n : Nat) (a0 : List (List D)) (k0 : Bool → Option R) : Option R :=
  law41_StoreHistory_p1 n a0
    (law41_StoreHistory_p38 n a0
      (fun w215 =>
      k0 w215))
def law41_StoreHistory {R : Type} (n : Nat) (a0 : List (List D)) (K : Bool → Option R) : Option R :=
  law41_StoreHistory_p39 n a0
    (fun w215 => K w215)
end Go.Vx
/-
  ref41_Get: the pure function
-/
set_option linter.unusedVariables false
namespace Go.Vx
def ref41_Get_p1 {R : Type} (n : Nat) (a0 : List UInt8) (a1 : Int) (k0 : Option R) : Option R :=
  k0
def ref41_Get_p2 {R : Type} (n : Nat) (a0 : List UInt8) (a1 : Int) (k0 : (List (List D)) → Option R) : Option R :=
  gb true (ref41_Scan n a0 (fun r0 r1 => some (r0, r1))) ([], 0) fun r1 =>
  k0 r1.1
def ref41_Get_p3 {R : Type} (n : Nat) (a1 : Int) (w3 : List (List D)) (k0 : Int → Option R) : Option R :=
  k0 ((List.length w3 : Nat) : Int)
def ref41_Get_p4 {R : Type} (n : Nat) (a1 : Int) (w3 : List (List D)) (w5 : Int) (h9 : Int) (k0 : D → D → Option R) (k1 : Int → Option R) (k2 : Bool → Option R) : Option R :=
  bif (decide (h9 < w5)) then
    gb true (rowAt w3 h9) [] fun r18 =>
    gb true (r18[0]?) (.bool false) fun c19 =>
    gb true (r18[1]?) (.bool false) fun c20 =>
    gb true (pInt .i64 c19) 0 fun i21 =>
    bif (i21 == a1) then
      k0 c19 c20
    else
      k1 (IntKind.wrap .i64 (h9 + (1 : Int)))
  else
    k2 (decide (h9 < w5))
def ref41_Get_r5 {R : Type} (n : Nat) (a1 : Int) (w3 : List (List D)) (w5 : Int) (k0 : D → D → Option R) (k1 : Int → Bool → Option R) : Nat → Int → Option R
  | 0, _ => none
  | m + 1, h9 =>
    ref41_Get_p4 n a1 w3 w5 h9
      (fun w24 w25 =>
      k0 w24 w25)
      (fun w26 =>
      ref41_Get_r5 n a1 w3 w5 k0 k1 m w26)
      (fun w27 =>
      k1 h9 w27)
def ref41_Get_p5 {R : Type} (n : Nat) (a1 : Int) (w3 : List (List D)) (w5 : Int) (k0 : D → D → Option R) (k1 : Int → Bool → Option R) : Option R := ref41_Get_r5 n a1 w3 w5 k0 k1 n (0 : Int)
def ref41_Get_p6 {R : Type} (n : Nat) (a1 : Int) (w3 : List (List D)) (w5 : Int) (k0 : D → D → Option R) (k1 : Int → Bool → Option R) : Option R :=
  ref41_Get_p5 n a1 w3 w5
    (fun w28 w29 =>
    k0 w28 w29)
    (fun w30 w31 =>
    k1 w30 w31)
def ref41_Get_p7 {R : Type} (n : Nat) (a1 : Int) (w3 : List (List D)) (k0 : D → D → Option R) (k1 : Int → Int → Bool → Option R) : Option R :=
  ref41_Get_p3 n a1 w3
    (fun w5 =>
    ref41_Get_p6 n a1 w3 w5
      (fun w32 w33 =>
      k0 w32 w33)
      (fun w34 w35 =>
      k1 w5 w34 w35))
def ref41_Get_p8 {R : Type} (n : Nat) (a1 : Int) (w3 : List (List D)) (w38 : Int) (w39 : Int) (w40 : Bool) (k0 : Option R) : Option R :=
  k0
def ref41_Get_p9 {R : Type} (n : Nat) (a1 : Int) (w3 : List (List D)) (k0 : D → D → Option R) (k1 : Option R) : Option R :=
  ref41_Get_p7 n a1 w3
    (fun w36 w37 =>
    k0 w36 w37)
    (fun w38 w39 w40 =>
    ref41_Get_p8 n a1 w3 w38 w39 w40
      (k1))
def ref41_Get_p10 {R : Type} (n : Nat) (a0 : List UInt8) (a1 : Int) (k0 : D → D → Option R) (k1 : Option R) : Option R :=
  ref41_Get_p2 n a0 a1
    (fun w3 =>
    ref41_Get_p9 n a1 w3
      (fun w41 w42 =>
      k0 w41 w42)
      (k1))
def ref41_Get_p11 {R : Type} (n : Nat) (a0 : List UInt8) (a1 : Int) (k0 : D → D → Option R) (k1 : Option R) : Option R :=
  ref41_Get_p1 n a0 a1
    (ref41_Get_p10 n a0 a1
      (fun w43 w44 =>
      k0 w43 w44)
      (k1))
def ref41_Get {R : Type} (n : Nat) (a0 : List UInt8) (a1 : Int) (K : D → D → Int → Option R) : Option R :=
  ref41_Get_p11 n a0 a1
    (fun w43 w44 => K w43 w44 (0 : Int))
    (K (D.int .i64 (0 : Int)) (D.str []) (6 : Int))
end Go.Vx
/-
  ref41_Latest: the pure function
-/
set_option linter.unusedVariables false
namespace Go.Vx
def ref41_Latest_p1 {R : Type} (n : Nat) (a0 : List UInt8) (k0 : Option R) (k1 : D → D → Option R) : Option R :=
  gb true (ref41_Scan n a0 (fun r0 r1 => some (r0, r1))) ([], 0) fun r1 =>
  bif (((List.length r1.1 : Nat) : Int) == (0 : Int)) then
    k0
  else
    gb true (rowAt r1.1 (IntKind.wrap .i64 (((List.length r1.1 : Nat) : Int) - (1 : Int)))) [] fun r2 =>
    gb true (r2[0]?) (.bool false) fun c3 =>
    gb true (r2[1]?) (.bool false) fun c4 =>
    k1 c3 c4
def ref41_Latest {R : Type} (n : Nat) (a0 : List UInt8) (K : D → D → Int → Option R) : Option R :=
  ref41_Latest_p1 n a0
    (K (D.int .i64 (0 : Int)) (D.str []) (6 : Int))
    (fun c3 c4 => K c3 c4 (0 : Int))
end Go.Vx
/-
  strings_Builder_WriteString: no pure function
-/
/-
  strings_Builder_String: no pure function
-/
/-
  store_Compact: the pure function
-/
set_option linter.unusedVariables false
namespace Go.Vx
def store_Compact_p1 {R : Type} (n : Nat) (a0 : List UInt8) (a1 : Int) (k0 : Option R) : Option R :=
  k0
def store_Compact_p2 {R : Type} (n : Nat) (a0 : List UInt8) (a1 : Int) (k0 : Option R) (k1 : Bool → Option R) : Option R :=
  bif (bif (decide (a1 < (1 : Int))) then true else (decide (a1 > (64 : Int)))) then
    k0
  else
    k1 (bif (decide (a1 < (1 : Int))) then true else (decide (a1 > (64 : Int))))
def store_Compact_p3 {R : Type} (n : Nat) (a0 : List UInt8) (a1 : Int) (w2 : Bool) (k0 : (List (List D)) → Option R) : Option R :=
  gb true (store_Scan n a0 (fun r0 r1 => some (r0, r1))) ([], 0) fun r3 =>
  k0 r3.1
def store_Compact_p4 {R : Type} (n : Nat) (a1 : Int) (w5 : List (List D)) (k0 : Option R) : Option R :=
  k0
def store_Compact_p5 {R : Type} (n : Nat) (a1 : Int) (w5 : List (List D)) (k0 : (List (List D)) → Int → Option R) : Option R :=
  gb true (slB (List.length w5) (some (if (0 : Int) < (IntKind.wrap .i64 (((List.length w5 : Nat) : Int) - a1)) then (IntKind.wrap .i64 (((List.length w5 : Nat) : Int) - a1)) else (0 : Int))) none) (0, 0) fun q6 =>
  k0 (cut w5 q6) ((List.length (cut w5 q6) : Nat) : Int)
def store_Compact_p6 {R : Type} (n : Nat) (w9 : List (List D)) (w10 : Int) (h13 : Int) (h14 : List (List D)) (k0 : Int → (List (List D)) → Option R) (k1 : Bool → Option R) : Option R :=
  bif (decide (h13 < w10)) then
    gb true (rowAt w9 h13) [] fun r25 =>
    gb true (r25[0]?) (.bool false) fun c26 =>
    gb true (r25[1]?) (.bool false) fun c27 =>
    gb true (pInt .i64 c26) 0 fun i28 =>
    gb true (pStr c27) [] fun s29 =>
    gb true (store_Encode n i28 s29 (fun r0 r1 => some (r0, r1))) ([], 0) fun r30 =>
    gb true (room (List.length h14 + List.length r30.1)) () fun u31 =>
    k0 (IntKind.wrap .i64 (h13 + (1 : Int))) (h14 ++ (rowsB r30.1))
  else
    k1 (decide (h13 < w10))
def store_Compact_r7 {R : Type} (n : Nat) (w9 : List (List D)) (w10 : Int) (k0 : Int → Bool → (List (List D)) → Option R) : Nat → Int → (List (List D)) → Option R
  | 0, _, _ => none
  | m + 1, h13, h14 =>
    store_Compact_p6 n w9 w10 h13 h14
      (fun w35 w36 =>
      store_Compact_r7 n w9 w10 k0 m w35 w36)
      (fun w37 =>
      k0 h13 w37 h14)
def store_Compact_p7 {R : Type} (n : Nat) (w9 : List (List D)) (w10 : Int) (k0 : Int → Bool → (List (List D)) → Option R) : Option R := store_Compact_r7 n w9 w10 k0 n (0 : Int) []
def store_Compact_p8 {R : Type} (n : Nat) (w9 : List (List D)) (w10 : Int) (k0 : Int → Bool → (List (List D)) → Option R) : Option R :=
  store_Compact_p7 n w9 w10
    (fun w38 w39 w40 =>
    k0 w38 w39 w40)
def store_Compact_p9 {R : Type} (n : Nat) (a1 : Int) (w5 : List (List D)) (k0 : (List (List D)) → Int → Int → Bool → (List (List D)) → Option R) : Option R :=
  store_Compact_p5 n a1 w5
    (fun w9 w10 =>
    store_Compact_p8 n w9 w10
      (fun w41 w42 w43 =>
      k0 w9 w10 w41 w42 w43))
def store_Compact_p10 {R : Type} (n : Nat) (w44 : List (List D)) (w45 : Int) (w46 : Int) (w47 : Bool) (w48 : List (List D)) (k0 : (List UInt8) → Option R) : Option R :=
  gb true (bytesX w48) [] fun s49 =>
  k0 s49
def store_Compact_p11 {R : Type} (n : Nat) (a1 : Int) (w5 : List (List D)) (k0 : (List UInt8) → Option R) : Option R :=
  store_Compact_p9 n a1 w5
    (fun w44 w45 w46 w47 w48 =>
    store_Compact_p10 n w44 w45 w46 w47 w48
      (fun w50 =>
      k0 w50))
def store_Compact_p12 {R : Type} (n : Nat) (a1 : Int) (w5 : List (List D)) (k0 : (List UInt8) → Option R) : Option R :=
  store_Compact_p4 n a1 w5
    (store_Compact_p11 n a1 w5
      (fun w51 =>
      k0 w51))
def store_Compact_p13 {R : Type} (n : Nat) (a0 : List UInt8) (a1 : Int) (w2 : Bool) (k0 : (List UInt8) → Option R) : Option R :=
  store_Compact_p3 n a0 a1 w2
    (fun w5 =>
    store_Compact_p12 n a1 w5
      (fun w52 =>
      k0 w52))
def store_Compact_p14 {R : Type} (n : Nat) (a0 : List UInt8) (a1 : Int) (k0 : (List UInt8) → Int → Option R) : Option R :=
  store_Compact_p2 n a0 a1
    (k0 [] (4 : Int))
    (fun w2 =>
    store_Compact_p13 n a0 a1 w2
      (fun w53 =>
      k0 w53 (0 : Int)))
def store_Compact_p15 {R : Type} (n : Nat) (a0 : List UInt8) (a1 : Int) (k0 : (List UInt8) → Int → Option R) : Option R :=
  store_Compact_p1 n a0 a1
    (store_Compact_p14 n a0 a1
      (fun w56 w57 =>
      k0 w56 w57))
def store_Compact {R : Type} (n : Nat) (a0 : List UInt8) (a1 : Int) (K : (List UInt8) → Int → Option R) : Option R :=
  store_Compact_p15 n a0 a1
    (fun w56 w57 => K w56 w57)
end Go.Vx
/-
  ref41_Compact: the pure function
-/
set_option linter.unusedVariables false
namespace Go.Vx
def ref41_Compact_p1 {R : Type} (n : Nat) (a0 : List UInt8) (a1 : Int) (k0 : Option R) : Option R :=
  k0
def ref41_Compact_p2 {R : Type} (n : Nat) (a0 : List UInt8) (a1 : Int) (k0 : Option R) (k1 : Bool → Option R) : Option R :=
  bif (bif (decide (a1 < (1 : Int))) then true else (decide (a1 > (64 : Int)))) then
    k0
  else
    k1 (bif (decide (a1 < (1 : Int))) then true else (decide (a1 > (64 : Int))))
def ref41_Compact_p3 {R : Type} (n : Nat) (a0 : List UInt8) (a1 : Int) (w2 : Bool) (k0 : (List (List D)) → Option R) : Option R :=
  gb true (ref41_Scan n a0 (fun r0 r1 => some (r0, r1))) ([], 0) fun r3 =>
  k0 r3.1
def ref41_Compact_p4 {R : Type} (n : Nat) (a1 : Int) (w5 : List (List D)) (k0 : Option R) : Option R :=
  k0
def ref41_Compact_p5 {R : Type} (n : Nat) (a1 : Int) (w5 : List (List D)) (k0 : (List (List D)) → Int → Option R) : Option R :=
  gb true (slB (List.length w5) (some (if (0 : Int) < (IntKind.wrap .i64 (((List.length w5 : Nat) : Int) - a1)) then (IntKind.wrap .i64 (((List.length w5 : Nat) : Int) - a1)) else (0 : Int))) none) (0, 0) fun q6 =>
  k0 (cut w5 q6) ((List.length (cut w5 q6) : Nat) : Int)
def ref41_Compact_p6 {R : Type} (n : Nat) (h11 : List UInt8) (w9 : List (List D)) (w10 : Int) (h14 : Int) (k0 : (List UInt8) → Int → Option R) (k1 : Bool → Option R) : Option R :=
  bif (decide (h14 < w10)) then
    gb true (rowAt w9 h14) [] fun r25 =>
    gb true (r25[0]?) (.bool false) fun c26 =>
    gb true (r25[1]?) (.bool false) fun c27 =>
    gb true (pInt .i64 c26) 0 fun i28 =>
    gb true (pStr c27) [] fun s29 =>
    gb true (ref41_Encode n i28 s29 (fun r0 r1 => some (r0, r1))) ([], 0) fun r30 =>
    gb true (sumOk (List.length h11 + List.length r30.1)) () fun u31 =>
    k0 (h11 ++ r30.1) (IntKind.wrap .i64 (h14 + (1 : Int)))
  else
    k1 (decide (h14 < w10))
def ref41_Compact_r7 {R : Type} (n : Nat) (w9 : List (List D)) (w10 : Int) (k0 : (List UInt8) → Int → Bool → Option R) : Nat → (List UInt8) → Int → Option R
  | 0, _, _ => none
  | m + 1, h11, h14 =>
    ref41_Compact_p6 n h11 w9 w10 h14
      (fun w35 w36 =>
      ref41_Compact_r7 n w9 w10 k0 m w35 w36)
      (fun w37 =>
      k0 h11 h14 w37)
def ref41_Compact_p7 {R : Type} (n : Nat) (w9 : List (List D)) (w10 : Int) (k0 : (List UInt8) → Int → Bool → Option R) : Option R := ref41_Compact_r7 n w9 w10 k0 n [] (0 : Int)
def ref41_Compact_p8 {R : Type} (n : Nat) (w9 : List (List D)) (w10 : Int) (k0 : (List UInt8) → Int → Bool → Option R) : Option R :=
  ref41_Compact_p7 n w9 w10
    (fun w38 w39 w40 =>
    k0 w38 w39 w40)
def ref41_Compact_p9 {R : Type} (n : Nat) (a1 : Int) (w5 : List (List D)) (k0 : (List UInt8) → (List (List D)) → Int → Int → Bool → Option R) : Option R :=
  ref41_Compact_p5 n a1 w5
    (fun w9 w10 =>
    ref41_Compact_p8 n w9 w10
      (fun w41 w42 w43 =>
      k0 w41 w9 w10 w42 w43))
def ref41_Compact_p10 {R : Type} (n : Nat) (w44 : List UInt8) (w45 : List (List D)) (w46 : Int) (w47 : Int) (w48 : Bool) (k0 : Option R) : Option R :=
  k0
def ref41_Compact_p11 {R : Type} (n : Nat) (a1 : Int) (w5 : List (List D)) (k0 : (List UInt8) → Option R) : Option R :=
  ref41_Compact_p9 n a1 w5
    (fun w44 w45 w46 w47 w48 =>
    ref41_Compact_p10 n w44 w45 w46 w47 w48
      (k0 w44))
def ref41_Compact_p12 {R : Type} (n : Nat) (a1 : Int) (w5 : List (List D)) (k0 : (List UInt8) → Option R) : Option R :=
  ref41_Compact_p4 n a1 w5
    (ref41_Compact_p11 n a1 w5
      (fun w49 =>
      k0 w49))
def ref41_Compact_p13 {R : Type} (n : Nat) (a0 : List UInt8) (a1 : Int) (w2 : Bool) (k0 : (List UInt8) → Option R) : Option R :=
  ref41_Compact_p3 n a0 a1 w2
    (fun w5 =>
    ref41_Compact_p12 n a1 w5
      (fun w50 =>
      k0 w50))
def ref41_Compact_p14 {R : Type} (n : Nat) (a0 : List UInt8) (a1 : Int) (k0 : (List UInt8) → Int → Option R) : Option R :=
  ref41_Compact_p2 n a0 a1
    (k0 [] (4 : Int))
    (fun w2 =>
    ref41_Compact_p13 n a0 a1 w2
      (fun w51 =>
      k0 w51 (0 : Int)))
def ref41_Compact_p15 {R : Type} (n : Nat) (a0 : List UInt8) (a1 : Int) (k0 : (List UInt8) → Int → Option R) : Option R :=
  ref41_Compact_p1 n a0 a1
    (ref41_Compact_p14 n a0 a1
      (fun w54 w55 =>
      k0 w54 w55))
def ref41_Compact {R : Type} (n : Nat) (a0 : List UInt8) (a1 : Int) (K : (List UInt8) → Int → Option R) : Option R :=
  ref41_Compact_p15 n a0 a1
    (fun w54 w55 => K w54 w55)
end Go.Vx
/-
  law41_StoreRead: the pure function
-/
set_option linter.unusedVariables false
namespace Go.Vx
def law41_StoreRead_p1 {R : Type} (n : Nat) (a0 : List UInt8) (a1 : List (List D)) (a2 : Int) (a3 : Int) (a4 : Int) (a5 : Int) (a6 : Int) (k0 : Bool → Option R) : Option R :=
  gb true (law41_versions n a1 some) [] fun r1 =>
  gb true (law41_file n r1 some) [] fun r2 =>
  gb true (keep_Pick n a2 (3 : Int) some) 0 fun r3 =>
  bif (decide (r3 > (0 : Int))) then
    gb true (nz (3 : Int)) () fun u4 =>
    gb true (law41_damaged n r2 (IntKind.wrap .i64 (Int.tdiv a2 (3 : Int))) a3 a4 some) [] fun r5 =>
    gb true (keep_Pick n a2 (7 : Int) some) 0 fun r6 =>
    bif (r6 == (0 : Int)) then
      gb true (store_Latest n a0 (fun r0 r1 r2 => some (r0, r1, r2))) ((.bool false), (.bool false), 0) fun r7 =>
      gb true (ref41_Latest n a0 (fun r0 r1 r2 => some (r0, r1, r2))) ((.bool false), (.bool false), 0) fun r8 =>
      gb true (keep_Pick n a5 (14 : Int) some) 0 fun r9 =>
      gb true (store_Get n a0 r9 (fun r0 r1 r2 => some (r0, r1, r2))) ((.bool false), (.bool false), 0) fun r10 =>
      gb true (keep_Pick n a5 (14 : Int) some) 0 fun r11 =>
      gb true (ref41_Get n a0 r11 (fun r0 r1 r2 => some (r0, r1, r2))) ((.bool false), (.bool false), 0) fun r12 =>
      gb true (keep_Pick n a6 (9 : Int) some) 0 fun r13 =>
      gb true (store_Compact n a0 (IntKind.wrap .i64 (r13 - (1 : Int))) (fun r0 r1 => some (r0, r1))) ([], 0) fun r14 =>
      gb true (keep_Pick n a6 (9 : Int) some) 0 fun r15 =>
      gb true (ref41_Compact n a0 (IntKind.wrap .i64 (r15 - (1 : Int))) (fun r0 r1 => some (r0, r1))) ([], 0) fun r16 =>
      gb true (store_Compact n a0 (65 : Int) (fun r0 r1 => some (r0, r1))) ([], 0) fun r17 =>
      gb true (law41_awake n  some) false fun r18 =>
      gb r18 (pInt .i64 r7.1) 0 fun i19 =>
      gb r18 (pInt .i64 r8.1) 0 fun i20 =>
      gb r18 (pStr r7.2.1) [] fun s21 =>
      gb r18 (pStr r8.2.1) [] fun s22 =>
      gb (bif (bif r18 then ((i19 == i20) && (s21 == s22)) else false) then (r7.2.2 == r8.2.2) else false) (pInt .i64 r10.1) 0 fun i23 =>
      gb (bif (bif r18 then ((i19 == i20) && (s21 == s22)) else false) then (r7.2.2 == r8.2.2) else false) (pInt .i64 r12.1) 0 fun i24 =>
      gb (bif (bif r18 then ((i19 == i20) && (s21 == s22)) else false) then (r7.2.2 == r8.2.2) else false) (pStr r10.2.1) [] fun s25 =>
      gb (bif (bif r18 then ((i19 == i20) && (s21 == s22)) else false) then (r7.2.2 == r8.2.2) else false) (pStr r12.2.1) [] fun s26 =>
      k0 (bif (bif (bif (bif (bif (bif (bif r18 then ((i19 == i20) && (s21 == s22)) else false) then (r7.2.2 == r8.2.2) else false) then ((i23 == i24) && (s25 == s26)) else false) then (r10.2.2 == r12.2.2) else false) then (r14.1 == r16.1) else false) then (r14.2 == r16.2) else false) then (r17.2 == (4 : Int)) else false)
    else
      gb true (store_Latest n r5 (fun r0 r1 r2 => some (r0, r1, r2))) ((.bool false), (.bool false), 0) fun r27 =>
      gb true (ref41_Latest n r5 (fun r0 r1 r2 => some (r0, r1, r2))) ((.bool false), (.bool false), 0) fun r28 =>
      gb true (keep_Pick n a5 (14 : Int) some) 0 fun r29 =>
      gb true (store_Get n r5 r29 (fun r0 r1 r2 => some (r0, r1, r2))) ((.bool false), (.bool false), 0) fun r30 =>
      gb true (keep_Pick n a5 (14 : Int) some) 0 fun r31 =>
      gb true (ref41_Get n r5 r31 (fun r0 r1 r2 => some (r0, r1, r2))) ((.bool false), (.bool false), 0) fun r32 =>
      gb true (keep_Pick n a6 (9 : Int) some) 0 fun r33 =>
      gb true (store_Compact n r5 (IntKind.wrap .i64 (r33 - (1 : Int))) (fun r0 r1 => some (r0, r1))) ([], 0) fun r34 =>
      gb true (keep_Pick n a6 (9 : Int) some) 0 fun r35 =>
      gb true (ref41_Compact n r5 (IntKind.wrap .i64 (r35 - (1 : Int))) (fun r0 r1 => some (r0, r1))) ([], 0) fun r36 =>
      gb true (store_Compact n r5 (65 : Int) (fun r0 r1 => some (r0, r1))) ([], 0) fun r37 =>
      gb true (law41_awake n  some) false fun r38 =>
      gb r38 (pInt .i64 r27.1) 0 fun i39 =>
      gb r38 (pInt .i64 r28.1) 0 fun i40 =>
      gb r38 (pStr r27.2.1) [] fun s41 =>
      gb r38 (pStr r28.2.1) [] fun s42 =>
      gb (bif (bif r38 then ((i39 == i40) && (s41 == s42)) else false) then (r27.2.2 == r28.2.2) else false) (pInt .i64 r30.1) 0 fun i43 =>
      gb (bif (bif r38 then ((i39 == i40) && (s41 == s42)) else false) then (r27.2.2 == r28.2.2) else false) (pInt .i64 r32.1) 0 fun i44 =>
      gb (bif (bif r38 then ((i39 == i40) && (s41 == s42)) else false) then (r27.2.2 == r28.2.2) else false) (pStr r30.2.1) [] fun s45 =>
      gb (bif (bif r38 then ((i39 == i40) && (s41 == s42)) else false) then (r27.2.2 == r28.2.2) else false) (pStr r32.2.1) [] fun s46 =>
      k0 (bif (bif (bif (bif (bif (bif (bif r38 then ((i39 == i40) && (s41 == s42)) else false) then (r27.2.2 == r28.2.2) else false) then ((i43 == i44) && (s45 == s46)) else false) then (r30.2.2 == r32.2.2) else false) then (r34.1 == r36.1) else false) then (r34.2 == r36.2) else false) then (r37.2 == (4 : Int)) else false)
  else
    gb true (keep_Pick n a2 (7 : Int) some) 0 fun r47 =>
    bif (r47 == (0 : Int)) then
      gb true (store_Latest n a0 (fun r0 r1 r2 => some (r0, r1, r2))) ((.bool false), (.bool false), 0) fun r48 =>
      gb true (ref41_Latest n a0 (fun r0 r1 r2 => some (r0, r1, r2))) ((.bool false), (.bool false), 0) fun r49 =>
      gb true (keep_Pick n a5 (14 : Int) some) 0 fun r50 =>
      gb true (store_Get n a0 r50 (fun r0 r1 r2 => some (r0, r1, r2))) ((.bool false), (.bool false), 0) fun r51 =>
      gb true (keep_Pick n a5 (14 : Int) some) 0 fun r52 =>
      gb true (ref41_Get n a0 r52 (fun r0 r1 r2 => some (r0, r1, r2))) ((.bool false), (.bool false), 0) fun r53 =>
      gb true (keep_Pick n a6 (9 : Int) some) 0 fun r54 =>
      gb true (store_Compact n a0 (IntKind.wrap .i64 (r54 - (1 : Int))) (fun r0 r1 => some (r0, r1))) ([], 0) fun r55 =>
      gb true (keep_Pick n a6 (9 : Int) some) 0 fun r56 =>
      gb true (ref41_Compact n a0 (IntKind.wrap .i64 (r56 - (1 : Int))) (fun r0 r1 => some (r0, r1))) ([], 0) fun r57 =>
      gb true (store_Compact n a0 (65 : Int) (fun r0 r1 => some (r0, r1))) ([], 0) fun r58 =>
      gb true (law41_awake n  some) false fun r59 =>
      gb r59 (pInt .i64 r48.1) 0 fun i60 =>
      gb r59 (pInt .i64 r49.1) 0 fun i61 =>
      gb r59 (pStr r48.2.1) [] fun s62 =>
      gb r59 (pStr r49.2.1) [] fun s63 =>
      gb (bif (bif r59 then ((i60 == i61) && (s62 == s63)) else false) then (r48.2.2 == r49.2.2) else false) (pInt .i64 r51.1) 0 fun i64 =>
      gb (bif (bif r59 then ((i60 == i61) && (s62 == s63)) else false) then (r48.2.2 == r49.2.2) else false) (pInt .i64 r53.1) 0 fun i65 =>
      gb (bif (bif r59 then ((i60 == i61) && (s62 == s63)) else false) then (r48.2.2 == r49.2.2) else false) (pStr r51.2.1) [] fun s66 =>
      gb (bif (bif r59 then ((i60 == i61) && (s62 == s63)) else false) then (r48.2.2 == r49.2.2) else false) (pStr r53.2.1) [] fun s67 =>
      k0 (bif (bif (bif (bif (bif (bif (bif r59 then ((i60 == i61) && (s62 == s63)) else false) then (r48.2.2 == r49.2.2) else false) then ((i64 == i65) && (s66 == s67)) else false) then (r51.2.2 == r53.2.2) else false) then (r55.1 == r57.1) else false) then (r55.2 == r57.2) else false) then (r58.2 == (4 : Int)) else false)
    else
      gb true (store_Latest n r2 (fun r0 r1 r2 => some (r0, r1, r2))) ((.bool false), (.bool false), 0) fun r68 =>
      gb true (ref41_Latest n r2 (fun r0 r1 r2 => some (r0, r1, r2))) ((.bool false), (.bool false), 0) fun r69 =>
      gb true (keep_Pick n a5 (14 : Int) some) 0 fun r70 =>
      gb true (store_Get n r2 r70 (fun r0 r1 r2 => some (r0, r1, r2))) ((.bool false), (.bool false), 0) fun r71 =>
      gb true (keep_Pick n a5 (14 : Int) some) 0 fun r72 =>
      gb true (ref41_Get n r2 r72 (fun r0 r1 r2 => some (r0, r1, r2))) ((.bool false), (.bool false), 0) fun r73 =>
      gb true (keep_Pick n a6 (9 : Int) some) 0 fun r74 =>
      gb true (store_Compact n r2 (IntKind.wrap .i64 (r74 - (1 : Int))) (fun r0 r1 => some (r0, r1))) ([], 0) fun r75 =>
      gb true (keep_Pick n a6 (9 : Int) some) 0 fun r76 =>
      gb true (ref41_Compact n r2 (IntKind.wrap .i64 (r76 - (1 : Int))) (fun r0 r1 => some (r0, r1))) ([], 0) fun r77 =>
      gb true (store_Compact n r2 (65 : Int) (fun r0 r1 => some (r0, r1))) ([], 0) fun r78 =>
      gb true (law41_awake n  some) false fun r79 =>
      gb r79 (pInt .i64 r68.1) 0 fun i80 =>
      gb r79 (pInt .i64 r69.1) 0 fun i81 =>
      gb r79 (pStr r68.2.1) [] fun s82 =>
      gb r79 (pStr r69.2.1) [] fun s83 =>
      gb (bif (bif r79 then ((i80 == i81) && (s82 == s83)) else false) then (r68.2.2 == r69.2.2) else false) (pInt .i64 r71.1) 0 fun i84 =>
      gb (bif (bif r79 then ((i80 == i81) && (s82 == s83)) else false) then (r68.2.2 == r69.2.2) else false) (pInt .i64 r73.1) 0 fun i85 =>
      gb (bif (bif r79 then ((i80 == i81) && (s82 == s83)) else false) then (r68.2.2 == r69.2.2) else false) (pStr r71.2.1) [] fun s86 =>
      gb (bif (bif r79 then ((i80 == i81) && (s82 == s83)) else false) then (r68.2.2 == r69.2.2) else false) (pStr r73.2.1) [] fun s87 =>
      k0 (bif (bif (bif (bif (bif (bif (bif r79 then ((i80 == i81) && (s82 == s83)) else false) then (r68.2.2 == r69.2.2) else false) then ((i84 == i85) && (s86 == s87)) else false) then (r71.2.2 == r73.2.2) else false) then (r75.1 == r77.1) else false) then (r75.2 == r77.2) else false) then (r78.2 == (4 : Int)) else false)
def law41_StoreRead {R : Type} (n : Nat) (a0 : List UInt8) (a1 : List (List D)) (a2 : Int) (a3 : Int) (a4 : Int) (a5 : Int) (a6 : Int) (K : Bool → Option R) : Option R :=
  law41_StoreRead_p1 n a0 a1 a2 a3 a4 a5 a6
    (fun z88 => K z88)
end Go.Vx
/-
  law41_StoreCompact: the pure function
-/
set_option linter.unusedVariables false
namespace Go.Vx
def law41_StoreCompact_p1 {R : Type} (n : Nat) (a0 : List (List D)) (a1 : Int) (a2 : Int) (a3 : Int) (a4 : Int) (k0 : Bool → Option R) : Option R :=
  gb true (law41_versions n a0 some) [] fun r1 =>
  gb true (law41_file n r1 some) [] fun r2 =>
  gb true (law41_damaged n r2 a1 a2 a3 some) [] fun r3 =>
  gb true (ref41_Scan n r3 (fun r0 r1 => some (r0, r1))) ([], 0) fun r4 =>
  gb true (keep_Pick n a4 (64 : Int) some) 0 fun r5 =>
  gb true (store_Compact n r3 (IntKind.wrap .i64 ((1 : Int) + r5)) (fun r0 r1 => some (r0, r1))) ([], 0) fun r6 =>
  gb true (store_Scan n r6.1 (fun r0 r1 => some (r0, r1))) ([], 0) fun r7 =>
  gb true (law41_awake n  some) false fun r8 =>
  gb (bif r8 then (r6.2 == (0 : Int)) else false) (slB (List.length r4.1) (some (if (0 : Int) < (IntKind.wrap .i64 (((List.length r4.1 : Nat) : Int) - (IntKind.wrap .i64 ((1 : Int) + r5)))) then (IntKind.wrap .i64 (((List.length r4.1 : Nat) : Int) - (IntKind.wrap .i64 ((1 : Int) + r5)))) else (0 : Int))) none) (0, 0) fun q9 =>
  gb (bif r8 then (r6.2 == (0 : Int)) else false) (keep_Same_railplan_api_Version n r7.1 (cut r4.1 q9) some) false fun r10 =>
  k0 (bif (bif (bif r8 then (r6.2 == (0 : Int)) else false) then r10 else false) then (r7.2 == ((List.length r6.1 : Nat) : Int)) else false)
def law41_StoreCompact {R : Type} (n : Nat) (a0 : List (List D)) (a1 : Int) (a2 : Int) (a3 : Int) (a4 : Int) (K : Bool → Option R) : Option R :=
  law41_StoreCompact_p1 n a0 a1 a2 a3 a4
    (fun z11 => K z11)
end Go.Vx
/-
  law41_StoreFull: the pure function
-/
set_option linter.unusedVariables false
namespace Go.Vx
def law41_StoreFull_p1 {R : Type} (n : Nat) (a0 : Int) (k0 : Option R) : Option R :=
  k0
def law41_StoreFull_p2 {R : Type} (n : Nat) (a0 : Int) (k0 : Option R) : Option R :=
  k0
def law41_StoreFull_p3 {R : Type} (n : Nat) (a0 : Int) (k0 : Int → Option R) : Option R :=
  gb true (keep_Pick n a0 (3 : Int) some) 0 fun r1 =>
  k0 (IntKind.wrap .i64 ((64 : Int) + r1))
def law41_StoreFull_p4 {R : Type} (n : Nat) (w3 : Int) (k0 : Option R) : Option R :=
  k0
def law41_StoreFull_p5 {R : Type} (n : Nat) (h4 : List UInt8) (w3 : Int) (h6 : Int) (k0 : (List UInt8) → Int → Option R) (k1 : Bool → Option R) : Option R :=
  bif (decide (h6 ≤ w3)) then
    gb true (ref41_Encode n h6 [] (fun r0 r1 => some (r0, r1))) ([], 0) fun r12 =>
    gb true (sumOk (List.length h4 + List.length r12.1)) () fun u13 =>
    k0 (h4 ++ r12.1) (IntKind.wrap .i64 (h6 + (1 : Int)))
  else
    k1 (decide (h6 ≤ w3))
def law41_StoreFull_r6 {R : Type} (n : Nat) (w3 : Int) (k0 : (List UInt8) → Int → Bool → Option R) : Nat → (List UInt8) → Int → Option R
  | 0, _, _ => none
  | m + 1, h4, h6 =>
    law41_StoreFull_p5 n h4 w3 h6
      (fun w17 w18 =>
      law41_StoreFull_r6 n w3 k0 m w17 w18)
      (fun w19 =>
      k0 h4 h6 w19)
def law41_StoreFull_p6 {R : Type} (n : Nat) (w3 : Int) (k0 : (List UInt8) → Int → Bool → Option R) : Option R := law41_StoreFull_r6 n w3 k0 n [] (1 : Int)
def law41_StoreFull_p7 {R : Type} (n : Nat) (w3 : Int) (k0 : (List UInt8) → Int → Bool → Option R) : Option R :=
  law41_StoreFull_p6 n w3
    (fun w20 w21 w22 =>
    k0 w20 w21 w22)
def law41_StoreFull_p8 {R : Type} (n : Nat) (w3 : Int) (k0 : (List UInt8) → Int → Bool → Option R) : Option R :=
  law41_StoreFull_p4 n w3
    (law41_StoreFull_p7 n w3
      (fun w23 w24 w25 =>
      k0 w23 w24 w25))
def law41_StoreFull_p9 {R : Type} (n : Nat) (w26 : List UInt8) (w3 : Int) (w27 : Int) (w28 : Bool) (k0 : Bool → Option R) : Option R :=
  gb true (store_Scan n w26 (fun r0 r1 => some (r0, r1))) ([], 0) fun r29 =>
  gb true (store_Append n w26 (IntKind.wrap .i64 (w3 + (1 : Int))) [] (fun r0 r1 => some (r0, r1))) ([], 0) fun r30 =>
  gb true (store_Compact n w26 (1 : Int) (fun r0 r1 => some (r0, r1))) ([], 0) fun r31 =>
  gb true (store_Latest n r31.1 (fun r0 r1 r2 => some (r0, r1, r2))) ((.bool false), (.bool false), 0) fun r32 =>
  gb true (law41_awake n  some) false fun r33 =>
  gb (bif (bif (bif (bif (bif r33 then (((List.length r29.1 : Nat) : Int) == (64 : Int)) else false) then (r29.2 == (1024 : Int)) else false) then (r30.2 == (7 : Int)) else false) then (r31.2 == (0 : Int)) else false) then (r32.2.2 == (0 : Int)) else false) (pInt .i64 r32.1) 0 fun i34 =>
  gb (bif (bif (bif (bif (bif r33 then (((List.length r29.1 : Nat) : Int) == (64 : Int)) else false) then (r29.2 == (1024 : Int)) else false) then (r30.2 == (7 : Int)) else false) then (r31.2 == (0 : Int)) else false) then (r32.2.2 == (0 : Int)) else false) (pStr r32.2.1) [] fun s35 =>
  k0 (bif (bif (bif (bif (bif (bif r33 then (((List.length r29.1 : Nat) : Int) == (64 : Int)) else false) then (r29.2 == (1024 : Int)) else false) then (r30.2 == (7 : Int)) else false) then (r31.2 == (0 : Int)) else false) then (r32.2.2 == (0 : Int)) else false) then ((i34 == (64 : Int)) && (s35 == [])) else false)
def law41_StoreFull_p10 {R : Type} (n : Nat) (w3 : Int) (k0 : Bool → Option R) : Option R :=
  law41_StoreFull_p8 n w3
    (fun w26 w27 w28 =>
    law41_StoreFull_p9 n w26 w3 w27 w28
      (fun w37 =>
      k0 w37))
def law41_StoreFull_p11 {R : Type} (n : Nat) (a0 : Int) (k0 : Bool → Option R) : Option R :=
  law41_StoreFull_p3 n a0
    (fun w3 =>
    law41_StoreFull_p10 n w3
      (fun w38 =>
      k0 w38))
def law41_StoreFull_p12 {R : Type} (n : Nat) (a0 : Int) (k0 : Bool → Option R) : Option R :=
  law41_StoreFull_p2 n a0
    (law41_StoreFull_p11 n a0
      (fun w39 =>
      k0 w39))
def law41_StoreFull_p13 {R : Type} (n : Nat) (a0 : Int) (k0 : Bool → Option R) : Option R :=
  law41_StoreFull_p1 n a0
    (law41_StoreFull_p12 n a0
      (fun w40 =>
      k0 w40))
def law41_StoreFull {R : Type} (n : Nat) (a0 : Int) (K : Bool → Option R) : Option R :=
  law41_StoreFull_p13 n a0
    (fun w40 => K w40)
end Go.Vx
