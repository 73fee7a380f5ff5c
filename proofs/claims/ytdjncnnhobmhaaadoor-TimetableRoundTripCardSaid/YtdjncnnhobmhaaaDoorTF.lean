/- Part of a proof: texts Vpstrings CutPrefix Vpwords isDigit Vpwords Number Vptimetable parseLine s1 Vptimetable Parse Vplaw23 awake Vpkeep Same int Vpkeep SameCycle Vpkeep SameParts Vpkeep SameTimetable V. No conditions of their own. -/
import Derived.Test.YtdjncnnhobmhaaaDoorTD
import Derived.Test.YtdjncnnhobmhaaaDoorTC
import Derived.Test.YtdjncnnhobmhaaaDoorTE
/-
  strings_CutPrefix: the interpreter computes the pure function
-/
set_option linter.unusedVariables false
set_option linter.unusedSimpArgs false
set_option maxRecDepth 100000
namespace Go.Vx
open Go.Proofs
noncomputable def strings_CutPrefix_c0 : Code := bodyOf Tryd.f39
def strings_CutPrefix_C (n : Nat) : VC := ⟨specOf [(47, internal_stringslite_CutPrefix_e n)], gtt, [cK 0 [0, 1], cK 1 [4, 5]]⟩
theorem strings_CutPrefix_VC (n : Nat) : VCOk Tryd.prog (strings_CutPrefix_C n) := gVC (specOf_ok ⟨internal_stringslite_CutPrefix_ok n, trivial⟩)
theorem strings_CutPrefix_vfn {R : Type} (n : Nat) (a0 a1 : List UInt8) (K : AV → Option R) : vfn (strings_CutPrefix_C n) n Tryd.f39 [.d (D.str a0), .d (D.str a1)] [] (retF [[0], [0]] K) = strings_CutPrefix n a0 a1 (fun r0 r1 => K (.tup [.d (D.str r0), .d (D.bool r1)])) :=
  (vfn_at (c := strings_CutPrefix_c0) (m := 11) (tm := [(0, dT a0), (1, dT a1)]) (rs := [.tmp 4, .tmp 5]) (tt := gtt) (by kernel_rfl) (by kernel_rfl) rfl (by kernel_rfl) rfl (by kernel_rfl) rfl).trans (by kernel_rfl)
def strings_CutPrefix_K : AV → Option ((List UInt8) × Bool) := fun av => match av with
  | .tup [.d (D.str r0), .d (D.bool r1)] => some (r0, r1)
  | _ => none
def strings_CutPrefix_e (n : Nat) : Entry := fun _ _ g avs _ k => match avs with
  | [c0, c1] => prT g c0 fun a0 => prT g c1 fun a1 => 
    gb g (strings_CutPrefix n a0 a1 (fun r0 r1 => some (r0, r1))) ([], false) fun r => k ⟨.tup [.d (D.str r.1), .d (D.bool r.2)], [], []⟩
  | _ => none
theorem strings_CutPrefix_ok (n : Nat) : EntryOK Tryd.prog 39 (strings_CutPrefix_e n) := by
  intro R site g avs hl k r h
  unfold strings_CutPrefix_e at h
  split at h
  rotate_left
  · cases h
  replace h := prT_some h
  obtain ⟨a0, h, le0⟩ := h
  replace h := prT_some h
  obtain ⟨a1, h, le1⟩ := h
  replace h := gb_some h
  obtain ⟨res, h, hr⟩ := h
  refine ⟨_, h, fun hg => CallOK.conv (avs' := [.d (D.str a0), .d (D.str a1)]) (.cons (le0 hg) (.cons (le1 hg) (.nil))) (callOK_fix (K := strings_CutPrefix_K) (res := res) (strings_CutPrefix_VC n) (fn := Tryd.f39) (n := n) (by kernel_rfl) (by kernel_rfl) (by kernel_rfl) (ss := [[0], [0]]) rfl ?_ ?_)⟩
  · exact (strings_CutPrefix_vfn n a0 a1 strings_CutPrefix_K).trans (hr hg)
  · intro x hx
    unfold strings_CutPrefix_K at hx
    split at hx
    · injection hx with hx; subst hx; rfl
    · cases hx
end Go.Vx
/-
  words_isDigit: the interpreter computes the pure function
-/
set_option linter.unusedVariables false
set_option linter.unusedSimpArgs false
set_option maxRecDepth 100000
namespace Go.Vx
open Go.Proofs
noncomputable def words_isDigit_c0 : Code := bodyOf Tryd.f40
def words_isDigit_C (n : Nat) : VC := ⟨specOf [], gtt, [cK 0 [0], cK 1 [2]]⟩
theorem words_isDigit_VC (n : Nat) : VCOk Tryd.prog (words_isDigit_C n) := gVC (specOf_ok trivial)
theorem words_isDigit_vfn {R : Type} (n : Nat) (a0 : Int) (K : AV → Option R) : vfn (words_isDigit_C n) n Tryd.f40 [.d (D.int .u8 a0)] [] (retF [[0]] K) = words_isDigit n a0 (fun r0 => K (.d (D.bool r0))) :=
  (vfn_at (c := words_isDigit_c0) (m := 9) (tm := [(0, .d (D.int .u8 a0))]) (rs := [.tmp 2]) (tt := gtt) (by kernel_rfl) (by kernel_rfl) rfl (by kernel_rfl) rfl (by kernel_rfl) rfl).trans (by kernel_rfl)
def words_isDigit_K : AV → Option (Bool) := fun av => match av with
  | .d (D.bool r0) => some r0
  | _ => none
def words_isDigit_e (n : Nat) : Entry := fun _ _ g avs _ k => match avs with
  | [c0] => prI g .u8 c0 fun a0 => 
    gb g (words_isDigit n a0 some) false fun r => k ⟨.d (D.bool r), [], []⟩
  | _ => none
theorem words_isDigit_ok (n : Nat) : EntryOK Tryd.prog 40 (words_isDigit_e n) := by
  intro R site g avs hl k r h
  unfold words_isDigit_e at h
  split at h
  rotate_left
  · cases h
  replace h := prI_some h
  obtain ⟨a0, h, le0⟩ := h
  replace h := gb_some h
  obtain ⟨res, h, hr⟩ := h
  refine ⟨_, h, fun hg => CallOK.conv (avs' := [.d (D.int .u8 a0)]) (.cons (le0 hg) (.nil)) (callOK_fix (K := words_isDigit_K) (res := res) (words_isDigit_VC n) (fn := Tryd.f40) (n := n) (by kernel_rfl) (by kernel_rfl) (by kernel_rfl) (ss := [[0]]) rfl ?_ ?_)⟩
  · exact (words_isDigit_vfn n a0 words_isDigit_K).trans (hr hg)
  · intro x hx
    unfold words_isDigit_K at hx
    split at hx
    · injection hx with hx; subst hx; rfl
    · cases hx
end Go.Vx
/-
  words_Number: the interpreter computes the pure function
-/
set_option linter.unusedVariables false
set_option linter.unusedSimpArgs false
set_option maxRecDepth 100000
namespace Go.Vx
open Go.Proofs
noncomputable def words_Number_c0 : Code := bodyOf Tryd.f25
noncomputable def words_Number_c1 : Code := cA [1, 1, 1, 1, 0, 1, 2, 2] (bodyOf Tryd.f25)
noncomputable def words_Number_c2 : Code := cA [1, 1, 1, 1, 1] (bodyOf Tryd.f25)
noncomputable def words_Number_c3 : Code := cA [1, 1, 1, 1, 1, 0] (bodyOf Tryd.f25)
noncomputable def words_Number_c4 : Code := cA [1, 1, 1, 1, 1, 1] (bodyOf Tryd.f25)
def words_Number_C (n : Nat) : VC := ⟨specOf [(39, strings_CutPrefix_e n), (40, words_isDigit_e n)], gtt, [cK 0 [0], cK 1 [4, 5], cK 2 [4, 5, 27], cK 3 [2, 3], cK 4 [4, 5, 6], cK 5 [4, 5, 6, 29, 30], cK 6 [4, 5, 6, 29, 30, 31], cK 7 [4, 5, 6, 7, 29, 30], cK 8 [4, 5, 6, 7, 29, 30, 37], cK 9 [2, 3], cK 10 [4, 5, 6, 29, 30], cK 11 [4, 5, 6, 29, 30, 47], cK 12 [2, 3], cK 13 [4, 5, 6, 29, 30], cK 14 [6, 49], cK 15 [6], cK 16 [2, 3]]⟩
theorem words_Number_VC (n : Nat) : VCOk Tryd.prog (words_Number_C n) := gVC (specOf_ok ⟨strings_CutPrefix_ok n, ⟨words_isDigit_ok n, trivial⟩⟩)
theorem words_Number_p1_eq {R : Type} (n : Nat) (a0 : List UInt8) (k : Exit → St → Option R) : vexec (words_Number_C n) n words_Number_c0 ⟨53, [(0, dT a0)], []⟩ k = words_Number_p1 n a0 (k .ret ⟨53, [(2, dI (0 : Int)), (3, dB false)], []⟩) (fun z3 z4 z5 => loopN (lB (words_Number_C n) n words_Number_c1) n ⟨53, [(4, dT z3), (5, dB z4), (6, dI (0 : Int)), (29, dI z5), (30, dI (0 : Int))], []⟩ (blockK 0 (seqK (words_Number_C n) n words_Number_c2 k))) := by kernel_rfl
theorem words_Number_p2_eq {R : Type} (n : Nat) (w6 : List UInt8) (w7 : Bool) (h11 w8 h13 : Int) (k : Exit → St → Option R) : vexec (words_Number_C n) n words_Number_c1 ⟨53, [(4, dT w6), (5, dB w7), (6, dI h11), (29, dI w8), (30, dI h13)], []⟩ k = words_Number_p2 n w6 w7 h11 w8 h13 (k .ret ⟨53, [(2, dI (0 : Int)), (3, dB false)], []⟩) (fun z23 z24 => k .normal ⟨53, [(4, dT w6), (5, dB w7), (6, dI z23), (29, dI w8), (30, dI z24)], []⟩) (fun z25 => k (.exit 0) ⟨53, [(4, dT w6), (5, dB w7), (6, dI h11), (29, dI w8), (30, dI h13), (31, dB z25)], []⟩) := by kernel_rfl
theorem words_Number_r3_eq {R : Type} (n : Nat) (w6 : List UInt8) (w7 : Bool) (w8 : Int) (k : Exit → St → Option R) : ∀ (m : Nat) (h11 h13 : Int), loopN (lB (words_Number_C n) n words_Number_c1) m ⟨53, [(4, dT w6), (5, dB w7), (6, dI h11), (29, dI w8), (30, dI h13)], []⟩ k = words_Number_r3 n w6 w7 w8 (k .ret ⟨53, [(2, dI (0 : Int)), (3, dB false)], []⟩) (fun h11 h13 w28 => k (.exit 0) ⟨53, [(4, dT w6), (5, dB w7), (6, dI h11), (29, dI w8), (30, dI h13), (31, dB w28)], []⟩) m h11 h13
 | 0, _, _ => rfl
 | m + 1, h11, h13 => (lS (by kernel_rfl) m k).trans ((words_Number_p2_eq n w6 w7 h11 w8 h13 (loopK (lB (words_Number_C n) n words_Number_c1) m k)).trans (cg3 (fun x0 x1 x2 => words_Number_p2 n w6 w7 h11 w8 h13 x0 x1 x2 ) rfl (funext fun w26 => funext fun w27 => words_Number_r3_eq n w6 w7 w8 k m w26 w27) rfl))
theorem words_Number_p4_eq {R : Type} (n : Nat) (w6 : List UInt8) (w7 : Bool) (w29 w8 w30 : Int) (w31 : Bool) (k : Exit → St → Option R) : (blockK 0 (seqK (words_Number_C n) n words_Number_c2 k)) (.exit 0) ⟨53, [(4, dT w6), (5, dB w7), (6, dI w29), (29, dI w8), (30, dI w30), (31, dB w31)], []⟩ = words_Number_p4 n w6 w7 w29 w8 w30 w31 (vexec (words_Number_C n) n words_Number_c3 ⟨53, [(4, dT w6), (5, dB w7), (6, dI w29), (29, dI w8), (30, dI w30), (31, dB w31)], []⟩ (seqK (words_Number_C n) n words_Number_c4 k)) := by kernel_rfl
theorem words_Number_p5_eq {R : Type} (n : Nat) (w6 : List UInt8) (w7 : Bool) (w29 w8 w30 : Int) (w31 : Bool) (k : Exit → St → Option R) : vexec (words_Number_C n) n words_Number_c3 ⟨53, [(4, dT w6), (5, dB w7), (6, dI w29), (29, dI w8), (30, dI w30), (31, dB w31)], []⟩ k = words_Number_p5 n w6 w7 w29 w8 w30 w31 (fun z32 => k .normal ⟨53, [(6, dI z32)], []⟩) (k .normal ⟨53, [(6, dI w29), (49, dB w7)], []⟩) := by kernel_rfl
theorem words_Number_p6_eq {R : Type} (n : Nat) (w33 : Int) (k : Exit → St → Option R) : (seqK (words_Number_C n) n words_Number_c4 k) .normal ⟨53, [(6, dI w33)], []⟩ = words_Number_p6 n w33 (k .ret ⟨53, [(2, dI w33), (3, dB true)], []⟩) := by kernel_rfl
theorem words_Number_p7_eq {R : Type} (n : Nat) (w29 : Int) (w7 : Bool) (k : Exit → St → Option R) : (seqK (words_Number_C n) n words_Number_c4 k) .normal ⟨53, [(6, dI w29), (49, dB w7)], []⟩ = words_Number_p7 n w29 w7 (k .ret ⟨53, [(2, dI w29), (3, dB true)], []⟩) := by kernel_rfl
theorem words_Number_p8_eq {R : Type} (n : Nat) (a0 : List UInt8) (k : Exit → St → Option R) : vexec (words_Number_C n) n words_Number_c0 ⟨53, [(0, dT a0)], []⟩ k = words_Number_p8 n a0 (fun z34 z35 => k .ret ⟨53, [(2, dI z34), (3, dB z35)], []⟩) :=
 (words_Number_p1_eq n a0 k).trans (cg2 (fun x0 x1 => words_Number_p1 n a0 x0 x1 ) rfl (funext fun w6 => funext fun w7 => funext fun w8 => (words_Number_r3_eq n w6 w7 w8 (blockK 0 (seqK (words_Number_C n) n words_Number_c2 k)) n (0 : Int) (0 : Int)).trans (cg2 (fun x0 x1 => words_Number_r3 n w6 w7 w8 x0 x1 n (0 : Int) (0 : Int)) rfl (funext fun w29 => funext fun w30 => funext fun w31 => (words_Number_p4_eq n w6 w7 w29 w8 w30 w31 k).trans (cg1 (fun x0 => words_Number_p4 n w6 w7 w29 w8 w30 w31 x0 ) ((words_Number_p5_eq n w6 w7 w29 w8 w30 w31 (seqK (words_Number_C n) n words_Number_c4 k)).trans (cg2 (fun x0 x1 => words_Number_p5 n w6 w7 w29 w8 w30 w31 x0 x1 ) (funext fun w33 => (words_Number_p6_eq n w33 k)) ((words_Number_p7_eq n w29 w7 k)))))))))
theorem words_Number_vfn {R : Type} (n : Nat) (a0 : List UInt8) (K : AV → Option R) : vfn (words_Number_C n) n Tryd.f25 [.d (D.str a0)] [] (retF [[0], [0]] K) = words_Number n a0 (fun r0 r1 => K (.tup [.d (D.int .i64 r0), .d (D.bool r1)])) :=
  (show vfn (words_Number_C n) n Tryd.f25 [.d (D.str a0)] [] (retF [[0], [0]] K) = vexec (words_Number_C n) n words_Number_c0 ⟨53, [(0, dT a0)], []⟩ (retX gtt [.tmp 2, .tmp 3] (retF [[0], [0]] K)) from vfn_at (by kernel_rfl) (by kernel_rfl) rfl (by kernel_rfl) rfl (by kernel_rfl) rfl).trans ((words_Number_p8_eq n a0 (retX gtt [.tmp 2, .tmp 3] (retF [[0], [0]] K))).trans (by kernel_rfl))
def words_Number_K : AV → Option (Int × Bool) := fun av => match av with
  | .tup [.d (D.int .i64 r0), .d (D.bool r1)] => some (r0, r1)
  | _ => none
def words_Number_e (n : Nat) : Entry := fun _ _ g avs _ k => match avs with
  | [c0] => prT g c0 fun a0 => 
    gb g (words_Number n a0 (fun r0 r1 => some (r0, r1))) (0, false) fun r => k ⟨.tup [.d (D.int .i64 r.1), .d (D.bool r.2)], [], []⟩
  | _ => none
theorem words_Number_ok (n : Nat) : EntryOK Tryd.prog 25 (words_Number_e n) := by
  intro R site g avs hl k r h
  unfold words_Number_e at h
  split at h
  rotate_left
  · cases h
  replace h := prT_some h
  obtain ⟨a0, h, le0⟩ := h
  replace h := gb_some h
  obtain ⟨res, h, hr⟩ := h
  refine ⟨_, h, fun hg => CallOK.conv (avs' := [.d (D.str a0)]) (.cons (le0 hg) (.nil)) (callOK_fix (K := words_Number_K) (res := res) (words_Number_VC n) (fn := Tryd.f25) (n := n) (by kernel_rfl) (by kernel_rfl) (by kernel_rfl) (ss := [[0], [0]]) rfl ?_ ?_)⟩
  · exact (words_Number_vfn n a0 words_Number_K).trans (hr hg)
  · intro x hx
    unfold words_Number_K at hx
    split at hx
    · injection hx with hx; subst hx; rfl
    · cases hx
end Go.Vx
/-
  timetable_parseLine_s1: the interpreter computes the pure function
-/
set_option linter.unusedVariables false
set_option linter.unusedSimpArgs false
set_option maxRecDepth 100000
namespace Go.Vx
open Go.Proofs
noncomputable def timetable_parseLine_s1_c0 : Code := bodyOf Tryd.f12
noncomputable def timetable_parseLine_s1_c1 : Code := cA [1, 1, 0, 1, 2, 2] (bodyOf Tryd.f12)
noncomputable def timetable_parseLine_s1_c2 : Code := cA [1, 1, 1] (bodyOf Tryd.f12)
noncomputable def timetable_parseLine_s1_c3 : Code := cA [1, 1, 1, 0] (bodyOf Tryd.f12)
noncomputable def timetable_parseLine_s1_c4 : Code := cA [1, 1, 1, 1] (bodyOf Tryd.f12)
noncomputable def timetable_parseLine_s1_c5 : Code := cA [1, 1, 1, 1, 1, 1, 0, 1, 2, 2] (bodyOf Tryd.f12)
noncomputable def timetable_parseLine_s1_c6 : Code := cA [1, 1, 1, 1, 1, 1, 1] (bodyOf Tryd.f12)
def timetable_parseLine_s1_C (n : Nat) : VC := ⟨specOf [(25, words_Number_e n)], gtt, [(0, ⟨[0, 1, 2], [(1000000, 1000000), (1000001, 98001), (1000002, 98004)], [], [], []⟩), cO 1 [0, 1, 2, 7] [19, 98001, 98004, 1000000], cO 2 [0, 1, 2, 7, 21, 22, 23] [19, 98001, 98004, 1000000], cO 3 [0, 1, 2, 7, 21, 22, 23, 24] [19, 98001, 98004, 1000000], cO 4 [0, 1, 2, 7, 9, 21, 22, 23] [9, 19, 98001, 98004, 1000000], cO 5 [0, 1, 2, 7, 10, 11, 21, 22, 23] [19, 98001, 98004, 1000000], cO 6 [0, 1, 2, 7, 10, 21, 22, 23, 34] [19, 98001, 98004, 1000000], cO 7 [6] [98001, 98004, 1000000], cO 8 [0, 1, 2, 7, 21, 22, 23] [38, 98001, 98004, 1000000], cO 9 [0, 1, 2, 7, 21, 22, 23] [38, 98001, 98004, 1000000], cO 10 [0, 2, 7, 40] [19, 98001, 98004, 1000000], cO 11 [0, 2, 7, 40, 41] [19, 98001, 98004, 1000000], cO 12 [0, 7, 52] [19, 98001, 98004, 1000000], cO 13 [6] [98001, 98004, 1000000], cO 14 [] [98001, 98004, 1000000], cO 15 [6] [98001, 98004, 1000000], cO 16 [0, 2, 7, 71] [19, 98001, 98004, 1000000], (17, ⟨[2], [(19, 98001), (98004, 98004), (1000000, 1000000)], [], [], []⟩), cO 18 [6] [98001, 98004, 1000000], cO 19 [0, 7, 91] [19, 98001, 98004, 1000000], cO 20 [6] [98001, 98004, 1000000], (21, ⟨[0, 7, 12], [(12, 12), (98001, 98001), (98004, 98004), (1000000, 1000000)], [], [], [19]⟩), (22, ⟨[0, 12, 97, 98, 99], [(12, 12), (98001, 98001), (98004, 98004), (1000000, 1000000)], [], [(12, 0, 1120, 3, 1), (12, 1, 1121, 3, 1)], []⟩), cO 23 [0, 12, 97, 98, 99, 100] [12, 1120, 1121, 98001, 98004, 1000000], cO 24 [0, 12, 14, 97, 98, 99] [12, 1120, 1121, 98001, 98004, 1000000], cO 25 [0, 12, 14, 97, 98, 99, 104] [12, 1120, 1121, 98001, 98004, 1000000], cO 26 [6] [98001, 98004, 1000000], cO 27 [0, 12, 14, 15, 97, 98, 99] [12, 1120, 1121, 98001, 98004, 1000000], cO 28 [0, 12, 14, 15, 97, 98, 99, 106] [12, 1120, 1121, 98001, 98004, 1000000], cO 29 [0, 12, 14, 15, 97, 98, 99] [12, 1120, 1121, 98001, 98004, 1000000], cO 30 [0, 12, 15, 97, 98, 99] [12, 115, 1121, 98001, 98004, 1000000], cO 31 [0, 12, 97, 98, 99] [12, 115, 123, 98001, 98004, 1000000], cO 32 [0, 12, 97, 98, 99] [12, 115, 123, 98001, 98004, 1000000], (33, ⟨[], [(134, 98004), (98001, 98001), (1000000, 1000000)], [], [], []⟩), cO 34 [6] [98001, 98004, 1000000], (3000000003, ⟨[0, 1, 2, 7, 21, 22, 23], [(19, 19), (38, 19), (98001, 98001), (98004, 98004), (1000000, 1000000)], [], [], []⟩), (3000000023, ⟨[0, 12, 97, 98, 99], [(12, 12), (115, 1120), (1120, 1120), (123, 1121), (1121, 1121), (98001, 98001), (98004, 98004), (1000000, 1000000)], [], [], []⟩)]⟩
theorem timetable_parseLine_s1_VC (n : Nat) : VCOk Tryd.prog (timetable_parseLine_s1_C n) := gVC (specOf_ok ⟨words_Number_ok n, trivial⟩)
theorem timetable_parseLine_s1_p1_eq {R : Type} (n : Nat) (a1 : Int) (a2 : LL) (b0_0 b0_2 b0_3 : Int) (q1 q2 : LL) (k : Exit → St → Option R) : vexec (timetable_parseLine_s1_C n) n timetable_parseLine_s1_c0 ⟨137, [(0, .ptr 1000000 0), (1, dI a1), (2, dL 3 a2)], [(1000000, .box [dI b0_0, .arr 1000001, dI b0_2, dI b0_3, .arr 1000002]), (1000001, .arr 3 1 q1), (1000002, .arr 51 3 q2)]⟩ k = timetable_parseLine_s1_p1 n a1 a2 b0_0 b0_2 b0_3 q1 q2 (fun z4 z5 z6 => loopN (lB (timetable_parseLine_s1_C n) n timetable_parseLine_s1_c1) n ⟨137, [(0, .ptr 1000000 0), (1, dI a1), (2, dL 3 a2), (7, .arr 19), (21, dL 3 z4), (22, dI z5), (23, dI (0 : Int))], [(19, .arr 3 1 z6), (98001, .arr 3 1 q1), (98004, .arr 51 3 q2), (1000000, .box [dI b0_0, .arr 98001, dI b0_2, dI b0_3, .arr 98004])]⟩ (blockK 0 (seqK (timetable_parseLine_s1_C n) n timetable_parseLine_s1_c2 k))) := by kernel_rfl
theorem timetable_parseLine_s1_p2_eq {R : Type} (n : Nat) (a1 : Int) (a2 w7 : LL) (w8 h14 : Int) (h15 q1 q2 : LL) (b0_0 b0_2 b0_3 : Int) (k : Exit → St → Option R) : vexec (timetable_parseLine_s1_C n) n timetable_parseLine_s1_c1 ⟨137, [(0, .ptr 1000000 0), (1, dI a1), (2, dL 3 a2), (7, .arr 19), (21, dL 3 w7), (22, dI w8), (23, dI h14)], [(19, .arr 3 1 h15), (98001, .arr 3 1 q1), (98004, .arr 51 3 q2), (1000000, .box [dI b0_0, .arr 98001, dI b0_2, dI b0_3, .arr 98004])]⟩ k = timetable_parseLine_s1_p2 n a1 a2 w7 w8 h14 h15 q1 q2 b0_0 b0_2 b0_3 (k .ret ⟨137, [(6, dB false)], [(98001, .arr 3 1 q1), (98004, .arr 51 3 q2), (1000000, .box [dI b0_0, .arr 98001, dI b0_2, dI b0_3, .arr 98004])]⟩) (fun z38 z39 => k .normal ⟨137, [(0, .ptr 1000000 0), (1, dI a1), (2, dL 3 a2), (7, .arr 38), (21, dL 3 w7), (22, dI w8), (23, dI z38)], [(38, .arr 3 1 z39), (98001, .arr 3 1 q1), (98004, .arr 51 3 q2), (1000000, .box [dI b0_0, .arr 98001, dI b0_2, dI b0_3, .arr 98004])]⟩) (fun z40 => k (.exit 0) ⟨137, [(0, .ptr 1000000 0), (1, dI a1), (2, dL 3 a2), (7, .arr 19), (21, dL 3 w7), (22, dI w8), (23, dI h14), (24, dB z40)], [(19, .arr 3 1 h15), (98001, .arr 3 1 q1), (98004, .arr 51 3 q2), (1000000, .box [dI b0_0, .arr 98001, dI b0_2, dI b0_3, .arr 98004])]⟩) := by kernel_rfl
theorem timetable_parseLine_s1_r3_eq {R : Type} (n : Nat) (a1 : Int) (a2 w7 : LL) (w8 : Int) (q1 q2 : LL) (b0_0 b0_2 b0_3 : Int) (k : Exit → St → Option R) : ∀ (m : Nat) (h14 : Int) (h15 : LL), loopN (lB (timetable_parseLine_s1_C n) n timetable_parseLine_s1_c1) m ⟨137, [(0, .ptr 1000000 0), (1, dI a1), (2, dL 3 a2), (7, .arr 19), (21, dL 3 w7), (22, dI w8), (23, dI h14)], [(19, .arr 3 1 h15), (98001, .arr 3 1 q1), (98004, .arr 51 3 q2), (1000000, .box [dI b0_0, .arr 98001, dI b0_2, dI b0_3, .arr 98004])]⟩ k = timetable_parseLine_s1_r3 n a1 a2 w7 w8 q1 q2 b0_0 b0_2 b0_3 (k .ret ⟨137, [(6, dB false)], [(98001, .arr 3 1 q1), (98004, .arr 51 3 q2), (1000000, .box [dI b0_0, .arr 98001, dI b0_2, dI b0_3, .arr 98004])]⟩) (fun h14 w43 h15 => k (.exit 0) ⟨137, [(0, .ptr 1000000 0), (1, dI a1), (2, dL 3 a2), (7, .arr 19), (21, dL 3 w7), (22, dI w8), (23, dI h14), (24, dB w43)], [(19, .arr 3 1 h15), (98001, .arr 3 1 q1), (98004, .arr 51 3 q2), (1000000, .box [dI b0_0, .arr 98001, dI b0_2, dI b0_3, .arr 98004])]⟩) m h14 h15
 | 0, _, _ => rfl
 | m + 1, h14, h15 => (lS (by kernel_rfl) m k).trans ((timetable_parseLine_s1_p2_eq n a1 a2 w7 w8 h14 h15 q1 q2 b0_0 b0_2 b0_3 (loopK (lB (timetable_parseLine_s1_C n) n timetable_parseLine_s1_c1) m k)).trans (cg3 (fun x0 x1 x2 => timetable_parseLine_s1_p2 n a1 a2 w7 w8 h14 h15 q1 q2 b0_0 b0_2 b0_3 x0 x1 x2 ) rfl (funext fun w41 => funext fun w42 => (loopN_at (by kernel_rfl) m k).trans (timetable_parseLine_s1_r3_eq n a1 a2 w7 w8 q1 q2 b0_0 b0_2 b0_3 k m w41 w42)) rfl))
theorem timetable_parseLine_s1_p4_eq {R : Type} (n : Nat) (a1 : Int) (a2 w7 : LL) (w8 w44 : Int) (w45 : Bool) (w46 q1 q2 : LL) (b0_0 b0_2 b0_3 : Int) (k : Exit → St → Option R) : (blockK 0 (seqK (timetable_parseLine_s1_C n) n timetable_parseLine_s1_c2 k)) (.exit 0) ⟨137, [(0, .ptr 1000000 0), (1, dI a1), (2, dL 3 a2), (7, .arr 19), (21, dL 3 w7), (22, dI w8), (23, dI w44), (24, dB w45)], [(19, .arr 3 1 w46), (98001, .arr 3 1 q1), (98004, .arr 51 3 q2), (1000000, .box [dI b0_0, .arr 98001, dI b0_2, dI b0_3, .arr 98004])]⟩ = timetable_parseLine_s1_p4 n a1 a2 w7 w8 w44 w45 w46 q1 q2 b0_0 b0_2 b0_3 (vexec (timetable_parseLine_s1_C n) n timetable_parseLine_s1_c3 ⟨137, [(0, .ptr 1000000 0), (1, dI a1), (2, dL 3 a2), (7, .arr 19), (21, dL 3 w7), (22, dI w8), (23, dI w44), (24, dB w45)], [(19, .arr 3 1 w46), (98001, .arr 3 1 q1), (98004, .arr 51 3 q2), (1000000, .box [dI b0_0, .arr 98001, dI b0_2, dI b0_3, .arr 98004])]⟩ (seqK (timetable_parseLine_s1_C n) n timetable_parseLine_s1_c4 k)) := by kernel_rfl
theorem timetable_parseLine_s1_p5_eq {R : Type} (n : Nat) (a1 : Int) (a2 w7 : LL) (w8 w44 : Int) (w45 : Bool) (w46 q1 q2 : LL) (b0_0 b0_2 b0_3 : Int) (k : Exit → St → Option R) : vexec (timetable_parseLine_s1_C n) n timetable_parseLine_s1_c3 ⟨137, [(0, .ptr 1000000 0), (1, dI a1), (2, dL 3 a2), (7, .arr 19), (21, dL 3 w7), (22, dI w8), (23, dI w44), (24, dB w45)], [(19, .arr 3 1 w46), (98001, .arr 3 1 q1), (98004, .arr 51 3 q2), (1000000, .box [dI b0_0, .arr 98001, dI b0_2, dI b0_3, .arr 98004])]⟩ k = timetable_parseLine_s1_p5 n a1 a2 w7 w8 w44 w45 w46 q1 q2 b0_0 b0_2 b0_3 (fun z65 z66 z67 z68 z69 => k .ret ⟨137, [(6, dB z65)], [(98001, .arr 3 1 z66), (98004, .arr 51 3 q2), (1000000, .box [dI z67, .arr 98001, dI z68, dI z69, .arr 98004])]⟩) (fun z70 => k .normal ⟨137, [(0, .ptr 1000000 0), (2, dL 3 a2), (7, .arr 19), (71, dB z70)], [(19, .arr 3 1 w46), (98001, .arr 3 1 q1), (98004, .arr 51 3 q2), (1000000, .box [dI b0_0, .arr 98001, dI b0_2, dI b0_3, .arr 98004])]⟩) := by kernel_rfl
theorem timetable_parseLine_s1_p6_eq {R : Type} (n : Nat) (a2 : LL) (w76 : Bool) (w46 q1 q2 : LL) (b0_0 b0_2 b0_3 : Int) (k : Exit → St → Option R) : (seqK (timetable_parseLine_s1_C n) n timetable_parseLine_s1_c4 k) .normal ⟨137, [(0, .ptr 1000000 0), (2, dL 3 a2), (7, .arr 19), (71, dB w76)], [(19, .arr 3 1 w46), (98001, .arr 3 1 q1), (98004, .arr 51 3 q2), (1000000, .box [dI b0_0, .arr 98001, dI b0_2, dI b0_3, .arr 98004])]⟩ = timetable_parseLine_s1_p6 n a2 w76 w46 q1 q2 b0_0 b0_2 b0_3 (k .ret ⟨137, [(6, dB false)], [(98001, .arr 3 1 q1), (98004, .arr 51 3 q2), (1000000, .box [dI b0_0, .arr 98001, dI b0_2, dI b0_3, .arr 98004])]⟩) (fun z85 z86 i83 => loopN (lB (timetable_parseLine_s1_C n) n timetable_parseLine_s1_c5) n ⟨137, [(0, .ptr 1000000 0), (12, .ptr 12 0), (97, dL 1 z85), (98, dI z86), (99, dI (0 : Int))], [(1121, .arr 3 1 []), (12, .box [.arr 1120, .arr 1121, dI i83]), (1120, .arr 3 1 []), (98001, .arr 3 1 q1), (98004, .arr 51 3 q2), (1000000, .box [dI b0_0, .arr 98001, dI b0_2, dI b0_3, .arr 98004])]⟩ (blockK 3 (seqK (timetable_parseLine_s1_C n) n timetable_parseLine_s1_c6 k))) := by kernel_rfl
theorem timetable_parseLine_s1_p7_eq {R : Type} (n : Nat) (w87 : LL) (w88 h92 w89 : Int) (h94 h95 q1 q2 : LL) (b0_0 b0_2 b0_3 : Int) (k : Exit → St → Option R) : vexec (timetable_parseLine_s1_C n) n timetable_parseLine_s1_c5 ⟨137, [(0, .ptr 1000000 0), (12, .ptr 12 0), (97, dL 1 w87), (98, dI w88), (99, dI h92)], [(12, .box [.arr 1120, .arr 1121, dI w89]), (1120, .arr 3 1 h94), (1121, .arr 3 1 h95), (98001, .arr 3 1 q1), (98004, .arr 51 3 q2), (1000000, .box [dI b0_0, .arr 98001, dI b0_2, dI b0_3, .arr 98004])]⟩ k = timetable_parseLine_s1_p7 n w87 w88 h92 w89 h94 h95 q1 q2 b0_0 b0_2 b0_3 (k .ret ⟨137, [(6, dB false)], [(98001, .arr 3 1 q1), (98004, .arr 51 3 q2), (1000000, .box [dI b0_0, .arr 98001, dI b0_2, dI b0_3, .arr 98004])]⟩) (fun z119 z120 z121 => k .normal ⟨137, [(0, .ptr 1000000 0), (12, .ptr 12 0), (97, dL 1 w87), (98, dI w88), (99, dI z119)], [(12, .box [.arr 115, .arr 123, dI w89]), (115, .arr 3 1 z120), (123, .arr 3 1 z121), (98001, .arr 3 1 q1), (98004, .arr 51 3 q2), (1000000, .box [dI b0_0, .arr 98001, dI b0_2, dI b0_3, .arr 98004])]⟩) (fun z122 => k (.exit 3) ⟨137, [(0, .ptr 1000000 0), (12, .ptr 12 0), (97, dL 1 w87), (98, dI w88), (99, dI h92), (100, dB z122)], [(12, .box [.arr 1120, .arr 1121, dI w89]), (1120, .arr 3 1 h94), (1121, .arr 3 1 h95), (98001, .arr 3 1 q1), (98004, .arr 51 3 q2), (1000000, .box [dI b0_0, .arr 98001, dI b0_2, dI b0_3, .arr 98004])]⟩) := by kernel_rfl
theorem timetable_parseLine_s1_r8_eq {R : Type} (n : Nat) (w87 : LL) (w88 w89 : Int) (q1 q2 : LL) (b0_0 b0_2 b0_3 : Int) (k : Exit → St → Option R) : ∀ (m : Nat) (h92 : Int) (h94 h95 : LL), loopN (lB (timetable_parseLine_s1_C n) n timetable_parseLine_s1_c5) m ⟨137, [(0, .ptr 1000000 0), (12, .ptr 12 0), (97, dL 1 w87), (98, dI w88), (99, dI h92)], [(12, .box [.arr 1120, .arr 1121, dI w89]), (1120, .arr 3 1 h94), (1121, .arr 3 1 h95), (98001, .arr 3 1 q1), (98004, .arr 51 3 q2), (1000000, .box [dI b0_0, .arr 98001, dI b0_2, dI b0_3, .arr 98004])]⟩ k = timetable_parseLine_s1_r8 n w87 w88 w89 q1 q2 b0_0 b0_2 b0_3 (k .ret ⟨137, [(6, dB false)], [(98001, .arr 3 1 q1), (98004, .arr 51 3 q2), (1000000, .box [dI b0_0, .arr 98001, dI b0_2, dI b0_3, .arr 98004])]⟩) (fun h92 w126 h94 h95 => k (.exit 3) ⟨137, [(0, .ptr 1000000 0), (12, .ptr 12 0), (97, dL 1 w87), (98, dI w88), (99, dI h92), (100, dB w126)], [(12, .box [.arr 1120, .arr 1121, dI w89]), (1120, .arr 3 1 h94), (1121, .arr 3 1 h95), (98001, .arr 3 1 q1), (98004, .arr 51 3 q2), (1000000, .box [dI b0_0, .arr 98001, dI b0_2, dI b0_3, .arr 98004])]⟩) m h92 h94 h95
 | 0, _, _, _ => rfl
 | m + 1, h92, h94, h95 => (lS (by kernel_rfl) m k).trans ((timetable_parseLine_s1_p7_eq n w87 w88 h92 w89 h94 h95 q1 q2 b0_0 b0_2 b0_3 (loopK (lB (timetable_parseLine_s1_C n) n timetable_parseLine_s1_c5) m k)).trans (cg3 (fun x0 x1 x2 => timetable_parseLine_s1_p7 n w87 w88 h92 w89 h94 h95 q1 q2 b0_0 b0_2 b0_3 x0 x1 x2 ) rfl (funext fun w123 => funext fun w124 => funext fun w125 => (loopN_at (by kernel_rfl) m k).trans (timetable_parseLine_s1_r8_eq n w87 w88 w89 q1 q2 b0_0 b0_2 b0_3 k m w123 w124 w125)) rfl))
theorem timetable_parseLine_s1_p9_eq {R : Type} (n : Nat) (w87 : LL) (w88 w127 : Int) (w128 : Bool) (w89 : Int) (w129 w130 q1 q2 : LL) (b0_0 b0_2 b0_3 : Int) (k : Exit → St → Option R) : (blockK 3 (seqK (timetable_parseLine_s1_C n) n timetable_parseLine_s1_c6 k)) (.exit 3) ⟨137, [(0, .ptr 1000000 0), (12, .ptr 12 0), (97, dL 1 w87), (98, dI w88), (99, dI w127), (100, dB w128)], [(12, .box [.arr 1120, .arr 1121, dI w89]), (1120, .arr 3 1 w129), (1121, .arr 3 1 w130), (98001, .arr 3 1 q1), (98004, .arr 51 3 q2), (1000000, .box [dI b0_0, .arr 98001, dI b0_2, dI b0_3, .arr 98004])]⟩ = timetable_parseLine_s1_p9 n w87 w88 w127 w128 w89 w129 w130 q1 q2 b0_0 b0_2 b0_3 (fun z132 => k .ret ⟨137, [(6, dB true)], [(98001, .arr 3 1 q1), (98004, .arr 51 3 z132), (1000000, .box [dI b0_0, .arr 98001, dI b0_2, dI b0_3, .arr 98004])]⟩) := by kernel_rfl
theorem timetable_parseLine_s1_p10_eq {R : Type} (n : Nat) (a1 : Int) (a2 : LL) (b0_0 b0_2 b0_3 : Int) (q1 q2 : LL) (k : Exit → St → Option R) : vexec (timetable_parseLine_s1_C n) n timetable_parseLine_s1_c0 ⟨137, [(0, .ptr 1000000 0), (1, dI a1), (2, dL 3 a2)], [(1000000, .box [dI b0_0, .arr 1000001, dI b0_2, dI b0_3, .arr 1000002]), (1000001, .arr 3 1 q1), (1000002, .arr 51 3 q2)]⟩ k = timetable_parseLine_s1_p10 n a1 a2 b0_0 b0_2 b0_3 q1 q2 (fun z134 z135 z136 z137 z138 z139 => k .ret ⟨137, [(6, dB z134)], [(98001, .arr 3 1 z135), (98004, .arr 51 3 z136), (1000000, .box [dI z137, .arr 98001, dI z138, dI z139, .arr 98004])]⟩) :=
 (timetable_parseLine_s1_p1_eq n a1 a2 b0_0 b0_2 b0_3 q1 q2 k).trans (cg1 (fun x0 => timetable_parseLine_s1_p1 n a1 a2 b0_0 b0_2 b0_3 q1 q2 x0 ) (funext fun w7 => funext fun w8 => funext fun w9 => ((loopN_at (by kernel_rfl) n (blockK 0 (seqK (timetable_parseLine_s1_C n) n timetable_parseLine_s1_c2 k))).trans (timetable_parseLine_s1_r3_eq n a1 a2 w7 w8 q1 q2 b0_0 b0_2 b0_3 (blockK 0 (seqK (timetable_parseLine_s1_C n) n timetable_parseLine_s1_c2 k)) n (0 : Int) w9)).trans (cg2 (fun x0 x1 => timetable_parseLine_s1_r3 n a1 a2 w7 w8 q1 q2 b0_0 b0_2 b0_3 x0 x1 n (0 : Int) w9) rfl (funext fun w44 => funext fun w45 => funext fun w46 => (timetable_parseLine_s1_p4_eq n a1 a2 w7 w8 w44 w45 w46 q1 q2 b0_0 b0_2 b0_3 k).trans (cg1 (fun x0 => timetable_parseLine_s1_p4 n a1 a2 w7 w8 w44 w45 w46 q1 q2 b0_0 b0_2 b0_3 x0 ) ((timetable_parseLine_s1_p5_eq n a1 a2 w7 w8 w44 w45 w46 q1 q2 b0_0 b0_2 b0_3 (seqK (timetable_parseLine_s1_C n) n timetable_parseLine_s1_c4 k)).trans (cg2 (fun x0 x1 => timetable_parseLine_s1_p5 n a1 a2 w7 w8 w44 w45 w46 q1 q2 b0_0 b0_2 b0_3 x0 x1 ) rfl (funext fun w76 => (timetable_parseLine_s1_p6_eq n a2 w76 w46 q1 q2 b0_0 b0_2 b0_3 k).trans (cg2 (fun x0 x1 => timetable_parseLine_s1_p6 n a2 w76 w46 q1 q2 b0_0 b0_2 b0_3 x0 x1 ) rfl (funext fun w87 => funext fun w88 => funext fun w89 => ((loopN_at (by kernel_rfl) n (blockK 3 (seqK (timetable_parseLine_s1_C n) n timetable_parseLine_s1_c6 k))).trans (timetable_parseLine_s1_r8_eq n w87 w88 w89 q1 q2 b0_0 b0_2 b0_3 (blockK 3 (seqK (timetable_parseLine_s1_C n) n timetable_parseLine_s1_c6 k)) n (0 : Int) [] [])).trans (cg2 (fun x0 x1 => timetable_parseLine_s1_r8 n w87 w88 w89 q1 q2 b0_0 b0_2 b0_3 x0 x1 n (0 : Int) [] []) rfl (funext fun w127 => funext fun w128 => funext fun w129 => funext fun w130 => (timetable_parseLine_s1_p9_eq n w87 w88 w127 w128 w89 w129 w130 q1 q2 b0_0 b0_2 b0_3 k)))))))))))))
def timetable_parseLine_s1_Ko : AV → List (Nat × Ob) → Option (Bool × Int × LL × Int × Int × LL) := fun av H => (look H 1000000).bind fun o0 => (look H 98001).bind fun o1 => (look H 98004).bind fun o2 => match av, o0, o1, o2 with
  | .d (D.bool r0), .box [.d (D.int .i64 r1), .arr p0, .d (D.int .i64 r3), .d (D.int .i64 r4), .arr p1], .arr p2 p3 r2, .arr p4 p5 r5 => bif Nat.beq p0 98001 && (Nat.beq p1 98004 && (Nat.beq p2 3 && (Nat.beq p3 1 && (Nat.beq p4 51 && (Nat.beq p5 3 && ((look H 1000001).isNone && ((look H 1000002).isNone))))))) then some (r0, r1, r2, r3, r4, r5) else none
  | _, _, _, _ => none
theorem timetable_parseLine_s1_vfo (n : Nat) (b0_0 : Int) (q1 : LL) (b0_2 b0_3 : Int) (q2 : LL) (a1 : Int) (a2 : LL) : vfn (timetable_parseLine_s1_C n) n Tryd.f12 [.ptr 1000000 0, .d (D.int .i64 a1), .d (D.sl 3 a2)] [(1000000, .box [.d (D.int .i64 b0_0), .arr 1000001, .d (D.int .i64 b0_2), .d (D.int .i64 b0_3), .arr 1000002]), (1000001, .arr 3 1 q1), (1000002, .arr 51 3 q2)] timetable_parseLine_s1_Ko = timetable_parseLine_s1 n b0_0 q1 b0_2 b0_3 q2 a1 a2 (fun r0 r1 r2 r3 r4 r5 => some (r0, r1, r2, r3, r4, r5)) :=
  (show vfn (timetable_parseLine_s1_C n) n Tryd.f12 [.ptr 1000000 0, .d (D.int .i64 a1), .d (D.sl 3 a2)] [(1000000, .box [.d (D.int .i64 b0_0), .arr 1000001, .d (D.int .i64 b0_2), .d (D.int .i64 b0_3), .arr 1000002]), (1000001, .arr 3 1 q1), (1000002, .arr 51 3 q2)] timetable_parseLine_s1_Ko = vexec (timetable_parseLine_s1_C n) n timetable_parseLine_s1_c0 ⟨137, [(0, .ptr 1000000 0), (1, dI a1), (2, dL 3 a2)], [(1000000, .box [dI b0_0, .arr 1000001, dI b0_2, dI b0_3, .arr 1000002]), (1000001, .arr 3 1 q1), (1000002, .arr 51 3 q2)]⟩ (retX gtt [.tmp 6] timetable_parseLine_s1_Ko) from vfn_at (by kernel_rfl) (by kernel_rfl) rfl (by kernel_rfl) rfl (by kernel_rfl) rfl).trans ((timetable_parseLine_s1_p10_eq n a1 a2 b0_0 b0_2 b0_3 q1 q2 (retX gtt [.tmp 6] timetable_parseLine_s1_Ko)).trans (by kernel_rfl))
def timetable_parseLine_s1_s (n : Nat) : Entry := fun _ site g avs hl k => match avs with
  | [c0, c1, c2] => prP hl c0 fun l0 bl0 => (match bl0 with
    | [xl0_0, xl0_1, xl0_2, xl0_3, xl0_4] => prI g .i64 xl0_0 fun b0_0 => prR hl 3 1 xl0_1 fun l1 q1 => prI g .i64 xl0_2 fun b0_2 => prI g .i64 xl0_3 fun b0_3 => prR hl 51 3 xl0_4 fun l2 q2 => prI g .i64 c1 fun a1 => prS g 3 c2 fun a2 => 
    bif newsOk hl [(1000000, l0), (1000001, l1), (1000002, l2)] [(98001, (site + 100000)), (98004, (site + 200000))] then gb g (timetable_parseLine_s1 n b0_0 q1 b0_2 b0_3 q2 a1 a2 (fun r0 r1 r2 r3 r4 r5 => some (r0, r1, r2, r3, r4, r5))) (false, 0, [], 0, 0, []) fun r => k ⟨.d (D.bool r.1), [(l0, some (.box [.d (D.int .i64 r.2.1), .arr (site + 100000), .d (D.int .i64 r.2.2.2.1), .d (D.int .i64 r.2.2.2.2.1), .arr (site + 200000)])), (l1, none), (l2, none), ((site + 100000), some (.arr 3 1 r.2.2.1)), ((site + 200000), some (.arr 51 3 r.2.2.2.2.2))], [l0, l1, l2]⟩ else none
    | _ => none)
  | _ => none
theorem timetable_parseLine_s1_so (n : Nat) : EntryOK Tryd.prog 12 (timetable_parseLine_s1_s n) := by
  intro R site g avs hl k r h
  unfold timetable_parseLine_s1_s at h
  split at h
  rotate_left
  · cases h
  replace h := prP_some h
  obtain ⟨l0, bl0, h, el0, hbl0⟩ := h
  subst el0
  split at h
  rotate_left
  · cases h
  replace h := prI_some h
  obtain ⟨b0_0, h, le0⟩ := h
  replace h := prR_some h
  obtain ⟨l1, q1, h, el1, hbl1⟩ := h
  subst el1
  replace h := prI_some h
  obtain ⟨b0_2, h, le1⟩ := h
  replace h := prI_some h
  obtain ⟨b0_3, h, le2⟩ := h
  replace h := prR_some h
  obtain ⟨l2, q2, h, el2, hbl2⟩ := h
  subst el2
  replace h := prI_some h
  obtain ⟨a1, h, le3⟩ := h
  replace h := prS_some h
  obtain ⟨a2, h, le4⟩ := h
  replace h := bif_some h
  obtain ⟨hc, h⟩ := h
  replace h := gb_some h
  obtain ⟨res, h, hr⟩ := h
  refine ⟨_, h, fun hg => callOK_sh (K := timetable_parseLine_s1_Ko) (res := res) (timetable_parseLine_s1_VC n) (fn := Tryd.f12) (n := n) (by kernel_rfl) (by kernel_rfl) (by kernel_rfl) (ρ := [(1000000, l0), (1000001, l1), (1000002, l2)]) (ν := [(98001, (site + 100000)), (98004, (site + 200000))]) (avs' := [.ptr 1000000 0, .d (D.int .i64 a1), .d (D.sl 3 a2)]) (H := [(1000000, .box [.d (D.int .i64 b0_0), .arr 1000001, .d (D.int .i64 b0_2), .d (D.int .i64 b0_3), .arr 1000002]), (1000001, .arr 3 1 q1), (1000002, .arr 51 3 q2)]) (.cons (.own rfl rfl) (.cons (.data rfl (le3 hg)) (.cons (.data rfl (le4 hg)) (.nil)))) rfl rfl hc (⟨⟨by decide, _, _, hbl0, rfl, .box (.cons (.data rfl (le0 hg)) (.cons (.own rfl rfl) (.cons (.data rfl (le1 hg)) (.cons (.data rfl (le2 hg)) (.cons (.own rfl rfl) (.nil))))))⟩, ⟨⟨by decide, _, _, hbl1, rfl, .arr _ _ _⟩, ⟨⟨by decide, _, _, hbl2, rfl, .arr _ _ _⟩, trivial⟩⟩⟩) rfl rfl ?_ ?_⟩
  · exact (timetable_parseLine_s1_vfo n b0_0 q1 b0_2 b0_3 q2 a1 a2).trans (hr hg)
  · intro av H' hx
    unfold timetable_parseLine_s1_Ko at hx
    replace hx := Option.bind_eq_some_iff.1 hx
    obtain ⟨o0, ho0, hx⟩ := hx
    replace hx := Option.bind_eq_some_iff.1 hx
    obtain ⟨o1, ho1, hx⟩ := hx
    replace hx := Option.bind_eq_some_iff.1 hx
    obtain ⟨o2, ho2, hx⟩ := hx
    split at hx
    rotate_left
    · cases hx
    replace hx := bif_some hx
    obtain ⟨hck, hx⟩ := hx
    simp only [Bool.and_eq_true] at hck
    obtain ⟨ek0, ek1, ek2, ek3, ek4, ek5, hn0, hn1⟩ := hck
    have ek0 := Nat.eq_of_beq_eq_true ek0
    subst ek0
    have ek1 := Nat.eq_of_beq_eq_true ek1
    subst ek1
    have ek2 := Nat.eq_of_beq_eq_true ek2
    subst ek2
    have ek3 := Nat.eq_of_beq_eq_true ek3
    subst ek3
    have ek4 := Nat.eq_of_beq_eq_true ek4
    subst ek4
    have ek5 := Nat.eq_of_beq_eq_true ek5
    subst ek5
    have hn0 := Option.isNone_iff_eq_none.1 hn0
    have hn1 := Option.isNone_iff_eq_none.1 hn1
    injection hx with hx
    subst hx
    refine ⟨rfl, ?_, ⟨by rw [ho1]; rfl, ⟨by rw [ho2]; rfl, trivial⟩⟩, ⟨endOk_box rfl ho0 rfl, ⟨endOk_gone rfl hn0, ⟨endOk_gone rfl hn1, trivial⟩⟩⟩⟩
    simp only [List.cons_append, List.nil_append, outWr, ho0, ho1, ho2, hn0, hn1, Option.map_some, Option.map_none]
    rfl
end Go.Vx
/-
  timetable_Parse: the interpreter computes the pure function
-/
set_option linter.unusedVariables false
set_option linter.unusedSimpArgs false
set_option maxRecDepth 100000
namespace Go.Vx
open Go.Proofs
noncomputable def timetable_Parse_c0 : Code := bodyOf Tryd.f5
noncomputable def timetable_Parse_c1 : Code := cA [1, 1, 1, 1, 0, 1, 2, 2] (bodyOf Tryd.f5)
noncomputable def timetable_Parse_c2 : Code := cA [1, 1, 1, 1, 1] (bodyOf Tryd.f5)
def timetable_Parse_C (n : Nat) : VC := ⟨specOf [(11, words_Lines_e n), (12, timetable_parseLine_s1_s n)], gtt, [cO 0 [0, 2] [2], cO 1 [2, 5, 6, 7] [2], cO 2 [2, 5, 6, 7, 18] [2], cO 3 [2, 3, 4] [2], cO 4 [2, 5, 8] [2, 8], (5, ⟨[2, 5, 8, 22, 23, 24], [(2, 2), (8, 8)], [], [(8, 1, 500801, 3, 1), (8, 4, 500804, 51, 3)], []⟩), cO 6 [2, 5, 8, 22, 23, 24, 25] [2, 8, 500801, 500804], cO 7 [2, 5, 8, 9, 10, 22, 23, 24] [2, 8, 500801, 500804], cO 8 [2, 5, 8, 10, 22, 23, 24, 32] [2, 8, 100031, 200031], cO 9 [2, 3, 4] [2], cO 10 [2, 5, 8, 22, 23, 24] [2, 8, 100031, 200031], cO 11 [2, 8, 41] [2, 8, 500801, 500804], cO 12 [2, 3, 4] [2], cO 13 [2, 3, 4] [2, 500801, 500804], (3000000006, ⟨[2, 5, 8, 22, 23, 24], [(2, 2), (8, 8), (100031, 500801), (500801, 500801), (200031, 500804), (500804, 500804)], [], [], []⟩)]⟩
theorem timetable_Parse_VC (n : Nat) : VCOk Tryd.prog (timetable_Parse_C n) := gVC (specOf_ok ⟨words_Lines_ok n, ⟨timetable_parseLine_s1_so n, trivial⟩⟩)
theorem timetable_Parse_p1_eq {R : Type} (n : Nat) (a0 : List UInt8) (k : Exit → St → Option R) : vexec (timetable_Parse_C n) n timetable_Parse_c0 ⟨44, [(0, dT a0)], []⟩ k = timetable_Parse_p1 n a0 (fun z2 z3 => k .ret ⟨44, [(2, .ptr 2 0), (3, dI z2), (4, dI z3)], [(2, .box [dI (0 : Int), .nil, dI (0 : Int), dI (0 : Int), .nil])]⟩) (fun z4 z5 => loopN (lB (timetable_Parse_C n) n timetable_Parse_c1) n ⟨44, [(2, .ptr 2 0), (5, dL 1 z4), (8, .ptr 8 0), (22, dL 1 z4), (23, dI z5), (24, dI (0 : Int))], [(500804, .arr 51 3 []), (8, .box [dI (0 : Int), .arr 500801, dI (0 : Int), dI (0 : Int), .arr 500804]), (500801, .arr 3 1 []), (2, .box [dI (0 : Int), .nil, dI (0 : Int), dI (0 : Int), .nil])]⟩ (blockK 0 (seqK (timetable_Parse_C n) n timetable_Parse_c2 k))) := by kernel_rfl
theorem timetable_Parse_p2_eq {R : Type} (n : Nat) (w8 : LL) (w9 h13 h17 h18 h19 : Int) (h20 h21 : LL) (k : Exit → St → Option R) : vexec (timetable_Parse_C n) n timetable_Parse_c1 ⟨44, [(2, .ptr 2 0), (5, dL 1 w8), (8, .ptr 8 0), (22, dL 1 w8), (23, dI w9), (24, dI h13)], [(2, .box [dI (0 : Int), .nil, dI (0 : Int), dI (0 : Int), .nil]), (8, .box [dI h17, .arr 500801, dI h18, dI h19, .arr 500804]), (500801, .arr 3 1 h20), (500804, .arr 51 3 h21)]⟩ k = timetable_Parse_p2 n w8 w9 h13 h17 h18 h19 h20 h21 (fun i42 => k .ret ⟨44, [(2, .ptr 2 0), (3, dI i42), (4, dI (2 : Int))], [(2, .box [dI (0 : Int), .nil, dI (0 : Int), dI (0 : Int), .nil])]⟩) (fun z43 z44 z45 z46 z47 z48 => k .normal ⟨44, [(2, .ptr 2 0), (5, dL 1 w8), (8, .ptr 8 0), (22, dL 1 w8), (23, dI w9), (24, dI z43)], [(2, .box [dI (0 : Int), .nil, dI (0 : Int), dI (0 : Int), .nil]), (8, .box [dI z44, .arr 100031, dI z45, dI z46, .arr 200031]), (100031, .arr 3 1 z47), (200031, .arr 51 3 z48)]⟩) (fun z49 => k (.exit 0) ⟨44, [(2, .ptr 2 0), (5, dL 1 w8), (8, .ptr 8 0), (22, dL 1 w8), (23, dI w9), (24, dI h13), (25, dB z49)], [(2, .box [dI (0 : Int), .nil, dI (0 : Int), dI (0 : Int), .nil]), (8, .box [dI h17, .arr 500801, dI h18, dI h19, .arr 500804]), (500801, .arr 3 1 h20), (500804, .arr 51 3 h21)]⟩) := by kernel_rfl
theorem timetable_Parse_r3_eq {R : Type} (n : Nat) (w8 : LL) (w9 : Int) (k : Exit → St → Option R) : ∀ (m : Nat) (h13 h17 h18 h19 : Int) (h20 h21 : LL), loopN (lB (timetable_Parse_C n) n timetable_Parse_c1) m ⟨44, [(2, .ptr 2 0), (5, dL 1 w8), (8, .ptr 8 0), (22, dL 1 w8), (23, dI w9), (24, dI h13)], [(2, .box [dI (0 : Int), .nil, dI (0 : Int), dI (0 : Int), .nil]), (8, .box [dI h17, .arr 500801, dI h18, dI h19, .arr 500804]), (500801, .arr 3 1 h20), (500804, .arr 51 3 h21)]⟩ k = timetable_Parse_r3 n w8 w9 (fun w50 => k .ret ⟨44, [(2, .ptr 2 0), (3, dI w50), (4, dI (2 : Int))], [(2, .box [dI (0 : Int), .nil, dI (0 : Int), dI (0 : Int), .nil])]⟩) (fun h13 w57 h17 h18 h19 h20 h21 => k (.exit 0) ⟨44, [(2, .ptr 2 0), (5, dL 1 w8), (8, .ptr 8 0), (22, dL 1 w8), (23, dI w9), (24, dI h13), (25, dB w57)], [(2, .box [dI (0 : Int), .nil, dI (0 : Int), dI (0 : Int), .nil]), (8, .box [dI h17, .arr 500801, dI h18, dI h19, .arr 500804]), (500801, .arr 3 1 h20), (500804, .arr 51 3 h21)]⟩) m h13 h17 h18 h19 h20 h21
 | 0, _, _, _, _, _, _ => rfl
 | m + 1, h13, h17, h18, h19, h20, h21 => (lS (by kernel_rfl) m k).trans ((timetable_Parse_p2_eq n w8 w9 h13 h17 h18 h19 h20 h21 (loopK (lB (timetable_Parse_C n) n timetable_Parse_c1) m k)).trans (cg3 (fun x0 x1 x2 => timetable_Parse_p2 n w8 w9 h13 h17 h18 h19 h20 h21 x0 x1 x2 ) rfl (funext fun w51 => funext fun w52 => funext fun w53 => funext fun w54 => funext fun w55 => funext fun w56 => (loopN_at (by kernel_rfl) m k).trans (timetable_Parse_r3_eq n w8 w9 k m w51 w52 w53 w54 w55 w56)) rfl))
theorem timetable_Parse_p4_eq {R : Type} (n : Nat) (w8 : LL) (w9 w59 : Int) (w60 : Bool) (w61 w62 w63 : Int) (w64 w65 : LL) (k : Exit → St → Option R) : (blockK 0 (seqK (timetable_Parse_C n) n timetable_Parse_c2 k)) (.exit 0) ⟨44, [(2, .ptr 2 0), (5, dL 1 w8), (8, .ptr 8 0), (22, dL 1 w8), (23, dI w9), (24, dI w59), (25, dB w60)], [(2, .box [dI (0 : Int), .nil, dI (0 : Int), dI (0 : Int), .nil]), (8, .box [dI w61, .arr 500801, dI w62, dI w63, .arr 500804]), (500801, .arr 3 1 w64), (500804, .arr 51 3 w65)]⟩ = timetable_Parse_p4 n w8 w9 w59 w60 w61 w62 w63 w64 w65 (k .ret ⟨44, [(2, .ptr 2 0), (3, dI (0 : Int)), (4, dI (2 : Int))], [(2, .box [dI (0 : Int), .nil, dI (0 : Int), dI (0 : Int), .nil])]⟩) (k .ret ⟨44, [(2, .ptr 2 0), (3, dI (0 : Int)), (4, dI (0 : Int))], [(2, .box [dI w61, .arr 500801, dI w62, dI w63, .arr 500804]), (500801, .arr 3 1 w64), (500804, .arr 51 3 w65)]⟩) := by kernel_rfl
theorem timetable_Parse_p5_eq {R : Type} (n : Nat) (a0 : List UInt8) (k : Exit → St → Option R) : vexec (timetable_Parse_C n) n timetable_Parse_c0 ⟨44, [(0, dT a0)], []⟩ k = timetable_Parse_p5 n a0 (fun z66 z67 => k .ret ⟨44, [(2, .ptr 2 0), (3, dI z66), (4, dI z67)], [(2, .box [dI (0 : Int), .nil, dI (0 : Int), dI (0 : Int), .nil])]⟩) (fun w61 w62 w63 w64 w65 => k .ret ⟨44, [(2, .ptr 2 0), (3, dI (0 : Int)), (4, dI (0 : Int))], [(2, .box [dI w61, .arr 500801, dI w62, dI w63, .arr 500804]), (500801, .arr 3 1 w64), (500804, .arr 51 3 w65)]⟩) :=
 (timetable_Parse_p1_eq n a0 k).trans (cg2 (fun x0 x1 => timetable_Parse_p1 n a0 x0 x1 ) rfl (funext fun w8 => funext fun w9 => ((loopN_at (by kernel_rfl) n (blockK 0 (seqK (timetable_Parse_C n) n timetable_Parse_c2 k))).trans (timetable_Parse_r3_eq n w8 w9 (blockK 0 (seqK (timetable_Parse_C n) n timetable_Parse_c2 k)) n (0 : Int) (0 : Int) (0 : Int) (0 : Int) [] [])).trans (cg2 (fun x0 x1 => timetable_Parse_r3 n w8 w9 x0 x1 n (0 : Int) (0 : Int) (0 : Int) (0 : Int) [] []) rfl (funext fun w59 => funext fun w60 => funext fun w61 => funext fun w62 => funext fun w63 => funext fun w64 => funext fun w65 => (timetable_Parse_p4_eq n w8 w9 w59 w60 w61 w62 w63 w64 w65 k)))))
theorem timetable_Parse_vfn {R : Type} (n : Nat) (a0 : List UInt8) (K : AV → Option R) : vfn (timetable_Parse_C n) n Tryd.f5 [.d (D.str a0)] [] (retF [[0, 1, 0, 0, 3], [0], [0]] K) = timetable_Parse n a0 (fun r0 r1 r2 r3 r4 r5 r6 => K (.tup [.ag [.d (D.int .i64 r0), .d (D.sl 1 r1), .d (D.int .i64 r2), .d (D.int .i64 r3), .d (D.sl 3 r4)], .d (D.int .i64 r5), .d (D.int .i64 r6)])) :=
  (show vfn (timetable_Parse_C n) n Tryd.f5 [.d (D.str a0)] [] (retF [[0, 1, 0, 0, 3], [0], [0]] K) = vexec (timetable_Parse_C n) n timetable_Parse_c0 ⟨44, [(0, dT a0)], []⟩ (retX gtt [.cell 2 25, .tmp 3, .tmp 4] (retF [[0, 1, 0, 0, 3], [0], [0]] K)) from vfn_at (by kernel_rfl) (by kernel_rfl) rfl (by kernel_rfl) rfl (by kernel_rfl) rfl).trans ((timetable_Parse_p5_eq n a0 (retX gtt [.cell 2 25, .tmp 3, .tmp 4] (retF [[0, 1, 0, 0, 3], [0], [0]] K))).trans (by kernel_rfl))
def timetable_Parse_K : AV → Option (Int × LL × Int × Int × LL × Int × Int) := fun av => match av with
  | .tup [.ag [.d (D.int .i64 r0), .d (D.sl 1 r1), .d (D.int .i64 r2), .d (D.int .i64 r3), .d (D.sl 3 r4)], .d (D.int .i64 r5), .d (D.int .i64 r6)] => some (r0, r1, r2, r3, r4, r5, r6)
  | _ => none
def timetable_Parse_e (n : Nat) : Entry := fun _ _ g avs _ k => match avs with
  | [c0] => prT g c0 fun a0 => 
    gb g (timetable_Parse n a0 (fun r0 r1 r2 r3 r4 r5 r6 => some (r0, r1, r2, r3, r4, r5, r6))) (0, [], 0, 0, [], 0, 0) fun r => k ⟨.tup [.ag [.d (D.int .i64 r.1), .d (D.sl 1 r.2.1), .d (D.int .i64 r.2.2.1), .d (D.int .i64 r.2.2.2.1), .d (D.sl 3 r.2.2.2.2.1)], .d (D.int .i64 r.2.2.2.2.2.1), .d (D.int .i64 r.2.2.2.2.2.2)], [], []⟩
  | _ => none
theorem timetable_Parse_ok (n : Nat) : EntryOK Tryd.prog 5 (timetable_Parse_e n) := by
  intro R site g avs hl k r h
  unfold timetable_Parse_e at h
  split at h
  rotate_left
  · cases h
  replace h := prT_some h
  obtain ⟨a0, h, le0⟩ := h
  replace h := gb_some h
  obtain ⟨res, h, hr⟩ := h
  refine ⟨_, h, fun hg => CallOK.conv (avs' := [.d (D.str a0)]) (.cons (le0 hg) (.nil)) (callOK_fix (K := timetable_Parse_K) (res := res) (timetable_Parse_VC n) (fn := Tryd.f5) (n := n) (by kernel_rfl) (by kernel_rfl) (by kernel_rfl) (ss := [[0, 1, 0, 0, 3], [0], [0]]) rfl ?_ ?_)⟩
  · exact (timetable_Parse_vfn n a0 timetable_Parse_K).trans (hr hg)
  · intro x hx
    unfold timetable_Parse_K at hx
    split at hx
    · injection hx with hx; subst hx; rfl
    · cases hx
end Go.Vx
/-
  law23_awake: the interpreter computes the pure function
-/
set_option linter.unusedVariables false
set_option linter.unusedSimpArgs false
set_option maxRecDepth 100000
namespace Go.Vx
open Go.Proofs
noncomputable def law23_awake_c0 : Code := bodyOf Tryd.f9
def law23_awake_C (n : Nat) : VC := ⟨specOf [(5, timetable_Parse_e n)], gtt, [cK 0 [], cK 1 [2, 3], cK 2 [0]]⟩
theorem law23_awake_VC (n : Nat) : VCOk Tryd.prog (law23_awake_C n) := gVC (specOf_ok ⟨timetable_Parse_ok n, trivial⟩)
theorem law23_awake_vfn {R : Type} (n : Nat)  (K : AV → Option R) : vfn (law23_awake_C n) n Tryd.f9 [] [] (retF [[0]] K) = law23_awake n  (fun r0 => K (.d (D.bool r0))) :=
  (vfn_at (c := law23_awake_c0) (m := 15) (tm := []) (rs := [.tmp 0]) (tt := gtt) (by kernel_rfl) (by kernel_rfl) rfl (by kernel_rfl) rfl (by kernel_rfl) rfl).trans (by kernel_rfl)
def law23_awake_K : AV → Option (Bool) := fun av => match av with
  | .d (D.bool r0) => some r0
  | _ => none
def law23_awake_e (n : Nat) : Entry := fun _ _ g avs _ k => match avs with
  | [] => 
    gb g (law23_awake n  some) false fun r => k ⟨.d (D.bool r), [], []⟩
  | _ => none
theorem law23_awake_ok (n : Nat) : EntryOK Tryd.prog 9 (law23_awake_e n) := by
  intro R site g avs hl k r h
  unfold law23_awake_e at h
  split at h
  rotate_left
  · cases h
  replace h := gb_some h
  obtain ⟨res, h, hr⟩ := h
  refine ⟨_, h, fun hg => CallOK.conv (avs' := []) (.nil) (callOK_fix (K := law23_awake_K) (res := res) (law23_awake_VC n) (fn := Tryd.f9) (n := n) (by kernel_rfl) (by kernel_rfl) (by kernel_rfl) (ss := [[0]]) rfl ?_ ?_)⟩
  · exact (law23_awake_vfn n  law23_awake_K).trans (hr hg)
  · intro x hx
    unfold law23_awake_K at hx
    split at hx
    · injection hx with hx; subst hx; rfl
    · cases hx
end Go.Vx
/-
  keep_Same_int: the interpreter computes the pure function
-/
set_option linter.unusedVariables false
set_option linter.unusedSimpArgs false
set_option maxRecDepth 100000
namespace Go.Vx
open Go.Proofs
noncomputable def keep_Same_int_c0 : Code := bodyOf Tryd.f16
noncomputable def keep_Same_int_c1 : Code := cA [1, 1, 0, 1, 2, 2] (bodyOf Tryd.f16)
noncomputable def keep_Same_int_c2 : Code := cA [1, 1, 1] (bodyOf Tryd.f16)
def keep_Same_int_C (n : Nat) : VC := ⟨specOf [], gtt, [cK 0 [0, 1], cK 1 [0, 1, 10], cK 2 [4], cK 3 [0, 1, 12, 13], cK 4 [0, 1, 12, 13, 14], cK 5 [0, 1, 5, 12, 13], cK 6 [0, 1, 12, 13, 24], cK 7 [4], cK 8 [0, 1, 12, 13], cK 9 [4]]⟩
theorem keep_Same_int_VC (n : Nat) : VCOk Tryd.prog (keep_Same_int_C n) := gVC (specOf_ok trivial)
theorem keep_Same_int_p1_eq {R : Type} (n : Nat) (a0 a1 : LL) (k : Exit → St → Option R) : vexec (keep_Same_int_C n) n keep_Same_int_c0 ⟨26, [(0, dL 1 a0), (1, dL 1 a1)], []⟩ k = keep_Same_int_p1 n a0 a1 (k .ret ⟨26, [(4, dB false)], []⟩) (fun z1 => loopN (lB (keep_Same_int_C n) n keep_Same_int_c1) n ⟨26, [(0, dL 1 a0), (1, dL 1 a1), (12, dI z1), (13, dI (0 : Int))], []⟩ (blockK 0 (seqK (keep_Same_int_C n) n keep_Same_int_c2 k))) := by kernel_rfl
theorem keep_Same_int_p2_eq {R : Type} (n : Nat) (a0 a1 : LL) (w2 h6 : Int) (k : Exit → St → Option R) : vexec (keep_Same_int_C n) n keep_Same_int_c1 ⟨26, [(0, dL 1 a0), (1, dL 1 a1), (12, dI w2), (13, dI h6)], []⟩ k = keep_Same_int_p2 n a0 a1 w2 h6 (k .ret ⟨26, [(4, dB false)], []⟩) (fun z21 => k .normal ⟨26, [(0, dL 1 a0), (1, dL 1 a1), (12, dI w2), (13, dI z21)], []⟩) (fun z22 => k (.exit 0) ⟨26, [(0, dL 1 a0), (1, dL 1 a1), (12, dI w2), (13, dI h6), (14, dB z22)], []⟩) := by kernel_rfl
theorem keep_Same_int_r3_eq {R : Type} (n : Nat) (a0 a1 : LL) (w2 : Int) (k : Exit → St → Option R) : ∀ (m : Nat) (h6 : Int), loopN (lB (keep_Same_int_C n) n keep_Same_int_c1) m ⟨26, [(0, dL 1 a0), (1, dL 1 a1), (12, dI w2), (13, dI h6)], []⟩ k = keep_Same_int_r3 n a0 a1 w2 (k .ret ⟨26, [(4, dB false)], []⟩) (fun h6 w24 => k (.exit 0) ⟨26, [(0, dL 1 a0), (1, dL 1 a1), (12, dI w2), (13, dI h6), (14, dB w24)], []⟩) m h6
 | 0, _ => rfl
 | m + 1, h6 => (lS (by kernel_rfl) m k).trans ((keep_Same_int_p2_eq n a0 a1 w2 h6 (loopK (lB (keep_Same_int_C n) n keep_Same_int_c1) m k)).trans (cg3 (fun x0 x1 x2 => keep_Same_int_p2 n a0 a1 w2 h6 x0 x1 x2 ) rfl (funext fun w23 => keep_Same_int_r3_eq n a0 a1 w2 k m w23) rfl))
theorem keep_Same_int_p4_eq {R : Type} (n : Nat) (a0 a1 : LL) (w2 w25 : Int) (w26 : Bool) (k : Exit → St → Option R) : (blockK 0 (seqK (keep_Same_int_C n) n keep_Same_int_c2 k)) (.exit 0) ⟨26, [(0, dL 1 a0), (1, dL 1 a1), (12, dI w2), (13, dI w25), (14, dB w26)], []⟩ = keep_Same_int_p4 n a0 a1 w2 w25 w26 (k .ret ⟨26, [(4, dB true)], []⟩) := by kernel_rfl
theorem keep_Same_int_p5_eq {R : Type} (n : Nat) (a0 a1 : LL) (k : Exit → St → Option R) : vexec (keep_Same_int_C n) n keep_Same_int_c0 ⟨26, [(0, dL 1 a0), (1, dL 1 a1)], []⟩ k = keep_Same_int_p5 n a0 a1 (fun z27 => k .ret ⟨26, [(4, dB z27)], []⟩) :=
 (keep_Same_int_p1_eq n a0 a1 k).trans (cg2 (fun x0 x1 => keep_Same_int_p1 n a0 a1 x0 x1 ) rfl (funext fun w2 => (keep_Same_int_r3_eq n a0 a1 w2 (blockK 0 (seqK (keep_Same_int_C n) n keep_Same_int_c2 k)) n (0 : Int)).trans (cg2 (fun x0 x1 => keep_Same_int_r3 n a0 a1 w2 x0 x1 n (0 : Int)) rfl (funext fun w25 => funext fun w26 => (keep_Same_int_p4_eq n a0 a1 w2 w25 w26 k)))))
theorem keep_Same_int_vfn {R : Type} (n : Nat) (a0 a1 : LL) (K : AV → Option R) : vfn (keep_Same_int_C n) n Tryd.f16 [.d (D.sl 1 a0), .d (D.sl 1 a1)] [] (retF [[0]] K) = keep_Same_int n a0 a1 (fun r0 => K (.d (D.bool r0))) :=
  (show vfn (keep_Same_int_C n) n Tryd.f16 [.d (D.sl 1 a0), .d (D.sl 1 a1)] [] (retF [[0]] K) = vexec (keep_Same_int_C n) n keep_Same_int_c0 ⟨26, [(0, dL 1 a0), (1, dL 1 a1)], []⟩ (retX gtt [.tmp 4] (retF [[0]] K)) from vfn_at (by kernel_rfl) (by kernel_rfl) rfl (by kernel_rfl) rfl (by kernel_rfl) rfl).trans ((keep_Same_int_p5_eq n a0 a1 (retX gtt [.tmp 4] (retF [[0]] K))).trans (by kernel_rfl))
def keep_Same_int_K : AV → Option (Bool) := fun av => match av with
  | .d (D.bool r0) => some r0
  | _ => none
def keep_Same_int_e (n : Nat) : Entry := fun _ _ g avs _ k => match avs with
  | [c0, c1] => prS g 1 c0 fun a0 => prS g 1 c1 fun a1 => 
    gb g (keep_Same_int n a0 a1 some) false fun r => k ⟨.d (D.bool r), [], []⟩
  | _ => none
theorem keep_Same_int_ok (n : Nat) : EntryOK Tryd.prog 16 (keep_Same_int_e n) := by
  intro R site g avs hl k r h
  unfold keep_Same_int_e at h
  split at h
  rotate_left
  · cases h
  replace h := prS_some h
  obtain ⟨a0, h, le0⟩ := h
  replace h := prS_some h
  obtain ⟨a1, h, le1⟩ := h
  replace h := gb_some h
  obtain ⟨res, h, hr⟩ := h
  refine ⟨_, h, fun hg => CallOK.conv (avs' := [.d (D.sl 1 a0), .d (D.sl 1 a1)]) (.cons (le0 hg) (.cons (le1 hg) (.nil))) (callOK_fix (K := keep_Same_int_K) (res := res) (keep_Same_int_VC n) (fn := Tryd.f16) (n := n) (by kernel_rfl) (by kernel_rfl) (by kernel_rfl) (ss := [[0]]) rfl ?_ ?_)⟩
  · exact (keep_Same_int_vfn n a0 a1 keep_Same_int_K).trans (hr hg)
  · intro x hx
    unfold keep_Same_int_K at hx
    split at hx
    · injection hx with hx; subst hx; rfl
    · cases hx
end Go.Vx
/-
  keep_SameCycle: the interpreter computes the pure function
-/
set_option linter.unusedVariables false
set_option linter.unusedSimpArgs false
set_option maxRecDepth 100000
namespace Go.Vx
open Go.Proofs
noncomputable def keep_SameCycle_c0 : Code := bodyOf Tryd.f31
def keep_SameCycle_C (n : Nat) : VC := ⟨specOf [(16, keep_Same_int_e n)], gtt, [cO 0 [2, 3] [2, 3], cK 1 [4]]⟩
theorem keep_SameCycle_VC (n : Nat) : VCOk Tryd.prog (keep_SameCycle_C n) := gVC (specOf_ok ⟨keep_Same_int_ok n, trivial⟩)
theorem keep_SameCycle_vfn {R : Type} (n : Nat) (a0_0 a0_1 a1_0 a1_1 : LL) (K : AV → Option R) : vfn (keep_SameCycle_C n) n Tryd.f31 [.ag [.d (D.sl 1 a0_0), .d (D.sl 1 a0_1)], .ag [.d (D.sl 1 a1_0), .d (D.sl 1 a1_1)]] [] (retF [[0]] K) = keep_SameCycle n a0_0 a0_1 a1_0 a1_1 (fun r0 => K (.d (D.bool r0))) :=
  (vfn_at (c := keep_SameCycle_c0) (m := 17) (tm := [(0, .ag [dL 1 a0_0, dL 1 a0_1]), (1, .ag [dL 1 a1_0, dL 1 a1_1])]) (rs := [.tmp 4]) (tt := gtt) (by kernel_rfl) (by kernel_rfl) rfl (by kernel_rfl) rfl (by kernel_rfl) rfl).trans (by kernel_rfl)
def keep_SameCycle_K : AV → Option (Bool) := fun av => match av with
  | .d (D.bool r0) => some r0
  | _ => none
def keep_SameCycle_e (n : Nat) : Entry := fun _ _ g avs _ k => match avs with
  | [c0, c1] => 
    prG c0 fun l0 => (match l0 with
    | [c0_0, c0_1] => prS g 1 c0_0 fun a0_0 => prS g 1 c0_1 fun a0_1 => 
    prG c1 fun l1 => (match l1 with
    | [c1_0, c1_1] => prS g 1 c1_0 fun a1_0 => prS g 1 c1_1 fun a1_1 => 
    gb g (keep_SameCycle n a0_0 a0_1 a1_0 a1_1 some) false fun r => k ⟨.d (D.bool r), [], []⟩
    | _ => none)
    | _ => none)
  | _ => none
theorem keep_SameCycle_ok (n : Nat) : EntryOK Tryd.prog 31 (keep_SameCycle_e n) := by
  intro R site g avs hl k r h
  unfold keep_SameCycle_e at h
  split at h
  rotate_left
  · cases h
  replace h := prG_some h
  obtain ⟨l0, h, e0⟩ := h
  subst e0
  split at h
  rotate_left
  · cases h
  replace h := prS_some h
  obtain ⟨a0_0, h, le0⟩ := h
  replace h := prS_some h
  obtain ⟨a0_1, h, le1⟩ := h
  replace h := prG_some h
  obtain ⟨l1, h, e1⟩ := h
  subst e1
  split at h
  rotate_left
  · cases h
  replace h := prS_some h
  obtain ⟨a1_0, h, le2⟩ := h
  replace h := prS_some h
  obtain ⟨a1_1, h, le3⟩ := h
  replace h := gb_some h
  obtain ⟨res, h, hr⟩ := h
  refine ⟨_, h, fun hg => CallOK.conv (avs' := [.ag [.d (D.sl 1 a0_0), .d (D.sl 1 a0_1)], .ag [.d (D.sl 1 a1_0), .d (D.sl 1 a1_1)]]) (.cons (.ag (.cons (le0 hg) (.cons (le1 hg) (.nil)))) (.cons (.ag (.cons (le2 hg) (.cons (le3 hg) (.nil)))) (.nil))) (callOK_fix (K := keep_SameCycle_K) (res := res) (keep_SameCycle_VC n) (fn := Tryd.f31) (n := n) (by kernel_rfl) (by kernel_rfl) (by kernel_rfl) (ss := [[0]]) rfl ?_ ?_)⟩
  · exact (keep_SameCycle_vfn n a0_0 a0_1 a1_0 a1_1 keep_SameCycle_K).trans (hr hg)
  · intro x hx
    unfold keep_SameCycle_K at hx
    split at hx
    · injection hx with hx; subst hx; rfl
    · cases hx
end Go.Vx
/-
  keep_SameParts: the interpreter computes the pure function
-/
set_option linter.unusedVariables false
set_option linter.unusedSimpArgs false
set_option maxRecDepth 100000
namespace Go.Vx
open Go.Proofs
noncomputable def keep_SameParts_c0 : Code := bodyOf Tryd.f17
noncomputable def keep_SameParts_c1 : Code := cA [1, 1, 0, 1, 2, 2] (bodyOf Tryd.f17)
noncomputable def keep_SameParts_c2 : Code := cA [1, 1, 1] (bodyOf Tryd.f17)
def keep_SameParts_C (n : Nat) : VC := ⟨specOf [(31, keep_SameCycle_e n)], gtt, [cK 0 [0, 1], cK 1 [0, 1, 10], cK 2 [4], cK 3 [0, 1, 12, 13], cK 4 [0, 1, 12, 13, 14], cK 5 [0, 1, 5, 12, 13], cK 6 [0, 1, 12, 13, 40], cK 7 [4], cK 8 [0, 1, 12, 13], cK 9 [4]]⟩
theorem keep_SameParts_VC (n : Nat) : VCOk Tryd.prog (keep_SameParts_C n) := gVC (specOf_ok ⟨keep_SameCycle_ok n, trivial⟩)
theorem keep_SameParts_p1_eq {R : Type} (n : Nat) (a0 a1 : LL) (k : Exit → St → Option R) : vexec (keep_SameParts_C n) n keep_SameParts_c0 ⟨42, [(0, dL 3 a0), (1, dL 3 a1)], []⟩ k = keep_SameParts_p1 n a0 a1 (k .ret ⟨42, [(4, dB false)], []⟩) (fun z1 => loopN (lB (keep_SameParts_C n) n keep_SameParts_c1) n ⟨42, [(0, dL 3 a0), (1, dL 3 a1), (12, dI z1), (13, dI (0 : Int))], []⟩ (blockK 0 (seqK (keep_SameParts_C n) n keep_SameParts_c2 k))) := by kernel_rfl
theorem keep_SameParts_p2_eq {R : Type} (n : Nat) (a0 a1 : LL) (w2 h6 : Int) (k : Exit → St → Option R) : vexec (keep_SameParts_C n) n keep_SameParts_c1 ⟨42, [(0, dL 3 a0), (1, dL 3 a1), (12, dI w2), (13, dI h6)], []⟩ k = keep_SameParts_p2 n a0 a1 w2 h6 (k .ret ⟨42, [(4, dB false)], []⟩) (fun z43 => k .normal ⟨42, [(0, dL 3 a0), (1, dL 3 a1), (12, dI w2), (13, dI z43)], []⟩) (fun z44 => k (.exit 0) ⟨42, [(0, dL 3 a0), (1, dL 3 a1), (12, dI w2), (13, dI h6), (14, dB z44)], []⟩) := by kernel_rfl
theorem keep_SameParts_r3_eq {R : Type} (n : Nat) (a0 a1 : LL) (w2 : Int) (k : Exit → St → Option R) : ∀ (m : Nat) (h6 : Int), loopN (lB (keep_SameParts_C n) n keep_SameParts_c1) m ⟨42, [(0, dL 3 a0), (1, dL 3 a1), (12, dI w2), (13, dI h6)], []⟩ k = keep_SameParts_r3 n a0 a1 w2 (k .ret ⟨42, [(4, dB false)], []⟩) (fun h6 w46 => k (.exit 0) ⟨42, [(0, dL 3 a0), (1, dL 3 a1), (12, dI w2), (13, dI h6), (14, dB w46)], []⟩) m h6
 | 0, _ => rfl
 | m + 1, h6 => (lS (by kernel_rfl) m k).trans ((keep_SameParts_p2_eq n a0 a1 w2 h6 (loopK (lB (keep_SameParts_C n) n keep_SameParts_c1) m k)).trans (cg3 (fun x0 x1 x2 => keep_SameParts_p2 n a0 a1 w2 h6 x0 x1 x2 ) rfl (funext fun w45 => keep_SameParts_r3_eq n a0 a1 w2 k m w45) rfl))
theorem keep_SameParts_p4_eq {R : Type} (n : Nat) (a0 a1 : LL) (w2 w47 : Int) (w48 : Bool) (k : Exit → St → Option R) : (blockK 0 (seqK (keep_SameParts_C n) n keep_SameParts_c2 k)) (.exit 0) ⟨42, [(0, dL 3 a0), (1, dL 3 a1), (12, dI w2), (13, dI w47), (14, dB w48)], []⟩ = keep_SameParts_p4 n a0 a1 w2 w47 w48 (k .ret ⟨42, [(4, dB true)], []⟩) := by kernel_rfl
theorem keep_SameParts_p5_eq {R : Type} (n : Nat) (a0 a1 : LL) (k : Exit → St → Option R) : vexec (keep_SameParts_C n) n keep_SameParts_c0 ⟨42, [(0, dL 3 a0), (1, dL 3 a1)], []⟩ k = keep_SameParts_p5 n a0 a1 (fun z49 => k .ret ⟨42, [(4, dB z49)], []⟩) :=
 (keep_SameParts_p1_eq n a0 a1 k).trans (cg2 (fun x0 x1 => keep_SameParts_p1 n a0 a1 x0 x1 ) rfl (funext fun w2 => (keep_SameParts_r3_eq n a0 a1 w2 (blockK 0 (seqK (keep_SameParts_C n) n keep_SameParts_c2 k)) n (0 : Int)).trans (cg2 (fun x0 x1 => keep_SameParts_r3 n a0 a1 w2 x0 x1 n (0 : Int)) rfl (funext fun w47 => funext fun w48 => (keep_SameParts_p4_eq n a0 a1 w2 w47 w48 k)))))
theorem keep_SameParts_vfn {R : Type} (n : Nat) (a0 a1 : LL) (K : AV → Option R) : vfn (keep_SameParts_C n) n Tryd.f17 [.d (D.sl 3 a0), .d (D.sl 3 a1)] [] (retF [[0]] K) = keep_SameParts n a0 a1 (fun r0 => K (.d (D.bool r0))) :=
  (show vfn (keep_SameParts_C n) n Tryd.f17 [.d (D.sl 3 a0), .d (D.sl 3 a1)] [] (retF [[0]] K) = vexec (keep_SameParts_C n) n keep_SameParts_c0 ⟨42, [(0, dL 3 a0), (1, dL 3 a1)], []⟩ (retX gtt [.tmp 4] (retF [[0]] K)) from vfn_at (by kernel_rfl) (by kernel_rfl) rfl (by kernel_rfl) rfl (by kernel_rfl) rfl).trans ((keep_SameParts_p5_eq n a0 a1 (retX gtt [.tmp 4] (retF [[0]] K))).trans (by kernel_rfl))
def keep_SameParts_K : AV → Option (Bool) := fun av => match av with
  | .d (D.bool r0) => some r0
  | _ => none
def keep_SameParts_e (n : Nat) : Entry := fun _ _ g avs _ k => match avs with
  | [c0, c1] => prS g 3 c0 fun a0 => prS g 3 c1 fun a1 => 
    gb g (keep_SameParts n a0 a1 some) false fun r => k ⟨.d (D.bool r), [], []⟩
  | _ => none
theorem keep_SameParts_ok (n : Nat) : EntryOK Tryd.prog 17 (keep_SameParts_e n) := by
  intro R site g avs hl k r h
  unfold keep_SameParts_e at h
  split at h
  rotate_left
  · cases h
  replace h := prS_some h
  obtain ⟨a0, h, le0⟩ := h
  replace h := prS_some h
  obtain ⟨a1, h, le1⟩ := h
  replace h := gb_some h
  obtain ⟨res, h, hr⟩ := h
  refine ⟨_, h, fun hg => CallOK.conv (avs' := [.d (D.sl 3 a0), .d (D.sl 3 a1)]) (.cons (le0 hg) (.cons (le1 hg) (.nil))) (callOK_fix (K := keep_SameParts_K) (res := res) (keep_SameParts_VC n) (fn := Tryd.f17) (n := n) (by kernel_rfl) (by kernel_rfl) (by kernel_rfl) (ss := [[0]]) rfl ?_ ?_)⟩
  · exact (keep_SameParts_vfn n a0 a1 keep_SameParts_K).trans (hr hg)
  · intro x hx
    unfold keep_SameParts_K at hx
    split at hx
    · injection hx with hx; subst hx; rfl
    · cases hx
end Go.Vx
/-
  keep_SameTimetable: the interpreter computes the pure function
-/
set_option linter.unusedVariables false
set_option linter.unusedSimpArgs false
set_option maxRecDepth 100000
namespace Go.Vx
open Go.Proofs
noncomputable def keep_SameTimetable_c0 : Code := bodyOf Tryd.f7
def keep_SameTimetable_C (n : Nat) : VC := ⟨specOf [(16, keep_Same_int_e n), (17, keep_SameParts_e n)], gtt, [cO 0 [2, 3] [2, 3], cK 1 [4]]⟩
theorem keep_SameTimetable_VC (n : Nat) : VCOk Tryd.prog (keep_SameTimetable_C n) := gVC (specOf_ok ⟨keep_Same_int_ok n, ⟨keep_SameParts_ok n, trivial⟩⟩)
theorem keep_SameTimetable_vfn {R : Type} (n : Nat) (a0_0 : Int) (a0_1 : LL) (a0_2 a0_3 : Int) (a0_4 : LL) (a1_0 : Int) (a1_1 : LL) (a1_2 a1_3 : Int) (a1_4 : LL) (K : AV → Option R) : vfn (keep_SameTimetable_C n) n Tryd.f7 [.ag [.d (D.int .i64 a0_0), .d (D.sl 1 a0_1), .d (D.int .i64 a0_2), .d (D.int .i64 a0_3), .d (D.sl 3 a0_4)], .ag [.d (D.int .i64 a1_0), .d (D.sl 1 a1_1), .d (D.int .i64 a1_2), .d (D.int .i64 a1_3), .d (D.sl 3 a1_4)]] [] (retF [[0]] K) = keep_SameTimetable n a0_0 a0_1 a0_2 a0_3 a0_4 a1_0 a1_1 a1_2 a1_3 a1_4 (fun r0 => K (.d (D.bool r0))) :=
  (vfn_at (c := keep_SameTimetable_c0) (m := 38) (tm := [(0, .ag [dI a0_0, dL 1 a0_1, dI a0_2, dI a0_3, dL 3 a0_4]), (1, .ag [dI a1_0, dL 1 a1_1, dI a1_2, dI a1_3, dL 3 a1_4])]) (rs := [.tmp 4]) (tt := gtt) (by kernel_rfl) (by kernel_rfl) rfl (by kernel_rfl) rfl (by kernel_rfl) rfl).trans (by kernel_rfl)
def keep_SameTimetable_K : AV → Option (Bool) := fun av => match av with
  | .d (D.bool r0) => some r0
  | _ => none
def keep_SameTimetable_e (n : Nat) : Entry := fun _ _ g avs _ k => match avs with
  | [c0, c1] => 
    prG c0 fun l0 => (match l0 with
    | [c0_0, c0_1, c0_2, c0_3, c0_4] => prI g .i64 c0_0 fun a0_0 => prS g 1 c0_1 fun a0_1 => prI g .i64 c0_2 fun a0_2 => prI g .i64 c0_3 fun a0_3 => prS g 3 c0_4 fun a0_4 => 
    prG c1 fun l1 => (match l1 with
    | [c1_0, c1_1, c1_2, c1_3, c1_4] => prI g .i64 c1_0 fun a1_0 => prS g 1 c1_1 fun a1_1 => prI g .i64 c1_2 fun a1_2 => prI g .i64 c1_3 fun a1_3 => prS g 3 c1_4 fun a1_4 => 
    gb g (keep_SameTimetable n a0_0 a0_1 a0_2 a0_3 a0_4 a1_0 a1_1 a1_2 a1_3 a1_4 some) false fun r => k ⟨.d (D.bool r), [], []⟩
    | _ => none)
    | _ => none)
  | _ => none
theorem keep_SameTimetable_ok (n : Nat) : EntryOK Tryd.prog 7 (keep_SameTimetable_e n) := by
  intro R site g avs hl k r h
  unfold keep_SameTimetable_e at h
  split at h
  rotate_left
  · cases h
  replace h := prG_some h
  obtain ⟨l0, h, e0⟩ := h
  subst e0
  split at h
  rotate_left
  · cases h
  replace h := prI_some h
  obtain ⟨a0_0, h, le0⟩ := h
  replace h := prS_some h
  obtain ⟨a0_1, h, le1⟩ := h
  replace h := prI_some h
  obtain ⟨a0_2, h, le2⟩ := h
  replace h := prI_some h
  obtain ⟨a0_3, h, le3⟩ := h
  replace h := prS_some h
  obtain ⟨a0_4, h, le4⟩ := h
  replace h := prG_some h
  obtain ⟨l1, h, e1⟩ := h
  subst e1
  split at h
  rotate_left
  · cases h
  replace h := prI_some h
  obtain ⟨a1_0, h, le5⟩ := h
  replace h := prS_some h
  obtain ⟨a1_1, h, le6⟩ := h
  replace h := prI_some h
  obtain ⟨a1_2, h, le7⟩ := h
  replace h := prI_some h
  obtain ⟨a1_3, h, le8⟩ := h
  replace h := prS_some h
  obtain ⟨a1_4, h, le9⟩ := h
  replace h := gb_some h
  obtain ⟨res, h, hr⟩ := h
  refine ⟨_, h, fun hg => CallOK.conv (avs' := [.ag [.d (D.int .i64 a0_0), .d (D.sl 1 a0_1), .d (D.int .i64 a0_2), .d (D.int .i64 a0_3), .d (D.sl 3 a0_4)], .ag [.d (D.int .i64 a1_0), .d (D.sl 1 a1_1), .d (D.int .i64 a1_2), .d (D.int .i64 a1_3), .d (D.sl 3 a1_4)]]) (.cons (.ag (.cons (le0 hg) (.cons (le1 hg) (.cons (le2 hg) (.cons (le3 hg) (.cons (le4 hg) (.nil))))))) (.cons (.ag (.cons (le5 hg) (.cons (le6 hg) (.cons (le7 hg) (.cons (le8 hg) (.cons (le9 hg) (.nil))))))) (.nil))) (callOK_fix (K := keep_SameTimetable_K) (res := res) (keep_SameTimetable_VC n) (fn := Tryd.f7) (n := n) (by kernel_rfl) (by kernel_rfl) (by kernel_rfl) (ss := [[0]]) rfl ?_ ?_)⟩
  · exact (keep_SameTimetable_vfn n a0_0 a0_1 a0_2 a0_3 a0_4 a1_0 a1_1 a1_2 a1_3 a1_4 keep_SameTimetable_K).trans (hr hg)
  · intro x hx
    unfold keep_SameTimetable_K at hx
    split at hx
    · injection hx with hx; subst hx; rfl
    · cases hx
end Go.Vx
/-
  ref1_plain: the interpreter computes the pure function
-/
set_option linter.unusedVariables false
set_option linter.unusedSimpArgs false
set_option maxRecDepth 100000
namespace Go.Vx
open Go.Proofs
noncomputable def ref1_plain_c0 : Code := bodyOf Tryd.f34
def ref1_plain_C (n : Nat) : VC := ⟨specOf [], gtt, [cK 0 [0], cK 1 [2]]⟩
theorem ref1_plain_VC (n : Nat) : VCOk Tryd.prog (ref1_plain_C n) := gVC (specOf_ok trivial)
theorem ref1_plain_vfn {R : Type} (n : Nat) (a0 : Int) (K : AV → Option R) : vfn (ref1_plain_C n) n Tryd.f34 [.d (D.int .u8 a0)] [] (retF [[0]] K) = ref1_plain n a0 (fun r0 => K (.d (D.bool r0))) :=
  (vfn_at (c := ref1_plain_c0) (m := 13) (tm := [(0, .d (D.int .u8 a0))]) (rs := [.tmp 2]) (tt := gtt) (by kernel_rfl) (by kernel_rfl) rfl (by kernel_rfl) rfl (by kernel_rfl) rfl).trans (by kernel_rfl)
def ref1_plain_K : AV → Option (Bool) := fun av => match av with
  | .d (D.bool r0) => some r0
  | _ => none
def ref1_plain_e (n : Nat) : Entry := fun _ _ g avs _ k => match avs with
  | [c0] => prI g .u8 c0 fun a0 => 
    gb g (ref1_plain n a0 some) false fun r => k ⟨.d (D.bool r), [], []⟩
  | _ => none
theorem ref1_plain_ok (n : Nat) : EntryOK Tryd.prog 34 (ref1_plain_e n) := by
  intro R site g avs hl k r h
  unfold ref1_plain_e at h
  split at h
  rotate_left
  · cases h
  replace h := prI_some h
  obtain ⟨a0, h, le0⟩ := h
  replace h := gb_some h
  obtain ⟨res, h, hr⟩ := h
  refine ⟨_, h, fun hg => CallOK.conv (avs' := [.d (D.int .u8 a0)]) (.cons (le0 hg) (.nil)) (callOK_fix (K := ref1_plain_K) (res := res) (ref1_plain_VC n) (fn := Tryd.f34) (n := n) (by kernel_rfl) (by kernel_rfl) (by kernel_rfl) (ss := [[0]]) rfl ?_ ?_)⟩
  · exact (ref1_plain_vfn n a0 ref1_plain_K).trans (hr hg)
  · intro x hx
    unfold ref1_plain_K at hx
    split at hx
    · injection hx with hx; subst hx; rfl
    · cases hx
end Go.Vx
/-
  ref1_Join: the interpreter computes the pure function
-/
set_option linter.unusedVariables false
set_option linter.unusedSimpArgs false
set_option maxRecDepth 100000
namespace Go.Vx
open Go.Proofs
noncomputable def ref1_Join_c0 : Code := bodyOf Tryd.f22
noncomputable def ref1_Join_c1 : Code := cA [1, 1, 0, 1, 2, 2] (bodyOf Tryd.f22)
noncomputable def ref1_Join_c2 : Code := cA [1, 1, 1] (bodyOf Tryd.f22)
noncomputable def ref1_Join_c3 : Code := cA [1, 1, 0, 1, 2, 2, 1, 0, 2, 1, 0, 1, 2, 2] (bodyOf Tryd.f22)
noncomputable def ref1_Join_c4 : Code := cA [1, 1, 0, 1, 2, 2, 1, 1] (bodyOf Tryd.f22)
noncomputable def ref1_Join_c5 : Code := cA [1, 1, 0, 1, 2, 2, 1, 0, 2, 1, 1] (bodyOf Tryd.f22)
noncomputable def ref1_Join_c6 : Code := cA [1, 1, 0, 1, 2, 2, 1, 0, 2, 1, 0, 1, 2, 2, 1, 0, 2, 1, 0, 1, 2, 2] (bodyOf Tryd.f22)
noncomputable def ref1_Join_c7 : Code := cA [1, 1, 0, 1, 2, 2, 1, 0, 2, 1, 0, 1, 2, 2, 1, 1] (bodyOf Tryd.f22)
noncomputable def ref1_Join_c8 : Code := cA [1, 1, 0, 1, 2, 2, 1, 0, 2, 1, 0, 1, 2, 2, 1, 0, 2, 1, 1] (bodyOf Tryd.f22)
noncomputable def ref1_Join_c9 : Code := cA [1, 1, 0, 1, 2, 2, 1, 0, 2, 1, 0, 1, 2, 2, 1, 0, 2, 1, 1, 0] (bodyOf Tryd.f22)
noncomputable def ref1_Join_c10 : Code := cA [1, 1, 0, 1, 2, 2, 1, 0, 2, 1, 0, 1, 2, 2, 1, 0, 2, 1, 1, 1] (bodyOf Tryd.f22)
def ref1_Join_C (n : Nat) : VC := ⟨specOf [(34, ref1_plain_e n)], gtt, [cK 0 [0], cK 1 [0, 3], cK 2 [0, 3, 4], cK 3 [0, 3, 4, 10], cK 4 [0, 3, 4], cK 5 [0, 3, 4, 26], cK 6 [2], cK 7 [0, 3, 4, 5], cK 8 [0, 3, 4, 5, 33], cK 9 [0, 3, 4, 5], cK 10 [0, 3, 4, 5, 44], cK 11 [2], cK 12 [0, 3, 4, 5, 6], cK 13 [0, 3, 4, 5, 6, 54], cK 14 [0, 3, 4, 5, 6], cK 15 [0, 3, 4, 5, 6, 67], cK 16 [2], cK 17 [0, 3, 4, 5, 69], cK 18 [0, 3, 4, 5], cK 19 [0, 3, 4, 5], cK 20 [0, 3, 4], cK 21 [2]]⟩
theorem ref1_Join_VC (n : Nat) : VCOk Tryd.prog (ref1_Join_C n) := gVC (specOf_ok ⟨ref1_plain_ok n, trivial⟩)
theorem ref1_Join_p1_eq {R : Type} (n : Nat) (a0 : LL) (k : Exit → St → Option R) : vexec (ref1_Join_C n) n ref1_Join_c0 ⟨84, [(0, dL 1 a0)], []⟩ k = ref1_Join_p1 n a0 (loopN (lB (ref1_Join_C n) n ref1_Join_c1) n ⟨84, [(0, dL 1 a0), (3, dT []), (4, dI (0 : Int))], []⟩ (blockK 0 (seqK (ref1_Join_C n) n ref1_Join_c2 k))) := by kernel_rfl
theorem ref1_Join_p2_eq {R : Type} (n : Nat) (a0 : LL) (h2 : List UInt8) (h3 : Int) (k : Exit → St → Option R) : vexec (ref1_Join_C n) n ref1_Join_c1 ⟨84, [(0, dL 1 a0), (3, dT h2), (4, dI h3)], []⟩ k = ref1_Join_p2 n a0 h2 h3 (k .ret ⟨84, [(2, dT [])], []⟩) (loopN (lB (ref1_Join_C n) n ref1_Join_c3) n ⟨84, [(0, dL 1 a0), (3, dT h2), (4, dI h3), (5, dI (0 : Int))], []⟩ (blockK 2 (seqK (ref1_Join_C n) n ref1_Join_c5 (blockK 1 (seqK (ref1_Join_C n) n ref1_Join_c4 k))))) (fun z195 => k (.exit 0) ⟨84, [(0, dL 1 a0), (3, dT h2), (4, dI h3), (10, dB z195)], []⟩) := by kernel_rfl
theorem ref1_Join_p3_eq {R : Type} (n : Nat) (a0 : LL) (h197 : List UInt8) (h3 h199 : Int) (k : Exit → St → Option R) : vexec (ref1_Join_C n) n ref1_Join_c3 ⟨84, [(0, dL 1 a0), (3, dT h197), (4, dI h3), (5, dI h199)], []⟩ k = ref1_Join_p3 n a0 h197 h3 h199 (k .ret ⟨84, [(2, dT [])], []⟩) (loopN (lB (ref1_Join_C n) n ref1_Join_c6) n ⟨84, [(0, dL 1 a0), (3, dT h197), (4, dI h3), (5, dI h199), (6, dI (0 : Int))], []⟩ (blockK 4 (seqK (ref1_Join_C n) n ref1_Join_c8 (blockK 3 (seqK (ref1_Join_C n) n ref1_Join_c7 k))))) (fun z290 => k (.exit 2) ⟨84, [(0, dL 1 a0), (3, dT h197), (4, dI h3), (5, dI h199), (33, dB z290)], []⟩) := by kernel_rfl
theorem ref1_Join_p4_eq {R : Type} (n : Nat) (a0 : LL) (h197 : List UInt8) (h3 h199 h295 : Int) (k : Exit → St → Option R) : vexec (ref1_Join_C n) n ref1_Join_c6 ⟨84, [(0, dL 1 a0), (3, dT h197), (4, dI h3), (5, dI h199), (6, dI h295)], []⟩ k = ref1_Join_p4 n a0 h197 h3 h199 h295 (k .ret ⟨84, [(2, dT [])], []⟩) (fun z326 => k .normal ⟨84, [(0, dL 1 a0), (3, dT h197), (4, dI h3), (5, dI h199), (6, dI z326)], []⟩) (fun z327 => k (.exit 4) ⟨84, [(0, dL 1 a0), (3, dT h197), (4, dI h3), (5, dI h199), (6, dI h295), (54, dB z327)], []⟩) := by kernel_rfl
theorem ref1_Join_r5_eq {R : Type} (n : Nat) (a0 : LL) (h197 : List UInt8) (h3 h199 : Int) (k : Exit → St → Option R) : ∀ (m : Nat) (h295 : Int), loopN (lB (ref1_Join_C n) n ref1_Join_c6) m ⟨84, [(0, dL 1 a0), (3, dT h197), (4, dI h3), (5, dI h199), (6, dI h295)], []⟩ k = ref1_Join_r5 n a0 h197 h3 h199 (k .ret ⟨84, [(2, dT [])], []⟩) (fun h295 w329 => k (.exit 4) ⟨84, [(0, dL 1 a0), (3, dT h197), (4, dI h3), (5, dI h199), (6, dI h295), (54, dB w329)], []⟩) m h295
 | 0, _ => rfl
 | m + 1, h295 => (lS (by kernel_rfl) m k).trans ((ref1_Join_p4_eq n a0 h197 h3 h199 h295 (loopK (lB (ref1_Join_C n) n ref1_Join_c6) m k)).trans (cg3 (fun x0 x1 x2 => ref1_Join_p4 n a0 h197 h3 h199 h295 x0 x1 x2 ) rfl (funext fun w328 => ref1_Join_r5_eq n a0 h197 h3 h199 k m w328) rfl))
theorem ref1_Join_p6_eq {R : Type} (n : Nat) (a0 : LL) (h197 : List UInt8) (h3 h199 w330 : Int) (w331 : Bool) (k : Exit → St → Option R) : (blockK 4 (seqK (ref1_Join_C n) n ref1_Join_c8 (blockK 3 (seqK (ref1_Join_C n) n ref1_Join_c7 k)))) (.exit 4) ⟨84, [(0, dL 1 a0), (3, dT h197), (4, dI h3), (5, dI h199), (6, dI w330), (54, dB w331)], []⟩ = ref1_Join_p6 n a0 h197 h3 h199 w330 w331 (vexec (ref1_Join_C n) n ref1_Join_c9 ⟨84, [(0, dL 1 a0), (3, dT h197), (4, dI h3), (5, dI h199), (6, dI w330), (54, dB w331)], []⟩ (seqK (ref1_Join_C n) n ref1_Join_c10 (blockK 3 (seqK (ref1_Join_C n) n ref1_Join_c7 k)))) := by kernel_rfl
theorem ref1_Join_p7_eq {R : Type} (n : Nat) (a0 : LL) (h197 : List UInt8) (h3 h199 w330 : Int) (w331 : Bool) (k : Exit → St → Option R) : vexec (ref1_Join_C n) n ref1_Join_c9 ⟨84, [(0, dL 1 a0), (3, dT h197), (4, dI h3), (5, dI h199), (6, dI w330), (54, dB w331)], []⟩ k = ref1_Join_p7 n a0 h197 h3 h199 w330 w331 (fun z333 => k .normal ⟨84, [(0, dL 1 a0), (3, dT z333), (4, dI h3), (5, dI h199)], []⟩) (fun z334 => k .normal ⟨84, [(0, dL 1 a0), (3, dT h197), (4, dI h3), (5, dI h199), (69, dB z334)], []⟩) := by kernel_rfl
theorem ref1_Join_p8_eq {R : Type} (n : Nat) (a0 : LL) (w335 : List UInt8) (h3 h199 : Int) (k : Exit → St → Option R) : (seqK (ref1_Join_C n) n ref1_Join_c10 (blockK 3 (seqK (ref1_Join_C n) n ref1_Join_c7 k))) .normal ⟨84, [(0, dL 1 a0), (3, dT w335), (4, dI h3), (5, dI h199)], []⟩ = ref1_Join_p8 n a0 w335 h3 h199 (fun z343 z344 => k .normal ⟨84, [(0, dL 1 a0), (3, dT z343), (4, dI h3), (5, dI z344)], []⟩) := by kernel_rfl
theorem ref1_Join_p9_eq {R : Type} (n : Nat) (a0 : LL) (h197 : List UInt8) (h3 h199 : Int) (w347 : Bool) (k : Exit → St → Option R) : (seqK (ref1_Join_C n) n ref1_Join_c10 (blockK 3 (seqK (ref1_Join_C n) n ref1_Join_c7 k))) .normal ⟨84, [(0, dL 1 a0), (3, dT h197), (4, dI h3), (5, dI h199), (69, dB w347)], []⟩ = ref1_Join_p9 n a0 h197 h3 h199 w347 (fun z355 z356 => k .normal ⟨84, [(0, dL 1 a0), (3, dT z355), (4, dI h3), (5, dI z356)], []⟩) := by kernel_rfl
theorem ref1_Join_p10_eq {R : Type} (n : Nat) (a0 : LL) (h197 : List UInt8) (h3 h199 : Int) (k : Exit → St → Option R) : vexec (ref1_Join_C n) n ref1_Join_c3 ⟨84, [(0, dL 1 a0), (3, dT h197), (4, dI h3), (5, dI h199)], []⟩ k = ref1_Join_p10 n a0 h197 h3 h199 (k .ret ⟨84, [(2, dT [])], []⟩) (fun z360 z361 => k .normal ⟨84, [(0, dL 1 a0), (3, dT z360), (4, dI h3), (5, dI z361)], []⟩) (fun w359 => k (.exit 2) ⟨84, [(0, dL 1 a0), (3, dT h197), (4, dI h3), (5, dI h199), (33, dB w359)], []⟩) :=
 (ref1_Join_p3_eq n a0 h197 h3 h199 k).trans (cg3 (fun x0 x1 x2 => ref1_Join_p3 n a0 h197 h3 h199 x0 x1 x2 ) rfl ((ref1_Join_r5_eq n a0 h197 h3 h199 (blockK 4 (seqK (ref1_Join_C n) n ref1_Join_c8 (blockK 3 (seqK (ref1_Join_C n) n ref1_Join_c7 k)))) n (0 : Int)).trans (cg2 (fun x0 x1 => ref1_Join_r5 n a0 h197 h3 h199 x0 x1 n (0 : Int)) rfl (funext fun w330 => funext fun w331 => (ref1_Join_p6_eq n a0 h197 h3 h199 w330 w331 k).trans (cg1 (fun x0 => ref1_Join_p6 n a0 h197 h3 h199 w330 w331 x0 ) ((ref1_Join_p7_eq n a0 h197 h3 h199 w330 w331 (seqK (ref1_Join_C n) n ref1_Join_c10 (blockK 3 (seqK (ref1_Join_C n) n ref1_Join_c7 k)))).trans (cg2 (fun x0 x1 => ref1_Join_p7 n a0 h197 h3 h199 w330 w331 x0 x1 ) (funext fun w335 => (ref1_Join_p8_eq n a0 w335 h3 h199 k)) (funext fun w347 => (ref1_Join_p9_eq n a0 h197 h3 h199 w347 k)))))))) rfl)
theorem ref1_Join_r11_eq {R : Type} (n : Nat) (a0 : LL) (h3 : Int) (k : Exit → St → Option R) : ∀ (m : Nat) (h197 : List UInt8) (h199 : Int), loopN (lB (ref1_Join_C n) n ref1_Join_c3) m ⟨84, [(0, dL 1 a0), (3, dT h197), (4, dI h3), (5, dI h199)], []⟩ k = ref1_Join_r11 n a0 h3 (k .ret ⟨84, [(2, dT [])], []⟩) (fun h197 h199 w364 => k (.exit 2) ⟨84, [(0, dL 1 a0), (3, dT h197), (4, dI h3), (5, dI h199), (33, dB w364)], []⟩) m h197 h199
 | 0, _, _ => rfl
 | m + 1, h197, h199 => (lS (by kernel_rfl) m k).trans ((ref1_Join_p10_eq n a0 h197 h3 h199 (loopK (lB (ref1_Join_C n) n ref1_Join_c3) m k)).trans (cg3 (fun x0 x1 x2 => ref1_Join_p10 n a0 h197 h3 h199 x0 x1 x2 ) rfl (funext fun w362 => funext fun w363 => ref1_Join_r11_eq n a0 h3 k m w362 w363) rfl))
theorem ref1_Join_p12_eq {R : Type} (n : Nat) (a0 : LL) (w365 : List UInt8) (h3 w366 : Int) (w367 : Bool) (k : Exit → St → Option R) : (blockK 2 (seqK (ref1_Join_C n) n ref1_Join_c5 (blockK 1 (seqK (ref1_Join_C n) n ref1_Join_c4 k)))) (.exit 2) ⟨84, [(0, dL 1 a0), (3, dT w365), (4, dI h3), (5, dI w366), (33, dB w367)], []⟩ = ref1_Join_p12 n a0 w365 h3 w366 w367 (fun z369 z370 => k .normal ⟨84, [(0, dL 1 a0), (3, dT z369), (4, dI z370)], []⟩) := by kernel_rfl
theorem ref1_Join_p13_eq {R : Type} (n : Nat) (a0 : LL) (h2 : List UInt8) (h3 : Int) (k : Exit → St → Option R) : vexec (ref1_Join_C n) n ref1_Join_c1 ⟨84, [(0, dL 1 a0), (3, dT h2), (4, dI h3)], []⟩ k = ref1_Join_p13 n a0 h2 h3 (k .ret ⟨84, [(2, dT [])], []⟩) (fun w371 w372 => k .normal ⟨84, [(0, dL 1 a0), (3, dT w371), (4, dI w372)], []⟩) (fun w373 => k (.exit 0) ⟨84, [(0, dL 1 a0), (3, dT h2), (4, dI h3), (10, dB w373)], []⟩) :=
 (ref1_Join_p2_eq n a0 h2 h3 k).trans (cg3 (fun x0 x1 x2 => ref1_Join_p2 n a0 h2 h3 x0 x1 x2 ) rfl ((ref1_Join_r11_eq n a0 h3 (blockK 2 (seqK (ref1_Join_C n) n ref1_Join_c5 (blockK 1 (seqK (ref1_Join_C n) n ref1_Join_c4 k)))) n h2 (0 : Int)).trans (cg2 (fun x0 x1 => ref1_Join_r11 n a0 h3 x0 x1 n h2 (0 : Int)) rfl (funext fun w365 => funext fun w366 => funext fun w367 => (ref1_Join_p12_eq n a0 w365 h3 w366 w367 k)))) rfl)
theorem ref1_Join_r14_eq {R : Type} (n : Nat) (a0 : LL) (k : Exit → St → Option R) : ∀ (m : Nat) (h2 : List UInt8) (h3 : Int), loopN (lB (ref1_Join_C n) n ref1_Join_c1) m ⟨84, [(0, dL 1 a0), (3, dT h2), (4, dI h3)], []⟩ k = ref1_Join_r14 n a0 (k .ret ⟨84, [(2, dT [])], []⟩) (fun h2 h3 w376 => k (.exit 0) ⟨84, [(0, dL 1 a0), (3, dT h2), (4, dI h3), (10, dB w376)], []⟩) m h2 h3
 | 0, _, _ => rfl
 | m + 1, h2, h3 => (lS (by kernel_rfl) m k).trans ((ref1_Join_p13_eq n a0 h2 h3 (loopK (lB (ref1_Join_C n) n ref1_Join_c1) m k)).trans (cg3 (fun x0 x1 x2 => ref1_Join_p13 n a0 h2 h3 x0 x1 x2 ) rfl (funext fun w374 => funext fun w375 => ref1_Join_r14_eq n a0 k m w374 w375) rfl))
theorem ref1_Join_p15_eq {R : Type} (n : Nat) (a0 : LL) (w377 : List UInt8) (w378 : Int) (w379 : Bool) (k : Exit → St → Option R) : (blockK 0 (seqK (ref1_Join_C n) n ref1_Join_c2 k)) (.exit 0) ⟨84, [(0, dL 1 a0), (3, dT w377), (4, dI w378), (10, dB w379)], []⟩ = ref1_Join_p15 n a0 w377 w378 w379 (k .ret ⟨84, [(2, dT w377)], []⟩) := by kernel_rfl
theorem ref1_Join_p16_eq {R : Type} (n : Nat) (a0 : LL) (k : Exit → St → Option R) : vexec (ref1_Join_C n) n ref1_Join_c0 ⟨84, [(0, dL 1 a0)], []⟩ k = ref1_Join_p16 n a0 (fun z380 => k .ret ⟨84, [(2, dT z380)], []⟩) :=
 (ref1_Join_p1_eq n a0 k).trans (cg1 (fun x0 => ref1_Join_p1 n a0 x0 ) ((ref1_Join_r14_eq n a0 (blockK 0 (seqK (ref1_Join_C n) n ref1_Join_c2 k)) n [] (0 : Int)).trans (cg2 (fun x0 x1 => ref1_Join_r14 n a0 x0 x1 n [] (0 : Int)) rfl (funext fun w377 => funext fun w378 => funext fun w379 => (ref1_Join_p15_eq n a0 w377 w378 w379 k)))))
theorem ref1_Join_vfn {R : Type} (n : Nat) (a0 : LL) (K : AV → Option R) : vfn (ref1_Join_C n) n Tryd.f22 [.d (D.sl 1 a0)] [] (retF [[0]] K) = ref1_Join n a0 (fun r0 => K (.d (D.str r0))) :=
  (show vfn (ref1_Join_C n) n Tryd.f22 [.d (D.sl 1 a0)] [] (retF [[0]] K) = vexec (ref1_Join_C n) n ref1_Join_c0 ⟨84, [(0, dL 1 a0)], []⟩ (retX gtt [.tmp 2] (retF [[0]] K)) from vfn_at (by kernel_rfl) (by kernel_rfl) rfl (by kernel_rfl) rfl (by kernel_rfl) rfl).trans ((ref1_Join_p16_eq n a0 (retX gtt [.tmp 2] (retF [[0]] K))).trans (by kernel_rfl))
def ref1_Join_K : AV → Option (List UInt8) := fun av => match av with
  | .d (D.str r0) => some r0
  | _ => none
def ref1_Join_e (n : Nat) : Entry := fun _ _ g avs _ k => match avs with
  | [c0] => prS g 1 c0 fun a0 => 
    gb g (ref1_Join n a0 some) [] fun r => k ⟨.d (D.str r), [], []⟩
  | _ => none
theorem ref1_Join_ok (n : Nat) : EntryOK Tryd.prog 22 (ref1_Join_e n) := by
  intro R site g avs hl k r h
  unfold ref1_Join_e at h
  split at h
  rotate_left
  · cases h
  replace h := prS_some h
  obtain ⟨a0, h, le0⟩ := h
  replace h := gb_some h
  obtain ⟨res, h, hr⟩ := h
  refine ⟨_, h, fun hg => CallOK.conv (avs' := [.d (D.sl 1 a0)]) (.cons (le0 hg) (.nil)) (callOK_fix (K := ref1_Join_K) (res := res) (ref1_Join_VC n) (fn := Tryd.f22) (n := n) (by kernel_rfl) (by kernel_rfl) (by kernel_rfl) (ss := [[0]]) rfl ?_ ?_)⟩
  · exact (ref1_Join_vfn n a0 ref1_Join_K).trans (hr hg)
  · intro x hx
    unfold ref1_Join_K at hx
    split at hx
    · injection hx with hx; subst hx; rfl
    · cases hx
end Go.Vx
/-
  TimetableRoundTrip: the law's walk.
-/
set_option linter.unusedVariables false
namespace Go.Proofs
open Go.Vx

theorem ints_of_rd {S : Nat → Prop} {w : World} {v : Value} {zs : List Int} (h : Rd S w v (.sl 1 (encI zs))) : IntsAt w v zs := by
  generalize hx : D.sl 1 (encI zs) = x at h
  cases h with
  | sl0 a cap size =>
    cases zs with
    | nil => exact ⟨a, cap, rfl, fun k z h => by simp at h⟩
    | cons z zs => simp [encI] at hx
  | sl ad cap size rows c hS hcap hsz hc hr =>
    injection hx with h1 h2
    subst h1 h2
    refine ⟨some ad, cap, by rw [encI_length], fun k z hz => ⟨ad, rfl, ?_⟩⟩
    have g : (encI zs)[k]? = some [D.int .i64 z] := by simp [encI, hz]
    have e := hc k 0 _ _ g rfl
    have q := hr k 0 _ _ g rfl
    rw [Nat.mul_one, Nat.add_zero] at e
    rw [e]
    generalize c k 0 = u at q
    cases q
    rfl
  | _ => cases hx

theorem parts_of_rd {S : Nat → Prop} {w : World} {v : Value} {ps : List (List Int × List Int × Int)} (h : Rd S w v (.sl 3 (encP ps))) : PartsAt w v ps := by
  generalize hx : D.sl 3 (encP ps) = x at h
  cases h with
  | sl0 a cap size =>
    cases ps with
    | nil => exact ⟨a, cap, rfl, fun k z h => by simp at h⟩
    | cons z zs => simp [encP] at hx
  | sl ad cap size rows c hS hcap hsz hc hr =>
    injection hx with h1 h2
    subst h1 h2
    refine ⟨some ad, cap, by simp [encP], fun k q hq => ?_⟩
    have g : (encP ps)[k]? = some [D.sl 1 (encI q.1), D.sl 1 (encI q.2.1), D.int .i64 q.2.2] := by simp [encP, hq]
    refine ⟨ad, c k 0, c k 1, rfl, hc k 0 _ _ g rfl, hc k 1 _ _ g rfl, ?_, ints_of_rd (hr k 0 _ _ g rfl), ints_of_rd (hr k 1 _ _ g rfl)⟩
    have e := hc k 2 _ _ g rfl
    have q2 := hr k 2 _ _ g rfl
    rw [e]
    generalize c k 2 = u at q2
    cases q2
    rfl
  | _ => cases hx

def ttd (t : SomeT) : TTD := ⟨t.per, t.times, t.cost, t.bound, t.parts⟩
theorem ttd_lines (t : SomeT) : fmtLines (ttd t) = fmtL t := by
  show _ :: _ :: t.parts.map partLine = _ :: _ :: t.parts.map lnP
  congr 2
  refine List.map_congr_left fun q _ => ?_
  show kwPart :: Lib.itoa q.2.2 :: arcW q.1 q.2.1 = kwP :: Lib.itoa q.2.2 :: (nums q.1 q.2.1).map Lib.itoa
  simp [arcW, nums, kwPart, kwP, List.map_map, Function.comp_def]

theorem ttd_good (t : SomeT) : GoodT (ttd t) := by
  have p0 := t.p0
  have c0 := t.c0
  have b0 := t.b0
  have t0 := t.t0
  have q0 := t.q0
  refine ⟨⟨by show _ ≤ t.per; omega, by show t.per ≤ _; omega⟩, ⟨by show _ ≤ t.cost; omega, by show t.cost ≤ _; omega⟩, ⟨by show _ ≤ t.bound; omega, by show t.bound ≤ _; omega⟩, fun x hx => ?_, by show t.times.length ≤ _; omega, by show t.parts.length ≤ _; omega, fun q hq => ?_⟩
  · have := t0.2 x hx
    exact ⟨by omega, by omega⟩
  · obtain ⟨a1, a2, a3, a4, a5⟩ := q0.2 q hq
    exact ⟨a2.symm, by omega, ⟨by omega, by omega⟩, fun a ha => by have := a3.1 a ha; omega, a3.2⟩

theorem Tryd.refjoin_calls {n : Nat} {ll : List (List (List UInt8))} {res : List UInt8} (hres : ref1_Join n (llD ll) some = some res) {w : World} {v : Value} {hd : List Value} (h : Nest w 0 v hd ll) :
    Calls Tryd.prog 22 #[v] w fun e w' => e = .returned (.string ⟨⟨res⟩⟩) ∧ RowKit.Below w.heap.size w w' := by
  have he : ref1_Join_e n Dl 0 true [.d (.sl 1 (llD ll))] (fun _ => none) some = some ⟨.d (.str res), [], []⟩ := by
    have e1 : pSl 1 (D.sl 1 (llD ll)) = some (llD ll) := rfl
    simp only [ref1_Join_e, prS, gb, orZ, e1, Option.bind_some, hres]
  obtain ⟨dl, h1, h2⟩ := ref1_Join_ok n Dl 0 true _ _ _ _ he
  simp only [Option.some.injEq] at h1
  subst h1
  refine (calls_data (h2 rfl) (args := [v]) ⟨rfl, fun i u av h1 h2 => ?_⟩).mono fun e w' ⟨u, he, hu, hb⟩ => ?_
  · match i, h1, h2 with
    | 0, h1, h2 =>
      simp only [List.getElem?_cons_zero, Option.some.injEq] at h1 h2
      subst h1 h2
      exact .d _ _ (nest_rd h)
  · obtain ⟨b, e1, rfl⟩ := hu.str_inv
    refine ⟨?_, hb⟩
    rw [he]
    congr 2
    apply ByteArray.ext
    apply Array.ext'
    exact e1.symm

/-- A timetable's value. -/
def ttV (t : SomeT) (ao : Option Addr) (cap : Nat) (po : Option Addr) (pcap : Nat) : Value := .agg #[.int .i64 t.per, .slice ao t.times.length cap, .int .i64 t.cost, .int .i64 t.bound, .slice po t.parts.length pcap]

theorem tt_inv {S : Nat → Prop} {w : World} {v : Value} {t : SomeT} (h : RdA (fun _ => none) S (fun _ => none) w tm0 v (.ag [.d (D.int .i64 t.per), .d (D.sl 1 (encI t.times)), .d (D.int .i64 t.cost), .d (D.int .i64 t.bound), .d (D.sl 3 (encP t.parts))])) :
    ∃ ao cap po pcap, v = ttV t ao cap po pcap ∧ Rd S w (.slice ao t.times.length cap) (.sl 1 (encI t.times)) ∧ Rd S w (.slice po t.parts.length pcap) (.sl 3 (encP t.parts)) := by
  obtain ⟨cs, rfl, h1, h2⟩ := h.ag_inv
  have r0 := (h2 0 _ rfl).int_inv
  have r1 := (h2 1 _ rfl).d_inv
  have r2 := (h2 2 _ rfl).int_inv
  have r3 := (h2 3 _ rfl).int_inv
  have r4 := (h2 4 _ rfl).d_inv
  obtain ⟨ao, cap, e1⟩ := rd_sl_inv r1
  obtain ⟨po, pcap, e4⟩ := rd_sl_inv r4
  rw [e1] at r1
  rw [e4] at r4
  rw [encI_length] at e1 r1
  rw [show (encP t.parts).length = t.parts.length from by simp [encP]] at e4 r4
  refine ⟨ao, cap, po, pcap, ?_, r1, r4⟩
  obtain ⟨l⟩ := cs
  match l, h1 with
  | [a, b, c, d, e], _ =>
    have q0 : a = _ := r0
    have q1 : b = _ := e1
    have q2 : c = _ := r2
    have q3 : d = _ := r3
    have q4 : e = _ := e4
    subst q0 q1 q2 q3 q4
    rfl

theorem Tryd.some_calls {t : SomeT} {l : List Int} (ht : ∀ (R : Type) (K : Int → LL → Int → Int → LL → Option R), law23_some 7000 (encI l) K = K t.per (encI t.times) t.cost t.bound (encP t.parts)) {w : World} {v : Value} (hv : Rd (SA w) w v (.sl 1 (encI l))) :
    Calls Tryd.prog 8 #[v] w fun e w' => ∃ ao cap po pcap, e = .returned (ttV t ao cap po pcap) ∧ Rd (SA w') w' (.slice ao t.times.length cap) (.sl 1 (encI t.times)) ∧ Rd (SA w') w' (.slice po t.parts.length pcap) (.sl 3 (encP t.parts)) ∧ RowKit.Below w.heap.size w w' := by
  have he : law23_some_e 7000 Dl 0 true [.d (.sl 1 (encI l))] (fun _ => none) some = some ⟨.ag [.d (D.int .i64 t.per), .d (D.sl 1 (encI t.times)), .d (D.int .i64 t.cost), .d (D.int .i64 t.bound), .d (D.sl 3 (encP t.parts))], [], []⟩ := by
    have e1 : pSl 1 (D.sl 1 (encI l)) = some (encI l) := rfl
    simp only [law23_some_e, prS, gb, orZ, e1, Option.bind_some, ht]
  obtain ⟨dl, h1, h2⟩ := law23_some_ok 7000 Dl 0 true _ _ _ _ he
  simp only [Option.some.injEq] at h1
  subst h1
  refine (calls_data (h2 rfl) (args := [v]) ⟨rfl, fun i u av h1 h2 => ?_⟩).mono fun e w' ⟨u, he, hu, hb⟩ => ?_
  · match i, h1, h2 with
    | 0, h1, h2 =>
      simp only [List.getElem?_cons_zero, Option.some.injEq] at h1 h2
      subst h1 h2
      exact .d _ _ hv
  · obtain ⟨ao, cap, po, pcap, rfl, q1, q2⟩ := tt_inv hu
    exact ⟨ao, cap, po, pcap, he, q1, q2, hb⟩

theorem Tryd.parse_calls (t : SomeT) (w : World) :
    Calls Tryd.prog 5 #[.string ⟨⟨txt (fmtL t)⟩⟩] w fun e w' => ∃ ao cap po pcap, e = .returned (.tuple #[ttV t ao cap po pcap, .int .i64 0, .int .i64 0]) ∧ Rd (SA w') w' (.slice ao t.times.length cap) (.sl 1 (encI t.times)) ∧ Rd (SA w') w' (.slice po t.parts.length pcap) (.sl 3 (encP t.parts)) ∧ RowKit.Below w.heap.size w w' := by
  have he : timetable_Parse_e 7000 Dl 0 true [.d (.str (txt (fmtL t)))] (fun _ => none) some = some ⟨.tup [.ag [.d (D.int .i64 t.per), .d (D.sl 1 (encI t.times)), .d (D.int .i64 t.cost), .d (D.int .i64 t.bound), .d (D.sl 3 (encP t.parts))], .d (D.int .i64 0), .d (D.int .i64 0)], [], []⟩ := by
    have e1 : pStr (D.str (txt (fmtL t))) = some (txt (fmtL t)) := rfl
    simp only [timetable_Parse_e, prT, gb, orZ, e1, Option.bind_some, parse_law 7000 (by decide) t]
  obtain ⟨dl, h1, h2⟩ := timetable_Parse_ok 7000 Dl 0 true _ _ _ _ he
  simp only [Option.some.injEq] at h1
  subst h1
  refine (calls_data (h2 rfl) (args := [.string ⟨⟨txt (fmtL t)⟩⟩]) ⟨rfl, fun i u av h1 h2 => ?_⟩).mono fun e w' ⟨u, he, hu, hb⟩ => ?_
  · match i, h1, h2 with
    | 0, h1, h2 =>
      simp only [List.getElem?_cons_zero, Option.some.injEq] at h1 h2
      subst h1 h2
      exact .d _ _ (.str ⟨⟨txt (fmtL t)⟩⟩)
  · obtain ⟨cs, rfl, k1, k2⟩ := hu.tup_inv
    obtain ⟨ao, cap, po, pcap, e0, q1, q2⟩ := tt_inv (k2 0 _ rfl)
    have e1 := (k2 1 _ rfl).int_inv
    have e2 := (k2 2 _ rfl).int_inv
    refine ⟨ao, cap, po, pcap, ?_, q1, q2, hb⟩
    rw [he]
    congr 2
    obtain ⟨l⟩ := cs
    match l, k1 with
    | [a, b, c], _ =>
      have e0 : a = _ := e0
      have e1 : b = _ := e1
      have e2 : c = _ := e2
      subst e0 e1 e2
      rfl

theorem Tryd.awake_calls (w : World) : Calls Tryd.prog 9 #[] w fun e w' => e = .returned (.bool true) ∧ RowKit.Below w.heap.size w w' := by
  have he : law23_awake_e 7000 Dl 0 true [] (fun _ => none) some = some ⟨.d (D.bool true), [], []⟩ := by
    simp only [law23_awake_e, gb, orZ, Option.bind_some, awake_law 7000 (by decide)]
  obtain ⟨dl, h1, h2⟩ := law23_awake_ok 7000 Dl 0 true _ _ _ _ he
  simp only [Option.some.injEq] at h1
  subst h1
  refine (calls_data (h2 rfl) (args := []) ⟨rfl, fun i u av h1 h2 => by simp at h1⟩).mono fun e w' ⟨u, he, hu, hb⟩ => ?_
  obtain rfl := hu.bool_inv
  exact ⟨he, hb⟩

theorem tt_rd {S : Nat → Prop} {w : World} {t : SomeT} {ao po : Option Addr} {cap pcap : Nat} (h1 : Rd S w (.slice ao t.times.length cap) (.sl 1 (encI t.times))) (h2 : Rd S w (.slice po t.parts.length pcap) (.sl 3 (encP t.parts))) :
    RdA (fun _ => none) S (fun _ => none) w tm0 (ttV t ao cap po pcap) (.ag [.d (D.int .i64 t.per), .d (D.sl 1 (encI t.times)), .d (D.int .i64 t.cost), .d (D.int .i64 t.bound), .d (D.sl 3 (encP t.parts))]) := by
  refine .ag _ _ rfl fun i x hx => ?_
  match i, hx with
  | 0, hx => simp only [List.getElem?_cons_zero, Option.some.injEq] at hx; subst hx; exact .d _ _ (.int _ _)
  | 1, hx => simp only [List.getElem?_cons_succ, List.getElem?_cons_zero, Option.some.injEq] at hx; subst hx; exact .d _ _ h1
  | 2, hx => simp only [List.getElem?_cons_succ, List.getElem?_cons_zero, Option.some.injEq] at hx; subst hx; exact .d _ _ (.int _ _)
  | 3, hx => simp only [List.getElem?_cons_succ, List.getElem?_cons_zero, Option.some.injEq] at hx; subst hx; exact .d _ _ (.int _ _)
  | 4, hx => simp only [List.getElem?_cons_succ, List.getElem?_cons_zero, Option.some.injEq] at hx; subst hx; exact .d _ _ h2

theorem Tryd.same_calls (t : SomeT) {w : World} {ao po ao' po' : Option Addr} {cap pcap cap' pcap' : Nat} (h1 : Rd (SA w) w (.slice ao t.times.length cap) (.sl 1 (encI t.times))) (h2 : Rd (SA w) w (.slice po t.parts.length pcap) (.sl 3 (encP t.parts)))
    (h3 : Rd (SA w) w (.slice ao' t.times.length cap') (.sl 1 (encI t.times))) (h4 : Rd (SA w) w (.slice po' t.parts.length pcap') (.sl 3 (encP t.parts))) :
    Calls Tryd.prog 7 #[ttV t ao cap po pcap, ttV t ao' cap' po' pcap'] w fun e w' => e = .returned (.bool true) ∧ RowKit.Below w.heap.size w w' := by
  have he : keep_SameTimetable_e 7000 Dl 0 true [.ag [.d (D.int .i64 t.per), .d (D.sl 1 (encI t.times)), .d (D.int .i64 t.cost), .d (D.int .i64 t.bound), .d (D.sl 3 (encP t.parts))], .ag [.d (D.int .i64 t.per), .d (D.sl 1 (encI t.times)), .d (D.int .i64 t.cost), .d (D.int .i64 t.bound), .d (D.sl 3 (encP t.parts))]] (fun _ => none) some = some ⟨.d (D.bool true), [], []⟩ := by
    have h := tt_law (R := Bool) 7000 (by decide) t some
    have e1 : pSl 1 (D.sl 1 (encI t.times)) = some (encI t.times) := rfl
    have e2 : pSl 3 (D.sl 3 (encP t.parts)) = some (encP t.parts) := rfl
    have e3 : ∀ z : Int, pInt .i64 (D.int .i64 z) = some z := fun _ => rfl
    simp only [keep_SameTimetable_e, prG, prI, prS, gb, orZ, e1, e2, e3, Option.bind_some, h]
  obtain ⟨dl, k1, k2⟩ := keep_SameTimetable_ok 7000 Dl 0 true _ _ _ _ he
  simp only [Option.some.injEq] at k1
  subst k1
  refine (calls_data (k2 rfl) (args := [ttV t ao cap po pcap, ttV t ao' cap' po' pcap']) ⟨rfl, fun i u av q1 q2 => ?_⟩).mono fun e w' ⟨u, he, hu, hb⟩ => ?_
  · match i, q1, q2 with
    | 0, q1, q2 =>
      simp only [List.getElem?_cons_zero, Option.some.injEq] at q1 q2
      subst q1 q2
      exact tt_rd h1 h2
    | 1, q1, q2 =>
      simp only [List.getElem?_cons_succ, List.getElem?_cons_zero, Option.some.injEq] at q1 q2
      subst q1 q2
      exact tt_rd h3 h4
  · obtain rfl := hu.bool_inv
    exact ⟨he, hb⟩
end Go.Proofs
/-
  TimetableRoundTrip: the law's walk.
-/
set_option linter.unusedVariables false
namespace Go.Proofs
open Go.Vx

theorem box_cells {w : World} {b : Nat} {a0 a1 a2 a3 a4 : Value} (h : w.heap[b]? = some (.cells #[a0, a1, a2, a3, a4] 25 (0, 0))) :
    w.cell? ⟨b, 0, none⟩ = some a0 ∧ w.cell? ⟨b, 1, none⟩ = some a1 ∧ w.cell? ⟨b, 2, none⟩ = some a2 ∧ w.cell? ⟨b, 3, none⟩ = some a3 ∧ w.cell? ⟨b, 4, none⟩ = some a4 := by
  refine ⟨?_, ?_, ?_, ?_, ?_⟩ <;> (rw [Lib.cell_of_heap h]; rfl)

theorem rd_up {w w' : World} {v : Value} {d : D} (h : Rd (SA w) w v d) (hs : w.heap.size ≤ w'.heap.size) (hh : ∀ b, b < w.heap.size → w'.heap[b]? = w.heap[b]?) : Rd (SA w') w' v d :=
  h.mono (fun b hb => Nat.lt_of_lt_of_le hb hs) hh

set_option maxHeartbeats 4000000 in
set_option maxRecDepth 100000 in
theorem Tryd.law_walk (W : World) (v : Value) (l : List Int) (hl : l.length ≤ 9223372036854775807) (hv : Rd (SA W) W v (.sl 1 (encI l))) (htab : Lib.TabIs Tryd.prog W "internal/strconv.uint64pow10" .u64 Lib.pow10Tab) :
    Calls Tryd.prog 4 #[v] W fun e w' => e = .returned (.bool true) ∧ RowKit.Below W.heap.size W w' := by
  obtain ⟨t, ht⟩ := some_law 7000 (by decide) hl
  have hj1 : ∀ (w' : World) (v : Value) (hd : List Value), Nest w' 0 v hd (fmtLines (ttd t)) → Calls Tryd.prog 15 #[v] w' fun e w'' => e = .returned (.string ⟨⟨txt (fmtL t)⟩⟩) ∧ RowKit.Below w'.heap.size w' w'' := by
    intro w' v hd h
    rw [ttd_lines] at h
    exact Tryd.join_calls (n := 7000) (join_law 7000 (by decide) (Nat.le_trans (fmt_ok t).2 (by decide)) (fmt_ok t).1 some) h
  have hj2 : ∀ (w' : World) (v : Value) (hd : List Value), Nest w' 0 v hd (fmtLines (ttd t)) → Calls Tryd.prog 22 #[v] w' fun e w'' => e = .returned (.string ⟨⟨txt (fmtL t)⟩⟩) ∧ RowKit.Below w'.heap.size w' w'' := by
    intro w' v hd h
    rw [ttd_lines] at h
    exact Tryd.refjoin_calls (n := 7000) (refjoin_law 7000 (by decide) (Nat.le_trans (fmt_ok t).2 (by decide)) (fmt_ok t).1 some) h
  obtain ⟨vo, vcap, rfl⟩ := rd_sl_inv hv
  go_enter Tryd.func4, Tryd.ntmps4
  go_wp2_with (go_at_call 8; refine (Tryd.some_calls ht hv).mono ?_; rintro e w1 ⟨ao, cap, po, pcap, rfl, r1, r2, b1⟩; unfold ttV)
  have o2 : ∀ b, b < w1.heap.size → (w1.alloc (.cells #[.int .i64 t.per, .slice ao t.times.length cap, .int .i64 t.cost, .int .i64 t.bound, .slice po t.parts.length pcap] 25)).heap[b]? = w1.heap[b]? := fun b hb => Lib.alloc_old w1 _ b hb
  have i2 := (ints_of_rd r1).keep o2
  have p2 := (parts_of_rd r2).keep o2
  have t2 := tab_old (tab_old htab b1.block) o2
  have n2 : (w1.alloc (.cells #[.int .i64 t.per, .slice ao t.times.length cap, .int .i64 t.cost, .int .i64 t.bound, .slice po t.parts.length pcap] 25)).heap[w1.heap.size]? = some (.cells #[.int .i64 t.per, .slice ao t.times.length cap, .int .i64 t.cost, .int .i64 t.bound, .slice po t.parts.length pcap] 25) := heap_alloc_new w1 _
  have s1 : (w1.alloc (.cells #[.int .i64 t.per, .slice ao t.times.length cap, .int .i64 t.cost, .int .i64 t.bound, .slice po t.parts.length pcap] 25)).heap.size = w1.heap.size + 1 := by simp
  go_wp2_with (go_at_call 6; refine (Tryd.format_walk (w1.alloc (.cells #[.int .i64 t.per, .slice ao t.times.length cap, .int .i64 t.cost, .int .i64 t.bound, .slice po t.parts.length pcap] 25)) (ttd t) (.slice ao t.times.length cap) (.slice po t.parts.length pcap) (ttd_good t) i2 p2 t2 (txt (fmtL t)) (fun w' v hd hn _ => hj1 w' v hd hn)).mono ?_; rintro e w3 ⟨rfl, b3⟩)
  have e3 : ∀ b, b < w1.heap.size + 1 → w3.heap[b]? = (w1.alloc (.cells #[.int .i64 t.per, .slice ao t.times.length cap, .int .i64 t.cost, .int .i64 t.bound, .slice po t.parts.length pcap] 25)).heap[b]? := fun b hb => b3.block b (by omega)
  have z3 := b3.size
  go_wp2_with (go_at_call 5; refine (Tryd.parse_calls t w3).mono ?_; rintro e w4 ⟨ao', cap', po', pcap', rfl, q1, q2, b4⟩; unfold ttV)
  have n4 : (w4.alloc (.cells #[.int .i64 t.per, .slice ao' t.times.length cap', .int .i64 t.cost, .int .i64 t.bound, .slice po' t.parts.length pcap'] 25)).heap[w4.heap.size]? = some (.cells #[.int .i64 t.per, .slice ao' t.times.length cap', .int .i64 t.cost, .int .i64 t.bound, .slice po' t.parts.length pcap'] 25) := heap_alloc_new w4 _
  have s4 : (w4.alloc (.cells #[.int .i64 t.per, .slice ao' t.times.length cap', .int .i64 t.cost, .int .i64 t.bound, .slice po' t.parts.length pcap'] 25)).heap.size = w4.heap.size + 1 := by simp
  have z4 := b4.size
  go_wp2_with (go_at_call 9; refine (Tryd.awake_calls _).mono ?_; rintro e w5 ⟨rfl, b5⟩; have z5 := b5.size; have e5 : ∀ b, b < w1.heap.size + 1 → w5.heap[b]? = (w1.alloc (.cells #[.int .i64 t.per, .slice ao t.times.length cap, .int .i64 t.cost, .int .i64 t.bound, .slice po t.parts.length pcap] 25)).heap[b]? := fun b hb => ((b5.block b (by omega)).trans ((Lib.alloc_old w4 _ b (by omega)).trans (b4.block b (by omega)))).trans (e3 b hb); obtain ⟨x0, x1, x2, x3, x4⟩ := box_cells ((e5 _ (by omega)).trans n2))
  have m5 : ∀ b, b < w4.heap.size + 1 → w5.heap[b]? = (w4.alloc (.cells #[.int .i64 t.per, .slice ao' t.times.length cap', .int .i64 t.cost, .int .i64 t.bound, .slice po' t.parts.length pcap'] 25)).heap[b]? := fun b hb => b5.block b (by omega)
  have i5 := (ints_of_rd r1).keep fun b hb => (e5 b (by omega)).trans (o2 b hb)
  have p5 := (parts_of_rd r2).keep fun b hb => (e5 b (by omega)).trans (o2 b hb)
  go_wp2_with (go_at_call 10; refine (Tryd.fmtref_walk w5 (ttd t) (.slice ao t.times.length cap) (.slice po t.parts.length pcap) (ttd_good t) i5 p5 (txt (fmtL t)) (fun w' v hd hn _ => hj2 w' v hd hn)).mono ?_; rintro e w6 ⟨rfl, b6⟩; have z6 := b6.size; obtain ⟨y0, y1, y2, y3, y4⟩ := box_cells ((b6.block _ (by omega)).trans ((e5 _ (by omega)).trans n2)); obtain ⟨u0, u1, u2, u3, u4⟩ := box_cells ((b6.block _ (by omega)).trans ((m5 _ (by omega)).trans n4)))
  have g1 : Rd (SA w6) w6 _ _ := rd_up r1 (by omega) fun b hb => (b6.block b (by omega)).trans ((e5 b (by omega)).trans (o2 b hb))
  have g2 : Rd (SA w6) w6 _ _ := rd_up r2 (by omega) fun b hb => (b6.block b (by omega)).trans ((e5 b (by omega)).trans (o2 b hb))
  have g3 : Rd (SA w6) w6 _ _ := rd_up q1 (by omega) fun b hb => (b6.block b (by omega)).trans ((m5 b (by omega)).trans (Lib.alloc_old w4 _ b hb))
  have g4 : Rd (SA w6) w6 _ _ := rd_up q2 (by omega) fun b hb => (b6.block b (by omega)).trans ((m5 b (by omega)).trans (Lib.alloc_old w4 _ b hb))
  go_wp2_with (go_at_call 7; refine (Tryd.same_calls t g1 g2 g3 g4).mono ?_; rintro e w7 ⟨rfl, b7⟩)
  go_ret
  have z1 := b1.size
  have z7 := b7.size
  refine ⟨rfl, b7.os.trans (b6.os.trans (b5.os.trans (b4.os.trans (b3.os.trans b1.os)))), b7.tape.trans (b6.tape.trans (b5.tape.trans (b4.tape.trans (b3.tape.trans b1.tape)))), b7.output.trans (b6.output.trans (b5.output.trans (b4.output.trans (b3.output.trans b1.output)))), by omega, fun b hb => ?_⟩
  exact (b7.block b (by omega)).trans ((b6.block b (by omega)).trans ((e5 b (by omega)).trans ((o2 b (by omega)).trans (b1.block b hb))))
end Go.Proofs
