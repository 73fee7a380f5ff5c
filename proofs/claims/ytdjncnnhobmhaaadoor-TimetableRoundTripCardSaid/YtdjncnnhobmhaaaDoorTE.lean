/- Part of a proof: texts Vpwords Join TmJoin RtBase TmRange TmHand RtIter Vfinternal stringslite Index Vfinternal stringslite Cut Vfstrings Cut Vfwords appendWord s1 Vfwords split Vfwords Lines Vpinternal . No conditions of their own. -/
import Derived.Test.YtdjncnnhobmhaaaDoorTD
import Derived.Test.YtdjncnnhobmhaaaDoorTC
import Derived.Test.YtdjncnnhobmhaaaDoorTB
import Derived.OrdersIn
import Derived.LoopNIn
import Derived.RangeFuncOwn
import Derived.RangeFuncNested
import Derived.RangeFuncBound
import Derived.RangeFuncCalls
import Derived.OwnWalkIn
import Derived.TacticsInMore
import Derived.Test.YtdjncnnhobmhaaaDoorProg
import Derived.WalkKit
import Derived.Lib.Bytealg
import Derived.Lib.IndexBytes
import Derived.RangeFuncLeaves
import Derived.Shelf.Abstract
import Derived.LoopIn
import Derived.Test.YtdjncnnhobmhaaaDoorTA
import Derived.Deep.AppendLies
import Derived.Lib.Builder
import Derived.Lib.ItoaNum
import Derived.Lib.ItoaLen
/-
  words_Join: the interpreter computes the pure function
-/
set_option linter.unusedVariables false
set_option linter.unusedSimpArgs false
set_option maxRecDepth 100000
namespace Go.Vx
open Go.Proofs
noncomputable def words_Join_c0 : Code := bodyOf Tryd.f15
noncomputable def words_Join_c1 : Code := cA [1, 1, 0, 1, 2, 2] (bodyOf Tryd.f15)
noncomputable def words_Join_c2 : Code := cA [1, 1, 1] (bodyOf Tryd.f15)
noncomputable def words_Join_c3 : Code := cA [1, 1, 0, 1, 2, 2, 1, 1, 0, 2, 1, 1, 0, 1, 2, 2] (bodyOf Tryd.f15)
noncomputable def words_Join_c4 : Code := cA [1, 1, 0, 1, 2, 2, 1, 1, 1] (bodyOf Tryd.f15)
noncomputable def words_Join_c5 : Code := cA [1, 1, 0, 1, 2, 2, 1, 1, 0, 2, 1, 1, 1] (bodyOf Tryd.f15)
def words_Join_C (n : Nat) : VC := ⟨specOf [(27, words_isWord_e n), (28, strings_Builder_WriteByte_e n), (29, strings_Builder_WriteString_e n), (30, strings_Builder_String_e n)], gtt, [cK 0 [0], cO 1 [0, 3] [3], (2, ⟨[3, 8, 9, 10], [(3, 3)], [], [(3, 1, 500301, 5, 1)], []⟩), cO 3 [3, 8, 9, 10, 11] [3, 500301], cO 4 [3, 5, 8, 9, 10] [3, 500301], cO 5 [3, 5, 8, 9, 10, 21] [3, 500301], cK 6 [2], cO 7 [3, 8, 9, 10, 22, 23, 24] [3, 500301], cO 8 [3, 8, 9, 10, 22, 23, 24, 25] [3, 500301], cO 9 [3, 6, 7, 8, 9, 10, 22, 23, 24] [3, 500301], cO 10 [3, 6, 7, 8, 9, 10, 22, 23, 24, 31] [3, 500301], cK 11 [2], cO 12 [3, 7, 8, 9, 10, 22, 23, 24, 33] [3, 500301], cO 13 [3, 7, 8, 9, 10, 22, 23, 24] [3, 100034], cO 14 [3, 8, 9, 10, 22, 23, 24] [3, 100036], cO 15 [3, 8, 9, 10, 22, 23, 24] [3, 100036], cO 16 [3, 8, 9, 10] [3, 100038], cO 17 [3, 8, 9, 10] [3, 100038], cK 18 [2], (3000000003, ⟨[3, 8, 9, 10], [(3, 3), (100038, 500301), (500301, 500301)], [], [], []⟩), (3000000008, ⟨[3, 8, 9, 10, 22, 23, 24], [(3, 3), (100036, 500301), (500301, 500301)], [], [], []⟩)]⟩
theorem words_Join_VC (n : Nat) : VCOk Tryd.prog (words_Join_C n) := gVC (specOf_ok ⟨words_isWord_ok n, ⟨strings_Builder_WriteByte_ok n, ⟨strings_Builder_WriteString_ok n, ⟨strings_Builder_String_ok n, trivial⟩⟩⟩⟩)
theorem words_Join_p1_eq {R : Type} (n : Nat) (a0 : LL) (k : Exit → St → Option R) : vexec (words_Join_C n) n words_Join_c0 ⟨41, [(0, dL 1 a0)], []⟩ k = words_Join_p1 n a0 (fun z1 => loopN (lB (words_Join_C n) n words_Join_c1) n ⟨41, [(3, .ptr 3 0), (8, dL 1 a0), (9, dI z1), (10, dI (0 : Int))], [(500301, .arr 5 1 []), (3, .box [.sa 3 71, .arr 500301])]⟩ (blockK 0 (seqK (words_Join_C n) n words_Join_c2 k))) := by kernel_rfl
theorem words_Join_p2_eq {R : Type} (n : Nat) (a0 : LL) (w2 h5 : Int) (h6 : LL) (k : Exit → St → Option R) : vexec (words_Join_C n) n words_Join_c1 ⟨41, [(3, .ptr 3 0), (8, dL 1 a0), (9, dI w2), (10, dI h5)], [(3, .box [.sa 3 71, .arr 500301]), (500301, .arr 5 1 h6)]⟩ k = words_Join_p2 n a0 w2 h5 h6 (k .ret ⟨41, [(2, dT [])], []⟩) (fun l55 z56 => loopN (lB (words_Join_C n) n words_Join_c3) n ⟨41, [(3, .ptr 3 0), (8, dL 1 a0), (9, dI w2), (10, dI h5), (22, dL 1 l55), (23, dI z56), (24, dI (0 : Int))], [(3, .box [.sa 3 71, .arr 500301]), (500301, .arr 5 1 h6)]⟩ (blockK 2 (seqK (words_Join_C n) n words_Join_c5 (blockK 1 (seqK (words_Join_C n) n words_Join_c4 k))))) (fun z57 => k (.exit 0) ⟨41, [(3, .ptr 3 0), (8, dL 1 a0), (9, dI w2), (10, dI h5), (11, dB z57)], [(3, .box [.sa 3 71, .arr 500301]), (500301, .arr 5 1 h6)]⟩) := by kernel_rfl
theorem words_Join_p3_eq {R : Type} (n : Nat) (a0 : LL) (w2 h5 : Int) (w58 : LL) (w59 h65 : Int) (h66 : LL) (k : Exit → St → Option R) : vexec (words_Join_C n) n words_Join_c3 ⟨41, [(3, .ptr 3 0), (8, dL 1 a0), (9, dI w2), (10, dI h5), (22, dL 1 w58), (23, dI w59), (24, dI h65)], [(3, .box [.sa 3 71, .arr 500301]), (500301, .arr 5 1 h66)]⟩ k = words_Join_p3 n a0 w2 h5 w58 w59 h65 h66 (k .ret ⟨41, [(2, dT [])], []⟩) (fun z84 z85 => k .normal ⟨41, [(3, .ptr 3 0), (8, dL 1 a0), (9, dI w2), (10, dI h5), (22, dL 1 w58), (23, dI w59), (24, dI z84)], [(3, .box [.sa 3 71, .arr 100036]), (100036, .arr 5 1 z85)]⟩) (fun z86 => k (.exit 2) ⟨41, [(3, .ptr 3 0), (8, dL 1 a0), (9, dI w2), (10, dI h5), (22, dL 1 w58), (23, dI w59), (24, dI h65), (25, dB z86)], [(3, .box [.sa 3 71, .arr 500301]), (500301, .arr 5 1 h66)]⟩) := by kernel_rfl
theorem words_Join_r4_eq {R : Type} (n : Nat) (a0 : LL) (w2 h5 : Int) (w58 : LL) (w59 : Int) (k : Exit → St → Option R) : ∀ (m : Nat) (h65 : Int) (h66 : LL), loopN (lB (words_Join_C n) n words_Join_c3) m ⟨41, [(3, .ptr 3 0), (8, dL 1 a0), (9, dI w2), (10, dI h5), (22, dL 1 w58), (23, dI w59), (24, dI h65)], [(3, .box [.sa 3 71, .arr 500301]), (500301, .arr 5 1 h66)]⟩ k = words_Join_r4 n a0 w2 h5 w58 w59 (k .ret ⟨41, [(2, dT [])], []⟩) (fun h65 w89 h66 => k (.exit 2) ⟨41, [(3, .ptr 3 0), (8, dL 1 a0), (9, dI w2), (10, dI h5), (22, dL 1 w58), (23, dI w59), (24, dI h65), (25, dB w89)], [(3, .box [.sa 3 71, .arr 500301]), (500301, .arr 5 1 h66)]⟩) m h65 h66
 | 0, _, _ => rfl
 | m + 1, h65, h66 => (lS (by kernel_rfl) m k).trans ((words_Join_p3_eq n a0 w2 h5 w58 w59 h65 h66 (loopK (lB (words_Join_C n) n words_Join_c3) m k)).trans (cg3 (fun x0 x1 x2 => words_Join_p3 n a0 w2 h5 w58 w59 h65 h66 x0 x1 x2 ) rfl (funext fun w87 => funext fun w88 => (loopN_at (by kernel_rfl) m k).trans (words_Join_r4_eq n a0 w2 h5 w58 w59 k m w87 w88)) rfl))
theorem words_Join_p5_eq {R : Type} (n : Nat) (a0 : LL) (w2 h5 : Int) (w58 : LL) (w59 w90 : Int) (w91 : Bool) (w92 : LL) (k : Exit → St → Option R) : (blockK 2 (seqK (words_Join_C n) n words_Join_c5 (blockK 1 (seqK (words_Join_C n) n words_Join_c4 k)))) (.exit 2) ⟨41, [(3, .ptr 3 0), (8, dL 1 a0), (9, dI w2), (10, dI h5), (22, dL 1 w58), (23, dI w59), (24, dI w90), (25, dB w91)], [(3, .box [.sa 3 71, .arr 500301]), (500301, .arr 5 1 w92)]⟩ = words_Join_p5 n a0 w2 h5 w58 w59 w90 w91 w92 (fun z94 z95 => k .normal ⟨41, [(3, .ptr 3 0), (8, dL 1 a0), (9, dI w2), (10, dI z94)], [(3, .box [.sa 3 71, .arr 100038]), (100038, .arr 5 1 z95)]⟩) := by kernel_rfl
theorem words_Join_p6_eq {R : Type} (n : Nat) (a0 : LL) (w2 h5 : Int) (h6 : LL) (k : Exit → St → Option R) : vexec (words_Join_C n) n words_Join_c1 ⟨41, [(3, .ptr 3 0), (8, dL 1 a0), (9, dI w2), (10, dI h5)], [(3, .box [.sa 3 71, .arr 500301]), (500301, .arr 5 1 h6)]⟩ k = words_Join_p6 n a0 w2 h5 h6 (k .ret ⟨41, [(2, dT [])], []⟩) (fun w96 w97 => k .normal ⟨41, [(3, .ptr 3 0), (8, dL 1 a0), (9, dI w2), (10, dI w96)], [(3, .box [.sa 3 71, .arr 100038]), (100038, .arr 5 1 w97)]⟩) (fun w98 => k (.exit 0) ⟨41, [(3, .ptr 3 0), (8, dL 1 a0), (9, dI w2), (10, dI h5), (11, dB w98)], [(3, .box [.sa 3 71, .arr 500301]), (500301, .arr 5 1 h6)]⟩) :=
 (words_Join_p2_eq n a0 w2 h5 h6 k).trans (cg3 (fun x0 x1 x2 => words_Join_p2 n a0 w2 h5 h6 x0 x1 x2 ) rfl (funext fun w58 => funext fun w59 => ((loopN_at (by kernel_rfl) n (blockK 2 (seqK (words_Join_C n) n words_Join_c5 (blockK 1 (seqK (words_Join_C n) n words_Join_c4 k))))).trans (words_Join_r4_eq n a0 w2 h5 w58 w59 (blockK 2 (seqK (words_Join_C n) n words_Join_c5 (blockK 1 (seqK (words_Join_C n) n words_Join_c4 k)))) n (0 : Int) h6)).trans (cg2 (fun x0 x1 => words_Join_r4 n a0 w2 h5 w58 w59 x0 x1 n (0 : Int) h6) rfl (funext fun w90 => funext fun w91 => funext fun w92 => (words_Join_p5_eq n a0 w2 h5 w58 w59 w90 w91 w92 k)))) rfl)
theorem words_Join_r7_eq {R : Type} (n : Nat) (a0 : LL) (w2 : Int) (k : Exit → St → Option R) : ∀ (m : Nat) (h5 : Int) (h6 : LL), loopN (lB (words_Join_C n) n words_Join_c1) m ⟨41, [(3, .ptr 3 0), (8, dL 1 a0), (9, dI w2), (10, dI h5)], [(3, .box [.sa 3 71, .arr 500301]), (500301, .arr 5 1 h6)]⟩ k = words_Join_r7 n a0 w2 (k .ret ⟨41, [(2, dT [])], []⟩) (fun h5 w101 h6 => k (.exit 0) ⟨41, [(3, .ptr 3 0), (8, dL 1 a0), (9, dI w2), (10, dI h5), (11, dB w101)], [(3, .box [.sa 3 71, .arr 500301]), (500301, .arr 5 1 h6)]⟩) m h5 h6
 | 0, _, _ => rfl
 | m + 1, h5, h6 => (lS (by kernel_rfl) m k).trans ((words_Join_p6_eq n a0 w2 h5 h6 (loopK (lB (words_Join_C n) n words_Join_c1) m k)).trans (cg3 (fun x0 x1 x2 => words_Join_p6 n a0 w2 h5 h6 x0 x1 x2 ) rfl (funext fun w99 => funext fun w100 => (loopN_at (by kernel_rfl) m k).trans (words_Join_r7_eq n a0 w2 k m w99 w100)) rfl))
theorem words_Join_p8_eq {R : Type} (n : Nat) (a0 : LL) (w2 w102 : Int) (w103 : Bool) (w104 : LL) (k : Exit → St → Option R) : (blockK 0 (seqK (words_Join_C n) n words_Join_c2 k)) (.exit 0) ⟨41, [(3, .ptr 3 0), (8, dL 1 a0), (9, dI w2), (10, dI w102), (11, dB w103)], [(3, .box [.sa 3 71, .arr 500301]), (500301, .arr 5 1 w104)]⟩ = words_Join_p8 n a0 w2 w102 w103 w104 (fun s105 => k .ret ⟨41, [(2, dT s105)], []⟩) := by kernel_rfl
theorem words_Join_p9_eq {R : Type} (n : Nat) (a0 : LL) (k : Exit → St → Option R) : vexec (words_Join_C n) n words_Join_c0 ⟨41, [(0, dL 1 a0)], []⟩ k = words_Join_p9 n a0 (fun z107 => k .ret ⟨41, [(2, dT z107)], []⟩) :=
 (words_Join_p1_eq n a0 k).trans (cg1 (fun x0 => words_Join_p1 n a0 x0 ) (funext fun w2 => ((loopN_at (by kernel_rfl) n (blockK 0 (seqK (words_Join_C n) n words_Join_c2 k))).trans (words_Join_r7_eq n a0 w2 (blockK 0 (seqK (words_Join_C n) n words_Join_c2 k)) n (0 : Int) [])).trans (cg2 (fun x0 x1 => words_Join_r7 n a0 w2 x0 x1 n (0 : Int) []) rfl (funext fun w102 => funext fun w103 => funext fun w104 => (words_Join_p8_eq n a0 w2 w102 w103 w104 k)))))
theorem words_Join_vfn {R : Type} (n : Nat) (a0 : LL) (K : AV → Option R) : vfn (words_Join_C n) n Tryd.f15 [.d (D.sl 1 a0)] [] (retF [[0]] K) = words_Join n a0 (fun r0 => K (.d (D.str r0))) :=
  (show vfn (words_Join_C n) n Tryd.f15 [.d (D.sl 1 a0)] [] (retF [[0]] K) = vexec (words_Join_C n) n words_Join_c0 ⟨41, [(0, dL 1 a0)], []⟩ (retX gtt [.tmp 2] (retF [[0]] K)) from vfn_at (by kernel_rfl) (by kernel_rfl) rfl (by kernel_rfl) rfl (by kernel_rfl) rfl).trans ((words_Join_p9_eq n a0 (retX gtt [.tmp 2] (retF [[0]] K))).trans (by kernel_rfl))
def words_Join_K : AV → Option (List UInt8) := fun av => match av with
  | .d (D.str r0) => some r0
  | _ => none
def words_Join_e (n : Nat) : Entry := fun _ _ g avs _ k => match avs with
  | [c0] => prS g 1 c0 fun a0 => 
    gb g (words_Join n a0 some) [] fun r => k ⟨.d (D.str r), [], []⟩
  | _ => none
theorem words_Join_ok (n : Nat) : EntryOK Tryd.prog 15 (words_Join_e n) := by
  intro R site g avs hl k r h
  unfold words_Join_e at h
  split at h
  rotate_left
  · cases h
  replace h := prS_some h
  obtain ⟨a0, h, le0⟩ := h
  replace h := gb_some h
  obtain ⟨res, h, hr⟩ := h
  refine ⟨_, h, fun hg => CallOK.conv (avs' := [.d (D.sl 1 a0)]) (.cons (le0 hg) (.nil)) (callOK_fix (K := words_Join_K) (res := res) (words_Join_VC n) (fn := Tryd.f15) (n := n) (by kernel_rfl) (by kernel_rfl) (by kernel_rfl) (ss := [[0]]) rfl ?_ ?_)⟩
  · exact (words_Join_vfn n a0 words_Join_K).trans (hr hg)
  · intro x hx
    unfold words_Join_K at hx
    split at hx
    · injection hx with hx; subst hx; rfl
    · cases hx
end Go.Vx
/-
  A nest read as data; Join's contract.
-/
set_option linter.unusedVariables false
namespace Go.Proofs
open Go.Vx

def wordsD (l : List (List UInt8)) : List (List D) := l.map fun s => [D.str s]
def llD (ll : List (List (List UInt8))) : List (List D) := ll.map fun l => [D.sl 1 (wordsD l)]

theorem addr_at (g j : Nat) : ((⟨g, 0, none⟩ : Addr).add j) = ⟨g, j, none⟩ := by unfold Addr.add; split <;> simp_all

theorem rd_words {w : World} {v : Value} {l : List (List UInt8)} (h : w.ownsRow 0 9 1 v l.length (l.map sV)) : Rd (SA w) w v (.sl 1 (wordsD l)) := by
  rcases h.2 with ⟨rfl, h0⟩ | ⟨g, cap, cur, rfl, _, hg, hn, _, _, _⟩
  · obtain rfl : l = [] := List.eq_nil_of_length_eq_zero h0
    exact .sl0 _ _ _
  · have hlen : l.length = (wordsD l).length := by simp [wordsD]
    rw [hlen]
    refine .sl ⟨g, 0, none⟩ cap 1 (wordsD l) (fun i _ => sV (l.getD i [])) ?_ (by rw [← hlen]; exact hn) ?_ ?_ ?_
    · exact (Array.getElem?_eq_some_iff.1 hg).1
    · intro i r hr
      simp only [wordsD, List.getElem?_map, Option.map_eq_some_iff] at hr
      obtain ⟨s, _, rfl⟩ := hr
      rfl
    · intro i j r x hr hx
      simp only [wordsD, List.getElem?_map, Option.map_eq_some_iff] at hr
      obtain ⟨s, hs, rfl⟩ := hr
      match j, hx with
      | 0, hx =>
        have := h.cells (g := g) rfl i (sV s) (by simp [hs])
        rw [Nat.mul_one, Nat.add_zero, List.getD_eq_getElem?_getD, hs]
        exact this
    · intro i j r x hr hx
      simp only [wordsD, List.getElem?_map, Option.map_eq_some_iff] at hr
      obtain ⟨s, hs, rfl⟩ := hr
      match j, hx with
      | 0, hx =>
        simp only [List.getElem?_cons_zero, Option.some.injEq] at hx
        subst hx
        rw [List.getD_eq_getElem?_getD, hs]
        exact .str ⟨⟨s⟩⟩

theorem nest_rd {w : World} {v : Value} {hd : List Value} {ll : List (List (List UInt8))} (h : Nest w 0 v hd ll) : Rd (SA w) w v (.sl 1 (llD ll)) := by
  have hl := h.len
  rcases h.row.2 with ⟨rfl, h0⟩ | ⟨g, cap, cur, rfl, _, hg, hn, _, _, _⟩
  · obtain rfl : ll = [] := List.eq_nil_of_length_eq_zero h0
    exact .sl0 _ _ _
  · have hlen : ll.length = (llD ll).length := by simp [llD]
    have hat : ∀ (i : Nat) (l : List (List UInt8)), ll[i]? = some l → ∃ x, hd[i]? = some x ∧ Rd (SA w) w x (.sl 1 (wordsD l)) := by
      intro i l hi
      have hi2 := (List.getElem?_eq_some_iff.1 hi).1
      refine ⟨hd[i]'(by omega), List.getElem?_eq_getElem (by omega), rd_words (h.each i _ l (List.getElem?_eq_getElem (by omega)) hi)⟩
    have hrow := h.row
    rw [hlen]
    refine .sl ⟨g, 0, none⟩ cap 1 (llD ll) (fun i _ => hd.getD i undef) ?_ (by rw [← hlen]; exact hn) ?_ ?_ ?_
    · exact (Array.getElem?_eq_some_iff.1 hg).1
    · intro i r hr
      simp only [llD, List.getElem?_map, Option.map_eq_some_iff] at hr
      obtain ⟨s, _, rfl⟩ := hr
      rfl
    · intro i j r x hr hx
      simp only [llD, List.getElem?_map, Option.map_eq_some_iff] at hr
      obtain ⟨l, hs, rfl⟩ := hr
      obtain ⟨u, hu, _⟩ := hat i l hs
      match j, hx with
      | 0, hx =>
        have := hrow.cells (g := g) rfl i u hu
        rw [Nat.mul_one, Nat.add_zero, List.getD_eq_getElem?_getD, hu]
        exact this
    · intro i j r x hr hx
      simp only [llD, List.getElem?_map, Option.map_eq_some_iff] at hr
      obtain ⟨l, hs, rfl⟩ := hr
      obtain ⟨u, hu, hrd⟩ := hat i l hs
      match j, hx with
      | 0, hx =>
        simp only [List.getElem?_cons_zero, Option.some.injEq] at hx
        subst hx
        rw [List.getD_eq_getElem?_getD, hu]
        exact hrd

theorem Tryd.join_calls {n : Nat} {ll : List (List (List UInt8))} {res : List UInt8} (hres : words_Join n (llD ll) some = some res) {w : World} {v : Value} {hd : List Value} (h : Nest w 0 v hd ll) :
    Calls Tryd.prog 15 #[v] w fun e w' => e = .returned (.string ⟨⟨res⟩⟩) ∧ RowKit.Below w.heap.size w w' := by
  have he : words_Join_e n Dl 0 true [.d (.sl 1 (llD ll))] (fun _ => none) some = some ⟨.d (.str res), [], []⟩ := by
    have e1 : pSl 1 (D.sl 1 (llD ll)) = some (llD ll) := rfl
    simp only [words_Join_e, prS, gb, orZ, e1, Option.bind_some, hres]
  obtain ⟨dl, h1, h2⟩ := words_Join_ok n Dl 0 true _ _ _ _ he
  simp only [Option.some.injEq] at h1
  subst h1
  refine (calls_data (h2 rfl) (args := [v]) ⟨rfl, fun i u av h1 h2 => ?_⟩).mono fun e w' ⟨u, he, hu, hb⟩ => ?_
  · match i, h1, h2 with
    | 0, h1, h2 =>
      simp only [List.getElem?_cons_zero, Option.some.injEq] at h1 h2
      subst h1 h2
      exact .d _ _ (nest_rd h)
  · obtain ⟨b, e1, rfl⟩ := hu.str_inv
    refine ⟨?_, hb⟩
    rw [he]
    congr 2
    apply ByteArray.ext
    apply Array.ext'
    exact e1.symm
end Go.Proofs
/-
  A range over the pieces of a string: what the iterator keeps; operations in a round.
-/
set_option linter.unusedVariables false
namespace Go.Rt

section
variable {P : Program} {Q : Exit → Act → World → Prop}

def opPlain (o : Oper) : Bool :=
  match o.op with
  | .defer _ => false
  | _ => true
def opsPlain (ops : List Oper) : Bool := ops.all opPlain
theorem opPlain_ne {o : Oper} (h : opPlain o = true) : ∀ c, o.op ≠ .defer c := fun c hc => by unfold opPlain at h; rw [hc] at h; cases h

theorem rows_in {l n : Nat} {row : String} {args : Array Value} {w : World} {K : Value → World → Prop} (h : Rows P row args w K) : RowsIn (Fence.wide.inRound l) n P row args w K :=
  fun c cs _ => let ⟨v, w', r, s⟩ := h c cs; ⟨v, w', r, stepsIn_wide.2 s⟩

theorem op_in {l n : Nat} {o : Oper} {a : Act} {w : World} {K : Act → World → Prop} (hp : opPlain o = true) (h : o.wp P a w K Q) : o.wpIn (Fence.wide.inRound l) n P a w K Q := by
  refine ⟨fun _ _ => trivial, ?_⟩
  rw [show (Fence.wide.inRound l).round = some l from rfl, Oper.semAt_eq (some l) _ _ (opPlain_ne hp)]
  unfold Oper.wp at h
  generalize (execOp a.eval o).run P w = r at h
  cases r with
  | ok x w' =>
    cases x with
    | enter f args => exact ⟨fun hd => (by cases hd), (show CallsIn Fence.wide (n - 1) P f args w' _ from callsIn_wide.2 h)⟩
    | row r args => exact ⟨fun hd => (by cases hd), rows_in h⟩
    | value v => exact h
    | skip => exact h
    | defer d => exact h
    | _ => exact h.elim
  | halt x w' =>
    cases x with
    | panic v => exact h
    | _ => exact h.elim

def strV (l : List UInt8) : Value := .string ⟨⟨l⟩⟩
/-- What lies in its variables: what is cut at, what is left. -/
def Cells2 (b1 b2 : Nat) (c0 : UInt8) (s : List UInt8) (W : World) : Prop :=
  W.cell? ⟨b1, 0, none⟩ = some (strV [c0]) ∧ W.cell? ⟨b2, 0, none⟩ = some (strV s) ∧ W.frozen? ⟨b2, 0, none⟩ = false
/-- It hands over the pieces, one after another. J: what holds before a piece (and what is left); Jx: what holds in the end. -/
def IterOK (P : Program) (g : Nat) : Prop :=
  (∃ fn, P.funcs[g]? = some fn ∧ fn.body.isSome = true ∧ (fn.name == "runtime.NumGoroutine") = false) ∧
  ∀ (L b1 b2 b3 : Nat) (c0 : UInt8) (J : List UInt8 → World → Prop) (Jx : World → Prop),
    (∀ s W, J s W → Cells2 b1 b2 c0 s W ∧ W.cell? ⟨b3, 0, none⟩ = some (.int .i64 0) ∧ s.length ≤ 1048576) →
    (∀ s W k, J s W → J s { W with drawn := k }) →
    (∀ W k, Jx W → Jx { W with drawn := k }) →
    (∀ s x rest W, J s W → s = x ++ c0 :: rest → c0 ∉ x → YieldAt Fence.wide 0 P L #[strV x] W fun e W' =>
      (e = .returned (.bool true) ∧ Cells2 b1 b2 c0 s W' ∧ J rest (W'.setCell ⟨b2, 0, none⟩ (strV rest))) ∨ (e = .returned (.bool false) ∧ Jx W')) →
    (∀ s W, J s W → c0 ∉ s → YieldAt Fence.wide 0 P L #[strV s] W fun e W' => (∃ b, e = .returned (.bool b)) ∧ Jx W') →
    ∀ s W, J s W → CallsIn Fence.wide 0 P g #[.func (.yield L) #[] #[], .pointer (some ⟨b1, 0, none⟩), .pointer (some ⟨b2, 0, none⟩), .pointer (some ⟨b3, 0, none⟩)] W fun e W' => (∃ v, e = .returned v) ∧ Jx W'

def Mk (D : Nat) : Deferred := { target := .collected D, args := #[] }
/-- The loop's record. -/
def recL (fn : FuncId) (a : Act) (ps : Array Tmp) (assign body : Code) (D : Nat) (s : LoopState) (pe : Option Code) : Loop := { state := s, pending := pe, fn := fn, tmps := a.tmps, params := ps, assign, body, defers := D }
end
end Go.Rt
/-
  A range over the pieces of a string, whose rounds all end as they should.
-/
set_option linter.unusedVariables false
namespace Go.Rt

section
variable {P : Program} {Q : Exit → Act → World → Prop}

theorem list_in {l n : Nat} {ops : Array Oper} (hlo : ¬ LetsOut Q) : ∀ (os : List Oper), opsPlain os = true → ∀ {a : Act} {w : World}, wpList P ops Q os a w → wpListIn (Fence.wide.inRound l) n P ops Q os a w
  | [], _, _, _, h => h
  | o :: os, hp, a, w, h => by
    obtain ⟨hp1, hp2⟩ : opPlain o = true ∧ opsPlain os = true := by
      have : (opPlain o && opsPlain os) = true := hp
      simpa using this
    unfold wpList at h
    unfold wpListIn
    by_cases hw : Region.wanted o (yielded ops a.tmps) = true
    · rw [if_pos hw] at h ⊢
      rcases h with h | h
      · refine op_in hp1 (Oper.wp_mono (fun a w h => list_in hlo os hp2 h) h)
      · exact absurd h.2 hlo
    · rw [if_neg hw] at h ⊢
      exact ⟨fun _ _ => trivial, list_in hlo os hp2 h⟩

theorem region_in {l n id : Nat} {os : List Oper} (hlo : ¬ LetsOut Q) (hp : opsPlain os = true) {a : Act} {w : World} (h : wpList P os.toArray Q os a w) : (Code.region id os.toArray false).wpIn (Fence.wide.inRound l) n P Q a w :=
  wpIn_region_lit (list_in hlo os hp h)

theorem putObj_set (w : World) {b : Nat} {a : Addr} (o : Obj) (v : Value) (h : b ≠ a.block) : (w.putObj b o).setCell a v = (w.setCell a v).putObj b o := by
  have : ∀ (hp : Array Obj) (f : Obj → Obj), (hp.setIfInBounds b o).modify a.block f = (hp.modify a.block f).setIfInBounds b o := by
    intro hp f
    apply Array.ext_getElem?
    intro i
    simp only [Array.getElem?_modify, Array.getElem?_setIfInBounds, Array.size_modify]
    by_cases e2 : b = i
    · subst e2
      rw [if_neg (fun e => h e.symm), if_pos rfl, if_pos rfl]
    · rw [if_neg e2, if_neg e2]
  unfold World.setCell World.putObj
  simp only [this]

def okN (R : World → Prop) : Exit → Act → World → Prop
  | .normal, _, w => R w
  | _, _, _ => False

theorem range_split {g : Nat} (hit : IterOK P g) {f : Operand} {p : Nat} {assign body : Code} {a : Act} {w : World} {b1 b2 b3 : Nat} {c0 : UInt8} {s0 : List UInt8} {m : Nat}
    (hf : a.eval f = .func (.func g) #[] #[.pointer (some ⟨b1, 0, none⟩), .pointer (some ⟨b2, 0, none⟩), .pointer (some ⟨b3, 0, none⟩)])
    (hb1 : b1 < w.heap.size) (hb2 : b2 < w.heap.size) (I : List UInt8 → World → Prop) (Fin : World → Prop)
    (hIo : ∀ s W b o, (b = w.heap.size ∨ b = w.heap.size + 1) → I s W → I s (W.putObj b o)) (hFo : ∀ W b o, (b = w.heap.size ∨ b = w.heap.size + 1) → Fin W → Fin (W.putObj b o))
    (hId : ∀ s W k, I s W → I s { W with drawn := k }) (hFd : ∀ W k, Fin W → Fin { W with drawn := k })
    (hIc : ∀ s W, I s W → Cells2 b1 b2 c0 s W ∧ W.cell? ⟨b3, 0, none⟩ = some (.int .i64 0) ∧ s.length ≤ 1048576)
    (h0 : ∀ o1 o2, I s0 ((w.alloc o1).alloc o2)) (a1 : List UInt8 → Act)
    (hassign : ∀ (l : Nat) (x : List UInt8) (W : World) (K : Act → World → Prop), K (a1 x) W → assign.wpIn (Fence.wide.inRound l) 0 P (Exit.then K (fun _ _ _ => False)) { tmps := a.tmps.setIfInBounds p (strV x), defers := [] } W)
    (hbody : ∀ (l : Nat) (s x : List UInt8) (W : World), I s W → w.heap.size + 1 < W.heap.size → ((∃ rest, s = x ++ c0 :: rest ∧ c0 ∉ x) ∨ (s = x ∧ c0 ∉ s)) → body.wpIn (Fence.wide.inRound l) 0 P
      (okN fun W2 => W2.heap[w.heap.size]? = W.heap[w.heap.size]? ∧ W2.heap[w.heap.size + 1]? = W.heap[w.heap.size + 1]? ∧ Cells2 b1 b2 c0 s W2 ∧ (∀ rest, s = x ++ c0 :: rest → I rest (W2.setCell ⟨b2, 0, none⟩ (strV rest))) ∧ (c0 ∉ s → Fin W2)) (a1 x) W)
    (hdone : ∀ W, Fin W → W.heap[w.heap.size]? = some (.deferred (some [])) → Q .normal { a with defers := Mk w.heap.size :: a.defers } W) :
    (Code.rangeFunc f #[p] assign body).wpIn Fence.wide m P Q a w := by
  obtain ⟨⟨fn, hfn, hfb, hfn2⟩, hitr⟩ := hit
  have n1 : ¬ fn.name = "runtime.NumGoroutine" := by simpa using hfn2
  have n2 : ¬ fn.body = none := by intro h; rw [h] at hfb; cases hfb
  refine wpIn_rangeFunc fun fnid _ => ?_
  rw [show Fence.wide.round = none from rfl]
  obtain ⟨D, hD⟩ : ∃ D, D = w.heap.size := ⟨_, rfl⟩
  obtain ⟨W1, hW1⟩ : ∃ W1, (w.alloc (.deferred (some []))).alloc (.loop (recL fnid a #[p] assign body w.heap.size .ready none)) = W1 := ⟨_, rfl⟩
  have hL1 : W1.heap[w.heap.size + 1]? = some (.loop (recL fnid a #[p] assign body w.heap.size .ready none)) := by
    rw [← hW1]; have := World.alloc_heap_new (w.alloc (.deferred (some []))) (.loop (recL fnid a #[p] assign body w.heap.size .ready none)); rwa [World.size_alloc] at this
  have hK1 : W1.heap[w.heap.size]? = some (.deferred (some [])) := by
    rw [← hW1]; exact (Go.RowKit.Below.heap_alloc _ _ _ (by simp)).trans (World.alloc_heap_new w _)
  have hI1 : I s0 W1 := by rw [← hW1]; exact h0 _ _
  refine ⟨w.heap.size + 1, [Mk w.heap.size], W1, { target := .fn (.func g) #[.pointer (some ⟨b1, 0, none⟩), .pointer (some ⟨b2, 0, none⟩), .pointer (some ⟨b3, 0, none⟩)], args := #[.func (.yield (w.heap.size + 1)) #[] #[]] }, W1, g,
    #[.func (.yield (w.heap.size + 1)) #[] #[], .pointer (some ⟨b1, 0, none⟩), .pointer (some ⟨b2, 0, none⟩), .pointer (some ⟨b3, 0, none⟩)], W1, ?_, ?_, fun _ _ => trivial, ?_, fun h => (by cases h), ?_⟩
  · rw [← hW1]; exact run_enterLoop_outer _ _ _ _ _
  · simp only [resolve, hf]
    simp [go_sem]
  · simp [invoke, callFunc, hfn, n1, n2]
  rw [← hD] at hL1 hK1 hb1 hb2 hIo hFo hbody hdone ⊢
  have hJ := hitr (D + 1) b1 b2 b3 c0 (fun s W => I s W ∧ W.heap[D + 1]? = some (.loop (recL fnid a #[p] assign body D .ready none)) ∧ W.heap[D]? = some (.deferred (some [])))
    (fun W => Fin W ∧ W.heap[D + 1]? = some (.loop (recL fnid a #[p] assign body D .ready none)) ∧ W.heap[D]? = some (.deferred (some []))) (fun s W h => hIc s W h.1) (fun s W k h => ⟨hId s W k h.1, h.2⟩) (fun W k h => ⟨hFd W k h.1, h.2⟩) ?_ ?_ s0 W1 ⟨hI1, hL1, hK1⟩
  · refine CallsIn.mono (R := fun e W' => (∃ v, e = .returned v) ∧ (Fin W' ∧ W'.heap[D + 1]? = some (.loop (recL fnid a #[p] assign body D .ready none)) ∧ W'.heap[D]? = some (.deferred (some [])))) ?_ ?_
    · have := callsIn_wide.1 hJ
      exact callsIn_wide.2 this
    rintro e W' ⟨⟨v, rfl⟩, k1, k2, k3⟩
    refine ⟨none, _, run_endLoop (P := P) k2 (by simp [recL]), ?_⟩
    exact hdone _ (hFo _ _ _ (.inr rfl) k1) ((World.putObj_heap_other (by omega)).trans k3)
  all_goals
    have key : ∀ (s x : List UInt8) (W : World), I s W → W.heap[D + 1]? = some (.loop (recL fnid a #[p] assign body D .ready none)) → W.heap[D]? = some (.deferred (some [])) → ((∃ rest, s = x ++ c0 :: rest ∧ c0 ∉ x) ∨ (s = x ∧ c0 ∉ s)) →
        YieldAt Fence.wide 0 P (D + 1) #[strV x] W fun e W' => e = .returned (.bool true) ∧ Cells2 b1 b2 c0 s W' ∧ (∀ rest, s = x ++ c0 :: rest → I rest (W'.setCell ⟨b2, 0, none⟩ (strV rest))) ∧ (c0 ∉ s → Fin W') ∧
          W'.heap[D + 1]? = some (.loop (recL fnid a #[p] assign body D .ready none)) ∧ W'.heap[D]? = some (.deferred (some [])) := by
      intro s x W hI hL hK hx
      have hy := run_yield (P := P) (args := #[strV x]) hL (by simp [recL])
      refine ⟨fnid, _, assign, body, hy, roundIn_of_wpIn trivial ?_⟩
      rw [show ((recL fnid a #[p] assign body D .ready none).params.zip #[strV x]).foldl (fun t (p, v) => t.setIfInBounds p v) (recL fnid a #[p] assign body D .ready none).tmps = a.tmps.setIfInBounds p (strV x) from by simp [recL]]
      refine hassign (D + 1) x W _ ⟨_, run_beginRound (P := P) hL rfl, ?_⟩
      have hlt : D + 1 < W.heap.size := (Array.getElem?_eq_some_iff.1 hL).1
      have hL2 : (W.putObj (D + 1) (.loop { recL fnid a #[p] assign body D .ready none with state := .busy })).heap[D + 1]? = some (.loop { recL fnid a #[p] assign body D .ready none with state := .busy }) := World.putObj_heap_same hlt
      have hK2 : (W.putObj (D + 1) (.loop { recL fnid a #[p] assign body D .ready none with state := .busy })).heap[D]? = some (.deferred (some [])) := (World.putObj_heap_other (by omega)).trans hK
      refine wpIn_mono (hbody (D + 1) s x _ (hIo _ _ _ _ (.inr rfl) hI) (by rw [World.putObj_size]; exact hlt) hx) ?_
      rintro e a3 W3 h3
      cases e with
      | normal =>
        obtain ⟨q1, q2, q3, q4, q5⟩ := h3
        rw [hL2] at q2
        rw [hK2] at q1
        have hlt3 : D + 1 < W3.heap.size := (Array.getElem?_eq_some_iff.1 q2).1
        refine ⟨_, _, run_endRound (P := P) none q2, rfl, ?_, ?_, fun h => hFo _ _ _ (.inr rfl) (q5 h), World.putObj_heap_same hlt3, (World.putObj_heap_other (by omega)).trans q1⟩
        · obtain ⟨z1, z2, z3⟩ := q3
          refine ⟨?_, ?_, ?_⟩
          · rw [World.cell?_of_block (World.putObj_heap_other (by show b1 ≠ _; omega))]; exact z1
          · rw [World.cell?_of_block (World.putObj_heap_other (by show b2 ≠ _; omega))]; exact z2
          · unfold World.frozen? at z3 ⊢
            rw [World.putObj_heap_other (by show b2 ≠ _; omega)]
            exact z3
        · intro rest hr
          rw [putObj_set _ _ _ (by show _ ≠ b2; omega)]
          exact hIo _ _ _ _ (.inr rfl) (q4 rest hr)
      | _ => exact (h3 : False).elim
  · rintro s x rest W ⟨k1, k2, k3⟩ hs hx
    obtain ⟨fn', t', as', bo', y1, y2⟩ := key s x W k1 k2 k3 (.inl ⟨rest, hs, hx⟩)
    refine ⟨fn', t', as', bo', y1, y2.mono ?_⟩
    rintro e W' ⟨r1, r2, r3, _, r5, r6⟩
    exact .inl ⟨r1, r2, r3 rest hs, (Go.RowKit.Below.heap_setCell W' ⟨b2, 0, none⟩ _ (D + 1) (by show D + 1 ≠ b2; omega)).trans r5, (Go.RowKit.Below.heap_setCell W' ⟨b2, 0, none⟩ _ D (by show D ≠ b2; omega)).trans r6⟩
  · rintro s W ⟨k1, k2, k3⟩ hs
    obtain ⟨fn', t', as', bo', y1, y2⟩ := key s s W k1 k2 k3 (.inr ⟨rfl, hs⟩)
    refine ⟨fn', t', as', bo', y1, y2.mono ?_⟩
    rintro e W' ⟨r1, r2, r3, r4, r5, r6⟩
    exact ⟨⟨_, r1⟩, r4 hs, r5, r6⟩
end
end Go.Rt
/-
  The library's functions on single bytes of strings.
-/
set_option linter.unusedVariables false
namespace Go.Proofs
open Go.RowKit

set_option maxHeartbeats 1000000 in
set_option maxRecDepth 100000 in
theorem Tryd.ib_calls (s : ByteArray) (c : UInt8) (w : World) :
    Calls Tryd.prog 57 #[.string s, .int .u8 (c.toNat : Nat)] w fun e w' => e = .returned (.int .i64 (Lib.indexByte s.data.toList c)) ∧ w' = w := by
  go_enter Tryd.func57, Tryd.ntmps57
  go_wp2
  rw [run_callFunc_extern Tryd.func66 (by kernel_rfl) (by kernel_rfl) (by kernel_rfl) (e := Extern.BytealgIndexByte.indexByte) (by kernel_rfl)]
  rw [Lib.run_indexByteString]
  simp only [Result.andThen]
  rw [Oper.upon_value]
  go_wp2
  go_ret
  refine ⟨?_, rfl⟩
  simp

theorem Tryd.one_size (c : UInt8) : (ByteArray.mk #[c]).size = 1 := rfl

set_option maxHeartbeats 4000000 in
set_option maxRecDepth 100000 in
theorem Tryd.ix_calls (s : ByteArray) (c : UInt8) (w : World) (hs : s.size ≤ 1048576) :
    Calls Tryd.prog 51 #[.string s, .string ⟨#[c]⟩] w fun e w' => e = .returned (.int .i64 (Lib.indexByte s.data.toList c)) ∧ w' = w := by
  have hc := Tryd.ib_calls s c w
  go_enter Tryd.func51, Tryd.ntmps51
  go_wp2_with (go_at_call 57; refine (Tryd.ib_calls _ _ _).mono ?_; rintro e w' ⟨rfl, rfl⟩)
  · have h : ([c] == s.toList) = true := by assumption
    go_ret
    refine ⟨?_, rfl⟩
    rw [beq_iff_eq, ByteArray.toList_eq] at h
    rw [← h]
    simp [Lib.indexByte]
  · go_ret
    exact ⟨rfl, rfl⟩

set_option maxHeartbeats 4000000 in
set_option maxRecDepth 100000 in
theorem Tryd.index_calls (s : ByteArray) (c : UInt8) (w : World) (hs : s.size ≤ 1048576) :
    Calls Tryd.prog 45 #[.string s, .string ⟨#[c]⟩] w fun e w' => e = .returned (.int .i64 (Lib.indexByte s.data.toList c)) ∧ w' = w := by
  go_enter Tryd.func45, Tryd.ntmps45
  go_wp2_with (go_at_call 51; refine (Tryd.ix_calls _ _ _ hs).mono ?_; rintro e w' ⟨rfl, rfl⟩)
  go_ret
  exact ⟨rfl, rfl⟩
end Go.Proofs
/-
  strings.SplitSeq's function, at one byte: it hands over the pieces, one after another.
-/
set_option linter.unusedVariables false
namespace Go.Proofs
open Go.RowKit Go.Rt
attribute [local go_sem] Oper.semAt_some

def cellLen (b : Nat) (w : World) : Nat :=
  match w.cell? ⟨b, 0, none⟩ with
  | some (.string s) => s.size
  | _ => 0

theorem ext_mk (l : List UInt8) (a b : Nat) : (ByteArray.mk ⟨l⟩).extract a b = ⟨⟨(l.take b).drop a⟩⟩ := by
  apply ByteArray.ext
  apply Array.ext'
  simp [ByteArray.data_extract, List.drop_take]

theorem cellLen_eq {b : Nat} {W : World} {s : ByteArray} (h : W.cell? ⟨b, 0, none⟩ = some (.string s)) : cellLen b W = s.size := by unfold cellLen; rw [h]

theorem first_of {c0 : UInt8} : ∀ {s : List UInt8}, c0 ∈ s → ∃ x rest, s = x ++ c0 :: rest ∧ c0 ∉ x
  | [], h => by cases h
  | a :: s, h => by
    by_cases e : c0 = a
    · exact ⟨[], s, by simp [e], by simp⟩
    · obtain ⟨x, rest, h1, h2⟩ := first_of (s := s) (by simpa [e] using h)
      exact ⟨a :: x, rest, by simp [h1], by simp [e, h2]⟩
theorem indexByte_first {c0 : UInt8} {rest : List UInt8} : ∀ {x : List UInt8}, c0 ∉ x → Lib.indexByte (x ++ c0 :: rest) c0 = x.length
  | [], _ => by simp [Lib.indexByte]
  | a :: x, h => by
    simp only [List.mem_cons, not_or] at h
    have ih := indexByte_first (rest := rest) h.2
    have e : (a == c0) = false := by rw [beq_eq_false_iff_ne]; exact fun e => h.1 e.symm
    have e2 : ((x.length : Int) == -1) = false := by rw [beq_eq_false_iff_ne]; omega
    simp [Lib.indexByte, ih, e, e2]
theorem indexByte_none {c0 : UInt8} : ∀ {x : List UInt8}, c0 ∉ x → Lib.indexByte x c0 = -1
  | [], _ => rfl
  | a :: x, h => by
    simp only [List.mem_cons, not_or] at h
    have ih := indexByte_none h.2
    have e : (a == c0) = false := by rw [beq_eq_false_iff_ne]; exact fun e => h.1 e.symm
    simp [Lib.indexByte, ih, e]

set_option maxHeartbeats 4000000 in
set_option maxRecDepth 100000 in
theorem Tryd.iter_ok : IterOK Tryd.prog 43 := by
  refine ⟨⟨_, Tryd.func43, by kernel_rfl, by kernel_rfl⟩, fun L b1 b2 b3 c0 J Jx hJ _ _ hround hlast s W h0 => ?_⟩
  refine callsIn_of_wp Tryd.func43 rfl trivial ?_ rfl
  simp only [Tryd.ntmps43, List.size_toArray, List.length_cons, List.length_nil, Nat.reduceAdd, Nat.reduceSub, Array.replicate_succ, Array.replicate_zero, List.push_toArray, List.append_toArray, List.nil_append, List.cons_append]
  obtain ⟨⟨hc1, hc2, hf⟩, hc3, hlen⟩ := hJ s W h0
  unfold strV at hc1 hc2
  gi_wp2
  gi_loopw [7] (fun _ wr => ∃ s', J s' wr) (fun _ wr => cellLen b2 wr)
  case atStart => exact ⟨s, h0⟩
  case round =>
    obtain ⟨s', hs'⟩ := hrel
    obtain ⟨⟨hd1, hd2, hdf⟩, hd3, hdlen⟩ := hJ s' wr hs'
    unfold strV at hd1 hd2
    by_cases hm : c0 ∈ s'
    · obtain ⟨x, rest, hs, hx⟩ := first_of hm
      have hix : Lib.indexByte s' c0 = x.length := by rw [hs]; exact indexByte_first hx
      obtain ⟨fn, tmps, assign, body, hy, hR⟩ := hround s' x rest wr hs' hs hx
      unfold strV at hy
      have hxl : x.length ≤ 1048576 := by rw [hs] at hdlen; simp at hdlen; omega
      have hrl : rest.length ≤ 1048576 := by rw [hs] at hdlen; simp at hdlen; omega
      have hw : wrap64 (x.length : Int) = x.length := by unfold wrap64; omega
      have hw1 : wrap64 ((x.length : Int) + 1) = x.length + 1 := by unfold wrap64; omega
      have hlt : decide ((x.length : Int) < 0) = false := by simp
      have hle : (x.length : Int) ≤ x.length + (rest.length + 1) := by omega
      have h00 : (0 : Int) ≤ x.length := by omega
      have hex : (ByteArray.mk ⟨x ++ c0 :: rest⟩).extract 0 x.length = ⟨⟨x⟩⟩ := by
        rw [ext_mk]; simp
      have hex2 : (ByteArray.mk ⟨x ++ c0 :: rest⟩).extract (x.length + 1) (x.length + (rest.length + 1)) = ⟨⟨rest⟩⟩ := by
        rw [ext_mk, List.take_of_length_le (by simp), show x ++ c0 :: rest = (x ++ [c0]) ++ rest from by simp, List.drop_left' (by simp)]
      gi_wp2_with (refine ⟨trivial, rfl, ?_⟩; refine (callsIn_wide.2 (Tryd.index_calls _ _ _ (by show (x ++ c0 :: rest).length ≤ _; rw [← hs]; exact hdlen))).mono ?_; rintro e w' ⟨rfl, rfl⟩; rw [show Lib.indexByte (ByteArray.mk ⟨x ++ c0 :: rest⟩).data.toList c0 = (x.length : Int) from indexByte_first hx])
      refine ⟨rfl, hR.mono ?_⟩
      rintro e W3 (⟨rfl, ⟨hf1, hf2, hf3⟩, hJ3⟩ | ⟨rfl, hJx⟩)
      · have hcell := (hJ _ _ hJ3).1.2.1
        unfold strV at hf1 hf2 hJ3 hcell
        rw [hs] at hf2 hd2
        gi_wp2
        refine ⟨⟨rest, hJ3⟩, ?_⟩
        rw [cellLen_eq hcell, cellLen_eq hd2]
        show rest.length < (x ++ c0 :: rest).length
        simp
        omega
      · gi_wp2
        refine bodyPost_ret (results_none rfl _ _ _) rfl ?_
        exact ⟨⟨_, rfl⟩, hJx⟩
    · obtain ⟨fn, tmps, assign, body, hy, hR⟩ := hlast s' wr hs' hm
      unfold strV at hy
      gi_wp2_with (refine ⟨trivial, rfl, ?_⟩; refine (callsIn_wide.2 (Tryd.index_calls _ _ _ (by show s'.length ≤ _; exact hdlen))).mono ?_; rintro e w' ⟨rfl, rfl⟩; rw [show Lib.indexByte (ByteArray.mk ⟨s'⟩).data.toList c0 = -1 from indexByte_none hm])
      refine ⟨rfl, hR.mono ?_⟩
      rintro e W3 ⟨⟨b, rfl⟩, hJx⟩
      gi_wp2
      go_end0
      exact ⟨⟨_, rfl⟩, hJx⟩
end Go.Proofs
/-
  internal_stringslite_Index: the pure function
-/
set_option linter.unusedVariables false
namespace Go.Vx
def idxB : List UInt8 → UInt8 → Int
  | [], _ => -1
  | a :: s, c => bif a == c then 0 else bif idxB s c == -1 then -1 else idxB s c + 1
def internal_stringslite_Index {R : Type} (n : Nat) (a0 a1 : List UInt8) (K : Int → Option R) : Option R :=
  match a1 with
  | [c] => bif Nat.ble a0.length 1048576 then K (idxB a0 c) else none
  | _ => none
end Go.Vx
/-
  internal_stringslite_Cut: the pure function
-/
set_option linter.unusedVariables false
namespace Go.Vx
def internal_stringslite_Cut {R : Type} (n : Nat) (a0 a1 : List UInt8) (K : (List UInt8) → (List UInt8) → Bool → Option R) : Option R :=
 gb true (internal_stringslite_Index n a0 a1 some) 0 fun r1 =>
 bif (decide (r1 ≥ (0 : Int))) then
  gb true (slB (List.length a0) none (some r1)) (0, 0) fun q2 =>
  gb true (slB (List.length a0) (some (IntKind.wrap .i64 (r1 + ((List.length a1 : Nat) : Int)))) none) (0, 0) fun q3 =>
  K (cut a0 q2) (cut a0 q3) true
 else
  K a0 [] false
end Go.Vx
/-
  strings_Cut: the pure function
-/
set_option linter.unusedVariables false
namespace Go.Vx
def strings_Cut {R : Type} (n : Nat) (a0 a1 : List UInt8) (K : (List UInt8) → (List UInt8) → Bool → Option R) : Option R :=
 gb true (internal_stringslite_Cut n a0 a1 (fun r0 r1 r2 => some (r0, r1, r2))) ([], [], false) fun r1 =>
 K r1.1 r1.2.1 r1.2.2
end Go.Vx
/-
  words_appendWord_s1: the pure function
-/
set_option linter.unusedVariables false
namespace Go.Vx
def words_appendWord_s1 {R : Type} (n : Nat) (q0 : LL) (a1 : List UInt8) (a2 a3 a4 : Int) (K : LL → Option R) : Option R :=
 bif (decide (a2 < (0 : Int))) then
  K q0
 else
  gb true (slB (List.length a1) (some a2) (some a3)) (0, 0) fun q1 =>
  gb true (room ((List.length q0 + List.length [[D.str (cut a1 q1), D.int .i64 a4, D.int .i64 (IntKind.wrap .i64 (a2 + (1 : Int)))]]) * 32)) () fun u2 =>
  K (q0 ++ [[D.str (cut a1 q1), D.int .i64 a4, D.int .i64 (IntKind.wrap .i64 (a2 + (1 : Int)))]])
end Go.Vx
/-
  words_split: the pure function
-/
set_option linter.unusedVariables false
namespace Go.Vx
def words_split_p1 {R : Type} (n : Nat) (a0 : List UInt8) (a1 : Int) (k0 : (List UInt8) → Int → Option R) : Option R :=
 gb true (strings_Cut n a0 (bs [35]) (fun r0 r1 r2 => some (r0, r1, r2))) ([], [], false) fun r1 =>
 k0 r1.1 ((List.length r1.1 : Nat) : Int)
def words_split_p2 {R : Type} (n : Nat) (w4 : List UInt8) (a1 h8 w5 h10 : Int) (h11 : LL) (k0 : Int → Int → Option R) (k1 : Int → LL → Option R) (k2 : Option R) (k3 : Bool → Option R) : Option R :=
 bif (decide (h10 < w5)) then
  gb true (byteAt w4 h10) 0 fun i19 =>
  gb true (words_class n i19 some) 0 fun r20 =>
  bif (r20 == (4 : Int)) then
   bif (decide (h8 < (0 : Int))) then
    k0 h10 (IntKind.wrap .i64 (h10 + (1 : Int)))
   else
    k0 h8 (IntKind.wrap .i64 (h10 + (1 : Int)))
  else
   bif (r20 == (1 : Int)) then
    gb true (words_appendWord_s1 n h11 w4 h8 h10 a1 some) [] fun r21 =>
    k1 (IntKind.wrap .i64 (h10 + (1 : Int))) r21
   else
    k2
 else
  k3 (decide (h10 < w5))
def words_split_r3 {R : Type} (n : Nat) (w4 : List UInt8) (a1 w5 : Int) (k0 : Option R) (k1 : Int → Int → Bool → LL → Option R) : Nat → Int → Int → LL → Option R
 | 0, _, _, _ => none
 | m + 1, h8, h10, h11 =>
  words_split_p2 n w4 a1 h8 w5 h10 h11
   (fun w26 w27 =>
   words_split_r3 n w4 a1 w5 k0 k1 m w26 w27 h11)
   (fun w28 w29 =>
   words_split_r3 n w4 a1 w5 k0 k1 m (-1 : Int) w28 w29)
   (k0)
   (fun w30 =>
   k1 h8 h10 w30 h11)
def words_split_p4 {R : Type} (n : Nat) (w4 : List UInt8) (a1 w31 w5 w32 : Int) (w33 : Bool) (w34 : LL) (k0 : LL → Option R) : Option R :=
 gb true (words_appendWord_s1 n w34 w4 w31 ((List.length w4 : Nat) : Int) a1 some) [] fun r35 =>
 k0 r35
def words_split_p5 {R : Type} (n : Nat) (a0 : List UInt8) (a1 : Int) (k0 : Option R) (k1 : LL → Option R) : Option R :=
 words_split_p1 n a0 a1
  (fun w4 w5 =>
  words_split_r3 n w4 a1 w5
   (k0)
   (fun w31 w32 w33 w34 =>
   words_split_p4 n w4 a1 w31 w5 w32 w33 w34
    (fun w36 =>
    k1 w36))
   n (-1 : Int) (0 : Int) [])
def words_split {R : Type} (n : Nat) (a0 : List UInt8) (a1 : Int) (K : LL → Bool → Option R) : Option R :=
 words_split_p5 n a0 a1
  (K [] false)
  (fun w36 => K w36 true)
end Go.Vx
/-
  words_Lines: the pure function
-/
set_option linter.unusedVariables false
namespace Go.Vx
def lines_r {R : Type} (n : Nat) (K : LL → Option R) : List (List UInt8) → Int → LL → Option R
  | [], _, acc => K acc
  | x :: xs, i, acc => gb true (words_split n x (i + 1) (fun a b => some (a, b))) ([], false) fun r =>
    bif r.2 && Nat.ble r.1.length 64 then lines_r n K xs (i + 1) (bif Nat.beq r.1.length 0 then acc else acc ++ [[D.sl 3 r.1]]) else none
def splitB (c : UInt8) : List UInt8 → List (List UInt8)
  | [] => [[]]
  | a :: s => bif a == c then [] :: splitB c s else match splitB c s with
    | x :: xs => (a :: x) :: xs
    | [] => [[a]]
def words_Lines {R : Type} (n : Nat) (a0 : List UInt8) (K : LL → Int → Int → Option R) : Option R :=
  bif Nat.ble a0.length 65536 then lines_r n (fun acc => K acc 0 0) (splitB 10 a0) 0 [] else none
end Go.Vx
/-
  internal_stringslite_Index: its contract, by the library
-/
set_option linter.unusedVariables false
namespace Go.Vx
open Go.Proofs
theorem idxB_eq : ∀ (s : List UInt8) (c : UInt8), idxB s c = Lib.indexByte s c
  | [], c => rfl
  | a :: s, c => by
    simp only [idxB, Lib.indexByte, idxB_eq s c]
    cases a == c <;> cases Lib.indexByte s c == -1 <;> rfl
def internal_stringslite_Index_e (n : Nat) : Entry := fun _ _ g avs _ k => match avs with
  | [c0, c1] => prT g c0 fun a0 => prT g c1 fun a1 => gb g (internal_stringslite_Index n a0 a1 some) 0 fun r => k ⟨.d (D.int .i64 r), [], []⟩
  | _ => none
theorem internal_stringslite_Index_ok (n : Nat) : EntryOK Tryd.prog 51 (internal_stringslite_Index_e n) := by
  intro R site g avs hl k r h
  unfold internal_stringslite_Index_e at h
  split at h
  rotate_left
  · cases h
  replace h := prT_some h
  obtain ⟨a0, h, le0⟩ := h
  replace h := prT_some h
  obtain ⟨a1, h, le1⟩ := h
  replace h := gb_some h
  obtain ⟨res, h, hr⟩ := h
  refine ⟨_, h, fun hg => CallOK.conv (avs' := [.d (.str a0), .d (.str a1)]) (.cons (le0 hg) (.cons (le1 hg) .nil)) ?_⟩
  have hr := hr hg
  obtain ⟨c, rfl⟩ : ∃ c, a1 = [c] := by
    unfold internal_stringslite_Index at hr
    split at hr
    · exact ⟨_, rfl⟩
    · cases hr
  cases hb : Nat.ble a0.length 1048576 with
  | false => simp [internal_stringslite_Index, hb] at hr
  | true =>
    simp only [internal_stringslite_Index, hb, cond_true, Option.some.injEq] at hr
    subst hr
    have hb := Nat.le_of_ble_eq_true hb
    refine callOK_hand Tryd.func51 (by kernel_rfl) (by kernel_rfl) rfl rfl fun S w args hA => ?_
    obtain ⟨v1, v2, rfl, hv1, hv2⟩ := argsRd_two hA
    obtain ⟨b1, e1, rfl⟩ := hv1.str_inv
    obtain ⟨b2, e2, rfl⟩ := hv2.str_inv
    have e3 : b2 = ⟨#[c]⟩ := by
      apply ByteArray.ext
      apply Array.ext'
      exact e2.symm
    subst e3
    refine (Tryd.ix_calls b1 c w ?_).mono fun e w' ⟨he, hw⟩ => ⟨_, he, ?_, ?_⟩
    · rw [e1] at hb
      simpa using hb
    · rw [idxB_eq, e1]
      exact .d _ _ (.int _ _)
    · subst hw
      exact RowKit.Below.refl _ _
end Go.Vx
/-
  internal_stringslite_Cut: the interpreter computes the pure function
-/
set_option linter.unusedVariables false
set_option linter.unusedSimpArgs false
set_option maxRecDepth 100000
namespace Go.Vx
open Go.Proofs
noncomputable def internal_stringslite_Cut_c0 : Code := bodyOf Tryd.f46
def internal_stringslite_Cut_C (n : Nat) : VC := ⟨specOf [(51, internal_stringslite_Index_e n)], gtt, [cK 0 [0, 1], cK 1 [0, 1, 7], cK 2 [0, 1, 7, 12], cK 3 [4, 5, 6], cK 4 [4, 5, 6]]⟩
theorem internal_stringslite_Cut_VC (n : Nat) : VCOk Tryd.prog (internal_stringslite_Cut_C n) := gVC (specOf_ok ⟨internal_stringslite_Index_ok n, trivial⟩)
theorem internal_stringslite_Cut_vfn {R : Type} (n : Nat) (a0 a1 : List UInt8) (K : AV → Option R) : vfn (internal_stringslite_Cut_C n) n Tryd.f46 [.d (D.str a0), .d (D.str a1)] [] (retF [[0], [0], [0]] K) = internal_stringslite_Cut n a0 a1 (fun r0 r1 r2 => K (.tup [.d (D.str r0), .d (D.str r1), .d (D.bool r2)])) :=
  (vfn_at (c := internal_stringslite_Cut_c0) (m := 23) (tm := [(0, dT a0), (1, dT a1)]) (rs := [.tmp 4, .tmp 5, .tmp 6]) (tt := gtt) (by kernel_rfl) (by kernel_rfl) rfl (by kernel_rfl) rfl (by kernel_rfl) rfl).trans (by kernel_rfl)
def internal_stringslite_Cut_K : AV → Option ((List UInt8) × (List UInt8) × Bool) := fun av => match av with
  | .tup [.d (D.str r0), .d (D.str r1), .d (D.bool r2)] => some (r0, r1, r2)
  | _ => none
def internal_stringslite_Cut_e (n : Nat) : Entry := fun _ _ g avs _ k => match avs with
  | [c0, c1] => prT g c0 fun a0 => prT g c1 fun a1 => 
    gb g (internal_stringslite_Cut n a0 a1 (fun r0 r1 r2 => some (r0, r1, r2))) ([], [], false) fun r => k ⟨.tup [.d (D.str r.1), .d (D.str r.2.1), .d (D.bool r.2.2)], [], []⟩
  | _ => none
theorem internal_stringslite_Cut_ok (n : Nat) : EntryOK Tryd.prog 46 (internal_stringslite_Cut_e n) := by
  intro R site g avs hl k r h
  unfold internal_stringslite_Cut_e at h
  split at h
  rotate_left
  · cases h
  replace h := prT_some h
  obtain ⟨a0, h, le0⟩ := h
  replace h := prT_some h
  obtain ⟨a1, h, le1⟩ := h
  replace h := gb_some h
  obtain ⟨res, h, hr⟩ := h
  refine ⟨_, h, fun hg => CallOK.conv (avs' := [.d (D.str a0), .d (D.str a1)]) (.cons (le0 hg) (.cons (le1 hg) (.nil))) (callOK_fix (K := internal_stringslite_Cut_K) (res := res) (internal_stringslite_Cut_VC n) (fn := Tryd.f46) (n := n) (by kernel_rfl) (by kernel_rfl) (by kernel_rfl) (ss := [[0], [0], [0]]) rfl ?_ ?_)⟩
  · exact (internal_stringslite_Cut_vfn n a0 a1 internal_stringslite_Cut_K).trans (hr hg)
  · intro x hx
    unfold internal_stringslite_Cut_K at hx
    split at hx
    · injection hx with hx; subst hx; rfl
    · cases hx
end Go.Vx
/-
  strings_Cut: the interpreter computes the pure function
-/
set_option linter.unusedVariables false
set_option linter.unusedSimpArgs false
set_option maxRecDepth 100000
namespace Go.Vx
open Go.Proofs
noncomputable def strings_Cut_c0 : Code := bodyOf Tryd.f36
def strings_Cut_C (n : Nat) : VC := ⟨specOf [(46, internal_stringslite_Cut_e n)], gtt, [cK 0 [0, 1], cK 1 [4, 5, 6]]⟩
theorem strings_Cut_VC (n : Nat) : VCOk Tryd.prog (strings_Cut_C n) := gVC (specOf_ok ⟨internal_stringslite_Cut_ok n, trivial⟩)
theorem strings_Cut_vfn {R : Type} (n : Nat) (a0 a1 : List UInt8) (K : AV → Option R) : vfn (strings_Cut_C n) n Tryd.f36 [.d (D.str a0), .d (D.str a1)] [] (retF [[0], [0], [0]] K) = strings_Cut n a0 a1 (fun r0 r1 r2 => K (.tup [.d (D.str r0), .d (D.str r1), .d (D.bool r2)])) :=
  (vfn_at (c := strings_Cut_c0) (m := 13) (tm := [(0, dT a0), (1, dT a1)]) (rs := [.tmp 4, .tmp 5, .tmp 6]) (tt := gtt) (by kernel_rfl) (by kernel_rfl) rfl (by kernel_rfl) rfl (by kernel_rfl) rfl).trans (by kernel_rfl)
def strings_Cut_K : AV → Option ((List UInt8) × (List UInt8) × Bool) := fun av => match av with
  | .tup [.d (D.str r0), .d (D.str r1), .d (D.bool r2)] => some (r0, r1, r2)
  | _ => none
def strings_Cut_e (n : Nat) : Entry := fun _ _ g avs _ k => match avs with
  | [c0, c1] => prT g c0 fun a0 => prT g c1 fun a1 => 
    gb g (strings_Cut n a0 a1 (fun r0 r1 r2 => some (r0, r1, r2))) ([], [], false) fun r => k ⟨.tup [.d (D.str r.1), .d (D.str r.2.1), .d (D.bool r.2.2)], [], []⟩
  | _ => none
theorem strings_Cut_ok (n : Nat) : EntryOK Tryd.prog 36 (strings_Cut_e n) := by
  intro R site g avs hl k r h
  unfold strings_Cut_e at h
  split at h
  rotate_left
  · cases h
  replace h := prT_some h
  obtain ⟨a0, h, le0⟩ := h
  replace h := prT_some h
  obtain ⟨a1, h, le1⟩ := h
  replace h := gb_some h
  obtain ⟨res, h, hr⟩ := h
  refine ⟨_, h, fun hg => CallOK.conv (avs' := [.d (D.str a0), .d (D.str a1)]) (.cons (le0 hg) (.cons (le1 hg) (.nil))) (callOK_fix (K := strings_Cut_K) (res := res) (strings_Cut_VC n) (fn := Tryd.f36) (n := n) (by kernel_rfl) (by kernel_rfl) (by kernel_rfl) (ss := [[0], [0], [0]]) rfl ?_ ?_)⟩
  · exact (strings_Cut_vfn n a0 a1 strings_Cut_K).trans (hr hg)
  · intro x hx
    unfold strings_Cut_K at hx
    split at hx
    · injection hx with hx; subst hx; rfl
    · cases hx
end Go.Vx
/-
  words_appendWord_s1: the interpreter computes the pure function
-/
set_option linter.unusedVariables false
set_option linter.unusedSimpArgs false
set_option maxRecDepth 100000
namespace Go.Vx
open Go.Proofs
noncomputable def words_appendWord_s1_c0 : Code := bodyOf Tryd.f38
def words_appendWord_s1_C (n : Nat) : VC := ⟨specOf [], gtt, [cO 0 [0, 1, 2, 3, 4] [1000000], cO 1 [0, 1, 2, 3, 4, 12] [1000000], (2, ⟨[10], [(1000000, 96001)], [], [], []⟩), (3, ⟨[10], [(24, 96001)], [], [], []⟩)]⟩
theorem words_appendWord_s1_VC (n : Nat) : VCOk Tryd.prog (words_appendWord_s1_C n) := gVC (specOf_ok trivial)
def words_appendWord_s1_Ko : AV → List (Nat × Ob) → Option (LL) := fun av H => (look H 96001).bind fun o0 => match av, o0 with
  | .arr p0, .arr p1 p2 r0 => bif Nat.beq p0 96001 && (Nat.beq p1 41 && (Nat.beq p2 3 && ((look H 1000000).isNone))) then some r0 else none
  | _, _ => none
theorem words_appendWord_s1_vfo (n : Nat) (q0 : LL) (a1 : List UInt8) (a2 a3 a4 : Int) : vfn (words_appendWord_s1_C n) n Tryd.f38 [.arr 1000000, .d (D.str a1), .d (D.int .i64 a2), .d (D.int .i64 a3), .d (D.int .i64 a4)] [(1000000, .arr 41 3 q0)] words_appendWord_s1_Ko = words_appendWord_s1 n q0 a1 a2 a3 a4 some :=
  (vfn_at (c := words_appendWord_s1_c0) (m := 25) (tm := [(0, .arr 1000000), (1, dT a1), (2, dI a2), (3, dI a3), (4, dI a4)]) (rs := [.tmp 10]) (tt := gtt) (by kernel_rfl) (by kernel_rfl) rfl (by kernel_rfl) rfl (by kernel_rfl) rfl).trans (by kernel_rfl)
def words_appendWord_s1_s (n : Nat) : Entry := fun _ site g avs hl k => match avs with
  | [.gd _ _ .nil] => bif g then none else k ⟨.nil, [], []⟩
  | [c0, c1, c2, c3, c4] => prR hl 41 3 c0 fun l0 q0 => prT g c1 fun a1 => prI g .i64 c2 fun a2 => prI g .i64 c3 fun a3 => prI g .i64 c4 fun a4 => 
    bif newsOk hl [(1000000, l0)] [(96001, (site + 100000))] then gb g (words_appendWord_s1 n q0 a1 a2 a3 a4 some) [] fun r => k ⟨.arr (site + 100000), [(l0, none), ((site + 100000), some (.arr 41 3 r))], [l0]⟩ else none
  | _ => none
theorem words_appendWord_s1_so (n : Nat) : EntryOK Tryd.prog 38 (words_appendWord_s1_s n) := by
  intro R site g avs hl k r h
  unfold words_appendWord_s1_s at h
  split at h
  · exact raw_probe h
  rotate_left
  · cases h
  replace h := prR_some h
  obtain ⟨l0, q0, h, el0, hbl0⟩ := h
  subst el0
  replace h := prT_some h
  obtain ⟨a1, h, le0⟩ := h
  replace h := prI_some h
  obtain ⟨a2, h, le1⟩ := h
  replace h := prI_some h
  obtain ⟨a3, h, le2⟩ := h
  replace h := prI_some h
  obtain ⟨a4, h, le3⟩ := h
  replace h := bif_some h
  obtain ⟨hc, h⟩ := h
  replace h := gb_some h
  obtain ⟨res, h, hr⟩ := h
  refine ⟨_, h, fun hg => callOK_sh (K := words_appendWord_s1_Ko) (res := res) (words_appendWord_s1_VC n) (fn := Tryd.f38) (n := n) (by kernel_rfl) (by kernel_rfl) (by kernel_rfl) (ρ := [(1000000, l0)]) (ν := [(96001, (site + 100000))]) (avs' := [.arr 1000000, .d (D.str a1), .d (D.int .i64 a2), .d (D.int .i64 a3), .d (D.int .i64 a4)]) (H := [(1000000, .arr 41 3 q0)]) (.cons (.own rfl rfl) (.cons (.data rfl (le0 hg)) (.cons (.data rfl (le1 hg)) (.cons (.data rfl (le2 hg)) (.cons (.data rfl (le3 hg)) (.nil)))))) rfl rfl hc (⟨⟨by decide, _, _, hbl0, rfl, .arr _ _ _⟩, trivial⟩) rfl rfl ?_ ?_⟩
  · exact (words_appendWord_s1_vfo n q0 a1 a2 a3 a4).trans (hr hg)
  · intro av H' hx
    unfold words_appendWord_s1_Ko at hx
    replace hx := Option.bind_eq_some_iff.1 hx
    obtain ⟨o0, ho0, hx⟩ := hx
    split at hx
    rotate_left
    · cases hx
    replace hx := bif_some hx
    obtain ⟨hck, hx⟩ := hx
    simp only [Bool.and_eq_true] at hck
    obtain ⟨ek0, ek1, ek2, hn0⟩ := hck
    have ek0 := Nat.eq_of_beq_eq_true ek0
    subst ek0
    have ek1 := Nat.eq_of_beq_eq_true ek1
    subst ek1
    have ek2 := Nat.eq_of_beq_eq_true ek2
    subst ek2
    have hn0 := Option.isNone_iff_eq_none.1 hn0
    injection hx with hx
    subst hx
    refine ⟨rfl, ?_, ⟨by rw [ho0]; rfl, trivial⟩, ⟨endOk_gone rfl hn0, trivial⟩⟩
    simp only [List.cons_append, List.nil_append, outWr, ho0, hn0, Option.map_some, Option.map_none]
    rfl
end Go.Vx
/-
  words_split: the interpreter computes the pure function
-/
set_option linter.unusedVariables false
set_option linter.unusedSimpArgs false
set_option maxRecDepth 100000
namespace Go.Vx
open Go.Proofs
noncomputable def words_split_c0 : Code := bodyOf Tryd.f24
noncomputable def words_split_c1 : Code := cA [1, 1, 1, 1, 0, 1, 2, 2] (bodyOf Tryd.f24)
noncomputable def words_split_c2 : Code := cA [1, 1, 1, 1, 1] (bodyOf Tryd.f24)
def words_split_C (n : Nat) : VC := ⟨specOf [(36, strings_Cut_e n), (37, words_class_e n), (38, words_appendWord_s1_s n)], gtt, [cK 0 [0, 1], cK 1 [0, 1], cK 2 [0, 1, 6], cK 3 [0, 1, 6, 7], (4, ⟨[0, 1, 6, 7, 16, 17], [], [(6, 1006, 41, 3)], [], []⟩), cO 5 [0, 1, 6, 7, 16, 17, 18] [1006], cO 6 [0, 1, 6, 7, 8, 16, 17] [1006], cO 7 [0, 1, 6, 7, 8, 16, 17, 23] [1006], cK 8 [4, 5], cO 9 [0, 1, 6, 7, 8, 16, 17, 23, 24] [1006], cO 10 [0, 1, 6, 7, 8, 16, 17, 27] [1006], cO 11 [0, 1, 6, 7, 16, 17] [1006], cO 12 [0, 1, 6, 7, 8, 16, 17, 29] [1006], cO 13 [0, 1, 6, 16, 17] [100036], cO 14 [0, 1, 6, 7, 16, 17] [100036], cO 15 [0, 1, 6, 7, 16, 17] [1006, 100036], cO 16 [4, 5] [100044], (3000000005, ⟨[0, 1, 6, 7, 16, 17], [(1006, 1006), (100036, 1006)], [], [], []⟩)]⟩
theorem words_split_VC (n : Nat) : VCOk Tryd.prog (words_split_C n) := gVC (specOf_ok ⟨strings_Cut_ok n, ⟨words_class_ok n, ⟨words_appendWord_s1_so n, trivial⟩⟩⟩)
theorem words_split_p1_eq {R : Type} (n : Nat) (a0 : List UInt8) (a1 : Int) (k : Exit → St → Option R) : vexec (words_split_C n) n words_split_c0 ⟨45, [(0, dT a0), (1, dI a1)], []⟩ k = words_split_p1 n a0 a1 (fun z2 z3 => loopN (lB (words_split_C n) n words_split_c1) n ⟨45, [(0, dT z2), (1, dI a1), (6, .arr 1006), (7, dI (-1 : Int)), (16, dI z3), (17, dI (0 : Int))], [(1006, .arr 41 3 [])]⟩ (blockK 0 (seqK (words_split_C n) n words_split_c2 k))) := by kernel_rfl
theorem words_split_p2_eq {R : Type} (n : Nat) (w4 : List UInt8) (a1 h8 w5 h10 : Int) (h11 : LL) (k : Exit → St → Option R) : vexec (words_split_C n) n words_split_c1 ⟨45, [(0, dT w4), (1, dI a1), (6, .arr 1006), (7, dI h8), (16, dI w5), (17, dI h10)], [(1006, .arr 41 3 h11)]⟩ k = words_split_p2 n w4 a1 h8 w5 h10 h11 (fun z22 z23 => k .normal ⟨45, [(0, dT w4), (1, dI a1), (6, .arr 1006), (7, dI z22), (16, dI w5), (17, dI z23)], [(1006, .arr 41 3 h11)]⟩) (fun z24 r21 => k .normal ⟨45, [(0, dT w4), (1, dI a1), (6, .arr 100036), (7, dI (-1 : Int)), (16, dI w5), (17, dI z24)], [(100036, .arr 41 3 r21)]⟩) (k .ret ⟨45, [(4, .nil), (5, dB false)], []⟩) (fun z25 => k (.exit 0) ⟨45, [(0, dT w4), (1, dI a1), (6, .arr 1006), (7, dI h8), (16, dI w5), (17, dI h10), (18, dB z25)], [(1006, .arr 41 3 h11)]⟩) := by kernel_rfl
theorem words_split_r3_eq {R : Type} (n : Nat) (w4 : List UInt8) (a1 w5 : Int) (k : Exit → St → Option R) : ∀ (m : Nat) (h8 h10 : Int) (h11 : LL), loopN (lB (words_split_C n) n words_split_c1) m ⟨45, [(0, dT w4), (1, dI a1), (6, .arr 1006), (7, dI h8), (16, dI w5), (17, dI h10)], [(1006, .arr 41 3 h11)]⟩ k = words_split_r3 n w4 a1 w5 (k .ret ⟨45, [(4, .nil), (5, dB false)], []⟩) (fun h8 h10 w30 h11 => k (.exit 0) ⟨45, [(0, dT w4), (1, dI a1), (6, .arr 1006), (7, dI h8), (16, dI w5), (17, dI h10), (18, dB w30)], [(1006, .arr 41 3 h11)]⟩) m h8 h10 h11
 | 0, _, _, _ => rfl
 | m + 1, h8, h10, h11 => (lS (by kernel_rfl) m k).trans ((words_split_p2_eq n w4 a1 h8 w5 h10 h11 (loopK (lB (words_split_C n) n words_split_c1) m k)).trans (cg4 (fun x0 x1 x2 x3 => words_split_p2 n w4 a1 h8 w5 h10 h11 x0 x1 x2 x3 ) (funext fun w26 => funext fun w27 => (loopN_at (by kernel_rfl) m k).trans (words_split_r3_eq n w4 a1 w5 k m w26 w27 h11)) (funext fun w28 => funext fun w29 => (loopN_at (by kernel_rfl) m k).trans (words_split_r3_eq n w4 a1 w5 k m (-1 : Int) w28 w29)) rfl rfl))
theorem words_split_p4_eq {R : Type} (n : Nat) (w4 : List UInt8) (a1 w31 w5 w32 : Int) (w33 : Bool) (w34 : LL) (k : Exit → St → Option R) : (blockK 0 (seqK (words_split_C n) n words_split_c2 k)) (.exit 0) ⟨45, [(0, dT w4), (1, dI a1), (6, .arr 1006), (7, dI w31), (16, dI w5), (17, dI w32), (18, dB w33)], [(1006, .arr 41 3 w34)]⟩ = words_split_p4 n w4 a1 w31 w5 w32 w33 w34 (fun r35 => k .ret ⟨45, [(4, .arr 100044), (5, dB true)], [(100044, .arr 41 3 r35)]⟩) := by kernel_rfl
theorem words_split_p5_eq {R : Type} (n : Nat) (a0 : List UInt8) (a1 : Int) (k : Exit → St → Option R) : vexec (words_split_C n) n words_split_c0 ⟨45, [(0, dT a0), (1, dI a1)], []⟩ k = words_split_p5 n a0 a1 (k .ret ⟨45, [(4, .nil), (5, dB false)], []⟩) (fun w36 => k .ret ⟨45, [(4, .arr 100044), (5, dB true)], [(100044, .arr 41 3 w36)]⟩) :=
 (words_split_p1_eq n a0 a1 k).trans (cg1 (fun x0 => words_split_p1 n a0 a1 x0 ) (funext fun w4 => funext fun w5 => ((loopN_at (by kernel_rfl) n (blockK 0 (seqK (words_split_C n) n words_split_c2 k))).trans (words_split_r3_eq n w4 a1 w5 (blockK 0 (seqK (words_split_C n) n words_split_c2 k)) n (-1 : Int) (0 : Int) [])).trans (cg2 (fun x0 x1 => words_split_r3 n w4 a1 w5 x0 x1 n (-1 : Int) (0 : Int) []) rfl (funext fun w31 => funext fun w32 => funext fun w33 => funext fun w34 => (words_split_p4_eq n w4 a1 w31 w5 w32 w33 w34 k)))))
theorem words_split_vfn {R : Type} (n : Nat) (a0 : List UInt8) (a1 : Int) (K : AV → Option R) : vfn (words_split_C n) n Tryd.f24 [.d (D.str a0), .d (D.int .i64 a1)] [] (retF [[3], [0]] K) = words_split n a0 a1 (fun r0 r1 => K (.tup [.d (D.sl 3 r0), .d (D.bool r1)])) :=
  (show vfn (words_split_C n) n Tryd.f24 [.d (D.str a0), .d (D.int .i64 a1)] [] (retF [[3], [0]] K) = vexec (words_split_C n) n words_split_c0 ⟨45, [(0, dT a0), (1, dI a1)], []⟩ (retX gtt [.tmp 4, .tmp 5] (retF [[3], [0]] K)) from vfn_at (by kernel_rfl) (by kernel_rfl) rfl (by kernel_rfl) rfl (by kernel_rfl) rfl).trans ((words_split_p5_eq n a0 a1 (retX gtt [.tmp 4, .tmp 5] (retF [[3], [0]] K))).trans (by kernel_rfl))
def words_split_K : AV → Option (LL × Bool) := fun av => match av with
  | .tup [.d (D.sl 3 r0), .d (D.bool r1)] => some (r0, r1)
  | _ => none
def words_split_e (n : Nat) : Entry := fun _ _ g avs _ k => match avs with
  | [c0, c1] => prT g c0 fun a0 => prI g .i64 c1 fun a1 => 
    gb g (words_split n a0 a1 (fun r0 r1 => some (r0, r1))) ([], false) fun r => k ⟨.tup [.d (D.sl 3 r.1), .d (D.bool r.2)], [], []⟩
  | _ => none
theorem words_split_ok (n : Nat) : EntryOK Tryd.prog 24 (words_split_e n) := by
  intro R site g avs hl k r h
  unfold words_split_e at h
  split at h
  rotate_left
  · cases h
  replace h := prT_some h
  obtain ⟨a0, h, le0⟩ := h
  replace h := prI_some h
  obtain ⟨a1, h, le1⟩ := h
  replace h := gb_some h
  obtain ⟨res, h, hr⟩ := h
  refine ⟨_, h, fun hg => CallOK.conv (avs' := [.d (D.str a0), .d (D.int .i64 a1)]) (.cons (le0 hg) (.cons (le1 hg) (.nil))) (callOK_fix (K := words_split_K) (res := res) (words_split_VC n) (fn := Tryd.f24) (n := n) (by kernel_rfl) (by kernel_rfl) (by kernel_rfl) (ss := [[3], [0]]) rfl ?_ ?_)⟩
  · exact (words_split_vfn n a0 a1 words_split_K).trans (hr hg)
  · intro x hx
    unfold words_split_K at hx
    split at hx
    · injection hx with hx; subst hx; rfl
    · cases hx
end Go.Vx
/-
  words.Lines: its contract.
-/
set_option linter.unusedVariables false
namespace Go.Vx
open Go.Proofs Go.RowKit
open Go.Rt (strV Cells2 okN Mk IterOK range_split region_in)

/-- A contract of a function of data whose result may lie in new memory. -/
theorem callOK_hand2 {P : Program} {f : Nat} {fn : Func} (hf : P.funcs[f]? = some fn) (hb : fn.body.isSome = true) (hn : (fn.name == "runtime.NumGoroutine") = false) {avs : List AV} {av : AV} {hl : Nat → Option Ob} {rd : List Nat} (hlf : lf av = true) (hA : lfL avs = true)
    (h : ∀ (S : Nat → Prop) (w : World) (args : List Value), ArgsRd (fun _ => none) S (fun _ => none) w args avs → Calls P f args.toArray w fun e w' => ∃ v, e = .returned v ∧ RdA (fun _ => none) (fun b => S b ∨ (w.heap.size ≤ b ∧ b < w'.heap.size)) (fun _ => none) w' tm0 v av ∧ RowKit.Below w.heap.size w w') : CallOK P f avs hl ⟨av, [], rd⟩ := by
  refine ⟨⟨fn, hf, hb, hn⟩, fun β S h' w args hO hAr _ => ?_⟩
  refine (h S w args ⟨hAr.1, fun i v av' h1 h2 => rdA_lf (lfL_at hA h2) (fun _ h => h) (fun _ _ => rfl) (hAr.2 i v av' h1 h2)⟩).mono fun e w' ⟨v, he, hr, hbel⟩ => ?_
  refine ⟨v, β, fun b => S b ∨ (w.heap.size ≤ b ∧ b < w'.heap.size), he, ⟨fun b hS => .inl hS, fun b hS => hS.imp id (fun h => .inl h.1), fun b hS => hS.elim (fun h => Nat.lt_of_lt_of_le (hO.sb b h) hbel.size) (fun h => h.2), fr_of_below hbel, fun _ _ => rfl, fun l o hl' => by simp [wrL] at hl', fun l hl' => by simp [wrL] at hl', fun l b hl' => by simp [wrL] at hl', fun l l' b hl' => by simp [wrL] at hl', fun l hl' => by simp [wrL] at hl', ?_, fun t => gds_lf t _ hlf⟩⟩
  exact rdA_lf hlf (fun _ h => h) (fun _ _ => rfl) hr

/-- A function of data that are no slices: what it hands back lies in new memory. -/
theorem calls_new {P : Program} {f : Nat} {avs : List AV} {hl : Nat → Option Ob} {av : AV} (h : CallOK P f avs hl ⟨av, [], []⟩) {w : World} {args : List Value} (hA : ArgsRd (fun _ => none) (fun _ => False) (fun _ => none) w args avs) :
    Calls P f args.toArray w fun e w' => ∃ v, e = .returned v ∧ RdA (fun _ => none) (fun b => w.heap.size ≤ b ∧ b < w'.heap.size) (fun _ => none) w' tm0 v av ∧ RowKit.Below w.heap.size w w' := by
  refine (h.2 (fun _ => none) (fun _ => False) (fun _ => none) w args ⟨fun l o h => (by cases h), fun l l' b h => (by cases h), fun l b h => (by cases h), fun b h => h.elim⟩ hA (fun l hl => (by rcases hl with hl | hl <;> simp [wrL] at hl))).mono fun e w' ⟨v, β', S', he, hc⟩ => ?_
  have hβ : β' = fun _ => none := funext fun l => hc.bsame l (by simp [wrL])
  subst hβ
  have hs : ∀ b, S' b → w.heap.size ≤ b ∧ b < w'.heap.size := fun b hb => by
    refine ⟨?_, hc.sb b hb⟩
    rcases hc.sf b hb with h | h | ⟨l, h1, _⟩
    · exact h.elim
    · exact h
    · simp [wrL] at h1
  refine ⟨v, he, ?_, ⟨hc.fr.os, hc.fr.tape, hc.fr.output, hc.fr.size, fun b hb => hc.fr.block b hb (fun ⟨l, h1, _⟩ => by simp [wrL] at h1)⟩⟩
  exact hc.res.mono hs (fun _ _ => rfl) (fun l _ => ⟨rfl, fun h => h, fun e s rows h => (by cases h), fun b cs ty fz h => (by cases h)⟩) (fun _ _ => rfl)

theorem rd_sl_inv {S : Nat → Prop} {w : World} {v : Value} {k : Nat} {rows : LL} (h : Rd S w v (.sl k rows)) : ∃ ad cap, v = .slice ad rows.length cap := by
  cases h with
  | sl0 a cap => exact ⟨a, cap, rfl⟩
  | sl ad cap => exact ⟨some ad, cap, rfl⟩

theorem Tryd.split_calls {n : Nat} {x : List UInt8} {i : Int} {line : LL} {ok : Bool} (hs : words_split n x i (fun a b => some (a, b)) = some (line, ok)) (w : World) :
    Calls Tryd.prog 24 #[strV x, .int .i64 i] w fun e w' => ∃ (ad : Option Addr) (cap : Nat), e = .returned (.tuple #[.slice ad line.length cap, .bool ok]) ∧
      Rd (fun b => w.heap.size ≤ b ∧ b < w'.heap.size) w' (.slice ad line.length cap) (.sl 3 line) ∧ RowKit.Below w.heap.size w w' := by
  have he : words_split_e n Dl 0 true [.d (.str x), .d (.int .i64 i)] (fun _ => none) some = some ⟨.tup [.d (.sl 3 line), .d (.bool ok)], [], []⟩ := by
    show gb true (words_split n x i (fun a b => some (a, b))) ([], false) (fun r => (some ⟨.tup [.d (D.sl 3 r.1), .d (D.bool r.2)], [], []⟩ : Option Dl)) = _
    rw [hs]
    rfl
  obtain ⟨dl, k1, k2⟩ := words_split_ok n Dl 0 true _ _ _ _ he
  simp only [Option.some.injEq] at k1
  subst k1
  refine (calls_new (k2 rfl) (args := [strV x, .int .i64 i]) ⟨rfl, fun j u av q1 q2 => ?_⟩).mono fun e w' ⟨u, he, hu, hb⟩ => ?_
  · match j, q1, q2 with
    | 0, q1, q2 =>
      simp only [List.getElem?_cons_zero, Option.some.injEq] at q1 q2
      subst q1 q2
      exact .d _ _ (.str ⟨⟨x⟩⟩)
    | 1, q1, q2 =>
      simp only [List.getElem?_cons_succ, List.getElem?_cons_zero, Option.some.injEq] at q1 q2
      subst q1 q2
      exact .d _ _ (.int _ _)
  · obtain ⟨cs, rfl, h1, h2⟩ := hu.tup_inv
    have r0 := (h2 0 _ rfl).d_inv
    have r1 := (h2 1 _ rfl).bool_inv
    obtain ⟨ad, cap, r2⟩ := rd_sl_inv r0
    refine ⟨ad, cap, ?_, r2 ▸ r0, hb⟩
    rw [he, ← r2, ← r1]
    congr 2
    obtain ⟨l⟩ := cs
    match l, h1 with
    | [a, b], _ => rfl

set_option maxHeartbeats 1000000 in
theorem Tryd.seq_calls (w : World) (s sep : ByteArray) : Calls Tryd.prog 23 #[.string s, .string sep] w fun e w' =>
    e = .returned (.func (.func 43) #[] #[.pointer (some ⟨w.heap.size + 1, 0, none⟩), .pointer (some ⟨w.heap.size, 0, none⟩), .pointer (some ⟨w.heap.size + 2, 0, none⟩)]) ∧
      w' = ((w.alloc (.cells #[.string s] 9)).alloc (.cells #[.string sep] 9)).alloc (.cells #[.int .i64 0] 3) := by
  have h35 : Calls Tryd.prog 35 #[.string s, .string sep, .int .i64 0] w fun e w' =>
    e = .returned (.func (.func 43) #[] #[.pointer (some ⟨w.heap.size + 1, 0, none⟩), .pointer (some ⟨w.heap.size, 0, none⟩), .pointer (some ⟨w.heap.size + 2, 0, none⟩)]) ∧
      w' = ((w.alloc (.cells #[.string s] 9)).alloc (.cells #[.string sep] 9)).alloc (.cells #[.int .i64 0] 3) := by
    go_enter Tryd.func35, Tryd.ntmps35
    go_wp2
    go_ret
    simp
  go_enter Tryd.func23, Tryd.ntmps23
  go_wp2_with (go_at_call 35; refine h35.mono ?_; rintro e w' ⟨rfl, rfl⟩)
  go_ret
  exact ⟨rfl, rfl⟩

/-- What holds ahead of a round of Lines' loop: ps: the pieces that are left; s: what lies in the iterator's variable. -/
structure LI (w : World) (n : Nat) (r : LL) (ps : List (List UInt8)) (s : List UInt8) (i : Nat) (acc : LL) (vl : Value) (hd : List Value) (W : World) : Prop where
  run : lines_r n some ps (i : Int) acc = some r
  bound : i + ps.length ≤ 70000
  al : acc.length ≤ i
  low : ∀ b, b < w.heap.size → W.heap[b]? = w.heap[b]?
  os : W.os = w.os
  tape : W.tape = w.tape
  output : W.output = w.output
  sz : w.heap.size + 8 ≤ W.heap.size
  c0 : W.heap[w.heap.size]? = some (.cells #[.slice none 0 0] 34 (0, 0))
  c1 : W.heap[w.heap.size + 1]? = some (.cells #[.int .i64 0] 3 (0, 0))
  c2 : W.heap[w.heap.size + 2]? = some (.cells #[.int .i64 0] 26 (0, 0))
  c3 : W.heap[w.heap.size + 3]? = some (.cells #[vl] 34 (0, 0))
  c4 : W.heap[w.heap.size + 4]? = some (.cells #[.int .i64 (i : Int)] 3 (0, 0))
  c5 : W.heap[w.heap.size + 5]? = some (.cells #[strV s] 9 (0, 0))
  c6 : W.heap[w.heap.size + 6]? = some (.cells #[strV [10]] 9 (0, 0))
  c7 : W.heap[w.heap.size + 7]? = some (.cells #[.int .i64 0] 3 (0, 0))
  len : s.length ≤ 65536
  own : W.ownsRow 0 37 1 vl acc.length hd
  out : ∀ g, vl.ownBlock = some g → w.heap.size + 10 ≤ g
  each : ∀ (j : Nat) (x : Value) (row : List D), hd[j]? = some x → acc[j]? = some row → ∃ d, row = [d] ∧ Rd (fun b => w.heap.size + 10 ≤ b ∧ b < W.heap.size ∧ vl.ownBlock ≠ some b) W x d

/-- Another world, in which all that matters is as it was. -/
theorem LI.frame {w W W' : World} {n : Nat} {r : LL} {ps : List (List UInt8)} {s : List UInt8} {i : Nat} {acc : LL} {vl : Value} {hd : List Value} (h : LI w n r ps s i acc vl hd W) (ho : W'.os = W.os) (ht : W'.tape = W.tape) (hp : W'.output = W.output) (hs : W.heap.size ≤ W'.heap.size)
    (hh : ∀ b, b ≠ w.heap.size + 8 → b ≠ w.heap.size + 9 → b < W.heap.size → W'.heap[b]? = W.heap[b]?) : LI w n r ps s i acc vl hd W' := by
  have hz := h.sz
  have k : ∀ j, j < 8 → W'.heap[w.heap.size + j]? = W.heap[w.heap.size + j]? := fun j hj => hh _ (by omega) (by omega) (by omega)
  refine ⟨h.run, h.bound, h.al, fun b hb => (hh b (by omega) (by omega) (by omega)).trans (h.low b hb), ho.trans h.os, ht.trans h.tape, hp.trans h.output, Nat.le_trans hz hs, (k 0 (by omega)).trans h.c0, (k 1 (by omega)).trans h.c1, (k 2 (by omega)).trans h.c2,
    (k 3 (by omega)).trans h.c3, (k 4 (by omega)).trans h.c4, (k 5 (by omega)).trans h.c5, (k 6 (by omega)).trans h.c6, (k 7 (by omega)).trans h.c7, h.len, ?_, h.out, fun j x row h1 h2 => ?_⟩
  · obtain ⟨q1, q2⟩ := h.own
    refine ⟨q1, ?_⟩
    rcases q2 with q2 | ⟨g, cap, cur, rfl, q3, q4, q5⟩
    · exact .inl q2
    · have := h.out g rfl
      exact .inr ⟨g, cap, cur, rfl, q3, (hh g (by omega) (by omega) (Array.getElem?_eq_some_iff.1 q4).1).trans q4, q5⟩
  · obtain ⟨d, rfl, hr⟩ := h.each j x row h1 h2
    exact ⟨d, rfl, hr.mono (fun b hb => ⟨hb.1, by omega, hb.2.2⟩) (fun b hb => hh b (by omega) (by omega) hb.2.1)⟩

/-- The iterator's variable stored into. -/
theorem LI.set5 {w W : World} {n : Nat} {r : LL} {ps : List (List UInt8)} {s t : List UInt8} {i : Nat} {acc : LL} {vl : Value} {hd : List Value} (h : LI w n r ps s i acc vl hd W) (ht : t.length ≤ 65536) : LI w n r ps t i acc vl hd (W.setCell ⟨w.heap.size + 5, 0, none⟩ (strV t)) := by
  have hz := h.sz
  have k : ∀ b, b ≠ w.heap.size + 5 → (W.setCell ⟨w.heap.size + 5, 0, none⟩ (strV t)).heap[b]? = W.heap[b]? := fun b hb => heap_setCell_other W ⟨w.heap.size + 5, 0, none⟩ b (strV t) hb
  refine ⟨h.run, h.bound, h.al, fun b hb => (k b (by omega)).trans (h.low b hb), h.os, h.tape, h.output, by simpa using hz, (k _ (by omega)).trans h.c0, (k _ (by omega)).trans h.c1, (k _ (by omega)).trans h.c2,
    (k _ (by omega)).trans h.c3, (k _ (by omega)).trans h.c4, ?_, (k _ (by omega)).trans h.c6, (k _ (by omega)).trans h.c7, ht, ?_, h.out, fun j x row h1 h2 => ?_⟩
  · exact heap_setCell_same W (w.heap.size + 5) 0 _ 9 (strV t) h.c5
  · obtain ⟨q1, q2⟩ := h.own
    refine ⟨q1, ?_⟩
    rcases q2 with q2 | ⟨g, cap, cur, rfl, q3, q4, q5⟩
    · exact .inl q2
    · have := h.out g rfl
      exact .inr ⟨g, cap, cur, rfl, q3, (k g (by omega)).trans q4, q5⟩
  · obtain ⟨d, rfl, hr⟩ := h.each j x row h1 h2
    exact ⟨d, rfl, hr.mono (fun b hb => ⟨hb.1, by simpa using hb.2.1, hb.2.2⟩) (fun b hb => k b (by omega))⟩
end Go.Vx
/-
  words.Lines: a round of its loop.
-/
set_option linter.unusedVariables false
namespace Go.Vx
open Go.Proofs Go.RowKit
open Go.Rt (strV Cells2 okN Mk IterOK range_split region_in)

theorem LI.num {w W : World} {n : Nat} {r : LL} {x : List UInt8} {ps : List (List UInt8)} {s : List UInt8} {i : Nat} {acc : LL} {vl : Value} {hd : List Value} (h : LI w n r (x :: ps) s i acc vl hd W) :
    LI w n acc [] s (i + 1) acc vl hd (W.setCell ⟨w.heap.size + 4, 0, none⟩ (.int .i64 ((i + 1 : Nat) : Int))) := by
  have hz := h.sz
  have hb := h.bound
  have ha := h.al
  simp only [List.length_cons] at hb
  have k : ∀ b, b ≠ w.heap.size + 4 → (W.setCell ⟨w.heap.size + 4, 0, none⟩ (.int .i64 ((i + 1 : Nat) : Int))).heap[b]? = W.heap[b]? := fun b hb => heap_setCell_other W ⟨w.heap.size + 4, 0, none⟩ b _ hb
  refine ⟨rfl, by simp; omega, by omega, fun b hb => (k b (by omega)).trans (h.low b hb), h.os, h.tape, h.output, by simpa using hz, (k _ (by omega)).trans h.c0, (k _ (by omega)).trans h.c1, (k _ (by omega)).trans h.c2,
    (k _ (by omega)).trans h.c3, ?_, (k _ (by omega)).trans h.c5, (k _ (by omega)).trans h.c6, (k _ (by omega)).trans h.c7, h.len, ?_, h.out, fun j x row h1 h2 => ?_⟩
  · exact heap_setCell_same W (w.heap.size + 4) 0 _ 3 _ h.c4
  · obtain ⟨q1, q2⟩ := h.own
    refine ⟨q1, ?_⟩
    rcases q2 with q2 | ⟨g, cap, cur, rfl, q3, q4, q5⟩
    · exact .inl q2
    · have := h.out g rfl
      exact .inr ⟨g, cap, cur, rfl, q3, (k g (by omega)).trans q4, q5⟩
  · obtain ⟨d, rfl, hr⟩ := h.each j x row h1 h2
    exact ⟨d, rfl, hr.mono (fun b hb => ⟨hb.1, by simpa using hb.2.1, hb.2.2⟩) (fun b hb => k b (by omega))⟩

theorem LI.rerun {w W : World} {n : Nat} {r r' : LL} {ps ps' : List (List UInt8)} {s : List UInt8} {i : Nat} {acc : LL} {vl : Value} {hd : List Value} (h : LI w n r' ps' s i acc vl hd W) (hr : lines_r n some ps (i : Int) acc = some r) (hb : i + ps.length ≤ 70000) : LI w n r ps s i acc vl hd W :=
  ⟨hr, hb, h.al, h.low, h.os, h.tape, h.output, h.sz, h.c0, h.c1, h.c2, h.c3, h.c4, h.c5, h.c6, h.c7, h.len, h.own, h.out, h.each⟩

/-- A line appended. -/
theorem LI.app {w W W3 : World} {n : Nat} {r : LL} {ps : List (List UInt8)} {s : List UInt8} {i : Nat} {acc : LL} {vl u : Value} {hd : List Value} {line : LL} {g cap H : Nat} (h : LI w n r ps s i acc vl hd W) (ha : acc.length + 1 ≤ i) (o : Obj)
    (hu : Rd (fun b => H ≤ b ∧ b < W.heap.size) W u (.sl 3 line)) (hH : w.heap.size + 10 ≤ H) (hHv : ∀ b, vl.ownBlock = some b → b < H)
    (hrow : W3.ownsRow 0 37 1 (.slice (some ⟨g, 0, none⟩) (acc.length + 1) cap) (acc.length + 1) (hd ++ [u])) (hg : (W.alloc o).grownBy W3 vl.ownBlock) (hat : vl.ownBlock = some g ∨ g = (W.alloc o).heap.size) (hsz : w.heap.size + 10 ≤ W.heap.size) :
    LI w n (acc ++ [[D.sl 3 line]]) [] s i (acc ++ [[D.sl 3 line]]) (.slice (some ⟨g, 0, none⟩) (acc.length + 1) cap) (hd ++ [u]) (W3.setCell ⟨w.heap.size + 3, 0, none⟩ (.slice (some ⟨g, 0, none⟩) (acc.length + 1) cap)) := by
  have hz := h.sz
  have s1 : (W.alloc o).heap.size = W.heap.size + 1 := by simp
  have s2 := hg.size
  have hgb : w.heap.size + 10 ≤ g := by
    rcases hat with h1 | h1
    · exact h.out g h1
    · omega
  have k0 : ∀ b, b < W.heap.size → vl.ownBlock ≠ some b → W3.heap[b]? = W.heap[b]? := fun b hb hn => (hg.block b (by omega) (fun e => hn e.symm)).trans (Lib.alloc_old W o b hb)
  have k : ∀ b, b ≠ w.heap.size + 3 → b < W.heap.size → vl.ownBlock ≠ some b → (W3.setCell ⟨w.heap.size + 3, 0, none⟩ (.slice (some ⟨g, 0, none⟩) (acc.length + 1) cap)).heap[b]? = W.heap[b]? := fun b h1 h2 h3 => (heap_setCell_other W3 ⟨w.heap.size + 3, 0, none⟩ b _ h1).trans (k0 b h2 h3)
  have lo : ∀ b, b < w.heap.size + 10 → vl.ownBlock ≠ some b := fun b hb e => by have := h.out b e; omega
  refine ⟨rfl, by have := h.bound; simp; omega, by simpa using ha, fun b hb => (k b (by omega) (by omega) (lo b (by omega))).trans (h.low b hb), hg.os.trans h.os, hg.tape.trans h.tape, hg.output.trans h.output, by simp; omega,
    (k _ (by omega) (by omega) (lo _ (by omega))).trans h.c0, (k _ (by omega) (by omega) (lo _ (by omega))).trans h.c1, (k _ (by omega) (by omega) (lo _ (by omega))).trans h.c2,
    heap_setCell_same W3 (w.heap.size + 3) 0 _ 34 _ ((k0 _ (by omega) (lo _ (by omega))).trans h.c3), (k _ (by omega) (by omega) (lo _ (by omega))).trans h.c4, (k _ (by omega) (by omega) (lo _ (by omega))).trans h.c5,
    (k _ (by omega) (by omega) (lo _ (by omega))).trans h.c6, (k _ (by omega) (by omega) (lo _ (by omega))).trans h.c7, h.len, ?_, fun b hb => ?_, fun j y row h1 h2 => ?_⟩
  · obtain ⟨q1, q2⟩ := hrow
    refine ⟨by simpa using q1, ?_⟩
    rcases q2 with ⟨q2, _⟩ | ⟨g', cap', cur, e, q3, q4, q5⟩
    · cases q2
    · refine .inr ⟨g', cap', cur, by rw [e]; simp, q3, ?_, by simpa using q5⟩
      cases e
      exact (heap_setCell_other W3 ⟨w.heap.size + 3, 0, none⟩ g _ (by show g ≠ w.heap.size + 3; omega)).trans q4
  · simp only [Value.ownBlock, Option.some.injEq] at hb
    omega
  · have fin : ∀ (S : Nat → Prop) (y : Value) (d : D), (∀ b, S b → w.heap.size + 10 ≤ b ∧ b < W.heap.size ∧ vl.ownBlock ≠ some b) → Rd S W y d →
        Rd (fun b => w.heap.size + 10 ≤ b ∧ b < (W3.setCell ⟨w.heap.size + 3, 0, none⟩ (.slice (some ⟨g, 0, none⟩) (acc.length + 1) cap)).heap.size ∧ (Value.slice (some ⟨g, 0, none⟩) (acc.length + 1) cap).ownBlock ≠ some b) (W3.setCell ⟨w.heap.size + 3, 0, none⟩ (.slice (some ⟨g, 0, none⟩) (acc.length + 1) cap)) y d := by
      intro S y d hS hr
      refine hr.mono (fun b hb => ?_) (fun b hb => k b (by have := hS b hb; omega) (hS b hb).2.1 (hS b hb).2.2)
      obtain ⟨t1, t2, t3⟩ := hS b hb
      refine ⟨t1, by simp; omega, fun e => ?_⟩
      simp only [Value.ownBlock, Option.some.injEq] at e
      subst e
      rcases hat with h1 | h1
      · exact t3 h1
      · omega
    have hlen : hd.length = acc.length := by have := h.own.1; omega
    by_cases hj : j < acc.length
    · rw [List.getElem?_append_left (by omega)] at h1 h2
      obtain ⟨d, rfl, hr⟩ := h.each j y row h1 h2
      exact ⟨d, rfl, fin _ _ _ (fun b hb => hb) hr⟩
    · rw [List.getElem?_append_right (by omega)] at h1 h2
      rw [hlen] at h1
      cases hm : j - acc.length with
      | zero =>
        simp only [hm, List.getElem?_cons_zero, Option.some.injEq] at h1 h2
        subst h1 h2
        exact ⟨_, rfl, fin _ _ _ (fun b hb => ⟨by omega, hb.2, fun e => by have := hHv b e; omega⟩) hu⟩
      | succ m => simp [hm] at h1

def rangesOf : Code → List Code
  | .rangeFunc _ _ _ c => [c]
  | .loop c => rangesOf c
  | .seq a b => rangesOf a ++ rangesOf b
  | .block _ c => rangesOf c
  | .scope c => rangesOf c
  | .cond _ a b => rangesOf a ++ rangesOf b
  | _ => []
noncomputable def f11_body : Code := (rangesOf (Tryd.f11.body.getD .skip)).getD 0 .skip

theorem run_cons {n : Nat} {x : List UInt8} {ps : List (List UInt8)} {i : Nat} {acc r : LL} (h : lines_r n some (x :: ps) (i : Int) acc = some r) :
    ∃ line, words_split n x ((i + 1 : Nat) : Int) (fun a b => some (a, b)) = some (line, true) ∧ line.length ≤ 64 ∧ lines_r n some ps ((i + 1 : Nat) : Int) (bif Nat.beq line.length 0 then acc else acc ++ [[D.sl 3 line]]) = some r := by
  replace h : gb true (words_split n x ((i : Int) + 1) (fun a b => some (a, b))) ([], false) (fun r => bif r.2 && Nat.ble r.1.length 64 then lines_r n some ps ((i : Int) + 1) (bif Nat.beq r.1.length 0 then acc else acc ++ [[D.sl 3 r.1]]) else none) = some r := h
  obtain ⟨⟨line, ok⟩, h1, h2⟩ := gb_some h
  have h2 := h2 rfl
  cases ok with
  | false => simp at h1
  | true =>
    cases hb : Nat.ble line.length 64 with
    | false => simp [hb] at h1
    | true =>
      simp only [hb, Bool.and_self, cond_true] at h1
      exact ⟨line, h2, Nat.le_of_ble_eq_true hb, h1⟩


set_option maxHeartbeats 2000000 in
set_option maxRecDepth 100000 in
theorem Tryd.lines_body (w W : World) (n : Nat) (r : LL) (x : List UInt8) (ps : List (List UInt8)) (s : List UInt8) (i : Nat) (acc : LL) (vl : Value) (hd : List Value) (h : LI w n r (x :: ps) s i acc vl hd W) (hD : w.heap.size + 9 < W.heap.size) (l : Nat) (u0 u1 u8 u9 u10 u11 u12 u13 u14 u15 u16 u17 u18 u19 u20 u21 u22 u23 u24 u25 u26 u27 u28 u29 u30 u31 u32 u33 u34 u35 u36 u37 u38 u39 u40 u41 : Value) :
    Code.wpIn (Fence.wide.inRound l) 0 Tryd.prog f11_body (okN fun W2 => (W2.heap[w.heap.size + 8]? = W.heap[w.heap.size + 8]? ∧ W2.heap[w.heap.size + 9]? = W.heap[w.heap.size + 9]?) ∧ ∃ acc' vl' hd', LI w n r ps s (i + 1) acc' vl' hd' W2) ⟨(u0 :: u1 :: .pointer (some ⟨w.heap.size, 0, none⟩) :: .pointer (some ⟨w.heap.size + 1, 0, none⟩) :: .pointer (some ⟨w.heap.size + 2, 0, none⟩) :: .pointer (some ⟨w.heap.size + 3, 0, none⟩) :: .pointer (some ⟨w.heap.size + 4, 0, none⟩) :: strV x :: u8 :: u9 :: u10 :: u11 :: u12 :: u13 :: u14 :: u15 :: u16 :: u17 :: u18 :: u19 :: u20 :: u21 :: u22 :: u23 :: u24 :: u25 :: u26 :: u27 :: u28 :: u29 :: u30 :: u31 :: u32 :: u33 :: u34 :: u35 :: u36 :: u37 :: u38 :: u39 :: u40 :: u41 :: []).toArray, []⟩ W := by
  conv => arg 4; whnf
  have hlo : ∀ {Q : Exit → Act → World → Prop}, (∀ a w, ¬ Q .outgrown a w) → ¬ LetsOut Q := fun h ⟨a, w, q⟩ => h a w q
  obtain ⟨line, hs, hl64, hrun⟩ := run_cons h.run
  have hb := h.bound
  simp only [List.length_cons] at hb
  have c4 : W.cell? ⟨w.heap.size + 4, 0, none⟩ = some (.int .i64 (i : Int)) := by rw [Lib.cell_of_heap h.c4]; rfl
  have f4 : W.frozen? ⟨w.heap.size + 4, 0, none⟩ = false := by simp [World.frozen?, h.c4]
  have hw : Go.RowKit.wrap64 ((i : Int) + 1) = ((i + 1 : Nat) : Int) := by unfold Go.RowKit.wrap64; omega
  have h1 := h.num
  have z1 := h1.sz
  refine wpIn_block ?_
  refine wpIn_seq (region_in (hlo fun _ _ h => h) (by kernel_rfl) ?_)
  go_wp2
  obtain ⟨W1, hW1⟩ : ∃ W1, W1 = W.setCell ⟨w.heap.size + 4, 0, none⟩ (.int .i64 ((i + 1 : Nat) : Int)) := ⟨_, rfl⟩
  change Code.wpIn _ _ _ _ _ _ (W.setCell ⟨w.heap.size + 4, 0, none⟩ (.int .i64 ((i + 1 : Nat) : Int)))
  rw [← hW1]
  rw [← hW1] at h1 z1
  have e8 : W1.heap[w.heap.size + 8]? = W.heap[w.heap.size + 8]? := by rw [hW1]; exact heap_setCell_other W ⟨w.heap.size + 4, 0, none⟩ _ _ (by show w.heap.size + 8 ≠ w.heap.size + 4; omega)
  have e9 : W1.heap[w.heap.size + 9]? = W.heap[w.heap.size + 9]? := by rw [hW1]; exact heap_setCell_other W ⟨w.heap.size + 4, 0, none⟩ _ _ (by show w.heap.size + 9 ≠ w.heap.size + 4; omega)
  have es : W1.heap.size = W.heap.size := by rw [hW1]; simp
  have c4 : W1.cell? ⟨w.heap.size + 4, 0, none⟩ = some (.int .i64 ((i + 1 : Nat) : Int)) := by rw [Lib.cell_of_heap h1.c4]; rfl
  have hal := h.al
  clear h hW1 f4 hw
  refine wpIn_seq (region_in (hlo fun _ _ h => h) (by kernel_rfl) ?_)
  go_wp2_with (go_at_call 24; refine (Tryd.split_calls hs W1).mono ?_; rintro e W2 ⟨ad, cap, rfl, hrd, hbel⟩)
  have h2 : LI w n acc [] s (i + 1) acc vl hd W2 := h1.frame hbel.os hbel.tape hbel.output hbel.size (fun b _ _ hb => hbel.block b hb)
  have e8 : W2.heap[w.heap.size + 8]? = W.heap[w.heap.size + 8]? := (hbel.block _ (by omega)).trans e8
  have e9 : W2.heap[w.heap.size + 9]? = W.heap[w.heap.size + 9]? := (hbel.block _ (by omega)).trans e9
  have hs2 := hbel.size
  have hvb : ∀ b, vl.ownBlock = some b → b < W1.heap.size := fun b hb => (h1.own.lt b hb).2
  have d1 : decide (((List.length line : Nat) : Int) > 64) = false := by simp; omega
  clear hbel hs c4
  refine wpIn_block ?_
  refine wpIn_seq (region_in (hlo fun _ _ h => h) (by kernel_rfl) ?_)
  go_wp2
  refine wpIn_cond_false rfl ?_
  refine wpIn_seq (region_in (hlo fun _ _ h => h) (by kernel_rfl) ?_)
  go_wp2
  refine wpIn_cond_false (by first | rfl | (rw [← d1]; rfl)) ?_
  refine wpIn_seq (region_in (hlo fun _ _ h => h) (by kernel_rfl) ?_)
  by_cases hl0 : line = []
  · subst hl0
    go_wp2
    refine wpIn_cond_false rfl ?_
    refine wpIn_skip ?_
    show _ ∧ _
    exact ⟨⟨e8, e9⟩, acc, vl, hd, h2.rerun hrun (by omega)⟩
  · have hpos : 0 < List.length line := List.length_pos_iff.2 hl0
    have d2 : decide (((List.length line : Nat) : Int) > 0) = true := by simp; omega
    go_wp2
    refine wpIn_cond_true (by first | rfl | (rw [← d2]; rfl)) ?_
    refine region_in (hlo fun _ _ h => h) (by kernel_rfl) ?_
    have c3 : W2.cell? ⟨w.heap.size + 3, 0, none⟩ = some vl := by rw [Lib.cell_of_heap h2.c3]; rfl
    obtain ⟨i0, hi, hz0⟩ := Option.map_eq_some_iff.1 (show (Tryd.prog.info? 37).map (fun i => (i.zero, i.size, i.bytes)) = some (some (.slice none 0 0), 1, 24) by kernel_rfl)
    obtain ⟨hz, hz1⟩ := Prod.mk.inj hz0
    obtain ⟨hz1, hz2⟩ := Prod.mk.inj hz1
    have ho : (W2.alloc (.cells #[.slice ad (List.length line) cap] 37)).ownsRow 0 37 1 vl acc.length hd := h2.own.alloc _
    have hn : ∀ (j : Nat) (u : Value), [(.slice ad (List.length line) cap : Value)][j]? = some u → (W2.alloc (.cells #[.slice ad (List.length line) cap] 37)).cell? ((⟨W2.heap.size, 0, none⟩ : Addr).add j) = some u := World.news_of_block (heap_alloc_new W2 _)
    have h1c : ∀ u ∈ [(.slice ad (List.length line) cap : Value)], u.oneCell' = true := by simp [Value.oneCell']
    have hb1 : acc.length + 1 ≤ maxLen := by unfold maxLen; omega
    have hb2 : (acc.length + 1) * 24 ≤ 140737488355328 := by omega
    have hlov : ∀ b, b < w.heap.size + 10 → some b ≠ vl.ownBlock := fun b hb e => by have := h2.out b e.symm; omega
    go_wp2_with (at_builtin; refine wpList_append_lies (W2.alloc (.cells #[.slice ad (List.length line) cap] 37)) (by rfl) _ _ 34 (by rfl) 0 37 i0 (.slice none 0 0) 1 24 Tryd.underlying34 hi hz hz1 hz2 (by rfl) (by decide) vl acc.length hd (by rfl) ho ⟨W2.heap.size, 0, none⟩ 1 1 [.slice ad (List.length line) cap] (by rfl) rfl hn h1c (by decide) hb1 hb2 (Nat.zero_le _) _ rfl ?_; intro g cp W3 hown hgrow hat hgl; have k3 : W3.heap[w.heap.size + 3]? = some (.cells #[vl] 34 (0, 0)) := ((hgrow.block _ (by simp; omega) (hlov _ (by omega))).trans (Lib.alloc_old W2 _ _ (by omega))).trans h2.c3; have k4 : W3.cell? ⟨w.heap.size + 3, 0, none⟩ = some vl := (by rw [Lib.cell_of_heap k3]; rfl); have k5 : W3.frozen? ⟨w.heap.size + 3, 0, none⟩ = false := (by simp [World.frozen?, k3]))
    have hX := h2.app (line := line) (H := W1.heap.size) (by omega) _ hrd (by omega) hvb hown hgrow hat (by omega)
    have b8 : (W3.setCell ⟨w.heap.size + 3, 0, none⟩ (.slice (some ⟨g, 0, none⟩) (acc.length + 1) cp)).heap[w.heap.size + 8]? = W.heap[w.heap.size + 8]? := (heap_setCell_other W3 ⟨w.heap.size + 3, 0, none⟩ _ _ (by show w.heap.size + 8 ≠ w.heap.size + 3; omega)).trans (((hgrow.block _ (by simp; omega) (hlov _ (by omega))).trans (Lib.alloc_old W2 _ _ (by omega))).trans e8)
    have b9 : (W3.setCell ⟨w.heap.size + 3, 0, none⟩ (.slice (some ⟨g, 0, none⟩) (acc.length + 1) cp)).heap[w.heap.size + 9]? = W.heap[w.heap.size + 9]? := (heap_setCell_other W3 ⟨w.heap.size + 3, 0, none⟩ _ _ (by show w.heap.size + 9 ≠ w.heap.size + 3; omega)).trans (((hgrow.block _ (by simp; omega) (hlov _ (by omega))).trans (Lib.alloc_old W2 _ _ (by omega))).trans e9)
    rw [show Nat.beq (List.length line) 0 = false from by cases e : Nat.beq (List.length line) 0 with | true => (have := Nat.eq_of_beq_eq_true e; omega) | false => rfl] at hrun
    show _ ∧ _
    exact ⟨⟨b8, b9⟩, _, _, _, hX.rerun hrun (by omega)⟩
end Go.Vx
/-
  words.Lines: its walk; its contract.
-/
set_option linter.unusedVariables false
namespace Go.Vx
open Go.Proofs Go.RowKit
open Go.Rt (strV Cells2 okN Mk IterOK range_split region_in)

theorem splitB_no {c : UInt8} : ∀ {s : List UInt8}, c ∉ s → splitB c s = [s]
  | [], _ => rfl
  | a :: s, h => by
    simp only [List.mem_cons, not_or] at h
    have e : (a == c) = false := by rw [beq_eq_false_iff_ne]; exact fun e => h.1 e.symm
    show (bif a == c then [] :: splitB c s else match splitB c s with | x :: xs => (a :: x) :: xs | [] => [[a]]) = _
    rw [e, splitB_no h.2]
    rfl
theorem splitB_cut {c : UInt8} {rest : List UInt8} : ∀ {x : List UInt8}, c ∉ x → splitB c (x ++ c :: rest) = x :: splitB c rest
  | [], _ => by
    show (bif c == c then [] :: splitB c rest else _) = _
    rw [show (c == c) = true from by simp]
    rfl
  | a :: x, h => by
    simp only [List.mem_cons, not_or] at h
    have e : (a == c) = false := by rw [beq_eq_false_iff_ne]; exact fun e => h.1 e.symm
    show (bif a == c then [] :: splitB c (x ++ c :: rest) else match splitB c (x ++ c :: rest) with | x :: xs => (a :: x) :: xs | [] => [[a]]) = _
    rw [e, splitB_cut h.2]
    rfl
theorem splitB_len {c : UInt8} : ∀ (s : List UInt8), (splitB c s).length ≤ s.length + 1
  | [] => by simp [splitB]
  | a :: s => by
    have ih := splitB_len (c := c) s
    show (bif a == c then [] :: splitB c s else match splitB c s with | x :: xs => (a :: x) :: xs | [] => [[a]]).length ≤ _
    cases a == c with
    | true => simp; omega
    | false =>
      simp only [cond_false]
      cases e : splitB c s with
      | nil => simp
      | cons x xs => rw [e] at ih; simp at ih ⊢; omega

theorem hasNew {w : World} {b : Nat} (o : Obj) (h : b = w.heap.size) : (w.alloc o).heap[b]? = some o := h ▸ heap_alloc_new w o
theorem hasOld {w : World} {b : Nat} {o : Obj} (h : w.heap[b]? = some o) (o' : Obj) : (w.alloc o').heap[b]? = some o := (Lib.alloc_old w o' b (Array.getElem?_eq_some_iff.1 h).1).trans h

set_option maxHeartbeats 4000000 in
set_option maxRecDepth 100000 in
theorem Tryd.lines_calls {n : Nat} {s : List UInt8} {r : LL} (hle : s.length ≤ 65536) (hrun : lines_r n some (splitB 10 s) 0 [] = some r) (w : World) :
    Calls Tryd.prog 11 #[strV s] w fun e w' => ∃ v, e = .returned (.tuple #[v, .int .i64 0, .int .i64 0]) ∧ Rd (fun b => w.heap.size ≤ b ∧ b < w'.heap.size) w' v (.sl 1 r) ∧ RowKit.Below w.heap.size w w' := by
  refine callsIn_wide.1 (callsIn_of_wp_marks (n := 0) Tryd.func11 rfl trivial ?_ rfl)
  simp only [Tryd.ntmps11, List.size_toArray, List.length_cons, List.length_nil, Nat.reduceAdd, Nat.reduceSub, Array.replicate_succ, Array.replicate_zero, List.push_toArray, List.append_toArray, List.nil_append, List.cons_append]
  have d0 : decide (((List.length s : Nat) : Int) > 65536) = false := by simp; omega
  unfold strV
  gi_wp2_with (refine ⟨trivial, rfl, ?_⟩; refine (callsIn_wide.2 (Tryd.seq_calls _ _ _)).mono ?_; rintro e w' ⟨rfl, rfl⟩)
  obtain ⟨w8, hw8⟩ : ∃ w8, w8 = ((((((((w.alloc (.cells #[.slice none 0 0] 34)).alloc (.cells #[.int .i64 0] 3)).alloc (.cells #[.int .i64 0] 26)).alloc (.cells #[.slice none 0 0] 34)).alloc (.cells #[.int .i64 0] 3)).alloc (.cells #[strV s] 9)).alloc (.cells #[strV [10]] 9)).alloc (.cells #[.int .i64 0] 3)) := ⟨_, rfl⟩
  change Code.wpIn _ _ _ _ _ ⟨(strV s :: undef :: .pointer (some ⟨w.heap.size, 0, none⟩) :: .pointer (some ⟨w.heap.size + 1, 0, none⟩) :: .pointer (some ⟨w.heap.size + 2, 0, none⟩) :: .pointer (some ⟨w.heap.size + 3, 0, none⟩) :: .pointer (some ⟨w.heap.size + 4, 0, none⟩) :: undef :: undef :: undef :: strV s :: .int .i64 s.length :: .bool false :: strV s :: .func (.func 43) #[] #[.pointer (some ⟨w.heap.size + 6, 0, none⟩), .pointer (some ⟨w.heap.size + 5, 0, none⟩), .pointer (some ⟨w.heap.size + 7, 0, none⟩)] :: undef :: undef :: undef :: undef :: undef :: undef :: undef :: undef :: undef :: undef :: undef :: undef :: undef :: undef :: undef :: undef :: undef :: undef :: undef :: undef :: undef :: undef :: undef :: undef :: undef :: undef :: undef :: []).toArray, []⟩ ((((((((w.alloc (.cells #[.slice none 0 0] 34)).alloc (.cells #[.int .i64 0] 3)).alloc (.cells #[.int .i64 0] 26)).alloc (.cells #[.slice none 0 0] 34)).alloc (.cells #[.int .i64 0] 3)).alloc (.cells #[strV s] 9)).alloc (.cells #[strV [10]] 9)).alloc (.cells #[.int .i64 0] 3))
  rw [← hw8]
  have hsz : w8.heap.size = w.heap.size + 8 := by rw [hw8]; simp
  have i0 : LI w n r (splitB 10 s) s 0 [] (.slice none 0 0) [] w8 := by
    subst hw8
    have hl := splitB_len (c := 10) s
    refine ⟨hrun, by omega, Nat.le_refl _, fun b hb => ?_, rfl, rfl, rfl, by simp, ?_, ?_, ?_, ?_, ?_, ?_, ?_, ?_, hle, World.ownsRow_nil _ _ _ _, fun g hg => (by cases hg), fun j x row h => (by simp at h)⟩
    · iterate 7 rw [Lib.alloc_old _ _ _ (by simp; omega)]
      exact Lib.alloc_old w _ b hb
    · exact hasOld (hasOld (hasOld (hasOld (hasOld (hasOld (hasOld (hasNew _ (by simp)) _) _) _) _) _) _) _
    · exact hasOld (hasOld (hasOld (hasOld (hasOld (hasOld (hasNew _ (by simp)) _) _) _) _) _) _
    · exact hasOld (hasOld (hasOld (hasOld (hasOld (hasNew _ (by simp)) _) _) _) _) _
    · exact hasOld (hasOld (hasOld (hasOld (hasNew _ (by simp)) _) _) _) _
    · exact hasOld (hasOld (hasOld (hasNew _ (by simp)) _) _) _
    · exact hasOld (hasOld (hasNew _ (by simp)) _) _
    · exact hasOld (hasNew _ (by simp)) _
    · exact hasNew _ (by simp)
  have fr : ∀ {s ps i acc vl hd W W'}, LI w n r ps s i acc vl hd W → W'.os = W.os → W'.tape = W.tape → W'.output = W.output → W.heap.size ≤ W'.heap.size → (∀ b, b ≠ w.heap.size + 8 → b ≠ w.heap.size + 9 → W'.heap[b]? = W.heap[b]?) → LI w n r ps s i acc vl hd W' :=
    fun h a b c d e => h.frame a b c d fun k k1 k2 _ => e k k1 k2
  refine range_split (P := Tryd.prog) Tryd.iter_ok (p := 15) (b1 := w.heap.size + 6) (b2 := w.heap.size + 5) (b3 := w.heap.size + 7) (c0 := 10) (s0 := s) rfl (by omega) (by omega) (fun s W => ∃ i acc vl hd, LI w n r (splitB 10 s) s i acc vl hd W)
    (fun W => ∃ s i vl hd, LI w n r [] s i r vl hd W) ?_ ?_ ?_ ?_ ?_ ?_ (fun x => ⟨(strV s :: undef :: .pointer (some ⟨w.heap.size, 0, none⟩) :: .pointer (some ⟨w.heap.size + 1, 0, none⟩) :: .pointer (some ⟨w.heap.size + 2, 0, none⟩) :: .pointer (some ⟨w.heap.size + 3, 0, none⟩) :: .pointer (some ⟨w.heap.size + 4, 0, none⟩) :: strV x :: undef :: undef :: strV s :: .int .i64 s.length :: .bool false :: strV s :: .func (.func 43) #[] #[.pointer (some ⟨w.heap.size + 6, 0, none⟩), .pointer (some ⟨w.heap.size + 5, 0, none⟩), .pointer (some ⟨w.heap.size + 7, 0, none⟩)] :: strV x :: undef :: undef :: undef :: undef :: undef :: undef :: undef :: undef :: undef :: undef :: undef :: undef :: undef :: undef :: undef :: undef :: undef :: undef :: undef :: undef :: undef :: undef :: undef :: undef :: undef :: undef :: []).toArray, []⟩) ?_ ?_ ?_
  · rintro t W b o hb ⟨i, acc, vl, hd, h⟩
    exact ⟨i, acc, vl, hd, fr h rfl rfl rfl (by rw [World.putObj_size]; exact Nat.le_refl _) fun k k1 k2 => World.putObj_heap_other (by omega)⟩
  · rintro W b o hb ⟨t, i, vl, hd, h⟩
    exact ⟨t, i, vl, hd, fr h rfl rfl rfl (by rw [World.putObj_size]; exact Nat.le_refl _) fun k k1 k2 => World.putObj_heap_other (by omega)⟩
  · rintro t W k ⟨i, acc, vl, hd, h⟩
    exact ⟨i, acc, vl, hd, fr h rfl rfl rfl (Nat.le_refl _) fun _ _ _ => rfl⟩
  · rintro W k ⟨t, i, vl, hd, h⟩
    exact ⟨t, i, vl, hd, fr h rfl rfl rfl (Nat.le_refl _) fun _ _ _ => rfl⟩
  · rintro t W ⟨i, acc, vl, hd, h⟩
    have := h.len
    exact ⟨⟨by rw [Lib.cell_of_heap h.c6]; rfl, by rw [Lib.cell_of_heap h.c5]; rfl, by simp [World.frozen?, h.c5]⟩, by rw [Lib.cell_of_heap h.c7]; rfl, by omega⟩
  · intro o1 o2
    refine ⟨0, [], _, [], i0.frame rfl rfl rfl (by simp; omega) fun b _ _ hb => ?_⟩
    rw [Lib.alloc_old _ _ _ (by simp; omega), Lib.alloc_old _ _ _ hb]
  · intro l x W K hK
    refine region_in (fun ⟨_, _, h⟩ => (h : False)) (by kernel_rfl) ?_
    simp only [List.setIfInBounds_toArray, List.set_cons_succ, List.set_cons_zero]
    go_wp2
    exact hK
  · rintro l t x W ⟨i, acc, vl, hd, h⟩ hD hx
    have hps : ∃ ps, splitB 10 t = x :: ps ∧ (∀ rest, t = x ++ 10 :: rest → ps = splitB 10 rest) ∧ (10 ∉ t → ps = []) := by
      rcases hx with ⟨rest, rfl, hx⟩ | ⟨rfl, hx⟩
      · refine ⟨splitB 10 rest, splitB_cut hx, fun rest' e => ?_, fun h => absurd (by simp) h⟩
        rw [List.append_cancel_left e |> List.cons.inj |>.2]
      · exact ⟨[], splitB_no hx, fun rest e => absurd (by rw [e]; simp) hx, fun _ => rfl⟩
    obtain ⟨ps, e1, e2, e3⟩ := hps
    rw [e1] at h
    rw [hsz] at hD ⊢
    refine wpIn_mono (Tryd.lines_body w W n r x ps t i acc vl hd h (by omega) l _ _ _ _ _ _ _ _ _ _ _ _ _ _ _ _ _ _ _ _ _ _ _ _ _ _ _ _ _ _ _ _ _ _ _ _) ?_
    rintro e a W2 hq
    cases e with
    | normal =>
      obtain ⟨⟨q1, q2⟩, acc', vl', hd', h2⟩ := hq
      refine ⟨q1, q2, ⟨by rw [Lib.cell_of_heap h2.c6]; rfl, by rw [Lib.cell_of_heap h2.c5]; rfl, by simp [World.frozen?, h2.c5]⟩, fun rest er => ⟨i + 1, acc', vl', hd', ?_⟩, fun hn => ?_⟩
      · rw [← e2 rest er]
        refine h2.set5 ?_
        have := h2.len
        rw [er] at this
        simp at this
        omega
      · have := e3 hn
        subst this
        have hr : acc' = r := Option.some.inj h2.run
        subst hr
        exact ⟨t, i + 1, vl', hd', h2⟩
    | _ => exact (hq : False).elim
  · rintro W ⟨t, i, vl, hd, h⟩ hdef
    rw [hsz] at hdef ⊢
    obtain ⟨vo, vcap, rfl⟩ : ∃ vo vcap, vl = .slice vo (List.length r) vcap := by
      rcases h.own.2 with ⟨e1, e2⟩ | ⟨g, cap, cur, e1, _⟩
      · exact ⟨none, 0, by rw [e1, e2]⟩
      · exact ⟨_, _, e1⟩
    have c3 : W.cell? ⟨w.heap.size + 3, 0, none⟩ = some (.slice vo (List.length r) vcap) := by rw [Lib.cell_of_heap h.c3]; rfl
    have f0 : W.frozen? ⟨w.heap.size, 0, none⟩ = false := by simp [World.frozen?, h.c0]
    have c0 : W.cell? ⟨w.heap.size, 0, none⟩ = some (.slice none 0 0) := by rw [Lib.cell_of_heap h.c0]; rfl
    have f1 : W.frozen? ⟨w.heap.size + 1, 0, none⟩ = false := by simp [World.frozen?, h.c1]
    have c1 : W.cell? ⟨w.heap.size + 1, 0, none⟩ = some (.int .i64 0) := by rw [Lib.cell_of_heap h.c1]; rfl
    have f2 : W.frozen? ⟨w.heap.size + 2, 0, none⟩ = false := by simp [World.frozen?, h.c2]
    have c2 : W.cell? ⟨w.heap.size + 2, 0, none⟩ = some (.int .i64 0) := by rw [Lib.cell_of_heap h.c2]; rfl
    dsimp only [Exit.inBlock, Exit.then]
    gi_wp2
    obtain ⟨W9, hW9⟩ : ∃ W9, W9 = ((W.setCell ⟨w.heap.size, 0, none⟩ (.slice vo (List.length r) vcap)).setCell ⟨w.heap.size + 1, 0, none⟩ (.int .i64 0)).setCell ⟨w.heap.size + 2, 0, none⟩ (.int .i64 0) := ⟨_, rfl⟩
    rw [← hW9]
    have q : ∀ b, b ≠ w.heap.size → b ≠ w.heap.size + 1 → b ≠ w.heap.size + 2 → W9.heap[b]? = W.heap[b]? := by
      intro b h0 h1 h2
      rw [hW9, heap_setCell_other _ ⟨w.heap.size + 2, 0, none⟩ _ _ h2, heap_setCell_other _ ⟨w.heap.size + 1, 0, none⟩ _ _ h1, heap_setCell_other _ ⟨w.heap.size, 0, none⟩ _ _ h0]
    have q0 : W9.heap[w.heap.size]? = some (.cells #[.slice vo (List.length r) vcap] 34 (0, 0)) := by
      rw [hW9, heap_setCell_other _ ⟨w.heap.size + 2, 0, none⟩ _ _ (by show w.heap.size ≠ w.heap.size + 2; omega), heap_setCell_other _ ⟨w.heap.size + 1, 0, none⟩ _ _ (by show w.heap.size ≠ w.heap.size + 1; omega)]
      exact heap_setCell_same W w.heap.size 0 _ 34 _ h.c0
    have q1 : W9.heap[w.heap.size + 1]? = some (.cells #[.int .i64 0] 3 (0, 0)) := by
      rw [hW9, heap_setCell_other _ ⟨w.heap.size + 2, 0, none⟩ _ _ (by show w.heap.size + 1 ≠ w.heap.size + 2; omega)]
      exact heap_setCell_same _ (w.heap.size + 1) 0 _ 3 _ ((heap_setCell_other _ ⟨w.heap.size, 0, none⟩ _ _ (by show w.heap.size + 1 ≠ w.heap.size; omega)).trans h.c1)
    have q2 : W9.heap[w.heap.size + 2]? = some (.cells #[.int .i64 0] 26 (0, 0)) := by
      rw [hW9]
      exact heap_setCell_same _ (w.heap.size + 2) 0 _ 26 _ ((heap_setCell_other _ ⟨w.heap.size + 1, 0, none⟩ _ _ (by show w.heap.size + 2 ≠ w.heap.size + 1; omega)).trans ((heap_setCell_other _ ⟨w.heap.size, 0, none⟩ _ _ (by show w.heap.size + 2 ≠ w.heap.size; omega)).trans h.c2))
    have hs9 : W9.heap.size = W.heap.size := by rw [hW9]; simp
    have ho9 : W9.os = W.os ∧ W9.tape = W.tape ∧ W9.output = W.output := by rw [hW9]; exact ⟨rfl, rfl, rfl⟩
    have hz := h.sz
    refine ⟨by simp, .inl ⟨w.heap.size + 8, _, rfl, run_takeDeferred ((q _ (by omega) (by omega) (by omega)).trans hdef), ?_⟩⟩
    have p : ∀ b, b ≠ w.heap.size + 8 → (W9.putObj (w.heap.size + 8) (.deferred none)).heap[b]? = W9.heap[b]? := fun b hb => World.putObj_heap_other hb
    have k0 : (W9.putObj (w.heap.size + 8) (.deferred none)).cell? ⟨w.heap.size, 0, none⟩ = some (.slice vo (List.length r) vcap) := by rw [Lib.cell_of_heap ((p _ (by omega)).trans q0)]; rfl
    have k1 : (W9.putObj (w.heap.size + 8) (.deferred none)).cell? ⟨w.heap.size + 1, 0, none⟩ = some (.int .i64 0) := by rw [Lib.cell_of_heap ((p _ (by omega)).trans q1)]; rfl
    have k2 : (W9.putObj (w.heap.size + 8) (.deferred none)).cell? ⟨w.heap.size + 2, 0, none⟩ = some (.int .i64 0) := by rw [Lib.cell_of_heap ((p _ (by omega)).trans q2)]; rfl
    have ps : (W9.putObj (w.heap.size + 8) (.deferred none)).heap.size = W.heap.size := by rw [World.putObj_size, hs9]
    refine ⟨.tuple #[.slice vo (List.length r) vcap, .int .i64 0, .int .i64 0], ?_, _, rfl, ?_, ⟨ho9.1.trans h.os, ho9.2.1.trans h.tape, ho9.2.2.trans h.output, by rw [ps]; omega, fun b hb => ?_⟩⟩
    · clear hW9 q0 q1 q2 q p
      generalize W9.putObj (w.heap.size + 8) (.deferred none) = W10 at k0 k1 k2 ps ⊢
      unfold results
      go_simp
    · have hlen : List.length hd = List.length r := by have := h.own.1; omega
      rcases h.own.2 with ⟨e1, e2⟩ | ⟨g, cap, cur, e1, _, e3, e4, _⟩
      · have : r = [] := List.eq_nil_of_length_eq_zero e2
        subst this
        exact .sl0 _ _ _
      · cases e1
        have hgo := h.out g rfl
        have hglt := (Array.getElem?_eq_some_iff.1 e3).1
        have hat : ∀ (i : Nat) (row : List D), r[i]? = some row → ∃ x d, hd[i]? = some x ∧ row = [d] ∧ Rd (fun b => w.heap.size ≤ b ∧ b < (W9.putObj (w.heap.size + 8) (.deferred none)).heap.size) (W9.putObj (w.heap.size + 8) (.deferred none)) x d := by
          intro i row hi2
          have hi3 := (List.getElem?_eq_some_iff.1 hi2).1
          have hx := List.getElem?_eq_getElem (show i < hd.length by omega)
          obtain ⟨d, e5, e6⟩ := h.each i _ row hx hi2
          refine ⟨_, d, hx, e5, e6.mono (fun b hb => ⟨by omega, by rw [ps]; exact hb.2.1⟩) (fun b hb => (p b (by omega)).trans (q b (by omega) (by omega) (by omega)))⟩
        refine .sl ⟨g, 0, none⟩ vcap 1 r (fun i _ => hd.getD i undef) ⟨by show w.heap.size ≤ g; omega, by rw [ps]; exact hglt⟩ e4 ?_ ?_ ?_
        · intro i row hi2
          obtain ⟨_, _, _, rfl, _⟩ := hat i row hi2
          rfl
        · intro i j row x hi2 hx
          obtain ⟨u, d, hu, rfl, _⟩ := hat i row hi2
          match j, hx with
          | 0, hx =>
            have := h.own.cells (g := g) rfl i u hu
            have hblk := (p g (by omega)).trans (q g (by omega) (by omega) (by omega))
            rw [Nat.mul_one, Nat.add_zero, List.getD_eq_getElem?_getD, hu]
            exact (cell_same (by rw [block_add]; exact hblk)).trans this
        · intro i j row x hi2 hx
          obtain ⟨u, d, hu, rfl, hr⟩ := hat i row hi2
          match j, hx with
          | 0, hx =>
            simp only [List.getElem?_cons_zero, Option.some.injEq] at hx
            subst hx
            rw [List.getD_eq_getElem?_getD, hu]
            exact hr
    · exact (p b (by omega)).trans ((q b (by omega) (by omega) (by omega)).trans (h.low b hb))

theorem lines_callOK (n : Nat) (s : List UInt8) (res : LL × Int × Int) (h : words_Lines n s (fun r0 r1 r2 => some (r0, r1, r2)) = some res) {hl : Nat → Option Ob} : CallOK Tryd.prog 11 [.d (.str s)] hl ⟨.tup [.d (D.sl 1 res.1), .d (D.int .i64 res.2.1), .d (D.int .i64 res.2.2)], [], []⟩ := by
  unfold words_Lines at h
  cases hb : Nat.ble s.length 65536 with
  | false => simp [hb] at h
  | true =>
    simp only [hb, cond_true] at h
    have hrun : ∃ r, lines_r n some (splitB 10 s) 0 [] = some r ∧ res = (r, 0, 0) := by
      have key : ∀ (ps : List (List UInt8)) (i : Int) (acc : LL), lines_r n (fun acc => some (acc, (0 : Int), (0 : Int))) ps i acc = some res → ∃ r, lines_r n some ps i acc = some r ∧ res = (r, 0, 0) := by
        intro ps
        induction ps with
        | nil => intro i acc h; exact ⟨acc, rfl, (Option.some.inj h).symm⟩
        | cons x ps ih =>
          intro i acc h
          replace h : gb true (words_split n x (i + 1) (fun a b => some (a, b))) ([], false) (fun r => bif r.2 && Nat.ble r.1.length 64 then lines_r n (fun acc => some (acc, (0 : Int), (0 : Int))) ps (i + 1) (bif Nat.beq r.1.length 0 then acc else acc ++ [[D.sl 3 r.1]]) else none) = some res := h
          obtain ⟨x1, h1, h2⟩ := gb_some h
          have h2 := h2 rfl
          show ∃ r, gb true (words_split n x (i + 1) (fun a b => some (a, b))) ([], false) (fun r => bif r.2 && Nat.ble r.1.length 64 then lines_r n some ps (i + 1) (bif Nat.beq r.1.length 0 then acc else acc ++ [[D.sl 3 r.1]]) else none) = some r ∧ _
          rw [h2]
          show ∃ r, (bif x1.2 && Nat.ble x1.1.length 64 then lines_r n some ps (i + 1) (bif Nat.beq x1.1.length 0 then acc else acc ++ [[D.sl 3 x1.1]]) else none) = some r ∧ _
          cases e : x1.2 && Nat.ble x1.1.length 64 with
          | false => rw [e] at h1; cases h1
          | true => rw [e] at h1; exact ih _ _ h1
      exact key _ _ _ h
    obtain ⟨r, hr, rfl⟩ := hrun
    refine callOK_hand2 Tryd.func11 (by kernel_rfl) (by kernel_rfl) rfl rfl fun S w args hA => ?_
    obtain ⟨v, rfl, hv⟩ := argsRd_one hA
    obtain ⟨⟨⟨b⟩⟩, hb2, rfl⟩ := hv.str_inv
    simp only at hb2
    subst hb2
    refine (Tryd.lines_calls (Nat.le_of_ble_eq_true hb) hr w).mono fun e w' ⟨v, he, hrd, hbel⟩ => ⟨_, he, ?_, hbel⟩
    refine .tup _ _ rfl fun i x hx => ?_
    match i, hx with
    | 0, hx => simp only [List.getElem?_cons_zero, Option.some.injEq] at hx; subst hx; exact .d _ _ (hrd.mono (fun b h => .inr h) fun _ _ => rfl)
    | 1, hx => simp only [List.getElem?_cons_succ, List.getElem?_cons_zero, Option.some.injEq] at hx; subst hx; exact .d _ _ (.int _ _)
    | 2, hx => simp only [List.getElem?_cons_succ, List.getElem?_cons_zero, Option.some.injEq] at hx; subst hx; exact .d _ _ (.int _ _)
end Go.Vx
/-
  keep_Pick: the pure function
-/
set_option linter.unusedVariables false
namespace Go.Vx
def keep_Pick {R : Type} (n : Nat) (a0 a1 : Int) (K : Int → Option R) : Option R :=
 gb true (nz (IntKind.wrap .u64 a1)) () fun u1 =>
 K (IntKind.wrap .i64 (Int.tmod (IntKind.wrap .u64 a0) (IntKind.wrap .u64 a1)))
end Go.Vx
/-
  keep_Source_Next: the pure function
-/
set_option linter.unusedVariables false
namespace Go.Vx
def keep_Source_Next {R : Type} (n : Nat) (a0_0 : LL) (a0_1 a1 : Int) (K : Int → LL → Int → Option R) : Option R :=
 bif (decide (a0_1 ≥ ((List.length a0_0 : Nat) : Int))) then
  K (0 : Int) a0_0 a0_1
 else
  gb true (rowAt a0_0 (IntKind.wrap .i64 ((IntKind.wrap .i64 (a0_1 + (1 : Int))) - (1 : Int)))) [] fun r1 =>
  gb true (r1[0]?) (.bool false) fun c2 =>
  gb true (pInt .i64 c2) 0 fun i3 =>
  gb true (keep_Pick n i3 a1 some) 0 fun r4 =>
  K r4 a0_0 (IntKind.wrap .i64 (a0_1 + (1 : Int)))
end Go.Vx
/-
  keep_From: the pure function
-/
set_option linter.unusedVariables false
namespace Go.Vx
def keep_From {R : Type} (n : Nat) (a0 : LL) (K : LL → Int → Option R) : Option R :=
 K a0 (0 : Int)
end Go.Vx
/-
  law23_some: the pure function
-/
set_option linter.unusedVariables false
namespace Go.Vx
def law23_some_p1 {R : Type} (n : Nat) (a0 : LL) (k0 : Int → Int → Int → Int → LL → Int → Option R) : Option R :=
 gb true (keep_From n a0 (fun r0 r1 => some (r0, r1))) ([], 0) fun r1 =>
 gb true (keep_Source_Next n r1.1 r1.2 (9000 : Int) (fun r0 r1 r2 => some (r0, r1, r2))) (0, [], 0) fun r2 =>
 gb true (keep_Source_Next n r2.2.1 r2.2.2 (1073741824 : Int) (fun r0 r1 r2 => some (r0, r1, r2))) (0, [], 0) fun r3 =>
 gb true (keep_Source_Next n r3.2.1 r3.2.2 (1073741824 : Int) (fun r0 r1 r2 => some (r0, r1, r2))) (0, [], 0) fun r4 =>
 gb true (keep_Source_Next n r4.2.1 r4.2.2 (10 : Int) (fun r0 r1 r2 => some (r0, r1, r2))) (0, [], 0) fun r5 =>
 k0 r5.1 r2.1 (IntKind.wrap .i64 (r3.1 - (5 : Int))) r4.1 r5.2.1 r5.2.2
def law23_some_p2 {R : Type} (n : Nat) (h18 w13 w14 w15 : Int) (h25 h26 : LL) (h27 : Int) (k0 : Int → LL → LL → Int → Option R) (k1 : Bool → Option R) : Option R :=
 bif (decide (h18 > (0 : Int))) then
  gb true (keep_Source_Next n h26 h27 (900 : Int) (fun r0 r1 r2 => some (r0, r1, r2))) (0, [], 0) fun r35 =>
  gb true (room ((List.length h25 + List.length [[D.int .i64 (IntKind.wrap .i64 (r35.1 - (1 : Int)))]]) * 8)) () fun u36 =>
  k0 (IntKind.wrap .i64 (h18 - (1 : Int))) (h25 ++ [[D.int .i64 (IntKind.wrap .i64 (r35.1 - (1 : Int)))]]) r35.2.1 r35.2.2
 else
  k1 (decide (h18 > (0 : Int)))
def law23_some_r3 {R : Type} (n : Nat) (w13 w14 w15 : Int) (k0 : Int → Bool → LL → LL → Int → Option R) : Nat → Int → LL → LL → Int → Option R
 | 0, _, _, _, _ => none
 | m + 1, h18, h25, h26, h27 =>
  law23_some_p2 n h18 w13 w14 w15 h25 h26 h27
   (fun w42 w43 w44 w45 =>
   law23_some_r3 n w13 w14 w15 k0 m w42 w43 w44 w45)
   (fun w46 =>
   k0 h18 w46 h25 h26 h27)
def law23_some_p4 {R : Type} (n : Nat) (w47 : Int) (w48 : Bool) (w13 w14 w15 : Int) (w49 w50 : LL) (w51 : Int) (k0 : Int → LL → Int → Option R) : Option R :=
 gb true (keep_Source_Next n w50 w51 (4 : Int) (fun r0 r1 r2 => some (r0, r1, r2))) (0, [], 0) fun r52 =>
 k0 r52.1 r52.2.1 r52.2.2
def law23_some_p5 {R : Type} (n : Nat) (h59 w13 w14 w15 : Int) (w49 h67 h68 : LL) (h69 : Int) (k0 : Int → Int → LL → Int → Option R) (k1 : Bool → Option R) : Option R :=
 bif (decide (h59 > (0 : Int))) then
  gb true (keep_Source_Next n h68 h69 (9 : Int) (fun r0 r1 r2 => some (r0, r1, r2))) (0, [], 0) fun r134 =>
  gb true (keep_Source_Next n r134.2.1 r134.2.2 (6 : Int) (fun r0 r1 r2 => some (r0, r1, r2))) (0, [], 0) fun r135 =>
  k0 r135.1 r134.1 r135.2.1 r135.2.2
 else
  k1 (decide (h59 > (0 : Int)))
def law23_some_p6 {R : Type} (n : Nat) (h59 h146 w13 w14 w15 w142 : Int) (w49 h67 h156 h157 h158 : LL) (h159 : Int) (k0 : Int → LL → LL → LL → Int → Option R) (k1 : Bool → Option R) : Option R :=
 bif (decide (h146 > (0 : Int))) then
  gb true (keep_Source_Next n h158 h159 (300 : Int) (fun r0 r1 r2 => some (r0, r1, r2))) (0, [], 0) fun r170 =>
  gb true (room ((List.length h156 + List.length [[D.int .i64 r170.1]]) * 8)) () fun u171 =>
  gb true (keep_Source_Next n r170.2.1 r170.2.2 (2 : Int) (fun r0 r1 r2 => some (r0, r1, r2))) (0, [], 0) fun r172 =>
  gb true (room ((List.length h157 + List.length [[D.int .i64 (IntKind.wrap .i64 ((1 : Int) - (IntKind.wrap .i64 ((2 : Int) * r172.1))))]]) * 8)) () fun u173 =>
  k0 (IntKind.wrap .i64 (h146 - (1 : Int))) (h156 ++ [[D.int .i64 r170.1]]) (h157 ++ [[D.int .i64 (IntKind.wrap .i64 ((1 : Int) - (IntKind.wrap .i64 ((2 : Int) * r172.1))))]]) r172.2.1 r172.2.2
 else
  k1 (decide (h146 > (0 : Int)))
def law23_some_r7 {R : Type} (n : Nat) (h59 w13 w14 w15 w142 : Int) (w49 h67 : LL) (k0 : Int → Bool → LL → LL → LL → Int → Option R) : Nat → Int → LL → LL → LL → Int → Option R
 | 0, _, _, _, _, _ => none
 | m + 1, h146, h156, h157, h158, h159 =>
  law23_some_p6 n h59 h146 w13 w14 w15 w142 w49 h67 h156 h157 h158 h159
   (fun w180 w181 w182 w183 w184 =>
   law23_some_r7 n h59 w13 w14 w15 w142 w49 h67 k0 m w180 w181 w182 w183 w184)
   (fun w185 =>
   k0 h146 w185 h156 h157 h158 h159)
def law23_some_p8 {R : Type} (n : Nat) (h59 w186 : Int) (w187 : Bool) (w13 w14 w15 w142 : Int) (w49 h67 w188 w189 w190 : LL) (w191 : Int) (k0 : Int → LL → Option R) : Option R :=
 gb true (room ((List.length h67 + List.length [[D.sl 1 w188, D.sl 1 w189, D.int .i64 w142]]) * 56)) () fun u192 =>
 k0 (IntKind.wrap .i64 (h59 - (1 : Int))) (h67 ++ [[D.sl 1 w188, D.sl 1 w189, D.int .i64 w142]])
def law23_some_p9 {R : Type} (n : Nat) (h59 w13 w14 w15 : Int) (w49 h67 h68 : LL) (h69 : Int) (k0 : Int → LL → LL → Int → Option R) (k1 : Bool → Option R) : Option R :=
 law23_some_p5 n h59 w13 w14 w15 w49 h67 h68 h69
  (fun w141 w142 w143 w144 =>
  law23_some_r7 n h59 w13 w14 w15 w142 w49 h67
   (fun w186 w187 w188 w189 w190 w191 =>
   law23_some_p8 n h59 w186 w187 w13 w14 w15 w142 w49 h67 w188 w189 w190 w191
    (fun w195 w196 =>
    k0 w195 w196 w190 w191))
   n w141 [] [] w143 w144)
  (fun w197 =>
  k1 w197)
def law23_some_r10 {R : Type} (n : Nat) (w13 w14 w15 : Int) (w49 : LL) (k0 : Int → Bool → LL → LL → Int → Option R) : Nat → Int → LL → LL → Int → Option R
 | 0, _, _, _, _ => none
 | m + 1, h59, h67, h68, h69 =>
  law23_some_p9 n h59 w13 w14 w15 w49 h67 h68 h69
   (fun w198 w199 w200 w201 =>
   law23_some_r10 n w13 w14 w15 w49 k0 m w198 w199 w200 w201)
   (fun w202 =>
   k0 h59 w202 h67 h68 h69)
def law23_some_p11 {R : Type} (n : Nat) (w203 : Int) (w204 : Bool) (w13 w14 w15 : Int) (w49 w205 w206 : LL) (w207 : Int) (k0 : Option R) : Option R :=
 k0
def law23_some_p12 {R : Type} (n : Nat) (a0 : LL) (k0 : Int → Int → Int → LL → LL → Option R) : Option R :=
 law23_some_p1 n a0
  (fun w12 w13 w14 w15 w16 w17 =>
  law23_some_r3 n w13 w14 w15
   (fun w47 w48 w49 w50 w51 =>
   law23_some_p4 n w47 w48 w13 w14 w15 w49 w50 w51
    (fun w56 w57 w58 =>
    law23_some_r10 n w13 w14 w15 w49
     (fun w203 w204 w205 w206 w207 =>
     law23_some_p11 n w203 w204 w13 w14 w15 w49 w205 w206 w207
      (k0 w13 w14 w15 w49 w205))
     n w56 [] w57 w58))
   n w12 [] w16 w17)
def law23_some {R : Type} (n : Nat) (a0 : LL) (K : Int → LL → Int → Int → LL → Option R) : Option R :=
 law23_some_p12 n a0
  (fun w13 w14 w15 w49 w205 => K w13 w49 w14 w15 w205)
end Go.Vx
/-
  Plain law: what 'some' makes.
-/
set_option linter.unusedSimpArgs false
set_option linter.unusedVariables false
namespace Go.Vx

theorem wrapU_nonneg (x : Int) : 0 ≤ IntKind.wrap .u64 x := by
  have := Int.emod_nonneg x (show (18446744073709551616 : Int) ≠ 0 by decide)
  simpa [IntKind.wrap, IntKind.bits, IntKind.signed] using this
theorem wrapU_id {x : Int} (h0 : 0 ≤ x) (h1 : x < 18446744073709551616) : IntKind.wrap .u64 x = x := by
  have := Int.emod_eq_of_lt h0 h1
  simpa [IntKind.wrap, IntKind.bits, IntKind.signed] using this

def pick (v m : Int) : Int := (IntKind.wrap .u64 v).tmod m
theorem pick_range (v : Int) {m : Int} (h : 0 < m) : 0 ≤ pick v m ∧ pick v m < m := by
  unfold pick
  rw [Int.tmod_eq_emod_of_nonneg (wrapU_nonneg v)]
  exact ⟨Int.emod_nonneg _ (by omega), Int.emod_lt_of_pos _ h⟩

theorem pickA {R : Type} (n : Nat) (v : Int) {m : Int} (h : 0 < m) (hm : m ≤ 9223372036854775807) (K : Int → Option R) : keep_Pick n v m K = K (pick v m) := by
  unfold keep_Pick
  rw [wrapU_id (x := m) (by omega) (by omega), nz_ok (by omega)]
  simp -implicitDefEqProofs only [gb_some_eq]
  have := pick_range v h
  unfold pick at this ⊢
  rw [wrap64' (by omega) (by omega)]

theorem nextA (n : Nat) {l : List Int} (hl : l.length ≤ 9223372036854775807) {i : Nat} (hi : i ≤ l.length) {m : Int} (h : 0 < m) (hm : m ≤ 9223372036854775807) :
    ∃ (v : Int) (j : Nat), 0 ≤ v ∧ v < m ∧ j ≤ l.length ∧ ∀ (R : Type) (K : Int → List (List D) → Int → Option R), keep_Source_Next n (encI l) i m K = K v (encI l) j := by
  by_cases hlt : i < l.length
  · have hg := List.getElem?_eq_getElem hlt
    refine ⟨pick l[i] m, i + 1, (pick_range _ h).1, (pick_range _ h).2, by omega, fun R K => ?_⟩
    unfold keep_Source_Next
    rw [bif_neg (by simp [encI_length]; omega), wrap64' (x := (i : Int) + 1) (by omega) (by omega), wrap64' (by omega) (by omega)]
    rw [show (i : Int) + 1 - 1 = (i : Int) by omega, encI_get hg]
    simp -implicitDefEqProofs only [gb_some_eq, List.getElem?_cons_zero, pInt_i64, pickA n _ h hm]
    rfl
  · refine ⟨0, i, by omega, h, hi, fun R K => ?_⟩
    unfold keep_Source_Next
    rw [bif_pos (by simp [encI_length]; omega)]

theorem encI_app (l : List Int) (x : Int) : encI l ++ [[D.int .i64 x]] = encI (l ++ [x]) := by simp [encI]
theorem wdec (c : Nat) (hc : c ≤ 1000) : IntKind.wrap .i64 (((c + 1 : Nat) : Int) - 1) = (c : Int) := by rw [wrap64' (by omega) (by omega)]; omega

theorem some_r3 (n : Nat) {l : List Int} (hl : l.length ≤ 9223372036854775807) (w13 w14 w15 : Int) : ∀ (c m i : Nat) (ts : List Int), c < m → ts.length + c ≤ 100 → i ≤ l.length → (∀ x ∈ ts, -1 ≤ x ∧ x < 900) →
    ∃ (ts' : List Int) (j : Nat), ts'.length = ts.length + c ∧ j ≤ l.length ∧ (∀ x ∈ ts', -1 ≤ x ∧ x < 900) ∧ ∀ (R : Type) (k0 : Int → Bool → LL → LL → Int → Option R), law23_some_r3 n w13 w14 w15 k0 m (c : Int) (encI ts) (encI l) (i : Int) = k0 0 false (encI ts') (encI l) (j : Int)
  | 0, m + 1, i, ts, _, _, hi, hts => ⟨ts, i, rfl, hi, hts, fun R k0 => rfl⟩
  | c + 1, m + 1, i, ts, hm, hc, hi, hts => by
    obtain ⟨v, j, v0, v1, hj, hN⟩ := nextA n hl hi (m := 900) (by decide) (by decide)
    obtain ⟨ts', j', e1, e2, e3, e4⟩ := some_r3 n hl w13 w14 w15 c m j (ts ++ [v - 1]) (by omega) (by simp; omega) hj (fun x hx => by
      rcases List.mem_append.1 hx with hx | hx
      · exact hts x hx
      · simp only [List.mem_singleton] at hx; omega)
    refine ⟨ts', j', by simp at e1; omega, e2, e3, fun R k0 => ?_⟩
    rw [law23_some_r3, law23_some_p2, bif_pos (by simp), hN]
    simp -implicitDefEqProofs only [gb_some_eq]
    rw [room_ok (by simp [encI_length]; omega)]
    simp -implicitDefEqProofs only [gb_some_eq]
    rw [wdec c (by omega), wrap64' (x := v - 1) (by omega) (by omega), encI_app]
    exact e4 R k0

def okA (al sl : List Int) : Prop := (∀ a ∈ al, 0 ≤ a ∧ a < 300) ∧ (∀ s ∈ sl, s = 1 ∨ s = -1)

theorem some_r7 (n : Nat) {l : List Int} (hl : l.length ≤ 9223372036854775807) (h59 w13 w14 w15 w142 : Int) (w49 h67 : LL) : ∀ (c m i : Nat) (al sl : List Int), c < m → al.length + c ≤ 100 → sl.length = al.length → i ≤ l.length → okA al sl →
    ∃ (al' sl' : List Int) (j : Nat), al'.length = al.length + c ∧ sl'.length = al'.length ∧ j ≤ l.length ∧ okA al' sl' ∧ ∀ (R : Type) (k0 : Int → Bool → LL → LL → LL → Int → Option R),
      law23_some_r7 n h59 w13 w14 w15 w142 w49 h67 k0 m (c : Int) (encI al) (encI sl) (encI l) (i : Int) = k0 0 false (encI al') (encI sl') (encI l) (j : Int)
  | 0, m + 1, i, al, sl, _, _, hs, hi, ho => ⟨al, sl, i, rfl, hs, hi, ho, fun R k0 => rfl⟩
  | c + 1, m + 1, i, al, sl, hm, hc, hs, hi, ho => by
    obtain ⟨v, j, v0, v1, hj, hN⟩ := nextA n hl hi (m := 300) (by decide) (by decide)
    obtain ⟨u, j2, u0, u1, hj2, hN2⟩ := nextA n hl hj (m := 2) (by decide) (by decide)
    have hu : u = 0 ∨ u = 1 := by omega
    obtain ⟨al', sl', j', e0, e1, e2, e3, e4⟩ := some_r7 n hl h59 w13 w14 w15 w142 w49 h67 c m j2 (al ++ [v]) (sl ++ [1 - 2 * u]) (by omega) (by simp; omega) (by simp; omega) hj2 ⟨fun x hx => by
        rcases List.mem_append.1 hx with hx | hx
        · exact ho.1 x hx
        · simp only [List.mem_singleton] at hx; omega, fun x hx => by
        rcases List.mem_append.1 hx with hx | hx
        · exact ho.2 x hx
        · simp only [List.mem_singleton] at hx; omega⟩
    refine ⟨al', sl', j', by simp at e0; omega, e1, e2, e3, fun R k0 => ?_⟩
    rw [law23_some_r7, law23_some_p6, bif_pos (by simp), hN]
    simp -implicitDefEqProofs only [gb_some_eq]
    rw [room_ok (by simp [encI_length]; omega), hN2]
    simp -implicitDefEqProofs only [gb_some_eq]
    rw [room_ok (by simp [encI_length]; omega)]
    simp -implicitDefEqProofs only [gb_some_eq]
    rw [wdec c (by omega), wrap64' (x := 2 * u) (by omega) (by omega), wrap64' (x := 1 - 2 * u) (by omega) (by omega), encI_app, encI_app]
    exact e4 R k0

def encP (ps : List (List Int × List Int × Int)) : LL := ps.map fun q => [D.sl 1 (encI q.1), D.sl 1 (encI q.2.1), D.int .i64 q.2.2]
theorem encP_app (ps : List (List Int × List Int × Int)) (a s : List Int) (x : Int) : encP ps ++ [[D.sl 1 (encI a), D.sl 1 (encI s), D.int .i64 x]] = encP (ps ++ [(a, s, x)]) := by simp [encP]
def okP (q : List Int × List Int × Int) : Prop := q.1.length ≤ 5 ∧ q.2.1.length = q.1.length ∧ okA q.1 q.2.1 ∧ 0 ≤ q.2.2 ∧ q.2.2 < 9

theorem some_r10 (n : Nat) (hn : 10 ≤ n) {l : List Int} (hl : l.length ≤ 9223372036854775807) (w13 w14 w15 : Int) (w49 : LL) : ∀ (c m i : Nat) (ps : List (List Int × List Int × Int)), c < m → ps.length + c ≤ 100 → i ≤ l.length → (∀ q ∈ ps, okP q) →
    ∃ (ps' : List (List Int × List Int × Int)) (j : Nat), ps'.length = ps.length + c ∧ j ≤ l.length ∧ (∀ q ∈ ps', okP q) ∧ ∀ (R : Type) (k0 : Int → Bool → LL → LL → Int → Option R),
      law23_some_r10 n w13 w14 w15 w49 k0 m (c : Int) (encP ps) (encI l) (i : Int) = k0 0 false (encP ps') (encI l) (j : Int)
  | 0, m + 1, i, ps, _, _, hi, ho => ⟨ps, i, rfl, hi, ho, fun R k0 => rfl⟩
  | c + 1, m + 1, i, ps, hm, hc, hi, ho => by
    obtain ⟨v, j, v0, v1, hj, hN⟩ := nextA n hl hi (m := 9) (by decide) (by decide)
    obtain ⟨u, j2, u0, u1, hj2, hN2⟩ := nextA n hl hj (m := 6) (by decide) (by decide)
    obtain ⟨cu, rfl⟩ := Int.eq_ofNat_of_zero_le u0
    obtain ⟨al, sl, j3, a1, a2, a3, a4, a5⟩ := some_r7 n hl ((c + 1 : Nat) : Int) w13 w14 w15 v w49 (encP ps) cu n j2 [] [] (by omega) (by simp; omega) rfl hj2 ⟨by simp, by simp⟩
    have hq : okP (al, sl, v) := ⟨by simp at a1; show al.length ≤ 5; omega, a2, a4, v0, v1⟩
    obtain ⟨ps', j', e1, e2, e3, e4⟩ := some_r10 n hn hl w13 w14 w15 w49 c m j3 (ps ++ [(al, sl, v)]) (by omega) (by simp; omega) a3 (fun x hx => by
      rcases List.mem_append.1 hx with hx | hx
      · exact ho x hx
      · simp only [List.mem_singleton] at hx; rw [hx]; exact hq)
    refine ⟨ps', j', by simp at e1; omega, e2, e3, fun R k0 => ?_⟩
    rw [law23_some_r10, law23_some_p9, law23_some_p5, bif_pos (by simp), hN]
    simp -implicitDefEqProofs only [gb_some_eq]
    rw [hN2]
    simp -implicitDefEqProofs only [gb_some_eq]
    have a5' := a5
    rw [show encI ([] : List Int) = [] from rfl] at a5'
    rw [a5']
    simp -implicitDefEqProofs only [law23_some_p8]
    rw [room_ok (by simp [encP]; omega)]
    simp -implicitDefEqProofs only [gb_some_eq]
    rw [wdec c (by omega), encP_app]
    exact e4 R k0

/-- What 'some' makes. -/
structure SomeT where
  per : Int
  times : List Int
  cost : Int
  bound : Int
  parts : List (List Int × List Int × Int)
  p0 : 0 ≤ per ∧ per < 9000
  c0 : -5 ≤ cost ∧ cost < 1073741824
  b0 : 0 ≤ bound ∧ bound < 1073741824
  t0 : times.length ≤ 9 ∧ ∀ x ∈ times, -1 ≤ x ∧ x < 900
  q0 : parts.length ≤ 3 ∧ ∀ q ∈ parts, okP q

theorem some_law (n : Nat) (hn : 20 ≤ n) {l : List Int} (hl : l.length ≤ 9223372036854775807) : ∃ t : SomeT, ∀ (R : Type) (K : Int → LL → Int → Int → LL → Option R), law23_some n (encI l) K = K t.per (encI t.times) t.cost t.bound (encP t.parts) := by
  obtain ⟨v1, j1, a1, b1, i1, N1⟩ := nextA n hl (Nat.zero_le _) (m := 9000) (by decide) (by decide)
  obtain ⟨v2, j2, a2, b2, i2, N2⟩ := nextA n hl i1 (m := 1073741824) (by decide) (by decide)
  obtain ⟨v3, j3, a3, b3, i3, N3⟩ := nextA n hl i2 (m := 1073741824) (by decide) (by decide)
  obtain ⟨v4, j4, a4, b4, i4, N4⟩ := nextA n hl i3 (m := 10) (by decide) (by decide)
  obtain ⟨c4, rfl⟩ := Int.eq_ofNat_of_zero_le a4
  obtain ⟨ts, j5, t1, t2, t3, t4⟩ := some_r3 n hl v1 (v2 - 5) v3 c4 n j4 [] (by omega) (by simp; omega) i4 (by simp)
  obtain ⟨v6, j6, a6, b6, i6, N6⟩ := nextA n hl t2 (m := 4) (by decide) (by decide)
  obtain ⟨c6, rfl⟩ := Int.eq_ofNat_of_zero_le a6
  obtain ⟨ps, j7, p1, p2, p3, p4⟩ := some_r10 n (by omega) hl v1 (v2 - 5) v3 (encI ts) c6 n j6 [] (by omega) (by simp; omega) i6 (by simp)
  refine ⟨⟨v1, ts, v2 - 5, v3, ps, ⟨a1, b1⟩, by omega, ⟨a3, b3⟩, ⟨by simp at t1; omega, t3⟩, ⟨by simp at p1; omega, p3⟩⟩, fun R K => ?_⟩
  unfold law23_some law23_some_p12 law23_some_p1 keep_From
  simp -implicitDefEqProofs only [gb_some_eq]
  rw [show (0 : Int) = ((0 : Nat) : Int) from rfl, N1]
  simp -implicitDefEqProofs only [gb_some_eq]
  rw [N2]
  simp -implicitDefEqProofs only [gb_some_eq]
  rw [N3]
  simp -implicitDefEqProofs only [gb_some_eq]
  rw [N4]
  simp -implicitDefEqProofs only [gb_some_eq]
  rw [wrap64' (x := v2 - 5) (by omega) (by omega)]
  rw [show encI ([] : List Int) = [] from rfl] at t4
  rw [t4]
  simp -implicitDefEqProofs only [law23_some_p4]
  rw [N6]
  simp -implicitDefEqProofs only [gb_some_eq]
  rw [show encP [] = [] from rfl] at p4
  rw [p4]
  rfl
end Go.Vx
/-
  ref1_plain: the pure function
-/
set_option linter.unusedVariables false
namespace Go.Vx
def ref1_plain {R : Type} (n : Nat) (a0 : Int) (K : Bool → Option R) : Option R :=
 K (bif (bif (decide (a0 ≥ (33 : Int))) then (decide (a0 ≤ (126 : Int))) else false) then (a0 != (35 : Int)) else false)
end Go.Vx
/-
  ref1_Join: the pure function
-/
set_option linter.unusedVariables false
namespace Go.Vx
def ref1_Join_p1 {R : Type} (n : Nat) (a0 : LL) (k0 : Option R) : Option R :=
 k0
def ref1_Join_p2 {R : Type} (n : Nat) (a0 : LL) (h2 : List UInt8) (h3 : Int) (k0 : Option R) (k1 : Option R) (k2 : Bool → Option R) : Option R :=
 bif (decide (h3 < ((List.length a0 : Nat) : Int))) then
  gb true (rowAt a0 h3) [] fun r189 =>
  gb true (r189[0]?) (.bool false) fun c190 =>
  gb true (pSl 1 c190) [] fun l191 =>
  gb (!(decide (((List.length l191 : Nat) : Int) < (1 : Int)))) (rowAt a0 h3) [] fun r192 =>
  gb (!(decide (((List.length l191 : Nat) : Int) < (1 : Int)))) (r192[0]?) (.bool false) fun c193 =>
  gb (!(decide (((List.length l191 : Nat) : Int) < (1 : Int)))) (pSl 1 c193) [] fun l194 =>
  bif (bif (decide (((List.length l191 : Nat) : Int) < (1 : Int))) then true else (decide (((List.length l194 : Nat) : Int) > (64 : Int)))) then
   k0
  else
   k1
 else
  k2 (decide (h3 < ((List.length a0 : Nat) : Int)))
def ref1_Join_p3 {R : Type} (n : Nat) (a0 : LL) (h197 : List UInt8) (h3 h199 : Int) (k0 : Option R) (k1 : Option R) (k2 : Bool → Option R) : Option R :=
 gb true (rowAt a0 h3) [] fun r281 =>
 gb true (r281[0]?) (.bool false) fun c282 =>
 gb true (pSl 1 c282) [] fun l283 =>
 bif (decide (h199 < ((List.length l283 : Nat) : Int))) then
  gb true (rowAt a0 h3) [] fun r284 =>
  gb true (r284[0]?) (.bool false) fun c285 =>
  gb true (pSl 1 c285) [] fun l286 =>
  gb true (rowAt l286 h199) [] fun r287 =>
  gb true (r287[0]?) (.bool false) fun c288 =>
  gb true (pStr c288) [] fun s289 =>
  bif (decide (((List.length s289 : Nat) : Int) < (1 : Int))) then
   k0
  else
   k1
 else
  k2 (decide (h199 < ((List.length l283 : Nat) : Int)))
def ref1_Join_p4 {R : Type} (n : Nat) (a0 : LL) (h197 : List UInt8) (h3 h199 h295 : Int) (k0 : Option R) (k1 : Int → Option R) (k2 : Bool → Option R) : Option R :=
 gb true (rowAt a0 h3) [] fun r312 =>
 gb true (r312[0]?) (.bool false) fun c313 =>
 gb true (pSl 1 c313) [] fun l314 =>
 gb true (rowAt l314 h199) [] fun r315 =>
 gb true (r315[0]?) (.bool false) fun c316 =>
 gb true (pStr c316) [] fun s317 =>
 bif (decide (h295 < ((List.length s317 : Nat) : Int))) then
  gb true (rowAt a0 h3) [] fun r318 =>
  gb true (r318[0]?) (.bool false) fun c319 =>
  gb true (pSl 1 c319) [] fun l320 =>
  gb true (rowAt l320 h199) [] fun r321 =>
  gb true (r321[0]?) (.bool false) fun c322 =>
  gb true (pStr c322) [] fun s323 =>
  gb true (byteAt s323 h295) 0 fun i324 =>
  gb true (ref1_plain n i324 some) false fun r325 =>
  bif (!r325) then
   k0
  else
   k1 (IntKind.wrap .i64 (h295 + (1 : Int)))
 else
  k2 (decide (h295 < ((List.length s317 : Nat) : Int)))
def ref1_Join_r5 {R : Type} (n : Nat) (a0 : LL) (h197 : List UInt8) (h3 h199 : Int) (k0 : Option R) (k1 : Int → Bool → Option R) : Nat → Int → Option R
 | 0, _ => none
 | m + 1, h295 =>
  ref1_Join_p4 n a0 h197 h3 h199 h295
   (k0)
   (fun w328 =>
   ref1_Join_r5 n a0 h197 h3 h199 k0 k1 m w328)
   (fun w329 =>
   k1 h295 w329)
def ref1_Join_p6 {R : Type} (n : Nat) (a0 : LL) (h197 : List UInt8) (h3 h199 w330 : Int) (w331 : Bool) (k0 : Option R) : Option R :=
 k0
def ref1_Join_p7 {R : Type} (n : Nat) (a0 : LL) (h197 : List UInt8) (h3 h199 w330 : Int) (w331 : Bool) (k0 : (List UInt8) → Option R) (k1 : Bool → Option R) : Option R :=
 bif (decide (h199 > (0 : Int))) then
  gb true (sumOk (List.length h197 + List.length (bs [32]))) () fun u332 =>
  k0 (h197 ++ (bs [32]))
 else
  k1 (decide (h199 > (0 : Int)))
def ref1_Join_p8 {R : Type} (n : Nat) (a0 : LL) (w335 : List UInt8) (h3 h199 : Int) (k0 : (List UInt8) → Int → Option R) : Option R :=
 gb true (rowAt a0 h3) [] fun r336 =>
 gb true (r336[0]?) (.bool false) fun c337 =>
 gb true (pSl 1 c337) [] fun l338 =>
 gb true (rowAt l338 h199) [] fun r339 =>
 gb true (r339[0]?) (.bool false) fun c340 =>
 gb true (pStr c340) [] fun s341 =>
 gb true (sumOk (List.length w335 + List.length s341)) () fun u342 =>
 k0 (w335 ++ s341) (IntKind.wrap .i64 (h199 + (1 : Int)))
def ref1_Join_p9 {R : Type} (n : Nat) (a0 : LL) (h197 : List UInt8) (h3 h199 : Int) (w347 : Bool) (k0 : (List UInt8) → Int → Option R) : Option R :=
 gb true (rowAt a0 h3) [] fun r348 =>
 gb true (r348[0]?) (.bool false) fun c349 =>
 gb true (pSl 1 c349) [] fun l350 =>
 gb true (rowAt l350 h199) [] fun r351 =>
 gb true (r351[0]?) (.bool false) fun c352 =>
 gb true (pStr c352) [] fun s353 =>
 gb true (sumOk (List.length h197 + List.length s353)) () fun u354 =>
 k0 (h197 ++ s353) (IntKind.wrap .i64 (h199 + (1 : Int)))
def ref1_Join_p10 {R : Type} (n : Nat) (a0 : LL) (h197 : List UInt8) (h3 h199 : Int) (k0 : Option R) (k1 : (List UInt8) → Int → Option R) (k2 : Bool → Option R) : Option R :=
 ref1_Join_p3 n a0 h197 h3 h199
  (k0)
  (ref1_Join_r5 n a0 h197 h3 h199
   (k0)
   (fun w330 w331 =>
   ref1_Join_p6 n a0 h197 h3 h199 w330 w331
    (ref1_Join_p7 n a0 h197 h3 h199 w330 w331
     (fun w335 =>
     ref1_Join_p8 n a0 w335 h3 h199
      (fun w345 w346 =>
      k1 w345 w346))
     (fun w347 =>
     ref1_Join_p9 n a0 h197 h3 h199 w347
      (fun w357 w358 =>
      k1 w357 w358))))
   n (0 : Int))
  (fun w359 =>
  k2 w359)
def ref1_Join_r11 {R : Type} (n : Nat) (a0 : LL) (h3 : Int) (k0 : Option R) (k1 : (List UInt8) → Int → Bool → Option R) : Nat → (List UInt8) → Int → Option R
 | 0, _, _ => none
 | m + 1, h197, h199 =>
  ref1_Join_p10 n a0 h197 h3 h199
   (k0)
   (fun w362 w363 =>
   ref1_Join_r11 n a0 h3 k0 k1 m w362 w363)
   (fun w364 =>
   k1 h197 h199 w364)
def ref1_Join_p12 {R : Type} (n : Nat) (a0 : LL) (w365 : List UInt8) (h3 w366 : Int) (w367 : Bool) (k0 : (List UInt8) → Int → Option R) : Option R :=
 gb true (sumOk (List.length w365 + List.length (bs [10]))) () fun u368 =>
 k0 (w365 ++ (bs [10])) (IntKind.wrap .i64 (h3 + (1 : Int)))
def ref1_Join_p13 {R : Type} (n : Nat) (a0 : LL) (h2 : List UInt8) (h3 : Int) (k0 : Option R) (k1 : (List UInt8) → Int → Option R) (k2 : Bool → Option R) : Option R :=
 ref1_Join_p2 n a0 h2 h3
  (k0)
  (ref1_Join_r11 n a0 h3
   (k0)
   (fun w365 w366 w367 =>
   ref1_Join_p12 n a0 w365 h3 w366 w367
    (fun w371 w372 =>
    k1 w371 w372))
   n h2 (0 : Int))
  (fun w373 =>
  k2 w373)
def ref1_Join_r14 {R : Type} (n : Nat) (a0 : LL) (k0 : Option R) (k1 : (List UInt8) → Int → Bool → Option R) : Nat → (List UInt8) → Int → Option R
 | 0, _, _ => none
 | m + 1, h2, h3 =>
  ref1_Join_p13 n a0 h2 h3
   (k0)
   (fun w374 w375 =>
   ref1_Join_r14 n a0 k0 k1 m w374 w375)
   (fun w376 =>
   k1 h2 h3 w376)
def ref1_Join_p15 {R : Type} (n : Nat) (a0 : LL) (w377 : List UInt8) (w378 : Int) (w379 : Bool) (k0 : Option R) : Option R :=
 k0
def ref1_Join_p16 {R : Type} (n : Nat) (a0 : LL) (k0 : (List UInt8) → Option R) : Option R :=
 ref1_Join_p1 n a0
  (ref1_Join_r14 n a0
   (k0 [])
   (fun w377 w378 w379 =>
   ref1_Join_p15 n a0 w377 w378 w379
    (k0 w377))
   n [] (0 : Int))
def ref1_Join {R : Type} (n : Nat) (a0 : LL) (K : (List UInt8) → Option R) : Option R :=
 ref1_Join_p16 n a0
  (fun z380 => K z380)
end Go.Vx
/-
  Plain law: both Joins give the same text.
-/
set_option linter.unusedSimpArgs false
set_option linter.unusedVariables false
namespace Go.Vx

def isPart (b : UInt8) : Prop := 33 ≤ b.toNat ∧ b.toNat ≤ 126 ∧ b.toNat ≠ 35
def okW (s : List UInt8) : Prop := s ≠ [] ∧ s.length ≤ 100 ∧ ∀ b ∈ s, isPart b
def okL (l : List (List UInt8)) : Prop := l ≠ [] ∧ l.length ≤ 64 ∧ ∀ s ∈ l, okW s
def encW (l : List (List UInt8)) : LL := l.map fun s => [D.str s]
def encL (ll : List (List (List UInt8))) : LL := ll.map fun l => [D.sl 1 (encW l)]
def tailS (l : List (List UInt8)) : List UInt8 := l.flatMap fun s => 32 :: s
def inter : List (List UInt8) → List UInt8
  | [] => []
  | s :: l => s ++ tailS l
def txt (ll : List (List (List UInt8))) : List UInt8 := ll.flatMap fun l => inter l ++ [10]

theorem encW_len (l : List (List UInt8)) : (encW l).length = l.length := by simp [encW]
theorem encL_len (l : List (List (List UInt8))) : (encL l).length = l.length := by simp [encL]
theorem encW_get {l : List (List UInt8)} {i : Nat} {s : List UInt8} (h : l[i]? = some s) : rowAt (encW l) (i : Int) = some [D.str s] := rowAt_get h
theorem encL_get {l : List (List (List UInt8))} {i : Nat} {s : List (List UInt8)} (h : l[i]? = some s) : rowAt (encL l) (i : Int) = some [D.sl 1 (encW s)] := rowAt_get h
theorem winc {i k : Nat} (h : i < k) (hk : k ≤ 1000000000) : IntKind.wrap .i64 ((i : Int) + 1) = ((i + 1 : Nat) : Int) := by rw [wrap64' (by omega) (by omega)]; omega
theorem byte_get {s : List UInt8} {i : Nat} {b : UInt8} (h : s[i]? = some b) : byteAt s (i : Int) = some (b.toNat : Int) := by simp [byteAt, h]
theorem rowsB_app (a b : List UInt8) : rowsB a ++ rowsB b = rowsB (a ++ b) := by simp [rowsB]
theorem rowsB_len (a : List UInt8) : (rowsB a).length = a.length := by simp [rowsB]
theorem sumOk_ok {n : Nat} (h : n ≤ 9223372036854775807) : sumOk n = some () := by
  unfold sumOk; rw [Nat.ble_eq_true_of_le h]; rfl
theorem dlt {i k : Nat} (h : i < k) : decide ((i : Int) < (k : Int)) = true := by simp; omega
theorem dge {i k : Nat} (h : ¬ i < k) : decide ((i : Int) < (k : Int)) = false := by simp; omega
theorem drop_at {α : Type} {l : List α} {i : Nat} {a : α} {r : List α} (h : l.drop i = a :: r) : l[i]? = some a ∧ l.drop (i + 1) = r ∧ i < l.length := drop_cons h

theorem class_part {R : Type} (n : Nat) {b : UInt8} (h : isPart b) (K : Int → Option R) : words_class n (b.toNat : Int) K = K 4 := by
  obtain ⟨h1, h2, h3⟩ := h
  unfold words_class words_class_p7 words_class_p1 words_class_p5 words_class_p2 words_class_p3
  have e1 : ((b.toNat : Int) == 32) = false := by simp; omega
  have e2 : ((b.toNat : Int) == 9) = false := by simp; omega
  have e3 : ((b.toNat : Int) == 10) = false := by simp; omega
  have e4 : ((b.toNat : Int) == 35) = false := by simp; omega
  have e5 : (bif decide ((b.toNat : Int) ≥ 33) then decide ((b.toNat : Int) ≤ 126) else false) = true := by simp; omega
  rw [e1, e2]
  simp only [cond_false]
  unfold words_class_p4
  rw [e3, e4, e5]
  rfl
theorem class_space {R : Type} (n : Nat) (K : Int → Option R) : words_class n (32 : Int) K = K 1 := rfl

theorem isWord_loop {R : Type} (n : Nat) (s : List UInt8) (hs : s.length ≤ 1000) (hp : ∀ b ∈ s, isPart b) (k0 : Option R) (k1 : Int → Bool → Option R) : ∀ (suf : List UInt8) (m i : Nat), suf.length < m → s.drop i = suf → i ≤ s.length →
    words_isWord_r3 n s (s.length : Int) k0 k1 m (i : Int) = k1 (s.length : Int) false
  | [], m + 1, i, _, hd, hi => by
    have hi2 : i = s.length := by have := drop_nil hd; omega
    subst hi2
    rw [words_isWord_r3, words_isWord_p2, dge (by omega)]
    rfl
  | b :: suf, m + 1, i, hm, hd, hi => by
    obtain ⟨g, hd2, hlt⟩ := drop_at hd
    have hb := hp b (List.mem_of_getElem? g)
    rw [words_isWord_r3, words_isWord_p2, dlt hlt]
    simp -implicitDefEqProofs only [cond_true, byte_get g, gb_some_eq, class_part n hb]
    rw [winc hlt (by omega)]
    exact isWord_loop n s hs hp k0 k1 suf m (i + 1) (by simp at hm; omega) hd2 (by omega)

theorem isWord_law {R : Type} (n : Nat) {s : List UInt8} (hs : okW s) (hn : 101 ≤ n) (K : Bool → Option R) : words_isWord n s K = K true := by
  obtain ⟨h1, h2, h3⟩ := hs
  unfold words_isWord words_isWord_p5 words_isWord_p1
  dsimp only
  rw [show (0 : Int) = ((0 : Nat) : Int) from rfl, isWord_loop n s (by omega) h3 _ _ s n 0 (by omega) rfl (Nat.zero_le _)]
  unfold words_isWord_p4
  rw [show (s == []) = false from by simpa using h1]
  rfl

theorem join_words {R : Type} (n : Nat) (hn : 101 ≤ n) (a0 : LL) (w2 h5 : Int) (l : List (List UInt8)) (hl : l.length ≤ 64) (hw : ∀ s ∈ l, okW s) (k0 : Option R) (k1 : Int → Bool → LL → Option R) : ∀ (suf : List (List UInt8)) (m i : Nat) (t : List UInt8), suf.length < m → l.drop i = suf → i ≤ l.length → t.length + 101 * suf.length ≤ 1000000 → 0 < i →
    words_Join_r4 n a0 w2 h5 (encW l) (l.length : Int) k0 k1 m (i : Int) (rowsB t) = k1 (l.length : Int) false (rowsB (t ++ tailS suf))
  | [], m + 1, i, t, _, hd, hi, _, _ => by
    have hi2 : i = l.length := by have := drop_nil hd; omega
    subst hi2
    rw [words_Join_r4, words_Join_p3, dge (by omega)]
    simp [tailS]
  | s :: suf, m + 1, i, t, hm, hd, hi, hb, h0 => by
    obtain ⟨g, hd2, hlt⟩ := drop_at hd
    have hs := hw s (List.mem_of_getElem? g)
    have hs2 := hs.2.1
    simp only [List.length_cons] at hb hm
    rw [words_Join_r4, words_Join_p3, dlt hlt]
    simp -implicitDefEqProofs only [cond_true, encW_get g, gb_some_eq, List.getElem?_cons_zero, pStr_s, isWord_law n hs hn, Bool.not_true, cond_false]
    rw [show decide ((i : Int) > 0) = true from by simp; omega]
    simp -implicitDefEqProofs only [cond_true]
    rw [room_ok (by rw [rowsB_len]; omega), room_ok (by simp [rowsB_len]; omega)]
    simp -implicitDefEqProofs only [gb_some_eq]
    rw [winc hlt (by omega), show ([[D.int .u8 (32 : Int)]] : LL) = rowsB [32] from rfl, rowsB_app, rowsB_app, join_words n hn a0 w2 h5 l hl hw k0 k1 suf m (i + 1) _ (by omega) hd2 (by omega) (by simp; omega) (by omega)]
    simp [tailS]

theorem join_line {R : Type} (n : Nat) (hn : 101 ≤ n) (a0 : LL) (w2 h5 : Int) (l : List (List UInt8)) (h : okL l) (k0 : Option R) (k1 : Int → Bool → LL → Option R) (t : List UInt8) (ht : t.length ≤ 900000) :
    words_Join_r4 n a0 w2 h5 (encW l) (l.length : Int) k0 k1 n 0 (rowsB t) = k1 (l.length : Int) false (rowsB (t ++ inter l)) := by
  obtain ⟨h1, h2, h3⟩ := h
  obtain ⟨s, suf, rfl⟩ := List.exists_cons_of_ne_nil h1
  obtain ⟨m, rfl⟩ : ∃ m, n = m + 1 := ⟨n - 1, by omega⟩
  have hs := h3 s (by simp)
  have hs2 := hs.2.1
  simp only [List.length_cons] at h2
  have key := join_words (m + 1) hn a0 w2 h5 (s :: suf) (by simp; omega) h3 k0 k1 suf m 1 (t ++ s) (by omega) rfl (by simp) (by simp; omega) (by omega)
  rw [words_Join_r4, words_Join_p3, show decide ((0 : Int) < ((List.length (s :: suf) : Nat) : Int)) = true from by simp]
  simp -implicitDefEqProofs only [cond_true, gb_some_eq, List.getElem?_cons_zero, pStr_s]
  rw [show rowAt (encW (s :: suf)) 0 = some [D.str s] from rfl]
  simp -implicitDefEqProofs only [cond_true, gb_some_eq, List.getElem?_cons_zero, pStr_s, isWord_law (m + 1) hs hn, Bool.not_true, cond_false]
  rw [show decide ((0 : Int) > 0) = false from rfl]
  simp -implicitDefEqProofs only [cond_false]
  rw [room_ok (by simp [rowsB_len]; omega)]
  simp -implicitDefEqProofs only [gb_some_eq]
  rw [rowsB_app, show IntKind.wrap .i64 ((0 : Int) + 1) = ((1 : Nat) : Int) from rfl, key]
  simp [inter]

theorem inter_len {l : List (List UInt8)} (h : okL l) : (inter l).length ≤ 6500 := by
  obtain ⟨h1, h2, h3⟩ := h
  have key : ∀ l : List (List UInt8), (∀ s ∈ l, okW s) → (tailS l).length ≤ 101 * l.length := by
    intro l
    induction l with
    | nil => intro _; simp [tailS]
    | cons s l ih =>
      intro hl
      have h1 := (hl s (by simp)).2.1
      have h2 := ih fun x hx => hl x (by simp [hx])
      simp [tailS] at h2 ⊢
      omega
  obtain ⟨s, suf, rfl⟩ := List.exists_cons_of_ne_nil h1
  have k1 := key suf fun x hx => h3 x (by simp [hx])
  have k2 := (h3 s (by simp)).2.1
  simp only [List.length_cons] at h2
  simp [inter]
  omega

theorem join_lines {R : Type} (n : Nat) (hn : 101 ≤ n) (ll : List (List (List UInt8))) (hl : ll.length ≤ 100) (hw : ∀ l ∈ ll, okL l) (k0 : Option R) (k1 : Int → Bool → LL → Option R) : ∀ (suf : List (List (List UInt8))) (m i : Nat) (t : List UInt8), suf.length < m → ll.drop i = suf → i ≤ ll.length → t.length + 6501 * suf.length ≤ 800000 →
    words_Join_r7 n (encL ll) (ll.length : Int) k0 k1 m (i : Int) (rowsB t) = k1 (ll.length : Int) false (rowsB (t ++ txt suf))
  | [], m + 1, i, t, _, hd, hi, _ => by
    have hi2 : i = ll.length := by have := drop_nil hd; omega
    subst hi2
    rw [words_Join_r7, words_Join_p6, words_Join_p2, dge (by omega)]
    simp [txt]
  | l :: suf, m + 1, i, t, hm, hd, hi, hb => by
    obtain ⟨g, hd2, hlt⟩ := drop_at hd
    have hL := hw l (List.mem_of_getElem? g)
    have hlen := inter_len hL
    obtain ⟨h1, h2, h3⟩ := hL
    simp only [List.length_cons] at hb hm
    have hl0 : 0 < l.length := List.length_pos_iff.2 h1
    rw [words_Join_r7, words_Join_p6, words_Join_p2, dlt hlt]
    simp -implicitDefEqProofs only [cond_true, encL_get g, gb_some_eq, List.getElem?_cons_zero, pSl_s, encW_len]
    rw [show (bif (((l.length : Nat) : Int) == 0) then true else decide (((l.length : Nat) : Int) > 64)) = false from by
      rw [show (((l.length : Nat) : Int) == 0) = false from by simp; omega]; simp; omega]
    simp -implicitDefEqProofs only [cond_false]
    rw [join_line n hn _ _ _ l ⟨h1, h2, h3⟩ _ _ t (by omega)]
    unfold words_Join_p5
    rw [room_ok (by rw [rowsB_len]; simp; omega)]
    simp -implicitDefEqProofs only [gb_some_eq]
    rw [winc hlt (by omega), show ([[D.int .u8 (10 : Int)]] : LL) = rowsB [10] from rfl, rowsB_app, join_lines n hn ll hl hw k0 k1 suf m (i + 1) _ (by omega) hd2 (by omega) (by simp; omega)]
    simp [txt]

theorem join_law {R : Type} (n : Nat) (hn : 101 ≤ n) {ll : List (List (List UInt8))} (hl : ll.length ≤ 100) (hw : ∀ l ∈ ll, okL l) (K : List UInt8 → Option R) : words_Join n (encL ll) K = K (txt ll) := by
  unfold words_Join words_Join_p9 words_Join_p1
  dsimp only
  rw [encL_len, show (0 : Int) = ((0 : Nat) : Int) from rfl, show ([] : LL) = rowsB [] from rfl, join_lines n hn ll hl hw _ _ ll n 0 [] (by omega) rfl (Nat.zero_le _) (by simp; omega)]
  unfold words_Join_p8
  rw [List.nil_append, bytesX_rowsB]
  rfl

theorem plain_part {R : Type} (n : Nat) {b : UInt8} (h : isPart b) (K : Bool → Option R) : ref1_plain n (b.toNat : Int) K = K true := by
  obtain ⟨h1, h2, h3⟩ := h
  unfold ref1_plain
  rw [show (bif (bif decide ((b.toNat : Int) ≥ 33) then decide ((b.toNat : Int) ≤ 126) else false) then ((b.toNat : Int) != 35) else false) = true from by
    rw [show decide ((b.toNat : Int) ≥ 33) = true from by simp; omega, show decide ((b.toNat : Int) ≤ 126) = true from by simp; omega]
    simp; omega]

theorem ref_bytes {R : Type} (n : Nat) (ll : List (List (List UInt8))) (t : List UInt8) {a b : Nat} {l : List (List UInt8)} {s : List UInt8} (hl : ll[a]? = some l) (hs : l[b]? = some s) (hlen : s.length ≤ 1000) (hp : ∀ x ∈ s, isPart x) (k0 : Option R) (k1 : Int → Bool → Option R) :
    ∀ (suf : List UInt8) (m i : Nat), suf.length < m → s.drop i = suf → i ≤ s.length → ref1_Join_r5 n (encL ll) t (a : Int) (b : Int) k0 k1 m (i : Int) = k1 (s.length : Int) false
  | [], m + 1, i, _, hd, hi => by
    have hi2 : i = s.length := by have := drop_nil hd; omega
    subst hi2
    rw [ref1_Join_r5, ref1_Join_p4]
    simp -implicitDefEqProofs only [encL_get hl, encW_get hs, gb_some_eq, List.getElem?_cons_zero, pSl_s, pStr_s]
    rw [dge (by omega)]
    rfl
  | x :: suf, m + 1, i, hm, hd, hi => by
    obtain ⟨g, hd2, hlt⟩ := drop_at hd
    have hb := hp x (List.mem_of_getElem? g)
    rw [ref1_Join_r5, ref1_Join_p4]
    simp -implicitDefEqProofs only [encL_get hl, encW_get hs, gb_some_eq, List.getElem?_cons_zero, pSl_s, pStr_s]
    rw [dlt hlt]
    simp -implicitDefEqProofs only [cond_true, byte_get g, gb_some_eq, plain_part n hb, Bool.not_true, cond_false]
    rw [winc hlt (by omega)]
    exact ref_bytes n ll t hl hs hlen hp k0 k1 suf m (i + 1) (by simp at hm; omega) hd2 (by omega)

theorem ref_words {R : Type} (n : Nat) (hn : 101 ≤ n) (ll : List (List (List UInt8))) {a : Nat} {l : List (List UInt8)} (hl : ll[a]? = some l) (hl64 : l.length ≤ 64) (hw : ∀ s ∈ l, okW s) (k0 : Option R) (k1 : List UInt8 → Int → Bool → Option R) :
    ∀ (suf : List (List UInt8)) (m i : Nat) (t : List UInt8), suf.length < m → l.drop i = suf → i ≤ l.length → t.length + 101 * suf.length ≤ 1000000 →
    ref1_Join_r11 n (encL ll) (a : Int) k0 k1 m t (i : Int) = k1 (t ++ (if i = 0 then inter suf else tailS suf)) (l.length : Int) false
  | [], m + 1, i, t, _, hd, hi, _ => by
    have hi2 : i = l.length := by have := drop_nil hd; omega
    subst hi2
    rw [ref1_Join_r11, ref1_Join_p10, ref1_Join_p3]
    simp -implicitDefEqProofs only [encL_get hl, gb_some_eq, List.getElem?_cons_zero, pSl_s, encW_len]
    rw [dge (by omega)]
    simp [tailS, inter]
  | s :: suf, m + 1, i, t, hm, hd, hi, hb => by
    obtain ⟨g, hd2, hlt⟩ := drop_at hd
    have hs := hw s (List.mem_of_getElem? g)
    obtain ⟨s1, s2, s3⟩ := hs
    have s0 : 0 < s.length := List.length_pos_iff.2 s1
    simp only [List.length_cons] at hb hm
    rw [ref1_Join_r11, ref1_Join_p10, ref1_Join_p3]
    simp -implicitDefEqProofs only [encL_get hl, gb_some_eq, List.getElem?_cons_zero, pSl_s, encW_len]
    rw [dlt hlt]
    simp -implicitDefEqProofs only [cond_true, encL_get hl, encW_get g, gb_some_eq, List.getElem?_cons_zero, pSl_s, pStr_s]
    rw [show decide (((s.length : Nat) : Int) < 1) = false from by simp; omega]
    simp -implicitDefEqProofs only [cond_false]
    rw [show (0 : Int) = ((0 : Nat) : Int) from rfl, ref_bytes n ll t hl g (by omega) s3 _ _ s n 0 (by omega) rfl (Nat.zero_le _)]
    unfold ref1_Join_p6 ref1_Join_p7
    by_cases hi0 : i = 0
    · subst hi0
      rw [show decide (((0 : Nat) : Int) > 0) = false from rfl]
      simp -implicitDefEqProofs only [cond_false, ref1_Join_p9]
      simp -implicitDefEqProofs only [encL_get hl, encW_get g, gb_some_eq, List.getElem?_cons_zero, pSl_s, pStr_s]
      rw [sumOk_ok (by omega)]
      simp -implicitDefEqProofs only [gb_some_eq]
      rw [winc hlt (by omega), ref_words n hn ll hl hl64 hw k0 k1 suf m 1 _ (by omega) hd2 (by omega) (by simp; omega)]
      simp [inter]
    · rw [show decide (((i : Nat) : Int) > 0) = true from by simp; omega]
      simp -implicitDefEqProofs only [cond_true, ref1_Join_p8]
      rw [sumOk_ok (by rw [show (bs [32]).length = 1 from rfl]; omega)]
      simp -implicitDefEqProofs only [encL_get hl, encW_get g, gb_some_eq, List.getElem?_cons_zero, pSl_s, pStr_s]
      rw [sumOk_ok (by simp; omega)]
      simp -implicitDefEqProofs only [gb_some_eq]
      rw [winc hlt (by omega), ref_words n hn ll hl hl64 hw k0 k1 suf m (i + 1) _ (by omega) hd2 (by omega) (by simp; omega)]
      simp [tailS, hi0]

theorem ref_lines {R : Type} (n : Nat) (hn : 101 ≤ n) (ll : List (List (List UInt8))) (hl : ll.length ≤ 100) (hw : ∀ l ∈ ll, okL l) (k0 : Option R) (k1 : List UInt8 → Int → Bool → Option R) : ∀ (suf : List (List (List UInt8))) (m i : Nat) (t : List UInt8), suf.length < m → ll.drop i = suf → i ≤ ll.length → t.length + 6501 * suf.length ≤ 800000 →
    ref1_Join_r14 n (encL ll) k0 k1 m t (i : Int) = k1 (t ++ txt suf) (ll.length : Int) false
  | [], m + 1, i, t, _, hd, hi, _ => by
    have hi2 : i = ll.length := by have := drop_nil hd; omega
    subst hi2
    rw [ref1_Join_r14, ref1_Join_p13, ref1_Join_p2, encL_len, dge (by omega)]
    simp [txt]
  | l :: suf, m + 1, i, t, hm, hd, hi, hb => by
    obtain ⟨g, hd2, hlt⟩ := drop_at hd
    have hL := hw l (List.mem_of_getElem? g)
    have hlen := inter_len hL
    obtain ⟨h1, h2, h3⟩ := hL
    simp only [List.length_cons] at hb hm
    have hl0 : 0 < l.length := List.length_pos_iff.2 h1
    rw [ref1_Join_r14, ref1_Join_p13, ref1_Join_p2, encL_len, dlt hlt]
    simp -implicitDefEqProofs only [cond_true, encL_get g, gb_some_eq, List.getElem?_cons_zero, pSl_s, encW_len]
    rw [show decide (((l.length : Nat) : Int) < 1) = false from by simp; omega]
    simp -implicitDefEqProofs only [cond_false, Bool.not_false, encL_get g, gb_some_eq, List.getElem?_cons_zero, pSl_s, encW_len]
    rw [show decide (((l.length : Nat) : Int) > 64) = false from by simp; omega]
    simp -implicitDefEqProofs only [cond_false]
    rw [show (0 : Int) = ((0 : Nat) : Int) from rfl, ref_words n hn ll g h2 h3 _ _ l n 0 t (by omega) rfl (Nat.zero_le _) (by omega)]
    unfold ref1_Join_p12
    rw [if_pos rfl, sumOk_ok (by simp; omega)]
    simp -implicitDefEqProofs only [gb_some_eq]
    rw [winc hlt (by omega), ref_lines n hn ll hl hw k0 k1 suf m (i + 1) _ (by omega) hd2 (by omega) (by simp; omega)]
    simp [txt]

theorem refjoin_law {R : Type} (n : Nat) (hn : 101 ≤ n) {ll : List (List (List UInt8))} (hl : ll.length ≤ 100) (hw : ∀ l ∈ ll, okL l) (K : List UInt8 → Option R) : ref1_Join n (encL ll) K = K (txt ll) := by
  unfold ref1_Join ref1_Join_p16 ref1_Join_p1
  dsimp only
  rw [show (0 : Int) = ((0 : Nat) : Int) from rfl, ref_lines n hn ll hl hw _ _ ll n 0 [] (by omega) rfl (Nat.zero_le _) (by simp; omega)]
  rfl
end Go.Vx
/-
  Plain law: what Lines reads out of a joined text.
-/
set_option linter.unusedSimpArgs false
set_option linter.unusedVariables false
namespace Go.Vx

/-- The words of a line that begins at p. -/
def wds (num : Int) : Nat → List (List UInt8) → LL
  | _, [] => []
  | p, s :: l => [D.str s, D.int .i64 num, D.int .i64 ((p + 1 : Nat) : Int)] :: wds num (p + s.length + 1) l

theorem wds_len (num : Int) : ∀ (p : Nat) (l : List (List UInt8)), (wds num p l).length = l.length
  | _, [] => rfl
  | p, s :: l => by simp [wds, wds_len num _ l]

theorem wds_get (num : Int) : ∀ (p : Nat) (l : List (List UInt8)) (i : Nat) (s : List UInt8), l[i]? = some s → ∃ c, (wds num p l)[i]? = some [D.str s, D.int .i64 num, D.int .i64 c]
  | p, [], i, s, h => by simp at h
  | p, x :: l, 0, s, h => by
    simp only [List.getElem?_cons_zero, Option.some.injEq] at h
    subst h
    exact ⟨_, rfl⟩
  | p, x :: l, i + 1, s, h => wds_get num _ l i s (by simpa using h)

theorem slB_ok {len a b : Nat} (h1 : a ≤ b) (h2 : b ≤ len) : slB len (some (a : Int)) (some (b : Int)) = some (a, b) := by
  unfold slB
  simp only [Option.getD_some]
  rw [show (decide ((0 : Int) ≤ a) && (decide ((a : Int) ≤ b) && decide ((b : Int) ≤ len))) = true from by simp; omega]
  simp

theorem app_word {R : Type} (n : Nat) (acc : LL) (T : List UInt8) (p e : Nat) (num : Int) (s : List UInt8) (hs : T.drop p = s ++ T.drop e) (he : e = p + s.length) (hT : e ≤ T.length) (hp : p ≤ 1000000) (ha : acc.length ≤ 1000) (K : LL → Option R) :
    words_appendWord_s1 n acc T (p : Int) (e : Int) num K = K (acc ++ [[D.str s, D.int .i64 num, D.int .i64 ((p + 1 : Nat) : Int)]]) := by
  unfold words_appendWord_s1
  rw [show decide ((p : Int) < 0) = false from by simp]
  simp -implicitDefEqProofs only [cond_false]
  rw [slB_ok (by omega) hT]
  simp -implicitDefEqProofs only [gb_some_eq]
  rw [room_ok (by simp; omega)]
  simp -implicitDefEqProofs only [gb_some_eq]
  rw [show cut T (p, e) = s from by
    unfold cut
    rw [hs, he, Nat.add_sub_cancel_left]
    simp]
  rw [wrap64' (by omega) (by omega)]
  rfl

theorem word_loop {R : Type} (n : Nat) (T : List UInt8) (hT : T.length ≤ 1000000) (num : Int) (k0 : Option R) (k1 : Int → Int → Bool → LL → Option R) (acc : LL) (p : Nat) : ∀ (suf : List UInt8) (m i : Nat) (rest : List UInt8), (∀ b ∈ suf, isPart b) → T.drop i = suf ++ rest → suf.length ≤ m →
    words_split_r3 n T num (T.length : Int) k0 k1 m (p : Int) (i : Int) acc = words_split_r3 n T num (T.length : Int) k0 k1 (m - suf.length) (p : Int) ((i + suf.length : Nat) : Int) acc
  | [], m, i, rest, _, _, _ => rfl
  | b :: suf, m, i, rest, hp, hd, hm => by
    obtain ⟨m, rfl⟩ : ∃ k, m = k + 1 := ⟨m - 1, by simp at hm; omega⟩
    obtain ⟨g, hd2, hlt⟩ := drop_at hd
    rw [words_split_r3, words_split_p2, dlt hlt]
    simp -implicitDefEqProofs only [cond_true, byte_get g, gb_some_eq, class_part n (hp b (by simp))]
    rw [show decide ((p : Int) < 0) = false from by simp, show ((4 : Int) == 4) = true from rfl]
    simp -implicitDefEqProofs only [cond_true, cond_false]
    rw [winc hlt (by omega), word_loop n T hT num k0 k1 acc p suf m (i + 1) rest (fun x hx => hp x (by simp [hx])) hd2 (by simp at hm; omega)]
    rw [show m + 1 - (b :: suf).length = m - suf.length from by simp, show i + 1 + suf.length = i + (b :: suf).length from by simp; omega]

theorem word_start {R : Type} (n : Nat) (T : List UInt8) (hT : T.length ≤ 1000000) (num : Int) (k0 : Option R) (k1 : Int → Int → Bool → LL → Option R) (acc : LL) (p m : Nat) (s rest : List UInt8) (hs : okW s) (hd : T.drop p = s ++ rest) (hm : s.length ≤ m) :
    words_split_r3 n T num (T.length : Int) k0 k1 m (-1) (p : Int) acc = words_split_r3 n T num (T.length : Int) k0 k1 (m - s.length) (p : Int) ((p + s.length : Nat) : Int) acc := by
  obtain ⟨h1, h2, h3⟩ := hs
  obtain ⟨b, suf, rfl⟩ := List.exists_cons_of_ne_nil h1
  obtain ⟨m, rfl⟩ : ∃ k, m = k + 1 := ⟨m - 1, by simp at hm; omega⟩
  obtain ⟨g, hd2, hlt⟩ := drop_at hd
  rw [words_split_r3, words_split_p2, dlt hlt]
  simp -implicitDefEqProofs only [cond_true, byte_get g, gb_some_eq, class_part n (h3 b (by simp))]
  rw [show decide ((-1 : Int) < 0) = true from rfl, show ((4 : Int) == 4) = true from rfl]
  simp -implicitDefEqProofs only [cond_true]
  rw [winc hlt (by omega), word_loop n T hT num k0 k1 acc p suf m (p + 1) rest (fun x hx => h3 x (by simp [hx])) hd2 (by simp at hm; omega)]
  rw [show m + 1 - (b :: suf).length = m - suf.length from by simp, show p + 1 + suf.length = p + (b :: suf).length from by simp; omega]

theorem line_loop {R : Type} (n : Nat) (T : List UInt8) (hT : T.length ≤ 1000000) (num : Int) (k0 : Option R) (k : LL → Option R) : ∀ (l : List (List UInt8)) (p m : Nat) (acc : LL), l ≠ [] → (∀ s ∈ l, okW s) → T.drop p = inter l → (inter l).length < m → acc.length + l.length ≤ 1000 →
    words_split_r3 n T num (T.length : Int) k0 (fun w31 w32 w33 w34 => words_split_p4 n T num w31 (T.length : Int) w32 w33 w34 (fun w36 => k w36)) m (-1) (p : Int) acc = k (acc ++ wds num p l)
  | [], _, _, _, h, _, _, _, _ => absurd rfl h
  | [s], p, m, acc, _, hw, hd, hm, ha => by
    have hs := hw s (by simp)
    have hs1 : 0 < s.length := List.length_pos_iff.2 hs.1
    have hd' : T.drop p = s ++ [] := by rw [hd]; simp [inter, tailS]
    have hm' : s.length < m := by simpa [inter, tailS] using hm
    have hlen : T.length = p + s.length := by
      have := congrArg List.length hd'
      simp at this
      omega
    rw [word_start n T hT num k0 _ acc p m s [] hs hd' (by omega)]
    obtain ⟨j, hj⟩ : ∃ j, m - s.length = j + 1 := ⟨m - s.length - 1, by omega⟩
    rw [hj, words_split_r3, words_split_p2, dge (by omega)]
    simp -implicitDefEqProofs only [cond_false]
    unfold words_split_p4
    rw [app_word n acc T p T.length num s (by rw [hd']; simp) hlen (Nat.le_refl _) (by omega) (by simp at ha; omega)]
    rfl
  | s :: s2 :: l, p, m, acc, _, hw, hd, hm, ha => by
    have hs := hw s (by simp)
    have hs1 : 0 < s.length := List.length_pos_iff.2 hs.1
    have hd' : T.drop p = s ++ (32 :: inter (s2 :: l)) := by rw [hd]; simp [inter, tailS]
    have hm' : s.length + 1 + (inter (s2 :: l)).length < m := by
      have : (inter (s :: s2 :: l)).length = s.length + 1 + (inter (s2 :: l)).length := by simp [inter, tailS]; omega
      omega
    have hd2 : T.drop (p + s.length) = 32 :: inter (s2 :: l) := by rw [← List.drop_drop, hd']; simp
    obtain ⟨g, hd3, hlt⟩ := drop_at hd2
    rw [word_start n T hT num k0 _ acc p m s _ hs hd' (by omega)]
    obtain ⟨j, hj⟩ : ∃ j, m - s.length = j + 1 := ⟨m - s.length - 1, by omega⟩
    rw [hj, words_split_r3, words_split_p2, dlt hlt]
    simp -implicitDefEqProofs only [cond_true, byte_get g, gb_some_eq]
    rw [show (((32 : UInt8).toNat : Nat) : Int) = 32 from rfl, class_space]
    simp -implicitDefEqProofs only [gb_some_eq]
    rw [show ((1 : Int) == 4) = false from rfl, show ((1 : Int) == 1) = true from rfl]
    simp -implicitDefEqProofs only [cond_true, cond_false]
    simp only [List.length_cons] at ha
    rw [app_word n acc T p (p + s.length) num s (by rw [hd', hd2]) rfl (by omega) (by omega) (by omega)]
    simp -implicitDefEqProofs only [gb_some_eq]
    rw [winc hlt (by omega), line_loop n T hT num k0 k (s2 :: l) (p + s.length + 1) j _ (by simp) (fun x hx => hw x (by simp [List.mem_cons.1 hx])) hd3 (by omega) (by simp; omega)]
    rw [List.append_assoc]
    rfl

theorem no_byte {c : UInt8} (hc : ∀ b : UInt8, isPart b → b ≠ c) (h32 : c ≠ 32) {l : List (List UInt8)} (hw : ∀ s ∈ l, okW s) : c ∉ inter l := by
  have key : ∀ l : List (List UInt8), (∀ s ∈ l, okW s) → c ∉ tailS l := by
    intro l hl h
    simp only [tailS, List.mem_flatMap, List.mem_cons] at h
    obtain ⟨s, h1, h2 | h2⟩ := h
    · exact h32 h2
    · exact hc c ((hl s h1).2.2 c h2) rfl
  cases l with
  | nil => simp [inter]
  | cons s l =>
    simp only [inter, List.mem_append, not_or]
    exact ⟨fun h => hc c ((hw s (by simp)).2.2 c h) rfl, key l fun x hx => hw x (by simp [hx])⟩

theorem idxB_no : ∀ {s : List UInt8} {c : UInt8}, c ∉ s → idxB s c = -1
  | [], _, _ => rfl
  | a :: s, c, h => by
    simp only [List.mem_cons, not_or] at h
    have e : (a == c) = false := by rw [beq_eq_false_iff_ne]; exact fun e => h.1 e.symm
    simp [idxB, e, idxB_no h.2]

theorem cut_no {R : Type} (n : Nat) {s : List UInt8} (h : (35 : UInt8) ∉ s) (hs : s.length ≤ 1048576) (K : List UInt8 → List UInt8 → Bool → Option R) : strings_Cut n s [35] K = K s [] false := by
  unfold strings_Cut internal_stringslite_Cut internal_stringslite_Index
  simp only [Nat.ble_eq_true_of_le hs, cond_true, idxB_no h]
  rfl

theorem split_law {R : Type} (n : Nat) {l : List (List UInt8)} (hl : okL l) (hn : 7000 ≤ n) (num : Int) (K : LL → Bool → Option R) : words_split n (inter l) num K = K (wds num 0 l) true := by
  have hlen := inter_len hl
  obtain ⟨h1, h2, h3⟩ := hl
  unfold words_split words_split_p5 words_split_p1
  rw [show bs [35] = [35] from rfl, cut_no n (no_byte (fun b hb e => by subst e; exact hb.2.2 rfl) (by decide) h3) (by omega)]
  simp -implicitDefEqProofs only [gb_some_eq]
  rw [show (0 : Int) = ((0 : Nat) : Int) from rfl]
  exact line_loop n (inter l) (by omega) num _ (fun w => K w true) l 0 n [] h1 h3 rfl (by omega) (by simp; omega)

theorem split_nil {R : Type} (n : Nat) (hn : 1 ≤ n) (num : Int) (K : LL → Bool → Option R) : words_split n [] num K = K [] true := by
  obtain ⟨m, rfl⟩ : ∃ m, n = m + 1 := ⟨n - 1, by omega⟩
  rfl

/-- What Lines reads. -/
def lnD : Nat → List (List (List UInt8)) → LL
  | _, [] => []
  | i, l :: ll => [D.sl 3 (wds ((i + 1 : Nat) : Int) 0 l)] :: lnD (i + 1) ll

theorem lnD_len : ∀ (i : Nat) (ll : List (List (List UInt8))), (lnD i ll).length = ll.length
  | _, [] => rfl
  | i, l :: ll => by simp [lnD, lnD_len (i + 1) ll]
theorem lnD_get : ∀ (i : Nat) (ll : List (List (List UInt8))) (j : Nat) (l : List (List UInt8)), ll[j]? = some l → (lnD i ll)[j]? = some [D.sl 3 (wds ((i + j + 1 : Nat) : Int) 0 l)]
  | i, [], j, l, h => by simp at h
  | i, x :: ll, 0, l, h => by
    simp only [List.getElem?_cons_zero, Option.some.injEq] at h
    subst h
    rfl
  | i, x :: ll, j + 1, l, h => by
    have := lnD_get (i + 1) ll j l (by simpa using h)
    rw [show i + (j + 1) + 1 = i + 1 + j + 1 from by omega]
    simpa [lnD] using this

theorem splitB_no' {c : UInt8} : ∀ {s : List UInt8}, c ∉ s → splitB c s = [s]
  | [], _ => rfl
  | a :: s, h => by
    simp only [List.mem_cons, not_or] at h
    have e : (a == c) = false := by rw [beq_eq_false_iff_ne]; exact fun e => h.1 e.symm
    show (bif a == c then [] :: splitB c s else match splitB c s with | x :: xs => (a :: x) :: xs | [] => [[a]]) = _
    rw [e, splitB_no' h.2]
    rfl
theorem splitB_cut' {c : UInt8} {rest : List UInt8} : ∀ {x : List UInt8}, c ∉ x → splitB c (x ++ c :: rest) = x :: splitB c rest
  | [], _ => by
    show (bif c == c then [] :: splitB c rest else _) = _
    rw [show (c == c) = true from by simp]
    rfl
  | a :: x, h => by
    simp only [List.mem_cons, not_or] at h
    have e : (a == c) = false := by rw [beq_eq_false_iff_ne]; exact fun e => h.1 e.symm
    show (bif a == c then [] :: splitB c (x ++ c :: rest) else match splitB c (x ++ c :: rest) with | x :: xs => (a :: x) :: xs | [] => [[a]]) = _
    rw [e, splitB_cut' h.2]
    rfl

theorem splitB_txt : ∀ {ll : List (List (List UInt8))}, (∀ l ∈ ll, okL l) → splitB 10 (txt ll) = ll.map inter ++ [[]]
  | [], _ => rfl
  | l :: ll, h => by
    have e : txt (l :: ll) = inter l ++ 10 :: txt ll := by simp [txt]
    rw [e, splitB_cut' (no_byte (fun b hb e => by subst e; exact absurd hb.1 (by decide)) (by decide) (h l (by simp)).2.2), splitB_txt fun x hx => h x (by simp [hx])]
    rfl

theorem lines_law0 {R : Type} (n : Nat) (hn : 7000 ≤ n) (K : LL → Option R) : ∀ (ll : List (List (List UInt8))) (i : Nat) (acc : LL), (∀ l ∈ ll, okL l) → lines_r n K (ll.map inter ++ [[]]) (i : Int) acc = K (acc ++ lnD i ll)
  | [], i, acc, _ => by
    show gb true (words_split n [] ((i : Int) + 1) (fun a b => some (a, b))) ([], false) _ = _
    rw [split_nil n (by omega)]
    simp [gb_some_eq, lnD, lines_r]
    rfl
  | l :: ll, i, acc, h => by
    have hL := h l (by simp)
    have h2 := hL.2.1
    have h0 : 0 < l.length := List.length_pos_iff.2 hL.1
    show gb true (words_split n (inter l) ((i : Int) + 1) (fun a b => some (a, b))) ([], false) _ = _
    rw [split_law n hL hn]
    simp -implicitDefEqProofs only [gb_some_eq]
    rw [show (true && Nat.ble (wds ((i : Int) + 1) 0 l).length 64) = true from by rw [wds_len, Nat.ble_eq_true_of_le h2]; rfl]
    rw [show Nat.beq (wds ((i : Int) + 1) 0 l).length 0 = false from by rw [wds_len]; cases e : Nat.beq l.length 0 with | true => (have := Nat.eq_of_beq_eq_true e; omega) | false => rfl]
    simp -implicitDefEqProofs only [cond_true, cond_false]
    have ih := lines_law0 n hn K ll (i + 1) (acc ++ [[D.sl 3 (wds ((i : Int) + 1) 0 l)]]) fun x hx => h x (by simp [hx])
    refine ih.trans ?_
    rw [List.append_assoc]
    rfl

theorem lines_law {R : Type} (n : Nat) (hn : 7000 ≤ n) {ll : List (List (List UInt8))} (h : ∀ l ∈ ll, okL l) (hl : ll.length ≤ 10) (K : LL → Int → Int → Option R) : words_Lines n (txt ll) K = K (lnD 0 ll) 0 0 := by
  have key : ∀ ll : List (List (List UInt8)), (∀ l ∈ ll, okL l) → (txt ll).length ≤ 6501 * ll.length := by
    intro ll
    induction ll with
    | nil => intro _; simp [txt]
    | cons l ll ih =>
      intro h
      have h1 := inter_len (h l (by simp))
      have h2 := ih fun x hx => h x (by simp [hx])
      have e : txt (l :: ll) = inter l ++ 10 :: txt ll := by simp [txt]
      rw [e]
      simp
      omega
  have hle := key ll h
  unfold words_Lines
  rw [Nat.ble_eq_true_of_le (by omega), splitB_txt h, cond_true]
  exact lines_law0 n hn _ ll 0 [] h
end Go.Vx
/-
  internal_stringslite_HasPrefix: the pure function
-/
set_option linter.unusedVariables false
namespace Go.Vx
def internal_stringslite_HasPrefix {R : Type} (n : Nat) (a0 a1 : List UInt8) (K : Bool → Option R) : Option R :=
 gb (decide (((List.length a0 : Nat) : Int) ≥ ((List.length a1 : Nat) : Int))) (slB (List.length a0) none (some ((List.length a1 : Nat) : Int))) (0, 0) fun q1 =>
 K (bif (decide (((List.length a0 : Nat) : Int) ≥ ((List.length a1 : Nat) : Int))) then ((cut a0 q1) == a1) else false)
end Go.Vx
/-
  internal_stringslite_CutPrefix: the pure function
-/
set_option linter.unusedVariables false
namespace Go.Vx
def internal_stringslite_CutPrefix {R : Type} (n : Nat) (a0 a1 : List UInt8) (K : (List UInt8) → Bool → Option R) : Option R :=
 gb true (internal_stringslite_HasPrefix n a0 a1 some) false fun r1 =>
 bif (!r1) then
  K a0 false
 else
  gb true (slB (List.length a0) (some ((List.length a1 : Nat) : Int)) none) (0, 0) fun q2 =>
  K (cut a0 q2) true
end Go.Vx
/-
  strings_CutPrefix: the pure function
-/
set_option linter.unusedVariables false
namespace Go.Vx
def strings_CutPrefix {R : Type} (n : Nat) (a0 a1 : List UInt8) (K : (List UInt8) → Bool → Option R) : Option R :=
 gb true (internal_stringslite_CutPrefix n a0 a1 (fun r0 r1 => some (r0, r1))) ([], false) fun r1 =>
 K r1.1 r1.2
end Go.Vx
/-
  words_isDigit: the pure function
-/
set_option linter.unusedVariables false
namespace Go.Vx
def words_isDigit {R : Type} (n : Nat) (a0 : Int) (K : Bool → Option R) : Option R :=
 K (bif (decide (a0 ≥ (48 : Int))) then (decide (a0 ≤ (57 : Int))) else false)
end Go.Vx
/-
  words_Number: the pure function
-/
set_option linter.unusedVariables false
namespace Go.Vx
def words_Number_p1 {R : Type} (n : Nat) (a0 : List UInt8) (k0 : Option R) (k1 : (List UInt8) → Bool → Int → Option R) : Option R :=
 gb true (strings_CutPrefix n a0 (bs [45]) (fun r0 r1 => some (r0, r1))) ([], false) fun r1 =>
 gb (!(r1.1 == ([] : List UInt8))) (byteAt r1.1 (0 : Int)) 0 fun i2 =>
 bif (bif (r1.1 == ([] : List UInt8)) then true else (bif (i2 == (48 : Int)) then (bif r1.2 then true else (decide (((List.length r1.1 : Nat) : Int) > (1 : Int)))) else false)) then
  k0
 else
  k1 r1.1 r1.2 ((List.length r1.1 : Nat) : Int)
def words_Number_p2 {R : Type} (n : Nat) (w6 : List UInt8) (w7 : Bool) (h11 w8 h13 : Int) (k0 : Option R) (k1 : Int → Int → Option R) (k2 : Bool → Option R) : Option R :=
 bif (decide (h13 < w8)) then
  gb true (byteAt w6 h13) 0 fun i20 =>
  gb true (words_isDigit n i20 some) false fun r21 =>
  bif (!r21) then
   k0
  else
   gb true (byteAt w6 h13) 0 fun i22 =>
   bif (decide ((IntKind.wrap .i64 ((IntKind.wrap .i64 ((10 : Int) * h11)) + (IntKind.wrap .i64 (IntKind.wrap .u8 (i22 - (48 : Int)))))) > (1099511627776 : Int))) then
    k0
   else
    k1 (IntKind.wrap .i64 ((IntKind.wrap .i64 ((10 : Int) * h11)) + (IntKind.wrap .i64 (IntKind.wrap .u8 (i22 - (48 : Int)))))) (IntKind.wrap .i64 (h13 + (1 : Int)))
 else
  k2 (decide (h13 < w8))
def words_Number_r3 {R : Type} (n : Nat) (w6 : List UInt8) (w7 : Bool) (w8 : Int) (k0 : Option R) (k1 : Int → Int → Bool → Option R) : Nat → Int → Int → Option R
 | 0, _, _ => none
 | m + 1, h11, h13 =>
  words_Number_p2 n w6 w7 h11 w8 h13
   (k0)
   (fun w26 w27 =>
   words_Number_r3 n w6 w7 w8 k0 k1 m w26 w27)
   (fun w28 =>
   k1 h11 h13 w28)
def words_Number_p4 {R : Type} (n : Nat) (w6 : List UInt8) (w7 : Bool) (w29 w8 w30 : Int) (w31 : Bool) (k0 : Option R) : Option R :=
 k0
def words_Number_p5 {R : Type} (n : Nat) (w6 : List UInt8) (w7 : Bool) (w29 w8 w30 : Int) (w31 : Bool) (k0 : Int → Option R) (k1 : Option R) : Option R :=
 bif w7 then
  k0 (IntKind.wrap .i64 (0 - w29))
 else
  k1
def words_Number_p6 {R : Type} (n : Nat) (w33 : Int) (k0 : Option R) : Option R :=
 k0
def words_Number_p7 {R : Type} (n : Nat) (w29 : Int) (w7 : Bool) (k0 : Option R) : Option R :=
 k0
def words_Number_p8 {R : Type} (n : Nat) (a0 : List UInt8) (k0 : Int → Bool → Option R) : Option R :=
 words_Number_p1 n a0
  (k0 (0 : Int) false)
  (fun w6 w7 w8 =>
  words_Number_r3 n w6 w7 w8
   (k0 (0 : Int) false)
   (fun w29 w30 w31 =>
   words_Number_p4 n w6 w7 w29 w8 w30 w31
    (words_Number_p5 n w6 w7 w29 w8 w30 w31
     (fun w33 =>
     words_Number_p6 n w33
      (k0 w33 true))
     (words_Number_p7 n w29 w7
      (k0 w29 true))))
   n (0 : Int) (0 : Int))
def words_Number {R : Type} (n : Nat) (a0 : List UInt8) (K : Int → Bool → Option R) : Option R :=
 words_Number_p8 n a0
  (fun z34 z35 => K z34 z35)
end Go.Vx
/-
  Plain law: Number reads what Itoa prints.
-/
set_option linter.unusedSimpArgs false
set_option linter.unusedVariables false
namespace Go.Vx

theorem cp_neg {R : Type} (n : Nat) (t : List UInt8) (K : List UInt8 → Bool → Option R) : strings_CutPrefix n (45 :: t) [45] K = K t true := by
  unfold strings_CutPrefix internal_stringslite_CutPrefix internal_stringslite_HasPrefix
  rw [show decide (((List.length ((45 : UInt8) :: t) : Nat) : Int) ≥ ((List.length [(45 : UInt8)] : Nat) : Int)) = true from by simp; omega]
  rw [show slB (List.length ((45 : UInt8) :: t)) none (some ((List.length [(45 : UInt8)] : Nat) : Int)) = some (0, 1) from by
    unfold slB
    simp only [Option.getD_some, Option.getD_none]
    rw [show (decide ((0 : Int) ≤ 0) && (decide ((0 : Int) ≤ ((List.length [(45 : UInt8)] : Nat) : Int)) && decide (((List.length [(45 : UInt8)] : Nat) : Int) ≤ ((List.length ((45 : UInt8) :: t) : Nat) : Int)))) = true from by simp; omega]
    rfl]
  rw [show slB (List.length ((45 : UInt8) :: t)) (some ((List.length [(45 : UInt8)] : Nat) : Int)) none = some (1, t.length + 1) from by
    unfold slB
    simp only [Option.getD_some, Option.getD_none]
    rw [show (decide ((0 : Int) ≤ ((List.length [(45 : UInt8)] : Nat) : Int)) && (decide (((List.length [(45 : UInt8)] : Nat) : Int) ≤ ((List.length ((45 : UInt8) :: t) : Nat) : Int)) && decide (((List.length ((45 : UInt8) :: t) : Nat) : Int) ≤ ((List.length ((45 : UInt8) :: t) : Nat) : Int)))) = true from by simp; omega]
    simp]
  simp -implicitDefEqProofs only [gb_some_eq, cond_true]
  rw [show (cut ((45 : UInt8) :: t) (0, 1) == [(45 : UInt8)]) = true from by simp [cut]]
  simp -implicitDefEqProofs only [gb_some_eq, Bool.not_true, cond_false]
  rw [show cut ((45 : UInt8) :: t) (1, t.length + 1) = t from by simp [cut]]

theorem cp_pos {R : Type} (n : Nat) {a : UInt8} (ha : a ≠ 45) (t : List UInt8) (K : List UInt8 → Bool → Option R) : strings_CutPrefix n (a :: t) [45] K = K (a :: t) false := by
  unfold strings_CutPrefix internal_stringslite_CutPrefix internal_stringslite_HasPrefix
  rw [show decide (((List.length (a :: t) : Nat) : Int) ≥ ((List.length [(45 : UInt8)] : Nat) : Int)) = true from by simp; omega]
  rw [show slB (List.length (a :: t)) none (some ((List.length [(45 : UInt8)] : Nat) : Int)) = some (0, 1) from by
    unfold slB
    simp only [Option.getD_some, Option.getD_none]
    rw [show (decide ((0 : Int) ≤ 0) && (decide ((0 : Int) ≤ ((List.length [(45 : UInt8)] : Nat) : Int)) && decide (((List.length [(45 : UInt8)] : Nat) : Int) ≤ ((List.length (a :: t) : Nat) : Int)))) = true from by simp; omega]
    rfl]
  simp -implicitDefEqProofs only [gb_some_eq, cond_true]
  rw [show (cut (a :: t) (0, 1) == [(45 : UInt8)]) = false from by simp [cut, ha]]
  rfl

def dval (v : Nat) (ds : List UInt8) : Nat := ds.foldl (fun n d => 10 * n + (d.toNat - 48)) v
theorem dval_app (v : Nat) (a b : List UInt8) : dval v (a ++ b) = dval (dval v a) b := by simp [dval]
theorem dval_le : ∀ (ds : List UInt8) (v : Nat), v ≤ dval v ds
  | [], v => Nat.le_refl _
  | d :: ds, v => by
    have := dval_le ds (10 * v + (d.toNat - 48))
    show v ≤ dval (10 * v + (d.toNat - 48)) ds
    omega

theorem dig_nat {u : Nat} (h : u < 10) : (UInt8.ofNat (48 + u)).toNat = 48 + u := by
  rw [UInt8.toNat_ofNat']
  omega

theorem dd_all : ∀ (u : Nat), dval 0 (Lib.decDigits u) = u ∧ (∀ d ∈ Lib.decDigits u, 48 ≤ d.toNat ∧ d.toNat ≤ 57) ∧ ∃ d t, Lib.decDigits u = d :: t ∧ (d.toNat = 48 → u = 0 ∧ t = []) := by
  intro u
  induction u using Nat.strongRecOn with
  | _ u ih =>
    by_cases h : u < 10
    · rw [Lib.decDigits, dif_pos h]
      have hd := dig_nat h
      refine ⟨by show 10 * 0 + ((UInt8.ofNat (48 + u)).toNat - 48) = u; omega, fun d hd' => ?_, _, _, rfl, fun e => ⟨by omega, rfl⟩⟩
      simp only [List.mem_singleton] at hd'
      subst hd'
      omega
    · rw [Lib.decDigits, dif_neg h]
      obtain ⟨h1, h2, d, t, h3, h4⟩ := ih (u / 10) (by omega)
      have hd := dig_nat (u := u % 10) (by omega)
      refine ⟨?_, fun d hd' => ?_, d, t ++ [UInt8.ofNat (48 + u % 10)], by rw [h3]; rfl, fun e => absurd (h4 e).1 (by omega)⟩
      · rw [dval_app, h1]
        simp [dval, hd]
        omega
      · rcases List.mem_append.1 hd' with hd' | hd'
        · exact h2 d hd'
        · simp only [List.mem_singleton] at hd'
          subst hd'
          omega

theorem wrapU8 {x : Int} (h0 : 0 ≤ x) (h1 : x < 256) : IntKind.wrap .u8 x = x := by
  have := Int.emod_eq_of_lt h0 h1
  simpa [IntKind.wrap, IntKind.bits, IntKind.signed] using this

theorem num_loop {R : Type} (n : Nat) (s : List UInt8) (hs : s.length ≤ 1000) (hd : ∀ d ∈ s, 48 ≤ d.toNat ∧ d.toNat ≤ 57) (w7 : Bool) (k0 : Option R) (k1 : Int → Int → Bool → Option R) : ∀ (suf : List UInt8) (m i v : Nat), suf.length < m → s.drop i = suf → i ≤ s.length → dval v suf ≤ 1099511627776 →
    words_Number_r3 n s w7 (s.length : Int) k0 k1 m (v : Int) (i : Int) = k1 ((dval v suf : Nat) : Int) (s.length : Int) false
  | [], m + 1, i, v, _, hdr, hi, _ => by
    have hi2 : i = s.length := by have := drop_nil hdr; omega
    subst hi2
    rw [words_Number_r3, words_Number_p2, dge (by omega)]
    rfl
  | b :: suf, m + 1, i, v, hm, hdr, hi, hv => by
    obtain ⟨g, hd2, hlt⟩ := drop_at hdr
    obtain ⟨b1, b2⟩ := hd b (List.mem_of_getElem? g)
    have hstep : dval v (b :: suf) = dval (10 * v + (b.toNat - 48)) suf := rfl
    rw [hstep] at hv ⊢
    have hle := dval_le suf (10 * v + (b.toNat - 48))
    rw [words_Number_r3, words_Number_p2, dlt hlt]
    simp -implicitDefEqProofs only [cond_true, byte_get g, gb_some_eq, words_isDigit]
    rw [show (bif decide ((b.toNat : Int) ≥ 48) then decide ((b.toNat : Int) ≤ 57) else false) = true from by
      rw [show decide ((b.toNat : Int) ≥ 48) = true from by simp; omega]; simp; omega]
    simp -implicitDefEqProofs only [Bool.not_true, cond_false, byte_get g, gb_some_eq]
    rw [wrapU8 (x := (b.toNat : Int) - 48) (by omega) (by omega), wrap64' (x := 10 * (v : Int)) (by omega) (by omega), wrap64' (x := (b.toNat : Int) - 48) (by omega) (by omega)]
    rw [show IntKind.wrap .i64 (10 * (v : Int) + ((b.toNat : Int) - 48)) = ((10 * v + (b.toNat - 48) : Nat) : Int) from by rw [wrap64' (by omega) (by omega)]; omega]
    rw [show decide ((((10 * v + (b.toNat - 48) : Nat) : Int)) > 1099511627776) = false from by simp; omega]
    simp -implicitDefEqProofs only [cond_false]
    rw [winc hlt (by omega)]
    exact num_loop n s hs hd w7 k0 k1 suf m (i + 1) _ (by simp at hm; omega) hd2 (by omega) hv

theorem num_core {R : Type} (n : Nat) (hn : 100 ≤ n) (u : Nat) (hu : u ≤ 1099511627776) (neg : Bool) (hneg : neg = true → u ≠ 0) (K : Int → Bool → Option R) (s : List UInt8) (hcp : ∀ (R : Type) (K : List UInt8 → Bool → Option R), strings_CutPrefix n s [45] K = K (Lib.decDigits u) neg) :
    words_Number n s K = K (if neg then -(u : Int) else (u : Int)) true := by
  obtain ⟨h1, h2, d, t, h3, h4⟩ := dd_all u
  have hlen : (Lib.decDigits u).length ≤ 21 := by
    have := Lib.itoa_length_le (u : Int) (by omega) (by omega)
    rwa [show Lib.itoa (u : Int) = Lib.decDigits u from by unfold Lib.itoa; rw [if_neg (by omega)]; simp] at this
  unfold words_Number words_Number_p8 words_Number_p1
  rw [show bs [45] = [45] from rfl, hcp]
  simp -implicitDefEqProofs only [gb_some_eq]
  have he : (Lib.decDigits u == ([] : List UInt8)) = false := by rw [h3]; rfl
  rw [he, show byteAt (Lib.decDigits u) 0 = some (d.toNat : Int) from by rw [h3]; rfl]
  simp -implicitDefEqProofs only [gb_some_eq, Bool.not_false, cond_false]
  have hc : (bif ((d.toNat : Int) == 48) then (bif neg then true else decide (((List.length (Lib.decDigits u) : Nat) : Int) > 1)) else false) = false := by
    by_cases e : d.toNat = 48
    · obtain ⟨e1, e2⟩ := h4 e
      have : neg = false := by cases neg with | true => exact absurd e1 (hneg rfl) | false => rfl
      subst this
      rw [h3, e2]
      simp
    · rw [show ((d.toNat : Int) == 48) = false from by simp; omega]
      rfl
  rw [hc]
  simp -implicitDefEqProofs only [cond_false]
  have hl := num_loop (R := R) n (Lib.decDigits u) (by omega) h2 neg
  rw [show (0 : Int) = ((0 : Nat) : Int) from rfl, hl _ _ (Lib.decDigits u) n 0 0 (by omega) rfl (Nat.zero_le _) (by rw [h1]; exact hu), h1]
  unfold words_Number_p4 words_Number_p5 words_Number_p6 words_Number_p7
  cases neg with
  | true =>
    simp -implicitDefEqProofs only [cond_true, if_true]
    rw [wrap64' (by omega) (by omega)]
    congr 1
    omega
  | false => rfl

theorem num_law {R : Type} (n : Nat) (hn : 100 ≤ n) (z : Int) (h0 : -1099511627776 ≤ z) (h1 : z ≤ 1099511627776) (K : Int → Bool → Option R) : words_Number n (Lib.itoa z) K = K z true := by
  by_cases hz : z < 0
  · rw [num_core n hn z.natAbs (by omega) true (fun _ => by omega) K (Lib.itoa z) (fun R K => by
      unfold Lib.itoa
      rw [if_pos hz]
      exact cp_neg n _ K)]
    simp only [if_true]
    congr 1
    omega
  · obtain ⟨d, t, e, _⟩ := (dd_all z.toNat).2.2
    have hb := (dd_all z.toNat).2.1 d (by rw [e]; simp)
    have hd : d ≠ 45 := by rintro rfl; exact absurd hb.1 (by decide)
    rw [num_core n hn z.toNat (by omega) false (fun h => by cases h) K (Lib.itoa z) (fun R K => by
      unfold Lib.itoa
      rw [if_neg hz, e]
      exact cp_pos n hd t K)]
    simp only [Bool.false_eq_true, if_false]
    congr 1
    omega

theorem itoa_ok (z : Int) (h0 : -1099511627776 ≤ z) (h1 : z ≤ 1099511627776) : okW (Lib.itoa z) := by
  have hl := Lib.itoa_length_le z (by omega) (by omega)
  unfold Lib.itoa at hl ⊢
  split
  · rename_i hz
    rw [if_pos hz] at hl
    refine ⟨by simp, by omega, fun b hb => ?_⟩
    simp only [List.mem_cons] at hb
    rcases hb with rfl | hb
    · exact ⟨by decide, by decide, by decide⟩
    · have := (dd_all z.natAbs).2.1 b hb
      exact ⟨by omega, by omega, by omega⟩
  · rename_i hz
    rw [if_neg hz] at hl
    obtain ⟨d, t, e, _⟩ := (dd_all z.toNat).2.2
    refine ⟨by rw [e]; simp, by omega, fun b hb => ?_⟩
    have := (dd_all z.toNat).2.1 b hb
    exact ⟨by omega, by omega, by omega⟩
end Go.Vx
/-
  timetable_parseLine_s1: the pure function
-/
set_option linter.unusedVariables false
namespace Go.Vx
def timetable_parseLine_s1_p1 {R : Type} (n : Nat) (a1 : Int) (a2 : LL) (b0_0 b0_2 b0_3 : Int) (q1 q2 : LL) (k0 : LL → Int → LL → Option R) : Option R :=
 gb true (bif decide (0 ≤ (0 : Int)) && decide ((0 : Int) ≤ (IntKind.wrap .i64 (((List.length a2 : Nat) : Int) - (1 : Int)))) then some () else none) () fun u1 =>
 gb true (room (Int.toNat (IntKind.wrap .i64 (((List.length a2 : Nat) : Int) - (1 : Int))) * 8)) () fun u2 =>
 gb true (slB (List.length a2) (some (1 : Int)) none) (0, 0) fun q3 =>
 k0 (cut a2 q3) ((List.length (cut a2 q3) : Nat) : Int) (List.replicate (Int.toNat (0 : Int)) [D.int .i64 (0 : Int)])
def timetable_parseLine_s1_p2 {R : Type} (n : Nat) (a1 : Int) (a2 w7 : LL) (w8 h14 : Int) (h15 q1 q2 : LL) (b0_0 b0_2 b0_3 : Int) (k0 : Option R) (k1 : Int → LL → Option R) (k2 : Bool → Option R) : Option R :=
 bif (decide (h14 < w8)) then
  gb true (rowAt w7 h14) [] fun r31 =>
  gb true (r31[0]?) (.bool false) fun c32 =>
  gb true (r31[1]?) (.bool false) fun c33 =>
  gb true (r31[2]?) (.bool false) fun c34 =>
  gb true (pStr c32) [] fun s35 =>
  gb true (words_Number n s35 (fun r0 r1 => some (r0, r1))) (0, false) fun r36 =>
  bif (!r36.2) then
   k0
  else
   gb true (room ((List.length h15 + List.length [[D.int .i64 r36.1]]) * 8)) () fun u37 =>
   k1 (IntKind.wrap .i64 (h14 + (1 : Int))) (h15 ++ [[D.int .i64 r36.1]])
 else
  k2 (decide (h14 < w8))
def timetable_parseLine_s1_r3 {R : Type} (n : Nat) (a1 : Int) (a2 w7 : LL) (w8 : Int) (q1 q2 : LL) (b0_0 b0_2 b0_3 : Int) (k0 : Option R) (k1 : Int → Bool → LL → Option R) : Nat → Int → LL → Option R
 | 0, _, _ => none
 | m + 1, h14, h15 =>
  timetable_parseLine_s1_p2 n a1 a2 w7 w8 h14 h15 q1 q2 b0_0 b0_2 b0_3
   (k0)
   (fun w41 w42 =>
   timetable_parseLine_s1_r3 n a1 a2 w7 w8 q1 q2 b0_0 b0_2 b0_3 k0 k1 m w41 w42)
   (fun w43 =>
   k1 h14 w43 h15)
def timetable_parseLine_s1_p4 {R : Type} (n : Nat) (a1 : Int) (a2 w7 : LL) (w8 w44 : Int) (w45 : Bool) (w46 q1 q2 : LL) (b0_0 b0_2 b0_3 : Int) (k0 : Option R) : Option R :=
 k0
def timetable_parseLine_s1_p5 {R : Type} (n : Nat) (a1 : Int) (a2 w7 : LL) (w8 w44 : Int) (w45 : Bool) (w46 q1 q2 : LL) (b0_0 b0_2 b0_3 : Int) (k0 : Bool → LL → Int → Int → Int → Option R) (k1 : Bool → Option R) : Option R :=
 bif (a1 == (0 : Int)) then
  gb true (rowAt a2 (0 : Int)) [] fun r47 =>
  gb true (r47[0]?) (.bool false) fun c48 =>
  gb true (pStr c48) [] fun s49 =>
  bif (bif (!(s49 == (bs [116, 105, 109, 101, 116, 97, 98, 108, 101]))) then true else (((List.length w46 : Nat) : Int) != (3 : Int))) then
   k0 false q1 b0_0 b0_2 b0_3
  else
   gb true (inB (List.length w46) (0 : Int)) () fun u50 =>
   gb true (w46[(Int.toNat (0 : Int))]?) [] fun r51 =>
   gb true (r51[0]?) (.bool false) fun c52 =>
   gb true (pInt .i64 c52) 0 fun i53 =>
   gb true (inB (List.length w46) (1 : Int)) () fun u54 =>
   gb true (w46[(Int.toNat (1 : Int))]?) [] fun r55 =>
   gb true (r55[0]?) (.bool false) fun c56 =>
   gb true (pInt .i64 c56) 0 fun i57 =>
   gb true (inB (List.length w46) (2 : Int)) () fun u58 =>
   gb true (w46[(Int.toNat (2 : Int))]?) [] fun r59 =>
   gb true (r59[0]?) (.bool false) fun c60 =>
   gb true (pInt .i64 c60) 0 fun i61 =>
   k0 true q1 i53 i57 i61
 else
  bif (a1 == (1 : Int)) then
   gb true (rowAt a2 (0 : Int)) [] fun r62 =>
   gb true (r62[0]?) (.bool false) fun c63 =>
   gb true (pStr c63) [] fun s64 =>
   k0 (s64 == (bs [116, 105, 109, 101, 115])) w46 b0_0 b0_2 b0_3
  else
   k1 (a1 == (1 : Int))
def timetable_parseLine_s1_p6 {R : Type} (n : Nat) (a2 : LL) (w76 : Bool) (w46 q1 q2 : LL) (b0_0 b0_2 b0_3 : Int) (k0 : Option R) (k1 : LL → Int → Int → Option R) : Option R :=
 gb true (rowAt a2 (0 : Int)) [] fun r77 =>
 gb true (r77[0]?) (.bool false) fun c78 =>
 gb true (pStr c78) [] fun s79 =>
 bif (bif (!(s79 == (bs [112, 97, 114, 116]))) then true else (((List.length w46 : Nat) : Int) == (0 : Int))) then
  k0
 else
  gb true (inB (List.length w46) (0 : Int)) () fun u80 =>
  gb true (w46[(Int.toNat (0 : Int))]?) [] fun r81 =>
  gb true (r81[0]?) (.bool false) fun c82 =>
  gb true (pInt .i64 c82) 0 fun i83 =>
  gb true (slB (List.length w46) (some (1 : Int)) none) (0, 0) fun q84 =>
  k1 (cut w46 q84) ((List.length (cut w46 q84) : Nat) : Int) i83
def timetable_parseLine_s1_p7 {R : Type} (n : Nat) (w87 : LL) (w88 h92 w89 : Int) (h94 h95 q1 q2 : LL) (b0_0 b0_2 b0_3 : Int) (k0 : Option R) (k1 : Int → LL → LL → Option R) (k2 : Bool → Option R) : Option R :=
 bif (decide (h92 < w88)) then
  gb true (rowAt w87 h92) [] fun r112 =>
  gb true (r112[0]?) (.bool false) fun c113 =>
  gb true (pInt .i64 c113) 0 fun i114 =>
  bif (i114 == (0 : Int)) then
   k0
  else
   bif (decide (i114 < (0 : Int))) then
    gb true (room ((List.length h94 + List.length [[D.int .i64 (IntKind.wrap .i64 ((IntKind.wrap .i64 ((-1 : Int) * i114)) - (1 : Int)))]]) * 8)) () fun u115 =>
    gb true (room ((List.length h95 + List.length [[D.int .i64 (-1 : Int)]]) * 8)) () fun u116 =>
    k1 (IntKind.wrap .i64 (h92 + (1 : Int))) (h94 ++ [[D.int .i64 (IntKind.wrap .i64 ((IntKind.wrap .i64 ((-1 : Int) * i114)) - (1 : Int)))]]) (h95 ++ [[D.int .i64 (-1 : Int)]])
   else
    gb true (room ((List.length h94 + List.length [[D.int .i64 (IntKind.wrap .i64 ((IntKind.wrap .i64 ((1 : Int) * i114)) - (1 : Int)))]]) * 8)) () fun u117 =>
    gb true (room ((List.length h95 + List.length [[D.int .i64 (1 : Int)]]) * 8)) () fun u118 =>
    k1 (IntKind.wrap .i64 (h92 + (1 : Int))) (h94 ++ [[D.int .i64 (IntKind.wrap .i64 ((IntKind.wrap .i64 ((1 : Int) * i114)) - (1 : Int)))]]) (h95 ++ [[D.int .i64 (1 : Int)]])
 else
  k2 (decide (h92 < w88))
def timetable_parseLine_s1_r8 {R : Type} (n : Nat) (w87 : LL) (w88 w89 : Int) (q1 q2 : LL) (b0_0 b0_2 b0_3 : Int) (k0 : Option R) (k1 : Int → Bool → LL → LL → Option R) : Nat → Int → LL → LL → Option R
 | 0, _, _, _ => none
 | m + 1, h92, h94, h95 =>
  timetable_parseLine_s1_p7 n w87 w88 h92 w89 h94 h95 q1 q2 b0_0 b0_2 b0_3
   (k0)
   (fun w123 w124 w125 =>
   timetable_parseLine_s1_r8 n w87 w88 w89 q1 q2 b0_0 b0_2 b0_3 k0 k1 m w123 w124 w125)
   (fun w126 =>
   k1 h92 w126 h94 h95)
def timetable_parseLine_s1_p9 {R : Type} (n : Nat) (w87 : LL) (w88 w127 : Int) (w128 : Bool) (w89 : Int) (w129 w130 q1 q2 : LL) (b0_0 b0_2 b0_3 : Int) (k0 : LL → Option R) : Option R :=
 gb true (room ((List.length q2 + List.length [[D.sl 1 w129, D.sl 1 w130, D.int .i64 w89]]) * 56)) () fun u131 =>
 k0 (q2 ++ [[D.sl 1 w129, D.sl 1 w130, D.int .i64 w89]])
def timetable_parseLine_s1_p10 {R : Type} (n : Nat) (a1 : Int) (a2 : LL) (b0_0 b0_2 b0_3 : Int) (q1 q2 : LL) (k0 : Bool → LL → LL → Int → Int → Int → Option R) : Option R :=
 timetable_parseLine_s1_p1 n a1 a2 b0_0 b0_2 b0_3 q1 q2
  (fun w7 w8 w9 =>
  timetable_parseLine_s1_r3 n a1 a2 w7 w8 q1 q2 b0_0 b0_2 b0_3
   (k0 false q1 q2 b0_0 b0_2 b0_3)
   (fun w44 w45 w46 =>
   timetable_parseLine_s1_p4 n a1 a2 w7 w8 w44 w45 w46 q1 q2 b0_0 b0_2 b0_3
    (timetable_parseLine_s1_p5 n a1 a2 w7 w8 w44 w45 w46 q1 q2 b0_0 b0_2 b0_3
     (fun w71 w72 w73 w74 w75 =>
     k0 w71 w72 q2 w73 w74 w75)
     (fun w76 =>
     timetable_parseLine_s1_p6 n a2 w76 w46 q1 q2 b0_0 b0_2 b0_3
      (k0 false q1 q2 b0_0 b0_2 b0_3)
      (fun w87 w88 w89 =>
      timetable_parseLine_s1_r8 n w87 w88 w89 q1 q2 b0_0 b0_2 b0_3
       (k0 false q1 q2 b0_0 b0_2 b0_3)
       (fun w127 w128 w129 w130 =>
       timetable_parseLine_s1_p9 n w87 w88 w127 w128 w89 w129 w130 q1 q2 b0_0 b0_2 b0_3
        (fun w133 =>
        k0 true q1 w133 b0_0 b0_2 b0_3))
       n (0 : Int) [] []))))
   n (0 : Int) w9)
def timetable_parseLine_s1 {R : Type} (n : Nat) (b0_0 : Int) (q1 : LL) (b0_2 b0_3 : Int) (q2 : LL) (a1 : Int) (a2 : LL) (K : Bool → Int → LL → Int → Int → LL → Option R) : Option R :=
 timetable_parseLine_s1_p10 n a1 a2 b0_0 b0_2 b0_3 q1 q2
  (fun z134 z135 z136 z137 z138 z139 => K z134 z137 z135 z138 z139 z136)
end Go.Vx
/-
  timetable_Parse: the pure function
-/
set_option linter.unusedVariables false
namespace Go.Vx
def timetable_Parse_p1 {R : Type} (n : Nat) (a0 : List UInt8) (k0 : Int → Int → Option R) (k1 : LL → Int → Option R) : Option R :=
 gb true (words_Lines n a0 (fun r0 r1 r2 => some (r0, r1, r2))) ([], 0, 0) fun r1 =>
 bif (r1.2.2 != (0 : Int)) then
  k0 r1.2.1 r1.2.2
 else
  k1 r1.1 ((List.length r1.1 : Nat) : Int)
def timetable_Parse_p2 {R : Type} (n : Nat) (w8 : LL) (w9 h13 h17 h18 h19 : Int) (h20 h21 : LL) (k0 : Int → Option R) (k1 : Int → Int → Int → Int → LL → LL → Option R) (k2 : Bool → Option R) : Option R :=
 bif (decide (h13 < w9)) then
  gb true (rowAt w8 h13) [] fun r36 =>
  gb true (r36[0]?) (.bool false) fun c37 =>
  gb true (pSl 3 c37) [] fun l38 =>
  gb true (timetable_parseLine_s1 n h17 h20 h18 h19 h21 h13 l38 (fun r0 r1 r2 r3 r4 r5 => some (r0, r1, r2, r3, r4, r5))) (false, 0, [], 0, 0, []) fun r39 =>
  bif (!r39.1) then
   gb true (rowAt l38 (0 : Int)) [] fun r40 =>
   gb true (r40[1]?) (.bool false) fun c41 =>
   gb true (pInt .i64 c41) 0 fun i42 =>
   k0 i42
  else
   k1 (IntKind.wrap .i64 (h13 + (1 : Int))) r39.2.1 r39.2.2.2.1 r39.2.2.2.2.1 r39.2.2.1 r39.2.2.2.2.2
 else
  k2 (decide (h13 < w9))
def timetable_Parse_r3 {R : Type} (n : Nat) (w8 : LL) (w9 : Int) (k0 : Int → Option R) (k1 : Int → Bool → Int → Int → Int → LL → LL → Option R) : Nat → Int → Int → Int → Int → LL → LL → Option R
 | 0, _, _, _, _, _, _ => none
 | m + 1, h13, h17, h18, h19, h20, h21 =>
  timetable_Parse_p2 n w8 w9 h13 h17 h18 h19 h20 h21
   (fun w50 =>
   k0 w50)
   (fun w51 w52 w53 w54 w55 w56 =>
   timetable_Parse_r3 n w8 w9 k0 k1 m w51 w52 w53 w54 w55 w56)
   (fun w57 =>
   k1 h13 w57 h17 h18 h19 h20 h21)
def timetable_Parse_p4 {R : Type} (n : Nat) (w8 : LL) (w9 w59 : Int) (w60 : Bool) (w61 w62 w63 : Int) (w64 w65 : LL) (k0 : Option R) (k1 : Option R) : Option R :=
 bif (decide (((List.length w8 : Nat) : Int) < (2 : Int))) then
  k0
 else
  k1
def timetable_Parse_p5 {R : Type} (n : Nat) (a0 : List UInt8) (k0 : Int → Int → Option R) (k1 : Int → Int → Int → LL → LL → Option R) : Option R :=
 timetable_Parse_p1 n a0
  (fun w6 w7 =>
  k0 w6 w7)
  (fun w8 w9 =>
  timetable_Parse_r3 n w8 w9
   (fun w58 =>
   k0 w58 (2 : Int))
   (fun w59 w60 w61 w62 w63 w64 w65 =>
   timetable_Parse_p4 n w8 w9 w59 w60 w61 w62 w63 w64 w65
    (k0 (0 : Int) (2 : Int))
    (k1 w61 w62 w63 w64 w65))
   n (0 : Int) (0 : Int) (0 : Int) (0 : Int) [] [])
def timetable_Parse {R : Type} (n : Nat) (a0 : List UInt8) (K : Int → LL → Int → Int → LL → Int → Int → Option R) : Option R :=
 timetable_Parse_p5 n a0
  (fun z66 z67 => K (0 : Int) [] (0 : Int) (0 : Int) [] z66 z67)
  (fun w61 w62 w63 w64 w65 => K w61 w64 w62 w63 w65 (0 : Int) (0 : Int))
end Go.Vx
/-
  law23_awake: the pure function
-/
set_option linter.unusedVariables false
namespace Go.Vx
def law23_awake {R : Type} (n : Nat)  (K : Bool → Option R) : Option R :=
 gb true (timetable_Parse n [] (fun r0 r1 r2 r3 r4 r5 r6 => some (r0, r1, r2, r3, r4, r5, r6))) (0, [], 0, 0, [], 0, 0) fun r1 =>
 K (bif (r1.2.2.2.2.2.1 == (0 : Int)) then (r1.2.2.2.2.2.2 == (2 : Int)) else false)
end Go.Vx
/-
  keep_Same_int: the pure function
-/
set_option linter.unusedVariables false
namespace Go.Vx
def keep_Same_int_p1 {R : Type} (n : Nat) (a0 a1 : LL) (k0 : Option R) (k1 : Int → Option R) : Option R :=
 bif (((List.length a0 : Nat) : Int) != ((List.length a1 : Nat) : Int)) then
  k0
 else
  k1 ((List.length a0 : Nat) : Int)
def keep_Same_int_p2 {R : Type} (n : Nat) (a0 a1 : LL) (w2 h6 : Int) (k0 : Option R) (k1 : Int → Option R) (k2 : Bool → Option R) : Option R :=
 bif (decide (h6 < w2)) then
  gb true (rowAt a0 h6) [] fun r15 =>
  gb true (r15[0]?) (.bool false) fun c16 =>
  gb true (pInt .i64 c16) 0 fun i17 =>
  gb true (rowAt a1 h6) [] fun r18 =>
  gb true (r18[0]?) (.bool false) fun c19 =>
  gb true (pInt .i64 c19) 0 fun i20 =>
  bif (i17 != i20) then
   k0
  else
   k1 (IntKind.wrap .i64 (h6 + (1 : Int)))
 else
  k2 (decide (h6 < w2))
def keep_Same_int_r3 {R : Type} (n : Nat) (a0 a1 : LL) (w2 : Int) (k0 : Option R) (k1 : Int → Bool → Option R) : Nat → Int → Option R
 | 0, _ => none
 | m + 1, h6 =>
  keep_Same_int_p2 n a0 a1 w2 h6
   (k0)
   (fun w23 =>
   keep_Same_int_r3 n a0 a1 w2 k0 k1 m w23)
   (fun w24 =>
   k1 h6 w24)
def keep_Same_int_p4 {R : Type} (n : Nat) (a0 a1 : LL) (w2 w25 : Int) (w26 : Bool) (k0 : Option R) : Option R :=
 k0
def keep_Same_int_p5 {R : Type} (n : Nat) (a0 a1 : LL) (k0 : Bool → Option R) : Option R :=
 keep_Same_int_p1 n a0 a1
  (k0 false)
  (fun w2 =>
  keep_Same_int_r3 n a0 a1 w2
   (k0 false)
   (fun w25 w26 =>
   keep_Same_int_p4 n a0 a1 w2 w25 w26
    (k0 true))
   n (0 : Int))
def keep_Same_int {R : Type} (n : Nat) (a0 a1 : LL) (K : Bool → Option R) : Option R :=
 keep_Same_int_p5 n a0 a1
  (fun z27 => K z27)
end Go.Vx
/-
  keep_SameCycle: the pure function
-/
set_option linter.unusedVariables false
namespace Go.Vx
def keep_SameCycle {R : Type} (n : Nat) (a0_0 a0_1 a1_0 a1_1 : LL) (K : Bool → Option R) : Option R :=
 gb true (keep_Same_int n a0_0 a1_0 some) false fun r1 =>
 gb r1 (keep_Same_int n a0_1 a1_1 some) false fun r2 =>
 K (bif r1 then r2 else false)
end Go.Vx
/-
  keep_SameParts: the pure function
-/
set_option linter.unusedVariables false
namespace Go.Vx
def keep_SameParts_p1 {R : Type} (n : Nat) (a0 a1 : LL) (k0 : Option R) (k1 : Int → Option R) : Option R :=
 bif (((List.length a0 : Nat) : Int) != ((List.length a1 : Nat) : Int)) then
  k0
 else
  k1 ((List.length a0 : Nat) : Int)
def keep_SameParts_p2 {R : Type} (n : Nat) (a0 a1 : LL) (w2 h6 : Int) (k0 : Option R) (k1 : Int → Option R) (k2 : Bool → Option R) : Option R :=
 bif (decide (h6 < w2)) then
  gb true (rowAt a0 h6) [] fun r26 =>
  gb true (r26[2]?) (.bool false) fun c27 =>
  gb true (pInt .i64 c27) 0 fun i28 =>
  gb true (rowAt a1 h6) [] fun r29 =>
  gb true (r29[2]?) (.bool false) fun c30 =>
  gb true (pInt .i64 c30) 0 fun i31 =>
  gb (!(i28 != i31)) (rowAt a0 h6) [] fun r32 =>
  gb (!(i28 != i31)) (r32[0]?) (.bool false) fun c33 =>
  gb (!(i28 != i31)) (r32[1]?) (.bool false) fun c34 =>
  gb (!(i28 != i31)) (rowAt a1 h6) [] fun r35 =>
  gb (!(i28 != i31)) (r35[0]?) (.bool false) fun c36 =>
  gb (!(i28 != i31)) (r35[1]?) (.bool false) fun c37 =>
  gb (!(i28 != i31)) (pSl 1 c33) [] fun l38 =>
  gb (!(i28 != i31)) (pSl 1 c34) [] fun l39 =>
  gb (!(i28 != i31)) (pSl 1 c36) [] fun l40 =>
  gb (!(i28 != i31)) (pSl 1 c37) [] fun l41 =>
  gb (!(i28 != i31)) (keep_SameCycle n l38 l39 l40 l41 some) false fun r42 =>
  bif (bif (i28 != i31) then true else (!r42)) then
   k0
  else
   k1 (IntKind.wrap .i64 (h6 + (1 : Int)))
 else
  k2 (decide (h6 < w2))
def keep_SameParts_r3 {R : Type} (n : Nat) (a0 a1 : LL) (w2 : Int) (k0 : Option R) (k1 : Int → Bool → Option R) : Nat → Int → Option R
 | 0, _ => none
 | m + 1, h6 =>
  keep_SameParts_p2 n a0 a1 w2 h6
   (k0)
   (fun w45 =>
   keep_SameParts_r3 n a0 a1 w2 k0 k1 m w45)
   (fun w46 =>
   k1 h6 w46)
def keep_SameParts_p4 {R : Type} (n : Nat) (a0 a1 : LL) (w2 w47 : Int) (w48 : Bool) (k0 : Option R) : Option R :=
 k0
def keep_SameParts_p5 {R : Type} (n : Nat) (a0 a1 : LL) (k0 : Bool → Option R) : Option R :=
 keep_SameParts_p1 n a0 a1
  (k0 false)
  (fun w2 =>
  keep_SameParts_r3 n a0 a1 w2
   (k0 false)
   (fun w47 w48 =>
   keep_SameParts_p4 n a0 a1 w2 w47 w48
    (k0 true))
   n (0 : Int))
def keep_SameParts {R : Type} (n : Nat) (a0 a1 : LL) (K : Bool → Option R) : Option R :=
 keep_SameParts_p5 n a0 a1
  (fun z49 => K z49)
end Go.Vx
/-
  keep_SameTimetable: the pure function
-/
set_option linter.unusedVariables false
namespace Go.Vx
def keep_SameTimetable {R : Type} (n : Nat) (a0_0 : Int) (a0_1 : LL) (a0_2 a0_3 : Int) (a0_4 : LL) (a1_0 : Int) (a1_1 : LL) (a1_2 a1_3 : Int) (a1_4 : LL) (K : Bool → Option R) : Option R :=
 gb (a0_0 == a1_0) (keep_Same_int n a0_1 a1_1 some) false fun r1 =>
 gb (bif (bif (bif (a0_0 == a1_0) then r1 else false) then (a0_2 == a1_2) else false) then (a0_3 == a1_3) else false) (keep_SameParts n a0_4 a1_4 some) false fun r2 =>
 K (bif (bif (bif (bif (a0_0 == a1_0) then r1 else false) then (a0_2 == a1_2) else false) then (a0_3 == a1_3) else false) then r2 else false)
end Go.Vx
/-
  Plain law: Parse reads the timetable back.
-/
set_option linter.unusedSimpArgs false
set_option linter.unusedVariables false
namespace Go.Vx

def kwT : List UInt8 := [116, 105, 109, 101, 116, 97, 98, 108, 101]
def kwS : List UInt8 := [116, 105, 109, 101, 115]
def kwP : List UInt8 := [112, 97, 114, 116]
theorem kwT_ok : okW kwT := ⟨by decide, by decide, by unfold isPart; decide⟩
theorem kwS_ok : okW kwS := ⟨by decide, by decide, by unfold isPart; decide⟩
theorem kwP_ok : okW kwP := ⟨by decide, by decide, by unfold isPart; decide⟩

def nums (al sl : List Int) : List Int := (al.zip sl).map fun x => x.2 * (x.1 + 1)
def lnP (q : List Int × List Int × Int) : List (List UInt8) := kwP :: (q.2.2 :: nums q.1 q.2.1).map Lib.itoa
def lnS (ts : List Int) : List (List UInt8) := kwS :: ts.map Lib.itoa
def lnT (per cost bound : Int) : List (List UInt8) := kwT :: [per, cost, bound].map Lib.itoa
def fmtL (t : SomeT) : List (List (List UInt8)) := lnT t.per t.cost t.bound :: lnS t.times :: t.parts.map lnP

theorem rowAt_nat (w : LL) (i : Nat) : rowAt w (i : Int) = w[i]? := by simp [rowAt]
def rng (z : Int) : Prop := -1099511627776 ≤ z ∧ z ≤ 1099511627776

theorem line_ok {kw : List UInt8} (hk : okW kw) {zs : List Int} (hz : ∀ z ∈ zs, rng z) (hl : zs.length ≤ 60) : okL (kw :: zs.map Lib.itoa) := by
  refine ⟨by simp, by simp; omega, fun s hs => ?_⟩
  simp only [List.mem_cons, List.mem_map] at hs
  rcases hs with rfl | ⟨z, h1, rfl⟩
  · exact hk
  · exact itoa_ok z (hz z h1).1 (hz z h1).2

theorem pl_nums {R : Type} (n : Nat) (hn : 100 ≤ n) (a1 : Int) (a2 w7 q1 q2 : LL) (b0 b2 b3 : Int) (k0 : Option R) (k1 : Int → Bool → LL → Option R) (zs : List Int) (hz : ∀ z ∈ zs, rng z) (hl : zs.length ≤ 60)
    (hrow : ∀ (i : Nat) (z : Int), zs[i]? = some z → ∃ a c, w7[i]? = some [D.str (Lib.itoa z), D.int .i64 a, D.int .i64 c]) : ∀ (suf : List Int) (m i : Nat) (dn : List Int), suf.length < m → zs.drop i = suf → i ≤ zs.length → dn.length + suf.length ≤ 60 →
    timetable_parseLine_s1_r3 n a1 a2 w7 (zs.length : Int) q1 q2 b0 b2 b3 k0 k1 m (i : Int) (encI dn) = k1 (zs.length : Int) false (encI (dn ++ suf))
  | [], m + 1, i, dn, _, hd, hi, _ => by
    have hi2 : i = zs.length := by have := drop_nil hd; omega
    subst hi2
    rw [timetable_parseLine_s1_r3, timetable_parseLine_s1_p2, dge (by omega), List.append_nil]
    rfl
  | z :: suf, m + 1, i, dn, hm, hd, hi, hb => by
    obtain ⟨g, hd2, hlt⟩ := drop_at hd
    obtain ⟨a, c, hr⟩ := hrow i z g
    have hzr := hz z (List.mem_of_getElem? g)
    rw [timetable_parseLine_s1_r3, timetable_parseLine_s1_p2, dlt hlt]
    simp -implicitDefEqProofs only [cond_true, rowAt_nat, hr, gb_some_eq, List.getElem?_cons_zero, List.getElem?_cons_succ, pStr_s, num_law n hn z hzr.1 hzr.2, Bool.not_true, cond_false]
    rw [room_ok (by simp [encI_length]; simp at hb; omega)]
    simp -implicitDefEqProofs only [gb_some_eq]
    rw [winc hlt (by omega), encI_app, pl_nums n hn a1 a2 w7 q1 q2 b0 b2 b3 k0 k1 zs hz hl hrow suf m (i + 1) _ (by simp at hm; omega) hd2 (by omega) (by simp at hb ⊢; omega)]
    simp

theorem pl_arcs {R : Type} (n : Nat) (w89 : Int) (q1 q2 : LL) (b0 b2 b3 : Int) (k0 : Option R) (k1 : Int → Bool → LL → LL → Option R) (ns : List Int) (hl : ns.length ≤ 60) : ∀ (al sl : List Int) (m i : Nat) (da ds : List Int), sl.length = al.length → al.length < m → ns.drop i = nums al sl → i ≤ ns.length → da.length + al.length ≤ 60 → ds.length + al.length ≤ 60 → okA al sl →
    timetable_parseLine_s1_r8 n (encI ns) (ns.length : Int) w89 q1 q2 b0 b2 b3 k0 k1 m (i : Int) (encI da) (encI ds) = k1 (ns.length : Int) false (encI (da ++ al)) (encI (ds ++ sl))
  | [], [], m + 1, i, da, ds, _, _, hd, hi, _, _, _ => by
    have hi2 : i = ns.length := by have := drop_nil (show ns.drop i = [] from hd); omega
    subst hi2
    rw [timetable_parseLine_s1_r8, timetable_parseLine_s1_p7, dge (by omega), List.append_nil, List.append_nil]
    rfl
  | a :: al, s :: sl, m + 1, i, da, ds, hs, hm, hd, hi, h1, h2, ho => by
    have hd' : ns.drop i = (s * (a + 1)) :: nums al sl := hd
    obtain ⟨g, hd2, hlt⟩ := drop_at hd'
    have ha := ho.1 a (by simp)
    have hs1 := ho.2 s (by simp)
    simp only [List.length_cons] at hs hm h1 h2
    have ih := pl_arcs n w89 q1 q2 b0 b2 b3 k0 k1 ns hl al sl m (i + 1) (da ++ [a]) (ds ++ [s]) (by omega) (by omega) hd2 (by omega) (by simp; omega) (by simp; omega) ⟨fun x hx => ho.1 x (by simp [hx]), fun x hx => ho.2 x (by simp [hx])⟩
    rw [timetable_parseLine_s1_r8, timetable_parseLine_s1_p7, dlt hlt]
    simp -implicitDefEqProofs only [cond_true, encI_get g, gb_some_eq, List.getElem?_cons_zero, pInt_i64]
    rcases hs1 with rfl | rfl
    · rw [show ((1 : Int) * (a + 1) == 0) = false from by simp; omega, show decide ((1 : Int) * (a + 1) < 0) = false from by simp; omega]
      simp -implicitDefEqProofs only [cond_false]
      rw [room_ok (by simp [encI_length]; omega), room_ok (by simp [encI_length]; omega)]
      simp -implicitDefEqProofs only [gb_some_eq]
      rw [show IntKind.wrap .i64 (IntKind.wrap .i64 (1 * (1 * (a + 1))) - 1) = a from by rw [wrap64' (x := 1 * (1 * (a + 1))) (by omega) (by omega), wrap64' (by omega) (by omega)]; omega]
      rw [winc hlt (by omega), encI_app, encI_app, ih]
      simp
    · rw [show ((-1 : Int) * (a + 1) == 0) = false from by simp; omega, show decide ((-1 : Int) * (a + 1) < 0) = true from by simp; omega]
      simp -implicitDefEqProofs only [cond_true, cond_false]
      rw [room_ok (by simp [encI_length]; omega), room_ok (by simp [encI_length]; omega)]
      simp -implicitDefEqProofs only [gb_some_eq]
      rw [show IntKind.wrap .i64 (IntKind.wrap .i64 (-1 * (-1 * (a + 1))) - 1) = a from by rw [wrap64' (x := -1 * (-1 * (a + 1))) (by omega) (by omega), wrap64' (by omega) (by omega)]; omega]
      rw [winc hlt (by omega), encI_app, encI_app, ih]
      simp

/-- The beginning of parseLine: the numbers behind the keyword. -/
theorem pl_head {R : Type} (n : Nat) (hn : 100 ≤ n) (num a1 : Int) (kw : List UInt8) (zs : List Int) (hz : ∀ z ∈ zs, rng z) (hl : zs.length ≤ 60) (b0 b2 b3 : Int) (q1 q2 : LL) (k0 : Bool → LL → LL → Int → Int → Int → Option R) :
    timetable_parseLine_s1_p10 n a1 (wds num 0 (kw :: zs.map Lib.itoa)) b0 b2 b3 q1 q2 k0 =
      timetable_parseLine_s1_p5 n a1 (wds num 0 (kw :: zs.map Lib.itoa)) (cut (wds num 0 (kw :: zs.map Lib.itoa)) (1, zs.length + 1)) (zs.length : Int) (zs.length : Int) false (encI zs) q1 q2 b0 b2 b3
        (fun w71 w72 w73 w74 w75 => k0 w71 w72 q2 w73 w74 w75)
        (fun w76 => timetable_parseLine_s1_p6 n (wds num 0 (kw :: zs.map Lib.itoa)) w76 (encI zs) q1 q2 b0 b2 b3 (k0 false q1 q2 b0 b2 b3)
          (fun w87 w88 w89 => timetable_parseLine_s1_r8 n w87 w88 w89 q1 q2 b0 b2 b3 (k0 false q1 q2 b0 b2 b3)
            (fun w127 w128 w129 w130 => timetable_parseLine_s1_p9 n w87 w88 w127 w128 w89 w129 w130 q1 q2 b0 b2 b3 (fun w133 => k0 true q1 w133 b0 b2 b3)) n (0 : Int) [] [])) := by
  have hL : (wds num 0 (kw :: zs.map Lib.itoa)).length = zs.length + 1 := by rw [wds_len]; simp
  have hcl : (cut (wds num 0 (kw :: zs.map Lib.itoa)) (1, zs.length + 1)).length = zs.length := by simp [cut, hL]
  have hrow : ∀ (i : Nat) (z : Int), zs[i]? = some z → ∃ a c, (cut (wds num 0 (kw :: zs.map Lib.itoa)) (1, zs.length + 1))[i]? = some [D.str (Lib.itoa z), D.int .i64 a, D.int .i64 c] := by
    intro i z hi
    have hlt := (List.getElem?_eq_some_iff.1 hi).1
    obtain ⟨c, hc⟩ := wds_get num 0 (kw :: zs.map Lib.itoa) (i + 1) (Lib.itoa z) (by simp [hi])
    refine ⟨num, c, ?_⟩
    unfold cut
    rw [List.getElem?_take_of_lt (by omega), List.getElem?_drop, Nat.add_comm 1 i]
    exact hc
  unfold timetable_parseLine_s1_p10 timetable_parseLine_s1_p1
  rw [hL]
  rw [show IntKind.wrap .i64 (((zs.length + 1 : Nat) : Int) - 1) = ((zs.length : Nat) : Int) from by rw [wrap64' (by omega) (by omega)]; omega]
  rw [show (bif decide ((0 : Int) ≤ 0) && decide ((0 : Int) ≤ ((zs.length : Nat) : Int)) then some () else (none : Option Unit)) = some () from by simp]
  simp -implicitDefEqProofs only [gb_some_eq]
  rw [room_ok (by simp; omega)]
  simp -implicitDefEqProofs only [gb_some_eq]
  rw [show slB (zs.length + 1) (some 1) none = some (1, zs.length + 1) from by
    unfold slB
    simp only [Option.getD_some, Option.getD_none]
    rw [show (decide ((0 : Int) ≤ 1) && (decide ((1 : Int) ≤ ((zs.length + 1 : Nat) : Int)) && decide (((zs.length + 1 : Nat) : Int) ≤ ((zs.length + 1 : Nat) : Int)))) = true from by simp; omega]
    simp]
  simp -implicitDefEqProofs only [gb_some_eq]
  rw [hcl]
  have h := pl_nums (R := R) n hn a1 (wds num 0 (kw :: zs.map Lib.itoa)) (cut (wds num 0 (kw :: zs.map Lib.itoa)) (1, zs.length + 1)) q1 q2 b0 b2 b3
  rw [show List.replicate (Int.toNat 0) [D.int .i64 (0 : Int)] = encI [] from rfl, show (0 : Int) = ((0 : Nat) : Int) from rfl, h _ _ zs hz hl hrow zs n 0 [] (by omega) rfl (Nat.zero_le _) (by simp; omega)]
  rfl

theorem row0 (num : Int) (kw : List UInt8) (l : List (List UInt8)) : rowAt (wds num 0 (kw :: l)) 0 = some [D.str kw, D.int .i64 num, D.int .i64 ((0 + 1 : Nat) : Int)] := rfl

theorem pl_zero {R : Type} (n : Nat) (hn : 100 ≤ n) (num x y z b0 b2 b3 : Int) (hx : rng x) (hy : rng y) (hz : rng z) (q1 q2 : LL) (K : Bool → Int → LL → Int → Int → LL → Option R) : timetable_parseLine_s1 n b0 q1 b2 b3 q2 0 (wds num 0 (lnT x y z)) K = K true x q1 y z q2 := by
  unfold timetable_parseLine_s1 lnT
  rw [pl_head n hn num 0 kwT [x, y, z] (fun w hw => by simp at hw; rcases hw with rfl | rfl | rfl <;> assumption) (by simp)]
  unfold timetable_parseLine_s1_p5
  rw [show ((0 : Int) == 0) = true from rfl]
  simp -implicitDefEqProofs only [cond_true, row0, gb_some_eq, List.getElem?_cons_zero, pStr_s]
  rfl

theorem pl_one {R : Type} (n : Nat) (hn : 100 ≤ n) (num b0 b2 b3 : Int) (ts : List Int) (hz : ∀ z ∈ ts, rng z) (hl : ts.length ≤ 60) (q1 q2 : LL) (K : Bool → Int → LL → Int → Int → LL → Option R) : timetable_parseLine_s1 n b0 q1 b2 b3 q2 1 (wds num 0 (lnS ts)) K = K true b0 (encI ts) b2 b3 q2 := by
  unfold timetable_parseLine_s1 lnS
  rw [pl_head n hn num 1 kwS ts hz hl]
  unfold timetable_parseLine_s1_p5
  rw [show ((1 : Int) == 0) = false from rfl, show ((1 : Int) == 1) = true from rfl]
  simp -implicitDefEqProofs only [cond_true, cond_false, row0, gb_some_eq, List.getElem?_cons_zero, pStr_s]
  rfl

theorem nums_len {al sl : List Int} (h : sl.length = al.length) : (nums al sl).length = al.length := by simp [nums, h]
theorem nums_rng {al sl : List Int} (h : okA al sl) : ∀ z ∈ nums al sl, rng z := by
  intro z hz
  simp only [nums, List.mem_map] at hz
  obtain ⟨⟨a, s⟩, h1, rfl⟩ := hz
  have ha := h.1 a (List.of_mem_zip h1).1
  have hs := h.2 s (List.of_mem_zip h1).2
  show rng (s * (a + 1))
  unfold rng
  rcases hs with rfl | rfl <;> omega

theorem pl_more {R : Type} (n : Nat) (hn : 100 ≤ n) (num b0 b2 b3 : Int) (i : Nat) (hi : 2 ≤ i) (q : List Int × List Int × Int) (hq : okP q) (q1 : LL) (dn : List (List Int × List Int × Int)) (hd : dn.length ≤ 1000) (K : Bool → Int → LL → Int → Int → LL → Option R) :
    timetable_parseLine_s1 n b0 q1 b2 b3 (encP dn) (i : Int) (wds num 0 (lnP q)) K = K true b0 q1 b2 b3 (encP (dn ++ [q])) := by
  obtain ⟨al, sl, mu⟩ := q
  obtain ⟨h1, h2, h3, h4, h5⟩ := hq
  simp only at h1 h2 h3 h4 h5
  have hnl := nums_len h2
  unfold timetable_parseLine_s1 lnP
  dsimp only
  rw [pl_head n hn num i kwP (mu :: nums al sl) (fun z hz => by
    simp only [List.mem_cons] at hz
    rcases hz with rfl | hz
    · exact ⟨by omega, by omega⟩
    · exact nums_rng h3 z hz) (by simp; omega)]
  unfold timetable_parseLine_s1_p5
  rw [show ((i : Int) == 0) = false from by simp; omega, show ((i : Int) == 1) = false from by simp; omega]
  simp -implicitDefEqProofs only [cond_false]
  unfold timetable_parseLine_s1_p6
  simp -implicitDefEqProofs only [row0, gb_some_eq, List.getElem?_cons_zero, pStr_s]
  rw [show (bif !(kwP == bs [112, 97, 114, 116]) then true else (((List.length (encI (mu :: nums al sl)) : Nat) : Int) == 0)) = false from by
    rw [show (kwP == bs [112, 97, 114, 116]) = true from rfl]
    simp [encI]
    omega]
  simp -implicitDefEqProofs only [cond_false]
  rw [inB_ok (by omega) (by simp [encI_length])]
  simp -implicitDefEqProofs only [gb_some_eq]
  rw [show (encI (mu :: nums al sl))[Int.toNat 0]? = some [D.int .i64 mu] from rfl]
  simp -implicitDefEqProofs only [gb_some_eq, List.getElem?_cons_zero, pInt_i64]
  rw [show slB (List.length (encI (mu :: nums al sl))) (some 1) none = some (1, (nums al sl).length + 1) from by
    unfold slB
    simp only [Option.getD_some, Option.getD_none, encI_length, List.length_cons]
    rw [show (decide ((0 : Int) ≤ 1) && (decide ((1 : Int) ≤ (((nums al sl).length + 1 : Nat) : Int)) && decide ((((nums al sl).length + 1 : Nat) : Int) ≤ (((nums al sl).length + 1 : Nat) : Int)))) = true from by simp; omega]
    simp]
  simp -implicitDefEqProofs only [gb_some_eq]
  rw [show cut (encI (mu :: nums al sl)) (1, (nums al sl).length + 1) = encI (nums al sl) from by
    simp only [cut, encI, List.map_cons, List.drop_succ_cons, List.drop_zero]
    exact List.take_of_length_le (by simp)]
  rw [encI_length]
  have h := pl_arcs (R := R) n mu q1 (encP dn) b0 b2 b3
  rw [show (0 : Int) = ((0 : Nat) : Int) from rfl, show ([] : LL) = encI [] from rfl, h _ _ (nums al sl) (by omega) al sl n 0 [] [] h2 (by omega) rfl (Nat.zero_le _) (by simp; omega) (by simp; omega) h3]
  unfold timetable_parseLine_s1_p9
  rw [room_ok (by simp [encP]; omega)]
  simp -implicitDefEqProofs only [gb_some_eq, List.nil_append]
  rw [encP_app]

theorem parse_parts {R : Type} (n : Nat) (hn : 100 ≤ n) (t : SomeT) (k0 : Int → Option R) (k1 : Int → Bool → Int → Int → Int → LL → LL → Option R) : ∀ (suf : List (List Int × List Int × Int)) (m i : Nat) (dn : List (List Int × List Int × Int)), suf.length < m → t.parts.drop i = suf → i ≤ t.parts.length → dn.length = i →
    timetable_Parse_r3 n (lnD 0 (fmtL t)) ((t.parts.length + 2 : Nat) : Int) k0 k1 m ((i + 2 : Nat) : Int) t.per t.cost t.bound (encI t.times) (encP dn) = k1 ((t.parts.length + 2 : Nat) : Int) false t.per t.cost t.bound (encI t.times) (encP (dn ++ suf))
  | [], m + 1, i, dn, _, hd, hi, _ => by
    have hi2 : i = t.parts.length := by have := drop_nil hd; omega
    subst hi2
    rw [timetable_Parse_r3, timetable_Parse_p2, dge (by omega), List.append_nil]
    rfl
  | q :: suf, m + 1, i, dn, hm, hd, hi, hdn => by
    obtain ⟨g, hd2, hlt⟩ := drop_at hd
    have hq := t.q0.2 q (List.mem_of_getElem? g)
    have h3 := t.q0.1
    have hrow : (lnD 0 (fmtL t))[i + 2]? = some [D.sl 3 (wds ((0 + (i + 2) + 1 : Nat) : Int) 0 (lnP q))] := lnD_get 0 (fmtL t) (i + 2) (lnP q) (by simp [fmtL, g])
    rw [timetable_Parse_r3, timetable_Parse_p2, dlt (by omega)]
    simp -implicitDefEqProofs only [cond_true, rowAt_nat, hrow, gb_some_eq, List.getElem?_cons_zero, pSl_s]
    rw [pl_more n hn _ t.per t.cost t.bound (i + 2) (by omega) q hq (encI t.times) dn (by omega)]
    simp -implicitDefEqProofs only [gb_some_eq, Bool.not_true, cond_false]
    rw [show IntKind.wrap .i64 (((i + 2 : Nat) : Int) + 1) = ((i + 1 + 2 : Nat) : Int) from by rw [wrap64' (by omega) (by omega)]; omega]
    rw [parse_parts n hn t k0 k1 suf m (i + 1) _ (by simp at hm; omega) hd2 (by omega) (by simp [hdn])]
    simp

theorem fmt_ok (t : SomeT) : (∀ l ∈ fmtL t, okL l) ∧ (fmtL t).length ≤ 10 := by
  have h1 := t.p0
  have h2 := t.c0
  have h3 := t.b0
  have h4 := t.t0
  have h5 := t.q0
  refine ⟨fun l hl => ?_, by simp [fmtL]; omega⟩
  simp only [fmtL, List.mem_cons, List.mem_map] at hl
  rcases hl with rfl | rfl | ⟨q, hq, rfl⟩
  · refine line_ok kwT_ok (fun z hz => ?_) (by simp)
    simp at hz
    unfold rng
    rcases hz with rfl | rfl | rfl <;> omega
  · exact line_ok kwS_ok (fun z hz => by have := h4.2 z hz; unfold rng; omega) (by omega)
  · obtain ⟨a1, a2, a3, a4, a5⟩ := h5.2 q hq
    refine line_ok kwP_ok (fun z hz => ?_) (by rw [List.length_cons, nums_len a2]; omega)
    simp only [List.mem_cons] at hz
    rcases hz with rfl | hz
    · exact ⟨by omega, by omega⟩
    · exact nums_rng a3 z hz

theorem parse_law {R : Type} (n : Nat) (hn : 7000 ≤ n) (t : SomeT) (K : Int → LL → Int → Int → LL → Int → Int → Option R) : timetable_Parse n (txt (fmtL t)) K = K t.per (encI t.times) t.cost t.bound (encP t.parts) 0 0 := by
  obtain ⟨h1, h2⟩ := fmt_ok t
  have p0 := t.p0
  have c0 := t.c0
  have b0 := t.b0
  have t0 := t.t0
  have q0 := t.q0
  have hlen : (fmtL t).length = t.parts.length + 2 := by simp [fmtL]
  obtain ⟨m, rfl⟩ : ∃ m, n = m + 2 := ⟨n - 2, by omega⟩
  unfold timetable_Parse timetable_Parse_p5 timetable_Parse_p1
  rw [lines_law (m + 2) hn h1 h2]
  simp -implicitDefEqProofs only [gb_some_eq]
  rw [show ((0 : Int) != 0) = false from rfl]
  simp -implicitDefEqProofs only [cond_false]
  rw [lnD_len, hlen]
  have hr0 : rowAt (lnD 0 (fmtL t)) 0 = some [D.sl 3 (wds ((0 + 1 : Nat) : Int) 0 (lnT t.per t.cost t.bound))] := rfl
  have hr1 : rowAt (lnD 0 (fmtL t)) 1 = some [D.sl 3 (wds ((0 + 1 + 1 : Nat) : Int) 0 (lnS t.times))] := rfl
  rw [timetable_Parse_r3, timetable_Parse_p2, show decide ((0 : Int) < ((t.parts.length + 2 : Nat) : Int)) = true from by simp; omega]
  simp -implicitDefEqProofs only [cond_true, hr0, gb_some_eq, List.getElem?_cons_zero, pSl_s]
  rw [pl_zero (m + 2) (by omega) _ t.per t.cost t.bound 0 0 0 ⟨by omega, by omega⟩ ⟨by omega, by omega⟩ ⟨by omega, by omega⟩]
  simp -implicitDefEqProofs only [gb_some_eq, Bool.not_true, cond_false]
  rw [show IntKind.wrap .i64 ((0 : Int) + 1) = 1 from rfl]
  rw [timetable_Parse_r3, timetable_Parse_p2, show decide ((1 : Int) < ((t.parts.length + 2 : Nat) : Int)) = true from by simp; omega]
  simp -implicitDefEqProofs only [cond_true, hr1, gb_some_eq, List.getElem?_cons_zero, pSl_s]
  rw [pl_one (m + 2) (by omega) _ t.per t.cost t.bound t.times (fun z hz => by have := t0.2 z hz; unfold rng; omega) (by omega)]
  simp -implicitDefEqProofs only [gb_some_eq, Bool.not_true, cond_false]
  rw [show IntKind.wrap .i64 ((1 : Int) + 1) = ((0 + 2 : Nat) : Int) from rfl, show ([] : LL) = encP [] from rfl]
  rw [parse_parts (m + 2) (by omega) t _ _ t.parts m 0 [] (by omega) rfl (Nat.zero_le _) rfl]
  unfold timetable_Parse_p4
  rw [lnD_len, hlen, show decide (((t.parts.length + 2 : Nat) : Int) < 2) = false from by simp; omega]
  rfl

theorem awake_law {R : Type} (n : Nat) (hn : 100 ≤ n) (K : Bool → Option R) : law23_awake n K = K true := by
  obtain ⟨m, rfl⟩ : ∃ m, n = m + 9 := ⟨n - 9, by omega⟩
  rfl

theorem same_loop {R : Type} (n : Nat) (l : List Int) (hl : l.length ≤ 1000) (k0 : Option R) (k1 : Int → Bool → Option R) : ∀ (suf : List Int) (m i : Nat), suf.length < m → l.drop i = suf → i ≤ l.length → keep_Same_int_r3 n (encI l) (encI l) (l.length : Int) k0 k1 m (i : Int) = k1 (l.length : Int) false
  | [], m + 1, i, _, hd, hi => by
    have hi2 : i = l.length := by have := drop_nil hd; omega
    subst hi2
    rw [keep_Same_int_r3, keep_Same_int_p2, dge (by omega)]
    rfl
  | x :: suf, m + 1, i, hm, hd, hi => by
    obtain ⟨g, hd2, hlt⟩ := drop_at hd
    rw [keep_Same_int_r3, keep_Same_int_p2, dlt hlt]
    simp -implicitDefEqProofs only [cond_true, encI_get g, gb_some_eq, List.getElem?_cons_zero, pInt_i64]
    rw [show (x != x) = false from by simp]
    simp -implicitDefEqProofs only [cond_false]
    rw [winc hlt (by omega)]
    exact same_loop n l hl k0 k1 suf m (i + 1) (by simp at hm; omega) hd2 (by omega)

theorem same_law {R : Type} (n : Nat) (hn : 100 ≤ n) (l : List Int) (hl : l.length ≤ 60) (K : Bool → Option R) : keep_Same_int n (encI l) (encI l) K = K true := by
  unfold keep_Same_int keep_Same_int_p5 keep_Same_int_p1
  rw [show (((List.length (encI l) : Nat) : Int) != ((List.length (encI l) : Nat) : Int)) = false from by simp]
  simp -implicitDefEqProofs only [cond_false]
  rw [encI_length, show (0 : Int) = ((0 : Nat) : Int) from rfl, same_loop n l (by omega) _ _ l n 0 (by omega) rfl (Nat.zero_le _)]
  rfl

theorem cycle_law {R : Type} (n : Nat) (hn : 100 ≤ n) (a s : List Int) (ha : a.length ≤ 60) (hs : s.length ≤ 60) (K : Bool → Option R) : keep_SameCycle n (encI a) (encI s) (encI a) (encI s) K = K true := by
  unfold keep_SameCycle
  rw [same_law n hn a ha]
  simp -implicitDefEqProofs only [gb_some_eq]
  rw [same_law n hn s hs]
  rfl

theorem parts_loop {R : Type} (n : Nat) (hn : 100 ≤ n) (ps : List (List Int × List Int × Int)) (hp : ∀ q ∈ ps, okP q) (hl : ps.length ≤ 1000) (k0 : Option R) (k1 : Int → Bool → Option R) : ∀ (suf : List (List Int × List Int × Int)) (m i : Nat), suf.length < m → ps.drop i = suf → i ≤ ps.length →
    keep_SameParts_r3 n (encP ps) (encP ps) (ps.length : Int) k0 k1 m (i : Int) = k1 (ps.length : Int) false
  | [], m + 1, i, _, hd, hi => by
    have hi2 : i = ps.length := by have := drop_nil hd; omega
    subst hi2
    rw [keep_SameParts_r3, keep_SameParts_p2, dge (by omega)]
    rfl
  | q :: suf, m + 1, i, hm, hd, hi => by
    obtain ⟨g, hd2, hlt⟩ := drop_at hd
    obtain ⟨h1, h2, _⟩ := hp q (List.mem_of_getElem? g)
    have hrow : rowAt (encP ps) (i : Int) = some [D.sl 1 (encI q.1), D.sl 1 (encI q.2.1), D.int .i64 q.2.2] := rowAt_get g
    rw [keep_SameParts_r3, keep_SameParts_p2, dlt hlt]
    simp -implicitDefEqProofs only [cond_true, hrow, gb_some_eq, List.getElem?_cons_zero, List.getElem?_cons_succ, pInt_i64, pSl_s]
    rw [show (q.2.2 != q.2.2) = false from by simp, cycle_law n hn q.1 q.2.1 (by omega) (by omega)]
    simp -implicitDefEqProofs only [cond_false, gb_some_eq, Bool.not_true]
    rw [winc hlt (by omega)]
    exact parts_loop n hn ps hp hl k0 k1 suf m (i + 1) (by simp at hm; omega) hd2 (by omega)

theorem tt_law {R : Type} (n : Nat) (hn : 100 ≤ n) (t : SomeT) (K : Bool → Option R) : keep_SameTimetable n t.per (encI t.times) t.cost t.bound (encP t.parts) t.per (encI t.times) t.cost t.bound (encP t.parts) K = K true := by
  have t0 := t.t0
  have q0 := t.q0
  unfold keep_SameTimetable
  rw [show (t.per == t.per) = true from by simp, same_law n hn t.times (by omega)]
  simp -implicitDefEqProofs only [gb_some_eq, cond_true]
  rw [show (t.cost == t.cost) = true from by simp, show (t.bound == t.bound) = true from by simp]
  simp -implicitDefEqProofs only [gb_some_eq, cond_true]
  unfold keep_SameParts keep_SameParts_p5 keep_SameParts_p1
  rw [show (((List.length (encP t.parts) : Nat) : Int) != ((List.length (encP t.parts) : Nat) : Int)) = false from by simp]
  simp -implicitDefEqProofs only [cond_false]
  have hl : (encP t.parts).length = t.parts.length := by simp [encP]
  rw [hl, show (0 : Int) = ((0 : Nat) : Int) from rfl, parts_loop n hn t.parts q0.2 (by omega) _ _ t.parts n 0 (by omega) rfl (Nat.zero_le _)]
  rfl
end Go.Vx
/-
  keep_From: the interpreter computes the pure function
-/
set_option linter.unusedVariables false
set_option linter.unusedSimpArgs false
set_option maxRecDepth 100000
namespace Go.Vx
open Go.Proofs
noncomputable def keep_From_c0 : Code := bodyOf Tryd.f18
def keep_From_C (n : Nat) : VC := ⟨specOf [], gtt, [cK 0 [0], cO 1 [2] [5]]⟩
theorem keep_From_VC (n : Nat) : VCOk Tryd.prog (keep_From_C n) := gVC (specOf_ok trivial)
def keep_From_Ko : AV → List (Nat × Ob) → Option (LL × Int) := fun av H => (look H 5).bind fun o0 => match av, o0 with
  | .ptr p0 p1, .box [.d (D.sl 1 r0), .d (D.int .i64 r1)] => bif Nat.beq p0 5 && (Nat.beq p1 0) then some (r0, r1) else none
  | _, _ => none
theorem keep_From_vfo (n : Nat) (a0 : LL) : vfn (keep_From_C n) n Tryd.f18 [.d (D.sl 1 a0)] [] keep_From_Ko = keep_From n a0 (fun r0 r1 => some (r0, r1)) :=
  (vfn_at (c := keep_From_c0) (m := 6) (tm := [(0, dL 1 a0)]) (rs := [.tmp 2]) (tt := gtt) (by kernel_rfl) (by kernel_rfl) rfl (by kernel_rfl) rfl (by kernel_rfl) rfl).trans (by kernel_rfl)
def keep_From_o (n : Nat) : Entry := fun _ site g avs hl k => match avs with
  | [c0] => prS g 1 c0 fun a0 => 
    bif newsOk hl [] [(5, (site + 100000))] then gb g (keep_From n a0 (fun r0 r1 => some (r0, r1))) ([], 0) fun r => k ⟨.ptr (site + 100000) 0, [((site + 100000), some (.box [.d (D.sl 1 r.1), .d (D.int .i64 r.2)]))], []⟩ else none
  | _ => none
theorem keep_From_oo (n : Nat) : EntryOK Tryd.prog 18 (keep_From_o n) := by
  intro R site g avs hl k r h
  unfold keep_From_o at h
  split at h
  rotate_left
  · cases h
  replace h := prS_some h
  obtain ⟨a0, h, le0⟩ := h
  replace h := bif_some h
  obtain ⟨hc, h⟩ := h
  replace h := gb_some h
  obtain ⟨res, h, hr⟩ := h
  refine ⟨_, h, fun hg => CallOK.conv (avs' := [.d (D.sl 1 a0)]) (.cons (le0 hg) (.nil)) (callOK_own (K := keep_From_Ko) (res := res) (keep_From_VC n) (fn := Tryd.f18) (n := n) (by kernel_rfl) (by kernel_rfl) (by kernel_rfl) (ρ := []) (ν := [(5, (site + 100000))]) (avs' := [.d (D.sl 1 a0)]) (H := []) rfl rfl rfl rfl hc (trivial) rfl rfl ?_ ?_)⟩
  · exact (keep_From_vfo n a0).trans (hr hg)
  · intro av H' hx
    unfold keep_From_Ko at hx
    replace hx := Option.bind_eq_some_iff.1 hx
    obtain ⟨o0, ho0, hx⟩ := hx
    split at hx
    rotate_left
    · cases hx
    replace hx := bif_some hx
    obtain ⟨hck, hx⟩ := hx
    simp only [Bool.and_eq_true] at hck
    obtain ⟨ek0, ek1⟩ := hck
    have ek0 := Nat.eq_of_beq_eq_true ek0
    subst ek0
    have ek1 := Nat.eq_of_beq_eq_true ek1
    subst ek1
    injection hx with hx
    subst hx
    refine ⟨rfl, ?_, ⟨by rw [ho0]; rfl, trivial⟩, trivial⟩
    simp only [List.cons_append, List.nil_append, outWr, ho0, Option.map_some]
    rfl
end Go.Vx
/-
  keep_Pick: the interpreter computes the pure function
-/
set_option linter.unusedVariables false
set_option linter.unusedSimpArgs false
set_option maxRecDepth 100000
namespace Go.Vx
open Go.Proofs
noncomputable def keep_Pick_c0 : Code := bodyOf Tryd.f32
def keep_Pick_C (n : Nat) : VC := ⟨specOf [], gtt, [cK 0 [0, 1], cK 1 [4]]⟩
theorem keep_Pick_VC (n : Nat) : VCOk Tryd.prog (keep_Pick_C n) := gVC (specOf_ok trivial)
theorem keep_Pick_vfn {R : Type} (n : Nat) (a0 a1 : Int) (K : AV → Option R) : vfn (keep_Pick_C n) n Tryd.f32 [.d (D.int .i64 a0), .d (D.int .i64 a1)] [] (retF [[0]] K) = keep_Pick n a0 a1 (fun r0 => K (.d (D.int .i64 r0))) :=
  (vfn_at (c := keep_Pick_c0) (m := 11) (tm := [(0, dI a0), (1, dI a1)]) (rs := [.tmp 4]) (tt := gtt) (by kernel_rfl) (by kernel_rfl) rfl (by kernel_rfl) rfl (by kernel_rfl) rfl).trans (by kernel_rfl)
def keep_Pick_K : AV → Option (Int) := fun av => match av with
  | .d (D.int .i64 r0) => some r0
  | _ => none
def keep_Pick_e (n : Nat) : Entry := fun _ _ g avs _ k => match avs with
  | [c0, c1] => prI g .i64 c0 fun a0 => prI g .i64 c1 fun a1 => 
    gb g (keep_Pick n a0 a1 some) 0 fun r => k ⟨.d (D.int .i64 r), [], []⟩
  | _ => none
theorem keep_Pick_ok (n : Nat) : EntryOK Tryd.prog 32 (keep_Pick_e n) := by
  intro R site g avs hl k r h
  unfold keep_Pick_e at h
  split at h
  rotate_left
  · cases h
  replace h := prI_some h
  obtain ⟨a0, h, le0⟩ := h
  replace h := prI_some h
  obtain ⟨a1, h, le1⟩ := h
  replace h := gb_some h
  obtain ⟨res, h, hr⟩ := h
  refine ⟨_, h, fun hg => CallOK.conv (avs' := [.d (D.int .i64 a0), .d (D.int .i64 a1)]) (.cons (le0 hg) (.cons (le1 hg) (.nil))) (callOK_fix (K := keep_Pick_K) (res := res) (keep_Pick_VC n) (fn := Tryd.f32) (n := n) (by kernel_rfl) (by kernel_rfl) (by kernel_rfl) (ss := [[0]]) rfl ?_ ?_)⟩
  · exact (keep_Pick_vfn n a0 a1 keep_Pick_K).trans (hr hg)
  · intro x hx
    unfold keep_Pick_K at hx
    split at hx
    · injection hx with hx; subst hx; rfl
    · cases hx
end Go.Vx
/-
  keep_Source_Next: the interpreter computes the pure function
-/
set_option linter.unusedVariables false
set_option linter.unusedSimpArgs false
set_option maxRecDepth 100000
namespace Go.Vx
open Go.Proofs
noncomputable def keep_Source_Next_c0 : Code := bodyOf Tryd.f19
def keep_Source_Next_C (n : Nat) : VC := ⟨specOf [(32, keep_Pick_e n)], gtt, [cO 0 [0, 1] [1000000], cO 1 [0, 1, 14] [1000000], cO 2 [4] [1000000], cO 3 [0, 1] [1000000], cO 4 [4] [1000000]]⟩
theorem keep_Source_Next_VC (n : Nat) : VCOk Tryd.prog (keep_Source_Next_C n) := gVC (specOf_ok ⟨keep_Pick_ok n, trivial⟩)
def keep_Source_Next_Ko : AV → List (Nat × Ob) → Option (Int × LL × Int) := fun av H => (look H 1000000).bind fun o0 => match av, o0 with
  | .d (D.int .i64 r0), .box [.d (D.sl 1 r1), .d (D.int .i64 r2)] => some (r0, r1, r2)
  | _, _ => none
theorem keep_Source_Next_vfo (n : Nat) (a0_0 : LL) (a0_1 a1 : Int) : vfn (keep_Source_Next_C n) n Tryd.f19 [.ptr 1000000 0, .d (D.int .i64 a1)] [(1000000, .box [.d (D.sl 1 a0_0), .d (D.int .i64 a0_1)])] keep_Source_Next_Ko = keep_Source_Next n a0_0 a0_1 a1 (fun r0 r1 r2 => some (r0, r1, r2)) :=
  (vfn_at (c := keep_Source_Next_c0) (m := 35) (tm := [(0, .ptr 1000000 0), (1, dI a1)]) (rs := [.tmp 4]) (tt := gtt) (by kernel_rfl) (by kernel_rfl) rfl (by kernel_rfl) rfl (by kernel_rfl) rfl).trans (by kernel_rfl)
def keep_Source_Next_o (n : Nat) : Entry := fun _ site g avs hl k => match avs with
  | [c0, c1] => 
    prP hl c0 fun l0 b0 => (match b0 with
    | [c0_0, c0_1] => prS g 1 c0_0 fun a0_0 => prI g .i64 c0_1 fun a0_1 => prI g .i64 c1 fun a1 => 
    bif newsOk hl [(1000000, l0)] [] then gb g (keep_Source_Next n a0_0 a0_1 a1 (fun r0 r1 r2 => some (r0, r1, r2))) (0, [], 0) fun r => k ⟨.d (D.int .i64 r.1), [(l0, some (.box [.d (D.sl 1 r.2.1), .d (D.int .i64 r.2.2)]))], [l0]⟩ else none
    | _ => none)
  | _ => none
theorem keep_Source_Next_oo (n : Nat) : EntryOK Tryd.prog 19 (keep_Source_Next_o n) := by
  intro R site g avs hl k r h
  unfold keep_Source_Next_o at h
  split at h
  rotate_left
  · cases h
  replace h := prP_some h
  obtain ⟨l0, b0, h, e0, hb0⟩ := h
  subst e0
  split at h
  rotate_left
  · cases h
  replace h := prS_some h
  obtain ⟨a0_0, h, le0⟩ := h
  replace h := prI_some h
  obtain ⟨a0_1, h, le1⟩ := h
  replace h := prI_some h
  obtain ⟨a1, h, le2⟩ := h
  replace h := bif_some h
  obtain ⟨hc, h⟩ := h
  replace h := gb_some h
  obtain ⟨res, h, hr⟩ := h
  refine ⟨_, h, fun hg => CallOK.conv (avs' := [.ptr l0 0, .d (D.int .i64 a1)]) (.cons (.refl _) (.cons (le2 hg) (.nil))) (callOK_own (K := keep_Source_Next_Ko) (res := res) (keep_Source_Next_VC n) (fn := Tryd.f19) (n := n) (by kernel_rfl) (by kernel_rfl) (by kernel_rfl) (ρ := [(1000000, l0)]) (ν := []) (avs' := [.ptr 1000000 0, .d (D.int .i64 a1)]) (H := [(1000000, .box [.d (D.sl 1 a0_0), .d (D.int .i64 a0_1)])]) rfl rfl rfl rfl hc (⟨⟨by decide, _, _, hb0, rfl, .cons (le0 hg) (.cons (le1 hg) (.nil)), rfl⟩, trivial⟩) rfl rfl ?_ ?_)⟩
  · exact (keep_Source_Next_vfo n a0_0 a0_1 a1).trans (hr hg)
  · intro av H' hx
    unfold keep_Source_Next_Ko at hx
    replace hx := Option.bind_eq_some_iff.1 hx
    obtain ⟨o0, ho0, hx⟩ := hx
    split at hx
    rotate_left
    · cases hx
    injection hx with hx
    subst hx
    refine ⟨rfl, ?_, ⟨by rw [ho0]; rfl, trivial⟩, ⟨⟨_, _, rfl, ho0, rfl⟩, trivial⟩⟩
    simp only [List.cons_append, List.nil_append, outWr, ho0, Option.map_some]
    rfl
end Go.Vx
/-
  law23_some: the interpreter computes the pure function
-/
set_option linter.unusedVariables false
set_option linter.unusedSimpArgs false
set_option maxRecDepth 100000
namespace Go.Vx
open Go.Proofs
noncomputable def law23_some_c0 : Code := bodyOf Tryd.f8
noncomputable def law23_some_c1 : Code := cA [1, 1, 1, 0, 1, 2, 2] (bodyOf Tryd.f8)
noncomputable def law23_some_c2 : Code := cA [1, 1, 1, 1] (bodyOf Tryd.f8)
noncomputable def law23_some_c3 : Code := cA [1, 1, 1, 1, 0, 1, 2, 2] (bodyOf Tryd.f8)
noncomputable def law23_some_c4 : Code := cA [1, 1, 1, 1, 1] (bodyOf Tryd.f8)
noncomputable def law23_some_c5 : Code := cA [1, 1, 1, 1, 0, 1, 2, 2, 1, 0, 2, 1, 0, 1, 2, 2] (bodyOf Tryd.f8)
noncomputable def law23_some_c6 : Code := cA [1, 1, 1, 1, 0, 1, 2, 2, 1, 1] (bodyOf Tryd.f8)
noncomputable def law23_some_c7 : Code := cA [1, 1, 1, 1, 0, 1, 2, 2, 1, 0, 2, 1, 1] (bodyOf Tryd.f8)
def law23_some_C (n : Nat) : VC := ⟨specOf [(18, keep_From_o n), (19, keep_Source_Next_o n)], gtt, [cO 0 [0, 2] [2], cO 1 [2, 3] [2, 100010], cO 2 [2, 3, 4] [2, 4, 100010], (3, ⟨[2, 3, 4, 5], [(2, 2), (4, 4), (100010, 100010)], [], [(4, 1, 1041, 3, 1)], []⟩), cO 4 [2, 3, 4, 5, 22] [2, 4, 1041, 100010], cO 5 [2, 3, 4, 5] [2, 4, 31, 100010], cO 6 [2, 3, 4, 5] [2, 4, 31, 100010], (7, ⟨[2, 3, 4, 6], [(2, 2), (4, 4), (1041, 1041), (100010, 100010)], [], [(4, 4, 1044, 51, 3)], []⟩), cO 8 [2, 3, 4, 6, 36] [2, 4, 1041, 1044, 100010], cO 9 [2, 3, 4, 6] [2, 4, 72, 1041, 100010], cO 10 [2, 3, 4, 6, 7] [2, 4, 7, 1041, 1044, 100010], (11, ⟨[2, 3, 4, 6, 7, 8], [(2, 2), (4, 4), (7, 7), (1041, 1041), (1044, 1044), (100010, 100010)], [], [(7, 0, 1070, 3, 1), (7, 1, 1071, 3, 1)], []⟩), cO 12 [2, 3, 4, 6, 7, 8, 45] [2, 4, 7, 1041, 1044, 1070, 1071, 100010], cO 13 [2, 3, 4, 6, 7, 8] [2, 4, 7, 54, 63, 1041, 1044, 100010], cO 14 [2, 3, 4, 6, 7, 8] [2, 4, 7, 54, 63, 1041, 1044, 100010], cO 15 [2, 3, 4, 6] [2, 4, 72, 1041, 100010], cO 16 [2] [2, 1041, 1044], (3000000004, ⟨[2, 3, 4, 5], [(2, 2), (4, 4), (31, 1041), (1041, 1041), (100010, 100010)], [], [], []⟩), (3000000008, ⟨[2, 3, 4, 6], [(2, 2), (4, 4), (1041, 1041), (72, 1044), (1044, 1044), (100010, 100010)], [], [], []⟩), (3000000012, ⟨[2, 3, 4, 6, 7, 8], [(2, 2), (4, 4), (7, 7), (1041, 1041), (1044, 1044), (54, 1070), (1070, 1070), (63, 1071), (1071, 1071), (100010, 100010)], [], [], []⟩)]⟩
theorem law23_some_VC (n : Nat) : VCOk Tryd.prog (law23_some_C n) := gVC (specOf_ok ⟨keep_From_oo n, ⟨keep_Source_Next_oo n, trivial⟩⟩)
theorem law23_some_p1_eq {R : Type} (n : Nat) (a0 : LL) (k : Exit → St → Option R) : vexec (law23_some_C n) n law23_some_c0 ⟨75, [(0, dL 1 a0)], []⟩ k = law23_some_p1 n a0 (fun z6 z7 z8 z9 z10 z11 => loopN (lB (law23_some_C n) n law23_some_c1) n ⟨75, [(2, .ptr 2 0), (3, .ptr 100010 0), (4, .ptr 4 0), (5, dI z6)], [(1041, .arr 3 1 []), (4, .box [dI z7, .arr 1041, dI z8, dI z9, .nil]), (2, .box [dI (0 : Int), .nil, dI (0 : Int), dI (0 : Int), .nil]), (100010, .box [dL 1 z10, dI z11])]⟩ (blockK 0 (seqK (law23_some_C n) n law23_some_c2 k))) := by kernel_rfl
theorem law23_some_p2_eq {R : Type} (n : Nat) (h18 w13 w14 w15 : Int) (h25 h26 : LL) (h27 : Int) (k : Exit → St → Option R) : vexec (law23_some_C n) n law23_some_c1 ⟨75, [(2, .ptr 2 0), (3, .ptr 100010 0), (4, .ptr 4 0), (5, dI h18)], [(2, .box [dI (0 : Int), .nil, dI (0 : Int), dI (0 : Int), .nil]), (4, .box [dI w13, .arr 1041, dI w14, dI w15, .nil]), (1041, .arr 3 1 h25), (100010, .box [dL 1 h26, dI h27])]⟩ k = law23_some_p2 n h18 w13 w14 w15 h25 h26 h27 (fun z37 z38 z39 z40 => k .normal ⟨75, [(2, .ptr 2 0), (3, .ptr 100010 0), (4, .ptr 4 0), (5, dI z37)], [(2, .box [dI (0 : Int), .nil, dI (0 : Int), dI (0 : Int), .nil]), (4, .box [dI w13, .arr 31, dI w14, dI w15, .nil]), (31, .arr 3 1 z38), (100010, .box [dL 1 z39, dI z40])]⟩) (fun z41 => k (.exit 0) ⟨75, [(2, .ptr 2 0), (3, .ptr 100010 0), (4, .ptr 4 0), (5, dI h18), (22, dB z41)], [(2, .box [dI (0 : Int), .nil, dI (0 : Int), dI (0 : Int), .nil]), (4, .box [dI w13, .arr 1041, dI w14, dI w15, .nil]), (1041, .arr 3 1 h25), (100010, .box [dL 1 h26, dI h27])]⟩) := by kernel_rfl
theorem law23_some_r3_eq {R : Type} (n : Nat) (w13 w14 w15 : Int) (k : Exit → St → Option R) : ∀ (m : Nat) (h18 : Int) (h25 h26 : LL) (h27 : Int), loopN (lB (law23_some_C n) n law23_some_c1) m ⟨75, [(2, .ptr 2 0), (3, .ptr 100010 0), (4, .ptr 4 0), (5, dI h18)], [(2, .box [dI (0 : Int), .nil, dI (0 : Int), dI (0 : Int), .nil]), (4, .box [dI w13, .arr 1041, dI w14, dI w15, .nil]), (1041, .arr 3 1 h25), (100010, .box [dL 1 h26, dI h27])]⟩ k = law23_some_r3 n w13 w14 w15 (fun h18 w46 h25 h26 h27 => k (.exit 0) ⟨75, [(2, .ptr 2 0), (3, .ptr 100010 0), (4, .ptr 4 0), (5, dI h18), (22, dB w46)], [(2, .box [dI (0 : Int), .nil, dI (0 : Int), dI (0 : Int), .nil]), (4, .box [dI w13, .arr 1041, dI w14, dI w15, .nil]), (1041, .arr 3 1 h25), (100010, .box [dL 1 h26, dI h27])]⟩) m h18 h25 h26 h27
 | 0, _, _, _, _ => rfl
 | m + 1, h18, h25, h26, h27 => (lS (by kernel_rfl) m k).trans ((law23_some_p2_eq n h18 w13 w14 w15 h25 h26 h27 (loopK (lB (law23_some_C n) n law23_some_c1) m k)).trans (cg2 (fun x0 x1 => law23_some_p2 n h18 w13 w14 w15 h25 h26 h27 x0 x1 ) (funext fun w42 => funext fun w43 => funext fun w44 => funext fun w45 => (loopN_at (by kernel_rfl) m k).trans (law23_some_r3_eq n w13 w14 w15 k m w42 w43 w44 w45)) rfl))
theorem law23_some_p4_eq {R : Type} (n : Nat) (w47 : Int) (w48 : Bool) (w13 w14 w15 : Int) (w49 w50 : LL) (w51 : Int) (k : Exit → St → Option R) : (blockK 0 (seqK (law23_some_C n) n law23_some_c2 k)) (.exit 0) ⟨75, [(2, .ptr 2 0), (3, .ptr 100010 0), (4, .ptr 4 0), (5, dI w47), (22, dB w48)], [(2, .box [dI (0 : Int), .nil, dI (0 : Int), dI (0 : Int), .nil]), (4, .box [dI w13, .arr 1041, dI w14, dI w15, .nil]), (1041, .arr 3 1 w49), (100010, .box [dL 1 w50, dI w51])]⟩ = law23_some_p4 n w47 w48 w13 w14 w15 w49 w50 w51 (fun z53 z54 z55 => loopN (lB (law23_some_C n) n law23_some_c3) n ⟨75, [(2, .ptr 2 0), (3, .ptr 100010 0), (4, .ptr 4 0), (6, dI z53)], [(1044, .arr 51 3 []), (4, .box [dI w13, .arr 1041, dI w14, dI w15, .arr 1044]), (2, .box [dI (0 : Int), .nil, dI (0 : Int), dI (0 : Int), .nil]), (1041, .arr 3 1 w49), (100010, .box [dL 1 z54, dI z55])]⟩ (blockK 2 (seqK (law23_some_C n) n law23_some_c4 k))) := by kernel_rfl
theorem law23_some_p5_eq {R : Type} (n : Nat) (h59 w13 w14 w15 : Int) (w49 h67 h68 : LL) (h69 : Int) (k : Exit → St → Option R) : vexec (law23_some_C n) n law23_some_c3 ⟨75, [(2, .ptr 2 0), (3, .ptr 100010 0), (4, .ptr 4 0), (6, dI h59)], [(2, .box [dI (0 : Int), .nil, dI (0 : Int), dI (0 : Int), .nil]), (4, .box [dI w13, .arr 1041, dI w14, dI w15, .arr 1044]), (1041, .arr 3 1 w49), (1044, .arr 51 3 h67), (100010, .box [dL 1 h68, dI h69])]⟩ k = law23_some_p5 n h59 w13 w14 w15 w49 h67 h68 h69 (fun z136 z137 z138 z139 => loopN (lB (law23_some_C n) n law23_some_c5) n ⟨75, [(2, .ptr 2 0), (3, .ptr 100010 0), (4, .ptr 4 0), (6, dI h59), (7, .ptr 7 0), (8, dI z136)], [(1071, .arr 3 1 []), (7, .box [.arr 1070, .arr 1071, dI z137]), (1070, .arr 3 1 []), (2, .box [dI (0 : Int), .nil, dI (0 : Int), dI (0 : Int), .nil]), (4, .box [dI w13, .arr 1041, dI w14, dI w15, .arr 1044]), (1041, .arr 3 1 w49), (1044, .arr 51 3 h67), (100010, .box [dL 1 z138, dI z139])]⟩ (blockK 4 (seqK (law23_some_C n) n law23_some_c7 (blockK 3 (seqK (law23_some_C n) n law23_some_c6 k))))) (fun z140 => k (.exit 2) ⟨75, [(2, .ptr 2 0), (3, .ptr 100010 0), (4, .ptr 4 0), (6, dI h59), (36, dB z140)], [(2, .box [dI (0 : Int), .nil, dI (0 : Int), dI (0 : Int), .nil]), (4, .box [dI w13, .arr 1041, dI w14, dI w15, .arr 1044]), (1041, .arr 3 1 w49), (1044, .arr 51 3 h67), (100010, .box [dL 1 h68, dI h69])]⟩) := by kernel_rfl
theorem law23_some_p6_eq {R : Type} (n : Nat) (h59 h146 w13 w14 w15 w142 : Int) (w49 h67 h156 h157 h158 : LL) (h159 : Int) (k : Exit → St → Option R) : vexec (law23_some_C n) n law23_some_c5 ⟨75, [(2, .ptr 2 0), (3, .ptr 100010 0), (4, .ptr 4 0), (6, dI h59), (7, .ptr 7 0), (8, dI h146)], [(2, .box [dI (0 : Int), .nil, dI (0 : Int), dI (0 : Int), .nil]), (4, .box [dI w13, .arr 1041, dI w14, dI w15, .arr 1044]), (7, .box [.arr 1070, .arr 1071, dI w142]), (1041, .arr 3 1 w49), (1044, .arr 51 3 h67), (1070, .arr 3 1 h156), (1071, .arr 3 1 h157), (100010, .box [dL 1 h158, dI h159])]⟩ k = law23_some_p6 n h59 h146 w13 w14 w15 w142 w49 h67 h156 h157 h158 h159 (fun z174 z175 z176 z177 z178 => k .normal ⟨75, [(2, .ptr 2 0), (3, .ptr 100010 0), (4, .ptr 4 0), (6, dI h59), (7, .ptr 7 0), (8, dI z174)], [(2, .box [dI (0 : Int), .nil, dI (0 : Int), dI (0 : Int), .nil]), (4, .box [dI w13, .arr 1041, dI w14, dI w15, .arr 1044]), (7, .box [.arr 54, .arr 63, dI w142]), (54, .arr 3 1 z175), (63, .arr 3 1 z176), (1041, .arr 3 1 w49), (1044, .arr 51 3 h67), (100010, .box [dL 1 z177, dI z178])]⟩) (fun z179 => k (.exit 4) ⟨75, [(2, .ptr 2 0), (3, .ptr 100010 0), (4, .ptr 4 0), (6, dI h59), (7, .ptr 7 0), (8, dI h146), (45, dB z179)], [(2, .box [dI (0 : Int), .nil, dI (0 : Int), dI (0 : Int), .nil]), (4, .box [dI w13, .arr 1041, dI w14, dI w15, .arr 1044]), (7, .box [.arr 1070, .arr 1071, dI w142]), (1041, .arr 3 1 w49), (1044, .arr 51 3 h67), (1070, .arr 3 1 h156), (1071, .arr 3 1 h157), (100010, .box [dL 1 h158, dI h159])]⟩) := by kernel_rfl
theorem law23_some_r7_eq {R : Type} (n : Nat) (h59 w13 w14 w15 w142 : Int) (w49 h67 : LL) (k : Exit → St → Option R) : ∀ (m : Nat) (h146 : Int) (h156 h157 h158 : LL) (h159 : Int), loopN (lB (law23_some_C n) n law23_some_c5) m ⟨75, [(2, .ptr 2 0), (3, .ptr 100010 0), (4, .ptr 4 0), (6, dI h59), (7, .ptr 7 0), (8, dI h146)], [(2, .box [dI (0 : Int), .nil, dI (0 : Int), dI (0 : Int), .nil]), (4, .box [dI w13, .arr 1041, dI w14, dI w15, .arr 1044]), (7, .box [.arr 1070, .arr 1071, dI w142]), (1041, .arr 3 1 w49), (1044, .arr 51 3 h67), (1070, .arr 3 1 h156), (1071, .arr 3 1 h157), (100010, .box [dL 1 h158, dI h159])]⟩ k = law23_some_r7 n h59 w13 w14 w15 w142 w49 h67 (fun h146 w185 h156 h157 h158 h159 => k (.exit 4) ⟨75, [(2, .ptr 2 0), (3, .ptr 100010 0), (4, .ptr 4 0), (6, dI h59), (7, .ptr 7 0), (8, dI h146), (45, dB w185)], [(2, .box [dI (0 : Int), .nil, dI (0 : Int), dI (0 : Int), .nil]), (4, .box [dI w13, .arr 1041, dI w14, dI w15, .arr 1044]), (7, .box [.arr 1070, .arr 1071, dI w142]), (1041, .arr 3 1 w49), (1044, .arr 51 3 h67), (1070, .arr 3 1 h156), (1071, .arr 3 1 h157), (100010, .box [dL 1 h158, dI h159])]⟩) m h146 h156 h157 h158 h159
 | 0, _, _, _, _, _ => rfl
 | m + 1, h146, h156, h157, h158, h159 => (lS (by kernel_rfl) m k).trans ((law23_some_p6_eq n h59 h146 w13 w14 w15 w142 w49 h67 h156 h157 h158 h159 (loopK (lB (law23_some_C n) n law23_some_c5) m k)).trans (cg2 (fun x0 x1 => law23_some_p6 n h59 h146 w13 w14 w15 w142 w49 h67 h156 h157 h158 h159 x0 x1 ) (funext fun w180 => funext fun w181 => funext fun w182 => funext fun w183 => funext fun w184 => (loopN_at (by kernel_rfl) m k).trans (law23_some_r7_eq n h59 w13 w14 w15 w142 w49 h67 k m w180 w181 w182 w183 w184)) rfl))
theorem law23_some_p8_eq {R : Type} (n : Nat) (h59 w186 : Int) (w187 : Bool) (w13 w14 w15 w142 : Int) (w49 h67 w188 w189 w190 : LL) (w191 : Int) (k : Exit → St → Option R) : (blockK 4 (seqK (law23_some_C n) n law23_some_c7 (blockK 3 (seqK (law23_some_C n) n law23_some_c6 k)))) (.exit 4) ⟨75, [(2, .ptr 2 0), (3, .ptr 100010 0), (4, .ptr 4 0), (6, dI h59), (7, .ptr 7 0), (8, dI w186), (45, dB w187)], [(2, .box [dI (0 : Int), .nil, dI (0 : Int), dI (0 : Int), .nil]), (4, .box [dI w13, .arr 1041, dI w14, dI w15, .arr 1044]), (7, .box [.arr 1070, .arr 1071, dI w142]), (1041, .arr 3 1 w49), (1044, .arr 51 3 h67), (1070, .arr 3 1 w188), (1071, .arr 3 1 w189), (100010, .box [dL 1 w190, dI w191])]⟩ = law23_some_p8 n h59 w186 w187 w13 w14 w15 w142 w49 h67 w188 w189 w190 w191 (fun z193 z194 => k .normal ⟨75, [(2, .ptr 2 0), (3, .ptr 100010 0), (4, .ptr 4 0), (6, dI z193)], [(2, .box [dI (0 : Int), .nil, dI (0 : Int), dI (0 : Int), .nil]), (4, .box [dI w13, .arr 1041, dI w14, dI w15, .arr 72]), (72, .arr 51 3 z194), (1041, .arr 3 1 w49), (100010, .box [dL 1 w190, dI w191])]⟩) := by kernel_rfl
theorem law23_some_p9_eq {R : Type} (n : Nat) (h59 w13 w14 w15 : Int) (w49 h67 h68 : LL) (h69 : Int) (k : Exit → St → Option R) : vexec (law23_some_C n) n law23_some_c3 ⟨75, [(2, .ptr 2 0), (3, .ptr 100010 0), (4, .ptr 4 0), (6, dI h59)], [(2, .box [dI (0 : Int), .nil, dI (0 : Int), dI (0 : Int), .nil]), (4, .box [dI w13, .arr 1041, dI w14, dI w15, .arr 1044]), (1041, .arr 3 1 w49), (1044, .arr 51 3 h67), (100010, .box [dL 1 h68, dI h69])]⟩ k = law23_some_p9 n h59 w13 w14 w15 w49 h67 h68 h69 (fun w195 w196 w190 w191 => k .normal ⟨75, [(2, .ptr 2 0), (3, .ptr 100010 0), (4, .ptr 4 0), (6, dI w195)], [(2, .box [dI (0 : Int), .nil, dI (0 : Int), dI (0 : Int), .nil]), (4, .box [dI w13, .arr 1041, dI w14, dI w15, .arr 72]), (72, .arr 51 3 w196), (1041, .arr 3 1 w49), (100010, .box [dL 1 w190, dI w191])]⟩) (fun w197 => k (.exit 2) ⟨75, [(2, .ptr 2 0), (3, .ptr 100010 0), (4, .ptr 4 0), (6, dI h59), (36, dB w197)], [(2, .box [dI (0 : Int), .nil, dI (0 : Int), dI (0 : Int), .nil]), (4, .box [dI w13, .arr 1041, dI w14, dI w15, .arr 1044]), (1041, .arr 3 1 w49), (1044, .arr 51 3 h67), (100010, .box [dL 1 h68, dI h69])]⟩) :=
 (law23_some_p5_eq n h59 w13 w14 w15 w49 h67 h68 h69 k).trans (cg2 (fun x0 x1 => law23_some_p5 n h59 w13 w14 w15 w49 h67 h68 h69 x0 x1 ) (funext fun w141 => funext fun w142 => funext fun w143 => funext fun w144 => ((loopN_at (by kernel_rfl) n (blockK 4 (seqK (law23_some_C n) n law23_some_c7 (blockK 3 (seqK (law23_some_C n) n law23_some_c6 k))))).trans (law23_some_r7_eq n h59 w13 w14 w15 w142 w49 h67 (blockK 4 (seqK (law23_some_C n) n law23_some_c7 (blockK 3 (seqK (law23_some_C n) n law23_some_c6 k)))) n w141 [] [] w143 w144)).trans (cg1 (fun x0 => law23_some_r7 n h59 w13 w14 w15 w142 w49 h67 x0 n w141 [] [] w143 w144) (funext fun w186 => funext fun w187 => funext fun w188 => funext fun w189 => funext fun w190 => funext fun w191 => (law23_some_p8_eq n h59 w186 w187 w13 w14 w15 w142 w49 h67 w188 w189 w190 w191 k)))) rfl)
theorem law23_some_r10_eq {R : Type} (n : Nat) (w13 w14 w15 : Int) (w49 : LL) (k : Exit → St → Option R) : ∀ (m : Nat) (h59 : Int) (h67 h68 : LL) (h69 : Int), loopN (lB (law23_some_C n) n law23_some_c3) m ⟨75, [(2, .ptr 2 0), (3, .ptr 100010 0), (4, .ptr 4 0), (6, dI h59)], [(2, .box [dI (0 : Int), .nil, dI (0 : Int), dI (0 : Int), .nil]), (4, .box [dI w13, .arr 1041, dI w14, dI w15, .arr 1044]), (1041, .arr 3 1 w49), (1044, .arr 51 3 h67), (100010, .box [dL 1 h68, dI h69])]⟩ k = law23_some_r10 n w13 w14 w15 w49 (fun h59 w202 h67 h68 h69 => k (.exit 2) ⟨75, [(2, .ptr 2 0), (3, .ptr 100010 0), (4, .ptr 4 0), (6, dI h59), (36, dB w202)], [(2, .box [dI (0 : Int), .nil, dI (0 : Int), dI (0 : Int), .nil]), (4, .box [dI w13, .arr 1041, dI w14, dI w15, .arr 1044]), (1041, .arr 3 1 w49), (1044, .arr 51 3 h67), (100010, .box [dL 1 h68, dI h69])]⟩) m h59 h67 h68 h69
 | 0, _, _, _, _ => rfl
 | m + 1, h59, h67, h68, h69 => (lS (by kernel_rfl) m k).trans ((law23_some_p9_eq n h59 w13 w14 w15 w49 h67 h68 h69 (loopK (lB (law23_some_C n) n law23_some_c3) m k)).trans (cg2 (fun x0 x1 => law23_some_p9 n h59 w13 w14 w15 w49 h67 h68 h69 x0 x1 ) (funext fun w198 => funext fun w199 => funext fun w200 => funext fun w201 => (loopN_at (by kernel_rfl) m k).trans (law23_some_r10_eq n w13 w14 w15 w49 k m w198 w199 w200 w201)) rfl))
theorem law23_some_p11_eq {R : Type} (n : Nat) (w203 : Int) (w204 : Bool) (w13 w14 w15 : Int) (w49 w205 w206 : LL) (w207 : Int) (k : Exit → St → Option R) : (blockK 2 (seqK (law23_some_C n) n law23_some_c4 k)) (.exit 2) ⟨75, [(2, .ptr 2 0), (3, .ptr 100010 0), (4, .ptr 4 0), (6, dI w203), (36, dB w204)], [(2, .box [dI (0 : Int), .nil, dI (0 : Int), dI (0 : Int), .nil]), (4, .box [dI w13, .arr 1041, dI w14, dI w15, .arr 1044]), (1041, .arr 3 1 w49), (1044, .arr 51 3 w205), (100010, .box [dL 1 w206, dI w207])]⟩ = law23_some_p11 n w203 w204 w13 w14 w15 w49 w205 w206 w207 (k .ret ⟨75, [(2, .ptr 2 0)], [(2, .box [dI w13, .arr 1041, dI w14, dI w15, .arr 1044]), (1041, .arr 3 1 w49), (1044, .arr 51 3 w205)]⟩) := by kernel_rfl
theorem law23_some_p12_eq {R : Type} (n : Nat) (a0 : LL) (k : Exit → St → Option R) : vexec (law23_some_C n) n law23_some_c0 ⟨75, [(0, dL 1 a0)], []⟩ k = law23_some_p12 n a0 (fun w13 w14 w15 w49 w205 => k .ret ⟨75, [(2, .ptr 2 0)], [(2, .box [dI w13, .arr 1041, dI w14, dI w15, .arr 1044]), (1041, .arr 3 1 w49), (1044, .arr 51 3 w205)]⟩) :=
 (law23_some_p1_eq n a0 k).trans (cg1 (fun x0 => law23_some_p1 n a0 x0 ) (funext fun w12 => funext fun w13 => funext fun w14 => funext fun w15 => funext fun w16 => funext fun w17 => ((loopN_at (by kernel_rfl) n (blockK 0 (seqK (law23_some_C n) n law23_some_c2 k))).trans (law23_some_r3_eq n w13 w14 w15 (blockK 0 (seqK (law23_some_C n) n law23_some_c2 k)) n w12 [] w16 w17)).trans (cg1 (fun x0 => law23_some_r3 n w13 w14 w15 x0 n w12 [] w16 w17) (funext fun w47 => funext fun w48 => funext fun w49 => funext fun w50 => funext fun w51 => (law23_some_p4_eq n w47 w48 w13 w14 w15 w49 w50 w51 k).trans (cg1 (fun x0 => law23_some_p4 n w47 w48 w13 w14 w15 w49 w50 w51 x0 ) (funext fun w56 => funext fun w57 => funext fun w58 => ((loopN_at (by kernel_rfl) n (blockK 2 (seqK (law23_some_C n) n law23_some_c4 k))).trans (law23_some_r10_eq n w13 w14 w15 w49 (blockK 2 (seqK (law23_some_C n) n law23_some_c4 k)) n w56 [] w57 w58)).trans (cg1 (fun x0 => law23_some_r10 n w13 w14 w15 w49 x0 n w56 [] w57 w58) (funext fun w203 => funext fun w204 => funext fun w205 => funext fun w206 => funext fun w207 => (law23_some_p11_eq n w203 w204 w13 w14 w15 w49 w205 w206 w207 k)))))))))
theorem law23_some_vfn {R : Type} (n : Nat) (a0 : LL) (K : AV → Option R) : vfn (law23_some_C n) n Tryd.f8 [.d (D.sl 1 a0)] [] (retF [[0, 1, 0, 0, 3]] K) = law23_some n a0 (fun r0 r1 r2 r3 r4 => K (.ag [.d (D.int .i64 r0), .d (D.sl 1 r1), .d (D.int .i64 r2), .d (D.int .i64 r3), .d (D.sl 3 r4)])) :=
  (show vfn (law23_some_C n) n Tryd.f8 [.d (D.sl 1 a0)] [] (retF [[0, 1, 0, 0, 3]] K) = vexec (law23_some_C n) n law23_some_c0 ⟨75, [(0, dL 1 a0)], []⟩ (retX gtt [.cell 2 25] (retF [[0, 1, 0, 0, 3]] K)) from vfn_at (by kernel_rfl) (by kernel_rfl) rfl (by kernel_rfl) rfl (by kernel_rfl) rfl).trans ((law23_some_p12_eq n a0 (retX gtt [.cell 2 25] (retF [[0, 1, 0, 0, 3]] K))).trans (by kernel_rfl))
def law23_some_K : AV → Option (Int × LL × Int × Int × LL) := fun av => match av with
  | .ag [.d (D.int .i64 r0), .d (D.sl 1 r1), .d (D.int .i64 r2), .d (D.int .i64 r3), .d (D.sl 3 r4)] => some (r0, r1, r2, r3, r4)
  | _ => none
def law23_some_e (n : Nat) : Entry := fun _ _ g avs _ k => match avs with
  | [c0] => prS g 1 c0 fun a0 => 
    gb g (law23_some n a0 (fun r0 r1 r2 r3 r4 => some (r0, r1, r2, r3, r4))) (0, [], 0, 0, []) fun r => k ⟨.ag [.d (D.int .i64 r.1), .d (D.sl 1 r.2.1), .d (D.int .i64 r.2.2.1), .d (D.int .i64 r.2.2.2.1), .d (D.sl 3 r.2.2.2.2)], [], []⟩
  | _ => none
theorem law23_some_ok (n : Nat) : EntryOK Tryd.prog 8 (law23_some_e n) := by
  intro R site g avs hl k r h
  unfold law23_some_e at h
  split at h
  rotate_left
  · cases h
  replace h := prS_some h
  obtain ⟨a0, h, le0⟩ := h
  replace h := gb_some h
  obtain ⟨res, h, hr⟩ := h
  refine ⟨_, h, fun hg => CallOK.conv (avs' := [.d (D.sl 1 a0)]) (.cons (le0 hg) (.nil)) (callOK_fix (K := law23_some_K) (res := res) (law23_some_VC n) (fn := Tryd.f8) (n := n) (by kernel_rfl) (by kernel_rfl) (by kernel_rfl) (ss := [[0, 1, 0, 0, 3]]) rfl ?_ ?_)⟩
  · exact (law23_some_vfn n a0 law23_some_K).trans (hr hg)
  · intro x hx
    unfold law23_some_K at hx
    split at hx
    · injection hx with hx; subst hx; rfl
    · cases hx
def law23_some_Ko : AV → List (Nat × Ob) → Option (Int × LL × Int × Int × LL) := fun av H => (look H 1041).bind fun o0 => (look H 1044).bind fun o1 => match av, o0, o1 with
  | .ag [.d (D.int .i64 r0), .arr p0, .d (D.int .i64 r2), .d (D.int .i64 r3), .arr p1], .arr p2 p3 r1, .arr p4 p5 r4 => bif Nat.beq p0 1041 && (Nat.beq p1 1044 && (Nat.beq p2 3 && (Nat.beq p3 1 && (Nat.beq p4 51 && (Nat.beq p5 3))))) then some (r0, r1, r2, r3, r4) else none
  | _, _, _ => none
theorem law23_some_vfo (n : Nat) (a0 : LL) : vfn (law23_some_C n) n Tryd.f8 [.d (D.sl 1 a0)] [] law23_some_Ko = law23_some n a0 (fun r0 r1 r2 r3 r4 => some (r0, r1, r2, r3, r4)) :=
  (show vfn (law23_some_C n) n Tryd.f8 [.d (D.sl 1 a0)] [] law23_some_Ko = vexec (law23_some_C n) n law23_some_c0 ⟨75, [(0, dL 1 a0)], []⟩ (retX gtt [.cell 2 25] law23_some_Ko) from vfn_at (by kernel_rfl) (by kernel_rfl) rfl (by kernel_rfl) rfl (by kernel_rfl) rfl).trans ((law23_some_p12_eq n a0 (retX gtt [.cell 2 25] law23_some_Ko)).trans (by kernel_rfl))
def law23_some_o (n : Nat) : Entry := fun _ site g avs hl k => match avs with
  | [c0] => prS g 1 c0 fun a0 => 
    bif newsOk hl [] [(1041, (site + 100000)), (1044, (site + 200000))] then gb g (law23_some n a0 (fun r0 r1 r2 r3 r4 => some (r0, r1, r2, r3, r4))) (0, [], 0, 0, []) fun r => k ⟨.ag [.d (D.int .i64 r.1), .arr (site + 100000), .d (D.int .i64 r.2.2.1), .d (D.int .i64 r.2.2.2.1), .arr (site + 200000)], [((site + 100000), some (.arr 3 1 r.2.1)), ((site + 200000), some (.arr 51 3 r.2.2.2.2))], []⟩ else none
  | _ => none
theorem law23_some_oo (n : Nat) : EntryOK Tryd.prog 8 (law23_some_o n) := by
  intro R site g avs hl k r h
  unfold law23_some_o at h
  split at h
  rotate_left
  · cases h
  replace h := prS_some h
  obtain ⟨a0, h, le0⟩ := h
  replace h := bif_some h
  obtain ⟨hc, h⟩ := h
  replace h := gb_some h
  obtain ⟨res, h, hr⟩ := h
  refine ⟨_, h, fun hg => CallOK.conv (avs' := [.d (D.sl 1 a0)]) (.cons (le0 hg) (.nil)) (callOK_own (K := law23_some_Ko) (res := res) (law23_some_VC n) (fn := Tryd.f8) (n := n) (by kernel_rfl) (by kernel_rfl) (by kernel_rfl) (ρ := []) (ν := [(1041, (site + 100000)), (1044, (site + 200000))]) (avs' := [.d (D.sl 1 a0)]) (H := []) rfl rfl rfl rfl hc (trivial) rfl rfl ?_ ?_)⟩
  · exact (law23_some_vfo n a0).trans (hr hg)
  · intro av H' hx
    unfold law23_some_Ko at hx
    replace hx := Option.bind_eq_some_iff.1 hx
    obtain ⟨o0, ho0, hx⟩ := hx
    replace hx := Option.bind_eq_some_iff.1 hx
    obtain ⟨o1, ho1, hx⟩ := hx
    split at hx
    rotate_left
    · cases hx
    replace hx := bif_some hx
    obtain ⟨hck, hx⟩ := hx
    simp only [Bool.and_eq_true] at hck
    obtain ⟨ek0, ek1, ek2, ek3, ek4, ek5⟩ := hck
    have ek0 := Nat.eq_of_beq_eq_true ek0
    subst ek0
    have ek1 := Nat.eq_of_beq_eq_true ek1
    subst ek1
    have ek2 := Nat.eq_of_beq_eq_true ek2
    subst ek2
    have ek3 := Nat.eq_of_beq_eq_true ek3
    subst ek3
    have ek4 := Nat.eq_of_beq_eq_true ek4
    subst ek4
    have ek5 := Nat.eq_of_beq_eq_true ek5
    subst ek5
    injection hx with hx
    subst hx
    refine ⟨rfl, ?_, ⟨by rw [ho0]; rfl, ⟨by rw [ho1]; rfl, trivial⟩⟩, trivial⟩
    simp only [List.cons_append, List.nil_append, outWr, ho0, ho1, Option.map_some]
    rfl
end Go.Vx
/-
  words_Lines: its contract, by the library
-/
set_option linter.unusedVariables false
namespace Go.Vx
open Go.Proofs
def words_Lines_e (n : Nat) : Entry := fun _ _ g avs _ k => match avs with
  | [c0] => prT g c0 fun a0 => gb g (words_Lines n a0 (fun r0 r1 r2 => some (r0, r1, r2))) ([], 0, 0) fun r => k ⟨.tup [.d (D.sl 1 r.1), .d (D.int .i64 r.2.1), .d (D.int .i64 r.2.2)], [], []⟩
  | _ => none
theorem words_Lines_ok (n : Nat) : EntryOK Tryd.prog 11 (words_Lines_e n) := by
  intro R site g avs hl k r h
  unfold words_Lines_e at h
  split at h
  rotate_left
  · cases h
  replace h := prT_some h
  obtain ⟨a0, h, le0⟩ := h
  replace h := gb_some h
  obtain ⟨res, h, hr⟩ := h
  refine ⟨_, h, fun hg => CallOK.conv (avs' := [.d (.str a0)]) (.cons (le0 hg) .nil) ?_⟩
  exact lines_callOK n a0 res (hr hg)
end Go.Vx
/-
  internal_stringslite_HasPrefix: the interpreter computes the pure function
-/
set_option linter.unusedVariables false
set_option linter.unusedSimpArgs false
set_option maxRecDepth 100000
namespace Go.Vx
open Go.Proofs
noncomputable def internal_stringslite_HasPrefix_c0 : Code := bodyOf Tryd.f52
def internal_stringslite_HasPrefix_C (n : Nat) : VC := ⟨specOf [], gtt, [cK 0 [0, 1], cK 1 [4]]⟩
theorem internal_stringslite_HasPrefix_VC (n : Nat) : VCOk Tryd.prog (internal_stringslite_HasPrefix_C n) := gVC (specOf_ok trivial)
theorem internal_stringslite_HasPrefix_vfn {R : Type} (n : Nat) (a0 a1 : List UInt8) (K : AV → Option R) : vfn (internal_stringslite_HasPrefix_C n) n Tryd.f52 [.d (D.str a0), .d (D.str a1)] [] (retF [[0]] K) = internal_stringslite_HasPrefix n a0 a1 (fun r0 => K (.d (D.bool r0))) :=
  (vfn_at (c := internal_stringslite_HasPrefix_c0) (m := 18) (tm := [(0, dT a0), (1, dT a1)]) (rs := [.tmp 4]) (tt := gtt) (by kernel_rfl) (by kernel_rfl) rfl (by kernel_rfl) rfl (by kernel_rfl) rfl).trans (by kernel_rfl)
def internal_stringslite_HasPrefix_K : AV → Option (Bool) := fun av => match av with
  | .d (D.bool r0) => some r0
  | _ => none
def internal_stringslite_HasPrefix_e (n : Nat) : Entry := fun _ _ g avs _ k => match avs with
  | [c0, c1] => prT g c0 fun a0 => prT g c1 fun a1 => 
    gb g (internal_stringslite_HasPrefix n a0 a1 some) false fun r => k ⟨.d (D.bool r), [], []⟩
  | _ => none
theorem internal_stringslite_HasPrefix_ok (n : Nat) : EntryOK Tryd.prog 52 (internal_stringslite_HasPrefix_e n) := by
  intro R site g avs hl k r h
  unfold internal_stringslite_HasPrefix_e at h
  split at h
  rotate_left
  · cases h
  replace h := prT_some h
  obtain ⟨a0, h, le0⟩ := h
  replace h := prT_some h
  obtain ⟨a1, h, le1⟩ := h
  replace h := gb_some h
  obtain ⟨res, h, hr⟩ := h
  refine ⟨_, h, fun hg => CallOK.conv (avs' := [.d (D.str a0), .d (D.str a1)]) (.cons (le0 hg) (.cons (le1 hg) (.nil))) (callOK_fix (K := internal_stringslite_HasPrefix_K) (res := res) (internal_stringslite_HasPrefix_VC n) (fn := Tryd.f52) (n := n) (by kernel_rfl) (by kernel_rfl) (by kernel_rfl) (ss := [[0]]) rfl ?_ ?_)⟩
  · exact (internal_stringslite_HasPrefix_vfn n a0 a1 internal_stringslite_HasPrefix_K).trans (hr hg)
  · intro x hx
    unfold internal_stringslite_HasPrefix_K at hx
    split at hx
    · injection hx with hx; subst hx; rfl
    · cases hx
end Go.Vx
/-
  internal_stringslite_CutPrefix: the interpreter computes the pure function
-/
set_option linter.unusedVariables false
set_option linter.unusedSimpArgs false
set_option maxRecDepth 100000
namespace Go.Vx
open Go.Proofs
noncomputable def internal_stringslite_CutPrefix_c0 : Code := bodyOf Tryd.f47
def internal_stringslite_CutPrefix_C (n : Nat) : VC := ⟨specOf [(52, internal_stringslite_HasPrefix_e n)], gtt, [cK 0 [0, 1], cK 1 [0, 1, 9], cK 2 [4, 5], cK 3 [4, 5]]⟩
theorem internal_stringslite_CutPrefix_VC (n : Nat) : VCOk Tryd.prog (internal_stringslite_CutPrefix_C n) := gVC (specOf_ok ⟨internal_stringslite_HasPrefix_ok n, trivial⟩)
theorem internal_stringslite_CutPrefix_vfn {R : Type} (n : Nat) (a0 a1 : List UInt8) (K : AV → Option R) : vfn (internal_stringslite_CutPrefix_C n) n Tryd.f47 [.d (D.str a0), .d (D.str a1)] [] (retF [[0], [0]] K) = internal_stringslite_CutPrefix n a0 a1 (fun r0 r1 => K (.tup [.d (D.str r0), .d (D.bool r1)])) :=
  (vfn_at (c := internal_stringslite_CutPrefix_c0) (m := 15) (tm := [(0, dT a0), (1, dT a1)]) (rs := [.tmp 4, .tmp 5]) (tt := gtt) (by kernel_rfl) (by kernel_rfl) rfl (by kernel_rfl) rfl (by kernel_rfl) rfl).trans (by kernel_rfl)
def internal_stringslite_CutPrefix_K : AV → Option ((List UInt8) × Bool) := fun av => match av with
  | .tup [.d (D.str r0), .d (D.bool r1)] => some (r0, r1)
  | _ => none
def internal_stringslite_CutPrefix_e (n : Nat) : Entry := fun _ _ g avs _ k => match avs with
  | [c0, c1] => prT g c0 fun a0 => prT g c1 fun a1 => 
    gb g (internal_stringslite_CutPrefix n a0 a1 (fun r0 r1 => some (r0, r1))) ([], false) fun r => k ⟨.tup [.d (D.str r.1), .d (D.bool r.2)], [], []⟩
  | _ => none
theorem internal_stringslite_CutPrefix_ok (n : Nat) : EntryOK Tryd.prog 47 (internal_stringslite_CutPrefix_e n) := by
  intro R site g avs hl k r h
  unfold internal_stringslite_CutPrefix_e at h
  split at h
  rotate_left
  · cases h
  replace h := prT_some h
  obtain ⟨a0, h, le0⟩ := h
  replace h := prT_some h
  obtain ⟨a1, h, le1⟩ := h
  replace h := gb_some h
  obtain ⟨res, h, hr⟩ := h
  refine ⟨_, h, fun hg => CallOK.conv (avs' := [.d (D.str a0), .d (D.str a1)]) (.cons (le0 hg) (.cons (le1 hg) (.nil))) (callOK_fix (K := internal_stringslite_CutPrefix_K) (res := res) (internal_stringslite_CutPrefix_VC n) (fn := Tryd.f47) (n := n) (by kernel_rfl) (by kernel_rfl) (by kernel_rfl) (ss := [[0], [0]]) rfl ?_ ?_)⟩
  · exact (internal_stringslite_CutPrefix_vfn n a0 a1 internal_stringslite_CutPrefix_K).trans (hr hg)
  · intro x hx
    unfold internal_stringslite_CutPrefix_K at hx
    split at hx
    · injection hx with hx; subst hx; rfl
    · cases hx
end Go.Vx
