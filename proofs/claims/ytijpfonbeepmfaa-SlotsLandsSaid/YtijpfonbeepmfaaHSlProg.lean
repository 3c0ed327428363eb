/- Programs: what Insert makes, by what stands in its row of numbers; ref07.Same of one and the same: plain Lean. -/
import Derived.Test.YtijpfonbeepmfaaHSlIns1
import Derived.Test.YtijpfonbeepmfaaHSlCode
import Derived.Test.YtijpfonbeepmfaaPrint5
namespace Go.Proofs.Ytijpfonbeepmfaa.Print
open Go.RowKit Go.Proofs.YtijpfonbeepmfaaW.PrintWords Go.Proofs.YtijpfonbeepmfaaW.PrintLast Go.Proofs.YtijpfonbeepmfaaW.PrintMore
set_option linter.unusedVariables false
set_option linter.unusedSimpArgs false
theorem sameI_l0 (l : List Int) (hl : l.length ≤ 1000000) : ∀ (d i : Nat), l.length - i ≤ d → Ev (fun k => fencepostref07_SameInts.l0 k l l (i : Int)) true := by
 intro d
 induction d with
 | zero =>
  intro i h
  refine Ev.step (fun k => by rw [fencepostref07_SameInts.l0]) ?_
  simp only [if_neg (show ¬ (i : Int) < (l.length : Int) by omega)]
  exact Ev.now _
 | succ d ih =>
  intro i h
  by_cases c : i < l.length
  ·refine Ev.step (fun k => by rw [fencepostref07_SameInts.l0]) ?_
   simp only [if_pos (show (i : Int) < (l.length : Int) by omega), if_pos (show (0 : Int) ≤ (i : Int) by omega), if_true, w64 (show -9223372036854775808 ≤ (i : Int) + 1 by omega) (by omega)]
   exact ih (i + 1) (by omega)
  ·refine Ev.step (fun k => by rw [fencepostref07_SameInts.l0]) ?_
   simp only [if_neg (show ¬ (i : Int) < (l.length : Int) by omega)]
   exact Ev.now _
section
variable (A : List Int) (B : List (List S53))
theorem same7_l1 (t : Nat) (ht : t < B.length) (hl : (rd_L3 B (t : Int)).length ≤ 1000000) (next : Ev (fun k => fencepostref07_Same.l0 k (wrap64 ((t : Int) + 1)) A B A B) true) : ∀ (d i : Nat), (rd_L3 B (t : Int)).length - i ≤ d → Ev (fun k => fencepostref07_Same.l1 k (t : Int) (i : Int) A B A B) true := by
 have s1 : (0 : Int) ≤ (t : Int) := by omega
 have s2 : (t : Int) < (B.length : Int) := by omega
 intro d
 induction d with
 | zero =>
  intro i h
  refine Ev.step (fun k => by rw [fencepostref07_Same.l1]) ?_
  simp only [if_pos s1, if_pos s2, if_neg (show ¬ (i : Int) < ((rd_L3 B (t : Int)).length : Int) by omega)]
  exact next
 | succ d ih =>
  intro i h
  by_cases c : i < (rd_L3 B (t : Int)).length
  ·refine Ev.step (fun k => by rw [fencepostref07_Same.l1]) ?_
   simp only [if_pos s1, if_pos s2, if_pos (show (i : Int) < ((rd_L3 B (t : Int)).length : Int) by omega), if_pos (show (0 : Int) ≤ (i : Int) by omega), beq_self_eq_true, Bool.not_true, Bool.or_self, Bool.false_eq_true, if_false, w64 (show -9223372036854775808 ≤ (i : Int) + 1 by omega) (by omega)]
   exact ih (i + 1) (by omega)
  ·refine Ev.step (fun k => by rw [fencepostref07_Same.l1]) ?_
   simp only [if_pos s1, if_pos s2, if_neg (show ¬ (i : Int) < ((rd_L3 B (t : Int)).length : Int) by omega)]
   exact next
theorem same7_l0 (hB : B.length ≤ 1000000) (hl : ∀ l ∈ B, l.length ≤ 1000000) : ∀ (d i : Nat), B.length - i ≤ d → Ev (fun k => fencepostref07_Same.l0 k (i : Int) A B A B) true := by
 intro d
 induction d with
 | zero =>
  intro i h
  refine Ev.step (fun k => by rw [fencepostref07_Same.l0]) ?_
  simp only [if_neg (show ¬ (i : Int) < (B.length : Int) by omega)]
  exact Ev.now _
 | succ d ih =>
  intro i h
  by_cases c : i < B.length
  ·refine Ev.step (fun k => by rw [fencepostref07_Same.l0]) ?_
   simp only [if_pos (show (i : Int) < (B.length : Int) by omega), if_pos (show (0 : Int) ≤ (i : Int) by omega), if_true]
   have e : rd_L3 B (i : Int) = B[i] := by unfold rd_L3; rw [Int.toNat_natCast, List.getD_eq_getElem?_getD, List.getElem?_eq_getElem c]; rfl
   refine same7_l1 A B i c (by rw [e]; exact hl _ (List.getElem_mem c)) ?_ (rd_L3 B (i : Int)).length 0 (by omega)
   rw [w64 (by omega) (by omega)]
   exact ih (i + 1) (by omega)
  ·refine Ev.step (fun k => by rw [fencepostref07_Same.l0]) ?_
   simp only [if_neg (show ¬ (i : Int) < (B.length : Int) by omega)]
   exact Ev.now _
theorem same7_refl (hA : A.length ≤ 1000000) (hB : B.length ≤ 1000000) (hl : ∀ l ∈ B, l.length ≤ 1000000) : Ev (fun k => fencepostref07_Same.f k A B A B) true := by
 unfold fencepostref07_Same.f
 have hI : Ev (fun k => fencepostref07_SameInts.f k A A) true := by
  unfold fencepostref07_SameInts.f
  simp only [if_true]
  exact sameI_l0 A hA A.length 0 (by omega)
 refine Ev.bind hI ?_
 simp only [if_true, bne_self_eq_false]
 refine Ev.step (fun k => by rw [fencepostref07_Same.j0]) ?_
 simp only [Bool.false_eq_true, if_false]
 exact same7_l0 A B hB hl B.length 0 (by omega)
end
end Go.Proofs.Ytijpfonbeepmfaa.Print
