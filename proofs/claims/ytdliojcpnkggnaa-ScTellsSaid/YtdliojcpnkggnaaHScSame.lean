/- ref10.Same answers true where both are one: plain Lean. -/
import Derived.Test.YtdliojcpnkggnaaHScWide
import Derived.Test.YtdliojcpnkggnaaPrint8
namespace Go.Proofs.Ytdliojcpnkggnaa.Print
open Go.RowKit Go.Proofs.YtdliojcpnkggnaaW.PrintWords Go.Proofs.YtdliojcpnkggnaaW.PrintLast Go.Proofs.YtdliojcpnkggnaaW.PrintMore
set_option linter.unusedVariables false
set_option linter.unusedSimpArgs false
theorem sameInts_l0 (l : List Int) (hl : l.length ≤ 1000000) : ∀ (d i : Nat), l.length - i ≤ d → i ≤ l.length → Ev (fun k => fencepostref07_SameInts.l0 k l l (i : Int)) true := by
  have last : ∀ i : Nat, ¬ i < l.length → Ev (fun k => fencepostref07_SameInts.l0 k l l (i : Int)) true := by
    intro i h
    refine Ev.step (fun k => by rw [fencepostref07_SameInts.l0]) ?_
    simp only [if_neg (show ¬ (i : Int) < (l.length : Int) by omega)]
    exact Ev.now _
  intro d
  induction d with
  | zero => intro i h1 h2; exact last i (by omega)
  | succ d ih =>
    intro i h1 h2
    by_cases c : i < l.length
    · refine Ev.step (fun k => by rw [fencepostref07_SameInts.l0]) ?_
      simp only [if_pos (show (i : Int) < (l.length : Int) by omega), if_pos (show (0 : Int) ≤ (i : Int) by omega), if_true, w64 (show -9223372036854775808 ≤ (i : Int) + 1 by omega) (by omega)]
      exact ih (i + 1) (by omega) (by omega)
    · exact last i c
theorem sameInts_refl (l : List Int) (hl : l.length ≤ 1000000) : Ev (fun k => fencepostref07_SameInts.f k l l) true := by
  unfold fencepostref07_SameInts.f
  simp only [if_true]
  exact sameInts_l0 l hl l.length 0 (by omega) (by omega)
theorem same9_l0 (l : List S53) (hl : l.length ≤ 1000000) : ∀ (d i : Nat), l.length - i ≤ d → i ≤ l.length → Ev (fun k => fencepostref09_Same.l0 k l l (i : Int)) true := by
  have last : ∀ i : Nat, ¬ i < l.length → Ev (fun k => fencepostref09_Same.l0 k l l (i : Int)) true := by
    intro i h
    refine Ev.step (fun k => by rw [fencepostref09_Same.l0]) ?_
    simp only [if_neg (show ¬ (i : Int) < (l.length : Int) by omega)]
    exact Ev.now _
  intro d
  induction d with
  | zero => intro i h1 h2; exact last i (by omega)
  | succ d ih =>
    intro i h1 h2
    by_cases c : i < l.length
    · refine Ev.step (fun k => by rw [fencepostref09_Same.l0]) ?_
      simp only [if_pos (show (i : Int) < (l.length : Int) by omega), if_pos (show (0 : Int) ≤ (i : Int) by omega), beq_self_eq_true, Bool.not_true, Bool.or_false, Bool.false_eq_true, if_false, w64 (show -9223372036854775808 ≤ (i : Int) + 1 by omega) (by omega)]
      exact ih (i + 1) (by omega) (by omega)
    · exact last i c
theorem same9_refl (l : List S53) (hl : l.length ≤ 1000000) : Ev (fun k => fencepostref09_Same.f k l l) true := by
  unfold fencepostref09_Same.f
  simp only [if_true]
  exact same9_l0 l hl l.length 0 (by omega) (by omega)
theorem sameTh_refl (x : S45) (h1 : x.f1.length ≤ 1000000) (h3 : x.f3.length ≤ 1000000) : Ev (fun k => fencepostref10_SameTh.f k x.f0 x.f1 x.f2 x.f3 x.f0 x.f1 x.f2 x.f3) true := by
  unfold fencepostref10_SameTh.f
  simp only [if_true, beq_self_eq_true]
  refine Ev.bind (sameInts_refl x.f1 h1) ?_
  simp only [if_true]
  exact Ev.bind (same9_refl x.f3 h3) (Ev.now _)
theorem same10_l0 (mem : List Int) (ths : List S45) (hl : ths.length ≤ 1000000) (hr : ∀ (t : Nat) x, ths[t]? = some x → x.f1.length ≤ 1000000 ∧ x.f3.length ≤ 1000000) : ∀ (d i : Nat), ths.length - i ≤ d → i ≤ ths.length → Ev (fun k => fencepostref10_Same.l0 k (i : Int) mem ths mem ths) true := by
  have last : ∀ i : Nat, ¬ i < ths.length → Ev (fun k => fencepostref10_Same.l0 k (i : Int) mem ths mem ths) true := by
    intro i h
    refine Ev.step (fun k => by rw [fencepostref10_Same.l0]) ?_
    simp only [if_neg (show ¬ (i : Int) < (ths.length : Int) by omega)]
    exact Ev.now _
  intro d
  induction d with
  | zero => intro i h1 h2; exact last i (by omega)
  | succ d ih =>
    intro i h1 h2
    by_cases c : i < ths.length
    · obtain ⟨x, hx⟩ : ∃ x, ths[i]? = some x := ⟨_, List.getElem?_eq_getElem c⟩
      refine Ev.step (fun k => by rw [fencepostref10_Same.l0]) ?_
      simp only [rdT_nat hx, if_pos (show (i : Int) < (ths.length : Int) by omega), if_pos (show (0 : Int) ≤ (i : Int) by omega), w64 (show -9223372036854775808 ≤ (i : Int) + 1 by omega) (by omega)]
      refine Ev.bind (sameTh_refl x (hr i x hx).1 (hr i x hx).2) ?_
      simp only [if_true]
      exact ih (i + 1) (by omega) (by omega)
    · exact last i c
theorem same10_refl (mem : List Int) (ths : List S45) (hm : mem.length ≤ 1000000) (hl : ths.length ≤ 1000000) (hr : ∀ (t : Nat) x, ths[t]? = some x → x.f1.length ≤ 1000000 ∧ x.f3.length ≤ 1000000) : Ev (fun k => fencepostref10_Same.f k mem ths mem ths) true := by
  unfold fencepostref10_Same.f
  refine Ev.bind (sameInts_refl mem hm) ?_
  simp only [if_true, bne_self_eq_false]
  refine Ev.step (fun k => by rw [fencepostref10_Same.j0]) ?_
  simp only [Bool.false_eq_true, if_false]
  exact same10_l0 mem ths hl hr ths.length 0 (by omega) (by omega)
end Go.Proofs.Ytdliojcpnkggnaa.Print
