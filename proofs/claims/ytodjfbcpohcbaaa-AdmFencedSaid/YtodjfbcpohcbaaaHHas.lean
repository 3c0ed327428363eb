/- Has, SameInts: plain Lean. -/
import Derived.Test.YtodjfbcpohcbaaaPrint4
import Derived.Test.YtodjfbcpohcbaaaPrint1
import Derived.Test.YtodjfbcpohcbaaaHRight
namespace Go.Proofs.Ytodjfbcpohcbaaa.Print
open Go.RowKit Go.Maps Go.Proofs.YtodjfbcpohcbaaaW.PrintWords Go.Proofs.YtodjfbcpohcbaaaW.PrintLast Go.Proofs.YtodjfbcpohcbaaaW.PrintMore
set_option linter.unusedVariables false
set_option linter.unusedSimpArgs false

theorem rd_nat (g : List Int) (i : Nat) (h : i < g.length) : rd g (i : Int) = g[i] := by
  unfold rd
  rw [List.getD_eq_getElem?_getD, show ((i : Int)).toNat = i by omega, List.getElem?_eq_getElem h]; rfl
theorem wnat (i : Nat) (h : i ≤ 1000000000) : wrap64 ((i : Int) + 1) = ((i + 1 : Nat) : Int) := by unfold wrap64; omega
theorem has_l0 (g : List Int) (x : Int) (hg : g.length ≤ 1000000) : ∀ (n i : Nat), g.length - i ≤ n → i ≤ g.length → x ∉ g.take i → Ev (fun k => fencepostref08_Has.l0 k g x (i : Int)) (decide (x ∈ g)) := by
  intro n
  induction n with
  | zero =>
    intro i h h1 h2
    obtain rfl : i = g.length := by omega
    rw [List.take_length] at h2
    refine Ev.step (fun k => by rw [fencepostref08_Has.l0]) ?_
    simp only [if_neg (show ¬ (g.length : Int) < (g.length : Int) by omega), decide_eq_false h2]
    exact Ev.now false
  | succ n ih =>
    intro i h h1 h2
    by_cases c : i < g.length
    · refine Ev.step (fun k => by rw [fencepostref08_Has.l0]) ?_
      simp only [if_pos (show (i : Int) < (g.length : Int) by omega), if_pos (show (0 : Int) ≤ (i : Int) by omega), rd_nat g i c, wnat i (by omega)]
      by_cases e : g[i] = x
      · simp only [if_pos e]
        rw [decide_eq_true (show x ∈ g by rw [← e]; exact List.getElem_mem c)]
        exact Ev.now true
      · simp only [if_neg e]
        refine ih (i + 1) (by omega) (by omega) ?_
        rw [List.take_succ_eq_append_getElem c, List.mem_append]
        rintro (h | h)
        · exact h2 h
        · simp at h; exact e h.symm
    · obtain rfl : i = g.length := by omega
      rw [List.take_length] at h2
      refine Ev.step (fun k => by rw [fencepostref08_Has.l0]) ?_
      simp only [if_neg (show ¬ (g.length : Int) < (g.length : Int) by omega), decide_eq_false h2]
      exact Ev.now false
theorem has_ev (g : List Int) (x : Int) (hg : g.length ≤ 1000000) : Ev (fun k => fencepostref08_Has.f k g x) (decide (x ∈ g)) := by
  unfold fencepostref08_Has.f
  exact has_l0 g x hg g.length 0 (by omega) (by omega) (by simp)
theorem same_l0 (a : List Int) (hl : a.length ≤ 1000000) : ∀ (n : Nat) (i : Int), (a.length : Int) - i ≤ n → 0 ≤ i → Ev (fun k => fencepostref07_SameInts.l0 k a a i) true := by
  intro n
  induction n with
  | zero =>
    intro i h h0
    refine Ev.step (fun k => by rw [fencepostref07_SameInts.l0]) ?_
    simp only [if_neg (show ¬ i < (a.length : Int) by omega)]
    exact Ev.now true
  | succ n ih =>
    intro i h h0
    refine Ev.step (fun k => by rw [fencepostref07_SameInts.l0]) ?_
    by_cases c : i < (a.length : Int)
    · simp only [if_pos c, if_pos h0, if_true]
      rw [w64 (by omega) (by omega)]
      exact ih _ (by omega) (by omega)
    · simp only [if_neg c]; exact Ev.now true
theorem same_ev (a : List Int) (hl : a.length ≤ 1000000) : Ev (fun k => fencepostref07_SameInts.f k a a) true := by
  unfold fencepostref07_SameInts.f
  simp only [if_true]
  exact same_l0 a hl a.length 0 (by omega) (by omega)
end Go.Proofs.Ytodjfbcpohcbaaa.Print
