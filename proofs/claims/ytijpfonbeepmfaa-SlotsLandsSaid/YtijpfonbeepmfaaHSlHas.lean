/- The reference's Has: what it answers. Plain Lean. -/
import Derived.Test.YtijpfonbeepmfaaHSlCode
import Derived.Test.YtijpfonbeepmfaaPrint10
namespace Go.Proofs.Ytijpfonbeepmfaa.Print
open Go.RowKit Go.Proofs.YtijpfonbeepmfaaW.PrintWords Go.Proofs.YtijpfonbeepmfaaW.PrintLast Go.Proofs.YtijpfonbeepmfaaW.PrintMore
set_option linter.unusedVariables false
set_option linter.unusedSimpArgs false
theorem has_l0 (g : List Int) (n : Int) (hl : g.length ≤ 1000000) : ∀ (d i : Nat), g.length - i ≤ d → Ev (fun k => fencepostref08_Has.l0 k g n (i : Int)) (decide (n ∈ g.drop i)) := by
 intro d
 induction d with
 | zero =>
  intro i h
  refine Ev.step (fun k => by rw [fencepostref08_Has.l0]) ?_
  simp only [if_neg (show ¬ (i : Int) < (g.length : Int) by omega), List.drop_eq_nil_of_le (show g.length ≤ i by omega), List.not_mem_nil, decide_false]
  exact Ev.now _
 | succ d ih =>
  intro i h
  by_cases c : i < g.length
  ·have e : rd g (i : Int) = g[i] := by unfold rd; rw [Int.toNat_natCast, List.getD_eq_getElem?_getD, List.getElem?_eq_getElem c]; rfl
   refine Ev.step (fun k => by rw [fencepostref08_Has.l0]) ?_
   simp only [if_pos (show (i : Int) < (g.length : Int) by omega), if_pos (show (0 : Int) ≤ (i : Int) by omega), w64 (show -9223372036854775808 ≤ (i : Int) + 1 by omega) (by omega), e, List.drop_eq_getElem_cons c, List.mem_cons]
   by_cases c1 : g[i] = n
   ·simp only [if_pos c1, c1, true_or, decide_true]
    exact Ev.now _
   ·have c2 : (n = g[i] ∨ n ∈ g.drop (i + 1)) = (n ∈ g.drop (i + 1)) := propext ⟨fun h => h.elim (fun h => absurd h.symm c1) id, .inr⟩
    simp only [if_neg c1, c2]
    exact ih (i + 1) (by omega)
  ·refine Ev.step (fun k => by rw [fencepostref08_Has.l0]) ?_
   simp only [if_neg (show ¬ (i : Int) < (g.length : Int) by omega), List.drop_eq_nil_of_le (show g.length ≤ i by omega), List.not_mem_nil, decide_false]
   exact Ev.now _
theorem has_ev (g : List Int) (n : Int) (hl : g.length ≤ 1000000) : Ev (fun k => fencepostref08_Has.f k g n) (decide (n ∈ g)) := by
 unfold fencepostref08_Has.f
 have := has_l0 g n hl g.length 0 (by omega)
 rw [List.drop_zero] at this
 exact this
end Go.Proofs.Ytijpfonbeepmfaa.Print
