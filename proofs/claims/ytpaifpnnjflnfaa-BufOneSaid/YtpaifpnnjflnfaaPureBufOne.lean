/- law09.BufOne answers true. -/
import Derived.Test.YtpaifpnnjflnfaaPrint18
import Derived.Test.YtpaifpnnjflnfaaHBufPure
namespace Go.Proofs.Ytpaifpnnjflnfaa.Pure
open Go.RowKit Go.Proofs.YtpaifpnnjflnfaaW.PrintWords Go.Proofs.YtpaifpnnjflnfaaW.PrintLast Go.Proofs.YtpaifpnnjflnfaaW.PrintMore Go.Proofs.Ytpaifpnnjflnfaa.Print
set_option linter.unusedVariables false
set_option linter.unusedSimpArgs false

theorem BufOne (x0 : List (S51)) (x1 : S51) (x2 : List Int) (x3 : Int) (g0 : (GoodL ok51) x0) (g1 : ok51 x1) (g2 : (GoodL (fun x : Int => (Lit.int .i64 x).wf = true)) x2) (g3 : (Lit.int .i64 x3).wf = true) : ∃ k, fencepostlaw09_BufOne.f k x0 x1.f0 x1.f1 x2 x3 = some true := by
  apply Ev.rounds
  unfold fencepostlaw09_BufOne.f
  refine Ev.bind head09 ?_
  obtain ⟨b, hb, hg⟩ := great_f x0 x2
  simp only [hb, Option.bind_some]
  cases b with
  | true => simp only [if_true]; exact Ev.now true
  | false =>
    obtain ⟨hl, hm⟩ := hg rfl
    have hl' : x0.length ≤ 1000 := by omega
    have hm' : x2.length ≤ 1000 := by omega
    simp only [Bool.false_eq_true, if_false]
    have hc : (x0 ++ [(⟨x1.f0, x1.f1⟩ : S51)]).length ≤ 1000 := by simp; omega
    have e1 : wrap64 ((x0.length : Int) + 1) = (x0.length : Int) + 1 := wr64 (by omega) (by omega)
    have e2 : lastF (x0 ++ [(⟨x1.f0, x1.f1⟩ : S51)]) x1.f0 = (x1.f1, true) := by rw [lastF_snoc]; simp
    simp only [push_f hl', Option.bind_some, last_f hc, view_f hl', view_f hc, if_true, e1, e2, if_pos (show ((x0 ++ [(⟨x1.f0, x1.f1⟩ : S51)]).length : Int) = (x0.length : Int) + 1 by simp), if_pos (show 0 ≤ (x0.length : Int) by omega), if_pos (show (x0.length : Int) ≤ ((x0 ++ [(⟨x1.f0, x1.f1⟩ : S51)]).length : Int) by simp; omega)]
    have e3 : (x0 ++ [(⟨x1.f0, x1.f1⟩ : S51)]).take ((x0.length : Int)).toNat = x0 := by rw [Int.toNat_natCast, List.take_left]
    rw [e3]
    refine Ev.bind (sameW_ev x0 (by omega)) ?_
    simp only [if_true]
    by_cases c : x3 = x1.f0
    · simp only [if_pos c]; exact Ev.now true
    · have e4 : viewF (x0 ++ [(⟨x1.f0, x1.f1⟩ : S51)]) x2 x3 = viewF x0 x2 x3 := by
        unfold viewF
        rw [lastF_snoc, if_neg (show ¬ x1.f0 = x3 from fun h => c h.symm)]
      simp only [if_neg c, e4, if_true, beq_self_eq_true]
      exact Ev.now true
end Go.Proofs.Ytpaifpnnjflnfaa.Pure
