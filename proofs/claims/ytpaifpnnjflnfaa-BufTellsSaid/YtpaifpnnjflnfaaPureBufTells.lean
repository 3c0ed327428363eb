/- law09.BufTells answers true. -/
import Derived.Test.YtpaifpnnjflnfaaPrint6
import Derived.Test.YtpaifpnnjflnfaaHBufRef
namespace Go.Proofs.Ytpaifpnnjflnfaa.Pure
open Go.RowKit Go.Proofs.YtpaifpnnjflnfaaW.PrintWords Go.Proofs.YtpaifpnnjflnfaaW.PrintLast Go.Proofs.YtpaifpnnjflnfaaW.PrintMore Go.Proofs.Ytpaifpnnjflnfaa.Print
set_option linter.unusedVariables false
set_option linter.unusedSimpArgs false

theorem BufTells (x0 : List (S51)) (x1 : S51) (x2 : List Int) (x3 : Int) (g0 : (GoodL ok51) x0) (g1 : ok51 x1) (g2 : (GoodL (fun x : Int => (Lit.int .i64 x).wf = true)) x2) (g3 : (Lit.int .i64 x3).wf = true) : ∃ k, fencepostlaw09_BufTells.f k x0 x1.f0 x1.f1 x2 x3 = some true := by
  apply Ev.rounds
  unfold fencepostlaw09_BufTells.f
  refine Ev.bind head09 ?_
  obtain ⟨b, hb, hg⟩ := great_f x0 x2
  simp only [hb, Option.bind_some]
  cases b with
  | true => simp only [if_true]; exact Ev.now true
  | false =>
    obtain ⟨hl, hm⟩ := hg rfl
    have hl' : x0.length ≤ 1000 := by omega
    have hm' : x2.length ≤ 1000 := by omega
    simp only [Bool.false_eq_true, if_false]
    simp only [last_f hl', view_f hl', rdrain_f hl' hm', push_f hl', rpush_f hl', Option.bind_some]
    refine Ev.bind (rlast_ev x0 hl' x3) ?_
    refine Ev.bind (rview_ev x0 hl' x2 x3) ?_
    refine Ev.bind (drain_ev x0 hl' x2 hm') ?_
    simp only [if_true]
    refine Ev.bind (sameW_ev _ (by simp; omega)) ?_
    simp only [if_true, beq_self_eq_true]
    have hd : (drainF x0 x2).1.length ≤ x0.length := by
      unfold drainF
      split
      · simp
      · split <;> simp
    refine Ev.bind (sameW_ev _ (by omega)) ?_
    simp only [if_true]
    refine Ev.bind (sameI_ev _ (by rw [drain_length]; omega)) ?_
    simp only [if_true]
    refine Ev.bind (all_ev x0 hl' x2 hm') ?_
    refine Ev.bind (rall_ev x0 hl' x2 hm') ?_
    refine Ev.bind (sameI_ev _ (by rw [allF_length]; omega)) ?_
    exact Ev.now true
end Go.Proofs.Ytpaifpnnjflnfaa.Pure
