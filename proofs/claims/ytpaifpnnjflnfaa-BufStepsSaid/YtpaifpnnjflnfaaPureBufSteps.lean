/- law09.BufSteps answers true. -/
import Derived.Test.YtpaifpnnjflnfaaPrint18
import Derived.Test.YtpaifpnnjflnfaaHBufPure
namespace Go.Proofs.Ytpaifpnnjflnfaa.Pure
open Go.RowKit Go.Proofs.YtpaifpnnjflnfaaW.PrintWords Go.Proofs.YtpaifpnnjflnfaaW.PrintLast Go.Proofs.YtpaifpnnjflnfaaW.PrintMore Go.Proofs.Ytpaifpnnjflnfaa.Print
set_option linter.unusedVariables false
set_option linter.unusedSimpArgs false

theorem BufSteps (x0 : List (S51)) (x1 : List Int) (g0 : (GoodL ok51) x0) (g1 : (GoodL (fun x : Int => (Lit.int .i64 x).wf = true)) x1) : ∃ k, fencepostlaw09_BufSteps.f k x0 x1 = some true := by
  apply Ev.rounds
  unfold fencepostlaw09_BufSteps.f
  refine Ev.bind head09 ?_
  obtain ⟨b, hb, hg⟩ := great_f x0 x1
  simp only [hb, Option.bind_some]
  cases b with
  | true => simp only [if_true]; exact Ev.now true
  | false =>
    obtain ⟨hl, hm⟩ := hg rfl
    have hl' : x0.length ≤ 1000 := by omega
    have hm' : x1.length ≤ 1000 := by omega
    simp only [Bool.false_eq_true, if_false]
    refine Ev.bind (all_ev x0 hl' x1 hm') ?_
    have loop : ∀ (c : List S51) (m : List Int) (i : Int), 0 ≤ i → i + (c.length : Int) ≤ (x0.length : Int) → m.length = x1.length → allF c m = allF x0 x1 → Ev (fun k => fencepostlaw09_BufSteps.l0 k x0 true (allF x0 x1) c m i) true := by
      have stop : ∀ (c : List S51) (m : List Int), c.length ≤ 300 → m.length = x1.length → m = allF x0 x1 → Ev (fun k => (fencepostref09_Same.f k c c).bind fun t702 => (if t702 = true then ((fencepostref07_SameInts.f k m m).bind fun t703 => (if t703 = true then (if true = true then ((fencepostref07_SameInts.f k m (allF x0 x1)).bind fun t704 => (some t704)) else (some false)) else (some false))) else (some false))) true := by
        intro c m hc hm3 he
        refine Ev.bind (sameW_ev c (by omega)) ?_
        simp only [if_true]
        refine Ev.bind (sameI_ev m (by omega)) ?_
        simp only [if_true]
        rw [← he]
        refine Ev.bind (sameI_ev m (by omega)) ?_
        exact Ev.now true
      intro c
      induction c with
      | nil =>
        intro m i h0 hi hm3 he
        refine Ev.step (fun k => by rw [fencepostlaw09_BufSteps.l0]) ?_
        simp only [List.length_nil] at hi
        simp only [if_pos (show i ≤ (x0.length : Int) by omega)]
        refine Ev.bind (drain_ev [] (by simp) m (by omega)) ?_
        simp only [drainF, Bool.false_eq_true, if_false]
        exact stop [] m (by simp) hm3 he
      | cons x t ih =>
        intro m i h0 hi hm3 he
        have hi2 : i + ((t.length : Int) + 1) ≤ (x0.length : Int) := by simpa using hi
        refine Ev.step (fun k => by rw [fencepostlaw09_BufSteps.l0]) ?_
        simp only [if_pos (show i ≤ (x0.length : Int) by omega)]
        refine Ev.bind (drain_ev (x :: t) (by simp; omega) m (by omega)) ?_
        by_cases c : x.f0 < 0 ∨ x.f0 ≥ (m.length : Int)
        · have e1 : drainF (x :: t) m = (x :: t, m, false) := by show (if x.f0 < 0 ∨ x.f0 ≥ (m.length : Int) then _ else _) = _; rw [if_pos c]
          have e2 : allF (x :: t) m = m := by show (if x.f0 < 0 ∨ x.f0 ≥ (m.length : Int) then m else _) = m; rw [if_pos c]
          simp only [e1, Bool.false_eq_true, if_false]
          exact stop (x :: t) m (by simp; omega) hm3 (by rw [← e2, he])
        · have e1 : drainF (x :: t) m = (t, m.set x.f0.toNat x.f1, true) := by show (if x.f0 < 0 ∨ x.f0 ≥ (m.length : Int) then _ else _) = _; rw [if_neg c]
          have e2 : allF (x :: t) m = allF t (m.set x.f0.toNat x.f1) := allF_in (by omega)
          have e3 : wrap64 (((x :: t).length : Int) - 1) = (t.length : Int) := by simp only [List.length_cons]; rw [wr64 (by omega) (by omega)]; omega
          simp only [e1, if_true, e3]
          have hlen : (m.set x.f0.toNat x.f1).length = x1.length := by simpa using hm3
          refine Ev.bind (all_ev t (by omega) _ (by omega)) ?_
          rw [← e2, he]
          refine Ev.bind (sameI_ev _ (by rw [allF_length]; omega)) ?_
          simp only [if_true, if_pos (show 1 ≤ ((x :: t).length : Int) by simp; omega), List.drop_succ_cons, List.drop_zero]
          refine Ev.bind (sameW_ev t (by omega)) ?_
          simp only [if_true]
          rw [wr64 (by omega) (by omega)]
          exact ih _ _ (by omega) (by omega) hlen (by rw [← e2, he])
    exact loop x0 x1 0 (by omega) (by omega) rfl rfl
end Go.Proofs.Ytpaifpnnjflnfaa.Pure
