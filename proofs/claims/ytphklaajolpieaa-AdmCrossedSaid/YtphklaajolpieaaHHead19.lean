/- law19's head answers true. -/
/- Each slot that picks cross is admissible (law AdmCrossed): what the printed functions answer. -/
import Derived.Test.YtphklaajolpieaaPrint1
import Derived.Test.YtphklaajolpieaaPrint9
import Derived.Test.YtphklaajolpieaaHCrossRun
import Derived.Test.YtphklaajolpieaaOpens
section
namespace Go.Proofs.Ytphklaajolpieaa.Print
open Go.RowKit Go.Maps Go.Proofs.YtphklaajolpieaaW.PrintWords Go.Proofs.YtphklaajolpieaaW.PrintLast Go.Proofs.YtphklaajolpieaaW.PrintMore
theorem head19 : Ev (fun k => fencepostlaw19_head.f k) true := Ev.of fencepostlaw19_head.mono (k := 40) (by decide +kernel)
end Go.Proofs.Ytphklaajolpieaa.Print
end
section
namespace Go.Proofs.Ytphklaajolpieaa.Print
open Go.RowKit Go.Maps Go.Proofs.YtphklaajolpieaaW.PrintWords Go.Proofs.YtphklaajolpieaaW.PrintLast Go.Proofs.YtphklaajolpieaaW.PrintMore
set_option linter.unusedVariables false
set_option linter.unusedSimpArgs false
theorem same_l0 (a : List Int) (hl : a.length ≤ 1000) : ∀ (n : Nat) (i : Int), (a.length : Int) - i ≤ n → 0 ≤ i → Ev (fun k => fencepostref07_SameInts.l0 k a a i) true := by
 intro n
 induction n with
 | zero =>
  intro i h h0
  refine Ev.step (fun k => by rw [fencepostref07_SameInts.l0]) ?_
  simp only [if_neg (show ¬ i < (a.length : Int) by omega)]
  exact Ev.now true
 | succ n ih =>
  intro i h h0
  refine Ev.step (fun k => by rw [fencepostref07_SameInts.l0]) ?_
  by_cases c : i < (a.length : Int)
  ·simp only [if_pos c, if_pos h0, if_true]
   rw [w64s (by omega) (by omega)]
   exact ih _ (by omega) (by omega)
  ·simp only [if_neg c]; exact Ev.now true
theorem same_ev (a : List Int) (hl : a.length ≤ 1000) : Ev (fun k => fencepostref07_SameInts.f k a a) true := by
 unfold fencepostref07_SameInts.f
 simp only [if_true]
 exact same_l0 a hl a.length 0 (by omega) (by omega)
end Go.Proofs.Ytphklaajolpieaa.Print
namespace Go.Proofs.Ytphklaajolpieaa.Pure
open Go.RowKit Go.Maps Go.Proofs.YtphklaajolpieaaW.PrintWords Go.Proofs.YtphklaajolpieaaW.PrintLast Go.Proofs.YtphklaajolpieaaW.PrintMore Go.Proofs.Ytphklaajolpieaa.Print
set_option linter.unusedVariables false
set_option linter.unusedSimpArgs false
theorem AdmCrossed (x0 : S25) (x1 : List (S46)) (g0 : ok25 x0) (g1 : (GoodL ok46) x1) : ∃ k, fencepostlaw19_AdmCrossed.f k x0.f0 x0.f1 x1 = some true := by
 apply Ev.rounds
 unfold fencepostlaw19_AdmCrossed.f
 refine Ev.bind head19 ?_
 obtain ⟨b, hb, hg⟩ := great_ev x0.f0 x0.f1
 refine Ev.bind hb ?_
 have no : Ev (fun k => fencepostlaw19_AdmCrossed.j0 k x1 true true x0.f0 x0.f1) true := by
  refine Ev.step (fun k => by rw [fencepostlaw19_AdmCrossed.j0]) ?_
  simp only [if_true]
  exact Ev.now true
 cases b with
 | true => simp only [if_true]; exact no
 | false =>
  simp only [Bool.false_eq_true, if_false]
  by_cases c : (x1.length : Int) > 120
  ·simp only [decide_eq_true c]; exact no
  ·simp only [decide_eq_false c]
   have hc := hg rfl
   have h1 := hc.locs
   have h2 := hc.few
   obtain ⟨r1, r2, hr, hs, ha, hl⟩ := cross_ok hc (by decide) x1 0 x0.f0 (List.replicate x0.f1.length th0) [] (cross_begin x0.f0 x0.f1) (by omega)
   have hf : fencepostref14_Cross.f x0.f0 x0.f1 x1 = some (r1, r2) := by
    unfold fencepostref14_Cross.f
    rw [if_pos ⟨by omega, by omega, by omega⟩]; exact hr
   have hk := keep_f (by decide) hc x0.f0 r1 (by omega)
   have e : (admFrom 0 x0.f1).filter (fun n => decide (n ∈ r1)) = r1 := by
    refine sorted_ext ((admFrom_sorted x0.f1 0).filter _) hs (fun x => ?_)
    rw [List.mem_filter, decide_eq_true_eq]
    exact ⟨fun h => h.2, fun h => ⟨ha x h, h⟩⟩
   rw [e] at hk
   refine Ev.step (fun k => by rw [fencepostlaw19_AdmCrossed.j0]) ?_
   simp only [Bool.false_eq_true, if_false, hf, Option.bind_some, if_true, hk]
   refine Ev.bind (same_ev r1 hl) ?_
   exact Ev.now true
end Go.Proofs.Ytphklaajolpieaa.Pure
end
