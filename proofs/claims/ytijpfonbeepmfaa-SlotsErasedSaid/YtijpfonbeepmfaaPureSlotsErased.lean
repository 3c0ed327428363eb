/- Fence gives back what Erase was given, where it erased (law SlotsErased): what the printed functions answer. -/
import Derived.Test.YtijpfonbeepmfaaPrint19
import Derived.Test.YtijpfonbeepmfaaHSlEraC
import Derived.Test.YtijpfonbeepmfaaHHead08
import Derived.Test.YtijpfonbeepmfaaOpens
namespace Go.Proofs.Ytijpfonbeepmfaa.Pure
open Go.Proofs.Ytijpfonbeepmfaa.Print Go.RowKit Go.Proofs.YtijpfonbeepmfaaW.PrintWords Go.Proofs.YtijpfonbeepmfaaW.PrintLast Go.Proofs.YtijpfonbeepmfaaW.PrintMore
set_option linter.unusedVariables false
set_option linter.unusedSimpArgs false
theorem SlotsErased (x0 : S30) (x1 : List Int) (g0 : ok30 x0) (g1 : (GoodL (fun x : Int => (Lit.int .i64 x).wf = true)) x1) : ∃ k, fencepostlaw08_SlotsErased.f k x0.f0 x0.f1 x0.f2 x0.f3 x0.f4 x1 = some true := by
  have no : Ev (fun k => fencepostlaw08_SlotsErased.j0 k x1 true true x0.f0 x0.f1 x0.f2 x0.f3 x0.f4) true := by
    refine Ev.step (fun k => by rw [fencepostlaw08_SlotsErased.j0]) ?_
    simp only [if_true]
    exact Ev.now _
  refine Ev.rounds (r := true) ?_
  unfold fencepostlaw08_SlotsErased.f
  simp only [fencepostlaw08_head.f, Option.bind_some]
  obtain ⟨g, hg, hok⟩ := great4_ev x0.f0 x0.f1 x0.f2 x0.f3 x0.f4
  refine Ev.bind hg ?_
  cases g with
  | true => simp only [if_true]; exact no
  | false =>
    simp only [Bool.false_eq_true, if_false]
    have hf := hok rfl
    by_cases c : (x1.length : Int) > 100
    · simp only [decide_eq_true c]; exact no
    · simp only [decide_eq_false c]
      refine Ev.step (fun k => by rw [fencepostlaw08_SlotsErased.j0]) ?_
      rcases erase_cases x0.f0 x0.f3 hf g1.2 (show x1.length ≤ 100 by omega) with ⟨U, e1, e2⟩ | e1
      · simp only [Bool.false_eq_true, if_false, e1, Option.bind_some, if_true, e2]
        exact Ev.bind (hf.same x0.f0 x0.f3) (Ev.now _)
      · simp only [Bool.false_eq_true, if_false, e1, Option.bind_some, if_true]
        exact Ev.bind (hf.same x0.f0 x0.f3) (Ev.now _)
end Go.Proofs.Ytijpfonbeepmfaa.Pure
