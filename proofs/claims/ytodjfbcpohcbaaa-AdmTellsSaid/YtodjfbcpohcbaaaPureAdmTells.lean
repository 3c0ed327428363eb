/- The admissible slots of any code, and of any row, are the document's (law AdmTells): what the printed functions answer. -/
import Derived.Test.YtodjfbcpohcbaaaPrint7
import Derived.Test.YtodjfbcpohcbaaaHRef19
import Derived.Test.YtodjfbcpohcbaaaHHas
import Derived.Test.YtodjfbcpohcbaaaHHead19
import Derived.Test.YtodjfbcpohcbaaaOpens
namespace Go.Proofs.Ytodjfbcpohcbaaa.Print
open Go.RowKit Go.Maps Go.Proofs.YtodjfbcpohcbaaaW.PrintWords Go.Proofs.YtodjfbcpohcbaaaW.PrintLast Go.Proofs.YtodjfbcpohcbaaaW.PrintMore
set_option linter.unusedVariables false
set_option linter.unusedSimpArgs false

theorem keep_l0 (g L : List Int) (hg : g.length ≤ 1000000) (hL : L.length ≤ 1000000) : ∀ (d i : Nat), L.length - i ≤ d → i ≤ L.length → Ev (fun k => fencepostref19_Keep.l0 k g ((L.take i).filter (fun n => decide (n ∈ g))) L (i : Int)) (L.filter (fun n => decide (n ∈ g))) := by
  intro d
  induction d with
  | zero =>
    intro i h1 h2
    obtain rfl : i = L.length := by omega
    refine Ev.step (fun k => by rw [fencepostref19_Keep.l0]) ?_
    simp only [if_neg (show ¬ (L.length : Int) < (L.length : Int) by omega), List.take_length]
    exact Ev.now _
  | succ d ih =>
    intro i h1 h2
    by_cases c : i < L.length
    · have ha := ih (i + 1) (by omega) (by omega)
      have p1 : (i : Int) < (L.length : Int) := by omega
      have p2 : (0 : Int) ≤ (i : Int) := by omega
      have e1 := wnat i (by omega)
      have hlen : ((L.take i).filter (fun n => decide (n ∈ g))).length < 17592186044416 := by
        have := List.length_filter_le (fun n => decide (n ∈ g)) (L.take i)
        rw [List.length_take] at this
        omega
      rw [List.take_succ_eq_append_getElem c, List.filter_append] at ha
      refine Ev.step (fun k => by rw [fencepostref19_Keep.l0]) ?_
      simp only [if_pos p1, if_pos p2, if_pos hlen, rd_nat L i c, e1]
      refine Ev.bind (has_ev g _ hg) ?_
      by_cases m : L[i] ∈ g
      · simp only [decide_eq_true m, if_true]
        rw [List.filter_cons_of_pos (by simpa using m), List.filter_nil] at ha
        exact ha
      · simp only [decide_eq_false m, Bool.false_eq_true, if_false]
        rw [List.filter_cons_of_neg (by simpa using m), List.filter_nil, List.append_nil] at ha
        exact ha
    · obtain rfl : i = L.length := by omega
      refine Ev.step (fun k => by rw [fencepostref19_Keep.l0]) ?_
      simp only [if_neg (show ¬ (L.length : Int) < (L.length : Int) by omega), List.take_length]
      exact Ev.now _
end Go.Proofs.Ytodjfbcpohcbaaa.Print
namespace Go.Proofs.Ytodjfbcpohcbaaa.Pure
open Go.RowKit Go.Maps Go.Proofs.YtodjfbcpohcbaaaW.PrintWords Go.Proofs.YtodjfbcpohcbaaaW.PrintLast Go.Proofs.YtodjfbcpohcbaaaW.PrintMore Go.Proofs.Ytodjfbcpohcbaaa.Print
theorem AdmTells (x0 : S25) (x1 : List Int) (g0 : ok25 x0) (g1 : (GoodL (fun x : Int => (Lit.int .i64 x).wf = true)) x1) : ∃ k, fencepostlaw19_AdmTells.f k x0.f0 x0.f1 x1 = some true := by
  have no : Ev (fun k => fencepostlaw19_AdmTells.j0 k x1 true true x0.f0 x0.f1) true := by
    refine Ev.step (fun k => by rw [fencepostlaw19_AdmTells.j0]) ?_
    simp only [if_true]
    exact Ev.now _
  refine Ev.rounds (r := true) ?_
  unfold fencepostlaw19_AdmTells.f
  refine Ev.bind head19 ?_
  obtain ⟨g, hg, hok⟩ := great_ev x0.f0 x0.f1
  refine Ev.bind hg ?_
  cases g with
  | true => simp only [if_true]; exact no
  | false =>
    have hc := hok rfl
    simp only [Bool.false_eq_true, if_false]
    by_cases c : (x1.length : Int) > 100
    · simp only [decide_eq_true c]; exact no
    · simp only [decide_eq_false c]
      have ht := hc.tot
      have hl := admFrom_length x0.f1 0
      have hl2 := List.length_filter_le (fun n => decide (n ∈ x1)) (admFrom 0 x0.f1)
      refine Ev.step (fun k => by rw [fencepostlaw19_AdmTells.j0]) ?_
      simp only [Bool.false_eq_true, if_false, if_true, slots_f (by omega) hc x0.f0, keep_f (by omega) hc x0.f0 x1 (by omega), Option.bind_some]
      refine Ev.bind (rslots_ev (by omega) hc x0.f0) ?_
      refine Ev.bind (same_ev _ (by omega)) ?_
      simp only [if_true]
      refine Ev.bind (a := (admFrom 0 x0.f1).filter (fun n => decide (n ∈ x1))) ?_ ?_
      · unfold fencepostref19_Keep.f
        refine Ev.bind (rslots_ev (by omega) hc x0.f0) ?_
        have := keep_l0 x1 (admFrom 0 x0.f1) (by omega) (by omega) (admFrom 0 x0.f1).length 0 (by omega) (by omega)
        simpa using this
      · refine Ev.bind (same_ev _ (by omega)) ?_
        exact Ev.now _
end Go.Proofs.Ytodjfbcpohcbaaa.Pure
