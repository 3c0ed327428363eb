/- A step can be taken just if its thread is not at its end; it goes but forward (law ScOn): what the printed functions answer. -/
import Derived.Test.YtdliojcpnkggnaaPrint6
import Derived.Test.YtdliojcpnkggnaaHScWide
import Derived.Test.YtdliojcpnkggnaaHHead10
import Derived.Test.YtdliojcpnkggnaaOpens
namespace Go.Proofs.Ytdliojcpnkggnaa.Pure
open Go.Proofs.Ytdliojcpnkggnaa.Print Go.RowKit Go.Proofs.YtdliojcpnkggnaaW.PrintWords Go.Proofs.YtdliojcpnkggnaaW.PrintLast Go.Proofs.YtdliojcpnkggnaaW.PrintMore
set_option linter.unusedVariables false
set_option linter.unusedSimpArgs false
theorem ScOn (x0 : S25) (x1 : S28) (x2 : Int) (g0 : ok25 x0) (g1 : ok28 x1) (g2 : (Lit.int .i64 x2).wf = true) : ∃ k, fencepostlaw10_ScOn.f k x0.f0 x0.f1 x1.f0 x1.f1 x2 = some true := by
  have no : Ev (fun k => fencepostlaw10_ScOn.j0 k x2 true true x0.f0 x0.f1 x1.f0 x1.f1) true := by
    refine Ev.step (fun k => by rw [fencepostlaw10_ScOn.j0]) ?_
    simp only [if_true]
    exact Ev.now _
  refine Ev.rounds (r := true) ?_
  unfold fencepostlaw10_ScOn.f
  simp only [fencepostlaw10_head.f, Option.bind_some]
  obtain ⟨g, hg, hok⟩ := great_ev x0.f0 x0.f1
  refine Ev.bind hg ?_
  cases g with
  | true => simp only [if_true]; exact no
  | false =>
    simp only [Bool.false_eq_true, if_false]
    have hc := hok rfl
    obtain ⟨q, hq, hw⟩ := wide_ev x1.f0 x1.f1
    refine Ev.bind hq ?_
    cases q with
    | true => simp only [if_true]; exact no
    | false =>
      simp only [Bool.false_eq_true, if_false]
      have hf := hw rfl
      obtain ⟨r, hr, hs⟩ := r10_ev x0.f0 x0.f1 hf
      refine Ev.bind hr ?_
      cases r with
      | false => simp only [Bool.not_false]; exact no
      | true =>
        have hst := hs rfl
        have hlt := hst.lt
        simp only [Bool.not_true]
        refine Ev.step (fun k => by rw [fencepostlaw10_ScOn.j0]) ?_
        simp only [Bool.false_eq_true, if_false]
        rcases step_ok hc hst x2 with e | ⟨t, x, s, rfl, hx, hlt2, hse, hso, e, hst2, hgo, hhi⟩
        · have hno := step_no hc hst x2 e
          simp only [e, Option.bind_some]
          have j1 : Ev (fun k => fencepostlaw10_ScOn.j1 k x2 true false false x0.f0 x0.f1 x1.f0 x1.f1 x1.f0 x1.f1) true := by
            refine Ev.step (fun k => by rw [fencepostlaw10_ScOn.j1]) ?_
            simp only [bne_self_eq_false, Bool.false_eq_true, if_false]
            exact Ev.now _
          by_cases c1 : x2 ≥ 0
          · by_cases c2 : x2 < (x1.f1.length : Int)
            · simp only [if_pos c1, if_pos c2, if_pos (show 0 ≤ x2 by omega), if_pos (show x2 < (x0.f1.length : Int) by omega), decide_eq_false (show ¬ (rd_T45 x1.f1 x2).f0 < ((rd_L3 x0.f1 x2).length : Int) by omega)]
              exact j1
            · simp only [if_pos c1, if_neg c2]; exact j1
          · simp only [if_neg c1]; exact j1
        · have hl := (List.getElem?_eq_some_iff.1 hx).1
          have hlo := (hst.th t x hx).lo
          have hrow := (hc.rowN (t := t) (by omega)).1
          have hto := takeF_to (mem := x1.f0) (x := s) (th := x)
          simp only [e, Option.bind_some, rdT_nat hx, if_pos (show (t : Int) ≥ 0 by omega), if_pos (show (t : Int) < (x1.f1.length : Int) by omega), if_pos (show (0 : Int) ≤ (t : Int) by omega), if_pos (show (t : Int) < (x0.f1.length : Int) by omega), decide_eq_true hlt2]
          refine Ev.step (fun k => by rw [fencepostlaw10_ScOn.j1]) ?_
          simp only [bne_self_eq_false, Bool.false_eq_true, if_false, if_true, rdT_nat hx, rdT_nat (set_get hx), List.length_set, if_pos (show (t : Int) < (x1.f1.length : Int) by omega), if_pos (show (0 : Int) ≤ (t : Int) by omega), if_pos (show (t : Int) < (x0.f1.length : Int) by omega), if_pos hlo, if_pos hlt2, if_pos (show (takeF s x1.f0 x).2.f0 > x.f0 by omega), if_pos hhi, w64 (show -9223372036854775808 ≤ x.f0 + 1 by omega) (by omega), ← hse]
          rcases hto with h1 | ⟨h1, h2⟩
          · simp only [if_pos h1]; exact Ev.now _
          · by_cases c : (takeF s x1.f0 x).2.f0 = x.f0 + 1
            · simp only [if_pos c]; exact Ev.now _
            · simp only [if_neg c, if_pos h1]; rw [h2]; simp only [beq_self_eq_true]; exact Ev.now _
end Go.Proofs.Ytdliojcpnkggnaa.Pure
