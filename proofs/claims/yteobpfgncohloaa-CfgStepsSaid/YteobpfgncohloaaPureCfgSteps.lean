/- law18.CfgSteps answers true. -/
import Derived.Test.YteobpfgncohloaaPrint9
import Derived.Test.YteobpfgncohloaaHCsRun
import Derived.Test.YteobpfgncohloaaOpens
namespace Go.Proofs.Yteobpfgncohloaa.Pure
open Go.RowKit Go.Maps Go.Proofs.YteobpfgncohloaaW.PrintWords Go.Proofs.YteobpfgncohloaaW.PrintLast Go.Proofs.YteobpfgncohloaaW.PrintMore Go.Proofs.Yteobpfgncohloaa.Print
set_option linter.unusedVariables false
set_option linter.unusedSimpArgs false
theorem great13_ev (A : List Int) (B : List (List S42)) (l : List S51) : ∃ r, Ev (fun k => fencepostlaw13_Great.f k A B l) r ∧ (r = false → CodeOk 80 A B ∧ l.length ≤ 120) := by
 obtain ⟨b, hb, h⟩ := great_ev A B
 cases b with
 | true =>
  refine ⟨true, ?_, fun e => by cases e⟩
  unfold fencepostlaw13_Great.f
  refine Ev.bind hb ?_
  simp only [if_true]
  exact Ev.now true
 | false =>
  refine ⟨decide ((l.length : Int) > 120), ?_, fun e => ⟨h rfl, by have := of_decide_eq_false e; omega⟩⟩
  unfold fencepostlaw13_Great.f
  refine Ev.bind hb ?_
  simp only [Bool.false_eq_true, if_false]
  exact Ev.now _
theorem steps_l0 {A : List Int} {B : List (List S42)} (hc : CodeOk 80 A B) {m : List Int} {ths : List S39} {i : Nat} (h : RunOk A B m ths i) : ∀ (n : Nat) (t : Int), (ths.length : Int) - t ≤ n → 0 ≤ t → Ev (fun k => fencepostlaw18_CfgSteps.l0 k true t A B m ths) true := by
 have hB := hc.few
 have ht := h.t
 intro n
 induction n with
 | zero =>
  intro t hn h0
  refine Ev.step (fun k => by rw [fencepostlaw18_CfgSteps.l0]) ?_
  simp only [if_neg (show ¬ t < (ths.length : Int) by omega)]
  exact Ev.now true
 | succ n ih =>
  intro t hn h0
  refine Ev.step (fun k => by rw [fencepostlaw18_CfgSteps.l0]) ?_
  by_cases c : t < (ths.length : Int)
  ·obtain ⟨j, rfl⟩ : ∃ j : Nat, t = (j : Int) := ⟨t.toNat, by omega⟩
   have hj : j < ths.length := by omega
   have hx := h.x j _ (List.getElem?_eq_getElem hj)
   have e : rd_T39 ths (j : Int) = ths[j] := by unfold rd_T39; rw [Int.toNat_natCast, List.getD_eq_getElem?_getD, List.getElem?_eq_getElem hj]; rfl
   obtain ⟨hl, hrow⟩ := hc.rows (j : Int) (by omega) (by omega)
   obtain ⟨r, hr, r1, r2⟩ := met_ev (rd_L2 B (j : Int)) hl (fwdB_row hrow)
   obtain ⟨_, _, a0, a1, a2⟩ := hx
   have hm : rdOf false r (ths[j]).f0 = true := by
    rw [r2 _ a0 a1]
    rcases a2 with a2 | a2
    ·simp [a2]
    ·simp [a2]
   simp only [if_pos c, if_pos h0, if_pos (show (j : Int) < (B.length : Int) by omega)]
   refine Ev.bind hr ?_
   simp only [e, w64 (show -9223372036854775808 ≤ ((rd_L2 B (j : Int)).length : Int) + 1 by omega) (by omega), if_pos (show (r.length : Int) = ((rd_L2 B (j : Int)).length : Int) + 1 by omega), if_pos a0, if_pos (show (ths[j]).f0 < (r.length : Int) by omega), hm, if_true, w64 (show -9223372036854775808 ≤ (j : Int) + 1 by omega) (by omega)]
   exact ih _ (by omega) (by omega)
  ·simp only [if_neg c]; exact Ev.now true
theorem CfgSteps (x0 : S25) (x1 : List (S51)) (x2 : Bool) (g0 : ok25 x0) (g1 : (GoodL ok51) x1) : ∃ k, fencepostlaw18_CfgSteps.f k x0.f0 x0.f1 x1 x2 = some true := by
 apply Ev.rounds
 unfold fencepostlaw18_CfgSteps.f
 refine Ev.bind head18 ?_
 obtain ⟨b, hb, hg⟩ := great13_ev x0.f0 x0.f1 x1
 refine Ev.bind hb ?_
 cases b with
 | true => simp only [if_true]; exact Ev.now true
 | false =>
  obtain ⟨hc, hl⟩ := hg rfl
  have h1 := hc.locs
  have h2 := hc.few
  obtain ⟨r1, r2, r3, r4, hr, i, hok⟩ := run_ok hc x2 x1 0 0 x0.f0 (List.replicate x0.f1.length th0) (run_begin x0.f0 x0.f1) (by omega)
  have hf : fencepostref13_Run.f x0.f0 x0.f1 x1 x2 = some (r1, r2, r3, r4) := by
   unfold fencepostref13_Run.f
   rw [if_pos ⟨by omega, by omega, by omega⟩]; exact hr
  simp only [Bool.false_eq_true, if_false, hf, Option.bind_some]
  exact steps_l0 hc hok r2.length 0 (by omega) (by omega)
end Go.Proofs.Yteobpfgncohloaa.Pure
