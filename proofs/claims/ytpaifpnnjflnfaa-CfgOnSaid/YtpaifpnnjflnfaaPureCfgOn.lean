/- law18.CfgOn answers true. -/
import Derived.Test.YtpaifpnnjflnfaaHCfgLed
namespace Go.Proofs.Ytpaifpnnjflnfaa.Pure
open Go.RowKit Go.Maps Go.Proofs.YtpaifpnnjflnfaaW.PrintWords Go.Proofs.YtpaifpnnjflnfaaW.PrintLast Go.Proofs.YtpaifpnnjflnfaaW.PrintMore Go.Proofs.Ytpaifpnnjflnfaa.Print
set_option linter.unusedVariables false
set_option linter.unusedSimpArgs false

theorem nexts_ne {l : List S33} {a : Int} (h0 : 0 ≤ a) (h1 : a < (l.length : Int)) : 0 < (nexts l a).length := by
  unfold nexts
  rw [if_neg (by omega), if_pos h1]
  unfold nextOf
  repeat' split
  all_goals simp
theorem CfgOn (x0 : List (S33)) (x1 : Int) (x2 : Int) (g0 : (GoodL ok33) x0) (g1 : (Lit.int .i64 x1).wf = true) (g2 : (Lit.int .i64 x2).wf = true) : ∃ k, fencepostlaw18_CfgOn.f k x0 x1 x2 = some true := by
  apply Ev.rounds
  unfold fencepostlaw18_CfgOn.f
  refine Ev.bind head18 ?_
  obtain ⟨b, hb, hg⟩ := good_ev x0
  refine Ev.bind hb ?_
  cases b with
  | false => simp only [Bool.false_eq_true, if_false]; exact Ev.now true
  | true =>
    obtain ⟨hl, hB⟩ := hg rfl
    have hF := fwd_of hB
    simp only [if_true, next_f, Option.bind_some]
    have hlast : Ev (fun k => (cfg_Reach.f x0 x1 x2).bind fun t247 => (if true = true then (if t247 = true then (if x1 ≥ 0 then (if x1 < x2 then (if x2 ≤ (x0.length : Int) then ((cfg_Free.f x0 x1 x2).bind fun t248 => (if t248 = true then (some ((decide (((nexts x0 x1).length : Int) > 0)) == (decide (x1 < (x0.length : Int))))) else (some ((decide (((nexts x0 x1).length : Int) > 0)) == (decide (x1 < (x0.length : Int))))))) else (some false)) else (some false)) else (some false)) else ((cfg_Free.f x0 x1 x2).bind fun t249 => (if t249 = true then (some false) else (if x1 ≥ 0 then (some ((decide (((nexts x0 x1).length : Int) > 0)) == (decide (x1 < (x0.length : Int))))) else (some ((decide (((nexts x0 x1).length : Int) > 0)) == false)))))) else (some false))) true := by
      have e0 : 0 ≤ x1 → (decide (((nexts x0 x1).length : Int) > 0) == decide (x1 < (x0.length : Int))) = true := by
        intro h0
        by_cases c : x1 < (x0.length : Int)
        · have := nexts_ne h0 c
          rw [decide_eq_true c, decide_eq_true (by omega)]; rfl
        · rw [decide_eq_false c]
          unfold nexts
          rw [if_neg (by omega), if_neg c]; rfl
      have e1 : ¬ 0 ≤ x1 → (decide (((nexts x0 x1).length : Int) > 0) == false) = true := by
        intro h0
        unfold nexts
        rw [if_pos (by omega)]; rfl
      rw [reach_f hl hB x1 g2, free_f hl hB x1 g2]
      simp only [Option.bind_some, if_true]
      cases hr : reachD x0 x1 x2 with
      | true =>
        have := ((reachD_iff hF).1 hr).range hF
        simp only [if_true, if_pos (show x1 ≥ 0 by omega), if_pos (show x1 < x2 by omega), if_pos (show x2 ≤ (x0.length : Int) by omega), e0 (by omega), ite_self]
        exact Ev.now true
      | false =>
        have hf : freeD x0 x1 x2 = false := by
          cases h : freeD x0 x1 x2 with
          | false => rfl
          | true => rw [(reachD_iff hF).2 (((freeD_iff hF).1 h).imp (fun _ _ => rfl))] at hr; exact absurd hr (by simp)
        simp only [hf, Bool.false_eq_true, if_false]
        by_cases c : x1 ≥ 0
        · simp only [if_pos c, e0 c]; exact Ev.now true
        · simp only [if_neg c, e1 c]; exact Ev.now true
    have loop : ∀ (n : Nat) (i : Int), ((nexts x0 x1).length : Int) - i ≤ n → 0 ≤ i → Ev (fun k => fencepostlaw18_CfgOn.l0 k x0 x1 x2 true (nexts x0 x1) i) true := by
      intro n
      induction n with
      | zero =>
        intro i h h0
        refine Ev.step (fun k => by rw [fencepostlaw18_CfgOn.l0]) ?_
        simp only [if_neg (show ¬ i < ((nexts x0 x1).length : Int) by omega)]
        exact hlast
      | succ n ih =>
        intro i h h0
        refine Ev.step (fun k => by rw [fencepostlaw18_CfgOn.l0]) ?_
        by_cases c : i < ((nexts x0 x1).length : Int)
        · have hm : rd (nexts x0 x1) i ∈ nexts x0 x1 := by
            unfold rd
            rw [List.getD_eq_getElem?_getD, List.getElem?_eq_getElem (by omega)]
            exact List.getElem_mem _
          have hrg := nexts_range hF hm
          have hw := next_wf hl hF hm
          have := nexts_length x0 x1
          simp only [if_pos c, if_pos h0, if_neg (show ¬ rd (nexts x0 x1) i ≤ x1 by omega), if_neg (show ¬ rd (nexts x0 x1) i > (x0.length : Int) by omega), reach_f hl hB x1 hw, free_f hl hB x1 hw, Option.bind_some, (reachD_iff hF).2 (.one hm), (freeD_iff hF).2 (.one hm), if_true]
          rw [w64 (by omega) (by omega)]
          exact ih _ (by omega) (by omega)
        · simp only [if_neg c]; exact hlast
    exact loop (nexts x0 x1).length 0 (by omega) (by omega)
end Go.Proofs.Ytpaifpnnjflnfaa.Pure
