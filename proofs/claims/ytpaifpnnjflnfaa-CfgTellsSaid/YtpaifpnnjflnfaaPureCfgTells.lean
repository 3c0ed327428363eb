/- law18.CfgTells answers true. -/
import Derived.Test.YtpaifpnnjflnfaaPrint6
import Derived.Test.YtpaifpnnjflnfaaHCfgLed
namespace Go.Proofs.Ytpaifpnnjflnfaa.Pure
open Go.RowKit Go.Maps Go.Proofs.YtpaifpnnjflnfaaW.PrintWords Go.Proofs.YtpaifpnnjflnfaaW.PrintLast Go.Proofs.YtpaifpnnjflnfaaW.PrintMore Go.Proofs.Ytpaifpnnjflnfaa.Print
set_option linter.unusedVariables false
set_option linter.unusedSimpArgs false

theorem CfgTells (x0 : List (S33)) (x1 : Int) (x2 : Int) (g0 : (GoodL ok33) x0) (g1 : (Lit.int .i64 x1).wf = true) (g2 : (Lit.int .i64 x2).wf = true) : ∃ k, fencepostlaw18_CfgTells.f k x0 x1 x2 = some true := by
  apply Ev.rounds
  unfold fencepostlaw18_CfgTells.f
  refine Ev.bind head18 ?_
  obtain ⟨b, hb, hg⟩ := good_ev x0
  refine Ev.bind hb ?_
  cases b with
  | false => simp only [Bool.false_eq_true, if_false]; exact Ev.now true
  | true =>
    obtain ⟨hl, hB⟩ := hg rfl
    have hF := fwd_of hB
    simp only [if_true]
    obtain ⟨m, hm, m1, m2⟩ := met_ev x0 hl hB
    obtain ⟨r, hr, r1, r2⟩ := rmet_ev x0 hl hF
    refine Ev.bind hm ?_
    refine Ev.bind hr ?_
    simp only [if_pos (show (m.length : Int) = (r.length : Int) by omega)]
    have hlast : Ev (fun k => (cfg_Next.f x0 x1).bind fun t231 => ((fencepostref18_Next.f k x0 x1).bind fun t234 => ((fencepostref07_SameInts.f k t231 t234).bind fun t237 => (if t237 = true then ((cfg_Reach.f x0 x1 x2).bind fun t238 => ((fencepostref18_Reach.f k x0 x1 x2).bind fun t239 => (if (t238 == t239) = true then ((cfg_Free.f x0 x1 x2).bind fun t240 => ((fencepostref18_Free.f k x0 x1 x2).bind fun t241 => (some (t240 == t241)))) else (some false)))) else (some false))))) true := by
      simp only [next_f, Option.bind_some]
      refine Ev.bind (rnext_ev x0 hl x1) ?_
      refine Ev.bind (same_ev _ (by have := nexts_length x0 x1; omega)) ?_
      simp only [if_true, reach_f hl hB x1 g2, free_f hl hB x1 g2, Option.bind_some]
      refine Ev.bind (rreach_ev x0 hl hF x1 x2) ?_
      simp only [beq_self_eq_true, if_true]
      refine Ev.bind (rfree_ev x0 hl hF x1 x2) ?_
      simp only [beq_self_eq_true]
      exact Ev.now true
    have loop : ∀ (n : Nat) (i : Int), (m.length : Int) - i ≤ n → 0 ≤ i → Ev (fun k => fencepostlaw18_CfgTells.l0 k x0 x1 x2 true m r i) true := by
      intro n
      induction n with
      | zero =>
        intro i h h0
        refine Ev.step (fun k => by rw [fencepostlaw18_CfgTells.l0]) ?_
        simp only [if_neg (show ¬ i < (m.length : Int) by omega), if_true]
        exact hlast
      | succ n ih =>
        intro i h h0
        refine Ev.step (fun k => by rw [fencepostlaw18_CfgTells.l0]) ?_
        by_cases c : i < (m.length : Int)
        · simp only [if_pos c, if_pos h0, if_pos (show i < (r.length : Int) by omega), m2 i h0 (by omega), r2 i h0 (by omega), bne_self_eq_false, Bool.false_eq_true, if_false]
          rw [w64 (by omega) (by omega)]
          exact ih _ (by omega) (by omega)
        · simp only [if_neg c, if_true]; exact hlast
    exact loop m.length 0 (by omega) (by omega)
end Go.Proofs.Ytpaifpnnjflnfaa.Pure
