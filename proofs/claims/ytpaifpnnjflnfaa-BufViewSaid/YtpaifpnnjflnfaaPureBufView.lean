/- law09.BufView answers true. -/
import Derived.Test.YtpaifpnnjflnfaaPrint18
import Derived.Test.YtpaifpnnjflnfaaHBufPure
namespace Go.Proofs.Ytpaifpnnjflnfaa.Pure
open Go.RowKit Go.Proofs.YtpaifpnnjflnfaaW.PrintWords Go.Proofs.YtpaifpnnjflnfaaW.PrintLast Go.Proofs.YtpaifpnnjflnfaaW.PrintMore Go.Proofs.Ytpaifpnnjflnfaa.Print
set_option linter.unusedVariables false
set_option linter.unusedSimpArgs false

theorem BufView (x0 : List (S51)) (x1 : List Int) (x2 : Int) (g0 : (GoodL ok51) x0) (g1 : (GoodL (fun x : Int => (Lit.int .i64 x).wf = true)) x1) (g2 : (Lit.int .i64 x2).wf = true) : ∃ k, fencepostlaw09_BufView.f k x0 x1 x2 = some true := by
  apply Ev.rounds
  unfold fencepostlaw09_BufView.f
  refine Ev.bind head09 ?_
  obtain ⟨b, hb, hg⟩ := great_f x0 x1
  simp only [hb, Option.bind_some]
  cases b with
  | true => simp only [if_true]; exact Ev.now true
  | false =>
    obtain ⟨hl, hm⟩ := hg rfl
    have hl' : x0.length ≤ 1000 := by omega
    have hm' : x1.length ≤ 1000 := by omega
    simp only [Bool.false_eq_true, if_false]
    have hlast : There x0 x1.length → Ev (fun k => fencepostlaw09_BufView.l0 k x0 x1 x2 true (x0.length : Int)) true := by
      intro hT
      refine Ev.step (fun k => by rw [fencepostlaw09_BufView.l0]) ?_
      simp only [if_neg (show ¬ (x0.length : Int) < (x0.length : Int) by omega)]
      refine Ev.bind (all_ev x0 hl' x1 hm') ?_
      simp only [view_f hl', Option.bind_some, allF_length, if_true]
      by_cases c0 : x2 ≥ 0
      · simp only [if_pos c0]
        by_cases c1 : x2 < (x1.length : Int)
        · have hv : viewF x0 x1 x2 = (rd (allF x0 x1) x2, true) := by
            rw [all_last x2 c0 x0 x1 hT]
            unfold viewF
            by_cases d : (lastF x0 x2).2 = true
            · rw [if_pos d, if_pos d]
            · rw [if_neg d, if_neg d, if_neg (by omega), if_neg (by omega)]
          simp only [hv, decide_eq_true c1, bne_self_eq_false, Bool.false_eq_true, if_false, if_true, if_pos (show 0 ≤ x2 by omega), if_pos c1, beq_self_eq_true]
          exact Ev.now true
        · have hv : viewF x0 x1 x2 = (0, false) := by
            have hd : ¬ (lastF x0 x2).2 = true := fun h => by
              obtain ⟨y, hy, he⟩ := lastF_mem h
              have := hT y hy
              omega
            unfold viewF
            rw [if_neg hd, if_neg (by omega), if_pos (by omega)]
          simp only [hv, decide_eq_false c1, bne_self_eq_false, Bool.false_eq_true, if_false]
          exact Ev.now true
      · have hv : viewF x0 x1 x2 = (0, false) := by
          have hd : ¬ (lastF x0 x2).2 = true := fun h => by
            obtain ⟨y, hy, he⟩ := lastF_mem h
            have := hT y hy
            omega
          unfold viewF
          rw [if_neg hd, if_pos (by omega)]
        simp only [if_neg c0, hv, bne_self_eq_false, Bool.false_eq_true, if_false]
        exact Ev.now true
    have loop : ∀ (suf pre : List S51), x0 = pre ++ suf → There pre x1.length → Ev (fun k => fencepostlaw09_BufView.l0 k x0 x1 x2 true (pre.length : Int)) true := by
      intro suf
      induction suf with
      | nil =>
        intro pre hn hp
        rw [List.append_nil] at hn
        subst hn
        exact hlast hp
      | cons x s ih =>
        intro pre hn hp
        have h1 : (pre.length : Int) < (x0.length : Int) := by rw [hn]; simp; omega
        refine Ev.step (fun k => by rw [fencepostlaw09_BufView.l0]) ?_
        simp only [rdW_get hn, if_pos h1, if_pos (show (0 : Int) ≤ (pre.length : Int) by omega)]
        by_cases c1 : x.f0 < 0
        · simp only [if_pos c1]; exact Ev.now true
        · by_cases c2 : x.f0 ≥ (x1.length : Int)
          · simp only [if_neg c1, if_pos c2]; exact Ev.now true
          · simp only [if_neg c1, if_neg c2]
            rw [wr64 (by omega) (by omega)]
            have := ih (pre ++ [x]) (by simp [hn]) (fun y hy => by
              rcases List.mem_append.1 hy with h | h
              · exact hp y h
              · simp at h; subst h; omega)
            simpa using this
    exact loop x0 [] rfl (fun y hy => by simp at hy)
end Go.Proofs.Ytpaifpnnjflnfaa.Pure
