/- law09.BufParts answers true. -/
import Derived.Test.YtpaifpnnjflnfaaPrint19
import Derived.Test.YtpaifpnnjflnfaaHBufPure
namespace Go.Proofs.Ytpaifpnnjflnfaa.Pure
open Go.RowKit Go.Proofs.YtpaifpnnjflnfaaW.PrintWords Go.Proofs.YtpaifpnnjflnfaaW.PrintLast Go.Proofs.YtpaifpnnjflnfaaW.PrintMore Go.Proofs.Ytpaifpnnjflnfaa.Print
set_option linter.unusedVariables false
set_option linter.unusedSimpArgs false

theorem BufParts (x0 : List (S51)) (x1 : List (S51)) (x2 : List Int) (g0 : (GoodL ok51) x0) (g1 : (GoodL ok51) x1) (g2 : (GoodL (fun x : Int => (Lit.int .i64 x).wf = true)) x2) : ∃ k, fencepostlaw09_BufParts.f k x0 x1 x2 = some true := by
  have skip : Ev (fun k => fencepostlaw09_BufParts.j0 k x0 x1 x2 true true) true := by
    refine Ev.step (fun k => by rw [fencepostlaw09_BufParts.j0]) ?_
    simp only [if_true]; exact Ev.now true
  apply Ev.rounds
  unfold fencepostlaw09_BufParts.f
  refine Ev.bind head09 ?_
  obtain ⟨b, hb, hg⟩ := great_f x0 x2
  obtain ⟨b', hb', hg'⟩ := great_f x1 []
  simp only [hb, hb', Option.bind_some]
  cases b with
  | true => simp only [if_true]; exact skip
  | false =>
    simp only [Bool.false_eq_true, if_false]
    cases b' with
    | true => exact skip
    | false =>
      obtain ⟨hl, hm⟩ := hg rfl
      obtain ⟨hl1, _⟩ := hg' rfl
      have hl' : x0.length ≤ 1000 := by omega
      have hm' : x2.length ≤ 1000 := by omega
      have hl1' : x1.length ≤ 1000 := by omega
      refine Ev.step (fun k => by rw [fencepostlaw09_BufParts.j0]) ?_
      simp only [Bool.false_eq_true, if_false, Option.bind_some, List.nil_append, List.length_nil, if_pos (show 0 + x0.length < 8796093022208 by omega), if_pos (show x0.length + x1.length < 8796093022208 by omega)]
      have hlen : (x0 ++ x1).length ≤ 1000 := by simp; omega
      have loop : ∀ (suf pre : List S51), x0 ++ x1 = pre ++ suf → There pre x2.length → Ev (fun k => fencepostlaw09_BufParts.l0 k x0 x1 x2 true (x0 ++ x1) (pre.length : Int)) true := by
        intro suf
        induction suf with
        | nil =>
          intro pre hn hp
          rw [List.append_nil] at hn
          refine Ev.step (fun k => by rw [fencepostlaw09_BufParts.l0]) ?_
          simp only [if_neg (show ¬ (pre.length : Int) < ((x0 ++ x1).length : Int) by rw [hn]; omega), if_true]
          refine Ev.bind (all_ev (x0 ++ x1) hlen x2 hm') ?_
          refine Ev.bind (all_ev x0 hl' x2 hm') ?_
          refine Ev.bind (all_ev x1 hl1' (allF x0 x2) (by rw [allF_length]; omega)) ?_
          rw [all_append x0 x1 x2 (fun y hy => hp y (by rw [← hn]; simp [hy]))]
          refine Ev.bind (sameI_ev _ (by rw [allF_length, allF_length]; omega)) ?_
          exact Ev.now true
        | cons x s ih =>
          intro pre hn hp
          have h1 : (pre.length : Int) < ((x0 ++ x1).length : Int) := by rw [hn]; simp; omega
          refine Ev.step (fun k => by rw [fencepostlaw09_BufParts.l0]) ?_
          simp only [rdW_get hn, if_pos h1, if_pos (show (0 : Int) ≤ (pre.length : Int) by omega)]
          by_cases c1 : x.f0 < 0
          · simp only [if_pos c1]; exact Ev.now true
          · by_cases c2 : x.f0 ≥ (x2.length : Int)
            · simp only [if_neg c1, if_pos c2]; exact Ev.now true
            · simp only [if_neg c1, if_neg c2]
              rw [wr64 (by omega) (by omega)]
              have := ih (pre ++ [x]) (by simp [hn]) (fun y hy => by
                rcases List.mem_append.1 hy with h | h
                · exact hp y h
                · simp at h; subst h; omega)
              simpa using this
      exact loop (x0 ++ x1) [] rfl (fun y hy => by simp at hy)
end Go.Proofs.Ytpaifpnnjflnfaa.Pure
