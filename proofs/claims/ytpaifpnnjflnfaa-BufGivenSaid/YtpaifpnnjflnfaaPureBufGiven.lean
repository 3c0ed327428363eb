/- law09.BufGiven answers true. -/
import Derived.Test.YtpaifpnnjflnfaaPrint20
import Derived.Test.YtpaifpnnjflnfaaHBufPure
namespace Go.Proofs.Ytpaifpnnjflnfaa.Pure
open Go.RowKit Go.Proofs.YtpaifpnnjflnfaaW.PrintWords Go.Proofs.YtpaifpnnjflnfaaW.PrintLast Go.Proofs.YtpaifpnnjflnfaaW.PrintMore Go.Proofs.Ytpaifpnnjflnfaa.Print
set_option linter.unusedVariables false
set_option linter.unusedSimpArgs false

theorem BufGiven (x0 : List (S51)) (x1 : S51) (x2 : List Int) (g0 : (GoodL ok51) x0) (g1 : ok51 x1) (g2 : (GoodL (fun x : Int => (Lit.int .i64 x).wf = true)) x2) : ∃ k, fencepostlaw09_BufGiven.f k x0 x1.f0 x1.f1 x2 = some true := by
  apply Ev.rounds
  unfold fencepostlaw09_BufGiven.f
  refine Ev.bind head09 ?_
  obtain ⟨b, hb, hg⟩ := great_f x0 x2
  simp only [hb, Option.bind_some]
  cases b with
  | true => simp only [if_true]; exact Ev.now true
  | false =>
    obtain ⟨hl, hm⟩ := hg rfl
    have hl' : x0.length ≤ 1000 := by omega
    have hm' : x2.length ≤ 1000 := by omega
    simp only [Bool.false_eq_true, if_false]
    simp only [Option.bind_some, List.nil_append, List.length_nil, if_pos (show 0 + x0.length < 8796093022208 by omega), if_pos (show 0 + x2.length < 17592186044416 by omega), push_f hl']
    refine Ev.bind (drain_ev x0 hl' x2 hm') ?_
    refine Ev.bind (all_ev x0 hl' x2 hm') ?_
    have hd : (drainF x0 x2).1.length ≤ x0.length := by
      unfold drainF
      split
      · simp
      · split <;> simp
    have hdm := drain_length x0 x2
    have ham := allF_length x0 x2
    have hlast : ∀ m4 : List Int, m4.length ≤ 1000 → ∀ i : Int, ¬ i < (m4.length : Int) → Ev (fun k => fencepostlaw09_BufGiven.l3 k x0 x2 true x0 x2 m4 i) true := by
      intro m4 h4 i hi
      refine Ev.step (fun k => by rw [fencepostlaw09_BufGiven.l3]) ?_
      simp only [if_neg hi, if_true]
      refine Ev.bind (sameW_ev x0 (by omega)) ?_
      simp only [if_true]
      refine Ev.bind (sameI_ev x2 (by omega)) ?_
      exact Ev.now true
    have loop3 : ∀ (n : Nat) (m4 : List Int) (i : Int), m4.length ≤ 1000 → (m4.length : Int) - i ≤ n → 0 ≤ i → Ev (fun k => fencepostlaw09_BufGiven.l3 k x0 x2 true x0 x2 m4 i) true := by
      intro n
      induction n with
      | zero => intro m4 i h4 h h0; exact hlast m4 h4 i (by omega)
      | succ n ih =>
        intro m4 i h4 h h0
        by_cases c : i < (m4.length : Int)
        · refine Ev.step (fun k => by rw [fencepostlaw09_BufGiven.l3]) ?_
          simp only [if_pos c, if_pos h0]
          rw [wr64 (by omega) (by omega)]
          exact ih _ _ (by simpa using h4) (by rw [List.length_set]; omega) (by omega)
        · exact hlast m4 h4 i c
    have loop2 : ∀ (n : Nat) (m3 m4 : List Int) (i : Int), m3.length ≤ 1000 → m4.length ≤ 1000 → (m3.length : Int) - i ≤ n → 0 ≤ i → Ev (fun k => fencepostlaw09_BufGiven.l2 k x0 x2 true x0 x2 m3 m4 i) true := by
      intro n
      induction n with
      | zero =>
        intro m3 m4 i h3 h4 h h0
        refine Ev.step (fun k => by rw [fencepostlaw09_BufGiven.l2]) ?_
        simp only [if_neg (show ¬ i < (m3.length : Int) by omega)]
        exact loop3 m4.length m4 0 h4 (by omega) (by omega)
      | succ n ih =>
        intro m3 m4 i h3 h4 h h0
        refine Ev.step (fun k => by rw [fencepostlaw09_BufGiven.l2]) ?_
        by_cases c : i < (m3.length : Int)
        · simp only [if_pos c, if_pos h0]
          rw [wr64 (by omega) (by omega)]
          exact ih _ _ _ (by simpa using h3) h4 (by rw [List.length_set]; omega) (by omega)
        · simp only [if_neg c]
          exact loop3 m4.length m4 0 h4 (by omega) (by omega)
    have loop1 : ∀ (n : Nat) (m2 : List S51) (m3 m4 : List Int) (i : Int), m2.length ≤ 1000 → m3.length ≤ 1000 → m4.length ≤ 1000 → (m2.length : Int) - i ≤ n → 0 ≤ i → Ev (fun k => fencepostlaw09_BufGiven.l1 k x0 x2 true x0 x2 m2 m3 m4 i) true := by
      intro n
      induction n with
      | zero =>
        intro m2 m3 m4 i h2 h3 h4 h h0
        refine Ev.step (fun k => by rw [fencepostlaw09_BufGiven.l1]) ?_
        simp only [if_neg (show ¬ i < (m2.length : Int) by omega)]
        exact loop2 m3.length m3 m4 0 h3 h4 (by omega) (by omega)
      | succ n ih =>
        intro m2 m3 m4 i h2 h3 h4 h h0
        refine Ev.step (fun k => by rw [fencepostlaw09_BufGiven.l1]) ?_
        by_cases c : i < (m2.length : Int)
        · simp only [if_pos c, if_pos h0]
          rw [wr64 (by omega) (by omega)]
          exact ih _ _ _ _ (by simpa using h2) h3 h4 (by rw [List.length_set]; omega) (by omega)
        · simp only [if_neg c]
          exact loop2 m3.length m3 m4 0 h3 h4 (by omega) (by omega)
    have loop0 : ∀ (n : Nat) (m1 m2 : List S51) (m3 m4 : List Int) (i : Int), m1.length ≤ 1000 → m2.length ≤ 1000 → m3.length ≤ 1000 → m4.length ≤ 1000 → (m1.length : Int) - i ≤ n → 0 ≤ i → Ev (fun k => fencepostlaw09_BufGiven.l0 k x0 x2 true x0 x2 m1 m2 m3 m4 i) true := by
      intro n
      induction n with
      | zero =>
        intro m1 m2 m3 m4 i h1 h2 h3 h4 h h0
        refine Ev.step (fun k => by rw [fencepostlaw09_BufGiven.l0]) ?_
        simp only [if_neg (show ¬ i < (m1.length : Int) by omega)]
        exact loop1 m2.length m2 m3 m4 0 h2 h3 h4 (by omega) (by omega)
      | succ n ih =>
        intro m1 m2 m3 m4 i h1 h2 h3 h4 h h0
        refine Ev.step (fun k => by rw [fencepostlaw09_BufGiven.l0]) ?_
        by_cases c : i < (m1.length : Int)
        · simp only [if_pos c, if_pos h0]
          rw [wr64 (by omega) (by omega)]
          exact ih _ _ _ _ _ (by simpa using h1) h2 h3 h4 (by rw [List.length_set]; omega) (by omega)
        · simp only [if_neg c]
          exact loop1 m2.length m2 m3 m4 0 h2 h3 h4 (by omega) (by omega)
    exact loop0 (x0.length + 1) _ _ _ _ 0 (by simp; omega) (by omega) (by omega) (by omega) (by simp) (by omega)
end Go.Proofs.Ytpaifpnnjflnfaa.Pure
