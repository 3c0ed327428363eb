/- law18.CfgMet answers true. -/
import Derived.Test.YtpaifpnnjflnfaaPrint8
import Derived.Test.YtpaifpnnjflnfaaHCfgLed
namespace Go.Proofs.Ytpaifpnnjflnfaa.Pure
open Go.RowKit Go.Maps Go.Proofs.YtpaifpnnjflnfaaW.PrintWords Go.Proofs.YtpaifpnnjflnfaaW.PrintLast Go.Proofs.YtpaifpnnjflnfaaW.PrintMore Go.Proofs.Ytpaifpnnjflnfaa.Print
set_option linter.unusedVariables false
set_option linter.unusedSimpArgs false

theorem u8_of_wf {x : Int} (h : (Lit.int .u8 x).wf = true) : 0 ≤ x ∧ x ≤ 255 := by
  simp [Lit.wf, IntKind.min, IntKind.max, IntKind.signed, IntKind.bits] at h
  omega
theorem nexts_some {l : List S33} {a : Int} (h0 : 0 ≤ a) (h1 : a < (l.length : Int)) : ∃ x, x ∈ nexts l a := by
  unfold nexts
  rw [if_neg (by omega), if_pos h1]
  unfold nextOf
  repeat' split
  all_goals exact ⟨_, List.mem_cons_self⟩
theorem way_end {l : List S33} (hF : Fwd l) : ∀ (n : Nat) (a : Int), (l.length : Int) - a ≤ n → 0 ≤ a → a < (l.length : Int) → Print.Way l anyStep a (l.length : Int) := by
  intro n
  induction n with
  | zero => intro a h h0 h1; omega
  | succ n ih =>
    intro a h h0 h1
    obtain ⟨x, hx⟩ := nexts_some h0 h1
    have := nexts_range hF hx
    by_cases c : x = (l.length : Int)
    · exact .one (c ▸ hx)
    · exact .on hx (by omega) rfl (ih x (by omega) (by omega) (by omega))
theorem CfgMet (x0 : List (S33)) (x1 : Int) (g0 : (GoodL ok33) x0) (g1 : (Lit.int .u8 x1).wf = true) : ∃ k, fencepostlaw18_CfgMet.f k x0 x1 = some true := by
  have hu := u8_of_wf g1
  apply Ev.rounds
  unfold fencepostlaw18_CfgMet.f
  refine Ev.bind head18 ?_
  obtain ⟨b, hb, hg⟩ := good_ev x0
  refine Ev.bind hb ?_
  cases b with
  | false => simp only [Bool.false_eq_true, if_false]; exact Ev.now true
  | true =>
    obtain ⟨hl, hB⟩ := hg rfl
    have hF := fwd_of hB
    simp only [if_true]
    obtain ⟨m, hm, m1, m2⟩ := met_ev x0 hl hB
    refine Ev.bind hm ?_
    have e1 : wrap64 ((x0.length : Int) + 1) = (x0.length : Int) + 1 := w64 (by omega) (by omega)
    have hend : rdOf false m (x0.length : Int) = true := by
      rw [m2 _ (by omega) (by omega)]
      by_cases c : (x0.length : Int) = 0
      · simp [c]
      · rw [(reachD_iff hF).2 (way_end hF x0.length 0 (by omega) (by omega) (by omega))]; simp
    simp only [e1, if_pos (show (m.length : Int) = (x0.length : Int) + 1 by omega), if_pos (show 0 < (m.length : Int) by omega), m2 0 (by omega) (by omega), beq_self_eq_true, Bool.true_or, if_true, if_pos (show (0 : Int) ≤ (x0.length : Int) by omega), if_pos (show (x0.length : Int) < (m.length : Int) by omega), hend, Bool.not_true]
    refine Ev.step (fun k => by rw [fencepostlaw18_CfgMet.j0]) ?_
    have e2 : wrap64 x1 = x1 := w64 (by omega) (by omega)
    obtain ⟨a, ha⟩ : ∃ a, a = Int.tmod x1 (m.length : Int) := ⟨_, rfl⟩
    have a0 : 0 ≤ a := by rw [ha]; exact Int.tmod_nonneg _ (by omega)
    have a1 : a < (m.length : Int) := by rw [ha]; exact Int.tmod_lt_of_pos _ (by omega)
    simp only [e2, ← ha, Bool.false_eq_true, if_false, if_neg (show ¬ (m.length : Int) = 0 by omega)]
    have hloop : ∀ (n : Nat) (i : Int), ((nexts x0 a).length : Int) - i ≤ n → 0 ≤ i → Ev (fun k => fencepostlaw18_CfgMet.l0 k true m a (nexts x0 a) i) true := by
      have stop : ∀ i : Int, Ev (fun k => fencepostlaw18_CfgMet.j3 k true m a (nexts x0 a) i false) true := by
        intro i
        refine Ev.step (fun k => by rw [fencepostlaw18_CfgMet.j3]) ?_
        simp only [Bool.false_eq_true, if_false]
        exact Ev.now true
      intro n
      induction n with
      | zero =>
        intro i h h0
        refine Ev.step (fun k => by rw [fencepostlaw18_CfgMet.l0]) ?_
        simp only [if_neg (show ¬ i < ((nexts x0 a).length : Int) by omega)]
        exact stop i
      | succ n ih =>
        intro i h h0
        refine Ev.step (fun k => by rw [fencepostlaw18_CfgMet.l0]) ?_
        by_cases c : i < ((nexts x0 a).length : Int)
        · simp only [if_pos c, if_pos a0, if_pos a1]
          cases hma : rdOf false m a with
          | false => exact stop i
          | true =>
            have hmem : rd (nexts x0 a) i ∈ nexts x0 a := by
              unfold rd
              rw [List.getD_eq_getElem?_getD, List.getElem?_eq_getElem (by omega)]
              exact List.getElem_mem _
            have hrg := nexts_range hF hmem
            have hn2 := nexts_length x0 a
            refine Ev.step (fun k => by rw [fencepostlaw18_CfgMet.j3]) ?_
            have hmx : rdOf false m (rd (nexts x0 a) i) = true := by
              rw [m2 _ (by omega) (by omega)]
              have hw : Print.Way x0 anyStep 0 (rd (nexts x0 a) i) := by
                by_cases ca : a = 0
                · exact .one (ca ▸ hmem)
                · have h3 := m2 a a0 (by omega)
                  rw [hma] at h3
                  have h4 : reachD x0 0 a = true := by simpa [ca] using h3.symm
                  exact ((reachD_iff hF).1 h4).trans (by omega) rfl (.one hmem)
              rw [(reachD_iff hF).2 hw]; simp
            simp only [if_true, if_pos h0, if_pos c, if_neg (show ¬ rd (nexts x0 a) i < 0 by omega), if_neg (show ¬ rd (nexts x0 a) i ≥ (m.length : Int) by omega), if_pos (show 0 ≤ rd (nexts x0 a) i by omega), if_pos (show rd (nexts x0 a) i < (m.length : Int) by omega), hmx]
            rw [w64 (by omega) (by omega)]
            exact ih _ (by omega) (by omega)
        · simp only [if_neg c]; exact stop i
    have hj1 : Ev (fun k => fencepostlaw18_CfgMet.j1 k x0 true m a false) true := by
      refine Ev.step (fun k => by rw [fencepostlaw18_CfgMet.j1]) ?_
      simp only [Bool.false_eq_true, if_false, next_f, Option.bind_some]
      exact hloop (nexts x0 a).length 0 (by omega) (by omega)
    by_cases c : a > 0
    · have e3 : rdOf false m a = reachD x0 0 a := by
        rw [m2 a a0 (by omega)]
        simp [show ¬ a = 0 by omega]
      simp only [if_pos c, if_pos a0, if_pos a1, reach_f hl hB 0 (wf_i64_of (x := a) (by omega) (by omega)), Option.bind_some, e3, bne_self_eq_false]
      exact hj1
    · simp only [if_neg c]; exact hj1
end Go.Proofs.Ytpaifpnnjflnfaa.Pure
