/- law18.CfgThrough answers true. -/
import Derived.Test.YtpaifpnnjflnfaaPrint7
import Derived.Test.YtpaifpnnjflnfaaHCfgLed
namespace Go.Proofs.Ytpaifpnnjflnfaa.Pure
open Go.RowKit Go.Maps Go.Proofs.YtpaifpnnjflnfaaW.PrintWords Go.Proofs.YtpaifpnnjflnfaaW.PrintLast Go.Proofs.YtpaifpnnjflnfaaW.PrintMore Go.Proofs.Ytpaifpnnjflnfaa.Print
set_option linter.unusedVariables false
set_option linter.unusedSimpArgs false

theorem u8_wf {x : Int} (h : (Lit.int .u8 x).wf = true) : 0 ≤ x ∧ x ≤ 255 := by
  simp [Lit.wf, IntKind.min, IntKind.max, IntKind.signed, IntKind.bits] at h
  omega
/-- One goes on from b to b's aim, if one need. -/
def viaAny (l : List S33) (t b : Int) : Bool := b == t || reachD l b t
def viaFree (l : List S33) (t b : Int) : Bool := b == t || (decide (b < (l.length : Int)) && noDrain (rd_T33 l b) && freeD l b t)
theorem any_via {l : List S33} (hF : Fwd l) (a t : Int) : (nexts l a).any (viaAny l t) = reachD l a t := by
  rw [Bool.eq_iff_iff, List.any_eq_true, reachD_iff hF, Way.cases_]
  constructor
  · rintro ⟨b, hb, h⟩
    refine ⟨b, hb, ?_⟩
    unfold viaAny at h
    rw [Bool.or_eq_true, beq_iff_eq, reachD_iff hF] at h
    rcases h with h | h
    · exact .inl h
    · exact .inr ⟨(h.range hF).2.1, rfl, h⟩
  · rintro ⟨b, hb, h⟩
    refine ⟨b, hb, ?_⟩
    unfold viaAny
    rw [Bool.or_eq_true, beq_iff_eq, reachD_iff hF]
    rcases h with h | ⟨_, _, h⟩
    · exact .inl h
    · exact .inr h
theorem free_via {l : List S33} (hF : Fwd l) (a t : Int) : (nexts l a).any (viaFree l t) = freeD l a t := by
  rw [Bool.eq_iff_iff, List.any_eq_true, freeD_iff hF, Way.cases_]
  constructor
  · rintro ⟨b, hb, h⟩
    refine ⟨b, hb, ?_⟩
    unfold viaFree at h
    rw [Bool.or_eq_true, beq_iff_eq, Bool.and_eq_true, Bool.and_eq_true, decide_eq_true_eq, freeD_iff hF] at h
    rcases h with h | ⟨⟨h1, h2⟩, h3⟩
    · exact .inl h
    · exact .inr ⟨h1, h2, h3⟩
  · rintro ⟨b, hb, h⟩
    refine ⟨b, hb, ?_⟩
    unfold viaFree
    rw [Bool.or_eq_true, beq_iff_eq, Bool.and_eq_true, Bool.and_eq_true, decide_eq_true_eq, freeD_iff hF]
    rcases h with h | ⟨h1, h2, h3⟩
    · exact .inl h
    · exact .inr ⟨⟨h1, h2⟩, h3⟩
theorem through_l0 (l : List S33) (hl : l.length ≤ 80) (hB : fwdB l = true) (a t : Int) (ht : (Lit.int .i64 t).wf = true) (ns : List Int) (hns : ns = nexts l a) : ∀ (suf pre : List Int), ns = pre ++ suf →
    Ev (fun k => fencepostlaw18_CfgThrough.l0 k l true a t ns (pre.any (viaAny l t)) (pre.any (viaFree l t)) (pre.length : Int)) true := by
  have hF := fwd_of hB
  intro suf
  induction suf with
  | nil =>
    intro pre hn
    refine Ev.step (fun k => by rw [fencepostlaw18_CfgThrough.l0]) ?_
    have e : pre = nexts l a := by rw [← hns, hn]; simp
    simp only [if_neg (show ¬ (pre.length : Int) < (ns.length : Int) by rw [hn]; simp), if_true, reach_f hl hB a ht, free_f hl hB a ht, Option.bind_some]
    rw [e, any_via hF, free_via hF]
    simp only [beq_self_eq_true, if_true]
    exact Ev.now true
  | cons x s ih =>
    intro pre hn
    have h1 : (pre.length : Int) < (ns.length : Int) := by rw [hn]; simp; omega
    have e : rd ns (pre.length : Int) = x := by rw [hn]; unfold rd; simp
    have hx : x ∈ nexts l a := by rw [← hns, hn]; simp
    have hr := nexts_range hF hx
    have hn2 := nexts_length l a
    rw [← hns] at hn2
    have ih' := ih (pre ++ [x]) (by simp [hn])
    have e2 : ((pre ++ [x]).length : Int) = wrap64 ((pre.length : Int) + 1) := by rw [w64 (by omega) (by omega)]; simp
    rw [e2, List.any_append, List.any_append, List.any_cons, List.any_nil, List.any_cons, List.any_nil, Bool.or_false, Bool.or_false] at ih'
    refine Ev.step (fun k => by rw [fencepostlaw18_CfgThrough.l0]) ?_
    simp only [e, if_pos h1, if_pos (show (0 : Int) ≤ (pre.length : Int) by omega), if_pos (show x ≥ 0 by omega), if_pos (show 0 ≤ x by omega), drains_f, reach_f hl hB x ht, free_f hl hB x ht, Option.bind_some]
    have va : viaAny l t x = (x == t || reachD l x t) := rfl
    have vf : viaFree l t x = (x == t || (decide (x < (l.length : Int)) && noDrain (rd_T33 l x) && freeD l x t)) := rfl
    rw [va, vf] at ih'
    generalize pre.any (viaAny l t) = p at ih' ⊢
    generalize pre.any (viaFree l t) = q at ih' ⊢
    by_cases c1 : x = t
    · have d1 : (x == t) = true := by simpa using c1
      cases p <;> cases q <;> simpa [c1, d1] using ih'
    · have d1 : (x == t) = false := by simpa using c1
      by_cases c2 : x < (l.length : Int)
      · cases p <;> cases q <;> cases hd : noDrain (rd_T33 l x) <;> simpa [c1, d1, c2, hd] using ih'
      · cases p <;> cases q <;> simpa [c1, d1, c2] using ih'
theorem CfgThrough (x0 : List (S33)) (x1 : Int) (x2 : Int) (x3 : Int) (g0 : (GoodL ok33) x0) (g1 : (Lit.int .u8 x1).wf = true) (g2 : (Lit.int .u8 x2).wf = true) (g3 : (Lit.int .u8 x3).wf = true) : ∃ k, fencepostlaw18_CfgThrough.f k x0 x1 x2 x3 = some true := by
  have u1 := u8_wf g1
  have u2 := u8_wf g2
  have u3 := u8_wf g3
  apply Ev.rounds
  unfold fencepostlaw18_CfgThrough.f
  refine Ev.bind head18 ?_
  obtain ⟨b, hb, hg⟩ := good_ev x0
  refine Ev.bind hb ?_
  cases b with
  | false =>
    simp only [Bool.false_eq_true, if_false]
    refine Ev.step (fun k => by rw [fencepostlaw18_CfgThrough.j0]) ?_
    simp only [if_true]; exact Ev.now true
  | true =>
    obtain ⟨hl, hB⟩ := hg rfl
    have hF := fwd_of hB
    simp only [if_true]
    refine Ev.step (fun k => by rw [fencepostlaw18_CfgThrough.j0]) ?_
    by_cases cz : (x0.length : Int) = 0
    · simp only [cz, beq_self_eq_true, if_true]; exact Ev.now true
    · have e1 : wrap64 ((x0.length : Int) + 1) = (x0.length : Int) + 1 := w64 (by omega) (by omega)
      have w1 : wrap64 x1 = x1 := w64 (by omega) (by omega)
      have w2 : wrap64 x2 = x2 := w64 (by omega) (by omega)
      have w3 : wrap64 x3 = x3 := w64 (by omega) (by omega)
      obtain ⟨a, ha⟩ : ∃ a, a = Int.tmod x1 (x0.length : Int) := ⟨_, rfl⟩
      obtain ⟨t, hta⟩ : ∃ a, a = Int.tmod x2 ((x0.length : Int) + 1) := ⟨_, rfl⟩
      obtain ⟨m, hma⟩ : ∃ a, a = Int.tmod x3 (x0.length : Int) := ⟨_, rfl⟩
      have a0 : 0 ≤ a := by rw [ha]; exact Int.tmod_nonneg _ (by omega)
      have a1 : a < (x0.length : Int) := by rw [ha]; exact Int.tmod_lt_of_pos _ (by omega)
      have t0 : 0 ≤ t := by rw [hta]; exact Int.tmod_nonneg _ (by omega)
      have t1 : t < (x0.length : Int) + 1 := by rw [hta]; exact Int.tmod_lt_of_pos _ (by omega)
      have m0 : 0 ≤ m := by rw [hma]; exact Int.tmod_nonneg _ (by omega)
      have m1 : m < (x0.length : Int) := by rw [hma]; exact Int.tmod_lt_of_pos _ (by omega)
      have ht : (Lit.int .i64 t).wf = true := wf_i64_of (by omega) (by omega)
      have hm : (Lit.int .i64 m).wf = true := wf_i64_of (by omega) (by omega)
      have last : Ev (fun k => fencepostlaw18_CfgThrough.j2 k x0 true a t false) true := by
        refine Ev.step (fun k => by rw [fencepostlaw18_CfgThrough.j2]) ?_
        simp only [Bool.false_eq_true, if_false, next_f, Option.bind_some]
        exact through_l0 x0 hl hB a t ht (nexts x0 a) rfl (nexts x0 a) [] rfl
      have mid : Ev (fun k => fencepostlaw18_CfgThrough.j1 k x0 true a t m false) true := by
        refine Ev.step (fun k => by rw [fencepostlaw18_CfgThrough.j1]) ?_
        simp only [Bool.false_eq_true, if_false, free_f hl hB a hm, free_f hl hB m ht, free_f hl hB a ht, Option.bind_some, if_pos m0, if_pos m1, drains_f]
        cases h1 : freeD x0 a m with
        | false => exact last
        | true =>
          cases h2 : freeD x0 m t with
          | false => exact last
          | true =>
            cases h3 : noDrain (rd_T33 x0 m) with
            | false => exact last
            | true =>
              have h4 : freeD x0 a t = true := (freeD_iff hF).2 (((freeD_iff hF).1 h1).trans m1 h3 ((freeD_iff hF).1 h2))
              simp only [h4, h3, Bool.not_true, Bool.false_eq_true, if_false, if_true]
              exact last
      simp only [show ((x0.length : Int) == 0) = false by simpa using cz, Bool.false_eq_true, if_false, if_neg cz, e1, if_neg (show ¬ (x0.length : Int) + 1 = 0 by omega), w1, w2, w3, ← ha, ← hta, ← hma, reach_f hl hB a hm, reach_f hl hB m ht, reach_f hl hB a ht, Option.bind_some]
      cases h1 : reachD x0 a m with
      | false => exact mid
      | true =>
        cases h2 : reachD x0 m t with
        | false => exact mid
        | true =>
          have h4 : reachD x0 a t = true := (reachD_iff hF).2 (((reachD_iff hF).1 h1).trans m1 rfl ((reachD_iff hF).1 h2))
          simp only [h4, Bool.not_true, if_true]
          exact mid
end Go.Proofs.Ytpaifpnnjflnfaa.Pure
