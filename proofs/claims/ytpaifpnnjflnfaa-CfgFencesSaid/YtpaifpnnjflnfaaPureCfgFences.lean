/- law18.CfgFences answers true. -/
import Derived.Test.YtpaifpnnjflnfaaPrint14
import Derived.Test.YtpaifpnnjflnfaaHCfgLed
namespace Go.Proofs.Ytpaifpnnjflnfaa.Pure
open Go.RowKit Go.Maps Go.Proofs.YtpaifpnnjflnfaaW.PrintWords Go.Proofs.YtpaifpnnjflnfaaW.PrintLast Go.Proofs.YtpaifpnnjflnfaaW.PrintMore Go.Proofs.Ytpaifpnnjflnfaa.Print
set_option linter.unusedVariables false
set_option linter.unusedSimpArgs false

theorem u8_fence {x : Int} (h : (Lit.int .u8 x).wf = true) : 0 ≤ x ∧ x ≤ 255 := by
  simp [Lit.wf, IntKind.min, IntKind.max, IntKind.signed, IntKind.bits] at h
  omega
theorem rd_mem {l : List S33} {i : Int} (h0 : 0 ≤ i) (h1 : i < (l.length : Int)) : rd_T33 l i ∈ l := by
  unfold rd_T33
  rw [List.getD_eq_getElem?_getD, List.getElem?_eq_getElem (by omega)]
  exact List.getElem_mem _
/-- No branch at all. -/
def Straight (l : List S33) : Prop := ∀ x ∈ l, x.f0 < 8
theorem straight_fwd {l : List S33} (h : Straight l) : fwdB l = true := fwdB_of fun j h0 h1 h8 => by have := h _ (rd_mem h0 h1); omega
theorem straight_nexts {l : List S33} (h : Straight l) {a : Int} (h0 : 0 ≤ a) (h1 : a < (l.length : Int)) : nexts l a = [a + 1] := by
  have := h _ (rd_mem h0 h1)
  unfold nexts nextOf
  rw [if_neg (by omega), if_pos h1, if_neg (by omega), if_neg (by omega), if_neg (by omega)]
theorem straight_way {l : List S33} (h : Straight l) (t : Int) (ht : t ≤ (l.length : Int)) : ∀ (n : Nat) (a : Int), t - a ≤ n → 0 ≤ a → a < t → Print.Way l anyStep a t := by
  intro n
  induction n with
  | zero => intro a h1 h2 h3; omega
  | succ n ih =>
    intro a h1 h2 h3
    have hm : a + 1 ∈ nexts l a := by rw [straight_nexts h h2 (by omega)]; simp
    by_cases c : a + 1 = t
    · exact .one (c ▸ hm)
    · exact .on hm (by omega) rfl (ih (a + 1) (by omega) (by omega) (by omega))
theorem straight_reach {l : List S33} (h : Straight l) {a t : Int} (h0 : 0 ≤ a) (ht : t ≤ (l.length : Int)) : reachD l a t = decide (a < t) := by
  have hF := fwd_of (straight_fwd h)
  rw [Bool.eq_iff_iff, reachD_iff hF, decide_eq_true_eq]
  exact ⟨fun w => (w.range hF).2.2.1, fun c => straight_way h t ht (t - a).toNat a (by omega) h0 c⟩
/-- A fence holds up what comes from before it. -/
theorem straight_fence {l : List S33} (h : Straight l) {m : Int} (hm : noDrain (rd_T33 l m) = false) {a t : Int} (w : Print.Way l noDrain a t) : a < m → t ≤ m := by
  have hF := fwd_of (straight_fwd h)
  induction w with
  | @one a b hb =>
    intro c
    have := nexts_range hF hb
    rw [straight_nexts h (by omega) (by omega)] at hb
    simp at hb; omega
  | @on a b d hb hl ht hw ih =>
    intro c
    have := nexts_range hF hb
    rw [straight_nexts h (by omega) (by omega)] at hb
    simp at hb
    refine ih ?_
    by_cases e : b = m
    · subst e; rw [hm] at ht; simp at ht
    · omega
def isDrain (x : S33) : Bool := !(noDrain x)
def isJump (x : S33) : Bool := decide (x.f0 ≥ 8)
theorem fences_j2 (l : List S33) (hl : l.length ≤ 80) (a t m : Int) (a0 : 0 ≤ a) (t0 : 0 ≤ t) (t1 : t ≤ (l.length : Int)) (m0 : 0 ≤ m) (m1 : m < (l.length : Int)) :
    Ev (fun k => fencepostlaw18_CfgFences.j2 k l true a t m (l.any isJump) false) true := by
  refine Ev.step (fun k => by rw [fencepostlaw18_CfgFences.j2]) ?_
  have e1 : wrap64 (m + 1) = m + 1 := w64 (by omega) (by omega)
  have ht : (Lit.int .i64 t).wf = true := wf_i64_of (by omega) (by omega)
  cases hj : l.any isJump with
  | true => simp only [Bool.false_eq_true, if_false, if_true]; exact Ev.now true
  | false =>
    obtain ⟨y, hy⟩ : ∃ y : List S33, y = ([] ++ l.take m.toNat ++ [(⟨6, 0, 0, 0, 0⟩ : S33)]) ++ l.drop (m + 1).toNat := ⟨_, rfl⟩
    have hlen : y.length = l.length := by rw [hy]; simp; omega
    have hS : Straight y := by
      intro x hx
      have hS0 : ∀ x ∈ l, x.f0 < 8 := by
        intro x hx
        rw [List.any_eq_false] at hj
        have := hj x hx
        unfold isJump at this
        simp at this
        exact this
      rw [hy] at hx
      simp only [List.nil_append, List.mem_append, List.mem_singleton] at hx
      rcases hx with (hx | rfl) | hx
      · exact hS0 x (List.mem_of_mem_take hx)
      · decide
      · exact hS0 x (List.mem_of_mem_drop hx)
    have hm : noDrain (rd_T33 y m) = false := by
      have : rd_T33 y m = (⟨6, 0, 0, 0, 0⟩ : S33) := by
        rw [hy]
        unfold rd_T33
        rw [List.getD_eq_getElem?_getD, List.getElem?_append_left (by simp; omega), List.getElem?_append_right (by simp; omega)]
        have : m.toNat - ([] ++ l.take m.toNat).length = 0 := by simp; omega
        rw [this]; rfl
      rw [this]; rfl
    have hB := straight_fwd hS
    have hF := fwd_of hB
    have hr : reachD y a t = decide (a < t) := straight_reach hS a0 (by omega)
    have b1 : ([] : List S33).length + (l.take m.toNat).length < 3518437208883 := by simp; omega
    have b2 : ([] ++ l.take m.toNat).length + [(⟨6, 0, 0, 0, 0⟩ : S33)].length < 3518437208883 := by simp; omega
    have b3 : ([] ++ l.take m.toNat ++ [(⟨6, 0, 0, 0, 0⟩ : S33)]).length + (l.drop (m + 1).toNat).length < 3518437208883 := by simp; omega
    simp only [Bool.false_eq_true, if_false, Option.bind_some, if_pos m0, if_pos (show m ≤ (l.length : Int) by omega), if_pos b1, if_pos b2, e1, if_pos (show 0 ≤ m + 1 by omega), if_pos (show m + 1 ≤ (l.length : Int) by omega), if_pos b3, if_true, ← hy, reach_f (by omega : y.length ≤ 80) hB a ht, free_f (by omega : y.length ≤ 80) hB a ht, hr, beq_self_eq_true]
    by_cases c1 : a ≥ m
    · simp only [if_pos c1]; exact Ev.now true
    · by_cases c2 : m ≥ t
      · simp only [if_neg c1, if_pos c2]; exact Ev.now true
      · have : freeD y a t = false := by
          cases e : freeD y a t with
          | false => rfl
          | true => have := straight_fence hS hm ((freeD_iff hF).1 e) (by omega); omega
        simp only [if_neg c1, if_neg c2, this, Bool.not_false]
        exact Ev.now true
theorem way_noDrain {l : List S33} (hF : Fwd l) (h : ∀ x ∈ l, noDrain x = true) {a t : Int} (w : Print.Way l anyStep a t) : Print.Way l noDrain a t := by
  induction w with
  | one h => exact .one h
  | on hb hl ht hw ih => exact .on hb hl (h _ (rd_mem (by have := nexts_range hF hb; omega) hl)) ih
theorem fences_l0 (l : List S33) (hl : l.length ≤ 80) (hB : fwdB l = true) (a t m : Int) (a0 : 0 ≤ a) (t0 : 0 ≤ t) (t1 : t ≤ (l.length : Int)) (m0 : 0 ≤ m) (m1 : m < (l.length : Int)) : ∀ (suf pre : List S33), l = pre ++ suf →
    Ev (fun k => fencepostlaw18_CfgFences.l0 k l true a t m (pre.any isDrain) (pre.any isJump) (pre.length : Int)) true := by
  have hF := fwd_of hB
  have ht : (Lit.int .i64 t).wf = true := wf_i64_of (by omega) (by omega)
  intro suf
  induction suf with
  | nil =>
    intro pre hn
    rw [List.append_nil] at hn
    subst hn
    refine Ev.step (fun k => by rw [fencepostlaw18_CfgFences.l0]) ?_
    simp only [if_neg (show ¬ (l.length : Int) < (l.length : Int) by omega), reach_f hl hB a ht, free_f hl hB a ht, Option.bind_some]
    cases hd : l.any isDrain with
    | true => simp only [if_true]; exact fences_j2 l hl a t m a0 t0 t1 m0 m1
    | false =>
      have e : freeD l a t = reachD l a t := by
        rw [Bool.eq_iff_iff, freeD_iff hF, reachD_iff hF]
        refine ⟨fun w => w.imp (fun _ _ => rfl), way_noDrain hF fun x hx => ?_⟩
        rw [List.any_eq_false] at hd
        have := hd x hx
        unfold isDrain at this
        simpa using this
      simp only [Bool.false_eq_true, if_false, e, bne_self_eq_false]
      exact fences_j2 l hl a t m a0 t0 t1 m0 m1
  | cons x s ih =>
    intro pre hn
    have h1 : (pre.length : Int) < (l.length : Int) := by rw [hn]; simp; omega
    have e : rd_T33 l (pre.length : Int) = x := by rw [hn]; unfold rd_T33; simp
    have ih' := ih (pre ++ [x]) (by simp [hn])
    have e2 : ((pre ++ [x]).length : Int) = wrap64 ((pre.length : Int) + 1) := by rw [w64 (by omega) (by omega)]; simp
    rw [e2, List.any_append, List.any_append, List.any_cons, List.any_nil, List.any_cons, List.any_nil, Bool.or_false, Bool.or_false] at ih'
    refine Ev.step (fun k => by rw [fencepostlaw18_CfgFences.l0]) ?_
    simp only [e, if_pos h1, if_pos (show (0 : Int) ≤ (pre.length : Int) by omega), drains_f, Option.bind_some]
    have va : isDrain x = !(noDrain x) := rfl
    have vf : isJump x = decide (x.f0 ≥ 8) := rfl
    rw [va, vf] at ih'
    generalize pre.any isDrain = p at ih' ⊢
    generalize pre.any isJump = q at ih' ⊢
    cases p <;> cases q <;> simpa using ih'
theorem CfgFences (x0 : List (S33)) (x1 : Int) (x2 : Int) (x3 : Int) (g0 : (GoodL ok33) x0) (g1 : (Lit.int .u8 x1).wf = true) (g2 : (Lit.int .u8 x2).wf = true) (g3 : (Lit.int .u8 x3).wf = true) : ∃ k, fencepostlaw18_CfgFences.f k x0 x1 x2 x3 = some true := by
  have u1 := u8_fence g1
  have u2 := u8_fence g2
  have u3 := u8_fence g3
  apply Ev.rounds
  unfold fencepostlaw18_CfgFences.f
  refine Ev.bind head18 ?_
  obtain ⟨b, hb, hg⟩ := good_ev x0
  refine Ev.bind hb ?_
  cases b with
  | false =>
    simp only [Bool.false_eq_true, if_false]
    refine Ev.step (fun k => by rw [fencepostlaw18_CfgFences.j0]) ?_
    simp only [if_true]; exact Ev.now true
  | true =>
    obtain ⟨hl, hB⟩ := hg rfl
    simp only [if_true]
    refine Ev.step (fun k => by rw [fencepostlaw18_CfgFences.j0]) ?_
    by_cases cz : (x0.length : Int) = 0
    · simp only [cz, beq_self_eq_true, if_true]; exact Ev.now true
    · have e1 : wrap64 ((x0.length : Int) + 1) = (x0.length : Int) + 1 := w64 (by omega) (by omega)
      have w1 : wrap64 x1 = x1 := w64 (by omega) (by omega)
      have w2 : wrap64 x2 = x2 := w64 (by omega) (by omega)
      have w3 : wrap64 x3 = x3 := w64 (by omega) (by omega)
      simp only [show ((x0.length : Int) == 0) = false by simpa using cz, Bool.false_eq_true, if_false, if_neg cz, e1, if_neg (show ¬ (x0.length : Int) + 1 = 0 by omega), w1, w2, w3]
      refine fences_l0 x0 hl hB _ _ _ (Int.tmod_nonneg _ (by omega)) (Int.tmod_nonneg _ (by omega)) ?_ (Int.tmod_nonneg _ (by omega)) (Int.tmod_lt_of_pos _ (by omega)) x0 [] rfl
      have := Int.tmod_lt_of_pos x3 (show (0 : Int) < (x0.length : Int) + 1 by omega)
      omega
end Go.Proofs.Ytpaifpnnjflnfaa.Pure
