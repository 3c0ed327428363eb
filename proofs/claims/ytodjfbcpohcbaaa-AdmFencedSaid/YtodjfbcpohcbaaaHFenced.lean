/- Of a code with a fence in each of its admissible slots no slot is admissible: plain Lean. -/
import Derived.Test.YtodjfbcpohcbaaaHAdmOk
import Derived.Test.YtodjfbcpohcbaaaHIns
namespace Go.Proofs.Ytodjfbcpohcbaaa.Print
open Go.RowKit Go.Maps Go.Proofs.YtodjfbcpohcbaaaW.PrintWords Go.Proofs.YtodjfbcpohcbaaaW.PrintLast Go.Proofs.YtodjfbcpohcbaaaW.PrintMore
set_option linter.unusedVariables false
set_option linter.unusedSimpArgs false

theorem fnext_fence {l : List S49} {y c : Int} (h : c ∈ nexts l y) (hf : (rd_T49 l y).f0 = 6) : c = y + 1 := by
  unfold nexts at h
  split at h
  · simp at h
  · split at h
    · unfold nextOf at h
      rw [if_neg (by omega), if_neg (by omega), if_neg (by omega)] at h
      simpa using h
    · simp at h
theorem fnext_in {l : List S49} {y c : Int} (h : c ∈ nexts l y) : 0 ≤ y ∧ y < (l.length : Int) := by
  unfold nexts at h
  split at h
  · simp at h
  · split at h
    · omega
    · simp at h
section
variable {n : Nat} {l : List S49} (hR : RowOk n l) (F : Nat → Bool)
include hR
/-- Where a step leads, with fences. -/
theorem fnext_step {a : Nat} (ha : a < l.length) {c : Int} (h : c ∈ nexts (insN F l l.length) (ps F a : Int)) : ∃ c' : Nat, a < c' ∧ c' ≤ l.length ∧ (c' : Int) ∈ nexts l (a : Int) ∧ c = (bg F c' : Int) := by
  obtain ⟨h0, h1⟩ := fnext_in h
  have hq := (insN_at F l l.length a ha).2
  have hs := (hR (a : Int) (by omega) (by omega)).tgt
  unfold JumpOk at hs
  have hb := bg_succ F a
  have e : nexts (insN F l l.length) (ps F a : Int) = nextOf (shiftS F (rd_T49 l (a : Int))) (ps F a : Int) := by
    unfold nexts; rw [if_neg (by omega), if_pos h1, hq]
  rw [e] at h
  have e2 : nexts l (a : Int) = nextOf (rd_T49 l (a : Int)) (a : Int) := by
    unfold nexts; rw [if_neg (by omega), if_pos (by omega)]
  rw [e2]
  obtain ⟨x, hx⟩ : ∃ x, x = rd_T49 l (a : Int) := ⟨_, rfl⟩
  rw [← hx] at h hs ⊢
  have here : (((a + 1 : Nat) : Int) ∈ nextOf x (a : Int)) → c = (ps F a : Int) + 1 → ∃ c' : Nat, a < c' ∧ c' ≤ l.length ∧ (c' : Int) ∈ nextOf x (a : Int) ∧ c = (bg F c' : Int) := fun hm hc => ⟨a + 1, by omega, by omega, hm, by omega⟩
  have far : x.f0 ≥ 8 → (x.f4 ∈ nextOf x (a : Int)) → c = x.f4 + (cnt F x.f4.toNat : Int) → ∃ c' : Nat, a < c' ∧ c' ≤ l.length ∧ (c' : Int) ∈ nextOf x (a : Int) ∧ c = (bg F c' : Int) := fun h8 hm hc => by
    have := hs h8
    refine ⟨x.f4.toNat, by omega, by omega, by rw [show ((x.f4.toNat : Nat) : Int) = x.f4 by omega]; exact hm, ?_⟩
    unfold bg; omega
  unfold nextOf at h
  rw [shiftS_f0] at h
  by_cases c8 : x.f0 = 8
  · rw [if_pos c8] at h
    have e4 : (shiftS F x).f4 = x.f4 + (cnt F x.f4.toNat : Int) := by unfold shiftS; rw [if_pos (by omega)]
    rw [e4] at h
    exact far (by omega) (by unfold nextOf; rw [if_pos c8]; simp) (by simpa using h)
  · have two : x.f0 = 9 ∨ x.f0 = 10 → ∃ c' : Nat, a < c' ∧ c' ≤ l.length ∧ (c' : Int) ∈ nextOf x (a : Int) ∧ c = (bg F c' : Int) := by
      intro h910
      have e4 : (shiftS F x).f4 = x.f4 + (cnt F x.f4.toNat : Int) := by unfold shiftS; rw [if_pos (by omega)]
      have en : nextOf x (a : Int) = if x.f4 = (a : Int) + 1 then [(a : Int) + 1] else [(a : Int) + 1, x.f4] := by
        unfold nextOf; rw [if_neg c8]
        rcases h910 with h9 | h9
        · rw [if_pos h9]
        · rw [if_neg (by omega), if_pos h9]
      have h' : c ∈ (if (shiftS F x).f4 = (ps F a : Int) + 1 then [(ps F a : Int) + 1] else [(ps F a : Int) + 1, (shiftS F x).f4]) := by
        rw [if_neg c8] at h
        rcases h910 with h9 | h9
        · rw [if_pos h9] at h; exact h
        · rw [if_neg (by omega), if_pos h9] at h; exact h
      have h2 : c = (ps F a : Int) + 1 ∨ c = x.f4 + (cnt F x.f4.toNat : Int) := by
        rw [e4] at h'
        split at h'
        · left; simpa using h'
        · simpa using h'
      rcases h2 with h2 | h2
      · exact here (by rw [en]; split <;> simp) h2
      · exact far (by omega) (by rw [en]; split <;> simp_all) h2
    by_cases c9 : x.f0 = 9
    · exact two (.inl c9)
    · by_cases c10 : x.f0 = 10
      · exact two (.inr c10)
      · rw [if_neg c8, if_neg c9, if_neg c10] at h
        exact here (by unfold nextOf; rw [if_neg c8, if_neg c9, if_neg c10]; simp) (by simpa using h)
theorem fway_free {x c : Int} (h : Way (insN F l l.length) noDrain x c) : ∀ a : Nat, a < l.length → x = (ps F a : Int) → ∃ c' : Nat, c = (bg F c' : Int) ∧ Way l noDrain (a : Int) (c' : Int) := by
  induction h with
  | @one x c h =>
    rintro a ha rfl
    obtain ⟨c', _, _, h1, h2⟩ := fnext_step hR F ha h
    exact ⟨c', h2, .one h1⟩
  | @on x b c h hl ht hw ih =>
    rintro a ha rfl
    obtain ⟨b', h3, h4, h1, rfl⟩ := fnext_step hR F ha h
    have hb : b' < l.length := by
      rw [insN_length] at hl
      rcases Nat.lt_or_ge b' l.length with h | h
      · exact h
      · have := bg_mono F h; omega
    cases hf : F b' with
    | true =>
      rw [(insN_at F l l.length b' hb).1 hf] at ht
      exact absurd ht (by decide)
    | false =>
      have e := ps_not F hf
      obtain ⟨c', hc, hw'⟩ := ih b' hb (by omega)
      refine ⟨c', hc, .on h1 (by omega) ?_ hw'⟩
      rw [← e, (insN_at F l l.length b' hb).2] at ht
      unfold noDrain at ht ⊢
      rwa [shiftS_f0] at ht
theorem fway_any {x c : Int} (h : Way (insN F l l.length) anyStep x c) : ∀ a : Nat, a < l.length → ((F a = true ∧ x = (bg F a : Int)) ∨ x = (ps F a : Int)) → ∃ c' : Nat, (c = (bg F c' : Int) ∨ c = (ps F c' : Int)) ∧ (c' = a ∨ Way l anyStep (a : Int) (c' : Int)) := by
  induction h with
  | @one x c h =>
    rintro a ha (⟨hf, rfl⟩ | rfl)
    · have e := ps_of F hf
      have := fnext_fence h (by rw [(insN_at F l l.length a ha).1 hf]; rfl)
      exact ⟨a, .inr (by omega), .inl rfl⟩
    · obtain ⟨c', _, _, h1, h2⟩ := fnext_step hR F ha h
      exact ⟨c', .inl h2, .inr (.one h1)⟩
  | @on x b c h hl ht hw ih =>
    rintro a ha (⟨hf, rfl⟩ | rfl)
    · have e := ps_of F hf
      have := fnext_fence h (by rw [(insN_at F l l.length a ha).1 hf]; rfl)
      exact ih a ha (.inr (by omega))
    · obtain ⟨b', h3, h4, h1, rfl⟩ := fnext_step hR F ha h
      have hb : b' < l.length := by
        rw [insN_length] at hl
        rcases Nat.lt_or_ge b' l.length with h | h
        · exact h
        · have := bg_mono F h; omega
      have : (F b' = true ∧ (bg F b' : Int) = (bg F b' : Int)) ∨ (bg F b' : Int) = (ps F b' : Int) := by
        cases hf : F b' with
        | true => exact .inl ⟨rfl, rfl⟩
        | false => right; have := ps_not F hf; omega
      obtain ⟨c', hc, hw'⟩ := ih b' hb this
      refine ⟨c', hc, .inr ?_⟩
      rcases hw' with rfl | hw'
      · exact .one h1
      · exact .on h1 (by omega) rfl hw'
theorem fenced_row : ∀ j : Int, 0 ≤ j → j < ((insN F l l.length).length : Int) → (rd_T49 (insN F l l.length) j).f0 ≥ 8 → j < (rd_T49 (insN F l l.length) j).f4 ∧ (rd_T49 (insN F l l.length) j).f4 ≤ ((insN F l l.length).length : Int) := by
  intro j h0 h1 h8
  rw [insN_length] at h1 ⊢
  obtain ⟨i, hi, h⟩ := insN_split F j.toNat l.length (by omega)
  rcases h with ⟨hf, e⟩ | e
  · rw [show j = (bg F i : Int) by omega, (insN_at F l l.length i hi).1 hf] at h8
    exact absurd h8 (by decide)
  · rw [show j = (ps F i : Int) by omega, (insN_at F l l.length i hi).2] at h8 ⊢
    rw [shiftS_f0] at h8
    have hs := (hR (i : Int) (by omega) (by omega)).tgt h8
    have e4 : (shiftS F (rd_T49 l (i : Int))).f4 = (bg F (rd_T49 l (i : Int)).f4.toNat : Int) := by
      unfold shiftS; rw [if_pos h8]; show (rd_T49 l (i : Int)).f4 + _ = _; unfold bg; omega
    rw [e4]
    have := ps_lt_bg F (show i < (rd_T49 l (i : Int)).f4.toNat by omega)
    have := bg_mono F (show (rd_T49 l (i : Int)).f4.toNat ≤ l.length by omega)
    omega
theorem fenced_fwd : fwdB (insN F l l.length) = true := by
  unfold fwdB
  rw [List.all_eq_true]
  intro i hi
  rw [List.mem_range] at hi
  by_cases c : ((rd_T49 (insN F l l.length) i).f0 == 8 || (rd_T49 (insN F l l.length) i).f0 == 9 || (rd_T49 (insN F l l.length) i).f0 == 10) = true
  · have := fenced_row hR F i (by omega) (by omega) (by simp at c; omega)
    simp only [c, Bool.not_true, Bool.false_or, Bool.and_eq_true, decide_eq_true_eq]
    omega
  · simp only [Bool.not_eq_true] at c
    simp [c]
theorem fenced_none (hF : ∀ i, i < l.length → F i = admAt l i) (b : Nat) (hb : b < (insN F l l.length).length) : admAt (insN F l l.length) b = false := by
  cases h : admAt (insN F l l.length) b with
  | false => rfl
  | true =>
    exfalso
    have hFq := fwd_of (fenced_fwd hR F)
    have hFl := fwd_of (fwd_row hR)
    unfold admAt at h
    rw [Bool.and_eq_true] at h
    obtain ⟨hah, hnd⟩ := h
    rw [insN_length] at hb
    obtain ⟨i, hi, hbi⟩ := insN_split F b l.length hb
    rcases hbi with ⟨hf, rfl⟩ | rfl
    · rw [(insN_at F l l.length i hi).1 hf] at hnd
      exact absurd hnd (by decide)
    · rw [(insN_at F l l.length i hi).2] at hnd
      have hnd2 : noDrain (rd_T49 l (i : Int)) = true := by unfold noDrain at hnd ⊢; rwa [shiftS_f0] at hnd
      unfold aheadF at hah
      rw [List.any_eq_true] at hah
      obtain ⟨x, hx, ha⟩ := hah
      rw [List.mem_range] at hx
      unfold aheadAt at ha
      simp only [Bool.and_eq_true] at ha
      obtain ⟨⟨hm, hw⟩, hfr⟩ := ha
      have hxq : x < bg F l.length := by omega
      rw [metF_rd _ (x : Int) (by omega) (by rw [insN_length]; omega)] at hm
      obtain ⟨a, ha, hxa⟩ := insN_split F x l.length hxq
      rcases hxa with ⟨hf, rfl⟩ | rfl
      · rw [(insN_at F l l.length a ha).1 hf] at hw
        exact absurd hw (by decide)
      · rw [(insN_at F l l.length a ha).2, shiftS_f0] at hw
        have hway := (freeD_iff hFq (a := (ps F a : Int)) (b := (ps F i : Int))).1 hfr
        obtain ⟨c', hc, hw2⟩ := fway_free hR F hway a ha rfl
        obtain ⟨rfl, hfi⟩ := ps_bg F (show ps F i = bg F c' by omega)
        have hme : metAt l (a : Int) = true := by
          rw [metAt_iff hFl]
          rw [metAt_iff hFq] at hm
          have h00 := bg_le_ps F a
          rcases hm with hm | hm
          · left
            have : a ≤ bg F a := by unfold bg; omega
            omega
          · have hz : (F 0 = true ∧ (0 : Int) = (bg F 0 : Int)) ∨ (0 : Int) = (ps F 0 : Int) := by
              cases hf : F 0 with
              | true => exact .inl ⟨rfl, by rw [bg_zero]; rfl⟩
              | false => right; rw [ps_not F hf, bg_zero]; rfl
            obtain ⟨c', hc', hw3⟩ := fway_any hR F hm 0 (by omega) hz
            have e : a = c' := by
              rcases hc' with hc' | hc'
              · exact (ps_bg F (show ps F a = bg F c' by omega)).1
              · exact ps_inj F (by omega)
            subst e
            rcases hw3 with rfl | hw3
            · left; rfl
            · right; exact hw3
        have hlt : a < i := by have := hw2.range hFl; omega
        have hadm : admAt l i = true := by
          unfold admAt
          rw [hnd2, Bool.and_true]
          unfold aheadF
          rw [List.any_eq_true]
          refine ⟨a, by simpa using hlt, ?_⟩
          unfold aheadAt
          rw [metF_rd l (a : Int) (by omega) (by omega), hme, hw]
          exact (freeD_iff hFl (a := (a : Int)) (b := (i : Int))).2 hw2
        rw [← hF i hi, hfi] at hadm
        exact absurd hadm (by simp)
end
end Go.Proofs.Ytodjfbcpohcbaaa.Print
