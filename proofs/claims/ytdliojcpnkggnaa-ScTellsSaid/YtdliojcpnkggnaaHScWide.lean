/- Wide, and ref10.Right at any state: plain Lean. -/
import Derived.Test.YtdliojcpnkggnaaHScSt
import Derived.Test.YtdliojcpnkggnaaPrint5
namespace Go.Proofs.Ytdliojcpnkggnaa.Print
open Go.RowKit Go.Proofs.YtdliojcpnkggnaaW.PrintWords Go.Proofs.YtdliojcpnkggnaaW.PrintLast Go.Proofs.YtdliojcpnkggnaaW.PrintMore
set_option linter.unusedVariables false
set_option linter.unusedSimpArgs false
/-- A state that is not too much. -/
structure FewSt (mem : List Int) (ths : List S45) : Prop where
  fm : mem.length ≤ 300
  ft : ths.length ≤ 9
  rows : ∀ (t : Nat) x, ths[t]? = some x → x.f1.length ≤ 300 ∧ x.f3.length ≤ 300
section
variable {A : List Int} {B : List (List S39)} {mem : List Int} {ths : List S45}
theorem wide_l0 (hl : ths.length ≤ 1000) : ∀ (d t : Nat), ths.length - t ≤ d → t ≤ ths.length → ∃ r, Ev (fun k => fencepostlaw10_Wide.l0 k (t : Int) mem ths) r ∧ (r = false → ∀ (j : Nat) x, t ≤ j → ths[j]? = some x → x.f1.length ≤ 300 ∧ x.f3.length ≤ 300) := by
  have last : ∀ t : Nat, ¬ t < ths.length → ∃ r, Ev (fun k => fencepostlaw10_Wide.l0 k (t : Int) mem ths) r ∧ (r = false → ∀ (j : Nat) x, t ≤ j → ths[j]? = some x → x.f1.length ≤ 300 ∧ x.f3.length ≤ 300) := by
    intro t h
    refine ⟨false, ?_, fun _ j x hj hx => by have := (List.getElem?_eq_some_iff.1 hx).1; omega⟩
    refine Ev.step (fun k => by rw [fencepostlaw10_Wide.l0]) ?_
    simp only [if_neg (show ¬ (t : Int) < (ths.length : Int) by omega)]
    exact Ev.now _
  intro d
  induction d with
  | zero => intro t h1 h2; exact last t (by omega)
  | succ d ih =>
    intro t h1 h2
    by_cases c : t < ths.length
    · obtain ⟨x, hx⟩ : ∃ x, ths[t]? = some x := ⟨_, List.getElem?_eq_getElem c⟩
      by_cases c1 : (x.f1.length : Int) > 300
      · refine ⟨true, ?_, fun h => by simp at h⟩
        refine Ev.step (fun k => by rw [fencepostlaw10_Wide.l0]) ?_
        simp only [rdT_nat hx, if_pos (show (t : Int) < (ths.length : Int) by omega), if_pos (show (0 : Int) ≤ (t : Int) by omega), if_pos c1]
        exact Ev.now _
      · by_cases c2 : (x.f3.length : Int) > 300
        · refine ⟨true, ?_, fun h => by simp at h⟩
          refine Ev.step (fun k => by rw [fencepostlaw10_Wide.l0]) ?_
          simp only [rdT_nat hx, if_pos (show (t : Int) < (ths.length : Int) by omega), if_pos (show (0 : Int) ≤ (t : Int) by omega), if_neg c1, if_pos c2]
          exact Ev.now _
        · obtain ⟨r, hr, hg⟩ := ih (t + 1) (by omega) (by omega)
          refine ⟨r, ?_, fun e j y hj hy => ?_⟩
          · refine Ev.step (fun k => by rw [fencepostlaw10_Wide.l0]) ?_
            simp only [rdT_nat hx, if_pos (show (t : Int) < (ths.length : Int) by omega), if_pos (show (0 : Int) ≤ (t : Int) by omega), if_neg c1, if_neg c2, w64 (show -9223372036854775808 ≤ (t : Int) + 1 by omega) (by omega)]
            exact hr
          · by_cases e2 : j = t
            · subst e2; rw [hx] at hy; obtain rfl := Option.some.inj hy; omega
            · exact hg e j y (by omega) hy
    · exact last t c
theorem wide_ev (mem : List Int) (ths : List S45) : ∃ r, Ev (fun k => fencepostlaw10_Wide.f k mem ths) r ∧ (r = false → FewSt mem ths) := by
  have no : Ev (fun k => fencepostlaw10_Wide.j0 k true mem ths) true := by
    refine Ev.step (fun k => by rw [fencepostlaw10_Wide.j0]) ?_
    simp only [if_true]
    exact Ev.now _
  unfold fencepostlaw10_Wide.f
  by_cases c1 : (mem.length : Int) > 300
  · simp only [if_pos c1]; exact ⟨true, no, fun h => by simp at h⟩
  · simp only [if_neg c1]
    by_cases c2 : (ths.length : Int) > 9
    · simp only [decide_eq_true c2]; exact ⟨true, no, fun h => by simp at h⟩
    · simp only [decide_eq_false c2]
      obtain ⟨r, hr, hg⟩ := wide_l0 (mem := mem) (ths := ths) (by omega) ths.length 0 (by omega) (by omega)
      refine ⟨r, ?_, fun e => ⟨by omega, by omega, fun t x hx => hg e t x (Nat.zero_le _) hx⟩⟩
      refine Ev.step (fun k => by rw [fencepostlaw10_Wide.j0]) ?_
      simp only [Bool.false_eq_true, if_false]
      exact hr
theorem r10_l1 (x : S45) (hl : x.f3.length ≤ 300) (t : Int) (q : Bool) (hq : Ev (fun k => fencepostref10_Right.l0 k (wrap64 (t + 1)) A B mem ths) q) : ∀ (d i : Nat), x.f3.length - i ≤ d → i ≤ x.f3.length → ∃ r, Ev (fun k => fencepostref10_Right.l1 k t (i : Int) A B mem ths x.f0 x.f1 x.f2 x.f3) r ∧ (r = true → q = true ∧ ∀ (j : Nat) w, i ≤ j → x.f3[j]? = some w → 0 ≤ w.f0 ∧ w.f0 < (mem.length : Int)) := by
  have last : ∀ i : Nat, ¬ i < x.f3.length → ∃ r, Ev (fun k => fencepostref10_Right.l1 k t (i : Int) A B mem ths x.f0 x.f1 x.f2 x.f3) r ∧ (r = true → q = true ∧ ∀ (j : Nat) w, i ≤ j → x.f3[j]? = some w → 0 ≤ w.f0 ∧ w.f0 < (mem.length : Int)) := by
    intro i h
    refine ⟨q, ?_, fun e => ⟨e, fun j w hj hw => by have := (List.getElem?_eq_some_iff.1 hw).1; omega⟩⟩
    refine Ev.step (fun k => by rw [fencepostref10_Right.l1]) ?_
    simp only [if_neg (show ¬ (i : Int) < (x.f3.length : Int) by omega)]
    exact hq
  intro d
  induction d with
  | zero => intro i h1 h2; exact last i (by omega)
  | succ d ih =>
    intro i h1 h2
    by_cases c : i < x.f3.length
    · have e : rd_T53 x.f3 (i : Int) = x.f3[i] := by unfold rd_T53; rw [Int.toNat_natCast, List.getD_eq_getElem?_getD, List.getElem?_eq_getElem c]; rfl
      by_cases c1 : (x.f3[i]).f0 < 0
      · refine ⟨false, ?_, fun h => by simp at h⟩
        refine Ev.step (fun k => by rw [fencepostref10_Right.l1]) ?_
        simp only [e, if_pos (show (i : Int) < (x.f3.length : Int) by omega), if_pos (show (0 : Int) ≤ (i : Int) by omega), if_pos c1]
        exact Ev.now _
      · by_cases c2 : (x.f3[i]).f0 ≥ (mem.length : Int)
        · refine ⟨false, ?_, fun h => by simp at h⟩
          refine Ev.step (fun k => by rw [fencepostref10_Right.l1]) ?_
          simp only [e, if_pos (show (i : Int) < (x.f3.length : Int) by omega), if_pos (show (0 : Int) ≤ (i : Int) by omega), if_neg c1, if_pos c2]
          exact Ev.now _
        · obtain ⟨r, hr, hg⟩ := ih (i + 1) (by omega) (by omega)
          refine ⟨r, ?_, fun e3 => ⟨(hg e3).1, fun j w hj hw => ?_⟩⟩
          · refine Ev.step (fun k => by rw [fencepostref10_Right.l1]) ?_
            simp only [e, if_pos (show (i : Int) < (x.f3.length : Int) by omega), if_pos (show (0 : Int) ≤ (i : Int) by omega), if_neg c1, if_neg c2, w64 (show -9223372036854775808 ≤ (i : Int) + 1 by omega) (by omega)]
            exact hr
          · by_cases e2 : j = i
            · subst e2; rw [List.getElem?_eq_getElem c] at hw; obtain rfl := Option.some.inj hw; omega
            · exact (hg e3).2 j w (by omega) hw
    · exact last i c
theorem r10_l0 (hf : FewSt mem ths) (hlt : ths.length = B.length) : ∀ (d t : Nat), ths.length - t ≤ d → t ≤ ths.length → ∃ r, Ev (fun k => fencepostref10_Right.l0 k (t : Int) A B mem ths) r ∧ (r = true → ∀ (j : Nat) x, t ≤ j → ths[j]? = some x → ThOk mem.length (rd_L3 B (j : Int)) x) := by
  have hth := hf.ft
  have last : ∀ t : Nat, ¬ t < ths.length → ∃ r, Ev (fun k => fencepostref10_Right.l0 k (t : Int) A B mem ths) r ∧ (r = true → ∀ (j : Nat) x, t ≤ j → ths[j]? = some x → ThOk mem.length (rd_L3 B (j : Int)) x) := by
    intro t h
    refine ⟨true, ?_, fun _ j x hj hx => by have := (List.getElem?_eq_some_iff.1 hx).1; omega⟩
    refine Ev.step (fun k => by rw [fencepostref10_Right.l0]) ?_
    simp only [if_neg (show ¬ (t : Int) < (ths.length : Int) by omega)]
    exact Ev.now _
  intro d
  induction d with
  | zero => intro t h1 h2; exact last t (by omega)
  | succ d ih =>
    intro t h1 h2
    by_cases c : t < ths.length
    · obtain ⟨x, hx⟩ : ∃ x, ths[t]? = some x := ⟨_, List.getElem?_eq_getElem c⟩
      have no : Ev (fun k => fencepostref10_Right.j2 k (t : Int) true A B mem ths x.f0 x.f1 x.f2 x.f3) false := by
        refine Ev.step (fun k => by rw [fencepostref10_Right.j2]) ?_
        simp only [if_true]
        exact Ev.now _
      have s1 : (t : Int) < (ths.length : Int) := by omega
      have s2 : (0 : Int) ≤ (t : Int) := by omega
      have s3 : (t : Int) < (B.length : Int) := by omega
      by_cases c1 : x.f0 < 0
      · refine ⟨false, ?_, fun h => by simp at h⟩
        refine Ev.step (fun k => by rw [fencepostref10_Right.l0]) ?_
        simp only [rdT_nat hx, if_pos s1, if_pos s2, if_pos c1]
        exact no
      · by_cases c2 : x.f0 > ((rd_L3 B (t : Int)).length : Int)
        · refine ⟨false, ?_, fun h => by simp at h⟩
          refine Ev.step (fun k => by rw [fencepostref10_Right.l0]) ?_
          simp only [rdT_nat hx, if_pos s1, if_pos s2, if_pos s3, if_neg c1, if_pos c2]
          exact no
        · by_cases c3 : x.f1.length = 4
          · obtain ⟨q, hq, hg⟩ := ih (t + 1) (by omega) (by omega)
            obtain ⟨r, hr, hg2⟩ := r10_l1 (A := A) (B := B) (mem := mem) (ths := ths) x (hf.rows t x hx).2 (t : Int) q (by rw [w64 (show -9223372036854775808 ≤ (t : Int) + 1 by omega) (by omega)]; exact hq) x.f3.length 0 (by omega) (by omega)
            refine ⟨r, ?_, fun e j y hj hy => ?_⟩
            · refine Ev.step (fun k => by rw [fencepostref10_Right.l0]) ?_
              simp only [rdT_nat hx, if_pos s1, if_pos s2, if_pos s3, if_neg c1, if_neg c2, c3]
              refine Ev.step (fun k => by rw [fencepostref10_Right.j2]) ?_
              simp only [show (((4 : Nat) : Int) != 4) = false by decide, Bool.false_eq_true, if_false]
              exact hr
            · by_cases e2 : j = t
              · subst e2; rw [hx] at hy; obtain rfl := Option.some.inj hy
                exact ⟨by omega, by omega, c3, (hf.rows j x hx).2, fun w hw => by
                  obtain ⟨i, hi⟩ := List.getElem?_of_mem hw
                  exact (hg2 e).2 i w (Nat.zero_le _) hi⟩
              · exact hg (hg2 e).1 j y (by omega) hy
          · refine ⟨false, ?_, fun h => by simp at h⟩
            refine Ev.step (fun k => by rw [fencepostref10_Right.l0]) ?_
            simp only [rdT_nat hx, if_pos s1, if_pos s2, if_pos s3, if_neg c1, if_neg c2, show ((x.f1.length : Int) != 4) = true from bne_iff_ne.2 (by omega)]
            exact no
    · exact last t c
theorem r10_ev (A : List Int) (B : List (List S39)) (hf : FewSt mem ths) : ∃ r, Ev (fun k => fencepostref10_Right.f k A B mem ths) r ∧ (r = true → StOk A B mem ths) := by
  have no : Ev (fun k => fencepostref10_Right.j0 k true A B mem ths) false := by
    refine Ev.step (fun k => by rw [fencepostref10_Right.j0]) ?_
    simp only [if_true]
    exact Ev.now _
  unfold fencepostref10_Right.f
  by_cases c1 : (mem.length : Int) = (A.length : Int)
  · simp only [if_pos c1]
    by_cases c2 : ths.length = B.length
    · simp only [show ((ths.length : Int) != (B.length : Int)) = false from bne_eq_false_iff_eq.2 (by omega)]
      obtain ⟨r, hr, hg⟩ := r10_l0 (A := A) hf c2 ths.length 0 (by omega) (by omega)
      refine ⟨r, ?_, fun e => ⟨by omega, c2, fun t x hx => hg e t x (Nat.zero_le _) hx⟩⟩
      refine Ev.step (fun k => by rw [fencepostref10_Right.j0]) ?_
      simp only [Bool.false_eq_true, if_false]
      exact hr
    · simp only [show ((ths.length : Int) != (B.length : Int)) = true from bne_iff_ne.2 (by omega)]
      exact ⟨false, no, fun h => by simp at h⟩
  · simp only [if_neg c1]
    exact ⟨false, no, fun h => by simp at h⟩
end
end Go.Proofs.Ytdliojcpnkggnaa.Print
