/- States that may be, and steps of theirs: plain Lean. -/
import Derived.Test.YtdliojcpnkggnaaHScCode
import Derived.Test.YtdliojcpnkggnaaHScStep
import Derived.Test.YtdliojcpnkggnaaHScBegin
import Derived.Test.YtdliojcpnkggnaaPrint6
namespace Go.Proofs.Ytdliojcpnkggnaa.Print
open Go.RowKit Go.Proofs.YtdliojcpnkggnaaW.PrintWords Go.Proofs.YtdliojcpnkggnaaW.PrintLast Go.Proofs.YtdliojcpnkggnaaW.PrintMore
set_option linter.unusedVariables false
set_option linter.unusedSimpArgs false
structure ThOk (m : Nat) (row : List S39) (x : S45) : Prop where
  lo : 0 ≤ x.f0
  hi : x.f0 ≤ (row.length : Int)
  regs : x.f1.length = 4
  few : x.f3.length ≤ 300
  locs : ∀ w ∈ x.f3, 0 ≤ w.f0 ∧ w.f0 < (m : Int)
structure StOk (A : List Int) (B : List (List S39)) (mem : List Int) (ths : List S45) : Prop where
  lm : mem.length = A.length
  lt : ths.length = B.length
  th : ∀ (t : Nat) x, ths[t]? = some x → ThOk mem.length (rd_L3 B (t : Int)) x
theorem rdT_nat {ths : List S45} {t : Nat} {x : S45} (h : ths[t]? = some x) : rd_T45 ths (t : Int) = x := by unfold rd_T45; rw [Int.toNat_natCast, List.getD_eq_getElem?_getD, h]; rfl
theorem rdL_nat {B : List (List S39)} {t : Nat} {l : List S39} (h : B[t]? = some l) : rd_L3 B (t : Int) = l := by unfold rd_L3; rw [Int.toNat_natCast, List.getD_eq_getElem?_getD, h]; rfl
theorem CodeOk.rowN {m : Nat} {A : List Int} {B : List (List S39)} (h : CodeOk m A B) {t : Nat} (ht : t < B.length) : (rd_L3 B (t : Int)).length ≤ m ∧ RowOk A.length (rd_L3 B (t : Int)) := h.rows t (by omega) (by omega)
section
variable {A : List Int} {B : List (List S39)} {mem : List Int} {ths : List S45}
theorem right10_l1 (x : S45) (hx : ∀ w ∈ x.f3, 0 ≤ w.f0 ∧ w.f0 < (mem.length : Int)) (hl : x.f3.length ≤ 300) (t : Int) (hq : Ev (fun k => fencepostref10_Right.l0 k (wrap64 (t + 1)) A B mem ths) true) : ∀ (d : Nat) (i : Nat), x.f3.length - i ≤ d → i ≤ x.f3.length → Ev (fun k => fencepostref10_Right.l1 k t (i : Int) A B mem ths x.f0 x.f1 x.f2 x.f3) true := by
  intro d
  induction d with
  | zero =>
    intro i h1 h2
    refine Ev.step (fun k => by rw [fencepostref10_Right.l1]) ?_
    simp only [if_neg (show ¬ (i : Int) < (x.f3.length : Int) by omega)]
    exact hq
  | succ d ih =>
    intro i h1 h2
    by_cases c : i < x.f3.length
    · have hw := hx (x.f3[i]) (List.getElem_mem c)
      have e : rd_T53 x.f3 (i : Int) = x.f3[i] := by unfold rd_T53; rw [Int.toNat_natCast, List.getD_eq_getElem?_getD, List.getElem?_eq_getElem c]; rfl
      refine Ev.step (fun k => by rw [fencepostref10_Right.l1]) ?_
      simp only [e, if_pos (show (i : Int) < (x.f3.length : Int) by omega), if_pos (show (0 : Int) ≤ (i : Int) by omega), if_neg (show ¬ (x.f3[i]).f0 < 0 by omega), if_neg (show ¬ (x.f3[i]).f0 ≥ (mem.length : Int) by omega), w64 (show -9223372036854775808 ≤ (i : Int) + 1 by omega) (by omega)]
      exact ih (i + 1) (by omega) (by omega)
    · refine Ev.step (fun k => by rw [fencepostref10_Right.l1]) ?_
      simp only [if_neg (show ¬ (i : Int) < (x.f3.length : Int) by omega)]
      exact hq
theorem right10_l0 (h : StOk A B mem ths) (hB : B.length ≤ 1000) : ∀ (d : Nat) (t : Nat), ths.length - t ≤ d → t ≤ ths.length → Ev (fun k => fencepostref10_Right.l0 k (t : Int) A B mem ths) true := by
  have hlt := h.lt
  intro d
  induction d with
  | zero =>
    intro t h1 h2
    refine Ev.step (fun k => by rw [fencepostref10_Right.l0]) ?_
    simp only [if_neg (show ¬ (t : Int) < (ths.length : Int) by omega)]
    exact Ev.now _
  | succ d ih =>
    intro t h1 h2
    by_cases c : t < ths.length
    · obtain ⟨x, hx⟩ : ∃ x, ths[t]? = some x := ⟨_, List.getElem?_eq_getElem c⟩
      have ho := h.th t x hx
      have := ho.lo
      have := ho.hi
      have hr := ho.regs
      have next := ih (t + 1) (by omega) (by omega)
      refine Ev.step (fun k => by rw [fencepostref10_Right.l0]) ?_
      simp only [rdT_nat hx, if_pos (show (t : Int) < (ths.length : Int) by omega), if_pos (show (0 : Int) ≤ (t : Int) by omega), if_pos (show (t : Int) < (B.length : Int) by omega), if_neg (show ¬ x.f0 < 0 by omega), if_neg (show ¬ x.f0 > ((rd_L3 B (t : Int)).length : Int) by omega), hr]
      refine Ev.step (fun k => by rw [fencepostref10_Right.j2]) ?_
      simp only [show (((4 : Nat) : Int) != 4) = false by decide, Bool.false_eq_true, if_false]
      exact right10_l1 x ho.locs ho.few (t : Int) (by rw [w64 (show -9223372036854775808 ≤ (t : Int) + 1 by omega) (by omega)]; exact next) x.f3.length 0 (by omega) (by omega)
    · refine Ev.step (fun k => by rw [fencepostref10_Right.l0]) ?_
      simp only [if_neg (show ¬ (t : Int) < (ths.length : Int) by omega)]
      exact Ev.now _
theorem right10_ev (h : StOk A B mem ths) (hB : B.length ≤ 1000) : Ev (fun k => fencepostref10_Right.f k A B mem ths) true := by
  have h1 := h.lm
  have h2 := h.lt
  unfold fencepostref10_Right.f
  simp only [if_pos (show (mem.length : Int) = (A.length : Int) by omega), show ((ths.length : Int) != (B.length : Int)) = false from bne_eq_false_iff_eq.2 (by omega)]
  refine Ev.step (fun k => by rw [fencepostref10_Right.j0]) ?_
  simp only [Bool.false_eq_true, if_false]
  exact right10_l0 h hB ths.length 0 (by omega) (by omega)
theorem takeF_ok {x : S39} {th : S45} {n : Int} (hJ : JumpOk th.f0 n x.f0 x.f4) (h0 : 0 ≤ th.f0) (h1 : th.f0 < n) : (takeF x mem th).1.length = mem.length ∧ th.f0 < (takeF x mem th).2.f0 ∧ (takeF x mem th).2.f0 ≤ n ∧ (takeF x mem th).2.f1.length = th.f1.length ∧ (takeF x mem th).2.f3 = th.f3 := by
  unfold JumpOk at hJ
  unfold takeF
  repeat' split
  all_goals (simp only [List.length_set]; refine ⟨trivial, ?_, ?_, trivial, trivial⟩ <;> first | omega | (have := hJ (by omega); omega))
theorem stateB_ok (hc : CodeOk 80 A B) (h : StOk A B mem ths) : stateB B mem ths = true := by
  have h1 := h.lm
  have h2 := h.lt
  have h3 := hc.locs
  have h4 := hc.few
  unfold stateB
  simp only [Bool.and_eq_true, decide_eq_true_eq, List.all_eq_true]
  refine ⟨by omega, by omega, h2, fun x hx => ?_, fun l hl => ?_⟩
  · obtain ⟨t, ht⟩ := List.getElem?_of_mem hx
    have ho := h.th t x ht
    have htl := (List.getElem?_eq_some_iff.1 ht).1
    have hr := (hc.rowN (t := t) (by omega)).1
    have := ho.hi
    have := ho.few
    exact ⟨ho.regs, by omega, ho.lo, by omega⟩
  · obtain ⟨t, ht⟩ := List.getElem?_of_mem hl
    have htl := (List.getElem?_eq_some_iff.1 ht).1
    have hr := (hc.rowN htl).1
    rw [rdL_nat ht] at hr
    omega
/-- What a step answers: no more than it had, or a thread has gone on. -/
theorem step_ok (hc : CodeOk 80 A B) (h : StOk A B mem ths) (a : Int) : sc_Step.f A B mem ths a = some (mem, ths, false) ∨
    ∃ (t : Nat) (x : S45) (s : S39), a = (t : Int) ∧ ths[t]? = some x ∧ x.f0 < ((rd_L3 B (t : Int)).length : Int) ∧ s = rd_T39 (rd_L3 B (t : Int)) x.f0 ∧ StepOk A.length x.f0 ((rd_L3 B (t : Int)).length : Int) s ∧ sc_Step.f A B mem ths a = some ((takeF s mem x).1, ths.set t (takeF s mem x).2, true) ∧ StOk A B (takeF s mem x).1 (ths.set t (takeF s mem x).2) ∧ x.f0 < (takeF s mem x).2.f0 ∧ (takeF s mem x).2.f0 ≤ ((rd_L3 B (t : Int)).length : Int) := by
  have h1 := h.lm
  have h2 := h.lt
  unfold sc_Step.f
  rw [if_pos (stateB_ok hc h)]
  by_cases c1 : a < 0 ∨ (ths.length : Int) ≤ a
  · rw [if_pos c1]; exact .inl rfl
  · rw [if_neg c1]
    obtain ⟨t, rfl⟩ : ∃ t : Nat, a = (t : Int) := ⟨a.toNat, by omega⟩
    have htl : t < ths.length := by omega
    obtain ⟨x, hx⟩ : ∃ x, ths[t]? = some x := ⟨_, List.getElem?_eq_getElem htl⟩
    rw [rdT_nat hx]
    have ho := h.th t x hx
    by_cases c2 : ((rd_L3 B (t : Int)).length : Int) ≤ x.f0
    · rw [if_pos c2]; exact .inl rfl
    · rw [if_neg c2]
      have hs := (hc.rowN (t := t) (by omega)).2 x.f0 ho.lo (by omega)
      have hB : stepB mem.length (rd_T39 (rd_L3 B (t : Int)) x.f0) = true := by
        unfold stepB
        rw [h1]
        generalize rd_T39 (rd_L3 B (t : Int)) x.f0 = s at hs
        have e1 := hs.op
        have e2 := hs.reg
        have e3 := hs.loc
        simp only [Bool.and_eq_true, decide_eq_true_eq, Bool.or_eq_true, Bool.not_eq_true', beq_iff_eq]
        refine ⟨e1, ⟨e2.1, by omega⟩, ?_⟩
        by_cases c3 : s.f0 = 2 ∨ s.f0 = 3 ∨ s.f0 = 4 ∨ s.f0 = 5
        · exact .inr (e3 c3)
        · left
          simp only [Bool.or_eq_false_iff, beq_eq_false_iff_ne, ne_eq]
          omega
      rw [if_pos hB]
      right
      obtain ⟨k1, k2, k3, k4, k5⟩ := takeF_ok (mem := mem) hs.tgt ho.lo (by omega)
      refine ⟨t, x, _, rfl, hx, by omega, rfl, hs, rfl, ⟨by rw [k1]; exact h1, by rw [List.length_set]; exact h2, fun t' x' hx' => ?_⟩, k2, k3⟩
      rw [k1]
      by_cases e : t' = t
      · subst e
        rw [List.getElem?_set_self htl] at hx'
        obtain rfl := Option.some.inj hx'
        exact ⟨by have := ho.lo; omega, k3, by rw [k4]; exact ho.regs, by rw [k5]; exact ho.few, by rw [k5]; exact ho.locs⟩
      · rw [List.getElem?_set_ne (fun e' => e e'.symm)] at hx'
        exact h.th t' x' hx'
end
end Go.Proofs.Ytdliojcpnkggnaa.Print
