/- Admissible slots rise, are those of steps that are neither fences nor swaps, behind a step that writes; a first step's is none (law AdmSteps): what the printed functions answer. -/
import Derived.Test.YtodjfbcpohcbaaaPrint5
import Derived.Test.YtodjfbcpohcbaaaHOf
import Derived.Test.YtodjfbcpohcbaaaHHead19
import Derived.Test.YtodjfbcpohcbaaaOpens
namespace Go.Proofs.Ytodjfbcpohcbaaa.Print
open Go.RowKit Go.Maps Go.Proofs.YtodjfbcpohcbaaaW.PrintWords Go.Proofs.YtodjfbcpohcbaaaW.PrintLast Go.Proofs.YtodjfbcpohcbaaaW.PrintMore
set_option linter.unusedVariables false
set_option linter.unusedSimpArgs false

theorem swrites_f (s0 s1 s2 s3 s4 : Int) : fencepostref19_Writes.f s0 s1 s2 s3 s4 = some (s0 == 3 || s0 == 4) := by
  unfold fencepostref19_Writes.f
  by_cases c : s0 = 3
  · simp [c]
  · simp [c]
theorem srd_nat (g : List Int) (i : Nat) (h : i < g.length) : rd g (i : Int) = g[i] := by
  unfold rd
  rw [List.getD_eq_getElem?_getD, show ((i : Int)).toNat = i by omega, List.getElem?_eq_getElem h]; rfl
def wrAt (l : List S49) (k : Nat) : Bool := (rd_T49 l (k : Int)).f0 == 3 || (rd_T49 l (k : Int)).f0 == 4
theorem steps_l1 (L : List Int) (i : Nat) (A : List Int) (B : List (List S49)) (t j : Nat) (ht : t < B.length) (l : List S49) (hl : l = B[t]) (hj : j < l.length) (hlen : l.length ≤ 80) (f : Int) (h6 : f ≠ 6) (h5 : f ≠ 5) (hw : (List.range j).any (wrAt l) = true) (r : Bool)
    (hr : Ev (fun k => fencepostlaw19_AdmSteps.l0 k true L (wrap64 ((i : Int) + 1)) A B) r) : ∀ (d a : Nat), j - a ≤ d → a ≤ j → Ev (fun k => fencepostlaw19_AdmSteps.l1 k true L (i : Int) (t : Int) (j : Int) f ((List.range a).any (wrAt l)) (a : Int) A B) r := by
  have e0 : rd_L2 B (t : Int) = l := (rdL2_nat B t ht).trans hl.symm
  have done : Ev (fun k => fencepostlaw19_AdmSteps.l1 k true L (i : Int) (t : Int) (j : Int) f ((List.range j).any (wrAt l)) (j : Int) A B) r := by
    refine Ev.step (fun k => by rw [fencepostlaw19_AdmSteps.l1]) ?_
    simp only [if_neg (show ¬ (j : Int) < (j : Int) by omega), if_neg h6, if_neg h5, hw, if_true]
    exact hr
  intro d
  induction d with
  | zero =>
    intro a h1 h2
    obtain rfl : a = j := by omega
    exact done
  | succ d ih =>
    intro a h1 h2
    by_cases c : a < j
    · have ha := ih (a + 1) (by omega) (by omega)
      have p1 : (a : Int) < (j : Int) := by omega
      have p2 : (0 : Int) ≤ (t : Int) := by omega
      have p3 : (t : Int) < (B.length : Int) := by omega
      have p4 : (0 : Int) ≤ (a : Int) := by omega
      have p5 : (a : Int) < (l.length : Int) := by omega
      have e2 := wcast a (by omega)
      rw [List.range_succ, List.any_append, List.any_cons, List.any_nil, Bool.or_false] at ha
      refine Ev.step (fun k => by rw [fencepostlaw19_AdmSteps.l1]) ?_
      simp only [e0, if_pos p1, if_pos p2, if_pos p3, if_pos p4, if_pos p5, swrites_f, Option.bind_some, e2]
      cases hb : (List.range a).any (wrAt l) with
      | true => rw [hb, Bool.true_or] at ha; simp only [if_true]; exact ha
      | false => rw [hb, Bool.false_or] at ha; simp only [Bool.false_eq_true, if_false]; exact ha
    · obtain rfl : a = j := by omega
      exact done
theorem steps_l0 {m : Nat} (hm : m ≤ 80) (A : List Int) (B : List (List S49)) {A0 : List Int} (hc : CodeOk m A0 B) (L : List Int) (hL : L = admFrom 0 B) : ∀ (d i : Nat), L.length - i ≤ d → i ≤ L.length → Ev (fun k => fencepostlaw19_AdmSteps.l0 k true L (i : Int) A B) true := by
  have htot := hc.tot
  have hfew := hc.few
  have hLl : L.length ≤ 1000 := by have := admFrom_length B 0; rw [← hL] at this; omega
  intro d
  induction d with
  | zero =>
    intro i h1 h2
    refine Ev.step (fun k => by rw [fencepostlaw19_AdmSteps.l0]) ?_
    simp only [if_neg (show ¬ (i : Int) < (L.length : Int) by omega)]
    exact Ev.now _
  | succ d ih =>
    intro i h1 h2
    by_cases c : i < L.length
    · have ha := ih (i + 1) (by omega) (by omega)
      have hmem : L[i] ∈ admFrom 0 B := by rw [← hL]; exact List.getElem_mem c
      obtain ⟨t, j, ht, hj, hadm, hs⟩ := (admFrom_mem B 0 L[i]).1 hmem
      rw [Int.zero_add] at hs
      have hlm : B[t] ∈ B := List.getElem_mem ht
      have hlen := hc.len _ hlm
      unfold admAt at hadm
      rw [Bool.and_eq_true] at hadm
      obtain ⟨hah, hnd⟩ := hadm
      unfold aheadF at hah
      rw [List.any_eq_true] at hah
      obtain ⟨w, hw1, hw2⟩ := hah
      rw [List.mem_range] at hw1
      have hj0 : (j : Int) ≠ 0 := by omega
      have hwr : (List.range j).any (wrAt B[t]) = true := by
        rw [List.any_eq_true]
        refine ⟨w, by simpa using hw1, ?_⟩
        unfold aheadAt at hw2
        simp only [Bool.and_eq_true] at hw2
        exact hw2.1.2
      have hdr : (rd_T49 B[t] (j : Int)).f0 ≠ 6 ∧ (rd_T49 B[t] (j : Int)).f0 ≠ 5 := by
        unfold noDrain at hnd
        simpa using hnd
      have e0 : rd_L2 B (t : Int) = B[t] := rdL2_nat B t ht
      have p1 : (i : Int) < (L.length : Int) := by omega
      have p2 : (0 : Int) ≤ (i : Int) := by omega
      have p3 : (0 : Int) ≤ (t : Int) := by omega
      have p4 : (t : Int) < (B.length : Int) := by omega
      have p5 : (0 : Int) ≤ (j : Int) := by omega
      have p6 : (j : Int) < (B[t].length : Int) := by omega
      have e1 : rd L (i : Int) = (tot (B.take t) : Int) + (j : Int) := (srd_nat L i c).trans hs
      have hj1 : Ev (fun k => fencepostlaw19_AdmSteps.j1 k true L (i : Int) (t : Int) (j : Int) false A B) true := by
        refine Ev.step (fun k => by rw [fencepostlaw19_AdmSteps.j1]) ?_
        simp only [Bool.false_eq_true, if_false, e0, if_pos p3, if_pos p4, if_pos p5, if_pos p6]
        refine steps_l1 L i A B t j ht B[t] rfl hj (by omega) _ hdr.1 hdr.2 hwr true ?_ j 0 (by omega) (by omega)
        rw [wcast i (by omega)]
        exact ha
      refine Ev.step (fun k => by rw [fencepostlaw19_AdmSteps.l0]) ?_
      simp only [if_pos p1, if_pos p2]
      rw [e1]
      refine Ev.bind (of_ev A B (by omega) (by omega) t j ht hj) ?_
      simp only [if_true, if_neg hj0]
      by_cases ci : (i : Int) > 0
      · have q1 : wrap64 ((i : Int) - 1) = ((i - 1 : Nat) : Int) := by unfold wrap64; omega
        have q2 : (0 : Int) ≤ ((i - 1 : Nat) : Int) := by omega
        have q3 : ((i - 1 : Nat) : Int) < (L.length : Int) := by omega
        have hlt : L[i - 1] < L[i] := by
          have hs := admFrom_sorted B 0
          rw [← hL] at hs
          exact List.pairwise_iff_getElem.1 hs (i - 1) i (by omega) c (by omega)
        have q4 : ¬ (tot (B.take t) : Int) + (j : Int) ≤ rd L ((i - 1 : Nat) : Int) := by
          rw [srd_nat L (i - 1) (by omega), ← hs]; omega
        simp only [if_pos ci, q1, if_pos q2, if_pos q3, decide_eq_false q4]
        exact hj1
      · simp only [if_neg ci]
        exact hj1
    · refine Ev.step (fun k => by rw [fencepostlaw19_AdmSteps.l0]) ?_
      simp only [if_neg (show ¬ (i : Int) < (L.length : Int) by omega)]
      exact Ev.now _
end Go.Proofs.Ytodjfbcpohcbaaa.Print
namespace Go.Proofs.Ytodjfbcpohcbaaa.Pure
open Go.RowKit Go.Maps Go.Proofs.YtodjfbcpohcbaaaW.PrintWords Go.Proofs.YtodjfbcpohcbaaaW.PrintLast Go.Proofs.YtodjfbcpohcbaaaW.PrintMore Go.Proofs.Ytodjfbcpohcbaaa.Print
theorem AdmSteps (x0 : S25) (g0 : ok25 x0) : ∃ k, fencepostlaw19_AdmSteps.f k x0.f0 x0.f1 = some true := by
  refine Ev.rounds (r := true) ?_
  unfold fencepostlaw19_AdmSteps.f
  refine Ev.bind head19 ?_
  obtain ⟨g, hg, hok⟩ := great_ev x0.f0 x0.f1
  refine Ev.bind hg ?_
  cases g with
  | true => simp only [if_true]; exact Ev.now _
  | false =>
    have hc := hok rfl
    simp only [Bool.false_eq_true, if_false, slots_f (by omega) hc x0.f0, Option.bind_some]
    have := steps_l0 (by omega) x0.f0 x0.f1 hc (admFrom 0 x0.f1) rfl (admFrom 0 x0.f1).length 0 (by omega) (by omega)
    simpa using this
end Go.Proofs.Ytodjfbcpohcbaaa.Pure
