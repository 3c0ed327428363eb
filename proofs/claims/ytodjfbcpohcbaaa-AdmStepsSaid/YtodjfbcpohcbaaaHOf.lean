/- ref08's Of: plain Lean. -/
import Derived.Test.YtodjfbcpohcbaaaPrint4
import Derived.Test.YtodjfbcpohcbaaaHAdmOk
namespace Go.Proofs.Ytodjfbcpohcbaaa.Print
open Go.RowKit Go.Maps Go.Proofs.YtodjfbcpohcbaaaW.PrintWords Go.Proofs.YtodjfbcpohcbaaaW.PrintLast Go.Proofs.YtodjfbcpohcbaaaW.PrintMore
set_option linter.unusedVariables false
set_option linter.unusedSimpArgs false

theorem of_l0 (A : List Int) (B : List (List S49)) (htot : tot B ≤ 1000000) (hB : B.length ≤ 1000) (t j : Nat) (ht : t < B.length) (hj : j < B[t].length) : ∀ (d i : Nat), t - i ≤ d → i ≤ t →
    Ev (fun k => fencepostref08_Of.l0 k ((tot (B.take t) : Int) + (j : Int)) (tot (B.take i) : Int) (i : Int) A B) ((t : Int), (j : Int), true) := by
  have h3 := tot_take_le B (t + 1)
  rw [tot_take_succ B ht] at h3
  have done : Ev (fun k => fencepostref08_Of.l0 k ((tot (B.take t) : Int) + (j : Int)) (tot (B.take t) : Int) (t : Int) A B) ((t : Int), (j : Int), true) := by
    have p1 : (t : Int) < (B.length : Int) := by omega
    have p2 : (0 : Int) ≤ (t : Int) := by omega
    have p3 : (tot (B.take t) : Int) + (j : Int) ≥ (tot (B.take t) : Int) := by omega
    have p4 : wrap64 ((tot (B.take t) : Int) + (j : Int) - (tot (B.take t) : Int)) = (j : Int) := by unfold wrap64; omega
    have p5 : (j : Int) < ((rd_L2 B (t : Int)).length : Int) := by rw [rdL2_nat B t ht]; omega
    refine Ev.step (fun k => by rw [fencepostref08_Of.l0]) ?_
    simp only [if_pos p1, if_pos p2, if_pos p3, p4, if_pos p5]
    exact Ev.now _
  intro d
  induction d with
  | zero =>
    intro i h1 h2
    obtain rfl : i = t := by omega
    exact done
  | succ d ih =>
    intro i h1 h2
    by_cases c : i < t
    · have hi : i < B.length := by omega
      have h4 := tot_take_mono B (show i + 1 ≤ t by omega)
      rw [tot_take_succ B hi] at h4
      have ha := ih (i + 1) (by omega) (by omega)
      have p1 : (i : Int) < (B.length : Int) := by omega
      have p2 : (0 : Int) ≤ (i : Int) := by omega
      have p3 : (tot (B.take t) : Int) + (j : Int) ≥ (tot (B.take i) : Int) := by omega
      have p4 : wrap64 ((tot (B.take t) : Int) + (j : Int) - (tot (B.take i) : Int)) = (tot (B.take t) : Int) + (j : Int) - (tot (B.take i) : Int) := w64 (by omega) (by omega)
      have p5 : ¬ (tot (B.take t) : Int) + (j : Int) - (tot (B.take i) : Int) < (B[i].length : Int) := by omega
      have p6 : wrap64 ((tot (B.take i) : Int) + (B[i].length : Int)) = (tot (B.take (i + 1)) : Int) := by rw [tot_take_succ B hi, w64 (by omega) (by omega)]; omega
      have p7 := wcast i (by omega)
      refine Ev.step (fun k => by rw [fencepostref08_Of.l0]) ?_
      simp only [rdL2_nat B i hi, if_pos p1, if_pos p2, if_pos p3, p4, if_neg p5, p6, p7]
      exact ha
    · obtain rfl : i = t := by omega
      exact done
theorem of_ev (A : List Int) (B : List (List S49)) (htot : tot B ≤ 1000000) (hB : B.length ≤ 1000) (t j : Nat) (ht : t < B.length) (hj : j < B[t].length) :
    Ev (fun k => fencepostref08_Of.f k A B ((tot (B.take t) : Int) + (j : Int))) ((t : Int), (j : Int), true) := by
  unfold fencepostref08_Of.f
  have := of_l0 A B htot hB t j ht hj t 0 (by omega) (by omega)
  simpa [tot] using this
end Go.Proofs.Ytodjfbcpohcbaaa.Print
