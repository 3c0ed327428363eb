/- What ref09's printed functions answer: plain Lean. -/
import Derived.Test.YtpaifpnnjflnfaaHBufPure
import Derived.Test.YtpaifpnnjflnfaaPrint3
import Derived.Test.YtpaifpnnjflnfaaPrint2
namespace Go.Proofs.Ytpaifpnnjflnfaa.Print
open Go.RowKit Go.Proofs.YtpaifpnnjflnfaaW.PrintWords Go.Proofs.YtpaifpnnjflnfaaW.PrintLast Go.Proofs.YtpaifpnnjflnfaaW.PrintMore
set_option linter.unusedVariables false
set_option linter.unusedSimpArgs false

theorem rlast_l0 (l : List S51) (hl : l.length ≤ 1000) (a : Int) : ∀ n : Nat, n ≤ l.length → Ev (fun k => fencepostref09_Last.l0 k l a ((n : Int) - 1)) (lastF (l.take n) a) := by
  intro n
  induction n with
  | zero =>
    intro h
    refine Ev.step (fun k => by rw [fencepostref09_Last.l0]) ?_
    simp only [if_neg (show ¬ (((0 : Nat) : Int) - 1) ≥ 0 by omega)]
    exact Ev.now _
  | succ n ih =>
    intro h
    refine Ev.step (fun k => by rw [fencepostref09_Last.l0]) ?_
    have e1 : ((n + 1 : Nat) : Int) - 1 = (n : Int) := by omega
    have e2 : rd_T51 l (n : Int) = l[n]'(by omega) := by
      unfold rd_T51
      rw [List.getD_eq_getElem?_getD, show ((n : Int)).toNat = n by omega, List.getElem?_eq_getElem (by omega)]; rfl
    have e3 : l.take (n + 1) = l.take n ++ [l[n]'(by omega)] := by rw [List.take_add_one, List.getElem?_eq_getElem (by omega)]; rfl
    rw [e1, e3, lastF_snoc]
    simp only [if_pos (show (n : Int) ≥ 0 by omega), if_pos (show 0 ≤ (n : Int) by omega), if_pos (show (n : Int) < (l.length : Int) by omega), e2]
    by_cases c : (l[n]'(by omega)).f0 = a
    · simp only [if_pos c]; exact Ev.now _
    · simp only [if_neg c]
      rw [wr64 (by omega) (by omega)]
      exact ih (by omega)
theorem rlast_ev (l : List S51) (hl : l.length ≤ 1000) (a : Int) : Ev (fun k => fencepostref09_Last.f k l a) (lastF l a) := by
  unfold fencepostref09_Last.f
  rw [wr64 (by omega) (by omega)]
  have := rlast_l0 l hl a l.length (Nat.le_refl _)
  rwa [List.take_length] at this
theorem rview_ev (l : List S51) (hl : l.length ≤ 1000) (m : List Int) (a : Int) : Ev (fun k => fencepostref09_View.f k l m a) (viewF l m a) := by
  unfold fencepostref09_View.f
  refine Ev.bind (rlast_ev l hl a) ?_
  rw [view_tail]
  exact Ev.now _
theorem rpush_f {l : List S51} (hl : l.length ≤ 1000) (a b : Int) : fencepostref09_Push.f l a b = some (l ++ [⟨a, b⟩]) := by
  unfold fencepostref09_Push.f
  simp only [Option.bind_some, List.nil_append, List.length_nil, List.length_singleton, if_pos (show 0 + l.length < 8796093022208 by omega), if_pos (show l.length + 1 < 8796093022208 by omega)]

theorem rdrain_f {l : List S51} (hl : l.length ≤ 1000) {m : List Int} (hm : m.length ≤ 1000) : fencepostref09_Drain.f l m = some (drainF l m) := by
  unfold fencepostref09_Drain.f
  simp only [Option.bind_some, List.nil_append, List.length_nil, if_pos (show 0 + m.length < 17592186044416 by omega), if_pos (show 0 + l.length < 8796093022208 by omega)]
  cases l with
  | nil => rfl
  | cons x t =>
    have e0 : rd_T51 (x :: t) 0 = x := rfl
    have hl' : t.length + 1 ≤ 1000 := hl
    simp only [e0, List.length_cons, if_neg (show ¬ ((t.length + 1 : Nat) : Int) = 0 by omega), if_pos (show 0 < ((t.length + 1 : Nat) : Int) by omega)]
    unfold drainF
    by_cases c1 : x.f0 < 0
    · simp only [if_pos c1, if_pos (show x.f0 < 0 ∨ x.f0 ≥ (m.length : Int) from .inl c1)]
    · by_cases c2 : x.f0 ≥ (m.length : Int)
      · simp only [if_neg c1, if_pos c2, if_pos (show x.f0 < 0 ∨ x.f0 ≥ (m.length : Int) from .inr c2)]
      · simp only [if_neg c1, if_neg c2, if_neg (show ¬ (x.f0 < 0 ∨ x.f0 ≥ (m.length : Int)) by omega), if_pos (show 0 ≤ x.f0 by omega), if_pos (show x.f0 < (m.length : Int) by omega), if_pos (show 1 ≤ ((t.length + 1 : Nat) : Int) by omega), List.drop_succ_cons, List.drop_zero, if_pos (show 0 + t.length < 8796093022208 by omega)]
end Go.Proofs.Ytpaifpnnjflnfaa.Print
