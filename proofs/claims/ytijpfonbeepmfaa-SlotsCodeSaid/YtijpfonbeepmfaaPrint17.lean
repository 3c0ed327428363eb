-- Written by ownprint.py (this session's) with the kit's print.py: functions, contracts, rows; Lean checks it.
import Derived.Test.YtijpfonbeepmfaaPrint0
import Derived.Test.YtijpfonbeepmfaaHSq
namespace Go.Proofs.Ytijpfonbeepmfaa.Print
open Go.RowKit Go.Proofs.YtijpfonbeepmfaaW.PrintWords Go.Proofs.YtijpfonbeepmfaaW.PrintLast Go.Proofs.YtijpfonbeepmfaaW.PrintMore
attribute [local go_sem] max2_int min2_int max_two min_two max_three min_three max_four min_four   -- for this text's walks alone
set_option linter.unusedVariables false
set_option linter.unusedSimpArgs false
def fencepostref07_ahead.l0 : Nat → List (S60) → Int → Int → Option (Int)
 | 0, _, _, _ => none
 | k + 1, x0, x3, x4 => if x4 < (x0.length : Int) then (if 0 ≤ x4 then (if ((rd_T60 x0 x4).f0) = 11 then (fencepostref07_ahead.l0 k x0 x3 (wrap64 (x4 + 1))) else (fencepostref07_ahead.l0 k x0 (wrap64 (x3 + 1)) (wrap64 (x4 + 1)))) else (none)) else (some x3)
def fencepostref07_ahead.f (k : Nat) (l0 : List (S60)) : Option (Int) := fencepostref07_ahead.l0 k l0 0 0
set_option maxHeartbeats 8000000 in
set_option maxRecDepth 100000 in
theorem fencepostref07_ahead.calls (k : Nat) (A0 : Option Addr) (c0 : Nat) (l0 : List (S60)) (r : Int) (w : World) (hr0 : Kd.C k60 w A0 l0.length l0) (hc0 : l0.length ≤ c0) (h : fencepostref07_ahead.f k l0 = some r) :
 Calls Try.prog 59 #[.slice A0 l0.length c0] w fun e w' => e = .returned (.int .i64 r) ∧ Drawn0 w w' := by
 have HR0 := Aside0.mk hr0
 have HC0 := Aside0.mk hc0
 clear hr0 hc0
 have H : (fencepostref07_ahead.l0 k l0 0 0) = some r := h
 clear h
 have H' := Aside0.mk H
 clear H
 go_enter Try.func59, Try.ntmps59
 go_wp2
 go_loopg [3, 4] k (fun kq v3 v4 w' => ∃ (x3_1 : Int) (x4_1 : Int), v3 = .int .i64 x3_1 ∧ v4 = .int .i64 x4_1 ∧ Aside0 (fencepostref07_ahead.l0 kq l0 x3_1 x4_1 = some r) ∧ Aside0 (kq ≤ k) ∧ Drawn0 w w')
 case atStart => exact ⟨(0), (0), rf_, rf_, H', ⟨Nat.le_refl _⟩, by repeat (first | exact Drawn0.refl _ | apply Drawn0.step)⟩
 clear H'
 obtain ⟨x3_1, x4_1, rfl, rfl, HA, HK1, ⟨m1, rfl⟩⟩ := hrel
 cases gk with
 | zero => exact absurd HA.out (by simp [fencepostref07_ahead.l0])
 | succ k1 => ?_
 have H := HA.out
 clear HA
 simp only [fencepostref07_ahead.l0] at H
 by_cases c2 : x4_1 < (l0.length : Int)
 rotate_left
 ·rw [if_neg c2] at H
  have c2b0 : decide (x4_1 < (l0.length : Int)) = false := decide_eq_false c2
  clear c2
  obtain rfl := Option.some.inj H
  go_wp2
  go_ret
  exact ⟨by first | rfl | (simp; done) | (simp [*]; done), by repeat (first | exact Drawn0.refl _ | apply Drawn0.step)⟩
 rw [if_pos c2] at H
 have c2b0 : decide (x4_1 < (l0.length : Int)) = true := decide_eq_true c2
 clear c2
 by_cases c3 : 0 ≤ x4_1
 rotate_left
 ·rw [if_neg c3] at H
  exact absurd H (by simp)
 rw [if_pos c3] at H
 have c3b0 : decide (0 ≤ x4_1) = true := decide_eq_true c3
 clear c3
 by_cases c4 : ((rd_T60 l0 x4_1).f0) = 11
 ·rw [if_pos c4] at H
  have c4b0 : (((rd_T60 l0 x4_1).f0) == 11) = true := beq_iff_eq.mpr c4
  have c4b1 : (((rd_T60 l0 x4_1).f0) != 11) = false := bne_eq_false_iff_eq.mpr c4
  clear c4
  have H' := Aside0.mk H
  clear H
  have p254 : 0 ≤ (x4_1 : Int) := of_decide_eq_true as_
  have q254 : x4_1 < (l0.length : Int) := of_decide_eq_true as_
  obtain ⟨ad254, e254, hx254_0, hx254_1, hx254_2, hx254_3, hx254_4⟩ := at_T60 HR0.out x4_1 p254 q254
  cases e254
  replace p254 := eq_true p254
  replace q254 := eq_true q254
  go_wp2
  go_roundg k1
  case measure => have := HK1.out; omega
  case rel => exact ⟨(x3_1), (wrap64 (x4_1 + 1)), rf_, rf_, H', ⟨by have := HK1.out; omega⟩, by repeat (first | exact Drawn0.refl _ | apply Drawn0.step)⟩
 rw [if_neg c4] at H
 have c4b0 : (((rd_T60 l0 x4_1).f0) == 11) = false := beq_eq_false_iff_ne.mpr c4
 have c4b1 : (((rd_T60 l0 x4_1).f0) != 11) = true := bne_iff_ne.mpr c4
 have H' := Aside0.mk H
 clear H
 have p254 : 0 ≤ (x4_1 : Int) := of_decide_eq_true as_
 have q254 : x4_1 < (l0.length : Int) := of_decide_eq_true as_
 obtain ⟨ad254, e254, hx254_0, hx254_1, hx254_2, hx254_3, hx254_4⟩ := at_T60 HR0.out x4_1 p254 q254
 cases e254
 replace p254 := eq_true p254
 replace q254 := eq_true q254
 go_wp2
 go_roundg k1
 case measure => have := HK1.out; omega
 case rel => exact ⟨(wrap64 (x3_1 + 1)), (wrap64 (x4_1 + 1)), rf_, rf_, H', ⟨by have := HK1.out; omega⟩, by repeat (first | exact Drawn0.refl _ | apply Drawn0.step)⟩
end Go.Proofs.Ytijpfonbeepmfaa.Print
