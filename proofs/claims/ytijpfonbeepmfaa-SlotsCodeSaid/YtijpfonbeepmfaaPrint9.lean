-- Written by ownprint.py (this session's) with the kit's print.py: functions, contracts, rows; Lean checks it.
import Derived.Test.YtijpfonbeepmfaaPrint0
import Derived.Test.YtijpfonbeepmfaaHSq
import Derived.Test.YtijpfonbeepmfaaHRegName
namespace Go.Proofs.Ytijpfonbeepmfaa.Print
open Go.RowKit Go.Proofs.YtijpfonbeepmfaaW.PrintWords Go.Proofs.YtijpfonbeepmfaaW.PrintLast Go.Proofs.YtijpfonbeepmfaaW.PrintMore
attribute [local go_sem] max2_int min2_int max_two min_two max_three min_three max_four min_four   -- for this text's walks alone
set_option linter.unusedVariables false
set_option linter.unusedSimpArgs false
def fencepostref02_Reg.l0 : Nat → ByteArray → Int → Option (Int)
 | 0, _, _ => none
 | k + 1, x0, x3 => if x3 < 4 then ((fencepostref02_RegName.f x3).bind fun t153 => (if t153.toList = x0.toList then (some x3) else (fencepostref02_Reg.l0 k x0 (wrap64 (x3 + 1))))) else (some (-1))
def fencepostref02_Reg.f (k : Nat) (a0 : ByteArray) : Option (Int) := fencepostref02_Reg.l0 k a0 0
set_option maxHeartbeats 8000000 in
set_option maxRecDepth 100000 in
theorem fencepostref02_Reg.calls (k : Nat) (a0 : ByteArray) (r : Int) (w : World) (h : fencepostref02_Reg.f k a0 = some r) :
 Calls Try.prog 57 #[.string a0] w fun e w' => e = .returned (.int .i64 r) ∧ Below w.heap.size w w' := by
 have HB := Aside0.mk (Below.refl w.heap.size w)
 have H : (fencepostref02_Reg.l0 k a0 0) = some r := h
 clear h
 have H' := Aside0.mk H
 clear H
 go_enter Try.func57, Try.ntmps57
 go_wp2
 go_loopg [3] k (fun kq v3 w' => ∃ (x3_1 : Int), v3 = .int .i64 x3_1 ∧ Aside0 (fencepostref02_Reg.l0 kq a0 x3_1 = some r) ∧ Aside0 (kq ≤ k) ∧ Aside0 (Below w.heap.size w w'))
 case atStart => exact ⟨(0), rf_, H', ⟨Nat.le_refl _⟩, ⟨hb_ HB.out⟩⟩
 clear H'
 obtain ⟨x3_1, rfl, HA, HK1, HB⟩ := hrel
 cases gk with
 | zero => exact absurd HA.out (by simp [fencepostref02_Reg.l0])
 | succ k1 => ?_
 have H := HA.out
 clear HA
 simp only [fencepostref02_Reg.l0] at H
 by_cases c2 : x3_1 < 4
 rotate_left
 ·rw [if_neg c2] at H
  have c2b0 : decide (x3_1 < 4) = false := decide_eq_false c2
  clear c2
  obtain rfl := Option.some.inj H
  go_wp2
  go_ret
  exact ⟨by first | rfl | (simp [errW_none, errW_some] <;> rfl) | (simp [*, errW_none, errW_some] <;> rfl), hb_ HB.out⟩
 rw [if_pos c2] at H
 have c2b0 : decide (x3_1 < 4) = true := decide_eq_true c2
 clear c2
 replace H := Option.bind_eq_some_iff.mp H
 obtain ⟨t153, A30, H⟩ := H
 replace H : (if t153.toList = a0.toList then (some x3_1) else (fencepostref02_Reg.l0 k1 a0 (wrap64 (x3_1 + 1)))) = some r := H
 have A3 := Aside0.mk A30
 clear A30
 by_cases c4 : t153.toList = a0.toList
 ·rw [if_pos c4] at H
  have c4b0 : (t153.toList == a0.toList) = true := beq_iff_eq.mpr c4
  have c4b1 : (t153.toList != a0.toList) = false := bne_eq_false_iff_eq.mpr c4
  clear c4
  obtain rfl := Option.some.inj H
  go_wp2_with (first | ((with_reducible refine gate_callee (f := 65) rfl ?_); refine goesL_ (some 9) rfl rfl Try.func65 (by kernel_rfl) rfl #[.int .i64 x3_1] rfl ar_ ?_; (with_reducible refine (fencepostref02_RegName.calls x3_1 t153 _ A3.out).mono ?_); rintro e w5 ⟨rfl, hb⟩; refine ⟨_, rfl, ?_⟩; have n0_ := Aside0.mk (below_step (hb_ HB.out) hb); clear HB; have HB := n0_; clear n0_; (try clear hb); (try clear hb2); (try clear hk); (try clear hi)))
  go_ret
  exact ⟨by first | rfl | (simp [errW_none, errW_some] <;> rfl) | (simp [*, errW_none, errW_some] <;> rfl), hb_ HB.out⟩
 rw [if_neg c4] at H
 have c4b0 : (t153.toList == a0.toList) = false := beq_eq_false_iff_ne.mpr c4
 have c4b1 : (t153.toList != a0.toList) = true := bne_iff_ne.mpr c4
 have H' := Aside0.mk H
 clear H
 go_wp2_with (first | ((with_reducible refine gate_callee (f := 65) rfl ?_); refine goesL_ (some 9) rfl rfl Try.func65 (by kernel_rfl) rfl #[.int .i64 x3_1] rfl ar_ ?_; (with_reducible refine (fencepostref02_RegName.calls x3_1 t153 _ A3.out).mono ?_); rintro e w6 ⟨rfl, hb⟩; refine ⟨_, rfl, ?_⟩; have n0_ := Aside0.mk (below_step (hb_ HB.out) hb); clear HB; have HB := n0_; clear n0_; (try clear hb); (try clear hb2); (try clear hk); (try clear hi)))
 go_roundg k1
 case measure => have := HK1.out; omega
 case rel => exact ⟨(wrap64 (x3_1 + 1)), rf_, H', ⟨by have := HK1.out; omega⟩, ⟨hb_ HB.out⟩⟩
def fencepostref02_Key.f (a0 : ByteArray) : Option (Bool) := if a0.toList = ([120, 56, 54] : List UInt8) then (some true) else (if a0.toList = ([105, 110, 105, 116] : List UInt8) then (some true) else (if a0.toList = ([116, 104, 114, 101, 97, 100] : List UInt8) then (some true) else (if a0.toList = ([109, 111, 118] : List UInt8) then (some true) else (if a0.toList = ([120, 99, 104, 103] : List UInt8) then (some true) else (if a0.toList = ([109, 102, 101, 110, 99, 101] : List UInt8) then (some true) else (if a0.toList = ([99, 109, 112] : List UInt8) then (some true) else (if a0.toList = ([106, 109, 112] : List UInt8) then (some true) else (if a0.toList = ([106, 101] : List UInt8) then (some true) else (if a0.toList = ([106, 110, 101] : List UInt8) then (some true) else (if a0.toList = ([101, 120, 105, 115, 116, 115] : List UInt8) then (some true) else (some (a0.toList == ([102, 111, 114, 97, 108, 108] : List UInt8)))))))))))))
set_option maxHeartbeats 8000000 in
set_option maxRecDepth 100000 in
theorem fencepostref02_Key.calls (a0 : ByteArray) (r : Bool) (w : World) (h : fencepostref02_Key.f a0 = some r) :
 Calls Try.prog 66 #[.string a0] w fun e w' => e = .returned (.bool r) ∧ Drawn0 w w' := by
 have H : (if a0.toList = ([120, 56, 54] : List UInt8) then (some true) else (if a0.toList = ([105, 110, 105, 116] : List UInt8) then (some true) else (if a0.toList = ([116, 104, 114, 101, 97, 100] : List UInt8) then (some true) else (if a0.toList = ([109, 111, 118] : List UInt8) then (some true) else (if a0.toList = ([120, 99, 104, 103] : List UInt8) then (some true) else (if a0.toList = ([109, 102, 101, 110, 99, 101] : List UInt8) then (some true) else (if a0.toList = ([99, 109, 112] : List UInt8) then (some true) else (if a0.toList = ([106, 109, 112] : List UInt8) then (some true) else (if a0.toList = ([106, 101] : List UInt8) then (some true) else (if a0.toList = ([106, 110, 101] : List UInt8) then (some true) else (if a0.toList = ([101, 120, 105, 115, 116, 115] : List UInt8) then (some true) else (some (a0.toList == ([102, 111, 114, 97, 108, 108] : List UInt8)))))))))))))) = some r := h
 clear h
 by_cases c2 : a0.toList = ([120, 56, 54] : List UInt8)
 ·rw [if_pos c2] at H
  have c2b0 : (a0.toList == ([120, 56, 54] : List UInt8)) = true := beq_iff_eq.mpr c2
  have c2b1 : (a0.toList != ([120, 56, 54] : List UInt8)) = false := bne_eq_false_iff_eq.mpr c2
  clear c2
  obtain rfl := Option.some.inj H
  go_enter Try.func66, Try.ntmps66
  go_wp2
  go_ret
  exact ⟨by first | rfl | (simp; done) | (simp [*]; done), by repeat (first | exact Drawn0.refl _ | apply Drawn0.step)⟩
 rw [if_neg c2] at H
 have c2b0 : (a0.toList == ([120, 56, 54] : List UInt8)) = false := beq_eq_false_iff_ne.mpr c2
 have c2b1 : (a0.toList != ([120, 56, 54] : List UInt8)) = true := bne_iff_ne.mpr c2
 by_cases c3 : a0.toList = ([105, 110, 105, 116] : List UInt8)
 ·rw [if_pos c3] at H
  have c3b0 : (a0.toList == ([105, 110, 105, 116] : List UInt8)) = true := beq_iff_eq.mpr c3
  have c3b1 : (a0.toList != ([105, 110, 105, 116] : List UInt8)) = false := bne_eq_false_iff_eq.mpr c3
  clear c3
  obtain rfl := Option.some.inj H
  go_enter Try.func66, Try.ntmps66
  go_wp2
  go_ret
  exact ⟨by first | rfl | (simp; done) | (simp [*]; done), by repeat (first | exact Drawn0.refl _ | apply Drawn0.step)⟩
 rw [if_neg c3] at H
 have c3b0 : (a0.toList == ([105, 110, 105, 116] : List UInt8)) = false := beq_eq_false_iff_ne.mpr c3
 have c3b1 : (a0.toList != ([105, 110, 105, 116] : List UInt8)) = true := bne_iff_ne.mpr c3
 by_cases c4 : a0.toList = ([116, 104, 114, 101, 97, 100] : List UInt8)
 ·rw [if_pos c4] at H
  have c4b0 : (a0.toList == ([116, 104, 114, 101, 97, 100] : List UInt8)) = true := beq_iff_eq.mpr c4
  have c4b1 : (a0.toList != ([116, 104, 114, 101, 97, 100] : List UInt8)) = false := bne_eq_false_iff_eq.mpr c4
  clear c4
  obtain rfl := Option.some.inj H
  go_enter Try.func66, Try.ntmps66
  go_wp2
  go_ret
  exact ⟨by first | rfl | (simp; done) | (simp [*]; done), by repeat (first | exact Drawn0.refl _ | apply Drawn0.step)⟩
 rw [if_neg c4] at H
 have c4b0 : (a0.toList == ([116, 104, 114, 101, 97, 100] : List UInt8)) = false := beq_eq_false_iff_ne.mpr c4
 have c4b1 : (a0.toList != ([116, 104, 114, 101, 97, 100] : List UInt8)) = true := bne_iff_ne.mpr c4
 by_cases c5 : a0.toList = ([109, 111, 118] : List UInt8)
 ·rw [if_pos c5] at H
  have c5b0 : (a0.toList == ([109, 111, 118] : List UInt8)) = true := beq_iff_eq.mpr c5
  have c5b1 : (a0.toList != ([109, 111, 118] : List UInt8)) = false := bne_eq_false_iff_eq.mpr c5
  clear c5
  obtain rfl := Option.some.inj H
  go_enter Try.func66, Try.ntmps66
  go_wp2
  go_ret
  exact ⟨by first | rfl | (simp; done) | (simp [*]; done), by repeat (first | exact Drawn0.refl _ | apply Drawn0.step)⟩
 rw [if_neg c5] at H
 have c5b0 : (a0.toList == ([109, 111, 118] : List UInt8)) = false := beq_eq_false_iff_ne.mpr c5
 have c5b1 : (a0.toList != ([109, 111, 118] : List UInt8)) = true := bne_iff_ne.mpr c5
 by_cases c6 : a0.toList = ([120, 99, 104, 103] : List UInt8)
 ·rw [if_pos c6] at H
  have c6b0 : (a0.toList == ([120, 99, 104, 103] : List UInt8)) = true := beq_iff_eq.mpr c6
  have c6b1 : (a0.toList != ([120, 99, 104, 103] : List UInt8)) = false := bne_eq_false_iff_eq.mpr c6
  clear c6
  obtain rfl := Option.some.inj H
  go_enter Try.func66, Try.ntmps66
  go_wp2
  go_ret
  exact ⟨by first | rfl | (simp; done) | (simp [*]; done), by repeat (first | exact Drawn0.refl _ | apply Drawn0.step)⟩
 rw [if_neg c6] at H
 have c6b0 : (a0.toList == ([120, 99, 104, 103] : List UInt8)) = false := beq_eq_false_iff_ne.mpr c6
 have c6b1 : (a0.toList != ([120, 99, 104, 103] : List UInt8)) = true := bne_iff_ne.mpr c6
 by_cases c7 : a0.toList = ([109, 102, 101, 110, 99, 101] : List UInt8)
 ·rw [if_pos c7] at H
  have c7b0 : (a0.toList == ([109, 102, 101, 110, 99, 101] : List UInt8)) = true := beq_iff_eq.mpr c7
  have c7b1 : (a0.toList != ([109, 102, 101, 110, 99, 101] : List UInt8)) = false := bne_eq_false_iff_eq.mpr c7
  clear c7
  obtain rfl := Option.some.inj H
  go_enter Try.func66, Try.ntmps66
  go_wp2
  go_ret
  exact ⟨by first | rfl | (simp; done) | (simp [*]; done), by repeat (first | exact Drawn0.refl _ | apply Drawn0.step)⟩
 rw [if_neg c7] at H
 have c7b0 : (a0.toList == ([109, 102, 101, 110, 99, 101] : List UInt8)) = false := beq_eq_false_iff_ne.mpr c7
 have c7b1 : (a0.toList != ([109, 102, 101, 110, 99, 101] : List UInt8)) = true := bne_iff_ne.mpr c7
 by_cases c8 : a0.toList = ([99, 109, 112] : List UInt8)
 ·rw [if_pos c8] at H
  have c8b0 : (a0.toList == ([99, 109, 112] : List UInt8)) = true := beq_iff_eq.mpr c8
  have c8b1 : (a0.toList != ([99, 109, 112] : List UInt8)) = false := bne_eq_false_iff_eq.mpr c8
  clear c8
  obtain rfl := Option.some.inj H
  go_enter Try.func66, Try.ntmps66
  go_wp2
  go_ret
  exact ⟨by first | rfl | (simp; done) | (simp [*]; done), by repeat (first | exact Drawn0.refl _ | apply Drawn0.step)⟩
 rw [if_neg c8] at H
 have c8b0 : (a0.toList == ([99, 109, 112] : List UInt8)) = false := beq_eq_false_iff_ne.mpr c8
 have c8b1 : (a0.toList != ([99, 109, 112] : List UInt8)) = true := bne_iff_ne.mpr c8
 by_cases c9 : a0.toList = ([106, 109, 112] : List UInt8)
 ·rw [if_pos c9] at H
  have c9b0 : (a0.toList == ([106, 109, 112] : List UInt8)) = true := beq_iff_eq.mpr c9
  have c9b1 : (a0.toList != ([106, 109, 112] : List UInt8)) = false := bne_eq_false_iff_eq.mpr c9
  clear c9
  obtain rfl := Option.some.inj H
  go_enter Try.func66, Try.ntmps66
  go_wp2
  go_ret
  exact ⟨by first | rfl | (simp; done) | (simp [*]; done), by repeat (first | exact Drawn0.refl _ | apply Drawn0.step)⟩
 rw [if_neg c9] at H
 have c9b0 : (a0.toList == ([106, 109, 112] : List UInt8)) = false := beq_eq_false_iff_ne.mpr c9
 have c9b1 : (a0.toList != ([106, 109, 112] : List UInt8)) = true := bne_iff_ne.mpr c9
 by_cases c10 : a0.toList = ([106, 101] : List UInt8)
 ·rw [if_pos c10] at H
  have c10b0 : (a0.toList == ([106, 101] : List UInt8)) = true := beq_iff_eq.mpr c10
  have c10b1 : (a0.toList != ([106, 101] : List UInt8)) = false := bne_eq_false_iff_eq.mpr c10
  clear c10
  obtain rfl := Option.some.inj H
  go_enter Try.func66, Try.ntmps66
  go_wp2
  go_ret
  exact ⟨by first | rfl | (simp; done) | (simp [*]; done), by repeat (first | exact Drawn0.refl _ | apply Drawn0.step)⟩
 rw [if_neg c10] at H
 have c10b0 : (a0.toList == ([106, 101] : List UInt8)) = false := beq_eq_false_iff_ne.mpr c10
 have c10b1 : (a0.toList != ([106, 101] : List UInt8)) = true := bne_iff_ne.mpr c10
 by_cases c11 : a0.toList = ([106, 110, 101] : List UInt8)
 ·rw [if_pos c11] at H
  have c11b0 : (a0.toList == ([106, 110, 101] : List UInt8)) = true := beq_iff_eq.mpr c11
  have c11b1 : (a0.toList != ([106, 110, 101] : List UInt8)) = false := bne_eq_false_iff_eq.mpr c11
  clear c11
  obtain rfl := Option.some.inj H
  go_enter Try.func66, Try.ntmps66
  go_wp2
  go_ret
  exact ⟨by first | rfl | (simp; done) | (simp [*]; done), by repeat (first | exact Drawn0.refl _ | apply Drawn0.step)⟩
 rw [if_neg c11] at H
 have c11b0 : (a0.toList == ([106, 110, 101] : List UInt8)) = false := beq_eq_false_iff_ne.mpr c11
 have c11b1 : (a0.toList != ([106, 110, 101] : List UInt8)) = true := bne_iff_ne.mpr c11
 by_cases c12 : a0.toList = ([101, 120, 105, 115, 116, 115] : List UInt8)
 rotate_left
 ·rw [if_neg c12] at H
  have c12b0 : (a0.toList == ([101, 120, 105, 115, 116, 115] : List UInt8)) = false := beq_eq_false_iff_ne.mpr c12
  have c12b1 : (a0.toList != ([101, 120, 105, 115, 116, 115] : List UInt8)) = true := bne_iff_ne.mpr c12
  obtain rfl := Option.some.inj H
  go_enter Try.func66, Try.ntmps66
  go_wp2
  go_ret
  exact ⟨by first | rfl | (simp; done) | (simp [*]; done), by repeat (first | exact Drawn0.refl _ | apply Drawn0.step)⟩
 rw [if_pos c12] at H
 have c12b0 : (a0.toList == ([101, 120, 105, 115, 116, 115] : List UInt8)) = true := beq_iff_eq.mpr c12
 have c12b1 : (a0.toList != ([101, 120, 105, 115, 116, 115] : List UInt8)) = false := bne_eq_false_iff_eq.mpr c12
 clear c12
 obtain rfl := Option.some.inj H
 go_enter Try.func66, Try.ntmps66
 go_wp2
 go_ret
 exact ⟨by first | rfl | (simp; done) | (simp [*]; done), by repeat (first | exact Drawn0.refl _ | apply Drawn0.step)⟩
def fencepostref02_Name.l0 : Nat → ByteArray → Int → Option (Bool)
 | 0, _, _ => none
 | k + 1, x0, x3 => if x3 < (x0.size : Int) then (if 0 ≤ x3 then (if (bt x0 x3) < 97 then (if (bt x0 x3) < 48 then (some false) else (if (bt x0 x3) > 57 then (some false) else (if x3 = 0 then (some false) else (fencepostref02_Name.l0 k x0 (wrap64 (x3 + 1)))))) else (if (bt x0 x3) > 122 then (if (bt x0 x3) < 48 then (some false) else (if (bt x0 x3) > 57 then (some false) else (if x3 = 0 then (some false) else (fencepostref02_Name.l0 k x0 (wrap64 (x3 + 1)))))) else (fencepostref02_Name.l0 k x0 (wrap64 (x3 + 1))))) else (none)) else (if (x0.size : Int) ≥ 1 then (if (x0.size : Int) ≤ 8 then ((fencepostref02_Key.f x0).bind fun t154 => (if t154 = true then (some false) else ((fencepostref02_Reg.f k x0).bind fun t155 => (some (decide (t155 < 0)))))) else (some false)) else (some false))
def fencepostref02_Name.f (k : Nat) (a0 : ByteArray) : Option (Bool) := fencepostref02_Name.l0 k a0 0
set_option maxHeartbeats 8000000 in
set_option maxRecDepth 100000 in
theorem fencepostref02_Name.calls (k : Nat) (a0 : ByteArray) (r : Bool) (w : World) (h : fencepostref02_Name.f k a0 = some r) :
 Calls Try.prog 60 #[.string a0] w fun e w' => e = .returned (.bool r) ∧ Below w.heap.size w w' := by
 have HB := Aside0.mk (Below.refl w.heap.size w)
 have H : (fencepostref02_Name.l0 k a0 0) = some r := h
 clear h
 have H' := Aside0.mk H
 clear H
 go_enter Try.func60, Try.ntmps60
 go_wp2
 go_loopg [3] k (fun kq v3 w' => ∃ (x3_1 : Int), v3 = .int .i64 x3_1 ∧ Aside0 (fencepostref02_Name.l0 kq a0 x3_1 = some r) ∧ Aside0 (kq ≤ k) ∧ Aside0 (Below w.heap.size w w'))
 case atStart => exact ⟨(0), rf_, H', ⟨Nat.le_refl _⟩, ⟨hb_ HB.out⟩⟩
 clear H'
 obtain ⟨x3_1, rfl, HA, HK1, HB⟩ := hrel
 cases gk with
 | zero => exact absurd HA.out (by simp [fencepostref02_Name.l0])
 | succ k1 => ?_
 have H := HA.out
 clear HA
 simp only [fencepostref02_Name.l0] at H
 by_cases c2 : x3_1 < (a0.size : Int)
 rotate_left
 ·rw [if_neg c2] at H
  have c2b0 : decide (x3_1 < (a0.size : Int)) = false := decide_eq_false c2
  clear c2
  by_cases c18 : (a0.size : Int) ≥ 1
  rotate_left
  ·rw [if_neg c18] at H
   have c18b0 : decide (1 ≤ (a0.size : Int)) = false := decide_eq_false c18
   have c18b1 : decide (1 ≤ a0.size) = false := decide_eq_false (by omega)
   clear c18
   obtain rfl := Option.some.inj H
   go_wp2
   go_ret
   exact ⟨by first | rfl | (simp [errW_none, errW_some] <;> rfl) | (simp [*, errW_none, errW_some] <;> rfl), hb_ HB.out⟩
  rw [if_pos c18] at H
  have c18b0 : decide (1 ≤ (a0.size : Int)) = true := decide_eq_true c18
  have c18b1 : decide (1 ≤ a0.size) = true := decide_eq_true (by omega)
  clear c18
  by_cases c19 : (a0.size : Int) ≤ 8
  rotate_left
  ·rw [if_neg c19] at H
   have c19b0 : decide ((a0.size : Int) ≤ 8) = false := decide_eq_false c19
   have c19b1 : decide (a0.size ≤ 8) = false := decide_eq_false (by omega)
   clear c19
   obtain rfl := Option.some.inj H
   go_wp2
   go_ret
   exact ⟨by first | rfl | (simp [errW_none, errW_some] <;> rfl) | (simp [*, errW_none, errW_some] <;> rfl), hb_ HB.out⟩
  rw [if_pos c19] at H
  have c19b0 : decide ((a0.size : Int) ≤ 8) = true := decide_eq_true c19
  have c19b1 : decide (a0.size ≤ 8) = true := decide_eq_true (by omega)
  clear c19
  replace H := Option.bind_eq_some_iff.mp H
  obtain ⟨t154, A200, H⟩ := H
  replace H : (if t154 = true then (some false) else ((fencepostref02_Reg.f k1 a0).bind fun t155 => (some (decide (t155 < 0))))) = some r := H
  have A20 := Aside0.mk A200
  clear A200
  by_cases c21 : t154 = true
  ·subst c21
   have H1 : (some false) = some r := by rw [if_pos rfl] at H; exact H
   clear H
   have H := H1
   clear H1
   obtain rfl := Option.some.inj H
   go_wp2_with (first | (go_at_call 66; (with_reducible refine (fencepostref02_Key.calls a0 true _ A20.out).mono ?_); rintro e w' ⟨rfl, ⟨nd, rfl⟩⟩))
   go_ret
   exact ⟨by first | rfl | (simp [errW_none, errW_some] <;> rfl) | (simp [*, errW_none, errW_some] <;> rfl), hb_ HB.out⟩
  replace c21 := Bool.eq_false_iff.mpr c21
  subst c21
  have H1 : ((fencepostref02_Reg.f k1 a0).bind fun t155 => (some (decide (t155 < 0)))) = some r := by rw [if_neg (show ¬ (false = true) by decide)] at H; exact H
  clear H
  have H := H1
  clear H1
  replace H := Option.bind_eq_some_iff.mp H
  obtain ⟨t155, A220, H⟩ := H
  replace H : (some (decide (t155 < 0))) = some r := H
  have A22 := Aside0.mk A220
  clear A220
  obtain rfl := Option.some.inj H
  go_wp2_with (first | (go_at_call 66; (with_reducible refine (fencepostref02_Key.calls a0 false _ A20.out).mono ?_); rintro e w' ⟨rfl, ⟨nd, rfl⟩⟩) | (go_at_call 57; (with_reducible refine (fencepostref02_Reg.calls k1 a0 t155 _ A22.out).mono ?_); rintro e w23 ⟨rfl, hb⟩; have n0_ := Aside0.mk (below_step (hb_ HB.out) hb); clear HB; have HB := n0_; clear n0_; (try clear hb); (try clear hb2); (try clear hk); (try clear hi)))
  go_ret
  exact ⟨by first | rfl | (simp [errW_none, errW_some] <;> rfl) | (simp [*, errW_none, errW_some] <;> rfl), hb_ HB.out⟩
 rw [if_pos c2] at H
 have c2b0 : decide (x3_1 < (a0.size : Int)) = true := decide_eq_true c2
 clear c2
 by_cases c3 : 0 ≤ x3_1
 rotate_left
 ·rw [if_neg c3] at H
  exact absurd H (by simp)
 rw [if_pos c3] at H
 have c3b0 : decide (0 ≤ x3_1) = true := decide_eq_true c3
 clear c3
 by_cases c5 : (bt a0 x3_1) < 97
 ·rw [if_pos c5] at H
  have c5b0 : decide ((bt a0 x3_1) < 97) = true := decide_eq_true c5
  clear c5
  by_cases c7 : (bt a0 x3_1) < 48
  ·rw [if_pos c7] at H
   have c7b0 : decide ((bt a0 x3_1) < 48) = true := decide_eq_true c7
   clear c7
   obtain rfl := Option.some.inj H
   have p4 : 0 ≤ (x3_1 : Int) := of_decide_eq_true as_
   have q4 : x3_1 < (a0.size : Int) := of_decide_eq_true as_
   have hx4 := bt_at a0 x3_1
   replace p4 := eq_true p4
   replace q4 := eq_true q4
   have p6 : 0 ≤ (x3_1 : Int) := of_decide_eq_true as_
   have q6 : x3_1 < (a0.size : Int) := of_decide_eq_true as_
   have hx6 := bt_at a0 x3_1
   replace p6 := eq_true p6
   replace q6 := eq_true q6
   go_wp2
   go_ret
   exact ⟨by first | rfl | (simp [errW_none, errW_some] <;> rfl) | (simp [*, errW_none, errW_some] <;> rfl), hb_ HB.out⟩
  rw [if_neg c7] at H
  have c7b0 : decide ((bt a0 x3_1) < 48) = false := decide_eq_false c7
  clear c7
  by_cases c9 : (bt a0 x3_1) > 57
  ·rw [if_pos c9] at H
   have c9b0 : decide (57 < (bt a0 x3_1)) = true := decide_eq_true c9
   clear c9
   obtain rfl := Option.some.inj H
   have p4 : 0 ≤ (x3_1 : Int) := of_decide_eq_true as_
   have q4 : x3_1 < (a0.size : Int) := of_decide_eq_true as_
   have hx4 := bt_at a0 x3_1
   replace p4 := eq_true p4
   replace q4 := eq_true q4
   have p6 : 0 ≤ (x3_1 : Int) := of_decide_eq_true as_
   have q6 : x3_1 < (a0.size : Int) := of_decide_eq_true as_
   have hx6 := bt_at a0 x3_1
   replace p6 := eq_true p6
   replace q6 := eq_true q6
   have p8 : 0 ≤ (x3_1 : Int) := of_decide_eq_true as_
   have q8 : x3_1 < (a0.size : Int) := of_decide_eq_true as_
   have hx8 := bt_at a0 x3_1
   replace p8 := eq_true p8
   replace q8 := eq_true q8
   go_wp2
   go_ret
   exact ⟨by first | rfl | (simp [errW_none, errW_some] <;> rfl) | (simp [*, errW_none, errW_some] <;> rfl), hb_ HB.out⟩
  rw [if_neg c9] at H
  have c9b0 : decide (57 < (bt a0 x3_1)) = false := decide_eq_false c9
  clear c9
  by_cases c10 : x3_1 = 0
  ·rw [if_pos c10] at H
   have c10b0 : (x3_1 == 0) = true := beq_iff_eq.mpr c10
   have c10b1 : (x3_1 != 0) = false := bne_eq_false_iff_eq.mpr c10
   clear c10
   obtain rfl := Option.some.inj H
   have p4 : 0 ≤ (x3_1 : Int) := of_decide_eq_true as_
   have q4 : x3_1 < (a0.size : Int) := of_decide_eq_true as_
   have hx4 := bt_at a0 x3_1
   replace p4 := eq_true p4
   replace q4 := eq_true q4
   have p6 : 0 ≤ (x3_1 : Int) := of_decide_eq_true as_
   have q6 : x3_1 < (a0.size : Int) := of_decide_eq_true as_
   have hx6 := bt_at a0 x3_1
   replace p6 := eq_true p6
   replace q6 := eq_true q6
   have p8 : 0 ≤ (x3_1 : Int) := of_decide_eq_true as_
   have q8 : x3_1 < (a0.size : Int) := of_decide_eq_true as_
   have hx8 := bt_at a0 x3_1
   replace p8 := eq_true p8
   replace q8 := eq_true q8
   go_wp2
   go_ret
   exact ⟨by first | rfl | (simp [errW_none, errW_some] <;> rfl) | (simp [*, errW_none, errW_some] <;> rfl), hb_ HB.out⟩
  rw [if_neg c10] at H
  have c10b0 : (x3_1 == 0) = false := beq_eq_false_iff_ne.mpr c10
  have c10b1 : (x3_1 != 0) = true := bne_iff_ne.mpr c10
  have H' := Aside0.mk H
  clear H
  have p4 : 0 ≤ (x3_1 : Int) := of_decide_eq_true as_
  have q4 : x3_1 < (a0.size : Int) := of_decide_eq_true as_
  have hx4 := bt_at a0 x3_1
  replace p4 := eq_true p4
  replace q4 := eq_true q4
  have p6 : 0 ≤ (x3_1 : Int) := of_decide_eq_true as_
  have q6 : x3_1 < (a0.size : Int) := of_decide_eq_true as_
  have hx6 := bt_at a0 x3_1
  replace p6 := eq_true p6
  replace q6 := eq_true q6
  have p8 : 0 ≤ (x3_1 : Int) := of_decide_eq_true as_
  have q8 : x3_1 < (a0.size : Int) := of_decide_eq_true as_
  have hx8 := bt_at a0 x3_1
  replace p8 := eq_true p8
  replace q8 := eq_true q8
  go_wp2
  go_roundg k1
  case measure => have := HK1.out; omega
  case rel => exact ⟨(wrap64 (x3_1 + 1)), rf_, H', ⟨by have := HK1.out; omega⟩, ⟨hb_ HB.out⟩⟩
 rw [if_neg c5] at H
 have c5b0 : decide ((bt a0 x3_1) < 97) = false := decide_eq_false c5
 clear c5
 by_cases c12 : (bt a0 x3_1) > 122
 rotate_left
 ·rw [if_neg c12] at H
  have c12b0 : decide (122 < (bt a0 x3_1)) = false := decide_eq_false c12
  clear c12
  have H' := Aside0.mk H
  clear H
  have p4 : 0 ≤ (x3_1 : Int) := of_decide_eq_true as_
  have q4 : x3_1 < (a0.size : Int) := of_decide_eq_true as_
  have hx4 := bt_at a0 x3_1
  replace p4 := eq_true p4
  replace q4 := eq_true q4
  have p11 : 0 ≤ (x3_1 : Int) := of_decide_eq_true as_
  have q11 : x3_1 < (a0.size : Int) := of_decide_eq_true as_
  have hx11 := bt_at a0 x3_1
  replace p11 := eq_true p11
  replace q11 := eq_true q11
  go_wp2
  go_roundg k1
  case measure => have := HK1.out; omega
  case rel => exact ⟨(wrap64 (x3_1 + 1)), rf_, H', ⟨by have := HK1.out; omega⟩, ⟨hb_ HB.out⟩⟩
 rw [if_pos c12] at H
 have c12b0 : decide (122 < (bt a0 x3_1)) = true := decide_eq_true c12
 clear c12
 by_cases c14 : (bt a0 x3_1) < 48
 ·rw [if_pos c14] at H
  have c14b0 : decide ((bt a0 x3_1) < 48) = true := decide_eq_true c14
  clear c14
  obtain rfl := Option.some.inj H
  have p4 : 0 ≤ (x3_1 : Int) := of_decide_eq_true as_
  have q4 : x3_1 < (a0.size : Int) := of_decide_eq_true as_
  have hx4 := bt_at a0 x3_1
  replace p4 := eq_true p4
  replace q4 := eq_true q4
  have p11 : 0 ≤ (x3_1 : Int) := of_decide_eq_true as_
  have q11 : x3_1 < (a0.size : Int) := of_decide_eq_true as_
  have hx11 := bt_at a0 x3_1
  replace p11 := eq_true p11
  replace q11 := eq_true q11
  have p13 : 0 ≤ (x3_1 : Int) := of_decide_eq_true as_
  have q13 : x3_1 < (a0.size : Int) := of_decide_eq_true as_
  have hx13 := bt_at a0 x3_1
  replace p13 := eq_true p13
  replace q13 := eq_true q13
  go_wp2
  go_ret
  exact ⟨by first | rfl | (simp [errW_none, errW_some] <;> rfl) | (simp [*, errW_none, errW_some] <;> rfl), hb_ HB.out⟩
 rw [if_neg c14] at H
 have c14b0 : decide ((bt a0 x3_1) < 48) = false := decide_eq_false c14
 clear c14
 by_cases c16 : (bt a0 x3_1) > 57
 ·rw [if_pos c16] at H
  have c16b0 : decide (57 < (bt a0 x3_1)) = true := decide_eq_true c16
  clear c16
  obtain rfl := Option.some.inj H
  have p4 : 0 ≤ (x3_1 : Int) := of_decide_eq_true as_
  have q4 : x3_1 < (a0.size : Int) := of_decide_eq_true as_
  have hx4 := bt_at a0 x3_1
  replace p4 := eq_true p4
  replace q4 := eq_true q4
  have p11 : 0 ≤ (x3_1 : Int) := of_decide_eq_true as_
  have q11 : x3_1 < (a0.size : Int) := of_decide_eq_true as_
  have hx11 := bt_at a0 x3_1
  replace p11 := eq_true p11
  replace q11 := eq_true q11
  have p13 : 0 ≤ (x3_1 : Int) := of_decide_eq_true as_
  have q13 : x3_1 < (a0.size : Int) := of_decide_eq_true as_
  have hx13 := bt_at a0 x3_1
  replace p13 := eq_true p13
  replace q13 := eq_true q13
  have p15 : 0 ≤ (x3_1 : Int) := of_decide_eq_true as_
  have q15 : x3_1 < (a0.size : Int) := of_decide_eq_true as_
  have hx15 := bt_at a0 x3_1
  replace p15 := eq_true p15
  replace q15 := eq_true q15
  go_wp2
  go_ret
  exact ⟨by first | rfl | (simp [errW_none, errW_some] <;> rfl) | (simp [*, errW_none, errW_some] <;> rfl), hb_ HB.out⟩
 rw [if_neg c16] at H
 have c16b0 : decide (57 < (bt a0 x3_1)) = false := decide_eq_false c16
 clear c16
 by_cases c17 : x3_1 = 0
 ·rw [if_pos c17] at H
  have c17b0 : (x3_1 == 0) = true := beq_iff_eq.mpr c17
  have c17b1 : (x3_1 != 0) = false := bne_eq_false_iff_eq.mpr c17
  clear c17
  obtain rfl := Option.some.inj H
  have p4 : 0 ≤ (x3_1 : Int) := of_decide_eq_true as_
  have q4 : x3_1 < (a0.size : Int) := of_decide_eq_true as_
  have hx4 := bt_at a0 x3_1
  replace p4 := eq_true p4
  replace q4 := eq_true q4
  have p11 : 0 ≤ (x3_1 : Int) := of_decide_eq_true as_
  have q11 : x3_1 < (a0.size : Int) := of_decide_eq_true as_
  have hx11 := bt_at a0 x3_1
  replace p11 := eq_true p11
  replace q11 := eq_true q11
  have p13 : 0 ≤ (x3_1 : Int) := of_decide_eq_true as_
  have q13 : x3_1 < (a0.size : Int) := of_decide_eq_true as_
  have hx13 := bt_at a0 x3_1
  replace p13 := eq_true p13
  replace q13 := eq_true q13
  have p15 : 0 ≤ (x3_1 : Int) := of_decide_eq_true as_
  have q15 : x3_1 < (a0.size : Int) := of_decide_eq_true as_
  have hx15 := bt_at a0 x3_1
  replace p15 := eq_true p15
  replace q15 := eq_true q15
  go_wp2
  go_ret
  exact ⟨by first | rfl | (simp [errW_none, errW_some] <;> rfl) | (simp [*, errW_none, errW_some] <;> rfl), hb_ HB.out⟩
 rw [if_neg c17] at H
 have c17b0 : (x3_1 == 0) = false := beq_eq_false_iff_ne.mpr c17
 have c17b1 : (x3_1 != 0) = true := bne_iff_ne.mpr c17
 have H' := Aside0.mk H
 clear H
 have p4 : 0 ≤ (x3_1 : Int) := of_decide_eq_true as_
 have q4 : x3_1 < (a0.size : Int) := of_decide_eq_true as_
 have hx4 := bt_at a0 x3_1
 replace p4 := eq_true p4
 replace q4 := eq_true q4
 have p11 : 0 ≤ (x3_1 : Int) := of_decide_eq_true as_
 have q11 : x3_1 < (a0.size : Int) := of_decide_eq_true as_
 have hx11 := bt_at a0 x3_1
 replace p11 := eq_true p11
 replace q11 := eq_true q11
 have p13 : 0 ≤ (x3_1 : Int) := of_decide_eq_true as_
 have q13 : x3_1 < (a0.size : Int) := of_decide_eq_true as_
 have hx13 := bt_at a0 x3_1
 replace p13 := eq_true p13
 replace q13 := eq_true q13
 have p15 : 0 ≤ (x3_1 : Int) := of_decide_eq_true as_
 have q15 : x3_1 < (a0.size : Int) := of_decide_eq_true as_
 have hx15 := bt_at a0 x3_1
 replace p15 := eq_true p15
 replace q15 := eq_true q15
 go_wp2
 go_roundg k1
 case measure => have := HK1.out; omega
 case rel => exact ⟨(wrap64 (x3_1 + 1)), rf_, H', ⟨by have := HK1.out; omega⟩, ⟨hb_ HB.out⟩⟩
end Go.Proofs.Ytijpfonbeepmfaa.Print
