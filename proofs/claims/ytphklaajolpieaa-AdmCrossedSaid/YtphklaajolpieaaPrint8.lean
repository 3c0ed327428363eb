-- Written by ownprint.py (this session's) with the kit's print.py: functions, contracts, rows; Lean checks it.
import Derived.Test.YtphklaajolpieaaPrint0
import Derived.Test.YtphklaajolpieaaHSq
import Derived.Test.YtphklaajolpieaaHAdm
namespace Go.Proofs.Ytphklaajolpieaa.Print
open Go.RowKit Go.Proofs.YtphklaajolpieaaW.PrintWords Go.Proofs.YtphklaajolpieaaW.PrintLast Go.Proofs.YtphklaajolpieaaW.PrintMore
attribute [local go_sem] max2_int min2_int max_two min_two max_three min_three max_four min_four   -- for this text's walks alone
set_option linter.unusedVariables false
set_option linter.unusedSimpArgs false
mutual
def fencepostref14_put.l0 : Nat → List Int → Int → List Int → Bool → Int → Option (List Int)
 | 0, _, _, _, _, _ => none
 | k + 1, x0, x1, x5, x6, x7 => if x7 < (x0.length : Int) then (if x6 = true then (fencepostref14_put.j1 k x0 x1 x5 x6 x7 false) else (if 0 ≤ x7 then (fencepostref14_put.j1 k x0 x1 x5 x6 x7 (decide (x1 ≤ (rd x0 x7)))) else (none))) else (if x6 = true then (some x5) else (if x5.length < 17592186044416 then (some (x5 ++ [x1])) else (none)))
def fencepostref14_put.j1 : Nat → List Int → Int → List Int → Bool → Int → Bool → Option (List Int)
 | 0, _, _, _, _, _, _ => none
 | k + 1, x0, x1, x5, x6, x7, x23 => if x23 = true then (if 0 ≤ x7 then (if x7 < (x0.length : Int) then (if x1 = (rd x0 x7) then (if x5.length < 17592186044416 then (fencepostref14_put.l0 k x0 x1 (x5 ++ [rd x0 x7]) true (wrap64 (x7 + 1))) else (none)) else (if x5.length < 17592186044416 then ((some (x5 ++ [x1] : List Int)).bind fun y291 => (if y291.length < 17592186044416 then (fencepostref14_put.l0 k x0 x1 (y291 ++ [rd x0 x7]) true (wrap64 (x7 + 1))) else (none))) else (none))) else (none)) else (none)) else (if 0 ≤ x7 then (if x7 < (x0.length : Int) then (if x5.length < 17592186044416 then (fencepostref14_put.l0 k x0 x1 (x5 ++ [rd x0 x7]) x6 (wrap64 (x7 + 1))) else (none)) else (none)) else (none))
end
def fencepostref14_put.f (k : Nat) (l0 : List Int) (a1 : Int) : Option (List Int) := fencepostref14_put.l0 k l0 a1 ([] : List Int) false 0
set_option maxHeartbeats 8000000 in
set_option maxRecDepth 100000 in
theorem fencepostref14_put.calls (k : Nat) (A0 : Option Addr) (c0 : Nat) (l0 : List Int) (a1 : Int) (r : List Int) (w : World) (hr0 : Kd.C (Kd.int .i64) w A0 l0.length l0) (hc0 : l0.length ≤ c0) (h : fencepostref14_put.f k l0 a1 = some r) :
 Calls Try.prog 15 #[.slice A0 l0.length c0, .int .i64 a1] w fun e w' => ∃ v0_ : Value, e = .returned (v0_) ∧ Kd.R (Kd.int .i64) 3 w' w.heap.size (fun _ => True) v0_ r ∧ Below w.heap.size w w' := by
 have HR0 := Aside0.mk hr0
 have HC0 := Aside0.mk hc0
 clear hr0 hc0
 have HB := Aside0.mk (Below.refl w.heap.size w)
 have H : (fencepostref14_put.l0 k l0 a1 ([] : List Int) false 0) = some r := h
 clear h
 have H' := Aside0.mk H
 clear H
 go_enter Try.func15, Try.ntmps15
 go_wp2
 go_loopg [5, 6, 7] k (fun kq v5 v6 v7 w' => ∃ (x5_1 : List Int) (x6_1 : Bool) (x7_1 : Int), v6 = .bool x6_1 ∧ v7 = .int .i64 x7_1 ∧ Aside0 (fencepostref14_put.l0 kq l0 a1 x5_1 x6_1 x7_1 = some r) ∧ Aside0 (kq ≤ k) ∧ Aside0 (Kd.R (Kd.int .i64) 3 w' w.heap.size (fun _ => True) v5 x5_1) ∧ Aside0 (Below w.heap.size w w'))
 case atStart => exact ⟨(([] : List Int)), (false), (0), rf_, rf_, H', ⟨Nat.le_refl _⟩, ⟨by first | exact Kd.R_nil _ _ _ _ _ | exact Kd.N_nil _ _ _ _ _ | exact Kd.V_nil _ _ _ _ _ | exact Kd.Q_nil _ _ _ _ _ | exact Kd.S_nil _ _ _ _ _⟩, ⟨hb_ HB.out⟩⟩
 clear H'
 obtain ⟨x5_1, x6_1, x7_1, rfl, rfl, HA, HK1, HO_5, HB⟩ := hrel
 cases gk with
 | zero => exact absurd HA.out (by simp [fencepostref14_put.l0])
 | succ k1 => ?_
 have H := HA.out
 clear HA
 simp only [fencepostref14_put.l0] at H
 by_cases c3 : x7_1 < (l0.length : Int)
 rotate_left
 ·rw [if_neg c3] at H
  have c3b0 : decide (x7_1 < (l0.length : Int)) = false := decide_eq_false c3
  clear c3
  by_cases c21 : x6_1 = true
  ·subst c21
   have H1 : (some x5_1) = some r := by rw [if_pos rfl] at H; exact H
   clear H
   have H := H1
   clear H1
   obtain rfl := Option.some.inj H
   go_wp2
   go_ret
   exact ⟨_, by first | rfl | (simp [errW_none, errW_some] <;> rfl) | (simp [*, errW_none, errW_some] <;> rfl), rd_ HO_5.out, hb_ HB.out⟩
  replace c21 := Bool.eq_false_iff.mpr c21
  subst c21
  have H1 : (if x5_1.length < 17592186044416 then (some (x5_1 ++ [a1])) else (none)) = some r := by rw [if_neg (show ¬ (false = true) by decide)] at H; exact H
  clear H
  have H := H1
  clear H1
  by_cases c22 : x5_1.length < 17592186044416
  rotate_left
  ·rw [if_neg c22] at H
   exact absurd H (by simp)
  rw [if_pos c22] at H
  have LMc22 := Aside0.mk c22
  clear c22
  obtain ⟨y282, hy282⟩ : ∃ y_ : List Int, y_ = (x5_1 ++ [a1]) := ⟨_, rfl⟩
  replace H : (some y282) = some r := by first | (rw [hy282]; with_reducible exact H) | (have H2_ := (Option.bind_some _ _).symm.trans H; rw [hy282]; with_reducible exact H2_) | (have H2_ := (Option.bind_some _ _).symm.trans H; with_reducible exact H2_) | with_reducible exact H | (rw [hy282]; exact H) | exact H
  have Ny282 := Aside0.mk hy282
  clear hy282
  obtain rfl := Option.some.inj H
  go_wp2_with (first | ((with_reducible refine gate_builtin (b := .append) (xs := #[.tmp 43, .tmp 45]) rfl ?_); at_builtin; refine Kd.R_append (Kd.int .i64) (w0 := w) w.heap.size rfl (.tmp 43) (.tmp 45) 22 3 (.int .i64 0) 8 rfl Try.underlying22 info3 rfl (by decide) (by omega) u5 x5_1 a1 [.int .i64 a1] (fun _ => True) (fun _ => False) rfl rfl ?aP (fun _ hk => hk.elim) ?aF ?aO ?aB ?aS ?aL ?_; (case aP => exact rfl); (case aB => exact (hb_ HB.out)); (case aF => exact (fun _ _ => trivial)); (case aO => exact (rd_ HO_5.out)); (case aS => exact (below_size (hb_ HB.out))); (case aL => have := LMc22.out; omega); intro v283 w23 ho hb hg hat; rw [← Ny282.out] at ho; have n0_ := Aside0.mk (hb); have n1_ := Aside0.mk (ho); clear HB; clear HO_5; have HB := n0_; have HO284 := n1_; clear n0_ n1_; clear ho hb hg hat))
  go_ret
  exact ⟨_, by first | rfl | (simp [errW_none, errW_some] <;> rfl) | (simp [*, errW_none, errW_some] <;> rfl), rd_ HO284.out, hb_ HB.out⟩
 rw [if_pos c3] at H
 have c3b0 : decide (x7_1 < (l0.length : Int)) = true := decide_eq_true c3
 clear c3
 have HC4 := Aside0.mk H
 clear H
 go_upto_region 6 with (fail)
 go_cut [23] (fun v23 wc => ∃ (kq : Nat) (x23_3 : Bool), v23 = .bool x23_3 ∧ Aside0 (fencepostref14_put.j1 kq l0 a1 x5_1 x6_1 x7_1 x23_3 = some r) ∧ Aside0 (kq ≤ k1) ∧ Aside0 (Kd.R (Kd.int .i64) 3 wc w.heap.size (fun _ => True) u5 x5_1) ∧ Aside0 (Below w.heap.size w wc))
 case first =>
  have H := HC4.out
  clear HC4
  by_cases c5 : x6_1 = true
  ·subst c5
   have H1 : (fencepostref14_put.j1 k1 l0 a1 x5_1 true x7_1 false) = some r := by rw [if_pos rfl] at H; exact H
   clear H
   have H := H1
   clear H1
   have H' := Aside0.mk H
   clear H
   go_wp2
   go_meet
   case rel => exact ⟨_, (false), rf_, H', ⟨by have := HK1.out; first | omega | exact Nat.le_refl _⟩, ⟨rd_ HO_5.out⟩, ⟨hb_ HB.out⟩⟩
  replace c5 := Bool.eq_false_iff.mpr c5
  subst c5
  have H1 : (if 0 ≤ x7_1 then (fencepostref14_put.j1 k1 l0 a1 x5_1 false x7_1 (decide (a1 ≤ (rd l0 x7_1)))) else (none)) = some r := by rw [if_neg (show ¬ (false = true) by decide)] at H; exact H
  clear H
  have H := H1
  clear H1
  by_cases c6 : 0 ≤ x7_1
  rotate_left
  ·rw [if_neg c6] at H
   exact absurd H (by simp)
  rw [if_pos c6] at H
  have c6b0 : decide (0 ≤ x7_1) = true := decide_eq_true c6
  clear c6
  (first | rw [c6b0] | (simp only [i64_w, i32_w]; rw [c6b0]) | skip)
  have H' := Aside0.mk H
  clear H
  have p285 : 0 ≤ (x7_1 : Int) := of_decide_eq_true as_
  have q285 : x7_1 < (l0.length : Int) := of_decide_eq_true as_
  obtain ⟨ad285, e285, hx285_0⟩ := Kd.at_int HR0.out x7_1 p285 q285
  cases e285
  replace hx285_0 := cl_ HB.out hx285_0
  replace p285 := eq_true p285
  replace q285 := eq_true q285
  go_wp2
  go_meet
  case rel => exact ⟨_, (decide (a1 ≤ (rd l0 x7_1))), rf_, H', ⟨by have := HK1.out; first | omega | exact Nat.le_refl _⟩, ⟨rd_ HO_5.out⟩, ⟨hb_ HB.out⟩⟩
 clear HC4
 try clear c3
 try clear c3b0
 obtain ⟨kq, x23_3, rfl, HA, HJ3, HO_5, HB⟩ := hcut
 cases kq with
 | zero => exact absurd HA.out (by simp [fencepostref14_put.j1])
 | succ kj3 => ?_
 have H := HA.out
 clear HA
 simp only [fencepostref14_put.j1] at H
 by_cases c7 : x23_3 = true
 rotate_left
 ·replace c7 := Bool.eq_false_iff.mpr c7
  subst c7
  have H1 : (if 0 ≤ x7_1 then (if x7_1 < (l0.length : Int) then (if x5_1.length < 17592186044416 then (fencepostref14_put.l0 kj3 l0 a1 (x5_1 ++ [rd l0 x7_1]) x6_1 (wrap64 (x7_1 + 1))) else (none)) else (none)) else (none)) = some r := by rw [if_neg (show ¬ (false = true) by decide)] at H; exact H
  clear H
  have H := H1
  clear H1
  by_cases c17 : 0 ≤ x7_1
  rotate_left
  ·rw [if_neg c17] at H
   exact absurd H (by simp)
  rw [if_pos c17] at H
  have c17b0 : decide (0 ≤ x7_1) = true := decide_eq_true c17
  clear c17
  by_cases c18 : x7_1 < (l0.length : Int)
  rotate_left
  ·rw [if_neg c18] at H
   exact absurd H (by simp)
  rw [if_pos c18] at H
  have c18b0 : decide (x7_1 < (l0.length : Int)) = true := decide_eq_true c18
  clear c18
  by_cases c19 : x5_1.length < 17592186044416
  rotate_left
  ·rw [if_neg c19] at H
   exact absurd H (by simp)
  rw [if_pos c19] at H
  have LMc19 := Aside0.mk c19
  clear c19
  obtain ⟨y299, hy299⟩ : ∃ y_ : List Int, y_ = (x5_1 ++ [rd l0 x7_1]) := ⟨_, rfl⟩
  replace H : (fencepostref14_put.l0 kj3 l0 a1 y299 x6_1 (wrap64 (x7_1 + 1))) = some r := by first | (rw [hy299]; with_reducible exact H) | (have H2_ := (Option.bind_some _ _).symm.trans H; rw [hy299]; with_reducible exact H2_) | (have H2_ := (Option.bind_some _ _).symm.trans H; with_reducible exact H2_) | with_reducible exact H | (rw [hy299]; exact H) | exact H
  have Ny299 := Aside0.mk hy299
  clear hy299
  have H' := Aside0.mk H
  clear H
  have p298 : 0 ≤ (x7_1 : Int) := of_decide_eq_true as_
  have q298 : x7_1 < (l0.length : Int) := of_decide_eq_true as_
  obtain ⟨ad298, e298, hx298_0⟩ := Kd.at_int HR0.out x7_1 p298 q298
  cases e298
  replace hx298_0 := cl_ HB.out hx298_0
  replace p298 := eq_true p298
  replace q298 := eq_true q298
  go_wp2_with (first | ((with_reducible refine gate_builtin (b := .append) (xs := #[.tmp 34, .tmp 39]) rfl ?_); at_builtin; refine Kd.R_append (Kd.int .i64) (w0 := w) w.heap.size rfl (.tmp 34) (.tmp 39) 22 3 (.int .i64 0) 8 rfl Try.underlying22 info3 rfl (by decide) (by omega) u5 x5_1 (rd l0 x7_1) [.int .i64 (rd l0 x7_1)] (fun _ => True) (fun _ => False) rfl rfl ?aP (fun _ hk => hk.elim) ?aF ?aO ?aB ?aS ?aL ?_; (case aP => exact rfl); (case aB => exact (hb_ HB.out)); (case aF => exact (fun _ _ => trivial)); (case aO => exact (rd_ HO_5.out)); (case aS => exact (below_size (hb_ HB.out))); (case aL => have := LMc19.out; omega); intro v300 w20 ho hb hg hat; rw [← Ny299.out] at ho; have n0_ := Aside0.mk (hb); have n1_ := Aside0.mk (ho); clear HB; clear HO_5; have HB := n0_; have HO301 := n1_; clear n0_ n1_; clear ho hb hg hat))
  go_roundg kj3
  case measure => have := HK1.out; have := HJ3.out; omega
  case rel => exact ⟨(y299), (x6_1), (wrap64 (x7_1 + 1)), rf_, rf_, H', ⟨by have := HK1.out; have := HJ3.out; omega⟩, ⟨rd_ HO301.out⟩, ⟨hb_ HB.out⟩⟩
 subst c7
 have H1 : (if 0 ≤ x7_1 then (if x7_1 < (l0.length : Int) then (if a1 = (rd l0 x7_1) then (if x5_1.length < 17592186044416 then (fencepostref14_put.l0 kj3 l0 a1 (x5_1 ++ [rd l0 x7_1]) true (wrap64 (x7_1 + 1))) else (none)) else (if x5_1.length < 17592186044416 then ((some (x5_1 ++ [a1] : List Int)).bind fun y291 => (if y291.length < 17592186044416 then (fencepostref14_put.l0 kj3 l0 a1 (y291 ++ [rd l0 x7_1]) true (wrap64 (x7_1 + 1))) else (none))) else (none))) else (none)) else (none)) = some r := by rw [if_pos rfl] at H; exact H
 clear H
 have H := H1
 clear H1
 by_cases c8 : 0 ≤ x7_1
 rotate_left
 ·rw [if_neg c8] at H
  exact absurd H (by simp)
 rw [if_pos c8] at H
 have c8b0 : decide (0 ≤ x7_1) = true := decide_eq_true c8
 clear c8
 by_cases c9 : x7_1 < (l0.length : Int)
 rotate_left
 ·rw [if_neg c9] at H
  exact absurd H (by simp)
 rw [if_pos c9] at H
 have c9b0 : decide (x7_1 < (l0.length : Int)) = true := decide_eq_true c9
 clear c9
 by_cases c10 : a1 = (rd l0 x7_1)
 ·rw [if_pos c10] at H
  have c10b0 : (a1 == (rd l0 x7_1)) = true := beq_iff_eq.mpr c10
  have c10b1 : (a1 != (rd l0 x7_1)) = false := bne_eq_false_iff_eq.mpr c10
  clear c10
  by_cases c11 : x5_1.length < 17592186044416
  rotate_left
  ·rw [if_neg c11] at H
   exact absurd H (by simp)
  rw [if_pos c11] at H
  have LMc11 := Aside0.mk c11
  clear c11
  obtain ⟨y288, hy288⟩ : ∃ y_ : List Int, y_ = (x5_1 ++ [rd l0 x7_1]) := ⟨_, rfl⟩
  replace H : (fencepostref14_put.l0 kj3 l0 a1 y288 true (wrap64 (x7_1 + 1))) = some r := by first | (rw [hy288]; with_reducible exact H) | (have H2_ := (Option.bind_some _ _).symm.trans H; rw [hy288]; with_reducible exact H2_) | (have H2_ := (Option.bind_some _ _).symm.trans H; with_reducible exact H2_) | with_reducible exact H | (rw [hy288]; exact H) | exact H
  have Ny288 := Aside0.mk hy288
  clear hy288
  have H' := Aside0.mk H
  clear H
  have p286 : 0 ≤ (x7_1 : Int) := of_decide_eq_true as_
  have q286 : x7_1 < (l0.length : Int) := of_decide_eq_true as_
  obtain ⟨ad286, e286, hx286_0⟩ := Kd.at_int HR0.out x7_1 p286 q286
  cases e286
  replace hx286_0 := cl_ HB.out hx286_0
  replace p286 := eq_true p286
  replace q286 := eq_true q286
  have p287 : 0 ≤ (x7_1 : Int) := of_decide_eq_true as_
  have q287 : x7_1 < (l0.length : Int) := of_decide_eq_true as_
  obtain ⟨ad287, e287, hx287_0⟩ := Kd.at_int HR0.out x7_1 p287 q287
  obtain rfl : ad286 = ad287 := (by injection e287)
  replace hx287_0 := cl_ HB.out hx287_0
  replace p287 := eq_true p287
  replace q287 := eq_true q287
  go_wp2_with (first | ((with_reducible refine gate_builtin (b := .append) (xs := #[.tmp 34, .tmp 39]) rfl ?_); at_builtin; refine Kd.R_append (Kd.int .i64) (w0 := w) w.heap.size rfl (.tmp 34) (.tmp 39) 22 3 (.int .i64 0) 8 rfl Try.underlying22 info3 rfl (by decide) (by omega) u5 x5_1 (rd l0 x7_1) [.int .i64 (rd l0 x7_1)] (fun _ => True) (fun _ => False) rfl rfl ?aP (fun _ hk => hk.elim) ?aF ?aO ?aB ?aS ?aL ?_; (case aP => exact rfl); (case aB => exact (hb_ HB.out)); (case aF => exact (fun _ _ => trivial)); (case aO => exact (rd_ HO_5.out)); (case aS => exact (below_size (hb_ HB.out))); (case aL => have := LMc11.out; omega); intro v289 w12 ho hb hg hat; rw [← Ny288.out] at ho; have n0_ := Aside0.mk (hb); have n1_ := Aside0.mk (ho); clear HB; clear HO_5; have HB := n0_; have HO290 := n1_; clear n0_ n1_; clear ho hb hg hat))
  go_roundg kj3
  case measure => have := HK1.out; have := HJ3.out; omega
  case rel => exact ⟨(y288), (true), (wrap64 (x7_1 + 1)), rf_, rf_, H', ⟨by have := HK1.out; have := HJ3.out; omega⟩, ⟨rd_ HO290.out⟩, ⟨hb_ HB.out⟩⟩
 rw [if_neg c10] at H
 have c10b0 : (a1 == (rd l0 x7_1)) = false := beq_eq_false_iff_ne.mpr c10
 have c10b1 : (a1 != (rd l0 x7_1)) = true := bne_iff_ne.mpr c10
 by_cases c13 : x5_1.length < 17592186044416
 rotate_left
 ·rw [if_neg c13] at H
  exact absurd H (by simp)
 rw [if_pos c13] at H
 have LMc13 := Aside0.mk c13
 clear c13
 obtain ⟨y291, hy291⟩ : ∃ y_ : List Int, y_ = (x5_1 ++ [a1]) := ⟨_, rfl⟩
 replace H : (if y291.length < 17592186044416 then (fencepostref14_put.l0 kj3 l0 a1 (y291 ++ [rd l0 x7_1]) true (wrap64 (x7_1 + 1))) else (none)) = some r := by first | (rw [hy291]; with_reducible exact H) | (have H2_ := (Option.bind_some _ _).symm.trans H; rw [hy291]; with_reducible exact H2_) | (have H2_ := (Option.bind_some _ _).symm.trans H; with_reducible exact H2_) | with_reducible exact H | (rw [hy291]; exact H) | exact H
 have Ny291 := Aside0.mk hy291
 clear hy291
 by_cases c14 : y291.length < 17592186044416
 rotate_left
 ·rw [if_neg c14] at H
  exact absurd H (by simp)
 rw [if_pos c14] at H
 have LMc14 := Aside0.mk c14
 clear c14
 obtain ⟨y295, hy295⟩ : ∃ y_ : List Int, y_ = (y291 ++ [rd l0 x7_1]) := ⟨_, rfl⟩
 replace H : (fencepostref14_put.l0 kj3 l0 a1 y295 true (wrap64 (x7_1 + 1))) = some r := by first | (rw [hy295]; with_reducible exact H) | (have H2_ := (Option.bind_some _ _).symm.trans H; rw [hy295]; with_reducible exact H2_) | (have H2_ := (Option.bind_some _ _).symm.trans H; with_reducible exact H2_) | with_reducible exact H | (rw [hy295]; exact H) | exact H
 have Ny295 := Aside0.mk hy295
 clear hy295
 have H' := Aside0.mk H
 clear H
 have p286 : 0 ≤ (x7_1 : Int) := of_decide_eq_true as_
 have q286 : x7_1 < (l0.length : Int) := of_decide_eq_true as_
 obtain ⟨ad286, e286, hx286_0⟩ := Kd.at_int HR0.out x7_1 p286 q286
 cases e286
 replace hx286_0 := cl_ HB.out hx286_0
 replace p286 := eq_true p286
 replace q286 := eq_true q286
 go_wp2_with (first | ((with_reducible refine gate_builtin (b := .append) (xs := #[.tmp 30, .tmp 32]) rfl ?_); at_builtin; refine Kd.R_append (Kd.int .i64) (w0 := w) w.heap.size rfl (.tmp 30) (.tmp 32) 22 3 (.int .i64 0) 8 rfl Try.underlying22 info3 rfl (by decide) (by omega) u5 x5_1 a1 [.int .i64 a1] (fun _ => True) (fun _ => False) rfl rfl ?aP (fun _ hk => hk.elim) ?aF ?aO ?aB ?aS ?aL ?_; (case aP => exact rfl); (case aB => exact (hb_ HB.out)); (case aF => exact (fun _ _ => trivial)); (case aO => exact (rd_ HO_5.out)); (case aS => exact (below_size (hb_ HB.out))); (case aL => have := LMc13.out; omega); intro v292 w15 ho hb hg hat; rw [← Ny291.out] at ho; have n0_ := Aside0.mk (hb); have n1_ := Aside0.mk (ho); clear HB; clear HO_5; have HB := n0_; have HO293 := n1_; clear n0_ n1_; clear ho hb hg hat; have p294 : 0 ≤ (x7_1 : Int) := of_decide_eq_true as_; have q294 : x7_1 < (l0.length : Int) := of_decide_eq_true as_; obtain ⟨ad294, e294, hx294_0⟩ := Kd.at_int HR0.out x7_1 p294 q294; obtain rfl : ad286 = ad294 := (by injection e294); replace hx294_0 := cl_ HB.out hx294_0; replace p294 := eq_true p294; replace q294 := eq_true q294) | ((with_reducible refine gate_builtin (b := .append) (xs := #[.tmp 34, .tmp 39]) rfl ?_); at_builtin; refine Kd.R_append (Kd.int .i64) (w0 := w) w.heap.size rfl (.tmp 34) (.tmp 39) 22 3 (.int .i64 0) 8 rfl Try.underlying22 info3 rfl (by decide) (by omega) v292 y291 (rd l0 x7_1) [.int .i64 (rd l0 x7_1)] (fun _ => True) (fun _ => False) rfl rfl ?aP (fun _ hk => hk.elim) ?aF ?aO ?aB ?aS ?aL ?_; (case aP => exact rfl); (case aB => exact (hb_ HB.out)); (case aF => exact (fun _ _ => trivial)); (case aO => exact (rd_ HO293.out)); (case aS => exact (below_size (hb_ HB.out))); (case aL => have := LMc14.out; omega); intro v296 w16 ho hb hg hat; rw [← Ny295.out] at ho; have n0_ := Aside0.mk (hb); have n1_ := Aside0.mk (ho); clear HB; clear HO293; have HB := n0_; have HO297 := n1_; clear n0_ n1_; clear ho hb hg hat))
 go_roundg kj3
 case measure => have := HK1.out; have := HJ3.out; omega
 case rel => exact ⟨(y295), (true), (wrap64 (x7_1 + 1)), rf_, rf_, H', ⟨by have := HK1.out; have := HJ3.out; omega⟩, ⟨rd_ HO297.out⟩, ⟨hb_ HB.out⟩⟩
mutual
def fencepostref08_Num.j0 : Nat → Int → Int → Bool → List Int → List (List (S36)) → Option (Int)
 | 0, _, _, _, _, _ => none
 | k + 1, x1, x2, x31, x303000, x303001 => if x31 = true then (some (-1)) else (fencepostref08_Num.l0 k x1 x2 0 x303000 x303001)
def fencepostref08_Num.l0 : Nat → Int → Int → Int → List Int → List (List (S36)) → Option (Int)
 | 0, _, _, _, _, _ => none
 | k + 1, x1, x7, x8, x303000, x303001 => if x8 < x1 then (if 0 ≤ x8 then (if x8 < (x303001.length : Int) then (fencepostref08_Num.l0 k x1 (wrap64 (x7 + ((rd_L2 x303001 x8).length : Int))) (wrap64 (x8 + 1)) x303000 x303001) else (none)) else (none)) else (some x7)
end
def fencepostref08_Num.f (k : Nat) (l0_0 : List Int) (l0_1 : List (List (S36))) (a1 : Int) (a2 : Int) : Option (Int) := if a1 < 0 then (fencepostref08_Num.j0 k a1 a2 true l0_0 l0_1) else (if a1 ≥ (l0_1.length : Int) then (fencepostref08_Num.j0 k a1 a2 true l0_0 l0_1) else (if a2 < 0 then (fencepostref08_Num.j0 k a1 a2 true l0_0 l0_1) else (if 0 ≤ a1 then (if a1 < (l0_1.length : Int) then (fencepostref08_Num.j0 k a1 a2 (decide (a2 ≥ ((rd_L2 l0_1 a1).length : Int))) l0_0 l0_1) else (none)) else (none))))
set_option maxHeartbeats 8000000 in
set_option maxRecDepth 100000 in
theorem fencepostref08_Num.calls (k : Nat) (A0_0 : Option Addr) (c0_0 : Nat) (l0_0 : List Int) (A0_1 : Option Addr) (c0_1 : Nat) (l0_1 : List (List (S36))) (a1 : Int) (a2 : Int) (r : Int) (w : World) (hr0_0 : Kd.C (Kd.int .i64) w A0_0 l0_0.length l0_0) (hc0_0 : l0_0.length ≤ c0_0) (hr0_1 : Kd.C (Kd.slice 36 k36) w A0_1 l0_1.length l0_1) (hc0_1 : l0_1.length ≤ c0_1) (h : fencepostref08_Num.f k l0_0 l0_1 a1 a2 = some r) :
 Calls Try.prog 16 #[.agg #[.slice A0_0 l0_0.length c0_0, .slice A0_1 l0_1.length c0_1], .int .i64 a1, .int .i64 a2] w fun e w' => e = .returned (.int .i64 r) ∧ Below w.heap.size w w' := by
 have hu25 := Try.underlying25
 have HR0_0 := Aside0.mk hr0_0
 have HC0_0 := Aside0.mk hc0_0
 clear hr0_0 hc0_0
 have HR0_1 := Aside0.mk hr0_1
 have HC0_1 := Aside0.mk hc0_1
 clear hr0_1 hc0_1
 have HB := Aside0.mk (Below.refl w.heap.size w)
 have H : (if a1 < 0 then (fencepostref08_Num.j0 k a1 a2 true l0_0 l0_1) else (if a1 ≥ (l0_1.length : Int) then (fencepostref08_Num.j0 k a1 a2 true l0_0 l0_1) else (if a2 < 0 then (fencepostref08_Num.j0 k a1 a2 true l0_0 l0_1) else (if 0 ≤ a1 then (if a1 < (l0_1.length : Int) then (fencepostref08_Num.j0 k a1 a2 (decide (a2 ≥ ((rd_L2 l0_1 a1).length : Int))) l0_0 l0_1) else (none)) else (none))))) = some r := h
 clear h
 have HC4 := Aside0.mk H
 clear H
 go_enter Try.func16, Try.ntmps16
 go_upto_region 1 with (first | ((with_reducible refine gate_dst (N := 3) rfl ?_); (try (refine gate_guard (by rfl) ?_; dsimp only)); refine box_event ?hg (N := 3) ?hd (cs := #[.slice A0_0 l0_0.length c0_0, .slice A0_1 l0_1.length c0_1]) (t := 25) ?hr ?_; (case hd => rfl); (case hg => rfl); (case hr => first | (go_simp; done) | (go_simp; rfl)); intro gb302 hg w5 hbox hb; have n0_ := Aside0.mk (below_step (hb_ HB.out) hb); have n1_ := Aside0.mk (hbox); have n2_ := Aside0.mk (gs_ hg (hb_ HB.out)); have n3_ := Aside0.mk (gs_ hg (hb_ HB.out)); clear HB; have HB := n0_; have BK302 := n1_; have GW302 := n2_; have GE302 := n3_; clear n0_ n1_ n2_ n3_; clear hb hbox hg))
 (try simp only [Act.put, List.setIfInBounds_toArray, List.set_cons_zero, List.set_cons_succ])
 go_cut [31] (fun v31 wc => ∃ (kq : Nat) (x31_3 : Bool), v31 = .bool x31_3 ∧ Aside0 (fencepostref08_Num.j0 kq a1 a2 x31_3 l0_0 l0_1 = some r) ∧ Aside0 (kq ≤ k) ∧ Aside0 (wc.heap[gb302]? = some (.cells #[(.slice A0_0 l0_0.length c0_0), (.slice A0_1 l0_1.length c0_1)] 25 (0, 0))) ∧ Aside0 (Below w.heap.size w wc))
 case first =>
  have H := HC4.out
  clear HC4
  by_cases c6 : a1 < 0
  ·rw [if_pos c6] at H
   have c6b0 : decide (a1 < 0) = true := decide_eq_true c6
   clear c6
   (first | rw [c6b0] | (simp only [i64_w, i32_w]; rw [c6b0]) | skip)
   have H' := Aside0.mk H
   clear H
   go_wp2
   go_meet
   case rel => exact ⟨_, (true), rf_, H', ⟨by first | omega | exact Nat.le_refl _⟩, ⟨bd_ BK302.out⟩, ⟨hb_ HB.out⟩⟩
  rw [if_neg c6] at H
  have c6b0 : decide (a1 < 0) = false := decide_eq_false c6
  clear c6
  (first | rw [c6b0] | (simp only [i64_w, i32_w]; rw [c6b0]) | skip)
  by_cases c7 : a1 ≥ (l0_1.length : Int)
  ·rw [if_pos c7] at H
   have c7b0 : decide ((l0_1.length : Int) ≤ a1) = true := decide_eq_true c7
   clear c7
   have H' := Aside0.mk H
   clear H
   have hcz8_0 : w5.cell? ⟨gb302, 0, none⟩ = some (.slice A0_0 l0_0.length c0_0) := (blk_cell BK302.out 0).trans rfl
   have hcz8_1 : w5.cell? ⟨gb302, 1, none⟩ = some (.slice A0_1 l0_1.length c0_1) := (blk_cell BK302.out 1).trans rfl
   have hfz8_0 := blk_frozen BK302.out 0
   have hfz8_1 := blk_frozen BK302.out 1
   go_wp2
   go_meet
   case rel => exact ⟨_, (true), rf_, H', ⟨by first | omega | exact Nat.le_refl _⟩, ⟨bd_ BK302.out⟩, ⟨hb_ HB.out⟩⟩
  rw [if_neg c7] at H
  have c7b0 : decide ((l0_1.length : Int) ≤ a1) = false := decide_eq_false c7
  clear c7
  by_cases c9 : a2 < 0
  ·rw [if_pos c9] at H
   have c9b0 : decide (a2 < 0) = true := decide_eq_true c9
   clear c9
   have H' := Aside0.mk H
   clear H
   have hcz10_0 : w5.cell? ⟨gb302, 0, none⟩ = some (.slice A0_0 l0_0.length c0_0) := (blk_cell BK302.out 0).trans rfl
   have hcz10_1 : w5.cell? ⟨gb302, 1, none⟩ = some (.slice A0_1 l0_1.length c0_1) := (blk_cell BK302.out 1).trans rfl
   have hfz10_0 := blk_frozen BK302.out 0
   have hfz10_1 := blk_frozen BK302.out 1
   go_wp2
   go_meet
   case rel => exact ⟨_, (true), rf_, H', ⟨by first | omega | exact Nat.le_refl _⟩, ⟨bd_ BK302.out⟩, ⟨hb_ HB.out⟩⟩
  rw [if_neg c9] at H
  have c9b0 : decide (a2 < 0) = false := decide_eq_false c9
  clear c9
  by_cases c11 : 0 ≤ a1
  rotate_left
  ·rw [if_neg c11] at H
   exact absurd H (by simp)
  rw [if_pos c11] at H
  have c11b0 : decide (0 ≤ a1) = true := decide_eq_true c11
  clear c11
  by_cases c12 : a1 < (l0_1.length : Int)
  rotate_left
  ·rw [if_neg c12] at H
   exact absurd H (by simp)
  rw [if_pos c12] at H
  have c12b0 : decide (a1 < (l0_1.length : Int)) = true := decide_eq_true c12
  clear c12
  have H' := Aside0.mk H
  clear H
  have hcz13_0 : w5.cell? ⟨gb302, 0, none⟩ = some (.slice A0_0 l0_0.length c0_0) := (blk_cell BK302.out 0).trans rfl
  have hcz13_1 : w5.cell? ⟨gb302, 1, none⟩ = some (.slice A0_1 l0_1.length c0_1) := (blk_cell BK302.out 1).trans rfl
  have hfz13_0 := blk_frozen BK302.out 0
  have hfz13_1 := blk_frozen BK302.out 1
  have p303 : 0 ≤ (a1 : Int) := of_decide_eq_true as_
  have q303 : a1 < (l0_1.length : Int) := of_decide_eq_true as_
  obtain ⟨ad303, A303_0, c303_0, e303, hx303_0, hl303_0, hi303_0⟩ := at_L2 HR0_1.out a1 p303 q303
  cases e303
  replace hx303_0 := cl_ HB.out hx303_0
  have HR303_0 := Aside0.mk hi303_0
  have HC303_0 := Aside0.mk hl303_0
  clear hi303_0 hl303_0
  replace p303 := eq_true p303
  replace q303 := eq_true q303
  go_wp2
  go_meet
  case rel => exact ⟨_, (decide (a2 ≥ ((rd_L2 l0_1 a1).length : Int))), rf_, H', ⟨by first | omega | exact Nat.le_refl _⟩, ⟨bd_ BK302.out⟩, ⟨hb_ HB.out⟩⟩
 clear HC4
 obtain ⟨kq, x31_3, rfl, HA, HJ3, BK302, HB⟩ := hcut
 cases kq with
 | zero => exact absurd HA.out (by simp [fencepostref08_Num.j0])
 | succ kj3 => ?_
 have H := HA.out
 clear HA
 simp only [fencepostref08_Num.j0] at H
 by_cases c14 : x31_3 = true
 ·subst c14
  have H1 : (some (-1)) = some r := by rw [if_pos rfl] at H; exact H
  clear H
  have H := H1
  clear H1
  obtain rfl := Option.some.inj H
  go_wp2
  go_ret
  exact ⟨by first | rfl | (simp [errW_none, errW_some] <;> rfl) | (simp [*, errW_none, errW_some] <;> rfl), hb_ HB.out⟩
 replace c14 := Bool.eq_false_iff.mpr c14
 subst c14
 have H1 : (fencepostref08_Num.l0 kj3 a1 a2 0 l0_0 l0_1) = some r := by rw [if_neg (show ¬ (false = true) by decide)] at H; exact H
 clear H
 have H := H1
 clear H1
 have H' := Aside0.mk H
 clear H
 go_wp2
 go_loopg [7, 8] kj3 (fun kq v7 v8 w' => ∃ (x7_2 : Int) (x8_2 : Int), v7 = .int .i64 x7_2 ∧ v8 = .int .i64 x8_2 ∧ Aside0 (fencepostref08_Num.l0 kq a1 x7_2 x8_2 l0_0 l0_1 = some r) ∧ Aside0 (kq ≤ kj3) ∧ Aside0 (w'.heap[gb302]? = some (.cells #[(.slice A0_0 l0_0.length c0_0), (.slice A0_1 l0_1.length c0_1)] 25 (0, 0))) ∧ Aside0 (Below w.heap.size w w'))
 case atStart => exact ⟨(a2), (0), rf_, rf_, H', ⟨Nat.le_refl _⟩, ⟨bd_ BK302.out⟩, ⟨hb_ HB.out⟩⟩
 clear H'
 try clear c14
 obtain ⟨x7_2, x8_2, rfl, rfl, HA, HK2, BK302, HB⟩ := hrel
 cases gk with
 | zero => exact absurd HA.out (by simp [fencepostref08_Num.l0])
 | succ k2 => ?_
 have H := HA.out
 clear HA
 simp only [fencepostref08_Num.l0] at H
 by_cases c15 : x8_2 < a1
 rotate_left
 ·rw [if_neg c15] at H
  have c15b0 : decide (x8_2 < a1) = false := decide_eq_false c15
  clear c15
  obtain rfl := Option.some.inj H
  go_wp2
  go_ret
  exact ⟨by first | rfl | (simp [errW_none, errW_some] <;> rfl) | (simp [*, errW_none, errW_some] <;> rfl), hb_ HB.out⟩
 rw [if_pos c15] at H
 have c15b0 : decide (x8_2 < a1) = true := decide_eq_true c15
 clear c15
 by_cases c16 : 0 ≤ x8_2
 rotate_left
 ·rw [if_neg c16] at H
  exact absurd H (by simp)
 rw [if_pos c16] at H
 have c16b0 : decide (0 ≤ x8_2) = true := decide_eq_true c16
 clear c16
 by_cases c17 : x8_2 < (l0_1.length : Int)
 rotate_left
 ·rw [if_neg c17] at H
  exact absurd H (by simp)
 rw [if_pos c17] at H
 have c17b0 : decide (x8_2 < (l0_1.length : Int)) = true := decide_eq_true c17
 clear c17
 have H' := Aside0.mk H
 clear H
 have hcz18_0 : wr.cell? ⟨gb302, 0, none⟩ = some (.slice A0_0 l0_0.length c0_0) := (blk_cell BK302.out 0).trans rfl
 have hcz18_1 : wr.cell? ⟨gb302, 1, none⟩ = some (.slice A0_1 l0_1.length c0_1) := (blk_cell BK302.out 1).trans rfl
 have hfz18_0 := blk_frozen BK302.out 0
 have hfz18_1 := blk_frozen BK302.out 1
 have p304 : 0 ≤ (x8_2 : Int) := of_decide_eq_true as_
 have q304 : x8_2 < (l0_1.length : Int) := of_decide_eq_true as_
 obtain ⟨ad304, A304_0, c304_0, e304, hx304_0, hl304_0, hi304_0⟩ := at_L2 HR0_1.out x8_2 p304 q304
 cases e304
 replace hx304_0 := cl_ HB.out hx304_0
 have HR304_0 := Aside0.mk hi304_0
 have HC304_0 := Aside0.mk hl304_0
 clear hi304_0 hl304_0
 replace p304 := eq_true p304
 replace q304 := eq_true q304
 go_wp2
 go_roundg k2
 case measure => have := HJ3.out; have := HK2.out; omega
 case rel => exact ⟨(wrap64 (x7_2 + ((rd_L2 l0_1 x8_2).length : Int))), (wrap64 (x8_2 + 1)), rf_, rf_, H', ⟨by have := HJ3.out; have := HK2.out; omega⟩, ⟨bd_ BK302.out⟩, ⟨hb_ HB.out⟩⟩
end Go.Proofs.Ytphklaajolpieaa.Print
