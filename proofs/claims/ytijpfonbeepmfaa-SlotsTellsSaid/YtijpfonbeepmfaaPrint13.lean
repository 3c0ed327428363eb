-- Written by ownprint.py (this session's) with the kit's print.py: functions, contracts, rows; Lean checks it.
import Derived.Test.YtijpfonbeepmfaaPrint0
import Derived.Test.YtijpfonbeepmfaaPrint12
import Derived.Test.YtijpfonbeepmfaaPrint1
namespace Go.Proofs.Ytijpfonbeepmfaa.Print
open Go.RowKit Go.Proofs.YtijpfonbeepmfaaW.PrintWords Go.Proofs.YtijpfonbeepmfaaW.PrintLast Go.Proofs.YtijpfonbeepmfaaW.PrintMore
attribute [local go_sem] max2_int min2_int max_two min_two max_three min_three max_four min_four   -- for this text's walks alone
set_option linter.unusedVariables false
set_option linter.unusedSimpArgs false
mutual
def fencepostref08_without.l0 : Nat → List (S60) → List Int → Int → List (S60) → Int → Bool → Int → Option ((List (S60)) × Int)
 | 0, _, _, _, _, _, _, _ => none
 | k + 1, x0, x1, x2, x8, x9, x10, x11 => if x11 < (x0.length : Int) then (if 0 ≤ x11 then (if ((rd_T60 x0 x11).f0) = 11 then (fencepostref08_without.j1 k x0 x1 x2 x8 x9 x10 x11 false) else ((fencepostref08_Has.f k x1 (wrap64 (x2 + x9))).bind fun t197 => (if t197 = true then (fencepostref08_without.j1 k x0 x1 x2 x8 x9 x10 x11 (!x10)) else (fencepostref08_without.j1 k x0 x1 x2 x8 x9 x10 x11 false)))) else (none)) else (some (x8, x9))
def fencepostref08_without.j1 : Nat → List (S60) → List Int → Int → List (S60) → Int → Bool → Int → Bool → Option ((List (S60)) × Int)
 | 0, _, _, _, _, _, _, _, _ => none
 | k + 1, x0, x1, x2, x8, x9, x10, x11, x34 => if x34 = true then (fencepostref08_without.l0 k x0 x1 x2 x8 x9 true (wrap64 (x11 + 1))) else (if 0 ≤ x11 then (if x11 < (x0.length : Int) then (if x8.length < 2199023255552 then ((some (x8 ++ [(⟨(rd_T60 x0 x11).f0, (rd_T60 x0 x11).f1, (rd_T60 x0 x11).f2, (rd_T60 x0 x11).f3, (rd_T60 x0 x11).f4⟩ : S60)] : List (S60))).bind fun y199 => (if ((rd_T60 x0 x11).f0) = 11 then (fencepostref08_without.l0 k x0 x1 x2 y199 x9 x10 (wrap64 (x11 + 1))) else (fencepostref08_without.l0 k x0 x1 x2 y199 (wrap64 (x9 + 1)) false (wrap64 (x11 + 1))))) else (none)) else (none)) else (none))
end
def fencepostref08_without.f (k : Nat) (l0 : List (S60)) (l1 : List Int) (a2 : Int) : Option ((List (S60)) × Int) := fencepostref08_without.l0 k l0 l1 a2 ([] : List (S60)) 0 false 0
theorem fencepostref08_without.mono_l : ∀ k, (∀ y0 y1 y2 y3 y4 y5 y6, LeO (fencepostref08_without.l0 k y0 y1 y2 y3 y4 y5 y6) (fencepostref08_without.l0 (k + 1) y0 y1 y2 y3 y4 y5 y6)) ∧ (∀ y0 y1 y2 y3 y4 y5 y6 y7, LeO (fencepostref08_without.j1 k y0 y1 y2 y3 y4 y5 y6 y7) (fencepostref08_without.j1 (k + 1) y0 y1 y2 y3 y4 y5 y6 y7))
 | 0 => ⟨fun _ _ _ _ _ _ _ r h => by simp [fencepostref08_without.l0] at h, fun _ _ _ _ _ _ _ _ r h => by simp [fencepostref08_without.j1] at h⟩
 | k + 1 => by
  obtain ⟨ih0, ih1⟩ := fencepostref08_without.mono_l k
  refine ⟨?_, ?_⟩
  ·intro y0 y1 y2 y3 y4 y5 y6
   unfold fencepostref08_without.l0
   repeat' first
   | (with_reducible exact ih0 _ _ _ _ _ _ _)
   | (with_reducible exact ih1 _ _ _ _ _ _ _ _)
   | (with_reducible exact fencepostref08_Has.mono _ _ _)
   | (with_reducible exact LeO.refl _)
   | (with_reducible exact LeO.none _)
   | (with_reducible refine LeO.ite ?_ ?_)
   | (with_reducible refine LeO.bind ?_ (fun _ => ?_))
   | exact ih0 _ _ _ _ _ _ _
   | exact ih1 _ _ _ _ _ _ _ _
   | exact fencepostref08_Has.mono _ _ _
   | exact LeO.none _
   | refine LeO.ite ?_ ?_
   | refine LeO.bind ?_ (fun _ => ?_)
  ·intro y0 y1 y2 y3 y4 y5 y6 y7
   unfold fencepostref08_without.j1
   repeat' first
   | (with_reducible exact ih0 _ _ _ _ _ _ _)
   | (with_reducible exact ih1 _ _ _ _ _ _ _ _)
   | (with_reducible exact fencepostref08_Has.mono _ _ _)
   | (with_reducible exact LeO.refl _)
   | (with_reducible exact LeO.none _)
   | (with_reducible refine LeO.ite ?_ ?_)
   | (with_reducible refine LeO.bind ?_ (fun _ => ?_))
   | exact ih0 _ _ _ _ _ _ _
   | exact ih1 _ _ _ _ _ _ _ _
   | exact fencepostref08_Has.mono _ _ _
   | exact LeO.none _
   | refine LeO.ite ?_ ?_
   | refine LeO.bind ?_ (fun _ => ?_)
theorem fencepostref08_without.mono : ∀ a0 a1 a2 k, LeO (fencepostref08_without.f k a0 a1 a2) (fencepostref08_without.f (k + 1) a0 a1 a2) := by
 intro a0 a1 a2 k
 obtain ⟨ih0, ih1⟩ := fencepostref08_without.mono_l k
 unfold fencepostref08_without.f
 repeat' first
  | (with_reducible exact ih0 _ _ _ _ _ _ _)
  | (with_reducible exact ih1 _ _ _ _ _ _ _ _)
  | (with_reducible exact fencepostref08_Has.mono _ _ _)
  | (with_reducible exact LeO.refl _)
  | (with_reducible exact LeO.none _)
  | (with_reducible refine LeO.ite ?_ ?_)
  | (with_reducible refine LeO.bind ?_ (fun _ => ?_))
  | exact ih0 _ _ _ _ _ _ _
  | exact ih1 _ _ _ _ _ _ _ _
  | exact fencepostref08_Has.mono _ _ _
  | exact LeO.none _
  | refine LeO.ite ?_ ?_
  | refine LeO.bind ?_ (fun _ => ?_)
set_option maxHeartbeats 8000000 in
set_option maxRecDepth 100000 in
theorem fencepostref08_without.calls (k : Nat) (A0 : Option Addr) (c0 : Nat) (l0 : List (S60)) (A1 : Option Addr) (c1 : Nat) (l1 : List Int) (a2 : Int) (r1 : List (S60)) (r2 : Int) (w : World) (hr0 : Kd.C k60 w A0 l0.length l0) (hc0 : l0.length ≤ c0) (hr1 : Kd.C (Kd.int .i64) w A1 l1.length l1) (hc1 : l1.length ≤ c1) (h : fencepostref08_without.f k l0 l1 a2 = some (r1, r2)) :
 Calls Try.prog 39 #[.slice A0 l0.length c0, .slice A1 l1.length c1, .int .i64 a2] w fun e w' => ∃ v0_ : Value, e = .returned (.tuple #[v0_, .int .i64 r2]) ∧ Kd.R k60 60 w' w.heap.size (fun _ => True) v0_ r1 ∧ Below w.heap.size w w' := by
 have hu60 := Try.underlying60
 have HR0 := Aside0.mk hr0
 have HC0 := Aside0.mk hc0
 clear hr0 hc0
 have HR1 := Aside0.mk hr1
 have HC1 := Aside0.mk hc1
 clear hr1 hc1
 have HB := Aside0.mk (Below.refl w.heap.size w)
 have H : (fencepostref08_without.l0 k l0 l1 a2 ([] : List (S60)) 0 false 0) = some (r1, r2) := h
 clear h
 have H' := Aside0.mk H
 clear H
 go_enter Try.func39, Try.ntmps39
 go_wp2
 go_loopg [8, 9, 10, 11] k (fun kq v8 v9 v10 v11 w' => ∃ (x8_1 : List (S60)) (x9_1 : Int) (x10_1 : Bool) (x11_1 : Int), v9 = .int .i64 x9_1 ∧ v10 = .bool x10_1 ∧ v11 = .int .i64 x11_1 ∧ Aside0 (fencepostref08_without.l0 kq l0 l1 a2 x8_1 x9_1 x10_1 x11_1 = some (r1, r2)) ∧ Aside0 (kq ≤ k) ∧ Aside0 (Kd.R k60 60 w' w.heap.size (fun _ => True) v8 x8_1) ∧ Aside0 (Below w.heap.size w w'))
 case atStart => exact ⟨(([] : List (S60))), (0), (false), (0), rf_, rf_, rf_, H', ⟨Nat.le_refl _⟩, ⟨by first | exact Kd.R_nil _ _ _ _ _ | exact Kd.N_nil _ _ _ _ _ | exact Kd.V_nil _ _ _ _ _ | exact Kd.Q_nil _ _ _ _ _ | exact Kd.S_nil _ _ _ _ _⟩, ⟨hb_ HB.out⟩⟩
 clear H'
 try clear c1
 obtain ⟨x8_1, x9_1, x10_1, x11_1, rfl, rfl, rfl, HA, HK1, HO_8, HB⟩ := hrel
 cases gk with
 | zero => exact absurd HA.out (by simp [fencepostref08_without.l0])
 | succ k1 => ?_
 have H := HA.out
 clear HA
 simp only [fencepostref08_without.l0] at H
 by_cases c4 : x11_1 < (l0.length : Int)
 rotate_left
 ·rw [if_neg c4] at H
  have c4b0 : decide (x11_1 < (l0.length : Int)) = false := decide_eq_false c4
  clear c4
  simp only [Option.some.injEq, Prod.mk.injEq] at H
  obtain ⟨rfl, rfl⟩ := H
  go_wp2
  go_ret2
  exact ⟨_, by first | rfl | (simp [errW_none, errW_some] <;> rfl) | (simp [*, errW_none, errW_some] <;> rfl), rd_ HO_8.out, hb_ HB.out⟩
 rw [if_pos c4] at H
 have c4b0 : decide (x11_1 < (l0.length : Int)) = true := decide_eq_true c4
 clear c4
 have HC5 := Aside0.mk H
 clear H
 go_upto_region 7 with (fail)
 go_cut [34] (fun v34 wc => ∃ (kq : Nat) (x34_4 : Bool), v34 = .bool x34_4 ∧ Aside0 (fencepostref08_without.j1 kq l0 l1 a2 x8_1 x9_1 x10_1 x11_1 x34_4 = some (r1, r2)) ∧ Aside0 (kq ≤ k1) ∧ Aside0 (Kd.R k60 60 wc w.heap.size (fun _ => True) u8 x8_1) ∧ Aside0 (Below w.heap.size w wc))
 case first =>
  have H := HC5.out
  clear HC5
  by_cases c6 : 0 ≤ x11_1
  rotate_left
  ·rw [if_neg c6] at H
   exact absurd H (by simp)
  rw [if_pos c6] at H
  have c6b0 : decide (0 ≤ x11_1) = true := decide_eq_true c6
  clear c6
  (first | rw [c6b0] | (simp only [i64_w, i32_w]; rw [c6b0]) | skip)
  by_cases c7 : ((rd_T60 l0 x11_1).f0) = 11
  ·rw [if_pos c7] at H
   have c7b0 : (((rd_T60 l0 x11_1).f0) == 11) = true := beq_iff_eq.mpr c7
   have c7b1 : (((rd_T60 l0 x11_1).f0) != 11) = false := bne_eq_false_iff_eq.mpr c7
   clear c7
   have H' := Aside0.mk H
   clear H
   have p196 : 0 ≤ (x11_1 : Int) := of_decide_eq_true as_
   have q196 : x11_1 < (l0.length : Int) := of_decide_eq_true as_
   obtain ⟨ad196, e196, hx196_0, hx196_1, hx196_2, hx196_3, hx196_4⟩ := at_T60 HR0.out x11_1 p196 q196
   cases e196
   replace hx196_0 := cl_ HB.out hx196_0
   replace hx196_1 := cl_ HB.out hx196_1
   replace hx196_2 := cl_ HB.out hx196_2
   replace hx196_3 := cl_ HB.out hx196_3
   replace hx196_4 := cl_ HB.out hx196_4
   replace p196 := eq_true p196
   replace q196 := eq_true q196
   go_wp2
   go_meet
   case rel => exact ⟨_, (false), rf_, H', ⟨by have := HK1.out; first | omega | exact Nat.le_refl _⟩, ⟨rd_ HO_8.out⟩, ⟨hb_ HB.out⟩⟩
  rw [if_neg c7] at H
  have c7b0 : (((rd_T60 l0 x11_1).f0) == 11) = false := beq_eq_false_iff_ne.mpr c7
  have c7b1 : (((rd_T60 l0 x11_1).f0) != 11) = true := bne_iff_ne.mpr c7
  replace H := Option.bind_eq_some_iff.mp H
  obtain ⟨t197, A80, H⟩ := H
  replace H : (if t197 = true then (fencepostref08_without.j1 k1 l0 l1 a2 x8_1 x9_1 x10_1 x11_1 (!x10_1)) else (fencepostref08_without.j1 k1 l0 l1 a2 x8_1 x9_1 x10_1 x11_1 false)) = some (r1, r2) := H
  have A8 := Aside0.mk A80
  clear A80
  by_cases c9 : t197 = true
  ·subst c9
   have H1 : (fencepostref08_without.j1 k1 l0 l1 a2 x8_1 x9_1 x10_1 x11_1 (!x10_1)) = some (r1, r2) := by rw [if_pos rfl] at H; exact H
   clear H
   have H := H1
   clear H1
   have H' := Aside0.mk H
   clear H
   have p196 : 0 ≤ (x11_1 : Int) := of_decide_eq_true as_
   have q196 : x11_1 < (l0.length : Int) := of_decide_eq_true as_
   obtain ⟨ad196, e196, hx196_0, hx196_1, hx196_2, hx196_3, hx196_4⟩ := at_T60 HR0.out x11_1 p196 q196
   cases e196
   replace hx196_0 := cl_ HB.out hx196_0
   replace hx196_1 := cl_ HB.out hx196_1
   replace hx196_2 := cl_ HB.out hx196_2
   replace hx196_3 := cl_ HB.out hx196_3
   replace hx196_4 := cl_ HB.out hx196_4
   replace p196 := eq_true p196
   replace q196 := eq_true q196
   go_wp2_with (first | (go_at_call 29; (with_reducible refine (fencepostref08_Has.calls k1 _ _ l1 (wrap64 (a2 + x9_1)) true _ ?side1 ?side2 A8.out).mono ?_); (case side1 => exact cd_ (Kd.C_below HR1.out HB.out)); (case side2 => exact HC1.out); rintro e w' ⟨rfl, ⟨nd, rfl⟩⟩))
   go_meet
   case rel => exact ⟨_, (!x10_1), rf_, H', ⟨by have := HK1.out; first | omega | exact Nat.le_refl _⟩, ⟨rd_ HO_8.out⟩, ⟨hb_ HB.out⟩⟩
  replace c9 := Bool.eq_false_iff.mpr c9
  subst c9
  have H1 : (fencepostref08_without.j1 k1 l0 l1 a2 x8_1 x9_1 x10_1 x11_1 false) = some (r1, r2) := by rw [if_neg (show ¬ (false = true) by decide)] at H; exact H
  clear H
  have H := H1
  clear H1
  have H' := Aside0.mk H
  clear H
  have p196 : 0 ≤ (x11_1 : Int) := of_decide_eq_true as_
  have q196 : x11_1 < (l0.length : Int) := of_decide_eq_true as_
  obtain ⟨ad196, e196, hx196_0, hx196_1, hx196_2, hx196_3, hx196_4⟩ := at_T60 HR0.out x11_1 p196 q196
  cases e196
  replace hx196_0 := cl_ HB.out hx196_0
  replace hx196_1 := cl_ HB.out hx196_1
  replace hx196_2 := cl_ HB.out hx196_2
  replace hx196_3 := cl_ HB.out hx196_3
  replace hx196_4 := cl_ HB.out hx196_4
  replace p196 := eq_true p196
  replace q196 := eq_true q196
  go_wp2_with (first | (go_at_call 29; (with_reducible refine (fencepostref08_Has.calls k1 _ _ l1 (wrap64 (a2 + x9_1)) false _ ?side1 ?side2 A8.out).mono ?_); (case side1 => exact cd_ (Kd.C_below HR1.out HB.out)); (case side2 => exact HC1.out); rintro e w' ⟨rfl, ⟨nd, rfl⟩⟩))
  go_meet
  case rel => exact ⟨_, (false), rf_, H', ⟨by have := HK1.out; first | omega | exact Nat.le_refl _⟩, ⟨rd_ HO_8.out⟩, ⟨hb_ HB.out⟩⟩
 clear HC5
 try clear c1
 try clear c4
 try clear c4b0
 obtain ⟨kq, x34_4, rfl, HA, HJ4, HO_8, HB⟩ := hcut
 cases kq with
 | zero => exact absurd HA.out (by simp [fencepostref08_without.j1])
 | succ kj4 => ?_
 have H := HA.out
 clear HA
 simp only [fencepostref08_without.j1] at H
 by_cases c10 : x34_4 = true
 ·subst c10
  have H1 : (fencepostref08_without.l0 kj4 l0 l1 a2 x8_1 x9_1 true (wrap64 (x11_1 + 1))) = some (r1, r2) := by rw [if_pos rfl] at H; exact H
  clear H
  have H := H1
  clear H1
  have H' := Aside0.mk H
  clear H
  go_wp2
  go_roundg kj4
  case measure => have := HK1.out; have := HJ4.out; omega
  case rel => exact ⟨(x8_1), (x9_1), (true), (wrap64 (x11_1 + 1)), rf_, rf_, rf_, H', ⟨by have := HK1.out; have := HJ4.out; omega⟩, ⟨rd_ HO_8.out⟩, ⟨hb_ HB.out⟩⟩
 replace c10 := Bool.eq_false_iff.mpr c10
 subst c10
 have H1 : (if 0 ≤ x11_1 then (if x11_1 < (l0.length : Int) then (if x8_1.length < 2199023255552 then ((some (x8_1 ++ [(⟨(rd_T60 l0 x11_1).f0, (rd_T60 l0 x11_1).f1, (rd_T60 l0 x11_1).f2, (rd_T60 l0 x11_1).f3, (rd_T60 l0 x11_1).f4⟩ : S60)] : List (S60))).bind fun y199 => (if ((rd_T60 l0 x11_1).f0) = 11 then (fencepostref08_without.l0 kj4 l0 l1 a2 y199 x9_1 x10_1 (wrap64 (x11_1 + 1))) else (fencepostref08_without.l0 kj4 l0 l1 a2 y199 (wrap64 (x9_1 + 1)) false (wrap64 (x11_1 + 1))))) else (none)) else (none)) else (none)) = some (r1, r2) := by rw [if_neg (show ¬ (false = true) by decide)] at H; exact H
 clear H
 have H := H1
 clear H1
 by_cases c11 : 0 ≤ x11_1
 rotate_left
 ·rw [if_neg c11] at H
  exact absurd H (by simp)
 rw [if_pos c11] at H
 have c11b0 : decide (0 ≤ x11_1) = true := decide_eq_true c11
 clear c11
 by_cases c12 : x11_1 < (l0.length : Int)
 rotate_left
 ·rw [if_neg c12] at H
  exact absurd H (by simp)
 rw [if_pos c12] at H
 have c12b0 : decide (x11_1 < (l0.length : Int)) = true := decide_eq_true c12
 clear c12
 by_cases c13 : x8_1.length < 2199023255552
 rotate_left
 ·rw [if_neg c13] at H
  exact absurd H (by simp)
 rw [if_pos c13] at H
 have LMc13 := Aside0.mk c13
 clear c13
 obtain ⟨y199, hy199⟩ : ∃ y_ : List (S60), y_ = (x8_1 ++ [(⟨(rd_T60 l0 x11_1).f0, (rd_T60 l0 x11_1).f1, (rd_T60 l0 x11_1).f2, (rd_T60 l0 x11_1).f3, (rd_T60 l0 x11_1).f4⟩ : S60)]) := ⟨_, rfl⟩
 replace H : (if ((rd_T60 l0 x11_1).f0) = 11 then (fencepostref08_without.l0 kj4 l0 l1 a2 y199 x9_1 x10_1 (wrap64 (x11_1 + 1))) else (fencepostref08_without.l0 kj4 l0 l1 a2 y199 (wrap64 (x9_1 + 1)) false (wrap64 (x11_1 + 1)))) = some (r1, r2) := by first | (rw [hy199]; with_reducible exact H) | (have H2_ := (Option.bind_some _ _).symm.trans H; rw [hy199]; with_reducible exact H2_) | (have H2_ := (Option.bind_some _ _).symm.trans H; with_reducible exact H2_) | with_reducible exact H | (rw [hy199]; exact H) | exact H
 have Ny199 := Aside0.mk hy199
 clear hy199
 by_cases c14 : ((rd_T60 l0 x11_1).f0) = 11
 ·rw [if_pos c14] at H
  have c14b0 : (((rd_T60 l0 x11_1).f0) == 11) = true := beq_iff_eq.mpr c14
  have c14b1 : (((rd_T60 l0 x11_1).f0) != 11) = false := bne_eq_false_iff_eq.mpr c14
  clear c14
  have H' := Aside0.mk H
  clear H
  have p198 : 0 ≤ (x11_1 : Int) := of_decide_eq_true as_
  have q198 : x11_1 < (l0.length : Int) := of_decide_eq_true as_
  obtain ⟨ad198, e198, hx198_0, hx198_1, hx198_2, hx198_3, hx198_4⟩ := at_T60 HR0.out x11_1 p198 q198
  cases e198
  replace hx198_0 := cl_ HB.out hx198_0
  replace hx198_1 := cl_ HB.out hx198_1
  replace hx198_2 := cl_ HB.out hx198_2
  replace hx198_3 := cl_ HB.out hx198_3
  replace hx198_4 := cl_ HB.out hx198_4
  replace p198 := eq_true p198
  replace q198 := eq_true q198
  go_wp2_with (first | ((with_reducible refine gate_builtin (b := .append) (xs := #[.tmp 35, .tmp 40]) rfl ?_); at_builtin; refine Kd.R_append k60 (w0 := w) w.heap.size rfl (.tmp 35) (.tmp 40) 56 60 (.agg #[(.int .i64 0), (.string ⟨#[]⟩), (.string ⟨#[]⟩), (.string ⟨#[]⟩), (.int .i64 0)]) 64 rfl Try.underlying56 info60 rfl (by decide) (by omega) u8 x8_1 (⟨(rd_T60 l0 x11_1).f0, (rd_T60 l0 x11_1).f1, (rd_T60 l0 x11_1).f2, (rd_T60 l0 x11_1).f3, (rd_T60 l0 x11_1).f4⟩ : S60) [.int .i64 ((rd_T60 l0 x11_1).f0), .string ((rd_T60 l0 x11_1).f1), .string ((rd_T60 l0 x11_1).f2), .string ((rd_T60 l0 x11_1).f3), .int .i64 ((rd_T60 l0 x11_1).f4)] (fun _ => True) (fun _ => False) rfl rfl ?aP (fun _ hk => hk.elim) ?aF ?aO ?aB ?aS ?aL ?_; (case aP => exact k60_mkM _ _ _ (⟨(rd_T60 l0 x11_1).f0, (rd_T60 l0 x11_1).f1, (rd_T60 l0 x11_1).f2, (rd_T60 l0 x11_1).f3, (rd_T60 l0 x11_1).f4⟩ : S60)); (case aB => exact (hb_ HB.out)); (case aF => exact (fun _ _ => trivial)); (case aO => exact (rd_ HO_8.out)); (case aS => exact (below_size (hb_ HB.out))); (case aL => have := LMc13.out; omega); intro v200 w15 ho hb hg hat; rw [← Ny199.out] at ho; have n0_ := Aside0.mk (hb); have n1_ := Aside0.mk (ho); clear HB; clear HO_8; have HB := n0_; have HO201 := n1_; clear n0_ n1_; clear ho hb hg hat; have p202 : 0 ≤ (x11_1 : Int) := of_decide_eq_true as_; have q202 : x11_1 < (l0.length : Int) := of_decide_eq_true as_; obtain ⟨ad202, e202, hx202_0, hx202_1, hx202_2, hx202_3, hx202_4⟩ := at_T60 HR0.out x11_1 p202 q202; obtain rfl : ad198 = ad202 := (by injection e202); replace hx202_0 := cl_ HB.out hx202_0; replace hx202_1 := cl_ HB.out hx202_1; replace hx202_2 := cl_ HB.out hx202_2; replace hx202_3 := cl_ HB.out hx202_3; replace hx202_4 := cl_ HB.out hx202_4; replace p202 := eq_true p202; replace q202 := eq_true q202))
  go_roundg kj4
  case measure => have := HK1.out; have := HJ4.out; omega
  case rel => exact ⟨(y199), (x9_1), (x10_1), (wrap64 (x11_1 + 1)), rf_, rf_, rf_, H', ⟨by have := HK1.out; have := HJ4.out; omega⟩, ⟨rd_ HO201.out⟩, ⟨hb_ HB.out⟩⟩
 rw [if_neg c14] at H
 have c14b0 : (((rd_T60 l0 x11_1).f0) == 11) = false := beq_eq_false_iff_ne.mpr c14
 have c14b1 : (((rd_T60 l0 x11_1).f0) != 11) = true := bne_iff_ne.mpr c14
 have H' := Aside0.mk H
 clear H
 have p198 : 0 ≤ (x11_1 : Int) := of_decide_eq_true as_
 have q198 : x11_1 < (l0.length : Int) := of_decide_eq_true as_
 obtain ⟨ad198, e198, hx198_0, hx198_1, hx198_2, hx198_3, hx198_4⟩ := at_T60 HR0.out x11_1 p198 q198
 cases e198
 replace hx198_0 := cl_ HB.out hx198_0
 replace hx198_1 := cl_ HB.out hx198_1
 replace hx198_2 := cl_ HB.out hx198_2
 replace hx198_3 := cl_ HB.out hx198_3
 replace hx198_4 := cl_ HB.out hx198_4
 replace p198 := eq_true p198
 replace q198 := eq_true q198
 go_wp2_with (first | ((with_reducible refine gate_builtin (b := .append) (xs := #[.tmp 35, .tmp 40]) rfl ?_); at_builtin; refine Kd.R_append k60 (w0 := w) w.heap.size rfl (.tmp 35) (.tmp 40) 56 60 (.agg #[(.int .i64 0), (.string ⟨#[]⟩), (.string ⟨#[]⟩), (.string ⟨#[]⟩), (.int .i64 0)]) 64 rfl Try.underlying56 info60 rfl (by decide) (by omega) u8 x8_1 (⟨(rd_T60 l0 x11_1).f0, (rd_T60 l0 x11_1).f1, (rd_T60 l0 x11_1).f2, (rd_T60 l0 x11_1).f3, (rd_T60 l0 x11_1).f4⟩ : S60) [.int .i64 ((rd_T60 l0 x11_1).f0), .string ((rd_T60 l0 x11_1).f1), .string ((rd_T60 l0 x11_1).f2), .string ((rd_T60 l0 x11_1).f3), .int .i64 ((rd_T60 l0 x11_1).f4)] (fun _ => True) (fun _ => False) rfl rfl ?aP (fun _ hk => hk.elim) ?aF ?aO ?aB ?aS ?aL ?_; (case aP => exact k60_mkM _ _ _ (⟨(rd_T60 l0 x11_1).f0, (rd_T60 l0 x11_1).f1, (rd_T60 l0 x11_1).f2, (rd_T60 l0 x11_1).f3, (rd_T60 l0 x11_1).f4⟩ : S60)); (case aB => exact (hb_ HB.out)); (case aF => exact (fun _ _ => trivial)); (case aO => exact (rd_ HO_8.out)); (case aS => exact (below_size (hb_ HB.out))); (case aL => have := LMc13.out; omega); intro v200 w16 ho hb hg hat; rw [← Ny199.out] at ho; have n0_ := Aside0.mk (hb); have n1_ := Aside0.mk (ho); clear HB; clear HO_8; have HB := n0_; have HO201 := n1_; clear n0_ n1_; clear ho hb hg hat; have p202 : 0 ≤ (x11_1 : Int) := of_decide_eq_true as_; have q202 : x11_1 < (l0.length : Int) := of_decide_eq_true as_; obtain ⟨ad202, e202, hx202_0, hx202_1, hx202_2, hx202_3, hx202_4⟩ := at_T60 HR0.out x11_1 p202 q202; obtain rfl : ad198 = ad202 := (by injection e202); replace hx202_0 := cl_ HB.out hx202_0; replace hx202_1 := cl_ HB.out hx202_1; replace hx202_2 := cl_ HB.out hx202_2; replace hx202_3 := cl_ HB.out hx202_3; replace hx202_4 := cl_ HB.out hx202_4; replace p202 := eq_true p202; replace q202 := eq_true q202))
 go_roundg kj4
 case measure => have := HK1.out; have := HJ4.out; omega
 case rel => exact ⟨(y199), (wrap64 (x9_1 + 1)), (false), (wrap64 (x11_1 + 1)), rf_, rf_, rf_, H', ⟨by have := HK1.out; have := HJ4.out; omega⟩, ⟨rd_ HO201.out⟩, ⟨hb_ HB.out⟩⟩
end Go.Proofs.Ytijpfonbeepmfaa.Print
