-- Written by ownprint.py (this session's) with the kit's print.py: functions, contracts, rows; Lean checks it.
import Derived.Test.YtijpfonbeepmfaaPrint0
import Derived.Test.YtijpfonbeepmfaaPrint12
import Derived.Test.YtijpfonbeepmfaaPrint1
namespace Go.Proofs.Ytijpfonbeepmfaa.Print
open Go.RowKit Go.Proofs.YtijpfonbeepmfaaW.PrintWords Go.Proofs.YtijpfonbeepmfaaW.PrintLast Go.Proofs.YtijpfonbeepmfaaW.PrintMore
attribute [local go_sem] max2_int min2_int max_two min_two max_three min_three max_four min_four   -- for this text's walks alone
set_option linter.unusedVariables false
set_option linter.unusedSimpArgs false
mutual
def fencepostref08_Num.j0 : Nat → Int → Int → Bool → List Int → List (List (S53)) → Option (Int)
 | 0, _, _, _, _, _ => none
 | k + 1, x1, x2, x31, x229000, x229001 => if x31 = true then (some (-1)) else (fencepostref08_Num.l0 k x1 x2 0 x229000 x229001)
def fencepostref08_Num.l0 : Nat → Int → Int → Int → List Int → List (List (S53)) → Option (Int)
 | 0, _, _, _, _, _ => none
 | k + 1, x1, x7, x8, x229000, x229001 => if x8 < x1 then (if 0 ≤ x8 then (if x8 < (x229001.length : Int) then (fencepostref08_Num.l0 k x1 (wrap64 (x7 + ((rd_L3 x229001 x8).length : Int))) (wrap64 (x8 + 1)) x229000 x229001) else (none)) else (none)) else (some x7)
end
def fencepostref08_Num.f (k : Nat) (l0_0 : List Int) (l0_1 : List (List (S53))) (a1 : Int) (a2 : Int) : Option (Int) := if a1 < 0 then (fencepostref08_Num.j0 k a1 a2 true l0_0 l0_1) else (if a1 ≥ (l0_1.length : Int) then (fencepostref08_Num.j0 k a1 a2 true l0_0 l0_1) else (if a2 < 0 then (fencepostref08_Num.j0 k a1 a2 true l0_0 l0_1) else (if 0 ≤ a1 then (if a1 < (l0_1.length : Int) then (fencepostref08_Num.j0 k a1 a2 (decide (a2 ≥ ((rd_L3 l0_1 a1).length : Int))) l0_0 l0_1) else (none)) else (none))))
theorem fencepostref08_Num.mono_l : ∀ k, (∀ y0 y1 y2 y3 y4, LeO (fencepostref08_Num.j0 k y0 y1 y2 y3 y4) (fencepostref08_Num.j0 (k + 1) y0 y1 y2 y3 y4)) ∧ (∀ y0 y1 y2 y3 y4, LeO (fencepostref08_Num.l0 k y0 y1 y2 y3 y4) (fencepostref08_Num.l0 (k + 1) y0 y1 y2 y3 y4))
 | 0 => ⟨fun _ _ _ _ _ r h => by simp [fencepostref08_Num.j0] at h, fun _ _ _ _ _ r h => by simp [fencepostref08_Num.l0] at h⟩
 | k + 1 => by
  obtain ⟨ih0, ih1⟩ := fencepostref08_Num.mono_l k
  refine ⟨?_, ?_⟩
  ·intro y0 y1 y2 y3 y4
   unfold fencepostref08_Num.j0
   repeat' first
   | (with_reducible exact ih0 _ _ _ _ _)
   | (with_reducible exact ih1 _ _ _ _ _)
   | (with_reducible exact LeO.refl _)
   | (with_reducible exact LeO.none _)
   | (with_reducible refine LeO.ite ?_ ?_)
   | (with_reducible refine LeO.bind ?_ (fun _ => ?_))
   | exact ih0 _ _ _ _ _
   | exact ih1 _ _ _ _ _
   | exact LeO.none _
   | refine LeO.ite ?_ ?_
   | refine LeO.bind ?_ (fun _ => ?_)
  ·intro y0 y1 y2 y3 y4
   unfold fencepostref08_Num.l0
   repeat' first
   | (with_reducible exact ih0 _ _ _ _ _)
   | (with_reducible exact ih1 _ _ _ _ _)
   | (with_reducible exact LeO.refl _)
   | (with_reducible exact LeO.none _)
   | (with_reducible refine LeO.ite ?_ ?_)
   | (with_reducible refine LeO.bind ?_ (fun _ => ?_))
   | exact ih0 _ _ _ _ _
   | exact ih1 _ _ _ _ _
   | exact LeO.none _
   | refine LeO.ite ?_ ?_
   | refine LeO.bind ?_ (fun _ => ?_)
theorem fencepostref08_Num.mono : ∀ a0 a1 a2 a3 k, LeO (fencepostref08_Num.f k a0 a1 a2 a3) (fencepostref08_Num.f (k + 1) a0 a1 a2 a3) := by
 intro a0 a1 a2 a3 k
 obtain ⟨ih0, ih1⟩ := fencepostref08_Num.mono_l k
 unfold fencepostref08_Num.f
 repeat' first
  | (with_reducible exact ih0 _ _ _ _ _)
  | (with_reducible exact ih1 _ _ _ _ _)
  | (with_reducible exact LeO.refl _)
  | (with_reducible exact LeO.none _)
  | (with_reducible refine LeO.ite ?_ ?_)
  | (with_reducible refine LeO.bind ?_ (fun _ => ?_))
  | exact ih0 _ _ _ _ _
  | exact ih1 _ _ _ _ _
  | exact LeO.none _
  | refine LeO.ite ?_ ?_
  | refine LeO.bind ?_ (fun _ => ?_)
set_option maxHeartbeats 8000000 in
set_option maxRecDepth 100000 in
theorem fencepostref08_Num.calls (k : Nat) (A0_0 : Option Addr) (c0_0 : Nat) (l0_0 : List Int) (A0_1 : Option Addr) (c0_1 : Nat) (l0_1 : List (List (S53))) (a1 : Int) (a2 : Int) (r : Int) (w : World) (hr0_0 : Kd.C (Kd.int .i64) w A0_0 l0_0.length l0_0) (hc0_0 : l0_0.length ≤ c0_0) (hr0_1 : Kd.C (Kd.slice 53 k53) w A0_1 l0_1.length l0_1) (hc0_1 : l0_1.length ≤ c0_1) (h : fencepostref08_Num.f k l0_0 l0_1 a1 a2 = some r) :
 Calls Try.prog 20 #[.agg #[.slice A0_0 l0_0.length c0_0, .slice A0_1 l0_1.length c0_1], .int .i64 a1, .int .i64 a2] w fun e w' => e = .returned (.int .i64 r) ∧ Below w.heap.size w w' := by
 have hu25 := Try.underlying25
 have HR0_0 := Aside0.mk hr0_0
 have HC0_0 := Aside0.mk hc0_0
 clear hr0_0 hc0_0
 have HR0_1 := Aside0.mk hr0_1
 have HC0_1 := Aside0.mk hc0_1
 clear hr0_1 hc0_1
 have HB := Aside0.mk (Below.refl w.heap.size w)
 have H : (if a1 < 0 then (fencepostref08_Num.j0 k a1 a2 true l0_0 l0_1) else (if a1 ≥ (l0_1.length : Int) then (fencepostref08_Num.j0 k a1 a2 true l0_0 l0_1) else (if a2 < 0 then (fencepostref08_Num.j0 k a1 a2 true l0_0 l0_1) else (if 0 ≤ a1 then (if a1 < (l0_1.length : Int) then (fencepostref08_Num.j0 k a1 a2 (decide (a2 ≥ ((rd_L3 l0_1 a1).length : Int))) l0_0 l0_1) else (none)) else (none))))) = some r := h
 clear h
 have HC4 := Aside0.mk H
 clear H
 go_enter Try.func20, Try.ntmps20
 go_upto_region 1 with (first | ((with_reducible refine gate_dst (N := 3) rfl ?_); (try (refine gate_guard (by rfl) ?_; dsimp only)); refine box_event ?hg (N := 3) ?hd (cs := #[.slice A0_0 l0_0.length c0_0, .slice A0_1 l0_1.length c0_1]) (t := 25) ?hr ?_; (case hd => rfl); (case hg => rfl); (case hr => first | (go_simp; done) | (go_simp; rfl)); intro gb228 hg w5 hbox hb; have n0_ := Aside0.mk (below_step (hb_ HB.out) hb); have n1_ := Aside0.mk (hbox); have n2_ := Aside0.mk (gs_ hg (hb_ HB.out)); have n3_ := Aside0.mk (gs_ hg (hb_ HB.out)); clear HB; have HB := n0_; have BK228 := n1_; have GW228 := n2_; have GE228 := n3_; clear n0_ n1_ n2_ n3_; clear hb hbox hg))
 (try simp only [Act.put, List.setIfInBounds_toArray, List.set_cons_zero, List.set_cons_succ])
 go_cut [31] (fun v31 wc => ∃ (kq : Nat) (x31_3 : Bool), v31 = .bool x31_3 ∧ Aside0 (fencepostref08_Num.j0 kq a1 a2 x31_3 l0_0 l0_1 = some r) ∧ Aside0 (kq ≤ k) ∧ Aside0 (wc.heap[gb228]? = some (.cells #[(.slice A0_0 l0_0.length c0_0), (.slice A0_1 l0_1.length c0_1)] 25 (0, 0))) ∧ Aside0 (Below w.heap.size w wc))
 case first =>
  have H := HC4.out
  clear HC4
  by_cases c6 : a1 < 0
  ·rw [if_pos c6] at H
   have c6b0 : decide (a1 < 0) = true := decide_eq_true c6
   clear c6
   (first | rw [c6b0] | (simp only [i64_w, i32_w]; rw [c6b0]) | skip)
   have H' := Aside0.mk H
   clear H
   go_wp2
   go_meet
   case rel => exact ⟨_, (true), rf_, H', ⟨by first | omega | exact Nat.le_refl _⟩, ⟨bd_ BK228.out⟩, ⟨hb_ HB.out⟩⟩
  rw [if_neg c6] at H
  have c6b0 : decide (a1 < 0) = false := decide_eq_false c6
  clear c6
  (first | rw [c6b0] | (simp only [i64_w, i32_w]; rw [c6b0]) | skip)
  by_cases c7 : a1 ≥ (l0_1.length : Int)
  ·rw [if_pos c7] at H
   have c7b0 : decide ((l0_1.length : Int) ≤ a1) = true := decide_eq_true c7
   clear c7
   have H' := Aside0.mk H
   clear H
   have hcz8_0 : w5.cell? ⟨gb228, 0, none⟩ = some (.slice A0_0 l0_0.length c0_0) := (blk_cell BK228.out 0).trans rfl
   have hcz8_1 : w5.cell? ⟨gb228, 1, none⟩ = some (.slice A0_1 l0_1.length c0_1) := (blk_cell BK228.out 1).trans rfl
   have hfz8_0 := blk_frozen BK228.out 0
   have hfz8_1 := blk_frozen BK228.out 1
   go_wp2
   go_meet
   case rel => exact ⟨_, (true), rf_, H', ⟨by first | omega | exact Nat.le_refl _⟩, ⟨bd_ BK228.out⟩, ⟨hb_ HB.out⟩⟩
  rw [if_neg c7] at H
  have c7b0 : decide ((l0_1.length : Int) ≤ a1) = false := decide_eq_false c7
  clear c7
  by_cases c9 : a2 < 0
  ·rw [if_pos c9] at H
   have c9b0 : decide (a2 < 0) = true := decide_eq_true c9
   clear c9
   have H' := Aside0.mk H
   clear H
   have hcz10_0 : w5.cell? ⟨gb228, 0, none⟩ = some (.slice A0_0 l0_0.length c0_0) := (blk_cell BK228.out 0).trans rfl
   have hcz10_1 : w5.cell? ⟨gb228, 1, none⟩ = some (.slice A0_1 l0_1.length c0_1) := (blk_cell BK228.out 1).trans rfl
   have hfz10_0 := blk_frozen BK228.out 0
   have hfz10_1 := blk_frozen BK228.out 1
   go_wp2
   go_meet
   case rel => exact ⟨_, (true), rf_, H', ⟨by first | omega | exact Nat.le_refl _⟩, ⟨bd_ BK228.out⟩, ⟨hb_ HB.out⟩⟩
  rw [if_neg c9] at H
  have c9b0 : decide (a2 < 0) = false := decide_eq_false c9
  clear c9
  by_cases c11 : 0 ≤ a1
  rotate_left
  ·rw [if_neg c11] at H
   exact absurd H (by simp)
  rw [if_pos c11] at H
  have c11b0 : decide (0 ≤ a1) = true := decide_eq_true c11
  clear c11
  by_cases c12 : a1 < (l0_1.length : Int)
  rotate_left
  ·rw [if_neg c12] at H
   exact absurd H (by simp)
  rw [if_pos c12] at H
  have c12b0 : decide (a1 < (l0_1.length : Int)) = true := decide_eq_true c12
  clear c12
  have H' := Aside0.mk H
  clear H
  have hcz13_0 : w5.cell? ⟨gb228, 0, none⟩ = some (.slice A0_0 l0_0.length c0_0) := (blk_cell BK228.out 0).trans rfl
  have hcz13_1 : w5.cell? ⟨gb228, 1, none⟩ = some (.slice A0_1 l0_1.length c0_1) := (blk_cell BK228.out 1).trans rfl
  have hfz13_0 := blk_frozen BK228.out 0
  have hfz13_1 := blk_frozen BK228.out 1
  have p229 : 0 ≤ (a1 : Int) := of_decide_eq_true as_
  have q229 : a1 < (l0_1.length : Int) := of_decide_eq_true as_
  obtain ⟨ad229, A229_0, c229_0, e229, hx229_0, hl229_0, hi229_0⟩ := at_L3 HR0_1.out a1 p229 q229
  cases e229
  replace hx229_0 := cl_ HB.out hx229_0
  have HR229_0 := Aside0.mk hi229_0
  have HC229_0 := Aside0.mk hl229_0
  clear hi229_0 hl229_0
  replace p229 := eq_true p229
  replace q229 := eq_true q229
  go_wp2
  go_meet
  case rel => exact ⟨_, (decide (a2 ≥ ((rd_L3 l0_1 a1).length : Int))), rf_, H', ⟨by first | omega | exact Nat.le_refl _⟩, ⟨bd_ BK228.out⟩, ⟨hb_ HB.out⟩⟩
 clear HC4
 obtain ⟨kq, x31_3, rfl, HA, HJ3, BK228, HB⟩ := hcut
 cases kq with
 | zero => exact absurd HA.out (by simp [fencepostref08_Num.j0])
 | succ kj3 => ?_
 have H := HA.out
 clear HA
 simp only [fencepostref08_Num.j0] at H
 by_cases c14 : x31_3 = true
 ·subst c14
  have H1 : (some (-1)) = some r := by rw [if_pos rfl] at H; exact H
  clear H
  have H := H1
  clear H1
  obtain rfl := Option.some.inj H
  go_wp2
  go_ret
  exact ⟨by first | rfl | (simp [errW_none, errW_some] <;> rfl) | (simp [*, errW_none, errW_some] <;> rfl), hb_ HB.out⟩
 replace c14 := Bool.eq_false_iff.mpr c14
 subst c14
 have H1 : (fencepostref08_Num.l0 kj3 a1 a2 0 l0_0 l0_1) = some r := by rw [if_neg (show ¬ (false = true) by decide)] at H; exact H
 clear H
 have H := H1
 clear H1
 have H' := Aside0.mk H
 clear H
 go_wp2
 go_loopg [7, 8] kj3 (fun kq v7 v8 w' => ∃ (x7_2 : Int) (x8_2 : Int), v7 = .int .i64 x7_2 ∧ v8 = .int .i64 x8_2 ∧ Aside0 (fencepostref08_Num.l0 kq a1 x7_2 x8_2 l0_0 l0_1 = some r) ∧ Aside0 (kq ≤ kj3) ∧ Aside0 (w'.heap[gb228]? = some (.cells #[(.slice A0_0 l0_0.length c0_0), (.slice A0_1 l0_1.length c0_1)] 25 (0, 0))) ∧ Aside0 (Below w.heap.size w w'))
 case atStart => exact ⟨(a2), (0), rf_, rf_, H', ⟨Nat.le_refl _⟩, ⟨bd_ BK228.out⟩, ⟨hb_ HB.out⟩⟩
 clear H'
 try clear c14
 obtain ⟨x7_2, x8_2, rfl, rfl, HA, HK2, BK228, HB⟩ := hrel
 cases gk with
 | zero => exact absurd HA.out (by simp [fencepostref08_Num.l0])
 | succ k2 => ?_
 have H := HA.out
 clear HA
 simp only [fencepostref08_Num.l0] at H
 by_cases c15 : x8_2 < a1
 rotate_left
 ·rw [if_neg c15] at H
  have c15b0 : decide (x8_2 < a1) = false := decide_eq_false c15
  clear c15
  obtain rfl := Option.some.inj H
  go_wp2
  go_ret
  exact ⟨by first | rfl | (simp [errW_none, errW_some] <;> rfl) | (simp [*, errW_none, errW_some] <;> rfl), hb_ HB.out⟩
 rw [if_pos c15] at H
 have c15b0 : decide (x8_2 < a1) = true := decide_eq_true c15
 clear c15
 by_cases c16 : 0 ≤ x8_2
 rotate_left
 ·rw [if_neg c16] at H
  exact absurd H (by simp)
 rw [if_pos c16] at H
 have c16b0 : decide (0 ≤ x8_2) = true := decide_eq_true c16
 clear c16
 by_cases c17 : x8_2 < (l0_1.length : Int)
 rotate_left
 ·rw [if_neg c17] at H
  exact absurd H (by simp)
 rw [if_pos c17] at H
 have c17b0 : decide (x8_2 < (l0_1.length : Int)) = true := decide_eq_true c17
 clear c17
 have H' := Aside0.mk H
 clear H
 have hcz18_0 : wr.cell? ⟨gb228, 0, none⟩ = some (.slice A0_0 l0_0.length c0_0) := (blk_cell BK228.out 0).trans rfl
 have hcz18_1 : wr.cell? ⟨gb228, 1, none⟩ = some (.slice A0_1 l0_1.length c0_1) := (blk_cell BK228.out 1).trans rfl
 have hfz18_0 := blk_frozen BK228.out 0
 have hfz18_1 := blk_frozen BK228.out 1
 have p230 : 0 ≤ (x8_2 : Int) := of_decide_eq_true as_
 have q230 : x8_2 < (l0_1.length : Int) := of_decide_eq_true as_
 obtain ⟨ad230, A230_0, c230_0, e230, hx230_0, hl230_0, hi230_0⟩ := at_L3 HR0_1.out x8_2 p230 q230
 cases e230
 replace hx230_0 := cl_ HB.out hx230_0
 have HR230_0 := Aside0.mk hi230_0
 have HC230_0 := Aside0.mk hl230_0
 clear hi230_0 hl230_0
 replace p230 := eq_true p230
 replace q230 := eq_true q230
 go_wp2
 go_roundg k2
 case measure => have := HJ3.out; have := HK2.out; omega
 case rel => exact ⟨(wrap64 (x7_2 + ((rd_L3 l0_1 x8_2).length : Int))), (wrap64 (x8_2 + 1)), rf_, rf_, H', ⟨by have := HJ3.out; have := HK2.out; omega⟩, ⟨bd_ BK228.out⟩, ⟨hb_ HB.out⟩⟩
def fencepostref08_Count.l0 : Nat → List Int → Int → Int → Int → Int → Option (Int)
 | 0, _, _, _, _, _ => none
 | k + 1, x0, x1, x2, x7, x8 => if x8 < x2 then ((fencepostref08_Has.f k x0 (wrap64 (x1 + x8))).bind fun t231 => (if t231 = true then (fencepostref08_Count.l0 k x0 x1 x2 (wrap64 (x7 + 1)) (wrap64 (x8 + 1))) else (fencepostref08_Count.l0 k x0 x1 x2 x7 (wrap64 (x8 + 1))))) else (some x7)
def fencepostref08_Count.f (k : Nat) (l0 : List Int) (a1 : Int) (a2 : Int) : Option (Int) := fencepostref08_Count.l0 k l0 a1 a2 0 0
theorem fencepostref08_Count.mono_l : ∀ k, (∀ y0 y1 y2 y3 y4, LeO (fencepostref08_Count.l0 k y0 y1 y2 y3 y4) (fencepostref08_Count.l0 (k + 1) y0 y1 y2 y3 y4))
 | 0 => fun _ _ _ _ _ r h => by simp [fencepostref08_Count.l0] at h
 | k + 1 => by
  have ih0 := fencepostref08_Count.mono_l k
  ·intro y0 y1 y2 y3 y4
   unfold fencepostref08_Count.l0
   repeat' first
   | (with_reducible exact ih0 _ _ _ _ _)
   | (with_reducible exact fencepostref08_Has.mono _ _ _)
   | (with_reducible exact LeO.refl _)
   | (with_reducible exact LeO.none _)
   | (with_reducible refine LeO.ite ?_ ?_)
   | (with_reducible refine LeO.bind ?_ (fun _ => ?_))
   | exact ih0 _ _ _ _ _
   | exact fencepostref08_Has.mono _ _ _
   | exact LeO.none _
   | refine LeO.ite ?_ ?_
   | refine LeO.bind ?_ (fun _ => ?_)
theorem fencepostref08_Count.mono : ∀ a0 a1 a2 k, LeO (fencepostref08_Count.f k a0 a1 a2) (fencepostref08_Count.f (k + 1) a0 a1 a2) := by
 intro a0 a1 a2 k
 have ih0 := fencepostref08_Count.mono_l k
 unfold fencepostref08_Count.f
 repeat' first
  | (with_reducible exact ih0 _ _ _ _ _)
  | (with_reducible exact fencepostref08_Has.mono _ _ _)
  | (with_reducible exact LeO.refl _)
  | (with_reducible exact LeO.none _)
  | (with_reducible refine LeO.ite ?_ ?_)
  | (with_reducible refine LeO.bind ?_ (fun _ => ?_))
  | exact ih0 _ _ _ _ _
  | exact fencepostref08_Has.mono _ _ _
  | exact LeO.none _
  | refine LeO.ite ?_ ?_
  | refine LeO.bind ?_ (fun _ => ?_)
set_option maxHeartbeats 8000000 in
set_option maxRecDepth 100000 in
theorem fencepostref08_Count.calls (k : Nat) (A0 : Option Addr) (c0 : Nat) (l0 : List Int) (a1 : Int) (a2 : Int) (r : Int) (w : World) (hr0 : Kd.C (Kd.int .i64) w A0 l0.length l0) (hc0 : l0.length ≤ c0) (h : fencepostref08_Count.f k l0 a1 a2 = some r) :
 Calls Try.prog 42 #[.slice A0 l0.length c0, .int .i64 a1, .int .i64 a2] w fun e w' => e = .returned (.int .i64 r) ∧ Drawn0 w w' := by
 have HR0 := Aside0.mk hr0
 have HC0 := Aside0.mk hc0
 clear hr0 hc0
 have H : (fencepostref08_Count.l0 k l0 a1 a2 0 0) = some r := h
 clear h
 have H' := Aside0.mk H
 clear H
 go_enter Try.func42, Try.ntmps42
 go_wp2
 go_loopg [7, 8] k (fun kq v7 v8 w' => ∃ (x7_1 : Int) (x8_1 : Int), v7 = .int .i64 x7_1 ∧ v8 = .int .i64 x8_1 ∧ Aside0 (fencepostref08_Count.l0 kq l0 a1 a2 x7_1 x8_1 = some r) ∧ Aside0 (kq ≤ k) ∧ Drawn0 w w')
 case atStart => exact ⟨(0), (0), rf_, rf_, H', ⟨Nat.le_refl _⟩, by repeat (first | exact Drawn0.refl _ | apply Drawn0.step)⟩
 clear H'
 obtain ⟨x7_1, x8_1, rfl, rfl, HA, HK1, ⟨m1, rfl⟩⟩ := hrel
 cases gk with
 | zero => exact absurd HA.out (by simp [fencepostref08_Count.l0])
 | succ k1 => ?_
 have H := HA.out
 clear HA
 simp only [fencepostref08_Count.l0] at H
 by_cases c4 : x8_1 < a2
 rotate_left
 ·rw [if_neg c4] at H
  have c4b0 : decide (x8_1 < a2) = false := decide_eq_false c4
  clear c4
  obtain rfl := Option.some.inj H
  go_wp2
  go_ret
  exact ⟨by first | rfl | (simp; done) | (simp [*]; done), by repeat (first | exact Drawn0.refl _ | apply Drawn0.step)⟩
 rw [if_pos c4] at H
 have c4b0 : decide (x8_1 < a2) = true := decide_eq_true c4
 clear c4
 replace H := Option.bind_eq_some_iff.mp H
 obtain ⟨t231, A50, H⟩ := H
 replace H : (if t231 = true then (fencepostref08_Count.l0 k1 l0 a1 a2 (wrap64 (x7_1 + 1)) (wrap64 (x8_1 + 1))) else (fencepostref08_Count.l0 k1 l0 a1 a2 x7_1 (wrap64 (x8_1 + 1)))) = some r := H
 have A5 := Aside0.mk A50
 clear A50
 by_cases c6 : t231 = true
 ·subst c6
  have H1 : (fencepostref08_Count.l0 k1 l0 a1 a2 (wrap64 (x7_1 + 1)) (wrap64 (x8_1 + 1))) = some r := by rw [if_pos rfl] at H; exact H
  clear H
  have H := H1
  clear H1
  have H' := Aside0.mk H
  clear H
  go_wp2_with (first | ((with_reducible refine gate_callee (f := 29) rfl ?_); refine goesL_ (some 18) rfl rfl Try.func29 (by kernel_rfl) rfl #[.slice A0 l0.length c0, .int .i64 (wrap64 (a1 + x8_1))] rfl ar_ ?_; (with_reducible refine (fencepostref08_Has.calls k1 _ _ l0 (wrap64 (a1 + x8_1)) true _ ?side1 ?side2 A5.out).mono ?_); (case side1 => repeat (first | exact HR0.out | (with_reducible refine Kd.C_alloc ?_ _) | (with_reducible refine Kd.C_drewN ?_ _) | (with_reducible refine Kd.C_drew ?_))); (case side2 => exact HC0.out); rintro e w' ⟨rfl, ⟨nd, rfl⟩⟩; refine ⟨_, rfl, ?_⟩))
  go_roundg k1
  case measure => have := HK1.out; omega
  case rel => exact ⟨(wrap64 (x7_1 + 1)), (wrap64 (x8_1 + 1)), rf_, rf_, H', ⟨by have := HK1.out; omega⟩, by repeat (first | exact Drawn0.refl _ | apply Drawn0.step)⟩
 replace c6 := Bool.eq_false_iff.mpr c6
 subst c6
 have H1 : (fencepostref08_Count.l0 k1 l0 a1 a2 x7_1 (wrap64 (x8_1 + 1))) = some r := by rw [if_neg (show ¬ (false = true) by decide)] at H; exact H
 clear H
 have H := H1
 clear H1
 have H' := Aside0.mk H
 clear H
 go_wp2_with (first | ((with_reducible refine gate_callee (f := 29) rfl ?_); refine goesL_ (some 18) rfl rfl Try.func29 (by kernel_rfl) rfl #[.slice A0 l0.length c0, .int .i64 (wrap64 (a1 + x8_1))] rfl ar_ ?_; (with_reducible refine (fencepostref08_Has.calls k1 _ _ l0 (wrap64 (a1 + x8_1)) false _ ?side1 ?side2 A5.out).mono ?_); (case side1 => repeat (first | exact HR0.out | (with_reducible refine Kd.C_alloc ?_ _) | (with_reducible refine Kd.C_drewN ?_ _) | (with_reducible refine Kd.C_drew ?_))); (case side2 => exact HC0.out); rintro e w' ⟨rfl, ⟨nd, rfl⟩⟩; refine ⟨_, rfl, ?_⟩))
 go_roundg k1
 case measure => have := HK1.out; omega
 case rel => exact ⟨(x7_1), (wrap64 (x8_1 + 1)), rf_, rf_, H', ⟨by have := HK1.out; omega⟩, by repeat (first | exact Drawn0.refl _ | apply Drawn0.step)⟩
end Go.Proofs.Ytijpfonbeepmfaa.Print
