-- Written by ownprint.py (this session's) with the kit's print.py: functions, contracts, rows; Lean checks it.
import Derived.Test.YtphklaajolpieaaPrint0
import Derived.Test.YtphklaajolpieaaHSq
namespace Go.Proofs.Ytphklaajolpieaa.Print
open Go.RowKit Go.Proofs.YtphklaajolpieaaW.PrintWords Go.Proofs.YtphklaajolpieaaW.PrintLast Go.Proofs.YtphklaajolpieaaW.PrintMore
attribute [local go_sem] max2_int min2_int max_two min_two max_three min_three max_four min_four   -- for this text's walks alone
set_option linter.unusedVariables false
set_option linter.unusedSimpArgs false
def fencepostref10_Jumps.f (a0_0 : Int) (a0_1 : Int) (a0_2 : Int) (a0_3 : Int) (a0_4 : Int) (a1 : Bool) : Option (Bool) := if a0_0 = 8 then (some true) else (if a0_0 = 9 then (if a1 = true then (some true) else (if a0_0 = 10 then (some (!a1)) else (some false))) else (if a0_0 = 10 then (some (!a1)) else (some false)))
set_option maxHeartbeats 8000000 in
set_option maxRecDepth 100000 in
theorem fencepostref10_Jumps.calls (a0_0 : Int) (a0_1 : Int) (a0_2 : Int) (a0_3 : Int) (a0_4 : Int) (a1 : Bool) (r : Bool) (w : World) (h : fencepostref10_Jumps.f a0_0 a0_1 a0_2 a0_3 a0_4 a1 = some r) :
 Calls Try.prog 30 #[.agg #[.int .i64 a0_0, .int .i64 a0_1, .int .i64 a0_2, .int .i64 a0_3, .int .i64 a0_4], .bool a1] w fun e w' => e = .returned (.bool r) ∧ Below w.heap.size w w' := by
 have hu36 := Try.underlying36
 have HB := Aside0.mk (Below.refl w.heap.size w)
 have H : (if a0_0 = 8 then (some true) else (if a0_0 = 9 then (if a1 = true then (some true) else (if a0_0 = 10 then (some (!a1)) else (some false))) else (if a0_0 = 10 then (some (!a1)) else (some false)))) = some r := h
 clear h
 by_cases c3 : a0_0 = 8
 ·rw [if_pos c3] at H
  have c3b0 : (a0_0 == 8) = true := beq_iff_eq.mpr c3
  have c3b1 : (a0_0 != 8) = false := bne_eq_false_iff_eq.mpr c3
  clear c3
  obtain rfl := Option.some.inj H
  go_enter Try.func30, Try.ntmps30
  go_wp2_with (first | ((with_reducible refine gate_dst (N := 2) rfl ?_); refine box_event ?hg (N := 2) ?hd (cs := #[.int .i64 a0_0, .int .i64 a0_1, .int .i64 a0_2, .int .i64 a0_3, .int .i64 a0_4]) (t := 36) ?hr ?_; (case hd => rfl); (case hg => rfl); (case hr => first | (go_simp; done) | (go_simp; rfl)); intro gb263 hg w4 hbox hb; have n0_ := Aside0.mk (below_step (hb_ HB.out) hb); have n1_ := Aside0.mk (hbox); have n2_ := Aside0.mk (gs_ hg (hb_ HB.out)); have n3_ := Aside0.mk (gs_ hg (hb_ HB.out)); clear HB; have HB := n0_; have BK263 := n1_; have GW263 := n2_; have GE263 := n3_; clear n0_ n1_ n2_ n3_; clear hb hbox hg; have hcz5_0 : w4.cell? ⟨gb263, 0, none⟩ = some (.int .i64 a0_0) := (blk_cell BK263.out 0).trans rfl; have hcz5_1 : w4.cell? ⟨gb263, 1, none⟩ = some (.int .i64 a0_1) := (blk_cell BK263.out 1).trans rfl; have hcz5_2 : w4.cell? ⟨gb263, 2, none⟩ = some (.int .i64 a0_2) := (blk_cell BK263.out 2).trans rfl; have hcz5_3 : w4.cell? ⟨gb263, 3, none⟩ = some (.int .i64 a0_3) := (blk_cell BK263.out 3).trans rfl; have hcz5_4 : w4.cell? ⟨gb263, 4, none⟩ = some (.int .i64 a0_4) := (blk_cell BK263.out 4).trans rfl; have hfz5_0 := blk_frozen BK263.out 0; have hfz5_1 := blk_frozen BK263.out 1; have hfz5_2 := blk_frozen BK263.out 2; have hfz5_3 := blk_frozen BK263.out 3; have hfz5_4 := blk_frozen BK263.out 4))
  go_ret
  exact ⟨by first | rfl | (simp [errW_none, errW_some] <;> rfl) | (simp [*, errW_none, errW_some] <;> rfl), hb_ HB.out⟩
 rw [if_neg c3] at H
 have c3b0 : (a0_0 == 8) = false := beq_eq_false_iff_ne.mpr c3
 have c3b1 : (a0_0 != 8) = true := bne_iff_ne.mpr c3
 by_cases c6 : a0_0 = 9
 rotate_left
 ·rw [if_neg c6] at H
  have c6b0 : (a0_0 == 9) = false := beq_eq_false_iff_ne.mpr c6
  have c6b1 : (a0_0 != 9) = true := bne_iff_ne.mpr c6
  by_cases c15 : a0_0 = 10
  rotate_left
  ·rw [if_neg c15] at H
   have c15b0 : (a0_0 == 10) = false := beq_eq_false_iff_ne.mpr c15
   have c15b1 : (a0_0 != 10) = true := bne_iff_ne.mpr c15
   obtain rfl := Option.some.inj H
   go_enter Try.func30, Try.ntmps30
   go_wp2_with (first | ((with_reducible refine gate_dst (N := 2) rfl ?_); refine box_event ?hg (N := 2) ?hd (cs := #[.int .i64 a0_0, .int .i64 a0_1, .int .i64 a0_2, .int .i64 a0_3, .int .i64 a0_4]) (t := 36) ?hr ?_; (case hd => rfl); (case hg => rfl); (case hr => first | (go_simp; done) | (go_simp; rfl)); intro gb263 hg w18 hbox hb; have n0_ := Aside0.mk (below_step (hb_ HB.out) hb); have n1_ := Aside0.mk (hbox); have n2_ := Aside0.mk (gs_ hg (hb_ HB.out)); have n3_ := Aside0.mk (gs_ hg (hb_ HB.out)); clear HB; have HB := n0_; have BK263 := n1_; have GW263 := n2_; have GE263 := n3_; clear n0_ n1_ n2_ n3_; clear hb hbox hg; have hcz19_0 : w18.cell? ⟨gb263, 0, none⟩ = some (.int .i64 a0_0) := (blk_cell BK263.out 0).trans rfl; have hcz19_1 : w18.cell? ⟨gb263, 1, none⟩ = some (.int .i64 a0_1) := (blk_cell BK263.out 1).trans rfl; have hcz19_2 : w18.cell? ⟨gb263, 2, none⟩ = some (.int .i64 a0_2) := (blk_cell BK263.out 2).trans rfl; have hcz19_3 : w18.cell? ⟨gb263, 3, none⟩ = some (.int .i64 a0_3) := (blk_cell BK263.out 3).trans rfl; have hcz19_4 : w18.cell? ⟨gb263, 4, none⟩ = some (.int .i64 a0_4) := (blk_cell BK263.out 4).trans rfl; have hfz19_0 := blk_frozen BK263.out 0; have hfz19_1 := blk_frozen BK263.out 1; have hfz19_2 := blk_frozen BK263.out 2; have hfz19_3 := blk_frozen BK263.out 3; have hfz19_4 := blk_frozen BK263.out 4))
   go_ret
   exact ⟨by first | rfl | (simp [errW_none, errW_some] <;> rfl) | (simp [*, errW_none, errW_some] <;> rfl), hb_ HB.out⟩
  rw [if_pos c15] at H
  have c15b0 : (a0_0 == 10) = true := beq_iff_eq.mpr c15
  have c15b1 : (a0_0 != 10) = false := bne_eq_false_iff_eq.mpr c15
  clear c15
  obtain rfl := Option.some.inj H
  go_enter Try.func30, Try.ntmps30
  go_wp2_with (first | ((with_reducible refine gate_dst (N := 2) rfl ?_); refine box_event ?hg (N := 2) ?hd (cs := #[.int .i64 a0_0, .int .i64 a0_1, .int .i64 a0_2, .int .i64 a0_3, .int .i64 a0_4]) (t := 36) ?hr ?_; (case hd => rfl); (case hg => rfl); (case hr => first | (go_simp; done) | (go_simp; rfl)); intro gb263 hg w16 hbox hb; have n0_ := Aside0.mk (below_step (hb_ HB.out) hb); have n1_ := Aside0.mk (hbox); have n2_ := Aside0.mk (gs_ hg (hb_ HB.out)); have n3_ := Aside0.mk (gs_ hg (hb_ HB.out)); clear HB; have HB := n0_; have BK263 := n1_; have GW263 := n2_; have GE263 := n3_; clear n0_ n1_ n2_ n3_; clear hb hbox hg; have hcz17_0 : w16.cell? ⟨gb263, 0, none⟩ = some (.int .i64 a0_0) := (blk_cell BK263.out 0).trans rfl; have hcz17_1 : w16.cell? ⟨gb263, 1, none⟩ = some (.int .i64 a0_1) := (blk_cell BK263.out 1).trans rfl; have hcz17_2 : w16.cell? ⟨gb263, 2, none⟩ = some (.int .i64 a0_2) := (blk_cell BK263.out 2).trans rfl; have hcz17_3 : w16.cell? ⟨gb263, 3, none⟩ = some (.int .i64 a0_3) := (blk_cell BK263.out 3).trans rfl; have hcz17_4 : w16.cell? ⟨gb263, 4, none⟩ = some (.int .i64 a0_4) := (blk_cell BK263.out 4).trans rfl; have hfz17_0 := blk_frozen BK263.out 0; have hfz17_1 := blk_frozen BK263.out 1; have hfz17_2 := blk_frozen BK263.out 2; have hfz17_3 := blk_frozen BK263.out 3; have hfz17_4 := blk_frozen BK263.out 4))
  go_ret
  exact ⟨by first | rfl | (simp [errW_none, errW_some] <;> rfl) | (simp [*, errW_none, errW_some] <;> rfl), hb_ HB.out⟩
 rw [if_pos c6] at H
 have c6b0 : (a0_0 == 9) = true := beq_iff_eq.mpr c6
 have c6b1 : (a0_0 != 9) = false := bne_eq_false_iff_eq.mpr c6
 clear c6
 by_cases c7 : a1 = true
 ·subst c7
  have H1 : (some true) = some r := by rw [if_pos rfl] at H; exact H
  clear H
  have H := H1
  clear H1
  obtain rfl := Option.some.inj H
  go_enter Try.func30, Try.ntmps30
  go_wp2_with (first | ((with_reducible refine gate_dst (N := 2) rfl ?_); refine box_event ?hg (N := 2) ?hd (cs := #[.int .i64 a0_0, .int .i64 a0_1, .int .i64 a0_2, .int .i64 a0_3, .int .i64 a0_4]) (t := 36) ?hr ?_; (case hd => rfl); (case hg => rfl); (case hr => first | (go_simp; done) | (go_simp; rfl)); intro gb263 hg w8 hbox hb; have n0_ := Aside0.mk (below_step (hb_ HB.out) hb); have n1_ := Aside0.mk (hbox); have n2_ := Aside0.mk (gs_ hg (hb_ HB.out)); have n3_ := Aside0.mk (gs_ hg (hb_ HB.out)); clear HB; have HB := n0_; have BK263 := n1_; have GW263 := n2_; have GE263 := n3_; clear n0_ n1_ n2_ n3_; clear hb hbox hg; have hcz9_0 : w8.cell? ⟨gb263, 0, none⟩ = some (.int .i64 a0_0) := (blk_cell BK263.out 0).trans rfl; have hcz9_1 : w8.cell? ⟨gb263, 1, none⟩ = some (.int .i64 a0_1) := (blk_cell BK263.out 1).trans rfl; have hcz9_2 : w8.cell? ⟨gb263, 2, none⟩ = some (.int .i64 a0_2) := (blk_cell BK263.out 2).trans rfl; have hcz9_3 : w8.cell? ⟨gb263, 3, none⟩ = some (.int .i64 a0_3) := (blk_cell BK263.out 3).trans rfl; have hcz9_4 : w8.cell? ⟨gb263, 4, none⟩ = some (.int .i64 a0_4) := (blk_cell BK263.out 4).trans rfl; have hfz9_0 := blk_frozen BK263.out 0; have hfz9_1 := blk_frozen BK263.out 1; have hfz9_2 := blk_frozen BK263.out 2; have hfz9_3 := blk_frozen BK263.out 3; have hfz9_4 := blk_frozen BK263.out 4))
  go_ret
  exact ⟨by first | rfl | (simp [errW_none, errW_some] <;> rfl) | (simp [*, errW_none, errW_some] <;> rfl), hb_ HB.out⟩
 replace c7 := Bool.eq_false_iff.mpr c7
 subst c7
 have H1 : (if a0_0 = 10 then (some (!false)) else (some false)) = some r := by rw [if_neg (show ¬ (false = true) by decide)] at H; exact H
 clear H
 have H := H1
 clear H1
 by_cases c10 : a0_0 = 10
 rotate_left
 ·rw [if_neg c10] at H
  have c10b0 : (a0_0 == 10) = false := beq_eq_false_iff_ne.mpr c10
  have c10b1 : (a0_0 != 10) = true := bne_iff_ne.mpr c10
  obtain rfl := Option.some.inj H
  go_enter Try.func30, Try.ntmps30
  go_wp2_with (first | ((with_reducible refine gate_dst (N := 2) rfl ?_); refine box_event ?hg (N := 2) ?hd (cs := #[.int .i64 a0_0, .int .i64 a0_1, .int .i64 a0_2, .int .i64 a0_3, .int .i64 a0_4]) (t := 36) ?hr ?_; (case hd => rfl); (case hg => rfl); (case hr => first | (go_simp; done) | (go_simp; rfl)); intro gb263 hg w13 hbox hb; have n0_ := Aside0.mk (below_step (hb_ HB.out) hb); have n1_ := Aside0.mk (hbox); have n2_ := Aside0.mk (gs_ hg (hb_ HB.out)); have n3_ := Aside0.mk (gs_ hg (hb_ HB.out)); clear HB; have HB := n0_; have BK263 := n1_; have GW263 := n2_; have GE263 := n3_; clear n0_ n1_ n2_ n3_; clear hb hbox hg; have hcz14_0 : w13.cell? ⟨gb263, 0, none⟩ = some (.int .i64 a0_0) := (blk_cell BK263.out 0).trans rfl; have hcz14_1 : w13.cell? ⟨gb263, 1, none⟩ = some (.int .i64 a0_1) := (blk_cell BK263.out 1).trans rfl; have hcz14_2 : w13.cell? ⟨gb263, 2, none⟩ = some (.int .i64 a0_2) := (blk_cell BK263.out 2).trans rfl; have hcz14_3 : w13.cell? ⟨gb263, 3, none⟩ = some (.int .i64 a0_3) := (blk_cell BK263.out 3).trans rfl; have hcz14_4 : w13.cell? ⟨gb263, 4, none⟩ = some (.int .i64 a0_4) := (blk_cell BK263.out 4).trans rfl; have hfz14_0 := blk_frozen BK263.out 0; have hfz14_1 := blk_frozen BK263.out 1; have hfz14_2 := blk_frozen BK263.out 2; have hfz14_3 := blk_frozen BK263.out 3; have hfz14_4 := blk_frozen BK263.out 4))
  go_ret
  exact ⟨by first | rfl | (simp [errW_none, errW_some] <;> rfl) | (simp [*, errW_none, errW_some] <;> rfl), hb_ HB.out⟩
 rw [if_pos c10] at H
 have c10b0 : (a0_0 == 10) = true := beq_iff_eq.mpr c10
 have c10b1 : (a0_0 != 10) = false := bne_eq_false_iff_eq.mpr c10
 clear c10
 obtain rfl := Option.some.inj H
 go_enter Try.func30, Try.ntmps30
 go_wp2_with (first | ((with_reducible refine gate_dst (N := 2) rfl ?_); refine box_event ?hg (N := 2) ?hd (cs := #[.int .i64 a0_0, .int .i64 a0_1, .int .i64 a0_2, .int .i64 a0_3, .int .i64 a0_4]) (t := 36) ?hr ?_; (case hd => rfl); (case hg => rfl); (case hr => first | (go_simp; done) | (go_simp; rfl)); intro gb263 hg w11 hbox hb; have n0_ := Aside0.mk (below_step (hb_ HB.out) hb); have n1_ := Aside0.mk (hbox); have n2_ := Aside0.mk (gs_ hg (hb_ HB.out)); have n3_ := Aside0.mk (gs_ hg (hb_ HB.out)); clear HB; have HB := n0_; have BK263 := n1_; have GW263 := n2_; have GE263 := n3_; clear n0_ n1_ n2_ n3_; clear hb hbox hg; have hcz12_0 : w11.cell? ⟨gb263, 0, none⟩ = some (.int .i64 a0_0) := (blk_cell BK263.out 0).trans rfl; have hcz12_1 : w11.cell? ⟨gb263, 1, none⟩ = some (.int .i64 a0_1) := (blk_cell BK263.out 1).trans rfl; have hcz12_2 : w11.cell? ⟨gb263, 2, none⟩ = some (.int .i64 a0_2) := (blk_cell BK263.out 2).trans rfl; have hcz12_3 : w11.cell? ⟨gb263, 3, none⟩ = some (.int .i64 a0_3) := (blk_cell BK263.out 3).trans rfl; have hcz12_4 : w11.cell? ⟨gb263, 4, none⟩ = some (.int .i64 a0_4) := (blk_cell BK263.out 4).trans rfl; have hfz12_0 := blk_frozen BK263.out 0; have hfz12_1 := blk_frozen BK263.out 1; have hfz12_2 := blk_frozen BK263.out 2; have hfz12_3 := blk_frozen BK263.out 3; have hfz12_4 := blk_frozen BK263.out 4))
 go_ret
 exact ⟨by first | rfl | (simp [errW_none, errW_some] <;> rfl) | (simp [*, errW_none, errW_some] <;> rfl), hb_ HB.out⟩
def fencepostref09_Last.l0 : Nat → List (S66) → Int → Int → Option (Int × Bool)
 | 0, _, _, _ => none
 | k + 1, x0, x1, x6 => if x6 ≥ 0 then (if 0 ≤ x6 then (if x6 < (x0.length : Int) then (if ((rd_T66 x0 x6).f0) = x1 then (some ((rd_T66 x0 x6).f1, true)) else (fencepostref09_Last.l0 k x0 x1 (wrap64 (x6 - 1)))) else (none)) else (none)) else (some (0, false))
def fencepostref09_Last.f (k : Nat) (l0 : List (S66)) (a1 : Int) : Option (Int × Bool) := fencepostref09_Last.l0 k l0 a1 (wrap64 ((l0.length : Int) - 1))
set_option maxHeartbeats 8000000 in
set_option maxRecDepth 100000 in
theorem fencepostref09_Last.calls (k : Nat) (A0 : Option Addr) (c0 : Nat) (l0 : List (S66)) (a1 : Int) (r1 : Int) (r2 : Bool) (w : World) (hr0 : Kd.C k66 w A0 l0.length l0) (hc0 : l0.length ≤ c0) (h : fencepostref09_Last.f k l0 a1 = some (r1, r2)) :
 Calls Try.prog 31 #[.slice A0 l0.length c0, .int .i64 a1] w fun e w' => e = .returned (.tuple #[.int .i64 r1, .bool r2]) ∧ Drawn0 w w' := by
 have HR0 := Aside0.mk hr0
 have HC0 := Aside0.mk hc0
 clear hr0 hc0
 have H : (fencepostref09_Last.l0 k l0 a1 (wrap64 ((l0.length : Int) - 1))) = some (r1, r2) := h
 clear h
 have H' := Aside0.mk H
 clear H
 go_enter Try.func31, Try.ntmps31
 go_wp2
 go_loopg [6] k (fun kq v6 w' => ∃ (x6_1 : Int), v6 = .int .i64 x6_1 ∧ Aside0 (fencepostref09_Last.l0 kq l0 a1 x6_1 = some (r1, r2)) ∧ Aside0 (kq ≤ k) ∧ Drawn0 w w')
 case atStart => exact ⟨(wrap64 ((l0.length : Int) - 1)), rf_, H', ⟨Nat.le_refl _⟩, by repeat (first | exact Drawn0.refl _ | apply Drawn0.step)⟩
 clear H'
 obtain ⟨x6_1, rfl, HA, HK1, ⟨m1, rfl⟩⟩ := hrel
 cases gk with
 | zero => exact absurd HA.out (by simp [fencepostref09_Last.l0])
 | succ k1 => ?_
 have H := HA.out
 clear HA
 simp only [fencepostref09_Last.l0] at H
 by_cases c3 : x6_1 ≥ 0
 rotate_left
 ·rw [if_neg c3] at H
  have c3b0 : decide (0 ≤ x6_1) = false := decide_eq_false c3
  clear c3
  simp only [Option.some.injEq, Prod.mk.injEq] at H
  obtain ⟨rfl, rfl⟩ := H
  go_wp2
  go_ret2
  exact ⟨by first | rfl | (simp; done) | (simp [*]; done), by repeat (first | exact Drawn0.refl _ | apply Drawn0.step)⟩
 rw [if_pos c3] at H
 have c3b0 : decide (0 ≤ x6_1) = true := decide_eq_true c3
 clear c3
 by_cases c4 : 0 ≤ x6_1
 rotate_left
 ·rw [if_neg c4] at H
  exact absurd H (by simp)
 rw [if_pos c4] at H
 have c4b0 : decide (0 ≤ x6_1) = true := decide_eq_true c4
 clear c4
 by_cases c5 : x6_1 < (l0.length : Int)
 rotate_left
 ·rw [if_neg c5] at H
  exact absurd H (by simp)
 rw [if_pos c5] at H
 have c5b0 : decide (x6_1 < (l0.length : Int)) = true := decide_eq_true c5
 clear c5
 by_cases c6 : ((rd_T66 l0 x6_1).f0) = a1
 rotate_left
 ·rw [if_neg c6] at H
  have c6b0 : (((rd_T66 l0 x6_1).f0) == a1) = false := beq_eq_false_iff_ne.mpr c6
  have c6b1 : (((rd_T66 l0 x6_1).f0) != a1) = true := bne_iff_ne.mpr c6
  have H' := Aside0.mk H
  clear H
  have p264 : 0 ≤ (x6_1 : Int) := of_decide_eq_true as_
  have q264 : x6_1 < (l0.length : Int) := of_decide_eq_true as_
  obtain ⟨ad264, e264, hx264_0, hx264_1⟩ := at_T66 HR0.out x6_1 p264 q264
  cases e264
  replace p264 := eq_true p264
  replace q264 := eq_true q264
  go_wp2
  go_roundg k1
  case measure => have := HK1.out; omega
  case rel => exact ⟨(wrap64 (x6_1 - 1)), rf_, H', ⟨by have := HK1.out; omega⟩, by repeat (first | exact Drawn0.refl _ | apply Drawn0.step)⟩
 rw [if_pos c6] at H
 have c6b0 : (((rd_T66 l0 x6_1).f0) == a1) = true := beq_iff_eq.mpr c6
 have c6b1 : (((rd_T66 l0 x6_1).f0) != a1) = false := bne_eq_false_iff_eq.mpr c6
 clear c6
 simp only [Option.some.injEq, Prod.mk.injEq] at H
 obtain ⟨rfl, rfl⟩ := H
 have p264 : 0 ≤ (x6_1 : Int) := of_decide_eq_true as_
 have q264 : x6_1 < (l0.length : Int) := of_decide_eq_true as_
 obtain ⟨ad264, e264, hx264_0, hx264_1⟩ := at_T66 HR0.out x6_1 p264 q264
 cases e264
 replace p264 := eq_true p264
 replace q264 := eq_true q264
 have p265 : 0 ≤ (x6_1 : Int) := of_decide_eq_true as_
 have q265 : x6_1 < (l0.length : Int) := of_decide_eq_true as_
 obtain ⟨ad265, e265, hx265_0, hx265_1⟩ := at_T66 HR0.out x6_1 p265 q265
 obtain rfl : ad264 = ad265 := (by injection e265)
 replace p265 := eq_true p265
 replace q265 := eq_true q265
 go_wp2
 go_ret2
 exact ⟨by first | rfl | (simp; done) | (simp [*]; done), by repeat (first | exact Drawn0.refl _ | apply Drawn0.step)⟩
def fencepostref09_View.f (k : Nat) (l0 : List (S66)) (l1 : List Int) (a2 : Int) : Option (Int × Bool) := (fencepostref09_Last.f k l0 a2).bind fun bt266 => (if bt266.2 = true then (some (bt266.1, true)) else (if a2 < 0 then (some (0, false)) else (if a2 ≥ (l1.length : Int) then (some (0, false)) else (if 0 ≤ a2 then (if a2 < (l1.length : Int) then (some (rd l1 a2, true)) else (none)) else (none)))))
set_option maxHeartbeats 8000000 in
set_option maxRecDepth 100000 in
theorem fencepostref09_View.calls (k : Nat) (A0 : Option Addr) (c0 : Nat) (l0 : List (S66)) (A1 : Option Addr) (c1 : Nat) (l1 : List Int) (a2 : Int) (r1 : Int) (r2 : Bool) (w : World) (hr0 : Kd.C k66 w A0 l0.length l0) (hc0 : l0.length ≤ c0) (hr1 : Kd.C (Kd.int .i64) w A1 l1.length l1) (hc1 : l1.length ≤ c1) (h : fencepostref09_View.f k l0 l1 a2 = some (r1, r2)) :
 Calls Try.prog 26 #[.slice A0 l0.length c0, .slice A1 l1.length c1, .int .i64 a2] w fun e w' => e = .returned (.tuple #[.int .i64 r1, .bool r2]) ∧ Drawn0 w w' := by
 have HR0 := Aside0.mk hr0
 have HC0 := Aside0.mk hc0
 clear hr0 hc0
 have HR1 := Aside0.mk hr1
 have HC1 := Aside0.mk hc1
 clear hr1 hc1
 have H : ((fencepostref09_Last.f k l0 a2).bind fun bt266 => (if bt266.2 = true then (some (bt266.1, true)) else (if a2 < 0 then (some (0, false)) else (if a2 ≥ (l1.length : Int) then (some (0, false)) else (if 0 ≤ a2 then (if a2 < (l1.length : Int) then (some (rd l1 a2, true)) else (none)) else (none)))))) = some (r1, r2) := h
 clear h
 replace H := Option.bind_eq_some_iff.mp H
 obtain ⟨⟨t266, t267⟩, A40, H⟩ := H
 replace H : (if t267 = true then (some (t266, true)) else (if a2 < 0 then (some (0, false)) else (if a2 ≥ (l1.length : Int) then (some (0, false)) else (if 0 ≤ a2 then (if a2 < (l1.length : Int) then (some (rd l1 a2, true)) else (none)) else (none))))) = some (r1, r2) := H
 have A4 := Aside0.mk A40
 clear A40
 by_cases c5 : t267 = true
 ·subst c5
  have H1 : (some (t266, true)) = some (r1, r2) := by rw [if_pos rfl] at H; exact H
  clear H
  have H := H1
  clear H1
  simp only [Option.some.injEq, Prod.mk.injEq] at H
  obtain ⟨rfl, rfl⟩ := H
  go_enter Try.func26, Try.ntmps26
  go_wp2_with (first | ((with_reducible refine gate_callee (f := 31) rfl ?_); refine goesL_ (some 13) rfl rfl Try.func31 (by kernel_rfl) rfl #[.slice A0 l0.length c0, .int .i64 a2] rfl ar_ ?_; (with_reducible refine (fencepostref09_Last.calls k _ _ l0 a2 t266 true _ ?side1 ?side2 A4.out).mono ?_); (case side1 => repeat (first | exact HR0.out | (with_reducible refine Kd.C_alloc ?_ _) | (with_reducible refine Kd.C_drewN ?_ _) | (with_reducible refine Kd.C_drew ?_))); (case side2 => exact HC0.out); rintro e w' ⟨rfl, ⟨nd, rfl⟩⟩; refine ⟨_, rfl, ?_⟩))
  go_ret2
  exact ⟨by first | rfl | (simp; done) | (simp [*]; done), by repeat (first | exact Drawn0.refl _ | apply Drawn0.step)⟩
 replace c5 := Bool.eq_false_iff.mpr c5
 subst c5
 have H1 : (if a2 < 0 then (some (0, false)) else (if a2 ≥ (l1.length : Int) then (some (0, false)) else (if 0 ≤ a2 then (if a2 < (l1.length : Int) then (some (rd l1 a2, true)) else (none)) else (none)))) = some (r1, r2) := by rw [if_neg (show ¬ (false = true) by decide)] at H; exact H
 clear H
 have H := H1
 clear H1
 by_cases c6 : a2 < 0
 ·rw [if_pos c6] at H
  have c6b0 : decide (a2 < 0) = true := decide_eq_true c6
  clear c6
  simp only [Option.some.injEq, Prod.mk.injEq] at H
  obtain ⟨rfl, rfl⟩ := H
  go_enter Try.func26, Try.ntmps26
  go_wp2_with (first | ((with_reducible refine gate_callee (f := 31) rfl ?_); refine goesL_ (some 13) rfl rfl Try.func31 (by kernel_rfl) rfl #[.slice A0 l0.length c0, .int .i64 a2] rfl ar_ ?_; (with_reducible refine (fencepostref09_Last.calls k _ _ l0 a2 t266 false _ ?side1 ?side2 A4.out).mono ?_); (case side1 => repeat (first | exact HR0.out | (with_reducible refine Kd.C_alloc ?_ _) | (with_reducible refine Kd.C_drewN ?_ _) | (with_reducible refine Kd.C_drew ?_))); (case side2 => exact HC0.out); rintro e w' ⟨rfl, ⟨nd, rfl⟩⟩; refine ⟨_, rfl, ?_⟩))
  go_ret2
  exact ⟨by first | rfl | (simp; done) | (simp [*]; done), by repeat (first | exact Drawn0.refl _ | apply Drawn0.step)⟩
 rw [if_neg c6] at H
 have c6b0 : decide (a2 < 0) = false := decide_eq_false c6
 clear c6
 by_cases c7 : a2 ≥ (l1.length : Int)
 ·rw [if_pos c7] at H
  have c7b0 : decide ((l1.length : Int) ≤ a2) = true := decide_eq_true c7
  clear c7
  simp only [Option.some.injEq, Prod.mk.injEq] at H
  obtain ⟨rfl, rfl⟩ := H
  go_enter Try.func26, Try.ntmps26
  go_wp2_with (first | ((with_reducible refine gate_callee (f := 31) rfl ?_); refine goesL_ (some 13) rfl rfl Try.func31 (by kernel_rfl) rfl #[.slice A0 l0.length c0, .int .i64 a2] rfl ar_ ?_; (with_reducible refine (fencepostref09_Last.calls k _ _ l0 a2 t266 false _ ?side1 ?side2 A4.out).mono ?_); (case side1 => repeat (first | exact HR0.out | (with_reducible refine Kd.C_alloc ?_ _) | (with_reducible refine Kd.C_drewN ?_ _) | (with_reducible refine Kd.C_drew ?_))); (case side2 => exact HC0.out); rintro e w' ⟨rfl, ⟨nd, rfl⟩⟩; refine ⟨_, rfl, ?_⟩))
  go_ret2
  exact ⟨by first | rfl | (simp; done) | (simp [*]; done), by repeat (first | exact Drawn0.refl _ | apply Drawn0.step)⟩
 rw [if_neg c7] at H
 have c7b0 : decide ((l1.length : Int) ≤ a2) = false := decide_eq_false c7
 clear c7
 by_cases c8 : 0 ≤ a2
 rotate_left
 ·rw [if_neg c8] at H
  exact absurd H (by simp)
 rw [if_pos c8] at H
 have c8b0 : decide (0 ≤ a2) = true := decide_eq_true c8
 clear c8
 by_cases c9 : a2 < (l1.length : Int)
 rotate_left
 ·rw [if_neg c9] at H
  exact absurd H (by simp)
 rw [if_pos c9] at H
 have c9b0 : decide (a2 < (l1.length : Int)) = true := decide_eq_true c9
 clear c9
 simp only [Option.some.injEq, Prod.mk.injEq] at H
 obtain ⟨rfl, rfl⟩ := H
 go_enter Try.func26, Try.ntmps26
 go_wp2_with (first | ((with_reducible refine gate_callee (f := 31) rfl ?_); refine goesL_ (some 13) rfl rfl Try.func31 (by kernel_rfl) rfl #[.slice A0 l0.length c0, .int .i64 a2] rfl ar_ ?_; (with_reducible refine (fencepostref09_Last.calls k _ _ l0 a2 t266 false _ ?side1 ?side2 A4.out).mono ?_); (case side1 => repeat (first | exact HR0.out | (with_reducible refine Kd.C_alloc ?_ _) | (with_reducible refine Kd.C_drewN ?_ _) | (with_reducible refine Kd.C_drew ?_))); (case side2 => exact HC0.out); rintro e w' ⟨rfl, ⟨nd, rfl⟩⟩; refine ⟨_, rfl, ?_⟩; have p268 : 0 ≤ (a2 : Int) := of_decide_eq_true as_; have q268 : a2 < (l1.length : Int) := of_decide_eq_true as_; obtain ⟨ad268, e268, hx268_0⟩ := Kd.at_int HR1.out a2 p268 q268; cases e268; replace p268 := eq_true p268; replace q268 := eq_true q268))
 go_ret2
 exact ⟨by first | rfl | (simp; done) | (simp [*]; done), by repeat (first | exact Drawn0.refl _ | apply Drawn0.step)⟩
def fencepostref09_Push.f (l0 : List (S66)) (a1_0 : Int) (a1_1 : Int) : Option ((List (S66))) := (some (([] : List (S66)) : List (S66))).bind fun y270 => (if y270.length + l0.length < 8796093022208 then ((some (y270 ++ l0 : List (S66))).bind fun y273 => ((some (([(⟨a1_0, a1_1⟩ : S66)] : List (S66)) : List (S66))).bind fun y276 => (if y273.length + y276.length < 8796093022208 then (some (y273 ++ y276)) else (none)))) else (none))
set_option maxHeartbeats 8000000 in
set_option maxRecDepth 100000 in
theorem fencepostref09_Push.calls (A0 : Option Addr) (c0 : Nat) (l0 : List (S66)) (a1_0 : Int) (a1_1 : Int) (r : List (S66)) (w : World) (hr0 : Kd.C k66 w A0 l0.length l0) (hc0 : l0.length ≤ c0) (h : fencepostref09_Push.f l0 a1_0 a1_1 = some r) :
 Calls Try.prog 27 #[.slice A0 l0.length c0, .agg #[.int .i64 a1_0, .int .i64 a1_1]] w fun e w' => ∃ v0_ : Value, e = .returned (v0_) ∧ Kd.R k66 66 w' w.heap.size (fun _ => True) v0_ r ∧ Below w.heap.size w w' := by
 have hu66 := Try.underlying66
 have HR0 := Aside0.mk hr0
 have HC0 := Aside0.mk hc0
 clear hr0 hc0
 have HB := Aside0.mk (Below.refl w.heap.size w)
 have H : ((some (([] : List (S66)) : List (S66))).bind fun y270 => (if y270.length + l0.length < 8796093022208 then ((some (y270 ++ l0 : List (S66))).bind fun y273 => ((some (([(⟨a1_0, a1_1⟩ : S66)] : List (S66)) : List (S66))).bind fun y276 => (if y273.length + y276.length < 8796093022208 then (some (y273 ++ y276)) else (none)))) else (none))) = some r := h
 clear h
 obtain ⟨y270, hy270⟩ : ∃ y_ : List (S66), y_ = (([] : List (S66))) := ⟨_, rfl⟩
 replace H : (if y270.length + l0.length < 8796093022208 then ((some (y270 ++ l0 : List (S66))).bind fun y273 => ((some (([(⟨a1_0, a1_1⟩ : S66)] : List (S66)) : List (S66))).bind fun y276 => (if y273.length + y276.length < 8796093022208 then (some (y273 ++ y276)) else (none)))) else (none)) = some r := by first | (rw [hy270]; with_reducible exact H) | (have H2_ := (Option.bind_some _ _).symm.trans H; rw [hy270]; with_reducible exact H2_) | (have H2_ := (Option.bind_some _ _).symm.trans H; with_reducible exact H2_) | with_reducible exact H | (rw [hy270]; exact H) | exact H
 have Ny270 := Aside0.mk hy270
 clear hy270
 by_cases c3 : y270.length + l0.length < 8796093022208
 rotate_left
 ·rw [if_neg c3] at H
  exact absurd H (by simp)
 rw [if_pos c3] at H
 have LMc3 := Aside0.mk c3
 clear c3
 obtain ⟨y273, hy273⟩ : ∃ y_ : List (S66), y_ = (y270 ++ l0) := ⟨_, rfl⟩
 replace H : ((some (([(⟨a1_0, a1_1⟩ : S66)] : List (S66)) : List (S66))).bind fun y276 => (if y273.length + y276.length < 8796093022208 then (some (y273 ++ y276)) else (none))) = some r := by first | (rw [hy273]; with_reducible exact H) | (have H2_ := (Option.bind_some _ _).symm.trans H; rw [hy273]; with_reducible exact H2_) | (have H2_ := (Option.bind_some _ _).symm.trans H; with_reducible exact H2_) | with_reducible exact H | (rw [hy273]; exact H) | exact H
 have Ny273 := Aside0.mk hy273
 clear hy273
 obtain ⟨y276, hy276⟩ : ∃ y_ : List (S66), y_ = (([(⟨a1_0, a1_1⟩ : S66)] : List (S66))) := ⟨_, rfl⟩
 replace H : (if y273.length + y276.length < 8796093022208 then (some (y273 ++ y276)) else (none)) = some r := by first | (rw [hy276]; with_reducible exact H) | (have H2_ := (Option.bind_some _ _).symm.trans H; rw [hy276]; with_reducible exact H2_) | (have H2_ := (Option.bind_some _ _).symm.trans H; with_reducible exact H2_) | with_reducible exact H | (rw [hy276]; exact H) | exact H
 have Ny276 := Aside0.mk hy276
 clear hy276
 by_cases c4 : y273.length + y276.length < 8796093022208
 rotate_left
 ·rw [if_neg c4] at H
  exact absurd H (by simp)
 rw [if_pos c4] at H
 have LMc4 := Aside0.mk c4
 clear c4
 obtain ⟨y279, hy279⟩ : ∃ y_ : List (S66), y_ = (y273 ++ y276) := ⟨_, rfl⟩
 replace H : (some y279) = some r := by first | (rw [hy279]; with_reducible exact H) | (have H2_ := (Option.bind_some _ _).symm.trans H; rw [hy279]; with_reducible exact H2_) | (have H2_ := (Option.bind_some _ _).symm.trans H; with_reducible exact H2_) | with_reducible exact H | (rw [hy279]; exact H) | exact H
 have Ny279 := Aside0.mk hy279
 clear hy279
 obtain rfl := Option.some.inj H
 go_enter Try.func27, Try.ntmps27
 try go_wp2_with (first | ((with_reducible refine gate_dst (N := 3) rfl ?_); refine box_event ?hg (N := 3) ?hd (cs := #[.int .i64 a1_0, .int .i64 a1_1]) (t := 66) ?hr ?_; (case hd => rfl); (case hg => rfl); (case hr => first | (go_simp; done) | (go_simp; rfl)); intro gb269 hg w5 hbox hb; have n0_ := Aside0.mk (below_step (hb_ HB.out) hb); have n1_ := Aside0.mk (hbox); have n2_ := Aside0.mk (gs_ hg (hb_ HB.out)); have n3_ := Aside0.mk (gs_ hg (hb_ HB.out)); clear HB; have HB := n0_; have BK269 := n1_; have GW269 := n2_; have GE269 := n3_; clear n0_ n1_ n2_ n3_; clear hb hbox hg))
 have n0_ := Aside0.mk (blk_drew BK269.out)
 have n1_ := Aside0.mk (below_drew1 HB.out)
 clear BK269
 clear HB
 have BK269 := n0_
 have HB := n1_
 clear n0_ n1_
 refine start_ (n := 7) (S := fun w' => w'.cell? ⟨gb269, 0, none⟩ = some (.int .i64 a1_0) ∧ w'.cell? ⟨gb269, 1, none⟩ = some (.int .i64 a1_1)) (ds := []) #[false, false, false, false, false, false, false] (by kernel_rfl) rfl rfl ⟨(blk_cell BK269.out 0).trans rfl, (blk_cell BK269.out 1).trans rfl⟩ (fun hHeld => ?_)
 generalize w5.drew = w6 at BK269 HB hHeld ⊢
 refine pure_ (i := 1) (N := some 6) (v := ?_) (a' := ?_) #[false, true, false, false, false, false, false] rfl rfl (by kernel_rfl) (fun _ _ _ h => h) (Or.inl ⟨by rfl, ?_⟩) ?_ ?_; rotate_left; intro w'; go_simp; with_reducible rfl; rotate_left; simp only [Act.put, List.setIfInBounds_toArray, List.set_cons_zero, List.set_cons_succ, i64_w, i32_w]; rfl
 refine take_ (i := 3) (N := some 8) (v := ?_) (a' := ?_) #[false, true, false, true, false, false, false] rfl rfl (by kernel_rfl) (fun _ _ _ h => h) (Or.inl ⟨by rfl, ?_⟩) hHeld ?_ ?_; rotate_left; rintro w' ⟨s0, s1⟩; go_simp; with_reducible rfl; rotate_left; simp only [Act.put, List.setIfInBounds_toArray, List.set_cons_zero, List.set_cons_succ, i64_w, i32_w]; rfl
 refine join_ (σ := Value × Value × Value) 2 #[true, true, true, true, true, false, false] (fun s_ => [(5, s_.1), (7, s_.2.1), (9, s_.2.2)]) (fun s_ w' => (w'.cell? ⟨gb269, 0, none⟩ = some (.int .i64 a1_0) ∧ w'.cell? ⟨gb269, 1, none⟩ = some (.int .i64 a1_1)) ∧ (Kd.R k66 66 w' w.heap.size (fun k_ => some k_ ≠ (s_.2.2 : Value).ownBlock ∧ k_ ≠ gb269) s_.2.1 y273) ∧ (Kd.R k66 66 w' w.heap.size (fun k_ => some k_ ≠ (s_.2.1 : Value).ownBlock ∧ k_ ≠ gb269) s_.2.2 y276) ∧ (w'.heap[gb269]? = some (.cells #[.int .i64 a1_0, .int .i64 a1_1] 66 (0, 0))) ∧ (Below w.heap.size w w')) ?_ ?_
 rotate_left
 ·intro hCont
  refine two_ (i := 0) (j := 4) (Ni := some 5) (Nj := some 9) #[true, true, false, true, false, false, false] #[false, true, false, true, true, false, false] rfl rfl rfl rfl (by kernel_rfl) (by decide) (by decide) (fun K hK => ?_) (fun K hK => ?_)
  ·skip
   refine Kd.R_lit_step k66 _ 66 ?hg (N := 5) ?hd (xs := ([] : List (S66))) (inner := []) (ok := fun _ => True) (okp := fun _ => True) ?hr ?hp (fun _ hk => hk) trivial (Below.refl _ _) (Nat.le_refl _) (by simp) ?_; (case hd => rfl); (case hg => rfl); (case hr => first | (go_simp; done) | (go_simp; rfl)); (case hp => exact (Reps.none _ _))
   intro v271 w7 ho8 hb hg_ hnew_
   clear hg_ hnew_
   (first | rw [← Ny270.out] at ho8 | (simp only [Int.reduceToNat] at ho8; rw [← Ny270.out] at ho8))
   have n0_ := Aside0.mk (Kd.R_lower (Kd.R_newB ho8 (g := gb269) (o := .cells #[.int .i64 a1_0, .int .i64 a1_1] 66 (0, 0)) (bd_ BK269.out)) (below_size (hb_ HB.out)))
   have n1_ := Aside0.mk (bb_ BK269.out hb)
   have n2_ := Aside0.mk (below_step (hb_ HB.out) hb)
   clear BK269
   clear HB
   have HO272 := n0_
   have BK269 := n1_
   have HB := n2_
   clear n0_ n1_ n2_
   clear hb ho8
   refine hK.out _ _ ⟨(blk_cell BK269.out 0).trans rfl, (blk_cell BK269.out 1).trans rfl⟩ (fun hHeld => ?_)
   clear hK K
   refine norm_ (a' := ?_) ?_ ?_
   rotate_left
   ·show Act.put _ (some 5) _ = _
    simp only [Act.put, List.setIfInBounds_toArray, List.set_cons_zero, List.set_cons_succ, i64_w, i32_w]
    rfl
   refine two_ (i := 2) (j := 4) (Ni := some 7) (Nj := some 9) #[true, true, true, true, false, false, false] #[true, true, false, true, true, false, false] rfl rfl rfl rfl (by kernel_rfl) (by decide) (by decide) (fun K hK => ?_) (fun K hK => ?_)
   ·skip
    refine Kd.R_append_rows_step k66 (w0 := w) w.heap.size (by rfl) (.tmp 5) (.tmp 6) 47 66 (.agg #[(.int .i64 0), (.int .i64 0)]) 16 rfl Try.underlying47 info66 rfl (by decide) (by omega) v271 y270 l0 _ _ _ (fun k_ => k_ ≠ gb269) (fun _ => False) rfl rfl ?aO ?aR (fun _ _ h => h) (fun _ h => h.elim) ?aF ?aB ?aS ?aL ?_
    (case aR => repeat (first | exact (Kd.C_below HR0.out HB.out) | (with_reducible refine Kd.C_alloc ?_ _) | (with_reducible refine Kd.C_drewN ?_ _) | (with_reducible refine Kd.C_drew ?_)))
    (case aB => exact (hb_ HB.out))
    (case aF => exact (fun k_ hk => Kd.freshB (g := gb269) (o := .cells #[.int .i64 a1_0, .int .i64 a1_1] 66 (0, 0)) (bd_ BK269.out) k_ hk))
    (case aO => exact (by (with_reducible repeat (first | apply Kd.R_alloc | apply Kd.R_drewN | apply Kd.R_drew)); exact Kd.R_mono HO272.out (fun _ hk => hk.2)))
    (case aS => exact (below_size (hb_ HB.out)))
    (case aL => have := LMc3.out; omega)
    intro v274 w9 ho hb hg hat
    rw [← Ny273.out] at ho
    have n0_ := Aside0.mk (blk_grown (g := gb269) (o := .cells #[.int .i64 a1_0, .int .i64 a1_1] 66 (0, 0)) (bd_ BK269.out) hg (Kd.R_away HO272.out (fun _ hk => hk.2)))
    have n1_ := Aside0.mk (hb)
    have n2_ := Aside0.mk (ho)
    clear BK269
    clear HB
    clear HO272
    have BK269 := n0_
    have HB := n1_
    have HO275 := n2_
    clear n0_ n1_ n2_
    clear ho hb hg hat
    refine hK.out _ _ ⟨(blk_cell BK269.out 0).trans rfl, (blk_cell BK269.out 1).trans rfl⟩ (fun hHeld => ?_)
    clear hK K
    refine norm_ (a' := ?_) ?_ ?_
    rotate_left
    ·show Act.put _ (some 7) _ = _
     simp only [Act.put, List.setIfInBounds_toArray, List.set_cons_zero, List.set_cons_succ, i64_w, i32_w]
     rfl
    refine one_ (i := 4) (N := some 9) #[true, true, true, true, true, false, false] rfl rfl (by kernel_rfl) (by decide) (fun K hK => ?_)
    refine Kd.R_lit_step k66 _ 66 ?hg (N := 9) ?hd (xs := ([(⟨a1_0, a1_1⟩ : S66)] : List (S66))) (inner := [.int .i64 a1_0, .int .i64 a1_1]) (ok := fun _ => True) (okp := fun _ => True) ?hr ?hp (fun _ hk => hk) trivial (Below.refl _ _) (Nat.le_refl _) (by simp) ?_; (case hd => rfl); (case hg => rfl); (case hr => first | (go_simp; done) | (go_simp; rfl)); (case hp => exact (Reps.c2 (show Kd.M k66 _ _ _ (⟨a1_0, a1_1⟩ : S66) [.int .i64 a1_0, .int .i64 a1_1] from (k66_mkM _ _ _ (⟨a1_0, a1_1⟩ : S66) )) (Reps.none _ _)))
    intro v277 w10 ho11 hb hg_ hnew_
    clear hg_ hnew_
    (first | rw [← Ny276.out] at ho11 | (simp only [Int.reduceToNat] at ho11; rw [← Ny276.out] at ho11))
    have n0_ := Aside0.mk (Kd.R_elder' (rd_ HO275.out) (Kd.R_base ho11) hb)
    have n1_ := Aside0.mk (Kd.R_lower (Kd.R_newB (Kd.R_new' ho11 (Kd.R_lt (rd_ HO275.out))) (g := gb269) (o := .cells #[.int .i64 a1_0, .int .i64 a1_1] 66 (0, 0)) (bd_ BK269.out)) (below_size (hb_ HB.out)))
    have n2_ := Aside0.mk (bb_ BK269.out hb)
    have n3_ := Aside0.mk (below_step (hb_ HB.out) hb)
    clear HO275
    clear BK269
    clear HB
    have HO275 := n0_
    have HO278 := n1_
    have BK269 := n2_
    have HB := n3_
    clear n0_ n1_ n2_ n3_
    clear hb ho11
    refine hK.out _ _ ⟨(blk_cell BK269.out 0).trans rfl, (blk_cell BK269.out 1).trans rfl⟩ (fun hHeld => ?_)
    clear hK K
    refine norm_ (a' := ?_) ?_ ?_
    rotate_left
    ·show Act.put _ (some 9) _ = _
     simp only [Act.put, List.setIfInBounds_toArray, List.set_cons_zero, List.set_cons_succ, i64_w, i32_w]
     rfl
    exact norm_ (by simp only [putAll, Act.put, List.setIfInBounds_toArray, List.set_cons_zero, List.set_cons_succ]) (hCont (v271, v274, v277) _ ⟨hHeld, (by (with_reducible repeat (first | apply Kd.R_alloc | apply Kd.R_drewN | apply Kd.R_drew)); exact Kd.R_mono HO275.out (fun _ hk => ⟨hk.2, hk.1⟩)), (by (with_reducible repeat (first | apply Kd.R_alloc | apply Kd.R_drewN | apply Kd.R_drew)); exact Kd.R_mono HO278.out (fun _ hk => ⟨hk.1.2, hk.2⟩)), (bd_ BK269.out), (hb_ HB.out)⟩)
   skip
   refine Kd.R_lit_step k66 _ 66 ?hg (N := 9) ?hd (xs := ([(⟨a1_0, a1_1⟩ : S66)] : List (S66))) (inner := [.int .i64 a1_0, .int .i64 a1_1]) (ok := fun _ => True) (okp := fun _ => True) ?hr ?hp (fun _ hk => hk) trivial (Below.refl _ _) (Nat.le_refl _) (by simp) ?_; (case hd => rfl); (case hg => rfl); (case hr => first | (go_simp; done) | (go_simp; rfl)); (case hp => exact (Reps.c2 (show Kd.M k66 _ _ _ (⟨a1_0, a1_1⟩ : S66) [.int .i64 a1_0, .int .i64 a1_1] from (k66_mkM _ _ _ (⟨a1_0, a1_1⟩ : S66) )) (Reps.none _ _)))
   intro v277 w9 ho10 hb hg_ hnew_
   clear hg_ hnew_
   (first | rw [← Ny276.out] at ho10 | (simp only [Int.reduceToNat] at ho10; rw [← Ny276.out] at ho10))
   have n0_ := Aside0.mk (Kd.R_elder' (rd_ HO272.out) (Kd.R_base ho10) hb)
   have n1_ := Aside0.mk (Kd.R_lower (Kd.R_newB (Kd.R_new' ho10 (Kd.R_lt (rd_ HO272.out))) (g := gb269) (o := .cells #[.int .i64 a1_0, .int .i64 a1_1] 66 (0, 0)) (bd_ BK269.out)) (below_size (hb_ HB.out)))
   have n2_ := Aside0.mk (bb_ BK269.out hb)
   have n3_ := Aside0.mk (below_step (hb_ HB.out) hb)
   clear HO272
   clear BK269
   clear HB
   have HO272 := n0_
   have HO278 := n1_
   have BK269 := n2_
   have HB := n3_
   clear n0_ n1_ n2_ n3_
   clear hb ho10
   refine hK.out _ _ ⟨(blk_cell BK269.out 0).trans rfl, (blk_cell BK269.out 1).trans rfl⟩ (fun hHeld => ?_)
   clear hK K
   refine norm_ (a' := ?_) ?_ ?_
   rotate_left
   ·show Act.put _ (some 9) _ = _
    simp only [Act.put, List.setIfInBounds_toArray, List.set_cons_zero, List.set_cons_succ, i64_w, i32_w]
    rfl
   refine one_ (i := 2) (N := some 7) #[true, true, true, true, true, false, false] rfl rfl (by kernel_rfl) (by decide) (fun K hK => ?_)
   refine Kd.R_append_rows_step k66 (w0 := w) w.heap.size (by rfl) (.tmp 5) (.tmp 6) 47 66 (.agg #[(.int .i64 0), (.int .i64 0)]) 16 rfl Try.underlying47 info66 rfl (by decide) (by omega) v271 y270 l0 _ _ _ (fun k_ => some k_ ≠ (v277 : Value).ownBlock ∧ k_ ≠ gb269) (fun _ => False) rfl rfl ?aO ?aR (fun _ _ h => h) (fun _ h => h.elim) ?aF ?aB ?aS ?aL ?_
   (case aR => repeat (first | exact (Kd.C_below HR0.out HB.out) | (with_reducible refine Kd.C_alloc ?_ _) | (with_reducible refine Kd.C_drewN ?_ _) | (with_reducible refine Kd.C_drew ?_)))
   (case aB => exact (hb_ HB.out))
   (case aF => exact (fun k_ hk => ⟨Kd.fresh' (Kd.R_lt (rd_ HO278.out)) k_ hk, Kd.freshB (g := gb269) (o := .cells #[.int .i64 a1_0, .int .i64 a1_1] 66 (0, 0)) (bd_ BK269.out) k_ hk⟩))
   (case aO => exact (by (with_reducible repeat (first | apply Kd.R_alloc | apply Kd.R_drewN | apply Kd.R_drew)); exact Kd.R_mono HO272.out (fun _ hk => ⟨hk.2, hk.1.2⟩)))
   (case aS => exact (below_size (hb_ HB.out)))
   (case aL => have := LMc3.out; omega)
   intro v274 w11 ho hb hg hat
   rw [← Ny273.out] at ho
   have n0_ := Aside0.mk (blk_grown (g := gb269) (o := .cells #[.int .i64 a1_0, .int .i64 a1_1] 66 (0, 0)) (bd_ BK269.out) hg (Kd.R_away HO272.out (fun _ hk => hk.1.2)))
   have n1_ := Aside0.mk (Kd.R_after (ok := (fun k_ => k_ ≠ gb269)) (by (with_reducible repeat (first | apply Kd.R_alloc | apply Kd.R_drewN | apply Kd.R_drew)); exact Kd.R_mono HO278.out (fun _ hk => ⟨hk.2, hk.1.2⟩)) hg hat)
   have n2_ := Aside0.mk (hb)
   have n3_ := Aside0.mk (ho)
   clear BK269
   clear HO278
   clear HB
   clear HO272
   have BK269 := n0_
   have HO278 := n1_
   have HB := n2_
   have HO275 := n3_
   clear n0_ n1_ n2_ n3_
   clear ho hb hg hat
   refine hK.out _ _ ⟨(blk_cell BK269.out 0).trans rfl, (blk_cell BK269.out 1).trans rfl⟩ (fun hHeld => ?_)
   clear hK K
   refine norm_ (a' := ?_) ?_ ?_
   rotate_left
   ·show Act.put _ (some 7) _ = _
    simp only [Act.put, List.setIfInBounds_toArray, List.set_cons_zero, List.set_cons_succ, i64_w, i32_w]
    rfl
   exact norm_ (by simp only [putAll, Act.put, List.setIfInBounds_toArray, List.set_cons_zero, List.set_cons_succ]) (hCont (v271, v274, v277) _ ⟨hHeld, (rd_ HO275.out), (by (with_reducible repeat (first | apply Kd.R_alloc | apply Kd.R_drewN | apply Kd.R_drew)); exact Kd.R_mono HO278.out (fun _ hk => ⟨hk.2, hk.1⟩)), (bd_ BK269.out), (hb_ HB.out)⟩)
  skip
  refine Kd.R_lit_step k66 _ 66 ?hg (N := 9) ?hd (xs := ([(⟨a1_0, a1_1⟩ : S66)] : List (S66))) (inner := [.int .i64 a1_0, .int .i64 a1_1]) (ok := fun _ => True) (okp := fun _ => True) ?hr ?hp (fun _ hk => hk) trivial (Below.refl _ _) (Nat.le_refl _) (by simp) ?_; (case hd => rfl); (case hg => rfl); (case hr => first | (go_simp; done) | (go_simp; rfl)); (case hp => exact (Reps.c2 (show Kd.M k66 _ _ _ (⟨a1_0, a1_1⟩ : S66) [.int .i64 a1_0, .int .i64 a1_1] from (k66_mkM _ _ _ (⟨a1_0, a1_1⟩ : S66) )) (Reps.none _ _)))
  intro v277 w7 ho8 hb hg_ hnew_
  clear hg_ hnew_
  (first | rw [← Ny276.out] at ho8 | (simp only [Int.reduceToNat] at ho8; rw [← Ny276.out] at ho8))
  have n0_ := Aside0.mk (Kd.R_lower (Kd.R_newB ho8 (g := gb269) (o := .cells #[.int .i64 a1_0, .int .i64 a1_1] 66 (0, 0)) (bd_ BK269.out)) (below_size (hb_ HB.out)))
  have n1_ := Aside0.mk (bb_ BK269.out hb)
  have n2_ := Aside0.mk (below_step (hb_ HB.out) hb)
  clear BK269
  clear HB
  have HO278 := n0_
  have BK269 := n1_
  have HB := n2_
  clear n0_ n1_ n2_
  clear hb ho8
  refine hK.out _ _ ⟨(blk_cell BK269.out 0).trans rfl, (blk_cell BK269.out 1).trans rfl⟩ (fun hHeld => ?_)
  clear hK K
  refine norm_ (a' := ?_) ?_ ?_
  rotate_left
  ·show Act.put _ (some 9) _ = _
   simp only [Act.put, List.setIfInBounds_toArray, List.set_cons_zero, List.set_cons_succ, i64_w, i32_w]
   rfl
  refine one_ (i := 0) (N := some 5) #[true, true, false, true, true, false, false] rfl rfl (by kernel_rfl) (by decide) (fun K hK => ?_)
  refine Kd.R_lit_step k66 _ 66 ?hg (N := 5) ?hd (xs := ([] : List (S66))) (inner := []) (ok := fun _ => True) (okp := fun _ => True) ?hr ?hp (fun _ hk => hk) trivial (Below.refl _ _) (Nat.le_refl _) (by simp) ?_; (case hd => rfl); (case hg => rfl); (case hr => first | (go_simp; done) | (go_simp; rfl)); (case hp => exact (Reps.none _ _))
  intro v271 w9 ho10 hb hg_ hnew_
  clear hg_ hnew_
  (first | rw [← Ny270.out] at ho10 | (simp only [Int.reduceToNat] at ho10; rw [← Ny270.out] at ho10))
  have n0_ := Aside0.mk (Kd.R_elder' (rd_ HO278.out) (Kd.R_base ho10) hb)
  have n1_ := Aside0.mk (Kd.R_lower (Kd.R_newB (Kd.R_new' ho10 (Kd.R_lt (rd_ HO278.out))) (g := gb269) (o := .cells #[.int .i64 a1_0, .int .i64 a1_1] 66 (0, 0)) (bd_ BK269.out)) (below_size (hb_ HB.out)))
  have n2_ := Aside0.mk (bb_ BK269.out hb)
  have n3_ := Aside0.mk (below_step (hb_ HB.out) hb)
  clear HO278
  clear BK269
  clear HB
  have HO278 := n0_
  have HO272 := n1_
  have BK269 := n2_
  have HB := n3_
  clear n0_ n1_ n2_ n3_
  clear hb ho10
  refine hK.out _ _ ⟨(blk_cell BK269.out 0).trans rfl, (blk_cell BK269.out 1).trans rfl⟩ (fun hHeld => ?_)
  clear hK K
  refine norm_ (a' := ?_) ?_ ?_
  rotate_left
  ·show Act.put _ (some 5) _ = _
   simp only [Act.put, List.setIfInBounds_toArray, List.set_cons_zero, List.set_cons_succ, i64_w, i32_w]
   rfl
  refine one_ (i := 2) (N := some 7) #[true, true, true, true, true, false, false] rfl rfl (by kernel_rfl) (by decide) (fun K hK => ?_)
  refine Kd.R_append_rows_step k66 (w0 := w) w.heap.size (by rfl) (.tmp 5) (.tmp 6) 47 66 (.agg #[(.int .i64 0), (.int .i64 0)]) 16 rfl Try.underlying47 info66 rfl (by decide) (by omega) v271 y270 l0 _ _ _ (fun k_ => some k_ ≠ (v277 : Value).ownBlock ∧ k_ ≠ gb269) (fun _ => False) rfl rfl ?aO ?aR (fun _ _ h => h) (fun _ h => h.elim) ?aF ?aB ?aS ?aL ?_
  (case aR => repeat (first | exact (Kd.C_below HR0.out HB.out) | (with_reducible refine Kd.C_alloc ?_ _) | (with_reducible refine Kd.C_drewN ?_ _) | (with_reducible refine Kd.C_drew ?_)))
  (case aB => exact (hb_ HB.out))
  (case aF => exact (fun k_ hk => ⟨Kd.fresh' (Kd.R_lt (rd_ HO278.out)) k_ hk, Kd.freshB (g := gb269) (o := .cells #[.int .i64 a1_0, .int .i64 a1_1] 66 (0, 0)) (bd_ BK269.out) k_ hk⟩))
  (case aO => exact (by (with_reducible repeat (first | apply Kd.R_alloc | apply Kd.R_drewN | apply Kd.R_drew)); exact Kd.R_mono HO272.out (fun _ hk => ⟨hk.1.2, hk.2⟩)))
  (case aS => exact (below_size (hb_ HB.out)))
  (case aL => have := LMc3.out; omega)
  intro v274 w11 ho hb hg hat
  rw [← Ny273.out] at ho
  have n0_ := Aside0.mk (blk_grown (g := gb269) (o := .cells #[.int .i64 a1_0, .int .i64 a1_1] 66 (0, 0)) (bd_ BK269.out) hg (Kd.R_away HO272.out (fun _ hk => hk.2)))
  have n1_ := Aside0.mk (Kd.R_after (ok := (fun k_ => k_ ≠ gb269)) (by (with_reducible repeat (first | apply Kd.R_alloc | apply Kd.R_drewN | apply Kd.R_drew)); exact Kd.R_mono HO278.out (fun _ hk => ⟨hk.1.2, hk.2⟩)) hg hat)
  have n2_ := Aside0.mk (hb)
  have n3_ := Aside0.mk (ho)
  clear BK269
  clear HO278
  clear HB
  clear HO272
  have BK269 := n0_
  have HO278 := n1_
  have HB := n2_
  have HO275 := n3_
  clear n0_ n1_ n2_ n3_
  clear ho hb hg hat
  refine hK.out _ _ ⟨(blk_cell BK269.out 0).trans rfl, (blk_cell BK269.out 1).trans rfl⟩ (fun hHeld => ?_)
  clear hK K
  refine norm_ (a' := ?_) ?_ ?_
  rotate_left
  ·show Act.put _ (some 7) _ = _
   simp only [Act.put, List.setIfInBounds_toArray, List.set_cons_zero, List.set_cons_succ, i64_w, i32_w]
   rfl
  exact norm_ (by simp only [putAll, Act.put, List.setIfInBounds_toArray, List.set_cons_zero, List.set_cons_succ]) (hCont (v271, v274, v277) _ ⟨hHeld, (rd_ HO275.out), (by (with_reducible repeat (first | apply Kd.R_alloc | apply Kd.R_drewN | apply Kd.R_drew)); exact Kd.R_mono HO278.out (fun _ hk => ⟨hk.2, hk.1⟩)), (bd_ BK269.out), (hb_ HB.out)⟩)
 rintro ⟨v271, v274, v277⟩ w12 ⟨hS_, h0_, h1_, h2_, h3_⟩
 have n0_ : Aside0 (Kd.R k66 66 w12 w.heap.size (fun k_ => some k_ ≠ (v277 : Value).ownBlock ∧ k_ ≠ gb269) v274 y273) := ⟨h0_⟩
 have n1_ : Aside0 (Kd.R k66 66 w12 w.heap.size (fun k_ => some k_ ≠ (v274 : Value).ownBlock ∧ k_ ≠ gb269) v277 y276) := ⟨h1_⟩
 have n2_ : Aside0 (w12.heap[gb269]? = some (.cells #[.int .i64 a1_0, .int .i64 a1_1] 66 (0, 0))) := ⟨h2_⟩
 have n3_ : Aside0 (Below w.heap.size w w12) := ⟨h3_⟩
 clear BK269
 clear HB
 clear h0_ h1_ h2_ h3_
 have HO275 := n0_
 have HO278 := n1_
 have BK269 := n2_
 have HB := n3_
 clear n0_ n1_ n2_ n3_
 have hHeld : w12.cell? ⟨gb269, 0, none⟩ = some (.int .i64 a1_0) ∧ w12.cell? ⟨gb269, 1, none⟩ = some (.int .i64 a1_1) := hS_
 obtain ⟨Ao14, co14, eo14⟩ := Kd.R_slice HO278.out
 (first | subst eo14 | (injection eo14 with f1_ f2_ f3_; have f4_ := f1_.symm; have f5_ := f3_.symm; clear f1_ f2_ f3_; subst f4_; subst f5_))
 refine norm_ (a' := ?_) ?_ ?_
 rotate_left
 ·simp only [putAll, Act.put, List.setIfInBounds_toArray, List.set_cons_zero, List.set_cons_succ]
  rfl
 refine one_ (i := 5) (N := some 10) #[true, true, true, true, true, true, false] rfl rfl (by kernel_rfl) (by decide) (fun K hK => ?_)
 refine Kd.R_append_rows_step k66 (w0 := w) w.heap.size (by rfl) (.tmp 7) (.tmp 9) 47 66 (.agg #[(.int .i64 0), (.int .i64 0)]) 16 rfl Try.underlying47 info66 rfl (by decide) (by omega) v274 y273 y276 _ _ _ (fun k_ => some k_ ≠ (.slice Ao14 y276.length co14 : Value).ownBlock ∧ k_ ≠ gb269) (fun _ => False) rfl rfl ?aO ?aR (fun _ _ h => h) (fun _ h => h.elim) ?aF ?aB ?aS ?aL ?_
 (case aR => repeat (first | exact (Kd.R_reads' HO278.out).2.2 | (with_reducible refine Kd.C_alloc ?_ _) | (with_reducible refine Kd.C_drewN ?_ _) | (with_reducible refine Kd.C_drew ?_)))
 (case aB => exact (hb_ HB.out))
 (case aF => exact (fun k_ hk => ⟨Kd.fresh' (Kd.R_lt (rd_ HO278.out)) k_ hk, Kd.freshB (g := gb269) (o := .cells #[.int .i64 a1_0, .int .i64 a1_1] 66 (0, 0)) (bd_ BK269.out) k_ hk⟩))
 (case aO => exact (rd_ HO275.out))
 (case aS => exact (below_size (hb_ HB.out)))
 (case aL => have := LMc4.out; omega)
 intro v280 w13 ho hb hg hat
 rw [← Ny279.out] at ho
 have n0_ := Aside0.mk (blk_grown (g := gb269) (o := .cells #[.int .i64 a1_0, .int .i64 a1_1] 66 (0, 0)) (bd_ BK269.out) hg (Kd.R_away HO275.out (fun _ hk => hk.2)))
 have n1_ := Aside0.mk (Kd.R_after (ok := (fun k_ => k_ ≠ gb269)) (by (with_reducible repeat (first | apply Kd.R_alloc | apply Kd.R_drewN | apply Kd.R_drew)); exact Kd.R_mono HO278.out (fun _ hk => ⟨hk.2, hk.1⟩)) hg hat)
 have n2_ := Aside0.mk (hb)
 have n3_ := Aside0.mk (ho)
 clear BK269
 clear HO278
 clear HB
 clear HO275
 have BK269 := n0_
 have HO278 := n1_
 have HB := n2_
 have HO281 := n3_
 clear n0_ n1_ n2_ n3_
 clear ho hb hg hat
 refine hK.out _ _ ⟨(blk_cell BK269.out 0).trans rfl, (blk_cell BK269.out 1).trans rfl⟩ (fun hHeld => ?_)
 clear hK K
 refine norm_ (a' := ?_) ?_ ?_
 rotate_left
 ·show Act.put _ (some 10) _ = _
  simp only [Act.put, List.setIfInBounds_toArray, List.set_cons_zero, List.set_cons_succ, i64_w, i32_w]
  rfl
 refine pure_ (i := 6) (N := some 4) (v := ?_) (a' := ?_) #[true, true, true, true, true, true, true] rfl rfl (by kernel_rfl) (fun _ _ _ h => h) (Or.inl ⟨by rfl, ?_⟩) ?_ ?_; rotate_left; intro w'; go_simp; with_reducible rfl; rotate_left; simp only [Act.put, List.setIfInBounds_toArray, List.set_cons_zero, List.set_cons_succ, i64_w, i32_w]; rfl
 refine done_ (by kernel_rfl) ?_
 try go_wp2
 go_ret
 exact ⟨_, by first | rfl | (simp [errW_none, errW_some] <;> rfl) | (simp [*, errW_none, errW_some] <;> rfl), by (with_reducible repeat (first | apply Kd.R_alloc | apply Kd.R_drewN | apply Kd.R_drew)); exact Kd.R_mono HO281.out (fun _ hk => trivial), hb_ HB.out⟩
end Go.Proofs.Ytphklaajolpieaa.Print
