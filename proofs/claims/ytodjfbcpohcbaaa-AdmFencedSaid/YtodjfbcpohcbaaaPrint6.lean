-- Written by ownprint.py (this session's) with the kit's print.py: functions, contracts, rows; Lean checks it.
import Derived.Test.YtodjfbcpohcbaaaPrint0
import Derived.Test.YtodjfbcpohcbaaaPrint1
import Derived.Test.YtodjfbcpohcbaaaPrint4
import Derived.Test.YtodjfbcpohcbaaaPrint5
import Derived.Test.YtodjfbcpohcbaaaHAdm
namespace Go.Proofs.Ytodjfbcpohcbaaa.Print
open Go.RowKit Go.Proofs.YtodjfbcpohcbaaaW.PrintWords Go.Proofs.YtodjfbcpohcbaaaW.PrintLast Go.Proofs.YtodjfbcpohcbaaaW.PrintMore
attribute [local go_sem] max2_int min2_int max_two min_two max_three min_three max_four min_four   -- for this text's walks alone
set_option linter.unusedVariables false
set_option linter.unusedSimpArgs false

/-! ### fencepostlaw19_AdmFenced: function 6 -/
mutual
def fencepostlaw19_AdmFenced.j0 : Nat → Bool → Bool → List Int → List (List (S49)) → Option (Bool)
  | 0, _, _, _, _ => none
  | k + 1, x3, x14, x218000, x218001 => if x14 = true then (some x3) else ((adm_Slots.f x218000 x218001).bind fun t221 => ((fencepostref08_Insert.f k x218000 x218001 t221).bind fun bt224 => (fencepostlaw19_AdmFenced.l0 k x3 0 bt224.1 bt224.2)))
def fencepostlaw19_AdmFenced.l0 : Nat → Bool → Int → List Int → List (List (S49)) → Option (Bool)
  | 0, _, _, _, _ => none
  | k + 1, x3, x6, x231000, x231001 => if x6 < (x231001.length : Int) then (if 0 ≤ x6 then (if ((rd_L2 x231001 x6).length : Int) > 40 then (some x3) else (fencepostlaw19_AdmFenced.l0 k x3 (wrap64 (x6 + 1)) x231000 x231001)) else (none)) else (if x3 = true then ((adm_Slots.f x231000 x231001).bind fun t232 => (some ((t232.length : Int) == 0))) else (some false))
end
def fencepostlaw19_AdmFenced.f (k : Nat) (l0_0 : List Int) (l0_1 : List (List (S49))) : Option (Bool) := (fencepostlaw19_head.f k).bind fun t218 => ((fencepostlaw08_Great.f k l0_0 l0_1).bind fun t219 => (if t219 = true then (fencepostlaw19_AdmFenced.j0 k t218 true l0_0 l0_1) else ((fencepostref08_Many.f k l0_0 l0_1).bind fun t220 => (fencepostlaw19_AdmFenced.j0 k t218 (decide (t220 > 60)) l0_0 l0_1))))
theorem fencepostlaw19_AdmFenced.mono_l : ∀ k, (∀ y0 y1 y2 y3, LeO (fencepostlaw19_AdmFenced.j0 k y0 y1 y2 y3) (fencepostlaw19_AdmFenced.j0 (k + 1) y0 y1 y2 y3)) ∧ (∀ y0 y1 y2 y3, LeO (fencepostlaw19_AdmFenced.l0 k y0 y1 y2 y3) (fencepostlaw19_AdmFenced.l0 (k + 1) y0 y1 y2 y3))
  | 0 => ⟨fun _ _ _ _ r h => by simp [fencepostlaw19_AdmFenced.j0] at h, fun _ _ _ _ r h => by simp [fencepostlaw19_AdmFenced.l0] at h⟩
  | k + 1 => by
    obtain ⟨ih0, ih1⟩ := fencepostlaw19_AdmFenced.mono_l k
    refine ⟨?_, ?_⟩
    · intro y0 y1 y2 y3
      unfold fencepostlaw19_AdmFenced.j0
      repeat' first
      | (with_reducible exact ih0 _ _ _ _)
      | (with_reducible exact ih1 _ _ _ _)
      | (with_reducible exact fencepostlaw08_Great.mono _ _ _)
      | (with_reducible exact fencepostlaw19_head.mono _)
      | (with_reducible exact fencepostref08_Insert.mono _ _ _ _)
      | (with_reducible exact fencepostref08_Many.mono _ _ _)
      | (with_reducible exact LeO.refl _)
      | (with_reducible exact LeO.none _)
      | (with_reducible refine LeO.ite ?_ ?_)
      | (with_reducible refine LeO.bind ?_ (fun _ => ?_))
      | exact ih0 _ _ _ _
      | exact ih1 _ _ _ _
      | exact fencepostlaw08_Great.mono _ _ _
      | exact fencepostlaw19_head.mono _
      | exact fencepostref08_Insert.mono _ _ _ _
      | exact fencepostref08_Many.mono _ _ _
      | exact LeO.none _
      | refine LeO.ite ?_ ?_
      | refine LeO.bind ?_ (fun _ => ?_)
    · intro y0 y1 y2 y3
      unfold fencepostlaw19_AdmFenced.l0
      repeat' first
      | (with_reducible exact ih0 _ _ _ _)
      | (with_reducible exact ih1 _ _ _ _)
      | (with_reducible exact fencepostlaw08_Great.mono _ _ _)
      | (with_reducible exact fencepostlaw19_head.mono _)
      | (with_reducible exact fencepostref08_Insert.mono _ _ _ _)
      | (with_reducible exact fencepostref08_Many.mono _ _ _)
      | (with_reducible exact LeO.refl _)
      | (with_reducible exact LeO.none _)
      | (with_reducible refine LeO.ite ?_ ?_)
      | (with_reducible refine LeO.bind ?_ (fun _ => ?_))
      | exact ih0 _ _ _ _
      | exact ih1 _ _ _ _
      | exact fencepostlaw08_Great.mono _ _ _
      | exact fencepostlaw19_head.mono _
      | exact fencepostref08_Insert.mono _ _ _ _
      | exact fencepostref08_Many.mono _ _ _
      | exact LeO.none _
      | refine LeO.ite ?_ ?_
      | refine LeO.bind ?_ (fun _ => ?_)
theorem fencepostlaw19_AdmFenced.mono : ∀ a0 a1 k, LeO (fencepostlaw19_AdmFenced.f k a0 a1) (fencepostlaw19_AdmFenced.f (k + 1) a0 a1) := by
  intro a0 a1 k
  obtain ⟨ih0, ih1⟩ := fencepostlaw19_AdmFenced.mono_l k
  unfold fencepostlaw19_AdmFenced.f
  repeat' first
      | (with_reducible exact ih0 _ _ _ _)
      | (with_reducible exact ih1 _ _ _ _)
      | (with_reducible exact fencepostlaw08_Great.mono _ _ _)
      | (with_reducible exact fencepostlaw19_head.mono _)
      | (with_reducible exact fencepostref08_Insert.mono _ _ _ _)
      | (with_reducible exact fencepostref08_Many.mono _ _ _)
      | (with_reducible exact LeO.refl _)
      | (with_reducible exact LeO.none _)
      | (with_reducible refine LeO.ite ?_ ?_)
      | (with_reducible refine LeO.bind ?_ (fun _ => ?_))
      | exact ih0 _ _ _ _
      | exact ih1 _ _ _ _
      | exact fencepostlaw08_Great.mono _ _ _
      | exact fencepostlaw19_head.mono _
      | exact fencepostref08_Insert.mono _ _ _ _
      | exact fencepostref08_Many.mono _ _ _
      | exact LeO.none _
      | refine LeO.ite ?_ ?_
      | refine LeO.bind ?_ (fun _ => ?_)
set_option maxHeartbeats 8000000 in
set_option maxRecDepth 100000 in
theorem fencepostlaw19_AdmFenced.calls (k : Nat) (A0_0 : Option Addr) (c0_0 : Nat) (l0_0 : List Int) (A0_1 : Option Addr) (c0_1 : Nat) (l0_1 : List (List (S49))) (r : Bool) (w : World) (hr0_0 : Kd.C (Kd.int .i64) w A0_0 l0_0.length l0_0) (hc0_0 : l0_0.length ≤ c0_0) (hr0_1 : Kd.C (Kd.slice 49 k49) w A0_1 l0_1.length l0_1) (hc0_1 : l0_1.length ≤ c0_1) (ht_ : r = true) (h : fencepostlaw19_AdmFenced.f k l0_0 l0_1 = some r) :
    Calls Try.prog 6 #[.agg #[.slice A0_0 l0_0.length c0_0, .slice A0_1 l0_1.length c0_1]] w fun e w' => e = .returned (.bool r) ∧ Below w.heap.size w w' := by
  have hu25 := Try.underlying25
  have HR0_0 := Aside0.mk hr0_0
  have HC0_0 := Aside0.mk hc0_0
  clear hr0_0 hc0_0
  have HR0_1 := Aside0.mk hr0_1
  have HC0_1 := Aside0.mk hc0_1
  clear hr0_1 hc0_1
  have HB := Aside0.mk (Below.refl w.heap.size w)
  have HT := Aside0.mk ht_
  clear ht_
  have H : ((fencepostlaw19_head.f k).bind fun t218 => ((fencepostlaw08_Great.f k l0_0 l0_1).bind fun t219 => (if t219 = true then (fencepostlaw19_AdmFenced.j0 k t218 true l0_0 l0_1) else ((fencepostref08_Many.f k l0_0 l0_1).bind fun t220 => (fencepostlaw19_AdmFenced.j0 k t218 (decide (t220 > 60)) l0_0 l0_1))))) = some r := h
  clear h
  replace H := Option.bind_eq_some_iff.mp H
  obtain ⟨t218, A20, H⟩ := H
  replace H : ((fencepostlaw08_Great.f k l0_0 l0_1).bind fun t219 => (if t219 = true then (fencepostlaw19_AdmFenced.j0 k t218 true l0_0 l0_1) else ((fencepostref08_Many.f k l0_0 l0_1).bind fun t220 => (fencepostlaw19_AdmFenced.j0 k t218 (decide (t220 > 60)) l0_0 l0_1)))) = some r := H
  have A2 := Aside0.mk A20
  clear A20
  have HC3 := Aside0.mk H
  clear H
  go_enter Try.func6, Try.ntmps6
  go_upto_region 2 with (first | ((with_reducible refine gate_dst (N := 1) rfl ?_); (try (refine gate_guard (by rfl) ?_; dsimp only)); refine box_event ?hg (N := 1) ?hd (cs := #[.slice A0_0 l0_0.length c0_0, .slice A0_1 l0_1.length c0_1]) (t := 25) ?hr ?_; (case hd => rfl); (case hg => rfl); (case hr => first | (go_simp; done) | (go_simp; rfl)); intro gb217 hg w4 hbox hb; have n0_ := Aside0.mk (below_step (by repeat (first | (with_reducible first | exact HB.out | apply below_alloc | apply pw_below_drewN | apply below_drew1) | exact HB.out)) hb); have n1_ := Aside0.mk (hbox); have n2_ := Aside0.mk ((by rw [hg]; exact (below_size (by repeat (first | (with_reducible first | exact HB.out | apply below_alloc | apply pw_below_drewN | apply below_drew1) | exact HB.out))) : w.heap.size ≤ gb217)); have n3_ := Aside0.mk ((by rw [hg]; exact (below_size (by repeat (first | (with_reducible first | exact HB.out | apply below_alloc | apply pw_below_drewN | apply below_drew1) | exact HB.out))) : w.heap.size ≤ gb217)); clear HB; have HB := n0_; have BK217 := n1_; have GW217 := n2_; have GE217 := n3_; clear n0_ n1_ n2_ n3_; clear hb hbox hg) | ((with_reducible refine gate_callee (f := 9) rfl ?_); refine goesL_ (some 7) rfl rfl Try.func9 (by kernel_rfl) rfl #[] rfl (by (try simp only [List.map_toArray, List.map_cons, List.map_nil]); first | done | rfl | (simp only [List.length_drop, List.length_take]; rfl)) ?_; (with_reducible refine (fencepostlaw19_head.calls k  t218 _ A2.out).mono ?_); rintro e w5 ⟨rfl, hb⟩; refine ⟨_, rfl, ?_⟩; have n0_ := Aside0.mk (blk_below (g := gb217) (o := .cells #[.slice A0_0 l0_0.length c0_0, .slice A0_1 l0_1.length c0_1] 25 (0, 0)) (by (with_reducible repeat (first | refine blk_drewN ?_ _ | refine blk_drew ?_ | refine blk_alloc ?_ _)); exact BK217.out) hb); have n1_ := Aside0.mk (below_step (by repeat (first | (with_reducible first | exact HB.out | apply below_alloc | apply pw_below_drewN | apply below_drew1 | refine below_set ?_ GE217.out) | exact HB.out)) hb); clear BK217; clear HB; have BK217 := n0_; have HB := n1_; clear n0_ n1_; (try clear hb); (try clear hb2); (try clear hk); (try clear hi)))
  (try simp only [Act.put, List.setIfInBounds_toArray, List.set_cons_zero, List.set_cons_succ])
  go_cut [14] (fun v14 wc => ∃ (kq : Nat) (x14_2 : Bool), v14 = .bool x14_2 ∧ Aside0 (fencepostlaw19_AdmFenced.j0 kq t218 x14_2 l0_0 l0_1 = some r) ∧ Aside0 (kq ≤ k) ∧ Aside0 (wc.heap[gb217]? = some (.cells #[(.slice A0_0 l0_0.length c0_0), (.slice A0_1 l0_1.length c0_1)] 25 (0, 0))) ∧ Aside0 (Below w.heap.size w wc))
  case first =>
    have H := HC3.out
    clear HC3
    replace H := Option.bind_eq_some_iff.mp H
    obtain ⟨t219, A60, H⟩ := H
    replace H : (if t219 = true then (fencepostlaw19_AdmFenced.j0 k t218 true l0_0 l0_1) else ((fencepostref08_Many.f k l0_0 l0_1).bind fun t220 => (fencepostlaw19_AdmFenced.j0 k t218 (decide (t220 > 60)) l0_0 l0_1))) = some r := H
    have A6 := Aside0.mk A60
    clear A60
    by_cases c7 : t219 = true
    · subst c7
      have H1 : (fencepostlaw19_AdmFenced.j0 k t218 true l0_0 l0_1) = some r := by rw [if_pos rfl] at H; exact H
      clear H
      have H := H1
      clear H1
      have H' := Aside0.mk H
      clear H
      have hcz8_0 : w5.cell? ⟨gb217, 0, none⟩ = some (.slice A0_0 l0_0.length c0_0) := (blk_cell BK217.out 0).trans rfl
      have hcz8_1 : w5.cell? ⟨gb217, 1, none⟩ = some (.slice A0_1 l0_1.length c0_1) := (blk_cell BK217.out 1).trans rfl
      have hfz8_0 := blk_frozen BK217.out 0
      have hfz8_1 := blk_frozen BK217.out 1
      go_wp2_with (first | ((with_reducible refine gate_callee (f := 10) rfl ?_); refine goesL_ (some 9) rfl rfl Try.func10 (by kernel_rfl) rfl #[.agg #[.slice A0_0 l0_0.length c0_0, .slice A0_1 l0_1.length c0_1]] rfl (by (try simp only [List.map_toArray, List.map_cons, List.map_nil]); first | done | rfl | (simp only [List.length_drop, List.length_take]; rfl)) ?_; (with_reducible refine (fencepostlaw08_Great.calls k _ _ l0_0 _ _ l0_1 true _ ?side1 ?side2 ?side3 ?side4 A6.out).mono ?_); (case side1 => repeat (first | exact (Kd.C_below HR0_0.out HB.out) | (with_reducible refine Kd.C_alloc ?_ _) | (with_reducible refine Kd.C_drewN ?_ _) | (with_reducible refine Kd.C_drew ?_))); (case side2 => exact HC0_0.out); (case side3 => repeat (first | exact (Kd.C_below HR0_1.out HB.out) | (with_reducible refine Kd.C_alloc ?_ _) | (with_reducible refine Kd.C_drewN ?_ _) | (with_reducible refine Kd.C_drew ?_))); (case side4 => exact HC0_1.out); rintro e w9 ⟨rfl, hb⟩; refine ⟨_, rfl, ?_⟩; have n0_ := Aside0.mk (blk_below (g := gb217) (o := .cells #[.slice A0_0 l0_0.length c0_0, .slice A0_1 l0_1.length c0_1] 25 (0, 0)) (by (with_reducible repeat (first | refine blk_drewN ?_ _ | refine blk_drew ?_ | refine blk_alloc ?_ _)); exact BK217.out) hb); have n1_ := Aside0.mk (below_step (by repeat (first | (with_reducible first | exact HB.out | apply below_alloc | apply pw_below_drewN | apply below_drew1 | refine below_set ?_ GE217.out) | exact HB.out)) hb); clear BK217; clear HB; have BK217 := n0_; have HB := n1_; clear n0_ n1_; (try clear hb); (try clear hb2); (try clear hk); (try clear hi)))
      go_meet
      case rel => exact ⟨_, (true), (by first | rfl | (simp; done) | (simp [*]; done)), H', ⟨by first | omega | exact Nat.le_refl _⟩, ⟨by (with_reducible repeat (first | refine blk_drewN ?_ _ | refine blk_drew ?_ | refine blk_alloc ?_ _)); exact BK217.out⟩, ⟨by repeat (first | (with_reducible first | exact HB.out | apply below_alloc | apply pw_below_drewN | apply below_drew1 | refine below_set ?_ GE217.out) | exact HB.out)⟩⟩
    · replace c7 := Bool.eq_false_iff.mpr c7
      subst c7
      have H1 : ((fencepostref08_Many.f k l0_0 l0_1).bind fun t220 => (fencepostlaw19_AdmFenced.j0 k t218 (decide (t220 > 60)) l0_0 l0_1)) = some r := by rw [if_neg (show ¬ (false = true) by decide)] at H; exact H
      clear H
      have H := H1
      clear H1
      replace H := Option.bind_eq_some_iff.mp H
      obtain ⟨t220, A100, H⟩ := H
      replace H : (fencepostlaw19_AdmFenced.j0 k t218 (decide (t220 > 60)) l0_0 l0_1) = some r := H
      have A10 := Aside0.mk A100
      clear A100
      have H' := Aside0.mk H
      clear H
      have hcz11_0 : w5.cell? ⟨gb217, 0, none⟩ = some (.slice A0_0 l0_0.length c0_0) := (blk_cell BK217.out 0).trans rfl
      have hcz11_1 : w5.cell? ⟨gb217, 1, none⟩ = some (.slice A0_1 l0_1.length c0_1) := (blk_cell BK217.out 1).trans rfl
      have hfz11_0 := blk_frozen BK217.out 0
      have hfz11_1 := blk_frozen BK217.out 1
      go_wp2_with (first | ((with_reducible refine gate_callee (f := 10) rfl ?_); refine goesL_ (some 9) rfl rfl Try.func10 (by kernel_rfl) rfl #[.agg #[.slice A0_0 l0_0.length c0_0, .slice A0_1 l0_1.length c0_1]] rfl (by (try simp only [List.map_toArray, List.map_cons, List.map_nil]); first | done | rfl | (simp only [List.length_drop, List.length_take]; rfl)) ?_; (with_reducible refine (fencepostlaw08_Great.calls k _ _ l0_0 _ _ l0_1 false _ ?side1 ?side2 ?side3 ?side4 A6.out).mono ?_); (case side1 => repeat (first | exact (Kd.C_below HR0_0.out HB.out) | (with_reducible refine Kd.C_alloc ?_ _) | (with_reducible refine Kd.C_drewN ?_ _) | (with_reducible refine Kd.C_drew ?_))); (case side2 => exact HC0_0.out); (case side3 => repeat (first | exact (Kd.C_below HR0_1.out HB.out) | (with_reducible refine Kd.C_alloc ?_ _) | (with_reducible refine Kd.C_drewN ?_ _) | (with_reducible refine Kd.C_drew ?_))); (case side4 => exact HC0_1.out); rintro e w12 ⟨rfl, hb⟩; refine ⟨_, rfl, ?_⟩; have n0_ := Aside0.mk (blk_below (g := gb217) (o := .cells #[.slice A0_0 l0_0.length c0_0, .slice A0_1 l0_1.length c0_1] 25 (0, 0)) (by (with_reducible repeat (first | refine blk_drewN ?_ _ | refine blk_drew ?_ | refine blk_alloc ?_ _)); exact BK217.out) hb); have n1_ := Aside0.mk (below_step (by repeat (first | (with_reducible first | exact HB.out | apply below_alloc | apply pw_below_drewN | apply below_drew1 | refine below_set ?_ GE217.out) | exact HB.out)) hb); clear BK217; clear HB; have BK217 := n0_; have HB := n1_; clear n0_ n1_; (try clear hb); (try clear hb2); (try clear hk); (try clear hi); have hcz13_0 : w12.cell? ⟨gb217, 0, none⟩ = some (.slice A0_0 l0_0.length c0_0) := (blk_cell BK217.out 0).trans rfl; have hcz13_1 : w12.cell? ⟨gb217, 1, none⟩ = some (.slice A0_1 l0_1.length c0_1) := (blk_cell BK217.out 1).trans rfl; have hfz13_0 := blk_frozen BK217.out 0; have hfz13_1 := blk_frozen BK217.out 1) | (go_at_call 22; (with_reducible refine (fencepostref08_Many.calls k _ _ l0_0 _ _ l0_1 t220 _ ?side1 ?side2 ?side3 ?side4 A10.out).mono ?_); (case side1 => repeat (first | exact (Kd.C_below HR0_0.out HB.out) | (with_reducible refine Kd.C_alloc ?_ _) | (with_reducible refine Kd.C_drewN ?_ _) | (with_reducible refine Kd.C_drew ?_))); (case side2 => exact HC0_0.out); (case side3 => repeat (first | exact (Kd.C_below HR0_1.out HB.out) | (with_reducible refine Kd.C_alloc ?_ _) | (with_reducible refine Kd.C_drewN ?_ _) | (with_reducible refine Kd.C_drew ?_))); (case side4 => exact HC0_1.out); rintro e w14 ⟨rfl, hb⟩; have n0_ := Aside0.mk (blk_below (g := gb217) (o := .cells #[.slice A0_0 l0_0.length c0_0, .slice A0_1 l0_1.length c0_1] 25 (0, 0)) (by (with_reducible repeat (first | refine blk_drewN ?_ _ | refine blk_drew ?_ | refine blk_alloc ?_ _)); exact BK217.out) hb); have n1_ := Aside0.mk (below_step (by repeat (first | (with_reducible first | exact HB.out | apply below_alloc | apply pw_below_drewN | apply below_drew1 | refine below_set ?_ GE217.out) | exact HB.out)) hb); clear BK217; clear HB; have BK217 := n0_; have HB := n1_; clear n0_ n1_; (try clear hb); (try clear hb2); (try clear hk); (try clear hi)))
      go_meet
      case rel => exact ⟨_, (decide (t220 > 60)), (by first | rfl | (simp; done) | (simp [*]; done)), H', ⟨by first | omega | exact Nat.le_refl _⟩, ⟨by (with_reducible repeat (first | refine blk_drewN ?_ _ | refine blk_drew ?_ | refine blk_alloc ?_ _)); exact BK217.out⟩, ⟨by repeat (first | (with_reducible first | exact HB.out | apply below_alloc | apply pw_below_drewN | apply below_drew1 | refine below_set ?_ GE217.out) | exact HB.out)⟩⟩
  case rest =>
    clear HC3
    try clear c1
    try clear p2
    try clear c6
    try clear c7
    try clear c9
    try clear c10
    try clear hcz11_0
    try clear hcz11_1
    try clear hcz13_0
    try clear hcz13_1
    try clear hcz8_0
    try clear hcz8_1
    try clear hfz11_0
    try clear hfz11_1
    try clear hfz13_0
    try clear hfz13_1
    try clear hfz8_0
    try clear hfz8_1
    obtain ⟨kq, x14_2, rfl, HA, HJ2, BK217, HB⟩ := hcut
    cases kq with
    | zero => exact absurd HA.out (by simp [fencepostlaw19_AdmFenced.j0])
    | succ kj2 =>
      have H := HA.out
      clear HA
      simp only [fencepostlaw19_AdmFenced.j0] at H
      by_cases c15 : x14_2 = true
      · subst c15
        have H1 : (some t218) = some r := by rw [if_pos rfl] at H; exact H
        clear H
        have H := H1
        clear H1
        obtain rfl := Option.some.inj H
        go_wp2
        go_ret
        exact ⟨by first | rfl | (simp [errW_none, errW_some] <;> rfl) | (simp [*, errW_none, errW_some] <;> rfl), by repeat (first | (with_reducible first | exact HB.out | apply below_alloc | apply pw_below_drewN | apply below_drew1 | refine below_set ?_ GE217.out) | exact HB.out)⟩
      · replace c15 := Bool.eq_false_iff.mpr c15
        subst c15
        have H1 : ((adm_Slots.f l0_0 l0_1).bind fun t221 => ((fencepostref08_Insert.f kj2 l0_0 l0_1 t221).bind fun bt224 => (fencepostlaw19_AdmFenced.l0 kj2 t218 0 bt224.1 bt224.2))) = some r := by rw [if_neg (show ¬ (false = true) by decide)] at H; exact H
        clear H
        have H := H1
        clear H1
        replace H := Option.bind_eq_some_iff.mp H
        obtain ⟨t221, A160, H⟩ := H
        replace H : ((fencepostref08_Insert.f kj2 l0_0 l0_1 t221).bind fun bt224 => (fencepostlaw19_AdmFenced.l0 kj2 t218 0 bt224.1 bt224.2)) = some r := H
        have A16 := Aside0.mk A160
        clear A160
        replace H := Option.bind_eq_some_iff.mp H
        obtain ⟨⟨t224, t227⟩, A170, H⟩ := H
        replace H : (fencepostlaw19_AdmFenced.l0 kj2 t218 0 t224 t227) = some r := H
        have A17 := Aside0.mk A170
        clear A170
        have H' := Aside0.mk H
        clear H
        have hcz18_0 : wc.cell? ⟨gb217, 0, none⟩ = some (.slice A0_0 l0_0.length c0_0) := (blk_cell BK217.out 0).trans rfl
        have hcz18_1 : wc.cell? ⟨gb217, 1, none⟩ = some (.slice A0_1 l0_1.length c0_1) := (blk_cell BK217.out 1).trans rfl
        have hfz18_0 := blk_frozen BK217.out 0
        have hfz18_1 := blk_frozen BK217.out 1
        go_wp2_with (first | ((with_reducible refine gate_callee (f := 12) rfl ?_); refine goesL_ (some 17) rfl rfl Try.func12 (by kernel_rfl) rfl #[.agg #[.slice A0_0 l0_0.length c0_0, .slice A0_1 l0_1.length c0_1]] rfl (by (try simp only [List.map_toArray, List.map_cons, List.map_nil]); first | done | rfl | (simp only [List.length_drop, List.length_take]; rfl)) ?_; (with_reducible refine (adm_Slots.calls _ _ l0_0 _ _ l0_1 t221 _ ?side1 ?side2 ?side3 ?side4 A16.out).mono ?_); (case side1 => repeat (first | exact (Kd.C_below HR0_0.out HB.out) | (with_reducible refine Kd.C_alloc ?_ _) | (with_reducible refine Kd.C_drewN ?_ _) | (with_reducible refine Kd.C_drew ?_))); (case side2 => exact HC0_0.out); (case side3 => repeat (first | exact (Kd.C_below HR0_1.out HB.out) | (with_reducible refine Kd.C_alloc ?_ _) | (with_reducible refine Kd.C_drewN ?_ _) | (with_reducible refine Kd.C_drew ?_))); (case side4 => exact HC0_1.out); rintro e w19 ⟨v222, rfl, ho0, hb⟩; refine ⟨_, rfl, ?_⟩; have n0_ := Aside0.mk (Kd.R_lower ho0 (below_size (by repeat (first | (with_reducible first | exact HB.out | apply below_alloc | apply pw_below_drewN | apply below_drew1 | refine below_set ?_ GE217.out) | exact HB.out)))); have n1_ := Aside0.mk (blk_below (g := gb217) (o := .cells #[.slice A0_0 l0_0.length c0_0, .slice A0_1 l0_1.length c0_1] 25 (0, 0)) (by (with_reducible repeat (first | refine blk_drewN ?_ _ | refine blk_drew ?_ | refine blk_alloc ?_ _)); exact BK217.out) hb); have n2_ := Aside0.mk (below_step (by repeat (first | (with_reducible first | exact HB.out | apply below_alloc | apply pw_below_drewN | apply below_drew1 | refine below_set ?_ GE217.out) | exact HB.out)) hb); clear BK217; clear HB; have HO223 := n0_; have BK217 := n1_; have HB := n2_; clear n0_ n1_ n2_; (try clear hb); (try clear hb2); (try clear hk); (try clear hi); (try clear ho0); have hcz20_0 : w19.cell? ⟨gb217, 0, none⟩ = some (.slice A0_0 l0_0.length c0_0) := (blk_cell BK217.out 0).trans rfl; have hcz20_1 : w19.cell? ⟨gb217, 1, none⟩ = some (.slice A0_1 l0_1.length c0_1) := (blk_cell BK217.out 1).trans rfl; have hfz20_0 := blk_frozen BK217.out 0; have hfz20_1 := blk_frozen BK217.out 1; obtain ⟨Ao21, co21, eo21⟩ := Kd.R_slice HO223.out; subst eo21) | ((with_reducible refine gate_callee (f := 19) rfl ?_); refine goesL_ (some 20) rfl rfl Try.func19 (by kernel_rfl) rfl #[.agg #[.slice A0_0 l0_0.length c0_0, .slice A0_1 l0_1.length c0_1], .slice Ao21 t221.length co21] rfl (by (try simp only [List.map_toArray, List.map_cons, List.map_nil]); first | done | rfl | (simp only [List.length_drop, List.length_take]; rfl)) ?_; (with_reducible refine (fencepostref08_Insert.calls kj2 _ _ l0_0 _ _ l0_1 _ _ t221 t224 t227 _ ?side1 ?side2 ?side3 ?side4 ?side5 ?side6 A17.out).mono ?_); (case side1 => repeat (first | exact (Kd.C_below HR0_0.out HB.out) | (with_reducible refine Kd.C_alloc ?_ _) | (with_reducible refine Kd.C_drewN ?_ _) | (with_reducible refine Kd.C_drew ?_))); (case side2 => exact HC0_0.out); (case side3 => repeat (first | exact (Kd.C_below HR0_1.out HB.out) | (with_reducible refine Kd.C_alloc ?_ _) | (with_reducible refine Kd.C_drewN ?_ _) | (with_reducible refine Kd.C_drew ?_))); (case side4 => exact HC0_1.out); (case side5 => repeat (first | exact (Kd.R_reads' HO223.out).2.2 | (with_reducible refine Kd.C_alloc ?_ _) | (with_reducible refine Kd.C_drewN ?_ _) | (with_reducible refine Kd.C_drew ?_))); (case side6 => exact (Kd.R_reads' HO223.out).2.1); rintro e w22 ⟨v225, v228, rfl, ho0, ho1, hb⟩; refine ⟨_, rfl, ?_⟩; have n0_ := Aside0.mk (Kd.R_elder' (by (with_reducible repeat (first | apply Kd.R_alloc | apply Kd.R_drewN | apply Kd.R_drew)); exact HO223.out) (Kd.R_base ho0) hb); have n1_ := Aside0.mk (Kd.R_lower (Kd.R_new' ho0 (Kd.R_lt (by (with_reducible repeat (first | apply Kd.R_alloc | apply Kd.R_drewN | apply Kd.R_drew)); exact HO223.out))) (below_size (by repeat (first | (with_reducible first | exact HB.out | apply below_alloc | apply pw_below_drewN | apply below_drew1 | refine below_set ?_ GE217.out) | exact HB.out)))); have n2_ := Aside0.mk (Kd.S_lower ho1 (below_size (by repeat (first | (with_reducible first | exact HB.out | apply below_alloc | apply pw_below_drewN | apply below_drew1 | refine below_set ?_ GE217.out) | exact HB.out)))); have n3_ := Aside0.mk (blk_below (g := gb217) (o := .cells #[.slice A0_0 l0_0.length c0_0, .slice A0_1 l0_1.length c0_1] 25 (0, 0)) (by (with_reducible repeat (first | refine blk_drewN ?_ _ | refine blk_drew ?_ | refine blk_alloc ?_ _)); exact BK217.out) hb); have n4_ := Aside0.mk (below_step (by repeat (first | (with_reducible first | exact HB.out | apply below_alloc | apply pw_below_drewN | apply below_drew1 | refine below_set ?_ GE217.out) | exact HB.out)) hb); clear HO223; clear BK217; clear HB; have HO223 := n0_; have HO226 := n1_; have HO229 := n2_; have BK217 := n3_; have HB := n4_; clear n0_ n1_ n2_ n3_ n4_; (try clear hb); (try clear hb2); (try clear hk); (try clear hi); (try clear ho0); (try clear ho1)) | ((with_reducible refine gate_dst (N := 5) rfl ?_); (try (refine gate_guard (by rfl) ?_; dsimp only)); refine box_event ?hg (N := 5) ?hd (cs := #[.slice none 0 0, .slice none 0 0]) (t := 25) ?hr ?_; (case hd => rfl); (case hg => rfl); (case hr => first | (go_simp; done) | (go_simp; rfl)); intro gb230 hg w23 hbox hb; have n0_ := Aside0.mk (Kd.R_below (by (with_reducible repeat (first | apply Kd.R_alloc | apply Kd.R_drewN | apply Kd.R_drew)); exact HO223.out) hb); have n1_ := Aside0.mk (Kd.R_below (by (with_reducible repeat (first | apply Kd.R_alloc | apply Kd.R_drewN | apply Kd.R_drew)); exact HO226.out) hb); have n2_ := Aside0.mk (Kd.S_below (by (with_reducible repeat (first | apply Kd.S_alloc | apply Kd.S_drewN | apply Kd.S_drew)); exact HO229.out) hb); have n3_ := Aside0.mk (blk_below (g := gb217) (o := .cells #[.slice A0_0 l0_0.length c0_0, .slice A0_1 l0_1.length c0_1] 25 (0, 0)) (by (with_reducible repeat (first | refine blk_drewN ?_ _ | refine blk_drew ?_ | refine blk_alloc ?_ _)); exact BK217.out) hb); have n4_ := Aside0.mk (below_step (by repeat (first | (with_reducible first | exact HB.out | apply below_alloc | apply pw_below_drewN | apply below_drew1 | refine below_set ?_ GE217.out) | exact HB.out)) hb); have n5_ := Aside0.mk (hbox); have n6_ := Aside0.mk ((by rw [hg]; exact (below_size (by repeat (first | (with_reducible first | exact HB.out | apply below_alloc | apply pw_below_drewN | apply below_drew1 | refine below_set ?_ GE217.out) | exact HB.out))) : w.heap.size ≤ gb230)); have n7_ := Aside0.mk ((by rw [hg]; exact (below_size (by repeat (first | (with_reducible first | exact HB.out | apply below_alloc | apply pw_below_drewN | apply below_drew1 | refine below_set ?_ GE217.out) | exact HB.out))) : w.heap.size ≤ gb230)); have n8_ := Aside0.mk ((by rw [hg]; exact Nat.ne_of_lt (blk_lt (g := gb217) (o := .cells #[.slice A0_0 l0_0.length c0_0, .slice A0_1 l0_1.length c0_1] 25 (0, 0)) (by (with_reducible repeat (first | refine blk_drewN ?_ _ | refine blk_drew ?_ | refine blk_alloc ?_ _)); exact BK217.out)) : gb217 ≠ gb230)); have n9_ := Aside0.mk ((by rw [hg]; exact Nat.ne_of_gt (blk_lt (g := gb217) (o := .cells #[.slice A0_0 l0_0.length c0_0, .slice A0_1 l0_1.length c0_1] 25 (0, 0)) (by (with_reducible repeat (first | refine blk_drewN ?_ _ | refine blk_drew ?_ | refine blk_alloc ?_ _)); exact BK217.out)) : gb230 ≠ gb217)); clear HO223; clear HO226; clear HO229; clear BK217; clear HB; have HO223 := n0_; have HO226 := n1_; have HO229 := n2_; have BK217 := n3_; have HB := n4_; have BK230 := n5_; have GW230 := n6_; have GE230 := n7_; have NB217_230 := n8_; have NB230_217 := n9_; clear n0_ n1_ n2_ n3_ n4_ n5_ n6_ n7_ n8_ n9_; clear hb hbox hg; obtain ⟨Ao24, co24, eo24⟩ := Kd.R_slice HO226.out; subst eo24; have hnb25 := NB230_217.out; have hnc25 := NB217_230.out; have hcz26_0 : w23.cell? ⟨gb230, 0, none⟩ = some (.slice none 0 0) := (blk_cell BK230.out 0).trans rfl; have hcz26_1 : w23.cell? ⟨gb230, 1, none⟩ = some (.slice none 0 0) := (blk_cell BK230.out 1).trans rfl; have hfz26_0 := blk_frozen BK230.out 0; have hfz26_1 := blk_frozen BK230.out 1; obtain ⟨Ao27, co27, eo27⟩ := Kd.S_slice HO229.out; subst eo27))
        go_loopg [6] kj2 (fun kq v6 w' => ∃ (x6_2 : Int), v6 = .int .i64 x6_2 ∧ Aside0 (fencepostlaw19_AdmFenced.l0 kq t218 x6_2 t224 t227 = some r) ∧ Aside0 (kq ≤ kj2) ∧ Aside0 (Kd.R (Kd.int .i64) 3 w' w.heap.size (fun _ => True) (.slice Ao24 t224.length co24) t224) ∧ Aside0 (Kd.S (Kd.slice 49 k49) 45 w' w.heap.size (fun _ => True) (.slice Ao27 t227.length co27) t227) ∧ Aside0 (w'.heap[gb217]? = some (.cells #[(.slice A0_0 l0_0.length c0_0), (.slice A0_1 l0_1.length c0_1)] 25 (0, 0))) ∧ Aside0 (w'.heap[gb230]? = some (.cells #[(.slice Ao24 t224.length co24), (.slice Ao27 t227.length co27)] 25 (0, 0))) ∧ Aside0 (Below w.heap.size w w'))
        case atStart => exact ⟨(0), (by first | rfl | (simp; done) | (simp [*]; done)), H', ⟨Nat.le_refl _⟩, ⟨by (with_reducible repeat (first | apply Kd.R_alloc | apply Kd.R_drewN | apply Kd.R_drew)); exact Kd.R_mono (Kd.R_far (p := ⟨gb230, 1, none⟩) (Kd.R_far (p := ⟨gb230, 0, none⟩) (Kd.R_types HO226.out BK230.out (by decide)) (fun _ hk => hk.2) (.slice Ao24 t224.length co24)) (fun _ hk => hk.2) (.slice Ao27 t227.length co27)) (fun _ hk => trivial)⟩, ⟨by (with_reducible repeat (first | apply Kd.S_alloc | apply Kd.S_drewN | apply Kd.S_drew)); exact Kd.S_mono (Kd.S_far (p := ⟨gb230, 1, none⟩) (Kd.S_far (p := ⟨gb230, 0, none⟩) (Kd.S_types HO229.out BK230.out (by decide)) (fun _ hk => hk.2) (.slice Ao24 t224.length co24)) (fun _ hk => hk.2) (.slice Ao27 t227.length co27)) (fun _ hk => trivial)⟩, ⟨by (with_reducible repeat (first | refine blk_drewN ?_ _ | refine blk_drew ?_ | refine blk_alloc ?_ _)); refine blk_far ?_ NB217_230.out _; (with_reducible repeat (first | refine blk_drewN ?_ _ | refine blk_drew ?_ | refine blk_alloc ?_ _)); refine blk_far ?_ NB217_230.out _; (with_reducible repeat (first | refine blk_drewN ?_ _ | refine blk_drew ?_ | refine blk_alloc ?_ _)); exact BK217.out⟩, ⟨by (with_reducible repeat (first | refine blk_drewN ?_ _ | refine blk_drew ?_ | refine blk_alloc ?_ _)); refine blk_put (cs := #[.slice Ao24 t224.length co24, .slice none 0 0]) ?_ 1 _ rfl; (with_reducible repeat (first | refine blk_drewN ?_ _ | refine blk_drew ?_ | refine blk_alloc ?_ _)); refine blk_put (cs := #[.slice none 0 0, .slice none 0 0]) ?_ 0 _ rfl; (with_reducible repeat (first | refine blk_drewN ?_ _ | refine blk_drew ?_ | refine blk_alloc ?_ _)); exact BK230.out⟩, ⟨by repeat (first | (with_reducible first | exact HB.out | apply below_alloc | apply pw_below_drewN | apply below_drew1 | refine below_set ?_ GE217.out | refine below_set ?_ GE230.out) | exact HB.out)⟩⟩
        case round =>
          clear H'
          try clear c1
          try clear c2
          try clear p2
          try clear c6
          try clear c7
          try clear c9
          try clear c10
          try clear c12
          try clear c15
          try clear c19
          try clear c25
          try clear hcz11_0
          try clear hcz11_1
          try clear hcz13_0
          try clear hcz13_1
          try clear hcz18_0
          try clear hcz18_1
          try clear hcz20_0
          try clear hcz20_1
          try clear hcz26_0
          try clear hcz26_1
          try clear hcz8_0
          try clear hcz8_1
          try clear hfz11_0
          try clear hfz11_1
          try clear hfz13_0
          try clear hfz13_1
          try clear hfz18_0
          try clear hfz18_1
          try clear hfz20_0
          try clear hfz20_1
          try clear hfz26_0
          try clear hfz26_1
          try clear hfz8_0
          try clear hfz8_1
          try clear p2
          obtain ⟨x6_2, rfl, HA, HK2, HO_231000, HO_231001, BK217, BK230, HB⟩ := hrel
          cases gk with
          | zero => exact absurd HA.out (by simp [fencepostlaw19_AdmFenced.l0])
          | succ k2 =>
            have H := HA.out
            clear HA
            simp only [fencepostlaw19_AdmFenced.l0] at H
            by_cases c28 : x6_2 < (t227.length : Int)
            · rw [if_pos c28] at H
              have c28b0 : decide (x6_2 < (t227.length : Int)) = true := decide_eq_true c28
              clear c28
              by_cases c29 : 0 ≤ x6_2
              · rw [if_pos c29] at H
                have c29b0 : decide (0 ≤ x6_2) = true := decide_eq_true c29
                clear c29
                by_cases c30 : ((rd_L2 t227 x6_2).length : Int) > 40
                · rw [if_pos c30] at H
                  have c30b0 : decide (40 < ((rd_L2 t227 x6_2).length : Int)) = true := decide_eq_true c30
                  have c30b1 : decide (40 < (rd_L2 t227 x6_2).length) = true := decide_eq_true (by omega)
                  clear c30
                  obtain rfl := Option.some.inj H
                  have hnb31 := NB230_217.out
                  have hnc31 := NB217_230.out
                  have hcz32_0 : wr.cell? ⟨gb230, 0, none⟩ = some (.slice Ao24 t224.length co24) := (blk_cell BK230.out 0).trans rfl
                  have hcz32_1 : wr.cell? ⟨gb230, 1, none⟩ = some (.slice Ao27 t227.length co27) := (blk_cell BK230.out 1).trans rfl
                  have hfz32_0 := blk_frozen BK230.out 0
                  have hfz32_1 := blk_frozen BK230.out 1
                  have p231 : 0 ≤ (x6_2 : Int) := of_decide_eq_true (by first | (with_reducible assumption) | assumption)
                  have q231 : x6_2 < (t227.length : Int) := of_decide_eq_true (by first | (with_reducible assumption) | assumption)
                  obtain ⟨ad231, A231_0, c231_0, e231, hx231_0, hl231_0, hi231_0⟩ := at_L2 (Kd.S_reads' HO_231001.out).2.2 x6_2 p231 q231
                  cases e231
                  obtain ⟨ce231, hce231, hMe231, hcc231⟩ := Kd.S_get HO_231001.out [] x6_2 p231 (by first | exact q231 | exact of_decide_eq_true (by first | (with_reducible assumption) | assumption) | (have e_ := (Kd.S_reads' HO_231001.out).1; omega))
                  obtain ⟨ve231_0, rfl, ge231_0⟩ := hMe231
                  have hv231_0 := hcc231 0 _ rfl
                  rw [Nat.add_zero, show ((Kd.slice 49 k49)).sz = 1 from rfl, Nat.mul_one] at hv231_0
                  replace hv231_0 := Option.some.inj (hv231_0.symm.trans hx231_0)
                  rw [hv231_0] at ge231_0
                  have HL231_0 := Aside0.mk (show Kd.R k49 49 _ _ _ _ (rd_L2 t227 x6_2) from ge231_0)
                  clear hv231_0 ge231_0
                  clear hcc231 hce231
                  have HR231_0 := Aside0.mk hi231_0
                  have HC231_0 := Aside0.mk hl231_0
                  clear hi231_0 hl231_0
                  replace p231 := eq_true p231
                  replace q231 := eq_true q231
                  go_wp2
                  go_ret
                  exact ⟨by first | rfl | (simp [errW_none, errW_some] <;> rfl) | (simp [*, errW_none, errW_some] <;> rfl), by repeat (first | (with_reducible first | exact HB.out | apply below_alloc | apply pw_below_drewN | apply below_drew1 | refine below_set ?_ GE217.out | refine below_set ?_ GE230.out) | exact HB.out)⟩
                · rw [if_neg c30] at H
                  have c30b0 : decide (40 < ((rd_L2 t227 x6_2).length : Int)) = false := decide_eq_false c30
                  have c30b1 : decide (40 < (rd_L2 t227 x6_2).length) = false := decide_eq_false (by omega)
                  clear c30
                  have H' := Aside0.mk H
                  clear H
                  have hnb33 := NB230_217.out
                  have hnc33 := NB217_230.out
                  have hcz34_0 : wr.cell? ⟨gb230, 0, none⟩ = some (.slice Ao24 t224.length co24) := (blk_cell BK230.out 0).trans rfl
                  have hcz34_1 : wr.cell? ⟨gb230, 1, none⟩ = some (.slice Ao27 t227.length co27) := (blk_cell BK230.out 1).trans rfl
                  have hfz34_0 := blk_frozen BK230.out 0
                  have hfz34_1 := blk_frozen BK230.out 1
                  have p231 : 0 ≤ (x6_2 : Int) := of_decide_eq_true (by first | (with_reducible assumption) | assumption)
                  have q231 : x6_2 < (t227.length : Int) := of_decide_eq_true (by first | (with_reducible assumption) | assumption)
                  obtain ⟨ad231, A231_0, c231_0, e231, hx231_0, hl231_0, hi231_0⟩ := at_L2 (Kd.S_reads' HO_231001.out).2.2 x6_2 p231 q231
                  cases e231
                  obtain ⟨ce231, hce231, hMe231, hcc231⟩ := Kd.S_get HO_231001.out [] x6_2 p231 (by first | exact q231 | exact of_decide_eq_true (by first | (with_reducible assumption) | assumption) | (have e_ := (Kd.S_reads' HO_231001.out).1; omega))
                  obtain ⟨ve231_0, rfl, ge231_0⟩ := hMe231
                  have hv231_0 := hcc231 0 _ rfl
                  rw [Nat.add_zero, show ((Kd.slice 49 k49)).sz = 1 from rfl, Nat.mul_one] at hv231_0
                  replace hv231_0 := Option.some.inj (hv231_0.symm.trans hx231_0)
                  rw [hv231_0] at ge231_0
                  have HL231_0 := Aside0.mk (show Kd.R k49 49 _ _ _ _ (rd_L2 t227 x6_2) from ge231_0)
                  clear hv231_0 ge231_0
                  clear hcc231 hce231
                  have HR231_0 := Aside0.mk hi231_0
                  have HC231_0 := Aside0.mk hl231_0
                  clear hi231_0 hl231_0
                  replace p231 := eq_true p231
                  replace q231 := eq_true q231
                  go_wp2
                  go_roundg k2
                  case measure => have := HJ2.out; have := HK2.out; omega
                  case rel => exact ⟨(wrap64 (x6_2 + 1)), (by first | rfl | (simp; done) | (simp [*]; done)), H', ⟨by have := HJ2.out; have := HK2.out; omega⟩, ⟨by (with_reducible repeat (first | apply Kd.R_alloc | apply Kd.R_drewN | apply Kd.R_drew)); exact HO_231000.out⟩, ⟨by (with_reducible repeat (first | apply Kd.S_alloc | apply Kd.S_drewN | apply Kd.S_drew)); exact HO_231001.out⟩, ⟨by (with_reducible repeat (first | refine blk_drewN ?_ _ | refine blk_drew ?_ | refine blk_alloc ?_ _)); exact BK217.out⟩, ⟨by (with_reducible repeat (first | refine blk_drewN ?_ _ | refine blk_drew ?_ | refine blk_alloc ?_ _)); exact BK230.out⟩, ⟨by repeat (first | (with_reducible first | exact HB.out | apply below_alloc | apply pw_below_drewN | apply below_drew1 | refine below_set ?_ GE217.out | refine below_set ?_ GE230.out) | exact HB.out)⟩⟩
              · rw [if_neg c29] at H
                exact absurd H (by simp)
            · rw [if_neg c28] at H
              have c28b0 : decide (x6_2 < (t227.length : Int)) = false := decide_eq_false c28
              clear c28
              by_cases c35 : t218 = true
              · subst c35
                have H1 : ((adm_Slots.f t224 t227).bind fun t232 => (some ((t232.length : Int) == 0))) = some r := by rw [if_pos rfl] at H; exact H
                clear H
                have H := H1
                clear H1
                replace H := Option.bind_eq_some_iff.mp H
                obtain ⟨t232, A360, H⟩ := H
                replace H : (some ((t232.length : Int) == 0)) = some r := H
                have A36 := Aside0.mk A360
                clear A360
                obtain rfl := Option.some.inj H
                have hnb37 := NB230_217.out
                have hnc37 := NB217_230.out
                have hcz38_0 : wr.cell? ⟨gb230, 0, none⟩ = some (.slice Ao24 t224.length co24) := (blk_cell BK230.out 0).trans rfl
                have hcz38_1 : wr.cell? ⟨gb230, 1, none⟩ = some (.slice Ao27 t227.length co27) := (blk_cell BK230.out 1).trans rfl
                have hfz38_0 := blk_frozen BK230.out 0
                have hfz38_1 := blk_frozen BK230.out 1
                go_wp2_with (first | (go_at_call 12; (with_reducible refine (adm_Slots.calls _ _ t224 _ _ t227 t232 _ ?side1 ?side2 ?side3 ?side4 A36.out).mono ?_); (case side1 => repeat (first | exact (Kd.R_reads' HO_231000.out).2.2 | (with_reducible refine Kd.C_alloc ?_ _) | (with_reducible refine Kd.C_drewN ?_ _) | (with_reducible refine Kd.C_drew ?_))); (case side2 => exact (Kd.R_reads' HO_231000.out).2.1); (case side3 => repeat (first | exact (Kd.S_reads' HO_231001.out).2.2 | (with_reducible refine Kd.C_alloc ?_ _) | (with_reducible refine Kd.C_drewN ?_ _) | (with_reducible refine Kd.C_drew ?_))); (case side4 => exact (Kd.S_reads' HO_231001.out).2.1); rintro e w39 ⟨v233, rfl, ho0, hb⟩; have n0_ := Aside0.mk (Kd.R_elder' (by (with_reducible repeat (first | apply Kd.R_alloc | apply Kd.R_drewN | apply Kd.R_drew)); exact HO_231000.out) (Kd.R_base ho0) hb); have n1_ := Aside0.mk (Kd.S_below (by (with_reducible repeat (first | apply Kd.S_alloc | apply Kd.S_drewN | apply Kd.S_drew)); exact HO_231001.out) hb); have n2_ := Aside0.mk (Kd.R_lower (Kd.R_new' ho0 (Kd.R_lt (by (with_reducible repeat (first | apply Kd.R_alloc | apply Kd.R_drewN | apply Kd.R_drew)); exact HO_231000.out))) (below_size (by repeat (first | (with_reducible first | exact HB.out | apply below_alloc | apply pw_below_drewN | apply below_drew1 | refine below_set ?_ GE217.out | refine below_set ?_ GE230.out) | exact HB.out)))); have n3_ := Aside0.mk (blk_below (g := gb217) (o := .cells #[.slice A0_0 l0_0.length c0_0, .slice A0_1 l0_1.length c0_1] 25 (0, 0)) (by (with_reducible repeat (first | refine blk_drewN ?_ _ | refine blk_drew ?_ | refine blk_alloc ?_ _)); exact BK217.out) hb); have n4_ := Aside0.mk (blk_below (g := gb230) (o := .cells #[.slice Ao24 t224.length co24, .slice Ao27 t227.length co27] 25 (0, 0)) (by (with_reducible repeat (first | refine blk_drewN ?_ _ | refine blk_drew ?_ | refine blk_alloc ?_ _)); exact BK230.out) hb); have n5_ := Aside0.mk (below_step (by repeat (first | (with_reducible first | exact HB.out | apply below_alloc | apply pw_below_drewN | apply below_drew1 | refine below_set ?_ GE217.out | refine below_set ?_ GE230.out) | exact HB.out)) hb); clear HO_231000; clear HO_231001; clear BK217; clear BK230; clear HB; have HO_231000 := n0_; have HO_231001 := n1_; have HO234 := n2_; have BK217 := n3_; have BK230 := n4_; have HB := n5_; clear n0_ n1_ n2_ n3_ n4_ n5_; (try clear hb); (try clear hb2); (try clear hk); (try clear hi); (try clear ho0); obtain ⟨Ao40, co40, eo40⟩ := Kd.R_slice HO234.out; subst eo40))
                go_ret
                exact ⟨by first | rfl | (simp [errW_none, errW_some] <;> rfl) | (simp [*, errW_none, errW_some] <;> rfl), by repeat (first | (with_reducible first | exact HB.out | apply below_alloc | apply pw_below_drewN | apply below_drew1 | refine below_set ?_ GE217.out | refine below_set ?_ GE230.out) | exact HB.out)⟩
              · replace c35 := Bool.eq_false_iff.mpr c35
                subst c35
                have H1 : (some false) = some r := by rw [if_neg (show ¬ (false = true) by decide)] at H; exact H
                clear H
                have H := H1
                clear H1
                exact absurd ((Option.some.inj H).trans HT.out) (by simp)

end Go.Proofs.Ytodjfbcpohcbaaa.Print
