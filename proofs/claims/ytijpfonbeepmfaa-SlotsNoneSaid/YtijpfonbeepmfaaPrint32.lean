-- Written by ownprint.py (this session's) with the kit's print.py: functions, contracts, rows; Lean checks it.
import Derived.Test.YtijpfonbeepmfaaPrint0
import Derived.Test.YtijpfonbeepmfaaPrint5
import Derived.Test.YtijpfonbeepmfaaPrint10
import Derived.Test.YtijpfonbeepmfaaHSq
import Derived.Test.YtijpfonbeepmfaaHHead08
import Derived.Test.YtijpfonbeepmfaaHSlInsert
import Derived.Test.YtijpfonbeepmfaaHSlOf
namespace Go.Proofs.Ytijpfonbeepmfaa.Print
open Go.RowKit Go.Proofs.YtijpfonbeepmfaaW.PrintWords Go.Proofs.YtijpfonbeepmfaaW.PrintLast Go.Proofs.YtijpfonbeepmfaaW.PrintMore
attribute [local go_sem] max2_int min2_int max_two min_two max_three min_three max_four min_four   -- for this text's walks alone
set_option linter.unusedVariables false
set_option linter.unusedSimpArgs false
mutual
def fencepostlaw08_SlotsNone.j0 : Nat → List Int → Bool → Bool → List Int → List (List (S53)) → Option (Bool)
 | 0, _, _, _, _, _ => none
 | k + 1, x1, x5, x17, x642000, x642001 => if x17 = true then (some x5) else ((slots_Many.f x642000 x642001).bind fun t644 => (fencepostlaw08_SlotsNone.l0 k x1 x5 t644 ([] : List Int) ([] : List Int) (wrap64 ((x1.length : Int) - 1)) x642000 x642001))
def fencepostlaw08_SlotsNone.l0 : Nat → List Int → Bool → Int → List Int → List Int → Int → List Int → List (List (S53)) → Option (Bool)
 | 0, _, _, _, _, _, _, _, _ => none
 | k + 1, x1, x5, x6, x7, x8, x9, x642000, x642001 => if x9 ≥ 0 then (if 0 ≤ x9 then (if x9 < (x1.length : Int) then (if (rd x1 x9) < 0 then (if x7.length < 17592186044416 then ((some (([rd x1 x9, rd x1 x9] : List Int) : List Int)).bind fun y652 => (if x8.length + y652.length < 17592186044416 then (fencepostlaw08_SlotsNone.l0 k x1 x5 x6 (x7 ++ [rd x1 x9]) (x8 ++ y652) (wrap64 (x9 - 1)) x642000 x642001) else (none))) else (none)) else (if (rd x1 x9) ≥ x6 then (if x7.length < 17592186044416 then ((some (([rd x1 x9, rd x1 x9] : List Int) : List Int)).bind fun y665 => (if x8.length + y665.length < 17592186044416 then (fencepostlaw08_SlotsNone.l0 k x1 x5 x6 (x7 ++ [rd x1 x9]) (x8 ++ y665) (wrap64 (x9 - 1)) x642000 x642001) else (none))) else (none)) else ((some (([rd x1 x9, rd x1 x9] : List Int) : List Int)).bind fun y673 => (if x8.length + y673.length < 17592186044416 then (fencepostlaw08_SlotsNone.l0 k x1 x5 x6 x7 (x8 ++ y673) (wrap64 (x9 - 1)) x642000 x642001) else (none))))) else (none)) else (none)) else (if x5 = true then ((slots_Insert.f x642000 x642001 x7).bind fun bt679 => ((fencepostref07_Same.f k bt679.1 bt679.2 x642000 x642001).bind fun t685 => (if t685 = true then ((slots_Insert.f x642000 x642001 ([] : List Int)).bind fun bt686 => ((fencepostref07_Same.f k bt686.1 bt686.2 x642000 x642001).bind fun t692 => (if t692 = true then ((slots_Insert.f x642000 x642001 x8).bind fun bt693 => ((slots_Insert.f x642000 x642001 x1).bind fun bt699 => ((fencepostref07_Same.f k bt693.1 bt693.2 bt699.1 bt699.2).bind fun t705 => (some t705)))) else (some false)))) else (some false)))) else (some false))
end
def fencepostlaw08_SlotsNone.f (k : Nat) (l0_0 : List Int) (l0_1 : List (List (S53))) (l1 : List Int) : Option (Bool) := (fencepostlaw08_head.f).bind fun t642 => ((fencepostlaw08_Great.f k l0_0 l0_1).bind fun t643 => (if t643 = true then (fencepostlaw08_SlotsNone.j0 k l1 t642 true l0_0 l0_1) else (fencepostlaw08_SlotsNone.j0 k l1 t642 (decide ((l1.length : Int) > 100)) l0_0 l0_1)))
theorem fencepostlaw08_SlotsNone.mono_l : ∀ k, (∀ y0 y1 y2 y3 y4, LeO (fencepostlaw08_SlotsNone.j0 k y0 y1 y2 y3 y4) (fencepostlaw08_SlotsNone.j0 (k + 1) y0 y1 y2 y3 y4)) ∧ (∀ y0 y1 y2 y3 y4 y5 y6 y7, LeO (fencepostlaw08_SlotsNone.l0 k y0 y1 y2 y3 y4 y5 y6 y7) (fencepostlaw08_SlotsNone.l0 (k + 1) y0 y1 y2 y3 y4 y5 y6 y7))
 | 0 => ⟨fun _ _ _ _ _ r h => by simp [fencepostlaw08_SlotsNone.j0] at h, fun _ _ _ _ _ _ _ _ r h => by simp [fencepostlaw08_SlotsNone.l0] at h⟩
 | k + 1 => by
  obtain ⟨ih0, ih1⟩ := fencepostlaw08_SlotsNone.mono_l k
  refine ⟨?_, ?_⟩
  ·intro y0 y1 y2 y3 y4
   unfold fencepostlaw08_SlotsNone.j0
   repeat' first
   | (with_reducible exact ih0 _ _ _ _ _)
   | (with_reducible exact ih1 _ _ _ _ _ _ _ _)
   | (with_reducible exact fencepostlaw08_Great.mono _ _ _)
   | (with_reducible exact fencepostref07_Same.mono _ _ _ _ _)
   | (with_reducible exact LeO.refl _)
   | (with_reducible exact LeO.none _)
   | (with_reducible refine LeO.ite ?_ ?_)
   | (with_reducible refine LeO.bind ?_ (fun _ => ?_))
   | exact ih0 _ _ _ _ _
   | exact ih1 _ _ _ _ _ _ _ _
   | exact fencepostlaw08_Great.mono _ _ _
   | exact fencepostref07_Same.mono _ _ _ _ _
   | exact LeO.none _
   | refine LeO.ite ?_ ?_
   | refine LeO.bind ?_ (fun _ => ?_)
  ·intro y0 y1 y2 y3 y4 y5 y6 y7
   unfold fencepostlaw08_SlotsNone.l0
   repeat' first
   | (with_reducible exact ih0 _ _ _ _ _)
   | (with_reducible exact ih1 _ _ _ _ _ _ _ _)
   | (with_reducible exact fencepostlaw08_Great.mono _ _ _)
   | (with_reducible exact fencepostref07_Same.mono _ _ _ _ _)
   | (with_reducible exact LeO.refl _)
   | (with_reducible exact LeO.none _)
   | (with_reducible refine LeO.ite ?_ ?_)
   | (with_reducible refine LeO.bind ?_ (fun _ => ?_))
   | exact ih0 _ _ _ _ _
   | exact ih1 _ _ _ _ _ _ _ _
   | exact fencepostlaw08_Great.mono _ _ _
   | exact fencepostref07_Same.mono _ _ _ _ _
   | exact LeO.none _
   | refine LeO.ite ?_ ?_
   | refine LeO.bind ?_ (fun _ => ?_)
theorem fencepostlaw08_SlotsNone.mono : ∀ a0 a1 a2 k, LeO (fencepostlaw08_SlotsNone.f k a0 a1 a2) (fencepostlaw08_SlotsNone.f (k + 1) a0 a1 a2) := by
 intro a0 a1 a2 k
 obtain ⟨ih0, ih1⟩ := fencepostlaw08_SlotsNone.mono_l k
 unfold fencepostlaw08_SlotsNone.f
 repeat' first
  | (with_reducible exact ih0 _ _ _ _ _)
  | (with_reducible exact ih1 _ _ _ _ _ _ _ _)
  | (with_reducible exact fencepostlaw08_Great.mono _ _ _)
  | (with_reducible exact fencepostref07_Same.mono _ _ _ _ _)
  | (with_reducible exact LeO.refl _)
  | (with_reducible exact LeO.none _)
  | (with_reducible refine LeO.ite ?_ ?_)
  | (with_reducible refine LeO.bind ?_ (fun _ => ?_))
  | exact ih0 _ _ _ _ _
  | exact ih1 _ _ _ _ _ _ _ _
  | exact fencepostlaw08_Great.mono _ _ _
  | exact fencepostref07_Same.mono _ _ _ _ _
  | exact LeO.none _
  | refine LeO.ite ?_ ?_
  | refine LeO.bind ?_ (fun _ => ?_)
def fencepostlaw08_SlotsNone.T12 : Bool × List (List Nat × List Nat) := (true, [([], []), ([], []), ([], []), ([1, 2], [1, 2]), ([3], [3]), ([], []), ([], []), ([5, 6], [5, 6]), ([7], [7]), ([4, 8], [4, 8]), ([0, 9], [0, 9]), ([10, 10, 0, 1, 2, 3, 4, 5, 6, 7, 8, 9, 10], [0, 10])])
def fencepostlaw08_SlotsNone.B12 : List Nat := [0, 0, 0, 6, 14, 0, 0, 96, 224, 510, 1023, 2047]
theorem fencepostlaw08_SlotsNone.tab12 : rtab .any (opsOf Try.f9 12) = fencepostlaw08_SlotsNone.T12 := by kernel_rfl
theorem fencepostlaw08_SlotsNone.bits12 : waitsOk fencepostlaw08_SlotsNone.T12.2 fencepostlaw08_SlotsNone.B12 = true := by kernel_rfl
def fencepostlaw08_SlotsNone.T13 : Bool × List (List Nat × List Nat) := (true, [([], []), ([0], [0]), ([1], [1]), ([1], [1]), ([2, 3, 1, 1], [1, 2, 3]), ([1], [1]), ([4, 5, 4, 1], [1, 4, 5]), ([1, 6], [1, 6]), ([7, 6], [7]), ([8], [8]), ([9, 8, 8], [8, 9]), ([8], [8]), ([10, 11, 10, 8], [8, 10, 11]), ([8, 12], [8, 12]), ([13, 12], [13]), ([14], [14]), ([14], [14]), ([15, 16, 14, 14], [14, 15, 16]), ([14], [14]), ([14], [14]), ([18, 19, 17, 14], [14, 18, 19]), ([17, 20, 20, 14], [14, 17, 20]), ([14, 21], [14, 21]), ([22, 21, 0, 1, 2, 3, 4, 5, 6, 7, 8, 9, 10, 11, 12, 13, 14, 15, 16, 17, 18, 19, 20, 21, 22], [22])])
def fencepostlaw08_SlotsNone.B13 : List Nat := [0, 1, 3, 3, 15, 3, 63, 127, 255, 511, 1023, 511, 4095, 8191, 16383, 32767, 32767, 131071, 32767, 32767, 1048575, 2097151, 4194303, 8388607]
theorem fencepostlaw08_SlotsNone.tab13 : rtab .any (opsOf Try.f9 13) = fencepostlaw08_SlotsNone.T13 := by kernel_rfl
theorem fencepostlaw08_SlotsNone.bits13 : waitsOk fencepostlaw08_SlotsNone.T13.2 fencepostlaw08_SlotsNone.B13 = true := by kernel_rfl
set_option maxHeartbeats 8000000 in
set_option maxRecDepth 100000 in
theorem fencepostlaw08_SlotsNone.calls (k : Nat) (A0_0 : Option Addr) (c0_0 : Nat) (l0_0 : List Int) (A0_1 : Option Addr) (c0_1 : Nat) (l0_1 : List (List (S53))) (A1 : Option Addr) (c1 : Nat) (l1 : List Int) (r : Bool) (w : World) (hr0_0 : Kd.C (Kd.int .i64) w A0_0 l0_0.length l0_0) (hc0_0 : l0_0.length ≤ c0_0) (hr0_1 : Kd.C (Kd.slice 53 k53) w A0_1 l0_1.length l0_1) (hc0_1 : l0_1.length ≤ c0_1) (hr1 : Kd.C (Kd.int .i64) w A1 l1.length l1) (hc1 : l1.length ≤ c1) (ht_ : r = true) (h : fencepostlaw08_SlotsNone.f k l0_0 l0_1 l1 = some r) :
 Calls Try.prog 9 #[.agg #[.slice A0_0 l0_0.length c0_0, .slice A0_1 l0_1.length c0_1], .slice A1 l1.length c1] w fun e w' => e = .returned (.bool r) ∧ Below w.heap.size w w' := by
 have hu25 := Try.underlying25
 have HR0_0 := Aside0.mk hr0_0
 have HC0_0 := Aside0.mk hc0_0
 clear hr0_0 hc0_0
 have HR0_1 := Aside0.mk hr0_1
 have HC0_1 := Aside0.mk hc0_1
 clear hr0_1 hc0_1
 have HR1 := Aside0.mk hr1
 have HC1 := Aside0.mk hc1
 clear hr1 hc1
 have HB := Aside0.mk (Below.refl w.heap.size w)
 have HT := Aside0.mk ht_
 clear ht_
 have H : ((fencepostlaw08_head.f).bind fun t642 => ((fencepostlaw08_Great.f k l0_0 l0_1).bind fun t643 => (if t643 = true then (fencepostlaw08_SlotsNone.j0 k l1 t642 true l0_0 l0_1) else (fencepostlaw08_SlotsNone.j0 k l1 t642 (decide ((l1.length : Int) > 100)) l0_0 l0_1)))) = some r := h
 clear h
 replace H := Option.bind_eq_some_iff.mp H
 obtain ⟨t642, A30, H⟩ := H
 replace H : ((fencepostlaw08_Great.f k l0_0 l0_1).bind fun t643 => (if t643 = true then (fencepostlaw08_SlotsNone.j0 k l1 t642 true l0_0 l0_1) else (fencepostlaw08_SlotsNone.j0 k l1 t642 (decide ((l1.length : Int) > 100)) l0_0 l0_1))) = some r := H
 have A3 := Aside0.mk A30
 clear A30
 have HC4 := Aside0.mk H
 clear H
 go_enter Try.func9, Try.ntmps9
 (try simp only [List.append_eq, List.cons_append, List.nil_append])
 go_upto_region 2 with (first | ((with_reducible refine gate_dst (N := 2) rfl ?_); (try (refine gate_guard (by rfl) ?_; dsimp only)); refine box_event ?hg (N := 2) ?hd (cs := #[.slice A0_0 l0_0.length c0_0, .slice A0_1 l0_1.length c0_1]) (t := 25) ?hr ?_; (case hd => rfl); (case hg => rfl); (case hr => first | (go_simp; done) | (go_simp; rfl)); intro gb641 hg w5 hbox hb; have n0_ := Aside0.mk (below_step (by repeat (first | (with_reducible first | exact HB.out | apply below_alloc | apply pw_below_drewN | apply below_drew1) | exact HB.out)) hb); have n1_ := Aside0.mk (hbox); have n2_ := Aside0.mk ((by rw [hg]; exact (below_size (by repeat (first | (with_reducible first | exact HB.out | apply below_alloc | apply pw_below_drewN | apply below_drew1) | exact HB.out))) : w.heap.size ≤ gb641)); have n3_ := Aside0.mk ((by rw [hg]; exact (below_size (by repeat (first | (with_reducible first | exact HB.out | apply below_alloc | apply pw_below_drewN | apply below_drew1) | exact HB.out))) : w.heap.size ≤ gb641)); clear HB; have HB := n0_; have BK641 := n1_; have GW641 := n2_; have GE641 := n3_; clear n0_ n1_ n2_ n3_; clear hb hbox hg) | ((with_reducible refine gate_callee (f := 10) rfl ?_); refine goesL_ (some 10) rfl rfl Try.func10 (by kernel_rfl) rfl #[] rfl (by (try simp only [List.map_toArray, List.map_cons, List.map_nil]); first | done | rfl | (simp only [List.length_drop, List.length_take]; rfl)) ?_; (with_reducible refine (fencepostlaw08_head.calls  t642 _ A3.out).mono ?_); rintro e w6 ⟨rfl, hb⟩; refine ⟨_, rfl, ?_⟩; have n0_ := Aside0.mk (blk_below (g := gb641) (o := .cells #[.slice A0_0 l0_0.length c0_0, .slice A0_1 l0_1.length c0_1] 25 (0, 0)) (by (with_reducible repeat (first | refine blk_drewN ?_ _ | refine blk_drew ?_ | refine blk_alloc ?_ _)); exact BK641.out) hb); have n1_ := Aside0.mk (below_step (by repeat (first | (with_reducible first | exact HB.out | apply below_alloc | apply pw_below_drewN | apply below_drew1 | refine below_set ?_ GE641.out) | exact HB.out)) hb); clear BK641; clear HB; have BK641 := n0_; have HB := n1_; clear n0_ n1_; (try clear hb); (try clear hb2); (try clear hk); (try clear hi)))
 (try simp only [Act.put, List.setIfInBounds_toArray, List.set_cons_zero, List.set_cons_succ])
 go_cut [17] (fun v17 wc => ∃ (kq : Nat) (x17_3 : Bool), v17 = .bool x17_3 ∧ Aside0 (fencepostlaw08_SlotsNone.j0 kq l1 t642 x17_3 l0_0 l0_1 = some r) ∧ Aside0 (kq ≤ k) ∧ Aside0 (wc.heap[gb641]? = some (.cells #[(.slice A0_0 l0_0.length c0_0), (.slice A0_1 l0_1.length c0_1)] 25 (0, 0))) ∧ Aside0 (Below w.heap.size w wc))
 case first =>
  have H := HC4.out
  clear HC4
  replace H := Option.bind_eq_some_iff.mp H
  obtain ⟨t643, A70, H⟩ := H
  replace H : (if t643 = true then (fencepostlaw08_SlotsNone.j0 k l1 t642 true l0_0 l0_1) else (fencepostlaw08_SlotsNone.j0 k l1 t642 (decide ((l1.length : Int) > 100)) l0_0 l0_1)) = some r := H
  have A7 := Aside0.mk A70
  clear A70
  by_cases c8 : t643 = true
  ·subst c8
   have H1 : (fencepostlaw08_SlotsNone.j0 k l1 t642 true l0_0 l0_1) = some r := by rw [if_pos rfl] at H; exact H
   clear H
   have H := H1
   clear H1
   have H' := Aside0.mk H
   clear H
   have hcz9_0 : w6.cell? ⟨gb641, 0, none⟩ = some (.slice A0_0 l0_0.length c0_0) := (blk_cell BK641.out 0).trans rfl
   have hcz9_1 : w6.cell? ⟨gb641, 1, none⟩ = some (.slice A0_1 l0_1.length c0_1) := (blk_cell BK641.out 1).trans rfl
   have hfz9_0 := blk_frozen BK641.out 0
   have hfz9_1 := blk_frozen BK641.out 1
   go_wp2_with (first | ((with_reducible refine gate_callee (f := 11) rfl ?_); refine goesL_ (some 12) rfl rfl Try.func11 (by kernel_rfl) rfl #[.agg #[.slice A0_0 l0_0.length c0_0, .slice A0_1 l0_1.length c0_1]] rfl (by (try simp only [List.map_toArray, List.map_cons, List.map_nil]); first | done | rfl | (simp only [List.length_drop, List.length_take]; rfl)) ?_; (with_reducible refine (fencepostlaw08_Great.calls k _ _ l0_0 _ _ l0_1 true _ ?side1 ?side2 ?side3 ?side4 A7.out).mono ?_); (case side1 => repeat (first | exact (Kd.C_below HR0_0.out HB.out) | (with_reducible refine Kd.C_alloc ?_ _) | (with_reducible refine Kd.C_drewN ?_ _) | (with_reducible refine Kd.C_drew ?_))); (case side2 => exact HC0_0.out); (case side3 => repeat (first | exact (Kd.C_below HR0_1.out HB.out) | (with_reducible refine Kd.C_alloc ?_ _) | (with_reducible refine Kd.C_drewN ?_ _) | (with_reducible refine Kd.C_drew ?_))); (case side4 => exact HC0_1.out); rintro e w10 ⟨rfl, hb⟩; refine ⟨_, rfl, ?_⟩; have n0_ := Aside0.mk (blk_below (g := gb641) (o := .cells #[.slice A0_0 l0_0.length c0_0, .slice A0_1 l0_1.length c0_1] 25 (0, 0)) (by (with_reducible repeat (first | refine blk_drewN ?_ _ | refine blk_drew ?_ | refine blk_alloc ?_ _)); exact BK641.out) hb); have n1_ := Aside0.mk (below_step (by repeat (first | (with_reducible first | exact HB.out | apply below_alloc | apply pw_below_drewN | apply below_drew1 | refine below_set ?_ GE641.out) | exact HB.out)) hb); clear BK641; clear HB; have BK641 := n0_; have HB := n1_; clear n0_ n1_; (try clear hb); (try clear hb2); (try clear hk); (try clear hi)))
   go_meet
   case rel => exact ⟨_, (true), (by first | rfl | (simp; done) | (simp [*]; done)), H', ⟨by first | omega | exact Nat.le_refl _⟩, ⟨by (with_reducible repeat (first | refine blk_drewN ?_ _ | refine blk_drew ?_ | refine blk_alloc ?_ _)); exact BK641.out⟩, ⟨by repeat (first | (with_reducible first | exact HB.out | apply below_alloc | apply pw_below_drewN | apply below_drew1 | refine below_set ?_ GE641.out) | exact HB.out)⟩⟩
  replace c8 := Bool.eq_false_iff.mpr c8
  subst c8
  have H1 : (fencepostlaw08_SlotsNone.j0 k l1 t642 (decide ((l1.length : Int) > 100)) l0_0 l0_1) = some r := by rw [if_neg (show ¬ (false = true) by decide)] at H; exact H
  clear H
  have H := H1
  clear H1
  have H' := Aside0.mk H
  clear H
  have hcz11_0 : w6.cell? ⟨gb641, 0, none⟩ = some (.slice A0_0 l0_0.length c0_0) := (blk_cell BK641.out 0).trans rfl
  have hcz11_1 : w6.cell? ⟨gb641, 1, none⟩ = some (.slice A0_1 l0_1.length c0_1) := (blk_cell BK641.out 1).trans rfl
  have hfz11_0 := blk_frozen BK641.out 0
  have hfz11_1 := blk_frozen BK641.out 1
  go_wp2_with (first | ((with_reducible refine gate_callee (f := 11) rfl ?_); refine goesL_ (some 12) rfl rfl Try.func11 (by kernel_rfl) rfl #[.agg #[.slice A0_0 l0_0.length c0_0, .slice A0_1 l0_1.length c0_1]] rfl (by (try simp only [List.map_toArray, List.map_cons, List.map_nil]); first | done | rfl | (simp only [List.length_drop, List.length_take]; rfl)) ?_; (with_reducible refine (fencepostlaw08_Great.calls k _ _ l0_0 _ _ l0_1 false _ ?side1 ?side2 ?side3 ?side4 A7.out).mono ?_); (case side1 => repeat (first | exact (Kd.C_below HR0_0.out HB.out) | (with_reducible refine Kd.C_alloc ?_ _) | (with_reducible refine Kd.C_drewN ?_ _) | (with_reducible refine Kd.C_drew ?_))); (case side2 => exact HC0_0.out); (case side3 => repeat (first | exact (Kd.C_below HR0_1.out HB.out) | (with_reducible refine Kd.C_alloc ?_ _) | (with_reducible refine Kd.C_drewN ?_ _) | (with_reducible refine Kd.C_drew ?_))); (case side4 => exact HC0_1.out); rintro e w12 ⟨rfl, hb⟩; refine ⟨_, rfl, ?_⟩; have n0_ := Aside0.mk (blk_below (g := gb641) (o := .cells #[.slice A0_0 l0_0.length c0_0, .slice A0_1 l0_1.length c0_1] 25 (0, 0)) (by (with_reducible repeat (first | refine blk_drewN ?_ _ | refine blk_drew ?_ | refine blk_alloc ?_ _)); exact BK641.out) hb); have n1_ := Aside0.mk (below_step (by repeat (first | (with_reducible first | exact HB.out | apply below_alloc | apply pw_below_drewN | apply below_drew1 | refine below_set ?_ GE641.out) | exact HB.out)) hb); clear BK641; clear HB; have BK641 := n0_; have HB := n1_; clear n0_ n1_; (try clear hb); (try clear hb2); (try clear hk); (try clear hi)))
  go_meet
  case rel => exact ⟨_, (decide ((l1.length : Int) > 100)), (by first | rfl | (simp; done) | (simp [*]; done)), H', ⟨by first | omega | exact Nat.le_refl _⟩, ⟨by (with_reducible repeat (first | refine blk_drewN ?_ _ | refine blk_drew ?_ | refine blk_alloc ?_ _)); exact BK641.out⟩, ⟨by repeat (first | (with_reducible first | exact HB.out | apply below_alloc | apply pw_below_drewN | apply below_drew1 | refine below_set ?_ GE641.out) | exact HB.out)⟩⟩
 clear HC4
 try clear c1
 obtain ⟨kq, x17_3, rfl, HA, HJ3, BK641, HB⟩ := hcut
 cases kq with
 | zero => exact absurd HA.out (by simp [fencepostlaw08_SlotsNone.j0])
 | succ kj3 => ?_
 have H := HA.out
 clear HA
 simp only [fencepostlaw08_SlotsNone.j0] at H
 by_cases c13 : x17_3 = true
 ·subst c13
  have H1 : (some t642) = some r := by rw [if_pos rfl] at H; exact H
  clear H
  have H := H1
  clear H1
  obtain rfl := Option.some.inj H
  go_wp2
  go_ret
  exact ⟨by first | rfl | (simp [errW_none, errW_some] <;> rfl) | (simp [*, errW_none, errW_some] <;> rfl), by repeat (first | (with_reducible first | exact HB.out | apply below_alloc | apply pw_below_drewN | apply below_drew1 | refine below_set ?_ GE641.out) | exact HB.out)⟩
 replace c13 := Bool.eq_false_iff.mpr c13
 subst c13
 have H1 : ((slots_Many.f l0_0 l0_1).bind fun t644 => (fencepostlaw08_SlotsNone.l0 kj3 l1 t642 t644 ([] : List Int) ([] : List Int) (wrap64 ((l1.length : Int) - 1)) l0_0 l0_1)) = some r := by rw [if_neg (show ¬ (false = true) by decide)] at H; exact H
 clear H
 have H := H1
 clear H1
 replace H := Option.bind_eq_some_iff.mp H
 obtain ⟨t644, A140, H⟩ := H
 replace H : (fencepostlaw08_SlotsNone.l0 kj3 l1 t642 t644 ([] : List Int) ([] : List Int) (wrap64 ((l1.length : Int) - 1)) l0_0 l0_1) = some r := H
 have A14 := Aside0.mk A140
 clear A140
 have H' := Aside0.mk H
 clear H
 have hcz15_0 : wc.cell? ⟨gb641, 0, none⟩ = some (.slice A0_0 l0_0.length c0_0) := (blk_cell BK641.out 0).trans rfl
 have hcz15_1 : wc.cell? ⟨gb641, 1, none⟩ = some (.slice A0_1 l0_1.length c0_1) := (blk_cell BK641.out 1).trans rfl
 have hfz15_0 := blk_frozen BK641.out 0
 have hfz15_1 := blk_frozen BK641.out 1
 go_wp2_with (first | ((with_reducible refine gate_callee (f := 17) rfl ?_); refine goesL_ (some 20) rfl rfl Try.func17 (by kernel_rfl) rfl #[.agg #[.slice A0_0 l0_0.length c0_0, .slice A0_1 l0_1.length c0_1]] rfl (by (try simp only [List.map_toArray, List.map_cons, List.map_nil]); first | done | rfl | (simp only [List.length_drop, List.length_take]; rfl)) ?_; (with_reducible refine (slots_Many.calls _ _ l0_0 _ _ l0_1 t644 _ ?side1 ?side2 ?side3 ?side4 A14.out).mono ?_); (case side1 => repeat (first | exact (Kd.C_below HR0_0.out HB.out) | (with_reducible refine Kd.C_alloc ?_ _) | (with_reducible refine Kd.C_drewN ?_ _) | (with_reducible refine Kd.C_drew ?_))); (case side2 => exact HC0_0.out); (case side3 => repeat (first | exact (Kd.C_below HR0_1.out HB.out) | (with_reducible refine Kd.C_alloc ?_ _) | (with_reducible refine Kd.C_drewN ?_ _) | (with_reducible refine Kd.C_drew ?_))); (case side4 => exact HC0_1.out); rintro e w16 ⟨rfl, hb⟩; refine ⟨_, rfl, ?_⟩; have n0_ := Aside0.mk (blk_below (g := gb641) (o := .cells #[.slice A0_0 l0_0.length c0_0, .slice A0_1 l0_1.length c0_1] 25 (0, 0)) (by (with_reducible repeat (first | refine blk_drewN ?_ _ | refine blk_drew ?_ | refine blk_alloc ?_ _)); exact BK641.out) hb); have n1_ := Aside0.mk (below_step (by repeat (first | (with_reducible first | exact HB.out | apply below_alloc | apply pw_below_drewN | apply below_drew1 | refine below_set ?_ GE641.out) | exact HB.out)) hb); clear BK641; clear HB; have BK641 := n0_; have HB := n1_; clear n0_ n1_; (try clear hb); (try clear hb2); (try clear hk); (try clear hi)))
 go_loopg [7, 8, 9] kj3 (fun kq v7 v8 v9 w' => ∃ (x7_2 : List Int) (x8_2 : List Int) (x9_2 : Int), v9 = .int .i64 x9_2 ∧ Aside0 (fencepostlaw08_SlotsNone.l0 kq l1 t642 t644 x7_2 x8_2 x9_2 l0_0 l0_1 = some r) ∧ Aside0 (kq ≤ kj3) ∧ Aside0 (Kd.R (Kd.int .i64) 3 w' w.heap.size (fun k_ => some k_ ≠ (v8 : Value).ownBlock) v7 x7_2) ∧ Aside0 (Kd.R (Kd.int .i64) 3 w' w.heap.size (fun k_ => some k_ ≠ (v7 : Value).ownBlock) v8 x8_2) ∧ Aside0 (w'.heap[gb641]? = some (.cells #[(.slice A0_0 l0_0.length c0_0), (.slice A0_1 l0_1.length c0_1)] 25 (0, 0))) ∧ Aside0 (Below w.heap.size w w'))
 case atStart => exact ⟨(([] : List Int)), (([] : List Int)), (wrap64 ((l1.length : Int) - 1)), (by first | rfl | (simp; done) | (simp [*]; done)), H', ⟨Nat.le_refl _⟩, ⟨by first | exact Kd.R_nil _ _ _ _ _ | exact Kd.N_nil _ _ _ _ _ | exact Kd.V_nil _ _ _ _ _ | exact Kd.Q_nil _ _ _ _ _ | exact Kd.S_nil _ _ _ _ _⟩, ⟨by first | exact Kd.R_nil _ _ _ _ _ | exact Kd.N_nil _ _ _ _ _ | exact Kd.V_nil _ _ _ _ _ | exact Kd.Q_nil _ _ _ _ _ | exact Kd.S_nil _ _ _ _ _⟩, ⟨by (with_reducible repeat (first | refine blk_drewN ?_ _ | refine blk_drew ?_ | refine blk_alloc ?_ _)); exact BK641.out⟩, ⟨by repeat (first | (with_reducible first | exact HB.out | apply below_alloc | apply pw_below_drewN | apply below_drew1 | refine below_set ?_ GE641.out) | exact HB.out)⟩⟩
 clear H'
 try clear c1
 try clear c13
 try clear hcz15_0
 try clear hcz15_1
 try clear hfz15_0
 try clear hfz15_1
 obtain ⟨x7_2, x8_2, x9_2, rfl, HA, HK2, HO_7, HO_8, BK641, HB⟩ := hrel
 cases gk with
 | zero => exact absurd HA.out (by simp [fencepostlaw08_SlotsNone.l0])
 | succ k2 => ?_
 have H := HA.out
 clear HA
 simp only [fencepostlaw08_SlotsNone.l0] at H
 by_cases c17 : x9_2 ≥ 0
 rotate_left
 ·rw [if_neg c17] at H
  have c17b0 : decide (0 ≤ x9_2) = false := decide_eq_false c17
  clear c17
  by_cases c44 : t642 = true
  rotate_left
  ·replace c44 := Bool.eq_false_iff.mpr c44
   subst c44
   have H1 : (some false) = some r := by rw [if_neg (show ¬ (false = true) by decide)] at H; exact H
   clear H
   have H := H1
   clear H1
   exact absurd ((Option.some.inj H).trans HT.out) (by simp)
  subst c44
  have H1 : ((slots_Insert.f l0_0 l0_1 x7_2).bind fun bt679 => ((fencepostref07_Same.f k2 bt679.1 bt679.2 l0_0 l0_1).bind fun t685 => (if t685 = true then ((slots_Insert.f l0_0 l0_1 ([] : List Int)).bind fun bt686 => ((fencepostref07_Same.f k2 bt686.1 bt686.2 l0_0 l0_1).bind fun t692 => (if t692 = true then ((slots_Insert.f l0_0 l0_1 x8_2).bind fun bt693 => ((slots_Insert.f l0_0 l0_1 l1).bind fun bt699 => ((fencepostref07_Same.f k2 bt693.1 bt693.2 bt699.1 bt699.2).bind fun t705 => (some t705)))) else (some false)))) else (some false)))) = some r := by rw [if_pos rfl] at H; exact H
  clear H
  have H := H1
  clear H1
  replace H := Option.bind_eq_some_iff.mp H
  obtain ⟨⟨t679, t682⟩, A450, H⟩ := H
  replace H : ((fencepostref07_Same.f k2 t679 t682 l0_0 l0_1).bind fun t685 => (if t685 = true then ((slots_Insert.f l0_0 l0_1 ([] : List Int)).bind fun bt686 => ((fencepostref07_Same.f k2 bt686.1 bt686.2 l0_0 l0_1).bind fun t692 => (if t692 = true then ((slots_Insert.f l0_0 l0_1 x8_2).bind fun bt693 => ((slots_Insert.f l0_0 l0_1 l1).bind fun bt699 => ((fencepostref07_Same.f k2 bt693.1 bt693.2 bt699.1 bt699.2).bind fun t705 => (some t705)))) else (some false)))) else (some false))) = some r := H
  have A45 := Aside0.mk A450
  clear A450
  replace H := Option.bind_eq_some_iff.mp H
  obtain ⟨t685, A460, H⟩ := H
  replace H : (if t685 = true then ((slots_Insert.f l0_0 l0_1 ([] : List Int)).bind fun bt686 => ((fencepostref07_Same.f k2 bt686.1 bt686.2 l0_0 l0_1).bind fun t692 => (if t692 = true then ((slots_Insert.f l0_0 l0_1 x8_2).bind fun bt693 => ((slots_Insert.f l0_0 l0_1 l1).bind fun bt699 => ((fencepostref07_Same.f k2 bt693.1 bt693.2 bt699.1 bt699.2).bind fun t705 => (some t705)))) else (some false)))) else (some false)) = some r := H
  have A46 := Aside0.mk A460
  clear A460
  by_cases c47 : t685 = true
  rotate_left
  ·replace c47 := Bool.eq_false_iff.mpr c47
   subst c47
   have H1 : (some false) = some r := by rw [if_neg (show ¬ (false = true) by decide)] at H; exact H
   clear H
   have H := H1
   clear H1
   exact absurd ((Option.some.inj H).trans HT.out) (by simp)
  subst c47
  have H1 : ((slots_Insert.f l0_0 l0_1 ([] : List Int)).bind fun bt686 => ((fencepostref07_Same.f k2 bt686.1 bt686.2 l0_0 l0_1).bind fun t692 => (if t692 = true then ((slots_Insert.f l0_0 l0_1 x8_2).bind fun bt693 => ((slots_Insert.f l0_0 l0_1 l1).bind fun bt699 => ((fencepostref07_Same.f k2 bt693.1 bt693.2 bt699.1 bt699.2).bind fun t705 => (some t705)))) else (some false)))) = some r := by rw [if_pos rfl] at H; exact H
  clear H
  have H := H1
  clear H1
  replace H := Option.bind_eq_some_iff.mp H
  obtain ⟨⟨t686, t689⟩, A480, H⟩ := H
  replace H : ((fencepostref07_Same.f k2 t686 t689 l0_0 l0_1).bind fun t692 => (if t692 = true then ((slots_Insert.f l0_0 l0_1 x8_2).bind fun bt693 => ((slots_Insert.f l0_0 l0_1 l1).bind fun bt699 => ((fencepostref07_Same.f k2 bt693.1 bt693.2 bt699.1 bt699.2).bind fun t705 => (some t705)))) else (some false))) = some r := H
  have A48 := Aside0.mk A480
  clear A480
  replace H := Option.bind_eq_some_iff.mp H
  obtain ⟨t692, A490, H⟩ := H
  replace H : (if t692 = true then ((slots_Insert.f l0_0 l0_1 x8_2).bind fun bt693 => ((slots_Insert.f l0_0 l0_1 l1).bind fun bt699 => ((fencepostref07_Same.f k2 bt693.1 bt693.2 bt699.1 bt699.2).bind fun t705 => (some t705)))) else (some false)) = some r := H
  have A49 := Aside0.mk A490
  clear A490
  by_cases c50 : t692 = true
  rotate_left
  ·replace c50 := Bool.eq_false_iff.mpr c50
   subst c50
   have H1 : (some false) = some r := by rw [if_neg (show ¬ (false = true) by decide)] at H; exact H
   clear H
   have H := H1
   clear H1
   exact absurd ((Option.some.inj H).trans HT.out) (by simp)
  subst c50
  have H1 : ((slots_Insert.f l0_0 l0_1 x8_2).bind fun bt693 => ((slots_Insert.f l0_0 l0_1 l1).bind fun bt699 => ((fencepostref07_Same.f k2 bt693.1 bt693.2 bt699.1 bt699.2).bind fun t705 => (some t705)))) = some r := by rw [if_pos rfl] at H; exact H
  clear H
  have H := H1
  clear H1
  replace H := Option.bind_eq_some_iff.mp H
  obtain ⟨⟨t693, t696⟩, A510, H⟩ := H
  replace H : ((slots_Insert.f l0_0 l0_1 l1).bind fun bt699 => ((fencepostref07_Same.f k2 t693 t696 bt699.1 bt699.2).bind fun t705 => (some t705))) = some r := H
  have A51 := Aside0.mk A510
  clear A510
  replace H := Option.bind_eq_some_iff.mp H
  obtain ⟨⟨t699, t702⟩, A520, H⟩ := H
  replace H : ((fencepostref07_Same.f k2 t693 t696 t699 t702).bind fun t705 => (some t705)) = some r := H
  have A52 := Aside0.mk A520
  clear A520
  replace H := Option.bind_eq_some_iff.mp H
  obtain ⟨t705, A530, H⟩ := H
  replace H : (some t705) = some r := H
  have A53 := Aside0.mk A530
  clear A530
  obtain rfl := Option.some.inj H
  try go_wp2
  have n0_ := Aside0.mk (Kd.R_drew HO_7.out)
  have n1_ := Aside0.mk (Kd.R_drew HO_8.out)
  have n2_ := Aside0.mk (blk_drew BK641.out)
  have n3_ := Aside0.mk (below_drew1 HB.out)
  clear HO_7
  clear HO_8
  clear BK641
  clear HB
  have HO_7 := n0_
  have HO_8 := n1_
  have BK641 := n2_
  have HB := n3_
  clear n0_ n1_ n2_ n3_
  obtain ⟨Ao55, co55, eo55⟩ := Kd.R_slice HO_7.out
  (first | subst eo55 | (injection eo55 with f1_ f2_ f3_; have f4_ := f1_.symm; have f5_ := f3_.symm; clear f1_ f2_ f3_; subst f4_; subst f5_))
  refine start_ (n := 24) (S := fun w' => w'.cell? ⟨gb641, 0, none⟩ = some (.slice A0_0 l0_0.length c0_0) ∧ w'.cell? ⟨gb641, 1, none⟩ = some (.slice A0_1 l0_1.length c0_1)) (ds := []) (lb_ 24 0) (by kernel_rfl) rfl rfl ⟨(blk_cell BK641.out 0).trans rfl, (blk_cell BK641.out 1).trans rfl⟩ (fun hHeld => ?_); refine with_tabW fencepostlaw08_SlotsNone.tab13 fencepostlaw08_SlotsNone.bits13 (fun HT_ HW_ => ?_)
  generalize wr.drew = w54 at HO_7 HO_8 BK641 HB hHeld ⊢
  refine pure_ (i := 0) (N := some 59) (v := ?_) (a' := ?_) (lb_ 24 1) rfl rfl (any_of HT_.out (by kernel_rfl)) (fun _ _ _ h => h) (Or.inl ⟨by rfl, ?_⟩) ?_ ?_; rotate_left; intro w'; go_simp; with_reducible rfl; rotate_left; simp only [Act.put, List.setIfInBounds_toArray, List.set_cons_zero, List.set_cons_succ, i64_w, i32_w]; rfl
  refine pure_ (i := 1) (N := some 60) (v := ?_) (a' := ?_) (lb_ 24 3) rfl rfl (any_of HT_.out (by kernel_rfl)) (fun _ _ _ h => h) (Or.inl ⟨by rfl, ?_⟩) ?_ ?_; rotate_left; intro w'; go_simp; with_reducible rfl; rotate_left; simp only [Act.put, List.setIfInBounds_toArray, List.set_cons_zero, List.set_cons_succ, i64_w, i32_w]; rfl
  refine pure_ (i := 3) (N := some 62) (v := ?_) (a' := ?_) (lb_ 24 11) rfl rfl (any_of HT_.out (by kernel_rfl)) (fun _ _ _ h => h) (Or.inl ⟨by rfl, ?_⟩) ?_ ?_; rotate_left; intro w'; go_simp; with_reducible rfl; rotate_left; simp only [Act.put, List.setIfInBounds_toArray, List.set_cons_zero, List.set_cons_succ, i64_w, i32_w]; rfl
  refine take_ (i := 2) (N := some 61) (v := ?_) (a' := ?_) (lb_ 24 15) rfl rfl (take_ofW HT_.out HW_.out (by kernel_rfl)) (fun _ _ _ h => h) (Or.inl ⟨by rfl, ?_⟩) hHeld ?_ ?_; rotate_left; rintro w' ⟨s0, s1⟩; go_simp; with_reducible rfl; rotate_left; simp only [Act.put, List.setIfInBounds_toArray, List.set_cons_zero, List.set_cons_succ, i64_w, i32_w]; rfl
  refine take_ (i := 5) (N := some 64) (v := ?_) (a' := ?_) (lb_ 24 47) rfl rfl (take_ofW HT_.out HW_.out (by kernel_rfl)) (fun _ _ _ h => h) (Or.inl ⟨by rfl, ?_⟩) hHeld ?_ ?_; rotate_left; rintro w' ⟨s0, s1⟩; go_simp; with_reducible rfl; rotate_left; simp only [Act.put, List.setIfInBounds_toArray, List.set_cons_zero, List.set_cons_succ, i64_w, i32_w]; rfl
  refine one_ (i := 4) (N := some 63) (lb_ 24 63) rfl rfl (one_of HT_.out (by kernel_rfl)) (by decide) (fun K hK => ?_)
  refine goes_ Try.func22 (by kernel_rfl) rfl #[.agg #[.slice A0_0 l0_0.length c0_0, .slice A0_1 l0_1.length c0_1], .slice Ao55 x7_2.length co55] (by rfl) rfl rfl (by (try simp only [List.map_toArray, List.map_cons, List.map_nil]); first | done | rfl | (simp only [List.length_drop, List.length_take]; rfl)) ?_
  with_reducible refine (slots_Insert.calls _ _ l0_0 _ _ l0_1 _ _ x7_2 t679 t682 _ ?side1 ?side2 ?side3 ?side4 ?side5 ?side6 A45.out).mono ?_
  (case side1 => repeat (first | exact (Kd.C_below HR0_0.out HB.out) | (with_reducible refine Kd.C_alloc ?_ _) | (with_reducible refine Kd.C_drewN ?_ _) | (with_reducible refine Kd.C_drew ?_)))
  (case side2 => exact HC0_0.out)
  (case side3 => repeat (first | exact (Kd.C_below HR0_1.out HB.out) | (with_reducible refine Kd.C_alloc ?_ _) | (with_reducible refine Kd.C_drewN ?_ _) | (with_reducible refine Kd.C_drew ?_)))
  (case side4 => exact HC0_1.out)
  (case side5 => repeat (first | exact (Kd.R_reads' HO_7.out).2.2 | (with_reducible refine Kd.C_alloc ?_ _) | (with_reducible refine Kd.C_drewN ?_ _) | (with_reducible refine Kd.C_drew ?_)))
  (case side6 => exact (Kd.R_reads' HO_7.out).2.1)
  rintro e w56 ⟨v680, v683, rfl, ho0, ho1, hb⟩
  refine ⟨_, rfl, ?_⟩
  have n0_ := Aside0.mk (Kd.R_elder' (by (with_reducible repeat (first | apply Kd.R_alloc | apply Kd.R_drewN | apply Kd.R_drew)); exact HO_7.out) (Kd.R_base ho0) hb)
  have n1_ := Aside0.mk (Kd.R_elder' (by (with_reducible repeat (first | apply Kd.R_alloc | apply Kd.R_drewN | apply Kd.R_drew)); exact HO_8.out) (Kd.R_base ho0) hb)
  have n2_ := Aside0.mk (Kd.R_lower (Kd.R_new' (Kd.R_new' ho0 (Kd.R_lt (by (with_reducible repeat (first | apply Kd.R_alloc | apply Kd.R_drewN | apply Kd.R_drew)); exact HO_7.out))) (Kd.R_lt (by (with_reducible repeat (first | apply Kd.R_alloc | apply Kd.R_drewN | apply Kd.R_drew)); exact HO_8.out))) (below_size (by repeat (first | (with_reducible first | exact HB.out | apply below_alloc | apply pw_below_drewN | apply below_drew1 | refine below_set ?_ GE641.out) | exact HB.out))))
  have n3_ := Aside0.mk (Kd.S_lower ho1 (below_size (by repeat (first | (with_reducible first | exact HB.out | apply below_alloc | apply pw_below_drewN | apply below_drew1 | refine below_set ?_ GE641.out) | exact HB.out))))
  have n4_ := Aside0.mk (blk_below (g := gb641) (o := .cells #[.slice A0_0 l0_0.length c0_0, .slice A0_1 l0_1.length c0_1] 25 (0, 0)) (by (with_reducible repeat (first | refine blk_drewN ?_ _ | refine blk_drew ?_ | refine blk_alloc ?_ _)); exact BK641.out) hb)
  have n5_ := Aside0.mk (below_step (by repeat (first | (with_reducible first | exact HB.out | apply below_alloc | apply pw_below_drewN | apply below_drew1 | refine below_set ?_ GE641.out) | exact HB.out)) hb)
  clear HO_7
  clear HO_8
  clear BK641
  clear HB
  have HO_7 := n0_
  have HO_8 := n1_
  have HO681 := n2_
  have HO684 := n3_
  have BK641 := n4_
  have HB := n5_
  clear n0_ n1_ n2_ n3_ n4_ n5_
  (try clear hb)
  (try clear hb2)
  (try clear hk)
  (try clear hi)
  (try clear ho0)
  (try clear ho1)
  obtain ⟨Ao57, co57, eo57⟩ := Kd.R_slice HO681.out
  (first | subst eo57 | (injection eo57 with f1_ f2_ f3_; have f4_ := f1_.symm; have f5_ := f3_.symm; clear f1_ f2_ f3_; subst f4_; subst f5_))
  obtain ⟨Ao58, co58, eo58⟩ := Kd.S_slice HO684.out
  (first | subst eo58 | (injection eo58 with f1_ f2_ f3_; have f4_ := f1_.symm; have f5_ := f3_.symm; clear f1_ f2_ f3_; subst f4_; subst f5_))
  refine hK.out _ _ ⟨(blk_cell BK641.out 0).trans rfl, (blk_cell BK641.out 1).trans rfl⟩ (fun hHeld => ?_)
  clear hK K
  refine norm_ (a' := ?_) ?_ ?_
  rotate_left
  ·show Act.put _ (some 63) _ = _
   simp only [Act.put, List.setIfInBounds_toArray, List.set_cons_zero, List.set_cons_succ, i64_w, i32_w]
   rfl
  refine one_ (i := 6) (N := some 65) (lb_ 24 127) rfl rfl (one_of HT_.out (by kernel_rfl)) (by decide) (fun K hK => ?_)
  refine goes_ Try.func21 (by kernel_rfl) rfl #[.agg #[.slice Ao57 t679.length co57, .slice Ao58 t682.length co58], .agg #[.slice A0_0 l0_0.length c0_0, .slice A0_1 l0_1.length c0_1]] (by rfl) rfl rfl (by (try simp only [List.map_toArray, List.map_cons, List.map_nil]); first | done | rfl | (simp only [List.length_drop, List.length_take]; rfl)) ?_
  with_reducible refine (fencepostref07_Same.calls k2 _ _ t679 _ _ t682 _ _ l0_0 _ _ l0_1 true _ ?side1 ?side2 ?side3 ?side4 ?side5 ?side6 ?side7 ?side8 A46.out).mono ?_
  (case side1 => repeat (first | exact (Kd.R_reads' HO681.out).2.2 | (with_reducible refine Kd.C_alloc ?_ _) | (with_reducible refine Kd.C_drewN ?_ _) | (with_reducible refine Kd.C_drew ?_)))
  (case side2 => exact (Kd.R_reads' HO681.out).2.1)
  (case side3 => repeat (first | exact (Kd.S_reads' HO684.out).2.2 | (with_reducible refine Kd.C_alloc ?_ _) | (with_reducible refine Kd.C_drewN ?_ _) | (with_reducible refine Kd.C_drew ?_)))
  (case side4 => exact (Kd.S_reads' HO684.out).2.1)
  (case side5 => repeat (first | exact (Kd.C_below HR0_0.out HB.out) | (with_reducible refine Kd.C_alloc ?_ _) | (with_reducible refine Kd.C_drewN ?_ _) | (with_reducible refine Kd.C_drew ?_)))
  (case side6 => exact HC0_0.out)
  (case side7 => repeat (first | exact (Kd.C_below HR0_1.out HB.out) | (with_reducible refine Kd.C_alloc ?_ _) | (with_reducible refine Kd.C_drewN ?_ _) | (with_reducible refine Kd.C_drew ?_)))
  (case side8 => exact HC0_1.out)
  rintro e w59 ⟨rfl, hb⟩
  refine ⟨_, rfl, ?_⟩
  have n0_ := Aside0.mk (Kd.R_below (by (with_reducible repeat (first | apply Kd.R_alloc | apply Kd.R_drewN | apply Kd.R_drew)); exact HO_7.out) hb)
  have n1_ := Aside0.mk (Kd.R_below (by (with_reducible repeat (first | apply Kd.R_alloc | apply Kd.R_drewN | apply Kd.R_drew)); exact HO_8.out) hb)
  have n2_ := Aside0.mk (Kd.R_below (by (with_reducible repeat (first | apply Kd.R_alloc | apply Kd.R_drewN | apply Kd.R_drew)); exact HO681.out) hb)
  have n3_ := Aside0.mk (Kd.S_below (by (with_reducible repeat (first | apply Kd.S_alloc | apply Kd.S_drewN | apply Kd.S_drew)); exact HO684.out) hb)
  have n4_ := Aside0.mk (blk_below (g := gb641) (o := .cells #[.slice A0_0 l0_0.length c0_0, .slice A0_1 l0_1.length c0_1] 25 (0, 0)) (by (with_reducible repeat (first | refine blk_drewN ?_ _ | refine blk_drew ?_ | refine blk_alloc ?_ _)); exact BK641.out) hb)
  have n5_ := Aside0.mk (below_step (by repeat (first | (with_reducible first | exact HB.out | apply below_alloc | apply pw_below_drewN | apply below_drew1 | refine below_set ?_ GE641.out) | exact HB.out)) hb)
  clear HO_7
  clear HO_8
  clear HO681
  clear HO684
  clear BK641
  clear HB
  have HO_7 := n0_
  have HO_8 := n1_
  have HO681 := n2_
  have HO684 := n3_
  have BK641 := n4_
  have HB := n5_
  clear n0_ n1_ n2_ n3_ n4_ n5_
  (try clear hb)
  (try clear hb2)
  (try clear hk)
  (try clear hi)
  refine hK.out _ _ ⟨(blk_cell BK641.out 0).trans rfl, (blk_cell BK641.out 1).trans rfl⟩ (fun hHeld => ?_)
  clear hK K
  refine norm_ (a' := ?_) ?_ ?_
  rotate_left
  ·show Act.put _ (some 65) _ = _
   simp only [Act.put, List.setIfInBounds_toArray, List.set_cons_zero, List.set_cons_succ, i64_w, i32_w]
   rfl
  refine pure_ (i := 7) (N := some 66) (v := ?_) (a' := ?_) (lb_ 24 255) rfl rfl (any_of HT_.out (by kernel_rfl)) (fun _ _ _ h => h) (Or.inl ⟨by rfl, ?_⟩) ?_ ?_; rotate_left; intro w'; go_simp; with_reducible rfl; rotate_left; simp only [Act.put, List.setIfInBounds_toArray, List.set_cons_zero, List.set_cons_succ, i64_w, i32_w]; rfl
  refine pure_ (i := 8) (N := some 67) (v := ?_) (a' := ?_) (lb_ 24 511) rfl rfl (any_of HT_.out (by kernel_rfl)) (fun _ _ _ h => h) (Or.inl ⟨by rfl, ?_⟩) ?_ ?_; rotate_left; intro w'; go_simp; with_reducible rfl; rotate_left; simp only [Act.put, List.setIfInBounds_toArray, List.set_cons_zero, List.set_cons_succ, i64_w, i32_w]; rfl
  refine take_ (i := 9) (N := some 68) (v := ?_) (a' := ?_) (lb_ 24 1023) rfl rfl (take_ofW HT_.out HW_.out (by kernel_rfl)) (fun _ _ _ h => h) (Or.inl ⟨by rfl, ?_⟩) hHeld ?_ ?_; rotate_left; rintro w' ⟨s0, s1⟩; go_simp; with_reducible rfl; rotate_left; simp only [Act.put, List.setIfInBounds_toArray, List.set_cons_zero, List.set_cons_succ, i64_w, i32_w]; rfl
  refine take_ (i := 11) (N := some 70) (v := ?_) (a' := ?_) (lb_ 24 3071) rfl rfl (take_ofW HT_.out HW_.out (by kernel_rfl)) (fun _ _ _ h => h) (Or.inl ⟨by rfl, ?_⟩) hHeld ?_ ?_; rotate_left; rintro w' ⟨s0, s1⟩; go_simp; with_reducible rfl; rotate_left; simp only [Act.put, List.setIfInBounds_toArray, List.set_cons_zero, List.set_cons_succ, i64_w, i32_w]; rfl
  refine one_ (i := 10) (N := some 69) (lb_ 24 4095) rfl rfl (one_of HT_.out (by kernel_rfl)) (by decide) (fun K hK => ?_)
  refine goes_ Try.func22 (by kernel_rfl) rfl #[.agg #[.slice A0_0 l0_0.length c0_0, .slice A0_1 l0_1.length c0_1], .slice none 0 0] (by rfl) rfl rfl (by (try simp only [List.map_toArray, List.map_cons, List.map_nil]); first | done | rfl | (simp only [List.length_drop, List.length_take]; rfl)) ?_
  refine (slots_Insert.calls _ _ l0_0 _ _ l0_1 _ _ ([] : List Int) t686 t689 _ ?side1 ?side2 ?side3 ?side4 ?side5 ?side6 A48.out).mono ?_
  (case side1 => repeat (first | exact (Kd.C_below HR0_0.out HB.out) | (with_reducible refine Kd.C_alloc ?_ _) | (with_reducible refine Kd.C_drewN ?_ _) | (with_reducible refine Kd.C_drew ?_)))
  (case side2 => exact HC0_0.out)
  (case side3 => repeat (first | exact (Kd.C_below HR0_1.out HB.out) | (with_reducible refine Kd.C_alloc ?_ _) | (with_reducible refine Kd.C_drewN ?_ _) | (with_reducible refine Kd.C_drew ?_)))
  (case side4 => exact HC0_1.out)
  (case side5 => exact Kd.C_nil _ _)
  (case side6 => exact Nat.le_refl _)
  rintro e w60 ⟨v687, v690, rfl, ho0, ho1, hb⟩
  refine ⟨_, rfl, ?_⟩
  have n0_ := Aside0.mk (Kd.R_elder' (by (with_reducible repeat (first | apply Kd.R_alloc | apply Kd.R_drewN | apply Kd.R_drew)); exact HO_7.out) (Kd.R_base ho0) hb)
  have n1_ := Aside0.mk (Kd.R_elder' (by (with_reducible repeat (first | apply Kd.R_alloc | apply Kd.R_drewN | apply Kd.R_drew)); exact HO_8.out) (Kd.R_base ho0) hb)
  have n2_ := Aside0.mk (Kd.R_elder' (by (with_reducible repeat (first | apply Kd.R_alloc | apply Kd.R_drewN | apply Kd.R_drew)); exact HO681.out) (Kd.R_base ho0) hb)
  have n3_ := Aside0.mk (Kd.S_elder' (by (with_reducible repeat (first | apply Kd.S_alloc | apply Kd.S_drewN | apply Kd.S_drew)); exact HO684.out) (Kd.S_base ho1) hb)
  have n4_ := Aside0.mk (Kd.R_lower (Kd.R_new' (Kd.R_new' (Kd.R_new' ho0 (Kd.R_lt (by (with_reducible repeat (first | apply Kd.R_alloc | apply Kd.R_drewN | apply Kd.R_drew)); exact HO_7.out))) (Kd.R_lt (by (with_reducible repeat (first | apply Kd.R_alloc | apply Kd.R_drewN | apply Kd.R_drew)); exact HO_8.out))) (Kd.R_lt (by (with_reducible repeat (first | apply Kd.R_alloc | apply Kd.R_drewN | apply Kd.R_drew)); exact HO681.out))) (below_size (by repeat (first | (with_reducible first | exact HB.out | apply below_alloc | apply pw_below_drewN | apply below_drew1 | refine below_set ?_ GE641.out) | exact HB.out))))
  have n5_ := Aside0.mk (Kd.S_lower (Kd.S_new' ho1 (Kd.S_lt (by (with_reducible repeat (first | apply Kd.S_alloc | apply Kd.S_drewN | apply Kd.S_drew)); exact HO684.out))) (below_size (by repeat (first | (with_reducible first | exact HB.out | apply below_alloc | apply pw_below_drewN | apply below_drew1 | refine below_set ?_ GE641.out) | exact HB.out))))
  have n6_ := Aside0.mk (blk_below (g := gb641) (o := .cells #[.slice A0_0 l0_0.length c0_0, .slice A0_1 l0_1.length c0_1] 25 (0, 0)) (by (with_reducible repeat (first | refine blk_drewN ?_ _ | refine blk_drew ?_ | refine blk_alloc ?_ _)); exact BK641.out) hb)
  have n7_ := Aside0.mk (below_step (by repeat (first | (with_reducible first | exact HB.out | apply below_alloc | apply pw_below_drewN | apply below_drew1 | refine below_set ?_ GE641.out) | exact HB.out)) hb)
  clear HO_7
  clear HO_8
  clear HO681
  clear HO684
  clear BK641
  clear HB
  have HO_7 := n0_
  have HO_8 := n1_
  have HO681 := n2_
  have HO684 := n3_
  have HO688 := n4_
  have HO691 := n5_
  have BK641 := n6_
  have HB := n7_
  clear n0_ n1_ n2_ n3_ n4_ n5_ n6_ n7_
  (try clear hb)
  (try clear hb2)
  (try clear hk)
  (try clear hi)
  (try clear ho0)
  (try clear ho1)
  obtain ⟨Ao61, co61, eo61⟩ := Kd.R_slice HO688.out
  (first | subst eo61 | (injection eo61 with f1_ f2_ f3_; have f4_ := f1_.symm; have f5_ := f3_.symm; clear f1_ f2_ f3_; subst f4_; subst f5_))
  obtain ⟨Ao62, co62, eo62⟩ := Kd.S_slice HO691.out
  (first | subst eo62 | (injection eo62 with f1_ f2_ f3_; have f4_ := f1_.symm; have f5_ := f3_.symm; clear f1_ f2_ f3_; subst f4_; subst f5_))
  refine hK.out _ _ ⟨(blk_cell BK641.out 0).trans rfl, (blk_cell BK641.out 1).trans rfl⟩ (fun hHeld => ?_)
  clear hK K
  refine norm_ (a' := ?_) ?_ ?_
  rotate_left
  ·show Act.put _ (some 69) _ = _
   simp only [Act.put, List.setIfInBounds_toArray, List.set_cons_zero, List.set_cons_succ, i64_w, i32_w]
   rfl
  refine one_ (i := 12) (N := some 71) (lb_ 24 8191) rfl rfl (one_of HT_.out (by kernel_rfl)) (by decide) (fun K hK => ?_)
  refine goes_ Try.func21 (by kernel_rfl) rfl #[.agg #[.slice Ao61 t686.length co61, .slice Ao62 t689.length co62], .agg #[.slice A0_0 l0_0.length c0_0, .slice A0_1 l0_1.length c0_1]] (by rfl) rfl rfl (by (try simp only [List.map_toArray, List.map_cons, List.map_nil]); first | done | rfl | (simp only [List.length_drop, List.length_take]; rfl)) ?_
  with_reducible refine (fencepostref07_Same.calls k2 _ _ t686 _ _ t689 _ _ l0_0 _ _ l0_1 true _ ?side1 ?side2 ?side3 ?side4 ?side5 ?side6 ?side7 ?side8 A49.out).mono ?_
  (case side1 => repeat (first | exact (Kd.R_reads' HO688.out).2.2 | (with_reducible refine Kd.C_alloc ?_ _) | (with_reducible refine Kd.C_drewN ?_ _) | (with_reducible refine Kd.C_drew ?_)))
  (case side2 => exact (Kd.R_reads' HO688.out).2.1)
  (case side3 => repeat (first | exact (Kd.S_reads' HO691.out).2.2 | (with_reducible refine Kd.C_alloc ?_ _) | (with_reducible refine Kd.C_drewN ?_ _) | (with_reducible refine Kd.C_drew ?_)))
  (case side4 => exact (Kd.S_reads' HO691.out).2.1)
  (case side5 => repeat (first | exact (Kd.C_below HR0_0.out HB.out) | (with_reducible refine Kd.C_alloc ?_ _) | (with_reducible refine Kd.C_drewN ?_ _) | (with_reducible refine Kd.C_drew ?_)))
  (case side6 => exact HC0_0.out)
  (case side7 => repeat (first | exact (Kd.C_below HR0_1.out HB.out) | (with_reducible refine Kd.C_alloc ?_ _) | (with_reducible refine Kd.C_drewN ?_ _) | (with_reducible refine Kd.C_drew ?_)))
  (case side8 => exact HC0_1.out)
  rintro e w63 ⟨rfl, hb⟩
  refine ⟨_, rfl, ?_⟩
  have n0_ := Aside0.mk (Kd.R_below (by (with_reducible repeat (first | apply Kd.R_alloc | apply Kd.R_drewN | apply Kd.R_drew)); exact HO_7.out) hb)
  have n1_ := Aside0.mk (Kd.R_below (by (with_reducible repeat (first | apply Kd.R_alloc | apply Kd.R_drewN | apply Kd.R_drew)); exact HO_8.out) hb)
  have n2_ := Aside0.mk (Kd.R_below (by (with_reducible repeat (first | apply Kd.R_alloc | apply Kd.R_drewN | apply Kd.R_drew)); exact HO681.out) hb)
  have n3_ := Aside0.mk (Kd.S_below (by (with_reducible repeat (first | apply Kd.S_alloc | apply Kd.S_drewN | apply Kd.S_drew)); exact HO684.out) hb)
  have n4_ := Aside0.mk (Kd.R_below (by (with_reducible repeat (first | apply Kd.R_alloc | apply Kd.R_drewN | apply Kd.R_drew)); exact HO688.out) hb)
  have n5_ := Aside0.mk (Kd.S_below (by (with_reducible repeat (first | apply Kd.S_alloc | apply Kd.S_drewN | apply Kd.S_drew)); exact HO691.out) hb)
  have n6_ := Aside0.mk (blk_below (g := gb641) (o := .cells #[.slice A0_0 l0_0.length c0_0, .slice A0_1 l0_1.length c0_1] 25 (0, 0)) (by (with_reducible repeat (first | refine blk_drewN ?_ _ | refine blk_drew ?_ | refine blk_alloc ?_ _)); exact BK641.out) hb)
  have n7_ := Aside0.mk (below_step (by repeat (first | (with_reducible first | exact HB.out | apply below_alloc | apply pw_below_drewN | apply below_drew1 | refine below_set ?_ GE641.out) | exact HB.out)) hb)
  clear HO_7
  clear HO_8
  clear HO681
  clear HO684
  clear HO688
  clear HO691
  clear BK641
  clear HB
  have HO_7 := n0_
  have HO_8 := n1_
  have HO681 := n2_
  have HO684 := n3_
  have HO688 := n4_
  have HO691 := n5_
  have BK641 := n6_
  have HB := n7_
  clear n0_ n1_ n2_ n3_ n4_ n5_ n6_ n7_
  (try clear hb)
  (try clear hb2)
  (try clear hk)
  (try clear hi)
  obtain ⟨Ao64, co64, eo64⟩ := Kd.R_slice HO_8.out
  (first | subst eo64 | (injection eo64 with f1_ f2_ f3_; have f4_ := f1_.symm; have f5_ := f3_.symm; clear f1_ f2_ f3_; subst f4_; subst f5_))
  refine hK.out _ _ ⟨(blk_cell BK641.out 0).trans rfl, (blk_cell BK641.out 1).trans rfl⟩ (fun hHeld => ?_)
  clear hK K
  refine norm_ (a' := ?_) ?_ ?_
  rotate_left
  ·show Act.put _ (some 71) _ = _
   simp only [Act.put, List.setIfInBounds_toArray, List.set_cons_zero, List.set_cons_succ, i64_w, i32_w]
   rfl
  refine pure_ (i := 13) (N := some 72) (v := ?_) (a' := ?_) (lb_ 24 16383) rfl rfl (any_of HT_.out (by kernel_rfl)) (fun _ _ _ h => h) (Or.inl ⟨by rfl, ?_⟩) ?_ ?_; rotate_left; intro w'; go_simp; with_reducible rfl; rotate_left; simp only [Act.put, List.setIfInBounds_toArray, List.set_cons_zero, List.set_cons_succ, i64_w, i32_w]; rfl
  refine pure_ (i := 14) (N := some 73) (v := ?_) (a' := ?_) (lb_ 24 32767) rfl rfl (any_of HT_.out (by kernel_rfl)) (fun _ _ _ h => h) (Or.inl ⟨by rfl, ?_⟩) ?_ ?_; rotate_left; intro w'; go_simp; with_reducible rfl; rotate_left; simp only [Act.put, List.setIfInBounds_toArray, List.set_cons_zero, List.set_cons_succ, i64_w, i32_w]; rfl
  refine pure_ (i := 16) (N := some 75) (v := ?_) (a' := ?_) (lb_ 24 98303) rfl rfl (any_of HT_.out (by kernel_rfl)) (fun _ _ _ h => h) (Or.inl ⟨by rfl, ?_⟩) ?_ ?_; rotate_left; intro w'; go_simp; with_reducible rfl; rotate_left; simp only [Act.put, List.setIfInBounds_toArray, List.set_cons_zero, List.set_cons_succ, i64_w, i32_w]; rfl
  refine pure_ (i := 19) (N := some 78) (v := ?_) (a' := ?_) (lb_ 24 622591) rfl rfl (any_of HT_.out (by kernel_rfl)) (fun _ _ _ h => h) (Or.inl ⟨by rfl, ?_⟩) ?_ ?_; rotate_left; intro w'; go_simp; with_reducible rfl; rotate_left; simp only [Act.put, List.setIfInBounds_toArray, List.set_cons_zero, List.set_cons_succ, i64_w, i32_w]; rfl
  refine take_ (i := 15) (N := some 74) (v := ?_) (a' := ?_) (lb_ 24 655359) rfl rfl (take_ofW HT_.out HW_.out (by kernel_rfl)) (fun _ _ _ h => h) (Or.inl ⟨by rfl, ?_⟩) hHeld ?_ ?_; rotate_left; rintro w' ⟨s0, s1⟩; go_simp; with_reducible rfl; rotate_left; simp only [Act.put, List.setIfInBounds_toArray, List.set_cons_zero, List.set_cons_succ, i64_w, i32_w]; rfl
  refine take_ (i := 18) (N := some 77) (v := ?_) (a' := ?_) (lb_ 24 917503) rfl rfl (take_ofW HT_.out HW_.out (by kernel_rfl)) (fun _ _ _ h => h) (Or.inl ⟨by rfl, ?_⟩) hHeld ?_ ?_; rotate_left; rintro w' ⟨s0, s1⟩; go_simp; with_reducible rfl; rotate_left; simp only [Act.put, List.setIfInBounds_toArray, List.set_cons_zero, List.set_cons_succ, i64_w, i32_w]; rfl
  refine one_ (i := 17) (N := some 76) (lb_ 24 1048575) rfl rfl (one_of HT_.out (by kernel_rfl)) (by decide) (fun K hK => ?_)
  refine goes_ Try.func22 (by kernel_rfl) rfl #[.agg #[.slice A0_0 l0_0.length c0_0, .slice A0_1 l0_1.length c0_1], .slice Ao64 x8_2.length co64] (by rfl) rfl rfl (by (try simp only [List.map_toArray, List.map_cons, List.map_nil]); first | done | rfl | (simp only [List.length_drop, List.length_take]; rfl)) ?_
  with_reducible refine (slots_Insert.calls _ _ l0_0 _ _ l0_1 _ _ x8_2 t693 t696 _ ?side1 ?side2 ?side3 ?side4 ?side5 ?side6 A51.out).mono ?_
  (case side1 => repeat (first | exact (Kd.C_below HR0_0.out HB.out) | (with_reducible refine Kd.C_alloc ?_ _) | (with_reducible refine Kd.C_drewN ?_ _) | (with_reducible refine Kd.C_drew ?_)))
  (case side2 => exact HC0_0.out)
  (case side3 => repeat (first | exact (Kd.C_below HR0_1.out HB.out) | (with_reducible refine Kd.C_alloc ?_ _) | (with_reducible refine Kd.C_drewN ?_ _) | (with_reducible refine Kd.C_drew ?_)))
  (case side4 => exact HC0_1.out)
  (case side5 => repeat (first | exact (Kd.R_reads' HO_8.out).2.2 | (with_reducible refine Kd.C_alloc ?_ _) | (with_reducible refine Kd.C_drewN ?_ _) | (with_reducible refine Kd.C_drew ?_)))
  (case side6 => exact (Kd.R_reads' HO_8.out).2.1)
  rintro e w65 ⟨v694, v697, rfl, ho0, ho1, hb⟩
  refine ⟨_, rfl, ?_⟩
  have n0_ := Aside0.mk (Kd.R_elder' (by (with_reducible repeat (first | apply Kd.R_alloc | apply Kd.R_drewN | apply Kd.R_drew)); exact HO_7.out) (Kd.R_base ho0) hb)
  have n1_ := Aside0.mk (Kd.R_elder' (by (with_reducible repeat (first | apply Kd.R_alloc | apply Kd.R_drewN | apply Kd.R_drew)); exact HO_8.out) (Kd.R_base ho0) hb)
  have n2_ := Aside0.mk (Kd.R_elder' (by (with_reducible repeat (first | apply Kd.R_alloc | apply Kd.R_drewN | apply Kd.R_drew)); exact HO681.out) (Kd.R_base ho0) hb)
  have n3_ := Aside0.mk (Kd.S_elder' (by (with_reducible repeat (first | apply Kd.S_alloc | apply Kd.S_drewN | apply Kd.S_drew)); exact HO684.out) (Kd.S_base ho1) hb)
  have n4_ := Aside0.mk (Kd.R_elder' (by (with_reducible repeat (first | apply Kd.R_alloc | apply Kd.R_drewN | apply Kd.R_drew)); exact HO688.out) (Kd.R_base ho0) hb)
  have n5_ := Aside0.mk (Kd.S_elder' (by (with_reducible repeat (first | apply Kd.S_alloc | apply Kd.S_drewN | apply Kd.S_drew)); exact HO691.out) (Kd.S_base ho1) hb)
  have n6_ := Aside0.mk (Kd.R_lower (Kd.R_new' (Kd.R_new' (Kd.R_new' (Kd.R_new' ho0 (Kd.R_lt (by (with_reducible repeat (first | apply Kd.R_alloc | apply Kd.R_drewN | apply Kd.R_drew)); exact HO_7.out))) (Kd.R_lt (by (with_reducible repeat (first | apply Kd.R_alloc | apply Kd.R_drewN | apply Kd.R_drew)); exact HO_8.out))) (Kd.R_lt (by (with_reducible repeat (first | apply Kd.R_alloc | apply Kd.R_drewN | apply Kd.R_drew)); exact HO681.out))) (Kd.R_lt (by (with_reducible repeat (first | apply Kd.R_alloc | apply Kd.R_drewN | apply Kd.R_drew)); exact HO688.out))) (below_size (by repeat (first | (with_reducible first | exact HB.out | apply below_alloc | apply pw_below_drewN | apply below_drew1 | refine below_set ?_ GE641.out) | exact HB.out))))
  have n7_ := Aside0.mk (Kd.S_lower (Kd.S_new' (Kd.S_new' ho1 (Kd.S_lt (by (with_reducible repeat (first | apply Kd.S_alloc | apply Kd.S_drewN | apply Kd.S_drew)); exact HO684.out))) (Kd.S_lt (by (with_reducible repeat (first | apply Kd.S_alloc | apply Kd.S_drewN | apply Kd.S_drew)); exact HO691.out))) (below_size (by repeat (first | (with_reducible first | exact HB.out | apply below_alloc | apply pw_below_drewN | apply below_drew1 | refine below_set ?_ GE641.out) | exact HB.out))))
  have n8_ := Aside0.mk (blk_below (g := gb641) (o := .cells #[.slice A0_0 l0_0.length c0_0, .slice A0_1 l0_1.length c0_1] 25 (0, 0)) (by (with_reducible repeat (first | refine blk_drewN ?_ _ | refine blk_drew ?_ | refine blk_alloc ?_ _)); exact BK641.out) hb)
  have n9_ := Aside0.mk (below_step (by repeat (first | (with_reducible first | exact HB.out | apply below_alloc | apply pw_below_drewN | apply below_drew1 | refine below_set ?_ GE641.out) | exact HB.out)) hb)
  clear HO_7
  clear HO_8
  clear HO681
  clear HO684
  clear HO688
  clear HO691
  clear BK641
  clear HB
  have HO_7 := n0_
  have HO_8 := n1_
  have HO681 := n2_
  have HO684 := n3_
  have HO688 := n4_
  have HO691 := n5_
  have HO695 := n6_
  have HO698 := n7_
  have BK641 := n8_
  have HB := n9_
  clear n0_ n1_ n2_ n3_ n4_ n5_ n6_ n7_ n8_ n9_
  (try clear hb)
  (try clear hb2)
  (try clear hk)
  (try clear hi)
  (try clear ho0)
  (try clear ho1)
  refine hK.out _ _ ⟨(blk_cell BK641.out 0).trans rfl, (blk_cell BK641.out 1).trans rfl⟩ (fun hHeld => ?_)
  clear hK K
  refine norm_ (a' := ?_) ?_ ?_
  rotate_left
  ·show Act.put _ (some 76) _ = _
   simp only [Act.put, List.setIfInBounds_toArray, List.set_cons_zero, List.set_cons_succ, i64_w, i32_w]
   rfl
  refine one_ (i := 20) (N := some 79) (lb_ 24 2097151) rfl rfl (one_of HT_.out (by kernel_rfl)) (by decide) (fun K hK => ?_)
  refine goes_ Try.func22 (by kernel_rfl) rfl #[.agg #[.slice A0_0 l0_0.length c0_0, .slice A0_1 l0_1.length c0_1], .slice A1 l1.length c1] (by rfl) rfl rfl (by (try simp only [List.map_toArray, List.map_cons, List.map_nil]); first | done | rfl | (simp only [List.length_drop, List.length_take]; rfl)) ?_
  with_reducible refine (slots_Insert.calls _ _ l0_0 _ _ l0_1 _ _ l1 t699 t702 _ ?side1 ?side2 ?side3 ?side4 ?side5 ?side6 A52.out).mono ?_
  (case side1 => repeat (first | exact (Kd.C_below HR0_0.out HB.out) | (with_reducible refine Kd.C_alloc ?_ _) | (with_reducible refine Kd.C_drewN ?_ _) | (with_reducible refine Kd.C_drew ?_)))
  (case side2 => exact HC0_0.out)
  (case side3 => repeat (first | exact (Kd.C_below HR0_1.out HB.out) | (with_reducible refine Kd.C_alloc ?_ _) | (with_reducible refine Kd.C_drewN ?_ _) | (with_reducible refine Kd.C_drew ?_)))
  (case side4 => exact HC0_1.out)
  (case side5 => repeat (first | exact (Kd.C_below HR1.out HB.out) | (with_reducible refine Kd.C_alloc ?_ _) | (with_reducible refine Kd.C_drewN ?_ _) | (with_reducible refine Kd.C_drew ?_)))
  (case side6 => exact HC1.out)
  rintro e w66 ⟨v700, v703, rfl, ho0, ho1, hb⟩
  refine ⟨_, rfl, ?_⟩
  have n0_ := Aside0.mk (Kd.R_elder' (by (with_reducible repeat (first | apply Kd.R_alloc | apply Kd.R_drewN | apply Kd.R_drew)); exact HO_7.out) (Kd.R_base ho0) hb)
  have n1_ := Aside0.mk (Kd.R_elder' (by (with_reducible repeat (first | apply Kd.R_alloc | apply Kd.R_drewN | apply Kd.R_drew)); exact HO_8.out) (Kd.R_base ho0) hb)
  have n2_ := Aside0.mk (Kd.R_elder' (by (with_reducible repeat (first | apply Kd.R_alloc | apply Kd.R_drewN | apply Kd.R_drew)); exact HO681.out) (Kd.R_base ho0) hb)
  have n3_ := Aside0.mk (Kd.S_elder' (by (with_reducible repeat (first | apply Kd.S_alloc | apply Kd.S_drewN | apply Kd.S_drew)); exact HO684.out) (Kd.S_base ho1) hb)
  have n4_ := Aside0.mk (Kd.R_elder' (by (with_reducible repeat (first | apply Kd.R_alloc | apply Kd.R_drewN | apply Kd.R_drew)); exact HO688.out) (Kd.R_base ho0) hb)
  have n5_ := Aside0.mk (Kd.S_elder' (by (with_reducible repeat (first | apply Kd.S_alloc | apply Kd.S_drewN | apply Kd.S_drew)); exact HO691.out) (Kd.S_base ho1) hb)
  have n6_ := Aside0.mk (Kd.R_elder' (by (with_reducible repeat (first | apply Kd.R_alloc | apply Kd.R_drewN | apply Kd.R_drew)); exact HO695.out) (Kd.R_base ho0) hb)
  have n7_ := Aside0.mk (Kd.S_elder' (by (with_reducible repeat (first | apply Kd.S_alloc | apply Kd.S_drewN | apply Kd.S_drew)); exact HO698.out) (Kd.S_base ho1) hb)
  have n8_ := Aside0.mk (Kd.R_lower (Kd.R_new' (Kd.R_new' (Kd.R_new' (Kd.R_new' (Kd.R_new' ho0 (Kd.R_lt (by (with_reducible repeat (first | apply Kd.R_alloc | apply Kd.R_drewN | apply Kd.R_drew)); exact HO_7.out))) (Kd.R_lt (by (with_reducible repeat (first | apply Kd.R_alloc | apply Kd.R_drewN | apply Kd.R_drew)); exact HO_8.out))) (Kd.R_lt (by (with_reducible repeat (first | apply Kd.R_alloc | apply Kd.R_drewN | apply Kd.R_drew)); exact HO681.out))) (Kd.R_lt (by (with_reducible repeat (first | apply Kd.R_alloc | apply Kd.R_drewN | apply Kd.R_drew)); exact HO688.out))) (Kd.R_lt (by (with_reducible repeat (first | apply Kd.R_alloc | apply Kd.R_drewN | apply Kd.R_drew)); exact HO695.out))) (below_size (by repeat (first | (with_reducible first | exact HB.out | apply below_alloc | apply pw_below_drewN | apply below_drew1 | refine below_set ?_ GE641.out) | exact HB.out))))
  have n9_ := Aside0.mk (Kd.S_lower (Kd.S_new' (Kd.S_new' (Kd.S_new' ho1 (Kd.S_lt (by (with_reducible repeat (first | apply Kd.S_alloc | apply Kd.S_drewN | apply Kd.S_drew)); exact HO684.out))) (Kd.S_lt (by (with_reducible repeat (first | apply Kd.S_alloc | apply Kd.S_drewN | apply Kd.S_drew)); exact HO691.out))) (Kd.S_lt (by (with_reducible repeat (first | apply Kd.S_alloc | apply Kd.S_drewN | apply Kd.S_drew)); exact HO698.out))) (below_size (by repeat (first | (with_reducible first | exact HB.out | apply below_alloc | apply pw_below_drewN | apply below_drew1 | refine below_set ?_ GE641.out) | exact HB.out))))
  have n10_ := Aside0.mk (blk_below (g := gb641) (o := .cells #[.slice A0_0 l0_0.length c0_0, .slice A0_1 l0_1.length c0_1] 25 (0, 0)) (by (with_reducible repeat (first | refine blk_drewN ?_ _ | refine blk_drew ?_ | refine blk_alloc ?_ _)); exact BK641.out) hb)
  have n11_ := Aside0.mk (below_step (by repeat (first | (with_reducible first | exact HB.out | apply below_alloc | apply pw_below_drewN | apply below_drew1 | refine below_set ?_ GE641.out) | exact HB.out)) hb)
  clear HO_7
  clear HO_8
  clear HO681
  clear HO684
  clear HO688
  clear HO691
  clear HO695
  clear HO698
  clear BK641
  clear HB
  have HO_7 := n0_
  have HO_8 := n1_
  have HO681 := n2_
  have HO684 := n3_
  have HO688 := n4_
  have HO691 := n5_
  have HO695 := n6_
  have HO698 := n7_
  have HO701 := n8_
  have HO704 := n9_
  have BK641 := n10_
  have HB := n11_
  clear n0_ n1_ n2_ n3_ n4_ n5_ n6_ n7_ n8_ n9_ n10_ n11_
  (try clear hb)
  (try clear hb2)
  (try clear hk)
  (try clear hi)
  (try clear ho0)
  (try clear ho1)
  obtain ⟨Ao67, co67, eo67⟩ := Kd.R_slice HO695.out
  (first | subst eo67 | (injection eo67 with f1_ f2_ f3_; have f4_ := f1_.symm; have f5_ := f3_.symm; clear f1_ f2_ f3_; subst f4_; subst f5_))
  obtain ⟨Ao68, co68, eo68⟩ := Kd.S_slice HO698.out
  (first | subst eo68 | (injection eo68 with f1_ f2_ f3_; have f4_ := f1_.symm; have f5_ := f3_.symm; clear f1_ f2_ f3_; subst f4_; subst f5_))
  obtain ⟨Ao69, co69, eo69⟩ := Kd.R_slice HO701.out
  (first | subst eo69 | (injection eo69 with f1_ f2_ f3_; have f4_ := f1_.symm; have f5_ := f3_.symm; clear f1_ f2_ f3_; subst f4_; subst f5_))
  obtain ⟨Ao70, co70, eo70⟩ := Kd.S_slice HO704.out
  (first | subst eo70 | (injection eo70 with f1_ f2_ f3_; have f4_ := f1_.symm; have f5_ := f3_.symm; clear f1_ f2_ f3_; subst f4_; subst f5_))
  refine hK.out _ _ ⟨(blk_cell BK641.out 0).trans rfl, (blk_cell BK641.out 1).trans rfl⟩ (fun hHeld => ?_)
  clear hK K
  refine norm_ (a' := ?_) ?_ ?_
  rotate_left
  ·show Act.put _ (some 79) _ = _
   simp only [Act.put, List.setIfInBounds_toArray, List.set_cons_zero, List.set_cons_succ, i64_w, i32_w]
   rfl
  refine one_ (i := 21) (N := some 80) (lb_ 24 4194303) rfl rfl (one_of HT_.out (by kernel_rfl)) (by decide) (fun K hK => ?_)
  refine goes_ Try.func21 (by kernel_rfl) rfl #[.agg #[.slice Ao67 t693.length co67, .slice Ao68 t696.length co68], .agg #[.slice Ao69 t699.length co69, .slice Ao70 t702.length co70]] (by rfl) rfl rfl (by (try simp only [List.map_toArray, List.map_cons, List.map_nil]); first | done | rfl | (simp only [List.length_drop, List.length_take]; rfl)) ?_
  with_reducible refine (fencepostref07_Same.calls k2 _ _ t693 _ _ t696 _ _ t699 _ _ t702 t705 _ ?side1 ?side2 ?side3 ?side4 ?side5 ?side6 ?side7 ?side8 A53.out).mono ?_
  (case side1 => repeat (first | exact (Kd.R_reads' HO695.out).2.2 | (with_reducible refine Kd.C_alloc ?_ _) | (with_reducible refine Kd.C_drewN ?_ _) | (with_reducible refine Kd.C_drew ?_)))
  (case side2 => exact (Kd.R_reads' HO695.out).2.1)
  (case side3 => repeat (first | exact (Kd.S_reads' HO698.out).2.2 | (with_reducible refine Kd.C_alloc ?_ _) | (with_reducible refine Kd.C_drewN ?_ _) | (with_reducible refine Kd.C_drew ?_)))
  (case side4 => exact (Kd.S_reads' HO698.out).2.1)
  (case side5 => repeat (first | exact (Kd.R_reads' HO701.out).2.2 | (with_reducible refine Kd.C_alloc ?_ _) | (with_reducible refine Kd.C_drewN ?_ _) | (with_reducible refine Kd.C_drew ?_)))
  (case side6 => exact (Kd.R_reads' HO701.out).2.1)
  (case side7 => repeat (first | exact (Kd.S_reads' HO704.out).2.2 | (with_reducible refine Kd.C_alloc ?_ _) | (with_reducible refine Kd.C_drewN ?_ _) | (with_reducible refine Kd.C_drew ?_)))
  (case side8 => exact (Kd.S_reads' HO704.out).2.1)
  rintro e w71 ⟨rfl, hb⟩
  refine ⟨_, rfl, ?_⟩
  have n0_ := Aside0.mk (Kd.R_below (by (with_reducible repeat (first | apply Kd.R_alloc | apply Kd.R_drewN | apply Kd.R_drew)); exact HO_7.out) hb)
  have n1_ := Aside0.mk (Kd.R_below (by (with_reducible repeat (first | apply Kd.R_alloc | apply Kd.R_drewN | apply Kd.R_drew)); exact HO_8.out) hb)
  have n2_ := Aside0.mk (Kd.R_below (by (with_reducible repeat (first | apply Kd.R_alloc | apply Kd.R_drewN | apply Kd.R_drew)); exact HO681.out) hb)
  have n3_ := Aside0.mk (Kd.S_below (by (with_reducible repeat (first | apply Kd.S_alloc | apply Kd.S_drewN | apply Kd.S_drew)); exact HO684.out) hb)
  have n4_ := Aside0.mk (Kd.R_below (by (with_reducible repeat (first | apply Kd.R_alloc | apply Kd.R_drewN | apply Kd.R_drew)); exact HO688.out) hb)
  have n5_ := Aside0.mk (Kd.S_below (by (with_reducible repeat (first | apply Kd.S_alloc | apply Kd.S_drewN | apply Kd.S_drew)); exact HO691.out) hb)
  have n6_ := Aside0.mk (Kd.R_below (by (with_reducible repeat (first | apply Kd.R_alloc | apply Kd.R_drewN | apply Kd.R_drew)); exact HO695.out) hb)
  have n7_ := Aside0.mk (Kd.S_below (by (with_reducible repeat (first | apply Kd.S_alloc | apply Kd.S_drewN | apply Kd.S_drew)); exact HO698.out) hb)
  have n8_ := Aside0.mk (Kd.R_below (by (with_reducible repeat (first | apply Kd.R_alloc | apply Kd.R_drewN | apply Kd.R_drew)); exact HO701.out) hb)
  have n9_ := Aside0.mk (Kd.S_below (by (with_reducible repeat (first | apply Kd.S_alloc | apply Kd.S_drewN | apply Kd.S_drew)); exact HO704.out) hb)
  have n10_ := Aside0.mk (blk_below (g := gb641) (o := .cells #[.slice A0_0 l0_0.length c0_0, .slice A0_1 l0_1.length c0_1] 25 (0, 0)) (by (with_reducible repeat (first | refine blk_drewN ?_ _ | refine blk_drew ?_ | refine blk_alloc ?_ _)); exact BK641.out) hb)
  have n11_ := Aside0.mk (below_step (by repeat (first | (with_reducible first | exact HB.out | apply below_alloc | apply pw_below_drewN | apply below_drew1 | refine below_set ?_ GE641.out) | exact HB.out)) hb)
  clear HO_7
  clear HO_8
  clear HO681
  clear HO684
  clear HO688
  clear HO691
  clear HO695
  clear HO698
  clear HO701
  clear HO704
  clear BK641
  clear HB
  have HO_7 := n0_
  have HO_8 := n1_
  have HO681 := n2_
  have HO684 := n3_
  have HO688 := n4_
  have HO691 := n5_
  have HO695 := n6_
  have HO698 := n7_
  have HO701 := n8_
  have HO704 := n9_
  have BK641 := n10_
  have HB := n11_
  clear n0_ n1_ n2_ n3_ n4_ n5_ n6_ n7_ n8_ n9_ n10_ n11_
  (try clear hb)
  (try clear hb2)
  (try clear hk)
  (try clear hi)
  refine hK.out _ _ ⟨(blk_cell BK641.out 0).trans rfl, (blk_cell BK641.out 1).trans rfl⟩ (fun hHeld => ?_)
  clear hK K
  refine norm_ (a' := ?_) ?_ ?_
  rotate_left
  ·show Act.put _ (some 80) _ = _
   simp only [Act.put, List.setIfInBounds_toArray, List.set_cons_zero, List.set_cons_succ, i64_w, i32_w]
   rfl
  refine pure_ (i := 22) (N := some 81) (v := ?_) (a' := ?_) (lb_ 24 8388607) rfl rfl (any_of HT_.out (by kernel_rfl)) (fun _ _ _ h => h) (Or.inl ⟨by rfl, ?_⟩) ?_ ?_; rotate_left; intro w'; go_simp; with_reducible rfl; rotate_left; simp only [Act.put, List.setIfInBounds_toArray, List.set_cons_zero, List.set_cons_succ, i64_w, i32_w]; rfl
  refine pure_ (i := 23) (N := some 4) (v := ?_) (a' := ?_) (lb_ 24 16777215) rfl rfl (any_of HT_.out (by kernel_rfl)) (fun _ _ _ h => h) (Or.inl ⟨by rfl, ?_⟩) ?_ ?_; rotate_left; intro w'; go_simp; with_reducible rfl; rotate_left; simp only [Act.put, List.setIfInBounds_toArray, List.set_cons_zero, List.set_cons_succ, i64_w, i32_w]; rfl
  refine done_ (done_of HT_.out (by kernel_rfl)) ?_
  try go_wp2
  go_ret
  exact ⟨by first | rfl | (simp [errW_none, errW_some] <;> rfl) | (simp [*, errW_none, errW_some] <;> rfl), by repeat (first | (with_reducible first | exact HB.out | apply below_alloc | apply pw_below_drewN | apply below_drew1 | refine below_set ?_ GE641.out) | exact HB.out)⟩
 rw [if_pos c17] at H
 have c17b0 : decide (0 ≤ x9_2) = true := decide_eq_true c17
 clear c17
 by_cases c18 : 0 ≤ x9_2
 rotate_left
 ·rw [if_neg c18] at H
  exact absurd H (by simp)
 rw [if_pos c18] at H
 have c18b0 : decide (0 ≤ x9_2) = true := decide_eq_true c18
 clear c18
 by_cases c19 : x9_2 < (l1.length : Int)
 rotate_left
 ·rw [if_neg c19] at H
  exact absurd H (by simp)
 rw [if_pos c19] at H
 have c19b0 : decide (x9_2 < (l1.length : Int)) = true := decide_eq_true c19
 clear c19
 by_cases c20 : (rd l1 x9_2) < 0
 ·rw [if_pos c20] at H
  have c20b0 : decide ((rd l1 x9_2) < 0) = true := decide_eq_true c20
  clear c20
  by_cases c21 : x7_2.length < 17592186044416
  rotate_left
  ·rw [if_neg c21] at H
   exact absurd H (by simp)
  rw [if_pos c21] at H
  have LMc21 := Aside0.mk c21
  clear c21
  obtain ⟨y647, hy647⟩ : ∃ y_ : List Int, y_ = (x7_2 ++ [rd l1 x9_2]) := ⟨_, rfl⟩
  replace H : ((some (([rd l1 x9_2, rd l1 x9_2] : List Int) : List Int)).bind fun y652 => (if x8_2.length + y652.length < 17592186044416 then (fencepostlaw08_SlotsNone.l0 k2 l1 t642 t644 y647 (x8_2 ++ y652) (wrap64 (x9_2 - 1)) l0_0 l0_1) else (none))) = some r := by first | (rw [hy647]; with_reducible exact H) | (have H2_ := (Option.bind_some _ _).symm.trans H; rw [hy647]; with_reducible exact H2_) | (have H2_ := (Option.bind_some _ _).symm.trans H; with_reducible exact H2_) | with_reducible exact H | (rw [hy647]; exact H) | exact H
  have Ny647 := Aside0.mk hy647
  clear hy647
  obtain ⟨y652, hy652⟩ : ∃ y_ : List Int, y_ = (([rd l1 x9_2, rd l1 x9_2] : List Int)) := ⟨_, rfl⟩
  replace H : (if x8_2.length + y652.length < 17592186044416 then (fencepostlaw08_SlotsNone.l0 k2 l1 t642 t644 y647 (x8_2 ++ y652) (wrap64 (x9_2 - 1)) l0_0 l0_1) else (none)) = some r := by first | (rw [hy652]; with_reducible exact H) | (have H2_ := (Option.bind_some _ _).symm.trans H; rw [hy652]; with_reducible exact H2_) | (have H2_ := (Option.bind_some _ _).symm.trans H; with_reducible exact H2_) | with_reducible exact H | (rw [hy652]; exact H) | exact H
  have Ny652 := Aside0.mk hy652
  clear hy652
  by_cases c22 : x8_2.length + y652.length < 17592186044416
  rotate_left
  ·rw [if_neg c22] at H
   exact absurd H (by simp)
  rw [if_pos c22] at H
  have LMc22 := Aside0.mk c22
  clear c22
  obtain ⟨y655, hy655⟩ : ∃ y_ : List Int, y_ = (x8_2 ++ y652) := ⟨_, rfl⟩
  replace H : (fencepostlaw08_SlotsNone.l0 k2 l1 t642 t644 y647 y655 (wrap64 (x9_2 - 1)) l0_0 l0_1) = some r := by first | (rw [hy655]; with_reducible exact H) | (have H2_ := (Option.bind_some _ _).symm.trans H; rw [hy655]; with_reducible exact H2_) | (have H2_ := (Option.bind_some _ _).symm.trans H; with_reducible exact H2_) | with_reducible exact H | (rw [hy655]; exact H) | exact H
  have Ny655 := Aside0.mk hy655
  clear hy655
  have H' := Aside0.mk H
  clear H
  have p645 : 0 ≤ (x9_2 : Int) := of_decide_eq_true (by first | (with_reducible assumption) | assumption)
  have q645 : x9_2 < (l1.length : Int) := of_decide_eq_true (by first | (with_reducible assumption) | assumption)
  obtain ⟨ad645, e645, hx645_0⟩ := Kd.at_int HR1.out x9_2 p645 q645
  cases e645
  replace hx645_0 := (HB.out.cell (World.block_lt_of_cell? w _ hx645_0)).trans hx645_0
  replace p645 := eq_true p645
  replace q645 := eq_true q645
  have p646 : 0 ≤ (x9_2 : Int) := of_decide_eq_true (by first | (with_reducible assumption) | assumption)
  have q646 : x9_2 < (l1.length : Int) := of_decide_eq_true (by first | (with_reducible assumption) | assumption)
  obtain ⟨ad646, e646, hx646_0⟩ := Kd.at_int HR1.out x9_2 p646 q646
  obtain rfl : ad645 = ad646 := (by injection e646)
  replace hx646_0 := (HB.out.cell (World.block_lt_of_cell? w _ hx646_0)).trans hx646_0
  replace p646 := eq_true p646
  replace q646 := eq_true q646
  try go_wp2_with (first | ((with_reducible refine gate_builtin (b := .append) (xs := #[.tmp 41, .tmp 46]) rfl ?_); (try (refine gate_guard (by rfl) ?_; dsimp only)); at_builtin; refine Kd.R_append (Kd.int .i64) (w0 := w) w.heap.size rfl (.tmp 41) (.tmp 46) 22 3 (.int .i64 0) 8 rfl Try.underlying22 info3 rfl (by decide) (by omega) u7 x7_2 (rd l1 x9_2) [.int .i64 (rd l1 x9_2)] (fun k_ => some k_ ≠ (u8 : Value).ownBlock) (fun _ => False) rfl rfl ?aP (fun _ hk => hk.elim) ?aF ?aO ?aB ?aS ?aL ?_; (case aP => exact rfl); (case aB => exact (by repeat (first | (with_reducible first | exact HB.out | apply below_alloc | apply pw_below_drewN | apply below_drew1 | refine below_set ?_ GE641.out) | exact HB.out))); (case aF => exact (fun k_ hk => Kd.fresh' (Kd.R_lt (by (with_reducible repeat (first | apply Kd.R_alloc | apply Kd.R_drewN | apply Kd.R_drew)); exact HO_8.out)) k_ hk)); (case aO => exact (by (with_reducible repeat (first | apply Kd.R_alloc | apply Kd.R_drewN | apply Kd.R_drew)); exact HO_7.out)); (case aS => exact (below_size (by repeat (first | (with_reducible first | exact HB.out | apply below_alloc | apply pw_below_drewN | apply below_drew1 | refine below_set ?_ GE641.out) | exact HB.out)))); (case aL => have := LMc21.out; omega); intro v648 w23 ho hb hg hat; rw [← Ny647.out] at ho; have n0_ := Aside0.mk (Kd.R_after (ok := (fun _ => True)) (by (with_reducible repeat (first | apply Kd.R_alloc | apply Kd.R_drewN | apply Kd.R_drew)); exact Kd.R_mono HO_8.out (fun _ hk => ⟨trivial, hk⟩)) hg hat); have n1_ := Aside0.mk (blk_grown (g := gb641) (o := .cells #[.slice A0_0 l0_0.length c0_0, .slice A0_1 l0_1.length c0_1] 25 (0, 0)) (by (with_reducible repeat (first | refine blk_drewN ?_ _ | refine blk_drew ?_ | refine blk_alloc ?_ _)); exact BK641.out) hg (Kd.R_ne HO_7.out BK641.out (by decide))); have n2_ := Aside0.mk (hb); have n3_ := Aside0.mk (ho); clear HO_8; clear BK641; clear HB; clear HO_7; have HO_8 := n0_; have BK641 := n1_; have HB := n2_; have HO649 := n3_; clear n0_ n1_ n2_ n3_; clear ho hb hg hat))
  have n0_ := Aside0.mk (Kd.R_drew HO_8.out)
  have n1_ := Aside0.mk (Kd.R_drew HO649.out)
  have n2_ := Aside0.mk (blk_drew BK641.out)
  have n3_ := Aside0.mk (below_drew1 HB.out)
  clear HO_8
  clear HO649
  clear BK641
  clear HB
  have HO_8 := n0_
  have HO649 := n1_
  have BK641 := n2_
  have HB := n3_
  clear n0_ n1_ n2_ n3_
  have p650 : 0 ≤ (x9_2 : Int) := of_decide_eq_true (by first | (with_reducible assumption) | assumption)
  have q650 : x9_2 < (l1.length : Int) := of_decide_eq_true (by first | (with_reducible assumption) | assumption)
  obtain ⟨ad650, e650, hx650_0⟩ := Kd.at_int HR1.out x9_2 p650 q650
  have hw650_0 := hx650_0
  obtain rfl : ad645 = ad650 := (by injection e650)
  replace hx650_0 := (HB.out.cell (World.block_lt_of_cell? w _ hx650_0)).trans hx650_0
  replace p650 := eq_true p650
  replace q650 := eq_true q650
  have p651 : 0 ≤ (x9_2 : Int) := of_decide_eq_true (by first | (with_reducible assumption) | assumption)
  have q651 : x9_2 < (l1.length : Int) := of_decide_eq_true (by first | (with_reducible assumption) | assumption)
  obtain ⟨ad651, e651, hx651_0⟩ := Kd.at_int HR1.out x9_2 p651 q651
  have hw651_0 := hx651_0
  obtain rfl : ad645 = ad651 := (by injection e651)
  replace hx651_0 := (HB.out.cell (World.block_lt_of_cell? w _ hx651_0)).trans hx651_0
  replace p651 := eq_true p651
  replace q651 := eq_true q651
  refine start_ (n := 12) (S := fun w' => w'.cell? (ad645.add (x9_2).toNat) = some (.int .i64 (rd l1 x9_2)) ∧ w'.cell? (ad645.add (x9_2).toNat) = some (.int .i64 (rd l1 x9_2))) (ds := []) (lb_ 12 0) (by kernel_rfl) rfl rfl ⟨((HB.out.cell (World.block_lt_of_cell? w _ hw650_0)).trans hw650_0), ((HB.out.cell (World.block_lt_of_cell? w _ hw651_0)).trans hw651_0)⟩ (fun hHeld => ?_); refine with_tabW fencepostlaw08_SlotsNone.tab12 fencepostlaw08_SlotsNone.bits12 (fun HT_ HW_ => ?_)
  generalize w23.drew = w24 at HO_8 HO649 BK641 HB hx650_0 hx651_0 hHeld ⊢
  refine pure_ (i := 0) (N := some 48) (v := ?_) (a' := ?_) (lb_ 12 1) rfl rfl (any_of HT_.out (by kernel_rfl)) (fun _ _ _ h => h) (Or.inl ⟨by rfl, ?_⟩) ?_ ?_; rotate_left; intro w'; go_simp; with_reducible rfl; rotate_left; simp only [Act.put, List.setIfInBounds_toArray, List.set_cons_zero, List.set_cons_succ, i64_w, i32_w]; rfl
  refine pure_ (i := 1) (N := some 49) (v := ?_) (a' := ?_) (lb_ 12 3) rfl rfl (any_of HT_.out (by kernel_rfl)) (fun _ _ _ h => h) (Or.inl ⟨by rfl, ?_⟩) ?_ ?_; rotate_left; intro w'; go_simp; with_reducible rfl; rotate_left; simp only [Act.put, List.setIfInBounds_toArray, List.set_cons_zero, List.set_cons_succ, i64_w, i32_w]; rfl
  refine pure_ (i := 2) (N := some 50) (v := ?_) (a' := ?_) (lb_ 12 7) rfl rfl (any_of HT_.out (by kernel_rfl)) (fun _ _ _ h => h) (Or.inl ⟨by rfl, ?_⟩) ?_ ?_; rotate_left; intro w'; go_simp; with_reducible rfl; rotate_left; simp only [Act.put, List.setIfInBounds_toArray, List.set_cons_zero, List.set_cons_succ, i64_w, i32_w]; rfl
  refine pure_ (i := 3) (N := some 51) (v := ?_) (a' := ?_) (lb_ 12 15) rfl rfl (any_of HT_.out (by kernel_rfl)) (fun _ _ _ h => h) (Or.inl ⟨by rfl, ?_⟩) ?_ ?_; rotate_left; intro w'; go_simp; with_reducible rfl; rotate_left; simp only [Act.put, List.setIfInBounds_toArray, List.set_cons_zero, List.set_cons_succ, i64_w, i32_w]; rfl
  refine pure_ (i := 5) (N := some 53) (v := ?_) (a' := ?_) (lb_ 12 47) rfl rfl (any_of HT_.out (by kernel_rfl)) (fun _ _ _ h => h) (Or.inl ⟨by rfl, ?_⟩) ?_ ?_; rotate_left; intro w'; go_simp; with_reducible rfl; rotate_left; simp only [Act.put, List.setIfInBounds_toArray, List.set_cons_zero, List.set_cons_succ, i64_w, i32_w]; rfl
  refine pure_ (i := 6) (N := some 54) (v := ?_) (a' := ?_) (lb_ 12 111) rfl rfl (any_of HT_.out (by kernel_rfl)) (fun _ _ _ h => h) (Or.inl ⟨by rfl, ?_⟩) ?_ ?_; rotate_left; intro w'; go_simp; with_reducible rfl; rotate_left; simp only [Act.put, List.setIfInBounds_toArray, List.set_cons_zero, List.set_cons_succ, i64_w, i32_w]; rfl
  refine pure_ (i := 7) (N := some 55) (v := ?_) (a' := ?_) (lb_ 12 239) rfl rfl (any_of HT_.out (by kernel_rfl)) (fun _ _ _ h => h) (Or.inl ⟨by rfl, ?_⟩) ?_ ?_; rotate_left; intro w'; go_simp; with_reducible rfl; rotate_left; simp only [Act.put, List.setIfInBounds_toArray, List.set_cons_zero, List.set_cons_succ, i64_w, i32_w]; rfl
  refine take_ (i := 4) (N := some 52) (v := ?_) (a' := ?_) (lb_ 12 255) rfl rfl (take_ofW HT_.out HW_.out (by kernel_rfl)) (fun _ _ _ h => h) (Or.inl ⟨by rfl, ?_⟩) hHeld ?_ ?_; rotate_left; rintro w' ⟨s0, s1⟩; go_simp; with_reducible rfl; rotate_left; simp only [Act.put, List.setIfInBounds_toArray, List.set_cons_zero, List.set_cons_succ, i64_w, i32_w]; rfl
  refine take_ (i := 8) (N := some 56) (v := ?_) (a' := ?_) (lb_ 12 511) rfl rfl (take_ofW HT_.out HW_.out (by kernel_rfl)) (fun _ _ _ h => h) (Or.inl ⟨by rfl, ?_⟩) hHeld ?_ ?_; rotate_left; rintro w' ⟨s0, s1⟩; go_simp; with_reducible rfl; rotate_left; simp only [Act.put, List.setIfInBounds_toArray, List.set_cons_zero, List.set_cons_succ, i64_w, i32_w]; rfl
  refine one_ (i := 9) (N := some 57) (lb_ 12 1023) rfl rfl (one_of HT_.out (by kernel_rfl)) (by decide) (fun K hK => ?_)
  refine Kd.R_lit_step (Kd.int .i64) _ 3 ?hg (N := 57) ?hd (xs := ([rd l1 x9_2, rd l1 x9_2] : List Int)) (inner := [.int .i64 (rd l1 x9_2), .int .i64 (rd l1 x9_2)]) (ok := fun _ => True) (okp := fun _ => True) ?hr ?hp (fun _ hk => hk) trivial (Below.refl _ _) (Nat.le_refl _) (by simp) ?_; (case hd => rfl); (case hg => rfl); (case hr => first | (go_simp; done) | (go_simp; rfl)); (case hp => exact (Reps.one (show Kd.M (Kd.int .i64) _ _ _ (rd l1 x9_2) [.int .i64 (rd l1 x9_2)] from rfl) (Reps.one (show Kd.M (Kd.int .i64) _ _ _ (rd l1 x9_2) [.int .i64 (rd l1 x9_2)] from rfl) (Reps.none _ _))))
  intro v653 w25 ho26 hb hg_ hnew_
  clear hg_ hnew_
  (first | rw [← Ny652.out] at ho26 | (simp only [Int.reduceToNat] at ho26; rw [← Ny652.out] at ho26))
  have n0_ := Aside0.mk (Kd.R_elder' (by (with_reducible repeat (first | apply Kd.R_alloc | apply Kd.R_drewN | apply Kd.R_drew)); exact HO_8.out) (Kd.R_base ho26) hb)
  have n1_ := Aside0.mk (Kd.R_elder' (by (with_reducible repeat (first | apply Kd.R_alloc | apply Kd.R_drewN | apply Kd.R_drew)); exact HO649.out) (Kd.R_base ho26) hb)
  have n2_ := Aside0.mk (Kd.R_lower (Kd.R_new' (Kd.R_new' ho26 (Kd.R_lt (by (with_reducible repeat (first | apply Kd.R_alloc | apply Kd.R_drewN | apply Kd.R_drew)); exact HO_8.out))) (Kd.R_lt (by (with_reducible repeat (first | apply Kd.R_alloc | apply Kd.R_drewN | apply Kd.R_drew)); exact HO649.out))) (below_size (by repeat (first | (with_reducible first | exact HB.out | apply below_alloc | apply pw_below_drewN | apply below_drew1 | refine below_set ?_ GE641.out) | exact HB.out))))
  have n3_ := Aside0.mk (blk_below (g := gb641) (o := .cells #[.slice A0_0 l0_0.length c0_0, .slice A0_1 l0_1.length c0_1] 25 (0, 0)) (by (with_reducible repeat (first | refine blk_drewN ?_ _ | refine blk_drew ?_ | refine blk_alloc ?_ _)); exact BK641.out) hb)
  have n4_ := Aside0.mk (below_step (by repeat (first | (with_reducible first | exact HB.out | apply below_alloc | apply pw_below_drewN | apply below_drew1 | refine below_set ?_ GE641.out) | exact HB.out)) hb)
  clear HO_8
  clear HO649
  clear BK641
  clear HB
  have HO_8 := n0_
  have HO649 := n1_
  have HO654 := n2_
  have BK641 := n3_
  have HB := n4_
  clear n0_ n1_ n2_ n3_ n4_
  clear hb ho26
  obtain ⟨Ao28, co28, eo28⟩ := Kd.R_slice HO654.out
  (first | subst eo28 | (injection eo28 with f1_ f2_ f3_; have f4_ := f1_.symm; have f5_ := f3_.symm; clear f1_ f2_ f3_; subst f4_; subst f5_))
  refine hK.out _ _ ⟨((HB.out.cell (World.block_lt_of_cell? w _ hw650_0)).trans hw650_0), ((HB.out.cell (World.block_lt_of_cell? w _ hw651_0)).trans hw651_0)⟩ (fun hHeld => ?_)
  clear hK K
  refine norm_ (a' := ?_) ?_ ?_
  rotate_left
  ·show Act.put _ (some 57) _ = _
   simp only [Act.put, List.setIfInBounds_toArray, List.set_cons_zero, List.set_cons_succ, i64_w, i32_w]
   rfl
  refine one_ (i := 10) (N := some 58) (lb_ 12 2047) rfl rfl (one_of HT_.out (by kernel_rfl)) (by decide) (fun K hK => ?_)
  refine Kd.R_append_rows_step (Kd.int .i64) (w0 := w) w.heap.size (by rfl) (.tmp 48) (.tmp 57) 22 3 (.int .i64 0) 8 rfl Try.underlying22 info3 rfl (by decide) (by omega) u8 x8_2 y652 _ _ _ (fun k_ => some k_ ≠ (v648 : Value).ownBlock ∧ some k_ ≠ (.slice Ao28 y652.length co28 : Value).ownBlock) (fun _ => False) rfl rfl ?aO ?aR (fun _ _ h => h) (fun _ h => h.elim) ?aF ?aB ?aS ?aL ?_
  (case aR => repeat (first | exact (Kd.R_reads' HO654.out).2.2 | (with_reducible refine Kd.C_alloc ?_ _) | (with_reducible refine Kd.C_drewN ?_ _) | (with_reducible refine Kd.C_drew ?_)))
  (case aB => exact (by repeat (first | (with_reducible first | exact HB.out | apply below_alloc | apply pw_below_drewN | apply below_drew1 | refine below_set ?_ GE641.out) | exact HB.out)))
  (case aF => exact (fun k_ hk => ⟨Kd.fresh' (Kd.R_lt (by (with_reducible repeat (first | apply Kd.R_alloc | apply Kd.R_drewN | apply Kd.R_drew)); exact HO649.out)) k_ hk, Kd.fresh' (Kd.R_lt (by (with_reducible repeat (first | apply Kd.R_alloc | apply Kd.R_drewN | apply Kd.R_drew)); exact HO654.out)) k_ hk⟩))
  (case aO => exact (by (with_reducible repeat (first | apply Kd.R_alloc | apply Kd.R_drewN | apply Kd.R_drew)); exact Kd.R_mono HO_8.out (fun _ hk => ⟨hk.1.2, hk.2⟩)))
  (case aS => exact (below_size (by repeat (first | (with_reducible first | exact HB.out | apply below_alloc | apply pw_below_drewN | apply below_drew1 | refine below_set ?_ GE641.out) | exact HB.out))))
  (case aL => have := LMc22.out; omega)
  intro v656 w27 ho hb hg hat
  rw [← Ny655.out] at ho
  have n0_ := Aside0.mk (blk_grown (g := gb641) (o := .cells #[.slice A0_0 l0_0.length c0_0, .slice A0_1 l0_1.length c0_1] 25 (0, 0)) (by (with_reducible repeat (first | refine blk_drewN ?_ _ | refine blk_drew ?_ | refine blk_alloc ?_ _)); exact BK641.out) hg (Kd.R_ne HO_8.out BK641.out (by decide)))
  have n1_ := Aside0.mk (Kd.R_after (ok := (fun k_ => some k_ ≠ (.slice Ao28 y652.length co28 : Value).ownBlock)) (by (with_reducible repeat (first | apply Kd.R_alloc | apply Kd.R_drewN | apply Kd.R_drew)); exact Kd.R_mono HO649.out (fun _ hk => ⟨hk.2, hk.1⟩)) hg hat)
  have n2_ := Aside0.mk (Kd.R_after (ok := (fun k_ => some k_ ≠ (v648 : Value).ownBlock)) (by (with_reducible repeat (first | apply Kd.R_alloc | apply Kd.R_drewN | apply Kd.R_drew)); exact Kd.R_mono HO654.out (fun _ hk => ⟨hk.2, hk.1.2⟩)) hg hat)
  have n3_ := Aside0.mk (hb)
  have n4_ := Aside0.mk (ho)
  clear BK641
  clear HO649
  clear HO654
  clear HB
  clear HO_8
  have BK641 := n0_
  have HO649 := n1_
  have HO654 := n2_
  have HB := n3_
  have HO657 := n4_
  clear n0_ n1_ n2_ n3_ n4_
  clear ho hb hg hat
  refine hK.out _ _ ⟨((HB.out.cell (World.block_lt_of_cell? w _ hw650_0)).trans hw650_0), ((HB.out.cell (World.block_lt_of_cell? w _ hw651_0)).trans hw651_0)⟩ (fun hHeld => ?_)
  clear hK K
  refine norm_ (a' := ?_) ?_ ?_
  rotate_left
  ·show Act.put _ (some 58) _ = _
   simp only [Act.put, List.setIfInBounds_toArray, List.set_cons_zero, List.set_cons_succ, i64_w, i32_w]
   rfl
  refine pure_ (i := 11) (N := some 8) (v := ?_) (a' := ?_) (lb_ 12 4095) rfl rfl (any_of HT_.out (by kernel_rfl)) (fun _ _ _ h => h) (Or.inl ⟨by rfl, ?_⟩) ?_ ?_; rotate_left; intro w'; go_simp; with_reducible rfl; rotate_left; simp only [Act.put, List.setIfInBounds_toArray, List.set_cons_zero, List.set_cons_succ, i64_w, i32_w]; rfl
  refine done_ (done_of HT_.out (by kernel_rfl)) ?_
  try go_wp2
  go_roundg k2
  case measure => have := HJ3.out; have := HK2.out; omega
  case rel => exact ⟨(y647), (y655), (wrap64 (x9_2 - 1)), (by first | rfl | (simp; done) | (simp [*]; done)), H', ⟨by have := HJ3.out; have := HK2.out; omega⟩, ⟨by (with_reducible repeat (first | apply Kd.R_alloc | apply Kd.R_drewN | apply Kd.R_drew)); exact Kd.R_mono HO649.out (fun _ hk => hk.2)⟩, ⟨by (with_reducible repeat (first | apply Kd.R_alloc | apply Kd.R_drewN | apply Kd.R_drew)); exact Kd.R_mono HO657.out (fun _ hk => hk.1)⟩, ⟨by (with_reducible repeat (first | refine blk_drewN ?_ _ | refine blk_drew ?_ | refine blk_alloc ?_ _)); exact BK641.out⟩, ⟨by repeat (first | (with_reducible first | exact HB.out | apply below_alloc | apply pw_below_drewN | apply below_drew1 | refine below_set ?_ GE641.out) | exact HB.out)⟩⟩
 rw [if_neg c20] at H
 have c20b0 : decide ((rd l1 x9_2) < 0) = false := decide_eq_false c20
 clear c20
 by_cases c29 : (rd l1 x9_2) ≥ t644
 rotate_left
 ·rw [if_neg c29] at H
  have c29b0 : decide (t644 ≤ (rd l1 x9_2)) = false := decide_eq_false c29
  clear c29
  obtain ⟨y673, hy673⟩ : ∃ y_ : List Int, y_ = (([rd l1 x9_2, rd l1 x9_2] : List Int)) := ⟨_, rfl⟩
  replace H : (if x8_2.length + y673.length < 17592186044416 then (fencepostlaw08_SlotsNone.l0 k2 l1 t642 t644 x7_2 (x8_2 ++ y673) (wrap64 (x9_2 - 1)) l0_0 l0_1) else (none)) = some r := by first | (rw [hy673]; with_reducible exact H) | (have H2_ := (Option.bind_some _ _).symm.trans H; rw [hy673]; with_reducible exact H2_) | (have H2_ := (Option.bind_some _ _).symm.trans H; with_reducible exact H2_) | with_reducible exact H | (rw [hy673]; exact H) | exact H
  have Ny673 := Aside0.mk hy673
  clear hy673
  by_cases c38 : x8_2.length + y673.length < 17592186044416
  rotate_left
  ·rw [if_neg c38] at H
   exact absurd H (by simp)
  rw [if_pos c38] at H
  have LMc38 := Aside0.mk c38
  clear c38
  obtain ⟨y676, hy676⟩ : ∃ y_ : List Int, y_ = (x8_2 ++ y673) := ⟨_, rfl⟩
  replace H : (fencepostlaw08_SlotsNone.l0 k2 l1 t642 t644 x7_2 y676 (wrap64 (x9_2 - 1)) l0_0 l0_1) = some r := by first | (rw [hy676]; with_reducible exact H) | (have H2_ := (Option.bind_some _ _).symm.trans H; rw [hy676]; with_reducible exact H2_) | (have H2_ := (Option.bind_some _ _).symm.trans H; with_reducible exact H2_) | with_reducible exact H | (rw [hy676]; exact H) | exact H
  have Ny676 := Aside0.mk hy676
  clear hy676
  have H' := Aside0.mk H
  clear H
  have p645 : 0 ≤ (x9_2 : Int) := of_decide_eq_true (by first | (with_reducible assumption) | assumption)
  have q645 : x9_2 < (l1.length : Int) := of_decide_eq_true (by first | (with_reducible assumption) | assumption)
  obtain ⟨ad645, e645, hx645_0⟩ := Kd.at_int HR1.out x9_2 p645 q645
  cases e645
  replace hx645_0 := (HB.out.cell (World.block_lt_of_cell? w _ hx645_0)).trans hx645_0
  replace p645 := eq_true p645
  replace q645 := eq_true q645
  have p658 : 0 ≤ (x9_2 : Int) := of_decide_eq_true (by first | (with_reducible assumption) | assumption)
  have q658 : x9_2 < (l1.length : Int) := of_decide_eq_true (by first | (with_reducible assumption) | assumption)
  obtain ⟨ad658, e658, hx658_0⟩ := Kd.at_int HR1.out x9_2 p658 q658
  obtain rfl : ad645 = ad658 := (by injection e658)
  replace hx658_0 := (HB.out.cell (World.block_lt_of_cell? w _ hx658_0)).trans hx658_0
  replace p658 := eq_true p658
  replace q658 := eq_true q658
  try go_wp2
  have n0_ := Aside0.mk (Kd.R_drew HO_7.out)
  have n1_ := Aside0.mk (Kd.R_drew HO_8.out)
  have n2_ := Aside0.mk (blk_drew BK641.out)
  have n3_ := Aside0.mk (below_drew1 HB.out)
  clear HO_7
  clear HO_8
  clear BK641
  clear HB
  have HO_7 := n0_
  have HO_8 := n1_
  have BK641 := n2_
  have HB := n3_
  clear n0_ n1_ n2_ n3_
  have p671 : 0 ≤ (x9_2 : Int) := of_decide_eq_true (by first | (with_reducible assumption) | assumption)
  have q671 : x9_2 < (l1.length : Int) := of_decide_eq_true (by first | (with_reducible assumption) | assumption)
  obtain ⟨ad671, e671, hx671_0⟩ := Kd.at_int HR1.out x9_2 p671 q671
  have hw671_0 := hx671_0
  obtain rfl : ad645 = ad671 := (by injection e671)
  replace hx671_0 := (HB.out.cell (World.block_lt_of_cell? w _ hx671_0)).trans hx671_0
  replace p671 := eq_true p671
  replace q671 := eq_true q671
  have p672 : 0 ≤ (x9_2 : Int) := of_decide_eq_true (by first | (with_reducible assumption) | assumption)
  have q672 : x9_2 < (l1.length : Int) := of_decide_eq_true (by first | (with_reducible assumption) | assumption)
  obtain ⟨ad672, e672, hx672_0⟩ := Kd.at_int HR1.out x9_2 p672 q672
  have hw672_0 := hx672_0
  obtain rfl : ad645 = ad672 := (by injection e672)
  replace hx672_0 := (HB.out.cell (World.block_lt_of_cell? w _ hx672_0)).trans hx672_0
  replace p672 := eq_true p672
  replace q672 := eq_true q672
  refine start_ (n := 12) (S := fun w' => w'.cell? (ad645.add (x9_2).toNat) = some (.int .i64 (rd l1 x9_2)) ∧ w'.cell? (ad645.add (x9_2).toNat) = some (.int .i64 (rd l1 x9_2))) (ds := []) (lb_ 12 0) (by kernel_rfl) rfl rfl ⟨((HB.out.cell (World.block_lt_of_cell? w _ hw671_0)).trans hw671_0), ((HB.out.cell (World.block_lt_of_cell? w _ hw672_0)).trans hw672_0)⟩ (fun hHeld => ?_); refine with_tabW fencepostlaw08_SlotsNone.tab12 fencepostlaw08_SlotsNone.bits12 (fun HT_ HW_ => ?_)
  generalize wr.drew = w39 at HO_7 HO_8 BK641 HB hx671_0 hx672_0 hHeld ⊢
  refine pure_ (i := 0) (N := some 48) (v := ?_) (a' := ?_) (lb_ 12 1) rfl rfl (any_of HT_.out (by kernel_rfl)) (fun _ _ _ h => h) (Or.inl ⟨by rfl, ?_⟩) ?_ ?_; rotate_left; intro w'; go_simp; with_reducible rfl; rotate_left; simp only [Act.put, List.setIfInBounds_toArray, List.set_cons_zero, List.set_cons_succ, i64_w, i32_w]; rfl
  refine pure_ (i := 1) (N := some 49) (v := ?_) (a' := ?_) (lb_ 12 3) rfl rfl (any_of HT_.out (by kernel_rfl)) (fun _ _ _ h => h) (Or.inl ⟨by rfl, ?_⟩) ?_ ?_; rotate_left; intro w'; go_simp; with_reducible rfl; rotate_left; simp only [Act.put, List.setIfInBounds_toArray, List.set_cons_zero, List.set_cons_succ, i64_w, i32_w]; rfl
  refine pure_ (i := 2) (N := some 50) (v := ?_) (a' := ?_) (lb_ 12 7) rfl rfl (any_of HT_.out (by kernel_rfl)) (fun _ _ _ h => h) (Or.inl ⟨by rfl, ?_⟩) ?_ ?_; rotate_left; intro w'; go_simp; with_reducible rfl; rotate_left; simp only [Act.put, List.setIfInBounds_toArray, List.set_cons_zero, List.set_cons_succ, i64_w, i32_w]; rfl
  refine pure_ (i := 3) (N := some 51) (v := ?_) (a' := ?_) (lb_ 12 15) rfl rfl (any_of HT_.out (by kernel_rfl)) (fun _ _ _ h => h) (Or.inl ⟨by rfl, ?_⟩) ?_ ?_; rotate_left; intro w'; go_simp; with_reducible rfl; rotate_left; simp only [Act.put, List.setIfInBounds_toArray, List.set_cons_zero, List.set_cons_succ, i64_w, i32_w]; rfl
  refine pure_ (i := 5) (N := some 53) (v := ?_) (a' := ?_) (lb_ 12 47) rfl rfl (any_of HT_.out (by kernel_rfl)) (fun _ _ _ h => h) (Or.inl ⟨by rfl, ?_⟩) ?_ ?_; rotate_left; intro w'; go_simp; with_reducible rfl; rotate_left; simp only [Act.put, List.setIfInBounds_toArray, List.set_cons_zero, List.set_cons_succ, i64_w, i32_w]; rfl
  refine pure_ (i := 6) (N := some 54) (v := ?_) (a' := ?_) (lb_ 12 111) rfl rfl (any_of HT_.out (by kernel_rfl)) (fun _ _ _ h => h) (Or.inl ⟨by rfl, ?_⟩) ?_ ?_; rotate_left; intro w'; go_simp; with_reducible rfl; rotate_left; simp only [Act.put, List.setIfInBounds_toArray, List.set_cons_zero, List.set_cons_succ, i64_w, i32_w]; rfl
  refine pure_ (i := 7) (N := some 55) (v := ?_) (a' := ?_) (lb_ 12 239) rfl rfl (any_of HT_.out (by kernel_rfl)) (fun _ _ _ h => h) (Or.inl ⟨by rfl, ?_⟩) ?_ ?_; rotate_left; intro w'; go_simp; with_reducible rfl; rotate_left; simp only [Act.put, List.setIfInBounds_toArray, List.set_cons_zero, List.set_cons_succ, i64_w, i32_w]; rfl
  refine take_ (i := 4) (N := some 52) (v := ?_) (a' := ?_) (lb_ 12 255) rfl rfl (take_ofW HT_.out HW_.out (by kernel_rfl)) (fun _ _ _ h => h) (Or.inl ⟨by rfl, ?_⟩) hHeld ?_ ?_; rotate_left; rintro w' ⟨s0, s1⟩; go_simp; with_reducible rfl; rotate_left; simp only [Act.put, List.setIfInBounds_toArray, List.set_cons_zero, List.set_cons_succ, i64_w, i32_w]; rfl
  refine take_ (i := 8) (N := some 56) (v := ?_) (a' := ?_) (lb_ 12 511) rfl rfl (take_ofW HT_.out HW_.out (by kernel_rfl)) (fun _ _ _ h => h) (Or.inl ⟨by rfl, ?_⟩) hHeld ?_ ?_; rotate_left; rintro w' ⟨s0, s1⟩; go_simp; with_reducible rfl; rotate_left; simp only [Act.put, List.setIfInBounds_toArray, List.set_cons_zero, List.set_cons_succ, i64_w, i32_w]; rfl
  refine one_ (i := 9) (N := some 57) (lb_ 12 1023) rfl rfl (one_of HT_.out (by kernel_rfl)) (by decide) (fun K hK => ?_)
  refine Kd.R_lit_step (Kd.int .i64) _ 3 ?hg (N := 57) ?hd (xs := ([rd l1 x9_2, rd l1 x9_2] : List Int)) (inner := [.int .i64 (rd l1 x9_2), .int .i64 (rd l1 x9_2)]) (ok := fun _ => True) (okp := fun _ => True) ?hr ?hp (fun _ hk => hk) trivial (Below.refl _ _) (Nat.le_refl _) (by simp) ?_; (case hd => rfl); (case hg => rfl); (case hr => first | (go_simp; done) | (go_simp; rfl)); (case hp => exact (Reps.one (show Kd.M (Kd.int .i64) _ _ _ (rd l1 x9_2) [.int .i64 (rd l1 x9_2)] from rfl) (Reps.one (show Kd.M (Kd.int .i64) _ _ _ (rd l1 x9_2) [.int .i64 (rd l1 x9_2)] from rfl) (Reps.none _ _))))
  intro v674 w40 ho41 hb hg_ hnew_
  clear hg_ hnew_
  (first | rw [← Ny673.out] at ho41 | (simp only [Int.reduceToNat] at ho41; rw [← Ny673.out] at ho41))
  have n0_ := Aside0.mk (Kd.R_elder' (by (with_reducible repeat (first | apply Kd.R_alloc | apply Kd.R_drewN | apply Kd.R_drew)); exact HO_7.out) (Kd.R_base ho41) hb)
  have n1_ := Aside0.mk (Kd.R_elder' (by (with_reducible repeat (first | apply Kd.R_alloc | apply Kd.R_drewN | apply Kd.R_drew)); exact HO_8.out) (Kd.R_base ho41) hb)
  have n2_ := Aside0.mk (Kd.R_lower (Kd.R_new' (Kd.R_new' ho41 (Kd.R_lt (by (with_reducible repeat (first | apply Kd.R_alloc | apply Kd.R_drewN | apply Kd.R_drew)); exact HO_7.out))) (Kd.R_lt (by (with_reducible repeat (first | apply Kd.R_alloc | apply Kd.R_drewN | apply Kd.R_drew)); exact HO_8.out))) (below_size (by repeat (first | (with_reducible first | exact HB.out | apply below_alloc | apply pw_below_drewN | apply below_drew1 | refine below_set ?_ GE641.out) | exact HB.out))))
  have n3_ := Aside0.mk (blk_below (g := gb641) (o := .cells #[.slice A0_0 l0_0.length c0_0, .slice A0_1 l0_1.length c0_1] 25 (0, 0)) (by (with_reducible repeat (first | refine blk_drewN ?_ _ | refine blk_drew ?_ | refine blk_alloc ?_ _)); exact BK641.out) hb)
  have n4_ := Aside0.mk (below_step (by repeat (first | (with_reducible first | exact HB.out | apply below_alloc | apply pw_below_drewN | apply below_drew1 | refine below_set ?_ GE641.out) | exact HB.out)) hb)
  clear HO_7
  clear HO_8
  clear BK641
  clear HB
  have HO_7 := n0_
  have HO_8 := n1_
  have HO675 := n2_
  have BK641 := n3_
  have HB := n4_
  clear n0_ n1_ n2_ n3_ n4_
  clear hb ho41
  obtain ⟨Ao43, co43, eo43⟩ := Kd.R_slice HO675.out
  (first | subst eo43 | (injection eo43 with f1_ f2_ f3_; have f4_ := f1_.symm; have f5_ := f3_.symm; clear f1_ f2_ f3_; subst f4_; subst f5_))
  refine hK.out _ _ ⟨((HB.out.cell (World.block_lt_of_cell? w _ hw671_0)).trans hw671_0), ((HB.out.cell (World.block_lt_of_cell? w _ hw672_0)).trans hw672_0)⟩ (fun hHeld => ?_)
  clear hK K
  refine norm_ (a' := ?_) ?_ ?_
  rotate_left
  ·show Act.put _ (some 57) _ = _
   simp only [Act.put, List.setIfInBounds_toArray, List.set_cons_zero, List.set_cons_succ, i64_w, i32_w]
   rfl
  refine one_ (i := 10) (N := some 58) (lb_ 12 2047) rfl rfl (one_of HT_.out (by kernel_rfl)) (by decide) (fun K hK => ?_)
  refine Kd.R_append_rows_step (Kd.int .i64) (w0 := w) w.heap.size (by rfl) (.tmp 48) (.tmp 57) 22 3 (.int .i64 0) 8 rfl Try.underlying22 info3 rfl (by decide) (by omega) u8 x8_2 y673 _ _ _ (fun k_ => some k_ ≠ (u7 : Value).ownBlock ∧ some k_ ≠ (.slice Ao43 y673.length co43 : Value).ownBlock) (fun _ => False) rfl rfl ?aO ?aR (fun _ _ h => h) (fun _ h => h.elim) ?aF ?aB ?aS ?aL ?_
  (case aR => repeat (first | exact (Kd.R_reads' HO675.out).2.2 | (with_reducible refine Kd.C_alloc ?_ _) | (with_reducible refine Kd.C_drewN ?_ _) | (with_reducible refine Kd.C_drew ?_)))
  (case aB => exact (by repeat (first | (with_reducible first | exact HB.out | apply below_alloc | apply pw_below_drewN | apply below_drew1 | refine below_set ?_ GE641.out) | exact HB.out)))
  (case aF => exact (fun k_ hk => ⟨Kd.fresh' (Kd.R_lt (by (with_reducible repeat (first | apply Kd.R_alloc | apply Kd.R_drewN | apply Kd.R_drew)); exact HO_7.out)) k_ hk, Kd.fresh' (Kd.R_lt (by (with_reducible repeat (first | apply Kd.R_alloc | apply Kd.R_drewN | apply Kd.R_drew)); exact HO675.out)) k_ hk⟩))
  (case aO => exact (by (with_reducible repeat (first | apply Kd.R_alloc | apply Kd.R_drewN | apply Kd.R_drew)); exact HO_8.out))
  (case aS => exact (below_size (by repeat (first | (with_reducible first | exact HB.out | apply below_alloc | apply pw_below_drewN | apply below_drew1 | refine below_set ?_ GE641.out) | exact HB.out))))
  (case aL => have := LMc38.out; omega)
  intro v677 w42 ho hb hg hat
  rw [← Ny676.out] at ho
  have n0_ := Aside0.mk (Kd.R_after (ok := (fun k_ => some k_ ≠ (.slice Ao43 y673.length co43 : Value).ownBlock)) (by (with_reducible repeat (first | apply Kd.R_alloc | apply Kd.R_drewN | apply Kd.R_drew)); exact Kd.R_mono HO_7.out (fun _ hk => ⟨hk.2, hk.1⟩)) hg hat)
  have n1_ := Aside0.mk (blk_grown (g := gb641) (o := .cells #[.slice A0_0 l0_0.length c0_0, .slice A0_1 l0_1.length c0_1] 25 (0, 0)) (by (with_reducible repeat (first | refine blk_drewN ?_ _ | refine blk_drew ?_ | refine blk_alloc ?_ _)); exact BK641.out) hg (Kd.R_ne HO_8.out BK641.out (by decide)))
  have n2_ := Aside0.mk (Kd.R_after (ok := (fun k_ => some k_ ≠ (u7 : Value).ownBlock)) (by (with_reducible repeat (first | apply Kd.R_alloc | apply Kd.R_drewN | apply Kd.R_drew)); exact Kd.R_mono HO675.out (fun _ hk => ⟨hk.1.2, hk.2⟩)) hg hat)
  have n3_ := Aside0.mk (hb)
  have n4_ := Aside0.mk (ho)
  clear HO_7
  clear BK641
  clear HO675
  clear HB
  clear HO_8
  have HO_7 := n0_
  have BK641 := n1_
  have HO675 := n2_
  have HB := n3_
  have HO678 := n4_
  clear n0_ n1_ n2_ n3_ n4_
  clear ho hb hg hat
  refine hK.out _ _ ⟨((HB.out.cell (World.block_lt_of_cell? w _ hw671_0)).trans hw671_0), ((HB.out.cell (World.block_lt_of_cell? w _ hw672_0)).trans hw672_0)⟩ (fun hHeld => ?_)
  clear hK K
  refine norm_ (a' := ?_) ?_ ?_
  rotate_left
  ·show Act.put _ (some 58) _ = _
   simp only [Act.put, List.setIfInBounds_toArray, List.set_cons_zero, List.set_cons_succ, i64_w, i32_w]
   rfl
  refine pure_ (i := 11) (N := some 8) (v := ?_) (a' := ?_) (lb_ 12 4095) rfl rfl (any_of HT_.out (by kernel_rfl)) (fun _ _ _ h => h) (Or.inl ⟨by rfl, ?_⟩) ?_ ?_; rotate_left; intro w'; go_simp; with_reducible rfl; rotate_left; simp only [Act.put, List.setIfInBounds_toArray, List.set_cons_zero, List.set_cons_succ, i64_w, i32_w]; rfl
  refine done_ (done_of HT_.out (by kernel_rfl)) ?_
  try go_wp2
  go_roundg k2
  case measure => have := HJ3.out; have := HK2.out; omega
  case rel => exact ⟨(x7_2), (y676), (wrap64 (x9_2 - 1)), (by first | rfl | (simp; done) | (simp [*]; done)), H', ⟨by have := HJ3.out; have := HK2.out; omega⟩, ⟨by (with_reducible repeat (first | apply Kd.R_alloc | apply Kd.R_drewN | apply Kd.R_drew)); exact Kd.R_mono HO_7.out (fun _ hk => hk.2)⟩, ⟨by (with_reducible repeat (first | apply Kd.R_alloc | apply Kd.R_drewN | apply Kd.R_drew)); exact Kd.R_mono HO678.out (fun _ hk => hk.1)⟩, ⟨by (with_reducible repeat (first | refine blk_drewN ?_ _ | refine blk_drew ?_ | refine blk_alloc ?_ _)); exact BK641.out⟩, ⟨by repeat (first | (with_reducible first | exact HB.out | apply below_alloc | apply pw_below_drewN | apply below_drew1 | refine below_set ?_ GE641.out) | exact HB.out)⟩⟩
 rw [if_pos c29] at H
 have c29b0 : decide (t644 ≤ (rd l1 x9_2)) = true := decide_eq_true c29
 clear c29
 by_cases c30 : x7_2.length < 17592186044416
 rotate_left
 ·rw [if_neg c30] at H
  exact absurd H (by simp)
 rw [if_pos c30] at H
 have LMc30 := Aside0.mk c30
 clear c30
 obtain ⟨y660, hy660⟩ : ∃ y_ : List Int, y_ = (x7_2 ++ [rd l1 x9_2]) := ⟨_, rfl⟩
 replace H : ((some (([rd l1 x9_2, rd l1 x9_2] : List Int) : List Int)).bind fun y665 => (if x8_2.length + y665.length < 17592186044416 then (fencepostlaw08_SlotsNone.l0 k2 l1 t642 t644 y660 (x8_2 ++ y665) (wrap64 (x9_2 - 1)) l0_0 l0_1) else (none))) = some r := by first | (rw [hy660]; with_reducible exact H) | (have H2_ := (Option.bind_some _ _).symm.trans H; rw [hy660]; with_reducible exact H2_) | (have H2_ := (Option.bind_some _ _).symm.trans H; with_reducible exact H2_) | with_reducible exact H | (rw [hy660]; exact H) | exact H
 have Ny660 := Aside0.mk hy660
 clear hy660
 obtain ⟨y665, hy665⟩ : ∃ y_ : List Int, y_ = (([rd l1 x9_2, rd l1 x9_2] : List Int)) := ⟨_, rfl⟩
 replace H : (if x8_2.length + y665.length < 17592186044416 then (fencepostlaw08_SlotsNone.l0 k2 l1 t642 t644 y660 (x8_2 ++ y665) (wrap64 (x9_2 - 1)) l0_0 l0_1) else (none)) = some r := by first | (rw [hy665]; with_reducible exact H) | (have H2_ := (Option.bind_some _ _).symm.trans H; rw [hy665]; with_reducible exact H2_) | (have H2_ := (Option.bind_some _ _).symm.trans H; with_reducible exact H2_) | with_reducible exact H | (rw [hy665]; exact H) | exact H
 have Ny665 := Aside0.mk hy665
 clear hy665
 by_cases c31 : x8_2.length + y665.length < 17592186044416
 rotate_left
 ·rw [if_neg c31] at H
  exact absurd H (by simp)
 rw [if_pos c31] at H
 have LMc31 := Aside0.mk c31
 clear c31
 obtain ⟨y668, hy668⟩ : ∃ y_ : List Int, y_ = (x8_2 ++ y665) := ⟨_, rfl⟩
 replace H : (fencepostlaw08_SlotsNone.l0 k2 l1 t642 t644 y660 y668 (wrap64 (x9_2 - 1)) l0_0 l0_1) = some r := by first | (rw [hy668]; with_reducible exact H) | (have H2_ := (Option.bind_some _ _).symm.trans H; rw [hy668]; with_reducible exact H2_) | (have H2_ := (Option.bind_some _ _).symm.trans H; with_reducible exact H2_) | with_reducible exact H | (rw [hy668]; exact H) | exact H
 have Ny668 := Aside0.mk hy668
 clear hy668
 have H' := Aside0.mk H
 clear H
 have p645 : 0 ≤ (x9_2 : Int) := of_decide_eq_true (by first | (with_reducible assumption) | assumption)
 have q645 : x9_2 < (l1.length : Int) := of_decide_eq_true (by first | (with_reducible assumption) | assumption)
 obtain ⟨ad645, e645, hx645_0⟩ := Kd.at_int HR1.out x9_2 p645 q645
 cases e645
 replace hx645_0 := (HB.out.cell (World.block_lt_of_cell? w _ hx645_0)).trans hx645_0
 replace p645 := eq_true p645
 replace q645 := eq_true q645
 have p658 : 0 ≤ (x9_2 : Int) := of_decide_eq_true (by first | (with_reducible assumption) | assumption)
 have q658 : x9_2 < (l1.length : Int) := of_decide_eq_true (by first | (with_reducible assumption) | assumption)
 obtain ⟨ad658, e658, hx658_0⟩ := Kd.at_int HR1.out x9_2 p658 q658
 obtain rfl : ad645 = ad658 := (by injection e658)
 replace hx658_0 := (HB.out.cell (World.block_lt_of_cell? w _ hx658_0)).trans hx658_0
 replace p658 := eq_true p658
 replace q658 := eq_true q658
 have p659 : 0 ≤ (x9_2 : Int) := of_decide_eq_true (by first | (with_reducible assumption) | assumption)
 have q659 : x9_2 < (l1.length : Int) := of_decide_eq_true (by first | (with_reducible assumption) | assumption)
 obtain ⟨ad659, e659, hx659_0⟩ := Kd.at_int HR1.out x9_2 p659 q659
 obtain rfl : ad645 = ad659 := (by injection e659)
 replace hx659_0 := (HB.out.cell (World.block_lt_of_cell? w _ hx659_0)).trans hx659_0
 replace p659 := eq_true p659
 replace q659 := eq_true q659
 try go_wp2_with (first | ((with_reducible refine gate_builtin (b := .append) (xs := #[.tmp 41, .tmp 46]) rfl ?_); (try (refine gate_guard (by rfl) ?_; dsimp only)); at_builtin; refine Kd.R_append (Kd.int .i64) (w0 := w) w.heap.size rfl (.tmp 41) (.tmp 46) 22 3 (.int .i64 0) 8 rfl Try.underlying22 info3 rfl (by decide) (by omega) u7 x7_2 (rd l1 x9_2) [.int .i64 (rd l1 x9_2)] (fun k_ => some k_ ≠ (u8 : Value).ownBlock) (fun _ => False) rfl rfl ?aP (fun _ hk => hk.elim) ?aF ?aO ?aB ?aS ?aL ?_; (case aP => exact rfl); (case aB => exact (by repeat (first | (with_reducible first | exact HB.out | apply below_alloc | apply pw_below_drewN | apply below_drew1 | refine below_set ?_ GE641.out) | exact HB.out))); (case aF => exact (fun k_ hk => Kd.fresh' (Kd.R_lt (by (with_reducible repeat (first | apply Kd.R_alloc | apply Kd.R_drewN | apply Kd.R_drew)); exact HO_8.out)) k_ hk)); (case aO => exact (by (with_reducible repeat (first | apply Kd.R_alloc | apply Kd.R_drewN | apply Kd.R_drew)); exact HO_7.out)); (case aS => exact (below_size (by repeat (first | (with_reducible first | exact HB.out | apply below_alloc | apply pw_below_drewN | apply below_drew1 | refine below_set ?_ GE641.out) | exact HB.out)))); (case aL => have := LMc30.out; omega); intro v661 w32 ho hb hg hat; rw [← Ny660.out] at ho; have n0_ := Aside0.mk (Kd.R_after (ok := (fun _ => True)) (by (with_reducible repeat (first | apply Kd.R_alloc | apply Kd.R_drewN | apply Kd.R_drew)); exact Kd.R_mono HO_8.out (fun _ hk => ⟨trivial, hk⟩)) hg hat); have n1_ := Aside0.mk (blk_grown (g := gb641) (o := .cells #[.slice A0_0 l0_0.length c0_0, .slice A0_1 l0_1.length c0_1] 25 (0, 0)) (by (with_reducible repeat (first | refine blk_drewN ?_ _ | refine blk_drew ?_ | refine blk_alloc ?_ _)); exact BK641.out) hg (Kd.R_ne HO_7.out BK641.out (by decide))); have n2_ := Aside0.mk (hb); have n3_ := Aside0.mk (ho); clear HO_8; clear BK641; clear HB; clear HO_7; have HO_8 := n0_; have BK641 := n1_; have HB := n2_; have HO662 := n3_; clear n0_ n1_ n2_ n3_; clear ho hb hg hat))
 have n0_ := Aside0.mk (Kd.R_drew HO_8.out)
 have n1_ := Aside0.mk (Kd.R_drew HO662.out)
 have n2_ := Aside0.mk (blk_drew BK641.out)
 have n3_ := Aside0.mk (below_drew1 HB.out)
 clear HO_8
 clear HO662
 clear BK641
 clear HB
 have HO_8 := n0_
 have HO662 := n1_
 have BK641 := n2_
 have HB := n3_
 clear n0_ n1_ n2_ n3_
 have p663 : 0 ≤ (x9_2 : Int) := of_decide_eq_true (by first | (with_reducible assumption) | assumption)
 have q663 : x9_2 < (l1.length : Int) := of_decide_eq_true (by first | (with_reducible assumption) | assumption)
 obtain ⟨ad663, e663, hx663_0⟩ := Kd.at_int HR1.out x9_2 p663 q663
 have hw663_0 := hx663_0
 obtain rfl : ad645 = ad663 := (by injection e663)
 replace hx663_0 := (HB.out.cell (World.block_lt_of_cell? w _ hx663_0)).trans hx663_0
 replace p663 := eq_true p663
 replace q663 := eq_true q663
 have p664 : 0 ≤ (x9_2 : Int) := of_decide_eq_true (by first | (with_reducible assumption) | assumption)
 have q664 : x9_2 < (l1.length : Int) := of_decide_eq_true (by first | (with_reducible assumption) | assumption)
 obtain ⟨ad664, e664, hx664_0⟩ := Kd.at_int HR1.out x9_2 p664 q664
 have hw664_0 := hx664_0
 obtain rfl : ad645 = ad664 := (by injection e664)
 replace hx664_0 := (HB.out.cell (World.block_lt_of_cell? w _ hx664_0)).trans hx664_0
 replace p664 := eq_true p664
 replace q664 := eq_true q664
 refine start_ (n := 12) (S := fun w' => w'.cell? (ad645.add (x9_2).toNat) = some (.int .i64 (rd l1 x9_2)) ∧ w'.cell? (ad645.add (x9_2).toNat) = some (.int .i64 (rd l1 x9_2))) (ds := []) (lb_ 12 0) (by kernel_rfl) rfl rfl ⟨((HB.out.cell (World.block_lt_of_cell? w _ hw663_0)).trans hw663_0), ((HB.out.cell (World.block_lt_of_cell? w _ hw664_0)).trans hw664_0)⟩ (fun hHeld => ?_); refine with_tabW fencepostlaw08_SlotsNone.tab12 fencepostlaw08_SlotsNone.bits12 (fun HT_ HW_ => ?_)
 generalize w32.drew = w33 at HO_8 HO662 BK641 HB hx663_0 hx664_0 hHeld ⊢
 refine pure_ (i := 0) (N := some 48) (v := ?_) (a' := ?_) (lb_ 12 1) rfl rfl (any_of HT_.out (by kernel_rfl)) (fun _ _ _ h => h) (Or.inl ⟨by rfl, ?_⟩) ?_ ?_; rotate_left; intro w'; go_simp; with_reducible rfl; rotate_left; simp only [Act.put, List.setIfInBounds_toArray, List.set_cons_zero, List.set_cons_succ, i64_w, i32_w]; rfl
 refine pure_ (i := 1) (N := some 49) (v := ?_) (a' := ?_) (lb_ 12 3) rfl rfl (any_of HT_.out (by kernel_rfl)) (fun _ _ _ h => h) (Or.inl ⟨by rfl, ?_⟩) ?_ ?_; rotate_left; intro w'; go_simp; with_reducible rfl; rotate_left; simp only [Act.put, List.setIfInBounds_toArray, List.set_cons_zero, List.set_cons_succ, i64_w, i32_w]; rfl
 refine pure_ (i := 2) (N := some 50) (v := ?_) (a' := ?_) (lb_ 12 7) rfl rfl (any_of HT_.out (by kernel_rfl)) (fun _ _ _ h => h) (Or.inl ⟨by rfl, ?_⟩) ?_ ?_; rotate_left; intro w'; go_simp; with_reducible rfl; rotate_left; simp only [Act.put, List.setIfInBounds_toArray, List.set_cons_zero, List.set_cons_succ, i64_w, i32_w]; rfl
 refine pure_ (i := 3) (N := some 51) (v := ?_) (a' := ?_) (lb_ 12 15) rfl rfl (any_of HT_.out (by kernel_rfl)) (fun _ _ _ h => h) (Or.inl ⟨by rfl, ?_⟩) ?_ ?_; rotate_left; intro w'; go_simp; with_reducible rfl; rotate_left; simp only [Act.put, List.setIfInBounds_toArray, List.set_cons_zero, List.set_cons_succ, i64_w, i32_w]; rfl
 refine pure_ (i := 5) (N := some 53) (v := ?_) (a' := ?_) (lb_ 12 47) rfl rfl (any_of HT_.out (by kernel_rfl)) (fun _ _ _ h => h) (Or.inl ⟨by rfl, ?_⟩) ?_ ?_; rotate_left; intro w'; go_simp; with_reducible rfl; rotate_left; simp only [Act.put, List.setIfInBounds_toArray, List.set_cons_zero, List.set_cons_succ, i64_w, i32_w]; rfl
 refine pure_ (i := 6) (N := some 54) (v := ?_) (a' := ?_) (lb_ 12 111) rfl rfl (any_of HT_.out (by kernel_rfl)) (fun _ _ _ h => h) (Or.inl ⟨by rfl, ?_⟩) ?_ ?_; rotate_left; intro w'; go_simp; with_reducible rfl; rotate_left; simp only [Act.put, List.setIfInBounds_toArray, List.set_cons_zero, List.set_cons_succ, i64_w, i32_w]; rfl
 refine pure_ (i := 7) (N := some 55) (v := ?_) (a' := ?_) (lb_ 12 239) rfl rfl (any_of HT_.out (by kernel_rfl)) (fun _ _ _ h => h) (Or.inl ⟨by rfl, ?_⟩) ?_ ?_; rotate_left; intro w'; go_simp; with_reducible rfl; rotate_left; simp only [Act.put, List.setIfInBounds_toArray, List.set_cons_zero, List.set_cons_succ, i64_w, i32_w]; rfl
 refine take_ (i := 4) (N := some 52) (v := ?_) (a' := ?_) (lb_ 12 255) rfl rfl (take_ofW HT_.out HW_.out (by kernel_rfl)) (fun _ _ _ h => h) (Or.inl ⟨by rfl, ?_⟩) hHeld ?_ ?_; rotate_left; rintro w' ⟨s0, s1⟩; go_simp; with_reducible rfl; rotate_left; simp only [Act.put, List.setIfInBounds_toArray, List.set_cons_zero, List.set_cons_succ, i64_w, i32_w]; rfl
 refine take_ (i := 8) (N := some 56) (v := ?_) (a' := ?_) (lb_ 12 511) rfl rfl (take_ofW HT_.out HW_.out (by kernel_rfl)) (fun _ _ _ h => h) (Or.inl ⟨by rfl, ?_⟩) hHeld ?_ ?_; rotate_left; rintro w' ⟨s0, s1⟩; go_simp; with_reducible rfl; rotate_left; simp only [Act.put, List.setIfInBounds_toArray, List.set_cons_zero, List.set_cons_succ, i64_w, i32_w]; rfl
 refine one_ (i := 9) (N := some 57) (lb_ 12 1023) rfl rfl (one_of HT_.out (by kernel_rfl)) (by decide) (fun K hK => ?_)
 refine Kd.R_lit_step (Kd.int .i64) _ 3 ?hg (N := 57) ?hd (xs := ([rd l1 x9_2, rd l1 x9_2] : List Int)) (inner := [.int .i64 (rd l1 x9_2), .int .i64 (rd l1 x9_2)]) (ok := fun _ => True) (okp := fun _ => True) ?hr ?hp (fun _ hk => hk) trivial (Below.refl _ _) (Nat.le_refl _) (by simp) ?_; (case hd => rfl); (case hg => rfl); (case hr => first | (go_simp; done) | (go_simp; rfl)); (case hp => exact (Reps.one (show Kd.M (Kd.int .i64) _ _ _ (rd l1 x9_2) [.int .i64 (rd l1 x9_2)] from rfl) (Reps.one (show Kd.M (Kd.int .i64) _ _ _ (rd l1 x9_2) [.int .i64 (rd l1 x9_2)] from rfl) (Reps.none _ _))))
 intro v666 w34 ho35 hb hg_ hnew_
 clear hg_ hnew_
 (first | rw [← Ny665.out] at ho35 | (simp only [Int.reduceToNat] at ho35; rw [← Ny665.out] at ho35))
 have n0_ := Aside0.mk (Kd.R_elder' (by (with_reducible repeat (first | apply Kd.R_alloc | apply Kd.R_drewN | apply Kd.R_drew)); exact HO_8.out) (Kd.R_base ho35) hb)
 have n1_ := Aside0.mk (Kd.R_elder' (by (with_reducible repeat (first | apply Kd.R_alloc | apply Kd.R_drewN | apply Kd.R_drew)); exact HO662.out) (Kd.R_base ho35) hb)
 have n2_ := Aside0.mk (Kd.R_lower (Kd.R_new' (Kd.R_new' ho35 (Kd.R_lt (by (with_reducible repeat (first | apply Kd.R_alloc | apply Kd.R_drewN | apply Kd.R_drew)); exact HO_8.out))) (Kd.R_lt (by (with_reducible repeat (first | apply Kd.R_alloc | apply Kd.R_drewN | apply Kd.R_drew)); exact HO662.out))) (below_size (by repeat (first | (with_reducible first | exact HB.out | apply below_alloc | apply pw_below_drewN | apply below_drew1 | refine below_set ?_ GE641.out) | exact HB.out))))
 have n3_ := Aside0.mk (blk_below (g := gb641) (o := .cells #[.slice A0_0 l0_0.length c0_0, .slice A0_1 l0_1.length c0_1] 25 (0, 0)) (by (with_reducible repeat (first | refine blk_drewN ?_ _ | refine blk_drew ?_ | refine blk_alloc ?_ _)); exact BK641.out) hb)
 have n4_ := Aside0.mk (below_step (by repeat (first | (with_reducible first | exact HB.out | apply below_alloc | apply pw_below_drewN | apply below_drew1 | refine below_set ?_ GE641.out) | exact HB.out)) hb)
 clear HO_8
 clear HO662
 clear BK641
 clear HB
 have HO_8 := n0_
 have HO662 := n1_
 have HO667 := n2_
 have BK641 := n3_
 have HB := n4_
 clear n0_ n1_ n2_ n3_ n4_
 clear hb ho35
 obtain ⟨Ao37, co37, eo37⟩ := Kd.R_slice HO667.out
 (first | subst eo37 | (injection eo37 with f1_ f2_ f3_; have f4_ := f1_.symm; have f5_ := f3_.symm; clear f1_ f2_ f3_; subst f4_; subst f5_))
 refine hK.out _ _ ⟨((HB.out.cell (World.block_lt_of_cell? w _ hw663_0)).trans hw663_0), ((HB.out.cell (World.block_lt_of_cell? w _ hw664_0)).trans hw664_0)⟩ (fun hHeld => ?_)
 clear hK K
 refine norm_ (a' := ?_) ?_ ?_
 rotate_left
 ·show Act.put _ (some 57) _ = _
  simp only [Act.put, List.setIfInBounds_toArray, List.set_cons_zero, List.set_cons_succ, i64_w, i32_w]
  rfl
 refine one_ (i := 10) (N := some 58) (lb_ 12 2047) rfl rfl (one_of HT_.out (by kernel_rfl)) (by decide) (fun K hK => ?_)
 refine Kd.R_append_rows_step (Kd.int .i64) (w0 := w) w.heap.size (by rfl) (.tmp 48) (.tmp 57) 22 3 (.int .i64 0) 8 rfl Try.underlying22 info3 rfl (by decide) (by omega) u8 x8_2 y665 _ _ _ (fun k_ => some k_ ≠ (v661 : Value).ownBlock ∧ some k_ ≠ (.slice Ao37 y665.length co37 : Value).ownBlock) (fun _ => False) rfl rfl ?aO ?aR (fun _ _ h => h) (fun _ h => h.elim) ?aF ?aB ?aS ?aL ?_
 (case aR => repeat (first | exact (Kd.R_reads' HO667.out).2.2 | (with_reducible refine Kd.C_alloc ?_ _) | (with_reducible refine Kd.C_drewN ?_ _) | (with_reducible refine Kd.C_drew ?_)))
 (case aB => exact (by repeat (first | (with_reducible first | exact HB.out | apply below_alloc | apply pw_below_drewN | apply below_drew1 | refine below_set ?_ GE641.out) | exact HB.out)))
 (case aF => exact (fun k_ hk => ⟨Kd.fresh' (Kd.R_lt (by (with_reducible repeat (first | apply Kd.R_alloc | apply Kd.R_drewN | apply Kd.R_drew)); exact HO662.out)) k_ hk, Kd.fresh' (Kd.R_lt (by (with_reducible repeat (first | apply Kd.R_alloc | apply Kd.R_drewN | apply Kd.R_drew)); exact HO667.out)) k_ hk⟩))
 (case aO => exact (by (with_reducible repeat (first | apply Kd.R_alloc | apply Kd.R_drewN | apply Kd.R_drew)); exact Kd.R_mono HO_8.out (fun _ hk => ⟨hk.1.2, hk.2⟩)))
 (case aS => exact (below_size (by repeat (first | (with_reducible first | exact HB.out | apply below_alloc | apply pw_below_drewN | apply below_drew1 | refine below_set ?_ GE641.out) | exact HB.out))))
 (case aL => have := LMc31.out; omega)
 intro v669 w36 ho hb hg hat
 rw [← Ny668.out] at ho
 have n0_ := Aside0.mk (blk_grown (g := gb641) (o := .cells #[.slice A0_0 l0_0.length c0_0, .slice A0_1 l0_1.length c0_1] 25 (0, 0)) (by (with_reducible repeat (first | refine blk_drewN ?_ _ | refine blk_drew ?_ | refine blk_alloc ?_ _)); exact BK641.out) hg (Kd.R_ne HO_8.out BK641.out (by decide)))
 have n1_ := Aside0.mk (Kd.R_after (ok := (fun k_ => some k_ ≠ (.slice Ao37 y665.length co37 : Value).ownBlock)) (by (with_reducible repeat (first | apply Kd.R_alloc | apply Kd.R_drewN | apply Kd.R_drew)); exact Kd.R_mono HO662.out (fun _ hk => ⟨hk.2, hk.1⟩)) hg hat)
 have n2_ := Aside0.mk (Kd.R_after (ok := (fun k_ => some k_ ≠ (v661 : Value).ownBlock)) (by (with_reducible repeat (first | apply Kd.R_alloc | apply Kd.R_drewN | apply Kd.R_drew)); exact Kd.R_mono HO667.out (fun _ hk => ⟨hk.2, hk.1.2⟩)) hg hat)
 have n3_ := Aside0.mk (hb)
 have n4_ := Aside0.mk (ho)
 clear BK641
 clear HO662
 clear HO667
 clear HB
 clear HO_8
 have BK641 := n0_
 have HO662 := n1_
 have HO667 := n2_
 have HB := n3_
 have HO670 := n4_
 clear n0_ n1_ n2_ n3_ n4_
 clear ho hb hg hat
 refine hK.out _ _ ⟨((HB.out.cell (World.block_lt_of_cell? w _ hw663_0)).trans hw663_0), ((HB.out.cell (World.block_lt_of_cell? w _ hw664_0)).trans hw664_0)⟩ (fun hHeld => ?_)
 clear hK K
 refine norm_ (a' := ?_) ?_ ?_
 rotate_left
 ·show Act.put _ (some 58) _ = _
  simp only [Act.put, List.setIfInBounds_toArray, List.set_cons_zero, List.set_cons_succ, i64_w, i32_w]
  rfl
 refine pure_ (i := 11) (N := some 8) (v := ?_) (a' := ?_) (lb_ 12 4095) rfl rfl (any_of HT_.out (by kernel_rfl)) (fun _ _ _ h => h) (Or.inl ⟨by rfl, ?_⟩) ?_ ?_; rotate_left; intro w'; go_simp; with_reducible rfl; rotate_left; simp only [Act.put, List.setIfInBounds_toArray, List.set_cons_zero, List.set_cons_succ, i64_w, i32_w]; rfl
 refine done_ (done_of HT_.out (by kernel_rfl)) ?_
 try go_wp2
 go_roundg k2
 case measure => have := HJ3.out; have := HK2.out; omega
 case rel => exact ⟨(y660), (y668), (wrap64 (x9_2 - 1)), (by first | rfl | (simp; done) | (simp [*]; done)), H', ⟨by have := HJ3.out; have := HK2.out; omega⟩, ⟨by (with_reducible repeat (first | apply Kd.R_alloc | apply Kd.R_drewN | apply Kd.R_drew)); exact Kd.R_mono HO662.out (fun _ hk => hk.2)⟩, ⟨by (with_reducible repeat (first | apply Kd.R_alloc | apply Kd.R_drewN | apply Kd.R_drew)); exact Kd.R_mono HO670.out (fun _ hk => hk.1)⟩, ⟨by (with_reducible repeat (first | refine blk_drewN ?_ _ | refine blk_drew ?_ | refine blk_alloc ?_ _)); exact BK641.out⟩, ⟨by repeat (first | (with_reducible first | exact HB.out | apply below_alloc | apply pw_below_drewN | apply below_drew1 | refine below_set ?_ GE641.out) | exact HB.out)⟩⟩
end Go.Proofs.Ytijpfonbeepmfaa.Print
