-- Written by ownprint.py (this session's) with the kit's print.py: functions, contracts, rows; Lean checks it.
import Derived.Test.YtdliojcpnkggnaaPrint0
import Derived.Test.YtdliojcpnkggnaaPrint4
import Derived.Test.YtdliojcpnkggnaaPrint5
import Derived.Test.YtdliojcpnkggnaaHSq
import Derived.Test.YtdliojcpnkggnaaHHead10
import Derived.Test.YtdliojcpnkggnaaHScStep
namespace Go.Proofs.Ytdliojcpnkggnaa.Print
open Go.RowKit Go.Proofs.YtdliojcpnkggnaaW.PrintWords Go.Proofs.YtdliojcpnkggnaaW.PrintLast Go.Proofs.YtdliojcpnkggnaaW.PrintMore
attribute [local go_sem] max2_int min2_int max_two min_two max_three min_three max_four min_four   -- for this text's walks alone
set_option linter.unusedVariables false
set_option linter.unusedSimpArgs false

/-! ### fencepostlaw10_ScOn: function 5 -/
mutual
def fencepostlaw10_ScOn.j0 : Nat → Int → Bool → Bool → List Int → List (List (S39)) → List Int → List (S45) → Option (Bool)
 | 0, _, _, _, _, _, _, _ => none
 | k + 1, x2, x7, x25, x130000, x130001, x131000, x131001 => if x25 = true then (some x7) else ((sc_Step.f x130000 x130001 x131000 x131001 x2).bind fun bt135 => (if x2 ≥ 0 then (if x2 < (x131001.length : Int) then (if 0 ≤ x2 then (if x2 < (x130001.length : Int) then (fencepostlaw10_ScOn.j1 k x2 x7 bt135.2.2 (decide (((rd_T45 x131001 x2).f0) < ((rd_L3 x130001 x2).length : Int))) x130000 x130001 x131000 x131001 bt135.1 bt135.2.1) else (none)) else (none)) else (fencepostlaw10_ScOn.j1 k x2 x7 bt135.2.2 false x130000 x130001 x131000 x131001 bt135.1 bt135.2.1)) else (fencepostlaw10_ScOn.j1 k x2 x7 bt135.2.2 false x130000 x130001 x131000 x131001 bt135.1 bt135.2.1)))
def fencepostlaw10_ScOn.j1 : Nat → Int → Bool → Bool → Bool → List Int → List (List (S39)) → List Int → List (S45) → List Int → List (S45) → Option (Bool)
 | 0, _, _, _, _, _, _, _, _, _, _ => none
 | k + 1, x2, x7, x9, x10, x130000, x130001, x131000, x131001, x143000, x143001 => if (x9 != x10) = true then (some false) else (if x9 = true then (if 0 ≤ x2 then (if x2 < (x130001.length : Int) then (if x2 < (x131001.length : Int) then (if 0 ≤ ((rd_T45 x131001 x2).f0) then (if ((rd_T45 x131001 x2).f0) < ((rd_L3 x130001 x2).length : Int) then (if (x143001.length : Int) = (x131001.length : Int) then (if x2 < (x143001.length : Int) then (if x7 = true then (if ((rd_T45 x143001 x2).f0) > ((rd_T45 x131001 x2).f0) then (if ((rd_T45 x143001 x2).f0) ≤ ((rd_L3 x130001 x2).length : Int) then (if ((rd_T45 x143001 x2).f0) = (wrap64 (((rd_T45 x131001 x2).f0) + 1)) then (some true) else (if ((rd_T39 (rd_L3 x130001 x2) ((rd_T45 x131001 x2).f0)).f0) ≥ 8 then (some (((rd_T45 x143001 x2).f0) == ((rd_T39 (rd_L3 x130001 x2) ((rd_T45 x131001 x2).f0)).f4))) else (some false))) else (some false)) else (some false)) else (some false)) else (none)) else (some false)) else (none)) else (none)) else (none)) else (none)) else (none)) else (some x7))
end
def fencepostlaw10_ScOn.f (k : Nat) (l0_0 : List Int) (l0_1 : List (List (S39))) (l1_0 : List Int) (l1_1 : List (S45)) (a2 : Int) : Option (Bool) := (fencepostlaw10_head.f).bind fun t131 => ((fencepostlaw10_Great.f k l0_0 l0_1).bind fun t132 => (if t132 = true then (fencepostlaw10_ScOn.j0 k a2 t131 true l0_0 l0_1 l1_0 l1_1) else ((fencepostlaw10_Wide.f k l1_0 l1_1).bind fun t133 => (if t133 = true then (fencepostlaw10_ScOn.j0 k a2 t131 true l0_0 l0_1 l1_0 l1_1) else ((fencepostref10_Right.f k l0_0 l0_1 l1_0 l1_1).bind fun t134 => (fencepostlaw10_ScOn.j0 k a2 t131 (!t134) l0_0 l0_1 l1_0 l1_1))))))
theorem fencepostlaw10_ScOn.mono_l : ∀ k, (∀ y0 y1 y2 y3 y4 y5 y6, LeO (fencepostlaw10_ScOn.j0 k y0 y1 y2 y3 y4 y5 y6) (fencepostlaw10_ScOn.j0 (k + 1) y0 y1 y2 y3 y4 y5 y6)) ∧ (∀ y0 y1 y2 y3 y4 y5 y6 y7 y8 y9, LeO (fencepostlaw10_ScOn.j1 k y0 y1 y2 y3 y4 y5 y6 y7 y8 y9) (fencepostlaw10_ScOn.j1 (k + 1) y0 y1 y2 y3 y4 y5 y6 y7 y8 y9))
 | 0 => ⟨fun _ _ _ _ _ _ _ r h => by simp [fencepostlaw10_ScOn.j0] at h, fun _ _ _ _ _ _ _ _ _ _ r h => by simp [fencepostlaw10_ScOn.j1] at h⟩
 | k + 1 => by
  obtain ⟨ih0, ih1⟩ := fencepostlaw10_ScOn.mono_l k
  refine ⟨?_, ?_⟩
  ·intro y0 y1 y2 y3 y4 y5 y6
   unfold fencepostlaw10_ScOn.j0
   repeat' first
   | (with_reducible exact ih0 _ _ _ _ _ _ _)
   | (with_reducible exact ih1 _ _ _ _ _ _ _ _ _ _)
   | (with_reducible exact fencepostlaw10_Great.mono _ _ _)
   | (with_reducible exact fencepostlaw10_Wide.mono _ _ _)
   | (with_reducible exact fencepostref10_Right.mono _ _ _ _ _)
   | (with_reducible exact LeO.refl _)
   | (with_reducible exact LeO.none _)
   | (with_reducible refine LeO.ite ?_ ?_)
   | (with_reducible refine LeO.bind ?_ (fun _ => ?_))
   | exact ih0 _ _ _ _ _ _ _
   | exact ih1 _ _ _ _ _ _ _ _ _ _
   | exact fencepostlaw10_Great.mono _ _ _
   | exact fencepostlaw10_Wide.mono _ _ _
   | exact fencepostref10_Right.mono _ _ _ _ _
   | exact LeO.none _
   | refine LeO.ite ?_ ?_
   | refine LeO.bind ?_ (fun _ => ?_)
  ·intro y0 y1 y2 y3 y4 y5 y6 y7 y8 y9
   unfold fencepostlaw10_ScOn.j1
   repeat' first
   | (with_reducible exact ih0 _ _ _ _ _ _ _)
   | (with_reducible exact ih1 _ _ _ _ _ _ _ _ _ _)
   | (with_reducible exact fencepostlaw10_Great.mono _ _ _)
   | (with_reducible exact fencepostlaw10_Wide.mono _ _ _)
   | (with_reducible exact fencepostref10_Right.mono _ _ _ _ _)
   | (with_reducible exact LeO.refl _)
   | (with_reducible exact LeO.none _)
   | (with_reducible refine LeO.ite ?_ ?_)
   | (with_reducible refine LeO.bind ?_ (fun _ => ?_))
   | exact ih0 _ _ _ _ _ _ _
   | exact ih1 _ _ _ _ _ _ _ _ _ _
   | exact fencepostlaw10_Great.mono _ _ _
   | exact fencepostlaw10_Wide.mono _ _ _
   | exact fencepostref10_Right.mono _ _ _ _ _
   | exact LeO.none _
   | refine LeO.ite ?_ ?_
   | refine LeO.bind ?_ (fun _ => ?_)
theorem fencepostlaw10_ScOn.mono : ∀ a0 a1 a2 a3 a4 k, LeO (fencepostlaw10_ScOn.f k a0 a1 a2 a3 a4) (fencepostlaw10_ScOn.f (k + 1) a0 a1 a2 a3 a4) := by
 intro a0 a1 a2 a3 a4 k
 obtain ⟨ih0, ih1⟩ := fencepostlaw10_ScOn.mono_l k
 unfold fencepostlaw10_ScOn.f
 repeat' first
  | (with_reducible exact ih0 _ _ _ _ _ _ _)
  | (with_reducible exact ih1 _ _ _ _ _ _ _ _ _ _)
  | (with_reducible exact fencepostlaw10_Great.mono _ _ _)
  | (with_reducible exact fencepostlaw10_Wide.mono _ _ _)
  | (with_reducible exact fencepostref10_Right.mono _ _ _ _ _)
  | (with_reducible exact LeO.refl _)
  | (with_reducible exact LeO.none _)
  | (with_reducible refine LeO.ite ?_ ?_)
  | (with_reducible refine LeO.bind ?_ (fun _ => ?_))
  | exact ih0 _ _ _ _ _ _ _
  | exact ih1 _ _ _ _ _ _ _ _ _ _
  | exact fencepostlaw10_Great.mono _ _ _
  | exact fencepostlaw10_Wide.mono _ _ _
  | exact fencepostref10_Right.mono _ _ _ _ _
  | exact LeO.none _
  | refine LeO.ite ?_ ?_
  | refine LeO.bind ?_ (fun _ => ?_)
def fencepostlaw10_ScOn.T5 : Bool × List (List Nat × List Nat) := (true, [([], []), ([0], [0]), ([1], [1]), ([2], [2]), ([2], [2]), ([4, 2], [2, 4]), ([5, 2], [2, 5]), ([3, 6, 2], [2, 3, 6]), ([2, 7], [2, 7]), ([8, 2], [8]), ([9], [9]), ([10, 9], [9, 10]), ([9], [9]), ([11, 12, 9], [9, 11, 12]), ([13, 9], [9, 13]), ([14, 9], [9, 14]), ([9], [9]), ([16, 9], [9, 16]), ([9], [9]), ([17, 18, 9], [9, 17, 18]), ([19, 9], [9, 19]), ([20, 9], [9, 20]), ([15, 21, 9], [9, 15, 21]), ([9, 22], [9, 22]), ([23, 9, 0, 1, 2, 3, 4, 5, 6, 7, 8, 9, 10, 11, 12, 13, 14, 15, 16, 17, 18, 19, 20, 21, 22, 23], [23])])
def fencepostlaw10_ScOn.B5 : List Nat := [0, 1, 3, 7, 7, 23, 55, 127, 255, 511, 1023, 2047, 1023, 8191, 16383, 32767, 1023, 66559, 1023, 459775, 984063, 2032639, 4194303, 8388607, 16777215]
theorem fencepostlaw10_ScOn.tab5 : rtab .any (opsOf Try.f5 5) = fencepostlaw10_ScOn.T5 := by kernel_rfl
theorem fencepostlaw10_ScOn.bits5 : waitsOk fencepostlaw10_ScOn.T5.2 fencepostlaw10_ScOn.B5 = true := by kernel_rfl
def fencepostlaw10_ScOn.T10 : Bool × List (List Nat × List Nat) := (true, [([], []), ([0], [0]), ([], []), ([1, 2], [1, 2]), ([3], [3]), ([], []), ([5], [5]), ([], []), ([6, 7], [6, 7]), ([8], [8]), ([9], [9]), ([4, 10], [4, 10]), ([11], [11]), ([], []), ([13, 12, 0, 1, 2, 3, 4, 5, 6, 7, 8, 9, 10, 11, 12, 13], [12, 13])])
def fencepostlaw10_ScOn.B10 : List Nat := [0, 1, 0, 7, 15, 0, 32, 0, 224, 480, 992, 2047, 4095, 0, 16383]
theorem fencepostlaw10_ScOn.tab10 : rtab .any (opsOf Try.f5 10) = fencepostlaw10_ScOn.T10 := by kernel_rfl
theorem fencepostlaw10_ScOn.bits10 : waitsOk fencepostlaw10_ScOn.T10.2 fencepostlaw10_ScOn.B10 = true := by kernel_rfl
set_option maxHeartbeats 8000000 in
set_option maxRecDepth 100000 in
theorem fencepostlaw10_ScOn.calls (k : Nat) (A0_0 : Option Addr) (c0_0 : Nat) (l0_0 : List Int) (A0_1 : Option Addr) (c0_1 : Nat) (l0_1 : List (List (S39))) (A1_0 : Option Addr) (c1_0 : Nat) (l1_0 : List Int) (A1_1 : Option Addr) (c1_1 : Nat) (l1_1 : List (S45)) (a2 : Int) (r : Bool) (w : World) (hr0_0 : Kd.C (Kd.int .i64) w A0_0 l0_0.length l0_0) (hc0_0 : l0_0.length ≤ c0_0) (hr0_1 : Kd.C (Kd.slice 39 k39) w A0_1 l0_1.length l0_1) (hc0_1 : l0_1.length ≤ c0_1) (hr1_0 : Kd.C (Kd.int .i64) w A1_0 l1_0.length l1_0) (hc1_0 : l1_0.length ≤ c1_0) (hr1_1 : Kd.C k45 w A1_1 l1_1.length l1_1) (hc1_1 : l1_1.length ≤ c1_1) (ht_ : r = true) (h : fencepostlaw10_ScOn.f k l0_0 l0_1 l1_0 l1_1 a2 = some r) :
 Calls Try.prog 5 #[.agg #[.slice A0_0 l0_0.length c0_0, .slice A0_1 l0_1.length c0_1], .agg #[.slice A1_0 l1_0.length c1_0, .slice A1_1 l1_1.length c1_1], .int .i64 a2] w fun e w' => e = .returned (.bool r) ∧ Below w.heap.size w w' := by
 have hu25 := Try.underlying25
 have hu28 := Try.underlying28
 have hu39 := Try.underlying39
 have HR0_0 := Aside0.mk hr0_0
 have HC0_0 := Aside0.mk hc0_0
 clear hr0_0 hc0_0
 have HR0_1 := Aside0.mk hr0_1
 have HC0_1 := Aside0.mk hc0_1
 clear hr0_1 hc0_1
 have HR1_0 := Aside0.mk hr1_0
 have HC1_0 := Aside0.mk hc1_0
 clear hr1_0 hc1_0
 have HR1_1 := Aside0.mk hr1_1
 have HC1_1 := Aside0.mk hc1_1
 clear hr1_1 hc1_1
 have HB := Aside0.mk (Below.refl w.heap.size w)
 have HT := Aside0.mk ht_
 clear ht_
 have H : ((fencepostlaw10_head.f).bind fun t131 => ((fencepostlaw10_Great.f k l0_0 l0_1).bind fun t132 => (if t132 = true then (fencepostlaw10_ScOn.j0 k a2 t131 true l0_0 l0_1 l1_0 l1_1) else ((fencepostlaw10_Wide.f k l1_0 l1_1).bind fun t133 => (if t133 = true then (fencepostlaw10_ScOn.j0 k a2 t131 true l0_0 l0_1 l1_0 l1_1) else ((fencepostref10_Right.f k l0_0 l0_1 l1_0 l1_1).bind fun t134 => (fencepostlaw10_ScOn.j0 k a2 t131 (!t134) l0_0 l0_1 l1_0 l1_1))))))) = some r := h
 clear h
 replace H := Option.bind_eq_some_iff.mp H
 obtain ⟨t131, A40, H⟩ := H
 replace H : ((fencepostlaw10_Great.f k l0_0 l0_1).bind fun t132 => (if t132 = true then (fencepostlaw10_ScOn.j0 k a2 t131 true l0_0 l0_1 l1_0 l1_1) else ((fencepostlaw10_Wide.f k l1_0 l1_1).bind fun t133 => (if t133 = true then (fencepostlaw10_ScOn.j0 k a2 t131 true l0_0 l0_1 l1_0 l1_1) else ((fencepostref10_Right.f k l0_0 l0_1 l1_0 l1_1).bind fun t134 => (fencepostlaw10_ScOn.j0 k a2 t131 (!t134) l0_0 l0_1 l1_0 l1_1)))))) = some r := H
 have A4 := Aside0.mk A40
 clear A40
 have HC5 := Aside0.mk H
 clear H
 go_enter Try.func5, Try.ntmps5
 (try simp only [List.append_eq, List.cons_append, List.nil_append])
 go_upto_region 2 with (first | ((with_reducible refine gate_dst (N := 3) rfl ?_); (try (refine gate_guard (by rfl) ?_; dsimp only)); refine box_event ?hg (N := 3) ?hd (cs := #[.slice A0_0 l0_0.length c0_0, .slice A0_1 l0_1.length c0_1]) (t := 25) ?hr ?_; (case hd => rfl); (case hg => rfl); (case hr => first | (go_simp; done) | (go_simp; rfl)); intro gb129 hg w6 hbox hb; have n0_ := Aside0.mk (below_step (by repeat (first | (with_reducible first | exact HB.out | apply below_alloc | apply pw_below_drewN | apply below_drew1) | exact HB.out)) hb); have n1_ := Aside0.mk (hbox); have n2_ := Aside0.mk ((by rw [hg]; exact (below_size (by repeat (first | (with_reducible first | exact HB.out | apply below_alloc | apply pw_below_drewN | apply below_drew1) | exact HB.out))) : w.heap.size ≤ gb129)); have n3_ := Aside0.mk ((by rw [hg]; exact (below_size (by repeat (first | (with_reducible first | exact HB.out | apply below_alloc | apply pw_below_drewN | apply below_drew1) | exact HB.out))) : w.heap.size ≤ gb129)); clear HB; have HB := n0_; have BK129 := n1_; have GW129 := n2_; have GE129 := n3_; clear n0_ n1_ n2_ n3_; clear hb hbox hg) | ((with_reducible refine gate_dst (N := 4) rfl ?_); (try (refine gate_guard (by rfl) ?_; dsimp only)); refine box_event ?hg (N := 4) ?hd (cs := #[.slice A1_0 l1_0.length c1_0, .slice A1_1 l1_1.length c1_1]) (t := 28) ?hr ?_; (case hd => rfl); (case hg => rfl); (case hr => first | (go_simp; done) | (go_simp; rfl)); intro gb130 hg w7 hbox hb; have n0_ := Aside0.mk (blk_below (g := gb129) (o := .cells #[.slice A0_0 l0_0.length c0_0, .slice A0_1 l0_1.length c0_1] 25 (0, 0)) (by (with_reducible repeat (first | refine blk_drewN ?_ _ | refine blk_drew ?_ | refine blk_alloc ?_ _)); exact BK129.out) hb); have n1_ := Aside0.mk (below_step (by repeat (first | (with_reducible first | exact HB.out | apply below_alloc | apply pw_below_drewN | apply below_drew1 | refine below_set ?_ GE129.out) | exact HB.out)) hb); have n2_ := Aside0.mk (hbox); have n3_ := Aside0.mk ((by rw [hg]; exact (below_size (by repeat (first | (with_reducible first | exact HB.out | apply below_alloc | apply pw_below_drewN | apply below_drew1 | refine below_set ?_ GE129.out) | exact HB.out))) : w.heap.size ≤ gb130)); have n4_ := Aside0.mk ((by rw [hg]; exact (below_size (by repeat (first | (with_reducible first | exact HB.out | apply below_alloc | apply pw_below_drewN | apply below_drew1 | refine below_set ?_ GE129.out) | exact HB.out))) : w.heap.size ≤ gb130)); have n5_ := Aside0.mk ((by rw [hg]; exact Nat.ne_of_lt (blk_lt (g := gb129) (o := .cells #[.slice A0_0 l0_0.length c0_0, .slice A0_1 l0_1.length c0_1] 25 (0, 0)) (by (with_reducible repeat (first | refine blk_drewN ?_ _ | refine blk_drew ?_ | refine blk_alloc ?_ _)); exact BK129.out)) : gb129 ≠ gb130)); have n6_ := Aside0.mk ((by rw [hg]; exact Nat.ne_of_gt (blk_lt (g := gb129) (o := .cells #[.slice A0_0 l0_0.length c0_0, .slice A0_1 l0_1.length c0_1] 25 (0, 0)) (by (with_reducible repeat (first | refine blk_drewN ?_ _ | refine blk_drew ?_ | refine blk_alloc ?_ _)); exact BK129.out)) : gb130 ≠ gb129)); clear BK129; clear HB; have BK129 := n0_; have HB := n1_; have BK130 := n2_; have GW130 := n3_; have GE130 := n4_; have NB129_130 := n5_; have NB130_129 := n6_; clear n0_ n1_ n2_ n3_ n4_ n5_ n6_; clear hb hbox hg) | ((with_reducible refine gate_callee (f := 9) rfl ?_); refine goesL_ (some 13) rfl rfl Try.func9 (by kernel_rfl) rfl #[] rfl (by (try simp only [List.map_toArray, List.map_cons, List.map_nil]); first | done | rfl | (simp only [List.length_drop, List.length_take]; rfl)) ?_; (with_reducible refine (fencepostlaw10_head.calls  t131 _ A4.out).mono ?_); rintro e w8 ⟨rfl, hb⟩; refine ⟨_, rfl, ?_⟩; have n0_ := Aside0.mk (blk_below (g := gb129) (o := .cells #[.slice A0_0 l0_0.length c0_0, .slice A0_1 l0_1.length c0_1] 25 (0, 0)) (by (with_reducible repeat (first | refine blk_drewN ?_ _ | refine blk_drew ?_ | refine blk_alloc ?_ _)); exact BK129.out) hb); have n1_ := Aside0.mk (blk_below (g := gb130) (o := .cells #[.slice A1_0 l1_0.length c1_0, .slice A1_1 l1_1.length c1_1] 28 (0, 0)) (by (with_reducible repeat (first | refine blk_drewN ?_ _ | refine blk_drew ?_ | refine blk_alloc ?_ _)); exact BK130.out) hb); have n2_ := Aside0.mk (below_step (by repeat (first | (with_reducible first | exact HB.out | apply below_alloc | apply pw_below_drewN | apply below_drew1 | refine below_set ?_ GE129.out | refine below_set ?_ GE130.out) | exact HB.out)) hb); clear BK129; clear BK130; clear HB; have BK129 := n0_; have BK130 := n1_; have HB := n2_; clear n0_ n1_ n2_; (try clear hb); (try clear hb2); (try clear hk); (try clear hi)))
 (try simp only [Act.put, List.setIfInBounds_toArray, List.set_cons_zero, List.set_cons_succ])
 go_cut [25] (fun v25 wc => ∃ (kq : Nat) (x25_4 : Bool), v25 = .bool x25_4 ∧ Aside0 (fencepostlaw10_ScOn.j0 kq a2 t131 x25_4 l0_0 l0_1 l1_0 l1_1 = some r) ∧ Aside0 (kq ≤ k) ∧ Aside0 (wc.heap[gb129]? = some (.cells #[(.slice A0_0 l0_0.length c0_0), (.slice A0_1 l0_1.length c0_1)] 25 (0, 0))) ∧ Aside0 (wc.heap[gb130]? = some (.cells #[(.slice A1_0 l1_0.length c1_0), (.slice A1_1 l1_1.length c1_1)] 28 (0, 0))) ∧ Aside0 (Below w.heap.size w wc))
 case first =>
  have H := HC5.out
  clear HC5
  replace H := Option.bind_eq_some_iff.mp H
  obtain ⟨t132, A90, H⟩ := H
  replace H : (if t132 = true then (fencepostlaw10_ScOn.j0 k a2 t131 true l0_0 l0_1 l1_0 l1_1) else ((fencepostlaw10_Wide.f k l1_0 l1_1).bind fun t133 => (if t133 = true then (fencepostlaw10_ScOn.j0 k a2 t131 true l0_0 l0_1 l1_0 l1_1) else ((fencepostref10_Right.f k l0_0 l0_1 l1_0 l1_1).bind fun t134 => (fencepostlaw10_ScOn.j0 k a2 t131 (!t134) l0_0 l0_1 l1_0 l1_1))))) = some r := H
  have A9 := Aside0.mk A90
  clear A90
  by_cases c10 : t132 = true
  ·subst c10
   have H1 : (fencepostlaw10_ScOn.j0 k a2 t131 true l0_0 l0_1 l1_0 l1_1) = some r := by rw [if_pos rfl] at H; exact H
   clear H
   have H := H1
   clear H1
   have H' := Aside0.mk H
   clear H
   have hnb11 := NB129_130.out
   have hnc11 := NB130_129.out
   have hcz12_0 : w8.cell? ⟨gb129, 0, none⟩ = some (.slice A0_0 l0_0.length c0_0) := (blk_cell BK129.out 0).trans rfl
   have hcz12_1 : w8.cell? ⟨gb129, 1, none⟩ = some (.slice A0_1 l0_1.length c0_1) := (blk_cell BK129.out 1).trans rfl
   have hfz12_0 := blk_frozen BK129.out 0
   have hfz12_1 := blk_frozen BK129.out 1
   go_wp2_with (first | ((with_reducible refine gate_callee (f := 10) rfl ?_); refine goesL_ (some 15) rfl rfl Try.func10 (by kernel_rfl) rfl #[.agg #[.slice A0_0 l0_0.length c0_0, .slice A0_1 l0_1.length c0_1]] rfl (by (try simp only [List.map_toArray, List.map_cons, List.map_nil]); first | done | rfl | (simp only [List.length_drop, List.length_take]; rfl)) ?_; (with_reducible refine (fencepostlaw10_Great.calls k _ _ l0_0 _ _ l0_1 true _ ?side1 ?side2 ?side3 ?side4 A9.out).mono ?_); (case side1 => repeat (first | exact (Kd.C_below HR0_0.out HB.out) | (with_reducible refine Kd.C_alloc ?_ _) | (with_reducible refine Kd.C_drewN ?_ _) | (with_reducible refine Kd.C_drew ?_))); (case side2 => exact HC0_0.out); (case side3 => repeat (first | exact (Kd.C_below HR0_1.out HB.out) | (with_reducible refine Kd.C_alloc ?_ _) | (with_reducible refine Kd.C_drewN ?_ _) | (with_reducible refine Kd.C_drew ?_))); (case side4 => exact HC0_1.out); rintro e w13 ⟨rfl, hb⟩; refine ⟨_, rfl, ?_⟩; have n0_ := Aside0.mk (blk_below (g := gb129) (o := .cells #[.slice A0_0 l0_0.length c0_0, .slice A0_1 l0_1.length c0_1] 25 (0, 0)) (by (with_reducible repeat (first | refine blk_drewN ?_ _ | refine blk_drew ?_ | refine blk_alloc ?_ _)); exact BK129.out) hb); have n1_ := Aside0.mk (blk_below (g := gb130) (o := .cells #[.slice A1_0 l1_0.length c1_0, .slice A1_1 l1_1.length c1_1] 28 (0, 0)) (by (with_reducible repeat (first | refine blk_drewN ?_ _ | refine blk_drew ?_ | refine blk_alloc ?_ _)); exact BK130.out) hb); have n2_ := Aside0.mk (below_step (by repeat (first | (with_reducible first | exact HB.out | apply below_alloc | apply pw_below_drewN | apply below_drew1 | refine below_set ?_ GE129.out | refine below_set ?_ GE130.out) | exact HB.out)) hb); clear BK129; clear BK130; clear HB; have BK129 := n0_; have BK130 := n1_; have HB := n2_; clear n0_ n1_ n2_; (try clear hb); (try clear hb2); (try clear hk); (try clear hi)))
   go_meet
   case rel => exact ⟨_, (true), (by first | rfl | (simp; done) | (simp [*]; done)), H', ⟨by first | omega | exact Nat.le_refl _⟩, ⟨by (with_reducible repeat (first | refine blk_drewN ?_ _ | refine blk_drew ?_ | refine blk_alloc ?_ _)); exact BK129.out⟩, ⟨by (with_reducible repeat (first | refine blk_drewN ?_ _ | refine blk_drew ?_ | refine blk_alloc ?_ _)); exact BK130.out⟩, ⟨by repeat (first | (with_reducible first | exact HB.out | apply below_alloc | apply pw_below_drewN | apply below_drew1 | refine below_set ?_ GE129.out | refine below_set ?_ GE130.out) | exact HB.out)⟩⟩
  ·replace c10 := Bool.eq_false_iff.mpr c10
   subst c10
   have H1 : ((fencepostlaw10_Wide.f k l1_0 l1_1).bind fun t133 => (if t133 = true then (fencepostlaw10_ScOn.j0 k a2 t131 true l0_0 l0_1 l1_0 l1_1) else ((fencepostref10_Right.f k l0_0 l0_1 l1_0 l1_1).bind fun t134 => (fencepostlaw10_ScOn.j0 k a2 t131 (!t134) l0_0 l0_1 l1_0 l1_1)))) = some r := by rw [if_neg (show ¬ (false = true) by decide)] at H; exact H
   clear H
   have H := H1
   clear H1
   replace H := Option.bind_eq_some_iff.mp H
   obtain ⟨t133, A140, H⟩ := H
   replace H : (if t133 = true then (fencepostlaw10_ScOn.j0 k a2 t131 true l0_0 l0_1 l1_0 l1_1) else ((fencepostref10_Right.f k l0_0 l0_1 l1_0 l1_1).bind fun t134 => (fencepostlaw10_ScOn.j0 k a2 t131 (!t134) l0_0 l0_1 l1_0 l1_1))) = some r := H
   have A14 := Aside0.mk A140
   clear A140
   by_cases c15 : t133 = true
   ·subst c15
    have H1 : (fencepostlaw10_ScOn.j0 k a2 t131 true l0_0 l0_1 l1_0 l1_1) = some r := by rw [if_pos rfl] at H; exact H
    clear H
    have H := H1
    clear H1
    have H' := Aside0.mk H
    clear H
    have hnb16 := NB129_130.out
    have hnc16 := NB130_129.out
    have hcz17_0 : w8.cell? ⟨gb129, 0, none⟩ = some (.slice A0_0 l0_0.length c0_0) := (blk_cell BK129.out 0).trans rfl
    have hcz17_1 : w8.cell? ⟨gb129, 1, none⟩ = some (.slice A0_1 l0_1.length c0_1) := (blk_cell BK129.out 1).trans rfl
    have hfz17_0 := blk_frozen BK129.out 0
    have hfz17_1 := blk_frozen BK129.out 1
    go_wp2_with (first | ((with_reducible refine gate_callee (f := 10) rfl ?_); refine goesL_ (some 15) rfl rfl Try.func10 (by kernel_rfl) rfl #[.agg #[.slice A0_0 l0_0.length c0_0, .slice A0_1 l0_1.length c0_1]] rfl (by (try simp only [List.map_toArray, List.map_cons, List.map_nil]); first | done | rfl | (simp only [List.length_drop, List.length_take]; rfl)) ?_; (with_reducible refine (fencepostlaw10_Great.calls k _ _ l0_0 _ _ l0_1 false _ ?side1 ?side2 ?side3 ?side4 A9.out).mono ?_); (case side1 => repeat (first | exact (Kd.C_below HR0_0.out HB.out) | (with_reducible refine Kd.C_alloc ?_ _) | (with_reducible refine Kd.C_drewN ?_ _) | (with_reducible refine Kd.C_drew ?_))); (case side2 => exact HC0_0.out); (case side3 => repeat (first | exact (Kd.C_below HR0_1.out HB.out) | (with_reducible refine Kd.C_alloc ?_ _) | (with_reducible refine Kd.C_drewN ?_ _) | (with_reducible refine Kd.C_drew ?_))); (case side4 => exact HC0_1.out); rintro e w18 ⟨rfl, hb⟩; refine ⟨_, rfl, ?_⟩; have n0_ := Aside0.mk (blk_below (g := gb129) (o := .cells #[.slice A0_0 l0_0.length c0_0, .slice A0_1 l0_1.length c0_1] 25 (0, 0)) (by (with_reducible repeat (first | refine blk_drewN ?_ _ | refine blk_drew ?_ | refine blk_alloc ?_ _)); exact BK129.out) hb); have n1_ := Aside0.mk (blk_below (g := gb130) (o := .cells #[.slice A1_0 l1_0.length c1_0, .slice A1_1 l1_1.length c1_1] 28 (0, 0)) (by (with_reducible repeat (first | refine blk_drewN ?_ _ | refine blk_drew ?_ | refine blk_alloc ?_ _)); exact BK130.out) hb); have n2_ := Aside0.mk (below_step (by repeat (first | (with_reducible first | exact HB.out | apply below_alloc | apply pw_below_drewN | apply below_drew1 | refine below_set ?_ GE129.out | refine below_set ?_ GE130.out) | exact HB.out)) hb); clear BK129; clear BK130; clear HB; have BK129 := n0_; have BK130 := n1_; have HB := n2_; clear n0_ n1_ n2_; (try clear hb); (try clear hb2); (try clear hk); (try clear hi); have hcz19_0 : w18.cell? ⟨gb130, 0, none⟩ = some (.slice A1_0 l1_0.length c1_0) := (blk_cell BK130.out 0).trans rfl; have hcz19_1 : w18.cell? ⟨gb130, 1, none⟩ = some (.slice A1_1 l1_1.length c1_1) := (blk_cell BK130.out 1).trans rfl; have hfz19_0 := blk_frozen BK130.out 0; have hfz19_1 := blk_frozen BK130.out 1) | (go_at_call 11; (with_reducible refine (fencepostlaw10_Wide.calls k _ _ l1_0 _ _ l1_1 true _ ?side1 ?side2 ?side3 ?side4 A14.out).mono ?_); (case side1 => repeat (first | exact (Kd.C_below HR1_0.out HB.out) | (with_reducible refine Kd.C_alloc ?_ _) | (with_reducible refine Kd.C_drewN ?_ _) | (with_reducible refine Kd.C_drew ?_))); (case side2 => exact HC1_0.out); (case side3 => repeat (first | exact (Kd.C_below HR1_1.out HB.out) | (with_reducible refine Kd.C_alloc ?_ _) | (with_reducible refine Kd.C_drewN ?_ _) | (with_reducible refine Kd.C_drew ?_))); (case side4 => exact HC1_1.out); rintro e w20 ⟨rfl, hb⟩; have n0_ := Aside0.mk (blk_below (g := gb129) (o := .cells #[.slice A0_0 l0_0.length c0_0, .slice A0_1 l0_1.length c0_1] 25 (0, 0)) (by (with_reducible repeat (first | refine blk_drewN ?_ _ | refine blk_drew ?_ | refine blk_alloc ?_ _)); exact BK129.out) hb); have n1_ := Aside0.mk (blk_below (g := gb130) (o := .cells #[.slice A1_0 l1_0.length c1_0, .slice A1_1 l1_1.length c1_1] 28 (0, 0)) (by (with_reducible repeat (first | refine blk_drewN ?_ _ | refine blk_drew ?_ | refine blk_alloc ?_ _)); exact BK130.out) hb); have n2_ := Aside0.mk (below_step (by repeat (first | (with_reducible first | exact HB.out | apply below_alloc | apply pw_below_drewN | apply below_drew1 | refine below_set ?_ GE129.out | refine below_set ?_ GE130.out) | exact HB.out)) hb); clear BK129; clear BK130; clear HB; have BK129 := n0_; have BK130 := n1_; have HB := n2_; clear n0_ n1_ n2_; (try clear hb); (try clear hb2); (try clear hk); (try clear hi)))
    go_meet
    case rel => exact ⟨_, (true), (by first | rfl | (simp; done) | (simp [*]; done)), H', ⟨by first | omega | exact Nat.le_refl _⟩, ⟨by (with_reducible repeat (first | refine blk_drewN ?_ _ | refine blk_drew ?_ | refine blk_alloc ?_ _)); exact BK129.out⟩, ⟨by (with_reducible repeat (first | refine blk_drewN ?_ _ | refine blk_drew ?_ | refine blk_alloc ?_ _)); exact BK130.out⟩, ⟨by repeat (first | (with_reducible first | exact HB.out | apply below_alloc | apply pw_below_drewN | apply below_drew1 | refine below_set ?_ GE129.out | refine below_set ?_ GE130.out) | exact HB.out)⟩⟩
   ·replace c15 := Bool.eq_false_iff.mpr c15
    subst c15
    have H1 : ((fencepostref10_Right.f k l0_0 l0_1 l1_0 l1_1).bind fun t134 => (fencepostlaw10_ScOn.j0 k a2 t131 (!t134) l0_0 l0_1 l1_0 l1_1)) = some r := by rw [if_neg (show ¬ (false = true) by decide)] at H; exact H
    clear H
    have H := H1
    clear H1
    replace H := Option.bind_eq_some_iff.mp H
    obtain ⟨t134, A210, H⟩ := H
    replace H : (fencepostlaw10_ScOn.j0 k a2 t131 (!t134) l0_0 l0_1 l1_0 l1_1) = some r := H
    have A21 := Aside0.mk A210
    clear A210
    have H' := Aside0.mk H
    clear H
    have hnb22 := NB129_130.out
    have hnc22 := NB130_129.out
    have hcz23_0 : w8.cell? ⟨gb129, 0, none⟩ = some (.slice A0_0 l0_0.length c0_0) := (blk_cell BK129.out 0).trans rfl
    have hcz23_1 : w8.cell? ⟨gb129, 1, none⟩ = some (.slice A0_1 l0_1.length c0_1) := (blk_cell BK129.out 1).trans rfl
    have hfz23_0 := blk_frozen BK129.out 0
    have hfz23_1 := blk_frozen BK129.out 1
    go_wp2_with (first | ((with_reducible refine gate_callee (f := 10) rfl ?_); refine goesL_ (some 15) rfl rfl Try.func10 (by kernel_rfl) rfl #[.agg #[.slice A0_0 l0_0.length c0_0, .slice A0_1 l0_1.length c0_1]] rfl (by (try simp only [List.map_toArray, List.map_cons, List.map_nil]); first | done | rfl | (simp only [List.length_drop, List.length_take]; rfl)) ?_; (with_reducible refine (fencepostlaw10_Great.calls k _ _ l0_0 _ _ l0_1 false _ ?side1 ?side2 ?side3 ?side4 A9.out).mono ?_); (case side1 => repeat (first | exact (Kd.C_below HR0_0.out HB.out) | (with_reducible refine Kd.C_alloc ?_ _) | (with_reducible refine Kd.C_drewN ?_ _) | (with_reducible refine Kd.C_drew ?_))); (case side2 => exact HC0_0.out); (case side3 => repeat (first | exact (Kd.C_below HR0_1.out HB.out) | (with_reducible refine Kd.C_alloc ?_ _) | (with_reducible refine Kd.C_drewN ?_ _) | (with_reducible refine Kd.C_drew ?_))); (case side4 => exact HC0_1.out); rintro e w24 ⟨rfl, hb⟩; refine ⟨_, rfl, ?_⟩; have n0_ := Aside0.mk (blk_below (g := gb129) (o := .cells #[.slice A0_0 l0_0.length c0_0, .slice A0_1 l0_1.length c0_1] 25 (0, 0)) (by (with_reducible repeat (first | refine blk_drewN ?_ _ | refine blk_drew ?_ | refine blk_alloc ?_ _)); exact BK129.out) hb); have n1_ := Aside0.mk (blk_below (g := gb130) (o := .cells #[.slice A1_0 l1_0.length c1_0, .slice A1_1 l1_1.length c1_1] 28 (0, 0)) (by (with_reducible repeat (first | refine blk_drewN ?_ _ | refine blk_drew ?_ | refine blk_alloc ?_ _)); exact BK130.out) hb); have n2_ := Aside0.mk (below_step (by repeat (first | (with_reducible first | exact HB.out | apply below_alloc | apply pw_below_drewN | apply below_drew1 | refine below_set ?_ GE129.out | refine below_set ?_ GE130.out) | exact HB.out)) hb); clear BK129; clear BK130; clear HB; have BK129 := n0_; have BK130 := n1_; have HB := n2_; clear n0_ n1_ n2_; (try clear hb); (try clear hb2); (try clear hk); (try clear hi); have hcz25_0 : w24.cell? ⟨gb130, 0, none⟩ = some (.slice A1_0 l1_0.length c1_0) := (blk_cell BK130.out 0).trans rfl; have hcz25_1 : w24.cell? ⟨gb130, 1, none⟩ = some (.slice A1_1 l1_1.length c1_1) := (blk_cell BK130.out 1).trans rfl; have hfz25_0 := blk_frozen BK130.out 0; have hfz25_1 := blk_frozen BK130.out 1) | (go_at_call 11; (with_reducible refine (fencepostlaw10_Wide.calls k _ _ l1_0 _ _ l1_1 false _ ?side1 ?side2 ?side3 ?side4 A14.out).mono ?_); (case side1 => repeat (first | exact (Kd.C_below HR1_0.out HB.out) | (with_reducible refine Kd.C_alloc ?_ _) | (with_reducible refine Kd.C_drewN ?_ _) | (with_reducible refine Kd.C_drew ?_))); (case side2 => exact HC1_0.out); (case side3 => repeat (first | exact (Kd.C_below HR1_1.out HB.out) | (with_reducible refine Kd.C_alloc ?_ _) | (with_reducible refine Kd.C_drewN ?_ _) | (with_reducible refine Kd.C_drew ?_))); (case side4 => exact HC1_1.out); rintro e w26 ⟨rfl, hb⟩; have n0_ := Aside0.mk (blk_below (g := gb129) (o := .cells #[.slice A0_0 l0_0.length c0_0, .slice A0_1 l0_1.length c0_1] 25 (0, 0)) (by (with_reducible repeat (first | refine blk_drewN ?_ _ | refine blk_drew ?_ | refine blk_alloc ?_ _)); exact BK129.out) hb); have n1_ := Aside0.mk (blk_below (g := gb130) (o := .cells #[.slice A1_0 l1_0.length c1_0, .slice A1_1 l1_1.length c1_1] 28 (0, 0)) (by (with_reducible repeat (first | refine blk_drewN ?_ _ | refine blk_drew ?_ | refine blk_alloc ?_ _)); exact BK130.out) hb); have n2_ := Aside0.mk (below_step (by repeat (first | (with_reducible first | exact HB.out | apply below_alloc | apply pw_below_drewN | apply below_drew1 | refine below_set ?_ GE129.out | refine below_set ?_ GE130.out) | exact HB.out)) hb); clear BK129; clear BK130; clear HB; have BK129 := n0_; have BK130 := n1_; have HB := n2_; clear n0_ n1_ n2_; (try clear hb); (try clear hb2); (try clear hk); (try clear hi); have hcz27_0 : w26.cell? ⟨gb129, 0, none⟩ = some (.slice A0_0 l0_0.length c0_0) := (blk_cell BK129.out 0).trans rfl; have hcz27_1 : w26.cell? ⟨gb129, 1, none⟩ = some (.slice A0_1 l0_1.length c0_1) := (blk_cell BK129.out 1).trans rfl; have hfz27_0 := blk_frozen BK129.out 0; have hfz27_1 := blk_frozen BK129.out 1; have hcz28_0 : w26.cell? ⟨gb130, 0, none⟩ = some (.slice A1_0 l1_0.length c1_0) := (blk_cell BK130.out 0).trans rfl; have hcz28_1 : w26.cell? ⟨gb130, 1, none⟩ = some (.slice A1_1 l1_1.length c1_1) := (blk_cell BK130.out 1).trans rfl; have hfz28_0 := blk_frozen BK130.out 0; have hfz28_1 := blk_frozen BK130.out 1) | (go_at_call 13; (with_reducible refine (fencepostref10_Right.calls k _ _ l0_0 _ _ l0_1 _ _ l1_0 _ _ l1_1 t134 _ ?side1 ?side2 ?side3 ?side4 ?side5 ?side6 ?side7 ?side8 A21.out).mono ?_); (case side1 => repeat (first | exact (Kd.C_below HR0_0.out HB.out) | (with_reducible refine Kd.C_alloc ?_ _) | (with_reducible refine Kd.C_drewN ?_ _) | (with_reducible refine Kd.C_drew ?_))); (case side2 => exact HC0_0.out); (case side3 => repeat (first | exact (Kd.C_below HR0_1.out HB.out) | (with_reducible refine Kd.C_alloc ?_ _) | (with_reducible refine Kd.C_drewN ?_ _) | (with_reducible refine Kd.C_drew ?_))); (case side4 => exact HC0_1.out); (case side5 => repeat (first | exact (Kd.C_below HR1_0.out HB.out) | (with_reducible refine Kd.C_alloc ?_ _) | (with_reducible refine Kd.C_drewN ?_ _) | (with_reducible refine Kd.C_drew ?_))); (case side6 => exact HC1_0.out); (case side7 => repeat (first | exact (Kd.C_below HR1_1.out HB.out) | (with_reducible refine Kd.C_alloc ?_ _) | (with_reducible refine Kd.C_drewN ?_ _) | (with_reducible refine Kd.C_drew ?_))); (case side8 => exact HC1_1.out); rintro e w29 ⟨rfl, hb⟩; have n0_ := Aside0.mk (blk_below (g := gb129) (o := .cells #[.slice A0_0 l0_0.length c0_0, .slice A0_1 l0_1.length c0_1] 25 (0, 0)) (by (with_reducible repeat (first | refine blk_drewN ?_ _ | refine blk_drew ?_ | refine blk_alloc ?_ _)); exact BK129.out) hb); have n1_ := Aside0.mk (blk_below (g := gb130) (o := .cells #[.slice A1_0 l1_0.length c1_0, .slice A1_1 l1_1.length c1_1] 28 (0, 0)) (by (with_reducible repeat (first | refine blk_drewN ?_ _ | refine blk_drew ?_ | refine blk_alloc ?_ _)); exact BK130.out) hb); have n2_ := Aside0.mk (below_step (by repeat (first | (with_reducible first | exact HB.out | apply below_alloc | apply pw_below_drewN | apply below_drew1 | refine below_set ?_ GE129.out | refine below_set ?_ GE130.out) | exact HB.out)) hb); clear BK129; clear BK130; clear HB; have BK129 := n0_; have BK130 := n1_; have HB := n2_; clear n0_ n1_ n2_; (try clear hb); (try clear hb2); (try clear hk); (try clear hi)))
    go_meet
    case rel => exact ⟨_, (!t134), (by first | rfl | (simp; done) | (simp [*]; done)), H', ⟨by first | omega | exact Nat.le_refl _⟩, ⟨by (with_reducible repeat (first | refine blk_drewN ?_ _ | refine blk_drew ?_ | refine blk_alloc ?_ _)); exact BK129.out⟩, ⟨by (with_reducible repeat (first | refine blk_drewN ?_ _ | refine blk_drew ?_ | refine blk_alloc ?_ _)); exact BK130.out⟩, ⟨by repeat (first | (with_reducible first | exact HB.out | apply below_alloc | apply pw_below_drewN | apply below_drew1 | refine below_set ?_ GE129.out | refine below_set ?_ GE130.out) | exact HB.out)⟩⟩
 case rest =>
  clear HC5
  try clear c1
  try clear c2
  try clear p2
  try clear c5
  try clear c9
  try clear c10
  try clear c11
  try clear c15
  try clear c16
  try clear c22
  try clear hcz12_0
  try clear hcz12_1
  try clear hcz17_0
  try clear hcz17_1
  try clear hcz19_0
  try clear hcz19_1
  try clear hcz23_0
  try clear hcz23_1
  try clear hcz25_0
  try clear hcz25_1
  try clear hcz27_0
  try clear hcz27_1
  try clear hcz28_0
  try clear hcz28_1
  try clear hfz12_0
  try clear hfz12_1
  try clear hfz17_0
  try clear hfz17_1
  try clear hfz19_0
  try clear hfz19_1
  try clear hfz23_0
  try clear hfz23_1
  try clear hfz25_0
  try clear hfz25_1
  try clear hfz27_0
  try clear hfz27_1
  try clear hfz28_0
  try clear hfz28_1
  obtain ⟨kq, x25_4, rfl, HA, HJ4, BK129, BK130, HB⟩ := hcut
  cases kq with
  | zero => exact absurd HA.out (by simp [fencepostlaw10_ScOn.j0])
  | succ kj4 =>
   have H := HA.out
   clear HA
   simp only [fencepostlaw10_ScOn.j0] at H
   by_cases c30 : x25_4 = true
   ·subst c30
    have H1 : (some t131) = some r := by rw [if_pos rfl] at H; exact H
    clear H
    have H := H1
    clear H1
    obtain rfl := Option.some.inj H
    go_wp2
    go_ret
    exact ⟨by first | rfl | (simp [errW_none, errW_some] <;> rfl) | (simp [*, errW_none, errW_some] <;> rfl), by repeat (first | (with_reducible first | exact HB.out | apply below_alloc | apply pw_below_drewN | apply below_drew1 | refine below_set ?_ GE129.out | refine below_set ?_ GE130.out) | exact HB.out)⟩
   ·replace c30 := Bool.eq_false_iff.mpr c30
    subst c30
    have H1 : ((sc_Step.f l0_0 l0_1 l1_0 l1_1 a2).bind fun bt135 => (if a2 ≥ 0 then (if a2 < (l1_1.length : Int) then (if 0 ≤ a2 then (if a2 < (l0_1.length : Int) then (fencepostlaw10_ScOn.j1 kj4 a2 t131 bt135.2.2 (decide (((rd_T45 l1_1 a2).f0) < ((rd_L3 l0_1 a2).length : Int))) l0_0 l0_1 l1_0 l1_1 bt135.1 bt135.2.1) else (none)) else (none)) else (fencepostlaw10_ScOn.j1 kj4 a2 t131 bt135.2.2 false l0_0 l0_1 l1_0 l1_1 bt135.1 bt135.2.1)) else (fencepostlaw10_ScOn.j1 kj4 a2 t131 bt135.2.2 false l0_0 l0_1 l1_0 l1_1 bt135.1 bt135.2.1))) = some r := by rw [if_neg (show ¬ (false = true) by decide)] at H; exact H
    clear H
    have H := H1
    clear H1
    replace H := Option.bind_eq_some_iff.mp H
    obtain ⟨⟨t135, t138, t141⟩, A310, H⟩ := H
    replace H : (if a2 ≥ 0 then (if a2 < (l1_1.length : Int) then (if 0 ≤ a2 then (if a2 < (l0_1.length : Int) then (fencepostlaw10_ScOn.j1 kj4 a2 t131 t141 (decide (((rd_T45 l1_1 a2).f0) < ((rd_L3 l0_1 a2).length : Int))) l0_0 l0_1 l1_0 l1_1 t135 t138) else (none)) else (none)) else (fencepostlaw10_ScOn.j1 kj4 a2 t131 t141 false l0_0 l0_1 l1_0 l1_1 t135 t138)) else (fencepostlaw10_ScOn.j1 kj4 a2 t131 t141 false l0_0 l0_1 l1_0 l1_1 t135 t138)) = some r := H
    have A31 := Aside0.mk A310
    clear A310
    have HC32 := Aside0.mk H
    clear H
    have hnb33 := NB129_130.out
    have hnc33 := NB130_129.out
    have hcz34_0 : wc.cell? ⟨gb129, 0, none⟩ = some (.slice A0_0 l0_0.length c0_0) := (blk_cell BK129.out 0).trans rfl
    have hcz34_1 : wc.cell? ⟨gb129, 1, none⟩ = some (.slice A0_1 l0_1.length c0_1) := (blk_cell BK129.out 1).trans rfl
    have hfz34_0 := blk_frozen BK129.out 0
    have hfz34_1 := blk_frozen BK129.out 1
    have hcz35_0 : wc.cell? ⟨gb130, 0, none⟩ = some (.slice A1_0 l1_0.length c1_0) := (blk_cell BK130.out 0).trans rfl
    have hcz35_1 : wc.cell? ⟨gb130, 1, none⟩ = some (.slice A1_1 l1_1.length c1_1) := (blk_cell BK130.out 1).trans rfl
    have hfz35_0 := blk_frozen BK130.out 0
    have hfz35_1 := blk_frozen BK130.out 1
    go_upto_region 5 with (first | ((with_reducible refine gate_callee (f := 17) rfl ?_); refine goesL_ (some 31) rfl rfl Try.func17 (by kernel_rfl) rfl #[.agg #[.slice A0_0 l0_0.length c0_0, .slice A0_1 l0_1.length c0_1], .agg #[.slice A1_0 l1_0.length c1_0, .slice A1_1 l1_1.length c1_1], .int .i64 a2] rfl (by (try simp only [List.map_toArray, List.map_cons, List.map_nil]); first | done | rfl | (simp only [List.length_drop, List.length_take]; rfl)) ?_; (with_reducible refine (sc_Step.calls _ _ l0_0 _ _ l0_1 _ _ l1_0 _ _ l1_1 a2 t135 t138 t141 _ ?side1 ?side2 ?side3 ?side4 ?side5 ?side6 ?side7 ?side8 A31.out).mono ?_); (case side1 => repeat (first | exact (Kd.C_below HR0_0.out HB.out) | (with_reducible refine Kd.C_alloc ?_ _) | (with_reducible refine Kd.C_drewN ?_ _) | (with_reducible refine Kd.C_drew ?_))); (case side2 => exact HC0_0.out); (case side3 => repeat (first | exact (Kd.C_below HR0_1.out HB.out) | (with_reducible refine Kd.C_alloc ?_ _) | (with_reducible refine Kd.C_drewN ?_ _) | (with_reducible refine Kd.C_drew ?_))); (case side4 => exact HC0_1.out); (case side5 => repeat (first | exact (Kd.C_below HR1_0.out HB.out) | (with_reducible refine Kd.C_alloc ?_ _) | (with_reducible refine Kd.C_drewN ?_ _) | (with_reducible refine Kd.C_drew ?_))); (case side6 => exact HC1_0.out); (case side7 => repeat (first | exact (Kd.C_below HR1_1.out HB.out) | (with_reducible refine Kd.C_alloc ?_ _) | (with_reducible refine Kd.C_drewN ?_ _) | (with_reducible refine Kd.C_drew ?_))); (case side8 => exact HC1_1.out); rintro e w36 ⟨v136, v139, rfl, ho0, ho1, hb⟩; refine ⟨_, rfl, ?_⟩; have n0_ := Aside0.mk (Kd.V_lower (Kd.V_mono (ok' := fun k_ => k_ ≠ gb129 ∧ k_ ≠ gb130) ho0 (fun k_ hk_ => ⟨(Kd.freshB (g := gb129) (o := .cells #[.slice A0_0 l0_0.length c0_0, .slice A0_1 l0_1.length c0_1] 25 (0, 0)) (by (with_reducible repeat (first | refine blk_drewN ?_ _ | refine blk_drew ?_ | refine blk_alloc ?_ _)); exact BK129.out) k_ hk_), (Kd.freshB (g := gb130) (o := .cells #[.slice A1_0 l1_0.length c1_0, .slice A1_1 l1_1.length c1_1] 28 (0, 0)) (by (with_reducible repeat (first | refine blk_drewN ?_ _ | refine blk_drew ?_ | refine blk_alloc ?_ _)); exact BK130.out) k_ hk_)⟩)) (below_size (by repeat (first | (with_reducible first | exact HB.out | apply below_alloc | apply pw_below_drewN | apply below_drew1 | refine below_set ?_ GE129.out | refine below_set ?_ GE130.out) | exact HB.out)))); have n1_ := Aside0.mk (Kd.V_lower (Kd.V_mono (ok' := fun k_ => k_ ≠ gb129 ∧ k_ ≠ gb130) ho1 (fun k_ hk_ => ⟨(Kd.freshB (g := gb129) (o := .cells #[.slice A0_0 l0_0.length c0_0, .slice A0_1 l0_1.length c0_1] 25 (0, 0)) (by (with_reducible repeat (first | refine blk_drewN ?_ _ | refine blk_drew ?_ | refine blk_alloc ?_ _)); exact BK129.out) k_ hk_), (Kd.freshB (g := gb130) (o := .cells #[.slice A1_0 l1_0.length c1_0, .slice A1_1 l1_1.length c1_1] 28 (0, 0)) (by (with_reducible repeat (first | refine blk_drewN ?_ _ | refine blk_drew ?_ | refine blk_alloc ?_ _)); exact BK130.out) k_ hk_)⟩)) (below_size (by repeat (first | (with_reducible first | exact HB.out | apply below_alloc | apply pw_below_drewN | apply below_drew1 | refine below_set ?_ GE129.out | refine below_set ?_ GE130.out) | exact HB.out)))); have n2_ := Aside0.mk (blk_below (g := gb129) (o := .cells #[.slice A0_0 l0_0.length c0_0, .slice A0_1 l0_1.length c0_1] 25 (0, 0)) (by (with_reducible repeat (first | refine blk_drewN ?_ _ | refine blk_drew ?_ | refine blk_alloc ?_ _)); exact BK129.out) hb); have n3_ := Aside0.mk (blk_below (g := gb130) (o := .cells #[.slice A1_0 l1_0.length c1_0, .slice A1_1 l1_1.length c1_1] 28 (0, 0)) (by (with_reducible repeat (first | refine blk_drewN ?_ _ | refine blk_drew ?_ | refine blk_alloc ?_ _)); exact BK130.out) hb); have n4_ := Aside0.mk (below_step (by repeat (first | (with_reducible first | exact HB.out | apply below_alloc | apply pw_below_drewN | apply below_drew1 | refine below_set ?_ GE129.out | refine below_set ?_ GE130.out) | exact HB.out)) hb); clear BK129; clear BK130; clear HB; have HO137 := n0_; have HO140 := n1_; have BK129 := n2_; have BK130 := n3_; have HB := n4_; clear n0_ n1_ n2_ n3_ n4_; (try clear hb); (try clear hb2); (try clear hk); (try clear hi); (try clear ho0); (try clear ho1)) | ((with_reducible refine gate_dst (N := 8) rfl ?_); (try (refine gate_guard (by rfl) ?_; dsimp only)); refine box_event ?hg (N := 8) ?hd (cs := #[.slice none 0 0, .slice none 0 0]) (t := 28) ?hr ?_; (case hd => rfl); (case hg => rfl); (case hr => first | (go_simp; done) | (go_simp; rfl)); intro gb142 hg w37 hbox hb; have n0_ := Aside0.mk (Kd.V_below (Kd.V_elderB (by (with_reducible repeat (first | apply Kd.V_alloc | apply Kd.V_drewN | apply Kd.V_drew)); exact HO137.out) gb142 (Nat.le_of_eq hg.symm)) hb); have n1_ := Aside0.mk (Kd.V_below (Kd.V_elderB (by (with_reducible repeat (first | apply Kd.V_alloc | apply Kd.V_drewN | apply Kd.V_drew)); exact HO140.out) gb142 (Nat.le_of_eq hg.symm)) hb); have n2_ := Aside0.mk (blk_below (g := gb129) (o := .cells #[.slice A0_0 l0_0.length c0_0, .slice A0_1 l0_1.length c0_1] 25 (0, 0)) (by (with_reducible repeat (first | refine blk_drewN ?_ _ | refine blk_drew ?_ | refine blk_alloc ?_ _)); exact BK129.out) hb); have n3_ := Aside0.mk (blk_below (g := gb130) (o := .cells #[.slice A1_0 l1_0.length c1_0, .slice A1_1 l1_1.length c1_1] 28 (0, 0)) (by (with_reducible repeat (first | refine blk_drewN ?_ _ | refine blk_drew ?_ | refine blk_alloc ?_ _)); exact BK130.out) hb); have n4_ := Aside0.mk (below_step (by repeat (first | (with_reducible first | exact HB.out | apply below_alloc | apply pw_below_drewN | apply below_drew1 | refine below_set ?_ GE129.out | refine below_set ?_ GE130.out) | exact HB.out)) hb); have n5_ := Aside0.mk (hbox); have n6_ := Aside0.mk ((by rw [hg]; exact (below_size (by repeat (first | (with_reducible first | exact HB.out | apply below_alloc | apply pw_below_drewN | apply below_drew1 | refine below_set ?_ GE129.out | refine below_set ?_ GE130.out) | exact HB.out))) : w.heap.size ≤ gb142)); have n7_ := Aside0.mk ((by rw [hg]; exact (below_size (by repeat (first | (with_reducible first | exact HB.out | apply below_alloc | apply pw_below_drewN | apply below_drew1 | refine below_set ?_ GE129.out | refine below_set ?_ GE130.out) | exact HB.out))) : w.heap.size ≤ gb142)); have n8_ := Aside0.mk ((by rw [hg]; exact Nat.ne_of_lt (blk_lt (g := gb129) (o := .cells #[.slice A0_0 l0_0.length c0_0, .slice A0_1 l0_1.length c0_1] 25 (0, 0)) (by (with_reducible repeat (first | refine blk_drewN ?_ _ | refine blk_drew ?_ | refine blk_alloc ?_ _)); exact BK129.out)) : gb129 ≠ gb142)); have n9_ := Aside0.mk ((by rw [hg]; exact Nat.ne_of_gt (blk_lt (g := gb129) (o := .cells #[.slice A0_0 l0_0.length c0_0, .slice A0_1 l0_1.length c0_1] 25 (0, 0)) (by (with_reducible repeat (first | refine blk_drewN ?_ _ | refine blk_drew ?_ | refine blk_alloc ?_ _)); exact BK129.out)) : gb142 ≠ gb129)); have n10_ := Aside0.mk ((by rw [hg]; exact Nat.ne_of_lt (blk_lt (g := gb130) (o := .cells #[.slice A1_0 l1_0.length c1_0, .slice A1_1 l1_1.length c1_1] 28 (0, 0)) (by (with_reducible repeat (first | refine blk_drewN ?_ _ | refine blk_drew ?_ | refine blk_alloc ?_ _)); exact BK130.out)) : gb130 ≠ gb142)); have n11_ := Aside0.mk ((by rw [hg]; exact Nat.ne_of_gt (blk_lt (g := gb130) (o := .cells #[.slice A1_0 l1_0.length c1_0, .slice A1_1 l1_1.length c1_1] 28 (0, 0)) (by (with_reducible repeat (first | refine blk_drewN ?_ _ | refine blk_drew ?_ | refine blk_alloc ?_ _)); exact BK130.out)) : gb142 ≠ gb130)); clear HO137; clear HO140; clear BK129; clear BK130; clear HB; have HO137 := n0_; have HO140 := n1_; have BK129 := n2_; have BK130 := n3_; have HB := n4_; have BK142 := n5_; have GW142 := n6_; have GE142 := n7_; have NB129_142 := n8_; have NB142_129 := n9_; have NB130_142 := n10_; have NB142_130 := n11_; clear n0_ n1_ n2_ n3_ n4_ n5_ n6_ n7_ n8_ n9_ n10_ n11_; clear hb hbox hg; obtain ⟨Ao38, co38, eo38⟩ := Kd.V_slice HO137.out; subst eo38; have hnb39 := NB142_129.out; have hnc39 := NB129_142.out; have hnb40 := NB142_130.out; have hnc40 := NB130_142.out; have hcz41_0 : w37.cell? ⟨gb142, 0, none⟩ = some (.slice none 0 0) := (blk_cell BK142.out 0).trans rfl; have hcz41_1 : w37.cell? ⟨gb142, 1, none⟩ = some (.slice none 0 0) := (blk_cell BK142.out 1).trans rfl; have hfz41_0 := blk_frozen BK142.out 0; have hfz41_1 := blk_frozen BK142.out 1; obtain ⟨Ao42, co42, eo42⟩ := Kd.V_slice HO140.out; subst eo42))
    (try simp only [Act.put, List.setIfInBounds_toArray, List.set_cons_zero, List.set_cons_succ])
    go_cut [10] (fun v10 wc => ∃ (kq : Nat) (x10_31 : Bool), v10 = .bool x10_31 ∧ Aside0 (fencepostlaw10_ScOn.j1 kq a2 t131 t141 x10_31 l0_0 l0_1 l1_0 l1_1 t135 t138 = some r) ∧ Aside0 (kq ≤ kj4) ∧ Aside0 (Kd.V (Kd.int .i64) 3 wc w.heap.size (fun k_ => k_ ≠ gb129 ∧ k_ ≠ gb130 ∧ k_ ≠ gb142) (.slice Ao38 t135.length co38) t135) ∧ Aside0 (Kd.V k45 45 wc w.heap.size (fun k_ => k_ ≠ gb129 ∧ k_ ≠ gb130 ∧ k_ ≠ gb142) (.slice Ao42 t138.length co42) t138) ∧ Aside0 (wc.heap[gb129]? = some (.cells #[(.slice A0_0 l0_0.length c0_0), (.slice A0_1 l0_1.length c0_1)] 25 (0, 0))) ∧ Aside0 (wc.heap[gb130]? = some (.cells #[(.slice A1_0 l1_0.length c1_0), (.slice A1_1 l1_1.length c1_1)] 28 (0, 0))) ∧ Aside0 (wc.heap[gb142]? = some (.cells #[(.slice Ao38 t135.length co38), (.slice Ao42 t138.length co42)] 28 (0, 0))) ∧ Aside0 (Below w.heap.size w wc))
    case first =>
     have H := HC32.out
     clear HC32
     by_cases c43 : a2 ≥ 0
     ·rw [if_pos c43] at H
      have c43b0 : decide (0 ≤ a2) = true := decide_eq_true c43
      clear c43
      (first | rw [c43b0] | (simp only [i64_w, i32_w]; rw [c43b0]) | skip)
      by_cases c44 : a2 < (l1_1.length : Int)
      ·rw [if_pos c44] at H
       have c44b0 : decide (a2 < (l1_1.length : Int)) = true := decide_eq_true c44
       clear c44
       by_cases c45 : 0 ≤ a2
       ·rw [if_pos c45] at H
        have c45b0 : decide (0 ≤ a2) = true := decide_eq_true c45
        clear c45
        by_cases c46 : a2 < (l0_1.length : Int)
        ·rw [if_pos c46] at H
         have c46b0 : decide (a2 < (l0_1.length : Int)) = true := decide_eq_true c46
         clear c46
         have H' := Aside0.mk H
         clear H
         try go_wp2
         have n0_ : Aside0 (Kd.V (Kd.int .i64) 3 ((w37.setCell ⟨gb142, 0, none⟩ (.slice Ao38 t135.length co38)).setCell ⟨gb142, 1, none⟩ (.slice Ao42 t138.length co42)) w.heap.size (fun k_ => k_ ≠ gb129 ∧ k_ ≠ gb130 ∧ k_ ≠ gb142) (.slice Ao38 t135.length co38) t135) := ⟨by (with_reducible repeat (first | apply Kd.V_alloc | apply Kd.V_drewN | apply Kd.V_drew)); exact Kd.V_mono (Kd.V_far (p := ⟨gb142, 1, none⟩) (Kd.V_far (p := ⟨gb142, 0, none⟩) (Kd.V_mono HO137.out (fun k_ hk => (⟨hk, hk.2⟩ : _ ∧ k_ ≠ gb142))) (fun _ hk => hk.2) (.slice Ao38 t135.length co38)) (fun _ hk => hk.2) (.slice Ao42 t138.length co42)) (fun _ hk => ⟨hk.1.1.1, ⟨hk.1.1.2, hk.1.2⟩⟩)⟩
         have n1_ : Aside0 (Kd.V k45 45 ((w37.setCell ⟨gb142, 0, none⟩ (.slice Ao38 t135.length co38)).setCell ⟨gb142, 1, none⟩ (.slice Ao42 t138.length co42)) w.heap.size (fun k_ => k_ ≠ gb129 ∧ k_ ≠ gb130 ∧ k_ ≠ gb142) (.slice Ao42 t138.length co42) t138) := ⟨by (with_reducible repeat (first | apply Kd.V_alloc | apply Kd.V_drewN | apply Kd.V_drew)); exact Kd.V_mono (Kd.V_far (p := ⟨gb142, 1, none⟩) (Kd.V_far (p := ⟨gb142, 0, none⟩) (Kd.V_mono HO140.out (fun k_ hk => (⟨hk, hk.2⟩ : _ ∧ k_ ≠ gb142))) (fun _ hk => hk.2) (.slice Ao38 t135.length co38)) (fun _ hk => hk.2) (.slice Ao42 t138.length co42)) (fun _ hk => ⟨hk.1.1.1, ⟨hk.1.1.2, hk.1.2⟩⟩)⟩
         have n2_ : Aside0 (((w37.setCell ⟨gb142, 0, none⟩ (.slice Ao38 t135.length co38)).setCell ⟨gb142, 1, none⟩ (.slice Ao42 t138.length co42)).heap[gb129]? = some (.cells #[.slice A0_0 l0_0.length c0_0, .slice A0_1 l0_1.length c0_1] 25 (0, 0))) := ⟨by (with_reducible repeat (first | refine blk_drewN ?_ _ | refine blk_drew ?_ | refine blk_alloc ?_ _)); refine blk_far ?_ NB129_142.out _; (with_reducible repeat (first | refine blk_drewN ?_ _ | refine blk_drew ?_ | refine blk_alloc ?_ _)); refine blk_far ?_ NB129_142.out _; (with_reducible repeat (first | refine blk_drewN ?_ _ | refine blk_drew ?_ | refine blk_alloc ?_ _)); exact BK129.out⟩
         have n3_ : Aside0 (((w37.setCell ⟨gb142, 0, none⟩ (.slice Ao38 t135.length co38)).setCell ⟨gb142, 1, none⟩ (.slice Ao42 t138.length co42)).heap[gb130]? = some (.cells #[.slice A1_0 l1_0.length c1_0, .slice A1_1 l1_1.length c1_1] 28 (0, 0))) := ⟨by (with_reducible repeat (first | refine blk_drewN ?_ _ | refine blk_drew ?_ | refine blk_alloc ?_ _)); refine blk_far ?_ NB130_142.out _; (with_reducible repeat (first | refine blk_drewN ?_ _ | refine blk_drew ?_ | refine blk_alloc ?_ _)); refine blk_far ?_ NB130_142.out _; (with_reducible repeat (first | refine blk_drewN ?_ _ | refine blk_drew ?_ | refine blk_alloc ?_ _)); exact BK130.out⟩
         have n4_ : Aside0 (((w37.setCell ⟨gb142, 0, none⟩ (.slice Ao38 t135.length co38)).setCell ⟨gb142, 1, none⟩ (.slice Ao42 t138.length co42)).heap[gb142]? = some (.cells #[.slice Ao38 t135.length co38, .slice Ao42 t138.length co42] 28 (0, 0))) := ⟨by (with_reducible repeat (first | refine blk_drewN ?_ _ | refine blk_drew ?_ | refine blk_alloc ?_ _)); refine blk_put (cs := #[.slice Ao38 t135.length co38, .slice none 0 0]) ?_ 1 _ rfl; (with_reducible repeat (first | refine blk_drewN ?_ _ | refine blk_drew ?_ | refine blk_alloc ?_ _)); refine blk_put (cs := #[.slice none 0 0, .slice none 0 0]) ?_ 0 _ rfl; (with_reducible repeat (first | refine blk_drewN ?_ _ | refine blk_drew ?_ | refine blk_alloc ?_ _)); exact BK142.out⟩
         have n5_ : Aside0 (Below w.heap.size w ((w37.setCell ⟨gb142, 0, none⟩ (.slice Ao38 t135.length co38)).setCell ⟨gb142, 1, none⟩ (.slice Ao42 t138.length co42))) := ⟨by repeat (first | (with_reducible first | exact HB.out | apply below_alloc | apply pw_below_drewN | apply below_drew1 | refine below_set ?_ GE129.out | refine below_set ?_ GE130.out | refine below_set ?_ GE142.out) | exact HB.out)⟩
         (try clear HO137)
         (try clear HO140)
         (try clear BK129)
         (try clear BK130)
         (try clear BK142)
         (try clear HB)
         generalize ((w37.setCell ⟨gb142, 0, none⟩ (.slice Ao38 t135.length co38)).setCell ⟨gb142, 1, none⟩ (.slice Ao42 t138.length co42)) = w47 at n0_ n1_ n2_ n3_ n4_ n5_ ⊢
         have HO137 := n0_
         have HO140 := n1_
         have BK129 := n2_
         have BK130 := n3_
         have BK142 := n4_
         have HB := n5_
         clear n0_ n1_ n2_ n3_ n4_ n5_
         have n0_ := Aside0.mk (Kd.V_drew HO137.out)
         have n1_ := Aside0.mk (Kd.V_drew HO140.out)
         have n2_ := Aside0.mk (blk_drew BK129.out)
         have n3_ := Aside0.mk (blk_drew BK130.out)
         have n4_ := Aside0.mk (blk_drew BK142.out)
         have n5_ := Aside0.mk (below_drew1 HB.out)
         clear HO137
         clear HO140
         clear BK129
         clear BK130
         clear BK142
         clear HB
         have HO137 := n0_
         have HO140 := n1_
         have BK129 := n2_
         have BK130 := n3_
         have BK142 := n4_
         have HB := n5_
         clear n0_ n1_ n2_ n3_ n4_ n5_
         have p143 : 0 ≤ (a2 : Int) := of_decide_eq_true (by first | (with_reducible assumption) | assumption)
         have q143 : a2 < (l1_1.length : Int) := of_decide_eq_true (by first | (with_reducible assumption) | assumption)
         obtain ⟨ad143, A143_1, c143_1, A143_3, c143_3, e143, hx143_0, hx143_1, hx143_2, hx143_3, hl143_1, hi143_1, hl143_3, hi143_3⟩ := at_T45 HR1_1.out a2 p143 q143
         have hw143_3 := hx143_3
         have hw143_2 := hx143_2
         have hw143_1 := hx143_1
         have hw143_0 := hx143_0
         cases e143
         replace hx143_0 := (HB.out.cell (World.block_lt_of_cell? w _ hx143_0)).trans hx143_0
         replace hx143_1 := (HB.out.cell (World.block_lt_of_cell? w _ hx143_1)).trans hx143_1
         replace hx143_2 := (HB.out.cell (World.block_lt_of_cell? w _ hx143_2)).trans hx143_2
         replace hx143_3 := (HB.out.cell (World.block_lt_of_cell? w _ hx143_3)).trans hx143_3
         have HR143_1 := Aside0.mk hi143_1
         have HC143_1 := Aside0.mk hl143_1
         clear hi143_1 hl143_1
         have HR143_3 := Aside0.mk hi143_3
         have HC143_3 := Aside0.mk hl143_3
         clear hi143_3 hl143_3
         replace p143 := eq_true p143
         replace q143 := eq_true q143
         have p144 : 0 ≤ (a2 : Int) := of_decide_eq_true (by first | (with_reducible assumption) | assumption)
         have q144 : a2 < (l0_1.length : Int) := of_decide_eq_true (by first | (with_reducible assumption) | assumption)
         obtain ⟨ad144, A144_0, c144_0, e144, hx144_0, hl144_0, hi144_0⟩ := at_L3 HR0_1.out a2 p144 q144
         have hw144_0 := hx144_0
         cases e144
         replace hx144_0 := (HB.out.cell (World.block_lt_of_cell? w _ hx144_0)).trans hx144_0
         have HR144_0 := Aside0.mk hi144_0
         have HC144_0 := Aside0.mk hl144_0
         clear hi144_0 hl144_0
         replace p144 := eq_true p144
         replace q144 := eq_true q144
         refine start_ (n := 25) (S := fun w' => w'.cell? ⟨gb130, 0, none⟩ = some (.slice A1_0 l1_0.length c1_0) ∧ w'.cell? ⟨gb130, 1, none⟩ = some (.slice (some ad143) l1_1.length c1_1) ∧ w'.cell? ⟨gb129, 0, none⟩ = some (.slice A0_0 l0_0.length c0_0) ∧ w'.cell? ⟨gb129, 1, none⟩ = some (.slice (some ad144) l0_1.length c0_1) ∧ w'.cell? (ad143.add ((a2).toNat * 4)) = some (.int .i64 ((rd_T45 l1_1 a2).f0)) ∧ w'.cell? ⟨(ad143.add ((a2).toNat * 4)).block, (ad143.add ((a2).toNat * 4)).off + 1, none⟩ = some (.slice A143_1 ((rd_T45 l1_1 a2).f1).length c143_1) ∧ w'.cell? ⟨(ad143.add ((a2).toNat * 4)).block, (ad143.add ((a2).toNat * 4)).off + 2, none⟩ = some (.bool ((rd_T45 l1_1 a2).f2)) ∧ w'.cell? ⟨(ad143.add ((a2).toNat * 4)).block, (ad143.add ((a2).toNat * 4)).off + 3, none⟩ = some (.slice A143_3 ((rd_T45 l1_1 a2).f3).length c143_3) ∧ w'.cell? (ad144.add (a2).toNat) = some (.slice A144_0 (rd_L3 l0_1 a2).length c144_0)) (ds := []) #[false, false, false, false, false, false, false, false, false, false, false, false, false, false, false, false, false, false, false, false, false, false, false, false, false] (by kernel_rfl) rfl rfl ⟨(blk_cell BK130.out 0).trans rfl, (blk_cell BK130.out 1).trans rfl, (blk_cell BK129.out 0).trans rfl, (blk_cell BK129.out 1).trans rfl, ((HB.out.cell (World.block_lt_of_cell? w _ hw143_0)).trans hw143_0), ((HB.out.cell (World.block_lt_of_cell? w _ hw143_1)).trans hw143_1), ((HB.out.cell (World.block_lt_of_cell? w _ hw143_2)).trans hw143_2), ((HB.out.cell (World.block_lt_of_cell? w _ hw143_3)).trans hw143_3), ((HB.out.cell (World.block_lt_of_cell? w _ hw144_0)).trans hw144_0)⟩ (fun hHeld => ?_); refine with_tabW fencepostlaw10_ScOn.tab5 fencepostlaw10_ScOn.bits5 (fun HT_ HW_ => ?_)
         generalize w47.drew = w48 at HO137 HO140 BK129 BK130 BK142 HB HR143_1 HR143_3 HR144_0 hx143_0 hx143_1 hx143_2 hx143_3 hx144_0 hHeld ⊢
         refine pure_ (i := 0) (N := some 34) (v := ?_) (a' := ?_) #[true, false, false, false, false, false, false, false, false, false, false, false, false, false, false, false, false, false, false, false, false, false, false, false, false] rfl rfl (any_of HT_.out (by kernel_rfl)) (fun _ _ _ h => h) (Or.inl ⟨by rfl, ?_⟩) ?_ ?_
         rotate_left
         ·intro w'
          go_simp
          with_reducible rfl
         rotate_left
         ·simp only [Act.put, List.setIfInBounds_toArray, List.set_cons_zero, List.set_cons_succ, i64_w, i32_w]
          rfl
         refine pure_ (i := 1) (N := some 35) (v := ?_) (a' := ?_) #[true, true, false, false, false, false, false, false, false, false, false, false, false, false, false, false, false, false, false, false, false, false, false, false, false] rfl rfl (any_of HT_.out (by kernel_rfl)) (fun _ _ _ h => h) (Or.inl ⟨by rfl, ?_⟩) ?_ ?_
         rotate_left
         ·intro w'
          go_simp
          with_reducible rfl
         rotate_left
         ·simp only [Act.put, List.setIfInBounds_toArray, List.set_cons_zero, List.set_cons_succ, i64_w, i32_w]
          rfl
         refine pure_ (i := 2) (N := some 36) (v := ?_) (a' := ?_) #[true, true, true, false, false, false, false, false, false, false, false, false, false, false, false, false, false, false, false, false, false, false, false, false, false] rfl rfl (any_of HT_.out (by kernel_rfl)) (fun _ _ _ h => h) (Or.inl ⟨by rfl, ?_⟩) ?_ ?_
         rotate_left
         ·intro w'
          go_simp
          with_reducible rfl
         rotate_left
         ·simp only [Act.put, List.setIfInBounds_toArray, List.set_cons_zero, List.set_cons_succ, i64_w, i32_w]
          rfl
         refine pure_ (i := 3) (N := some 37) (v := ?_) (a' := ?_) #[true, true, true, true, false, false, false, false, false, false, false, false, false, false, false, false, false, false, false, false, false, false, false, false, false] rfl rfl (any_of HT_.out (by kernel_rfl)) (fun _ _ _ h => h) (Or.inl ⟨by rfl, ?_⟩) ?_ ?_
         rotate_left
         ·intro w'
          go_simp
          with_reducible rfl
         rotate_left
         ·simp only [Act.put, List.setIfInBounds_toArray, List.set_cons_zero, List.set_cons_succ, i64_w, i32_w]
          rfl
         refine pure_ (i := 4) (N := some 38) (v := ?_) (a' := ?_) #[true, true, true, true, true, false, false, false, false, false, false, false, false, false, false, false, false, false, false, false, false, false, false, false, false] rfl rfl (any_of HT_.out (by kernel_rfl)) (fun _ _ _ h => h) (Or.inl ⟨by rfl, ?_⟩) ?_ ?_
         rotate_left
         ·intro w'
          go_simp
          with_reducible rfl
         rotate_left
         ·simp only [Act.put, List.setIfInBounds_toArray, List.set_cons_zero, List.set_cons_succ, i64_w, i32_w]
          rfl
         refine take_ (i := 5) (N := some 39) (v := ?_) (a' := ?_) #[true, true, true, true, true, true, false, false, false, false, false, false, false, false, false, false, false, false, false, false, false, false, false, false, false] rfl rfl (take_ofW HT_.out HW_.out (by kernel_rfl)) (fun _ _ _ h => h) (Or.inl ⟨by rfl, ?_⟩) hHeld ?_ ?_
         rotate_left
         ·rintro w' ⟨s0, s1, s2, s3, s4, s5, s6, s7, s8⟩
          go_simp
          with_reducible rfl
         rotate_left
         ·simp only [Act.put, List.setIfInBounds_toArray, List.set_cons_zero, List.set_cons_succ, i64_w, i32_w]
          rfl
         refine pure_ (i := 6) (N := some 40) (v := ?_) (a' := ?_) #[true, true, true, true, true, true, true, false, false, false, false, false, false, false, false, false, false, false, false, false, false, false, false, false, false] rfl rfl (any_of HT_.out (by kernel_rfl)) (fun _ _ _ h => h) (Or.inl ⟨by rfl, ?_⟩) ?_ ?_
         rotate_left
         ·intro w'
          go_simp
          with_reducible rfl
         rotate_left
         ·simp only [Act.put, List.setIfInBounds_toArray, List.set_cons_zero, List.set_cons_succ, i64_w, i32_w]
          rfl
         refine pure_ (i := 7) (N := some 41) (v := ?_) (a' := ?_) #[true, true, true, true, true, true, true, true, false, false, false, false, false, false, false, false, false, false, false, false, false, false, false, false, false] rfl rfl (any_of HT_.out (by kernel_rfl)) (fun _ _ _ h => h) (Or.inl ⟨by rfl, ?_⟩) ?_ ?_
         rotate_left
         ·intro w'
          go_simp
          with_reducible rfl
         rotate_left
         ·simp only [Act.put, List.setIfInBounds_toArray, List.set_cons_zero, List.set_cons_succ, i64_w, i32_w]
          rfl
         refine pure_ (i := 8) (N := some 42) (v := ?_) (a' := ?_) #[true, true, true, true, true, true, true, true, true, false, false, false, false, false, false, false, false, false, false, false, false, false, false, false, false] rfl rfl (any_of HT_.out (by kernel_rfl)) (fun _ _ _ h => h) (Or.inl ⟨by rfl, ?_⟩) ?_ ?_
         rotate_left
         ·intro w'
          go_simp
          with_reducible rfl
         rotate_left
         ·simp only [Act.put, List.setIfInBounds_toArray, List.set_cons_zero, List.set_cons_succ, i64_w, i32_w]
          rfl
         refine pure_ (i := 9) (N := some 43) (v := ?_) (a' := ?_) #[true, true, true, true, true, true, true, true, true, true, false, false, false, false, false, false, false, false, false, false, false, false, false, false, false] rfl rfl (any_of HT_.out (by kernel_rfl)) (fun _ _ _ h => h) (Or.inl ⟨by rfl, ?_⟩) ?_ ?_
         rotate_left
         ·intro w'
          go_simp
          with_reducible rfl
         rotate_left
         ·simp only [Act.put, List.setIfInBounds_toArray, List.set_cons_zero, List.set_cons_succ, i64_w, i32_w]
          rfl
         refine pure_ (i := 10) (N := some 44) (v := ?_) (a' := ?_) #[true, true, true, true, true, true, true, true, true, true, true, false, false, false, false, false, false, false, false, false, false, false, false, false, false] rfl rfl (any_of HT_.out (by kernel_rfl)) (fun _ _ _ h => h) (Or.inl ⟨by rfl, ?_⟩) ?_ ?_
         rotate_left
         ·intro w'
          go_simp
          with_reducible rfl
         rotate_left
         ·simp only [Act.put, List.setIfInBounds_toArray, List.set_cons_zero, List.set_cons_succ, i64_w, i32_w]
          rfl
         refine pure_ (i := 12) (N := some 46) (v := ?_) (a' := ?_) #[true, true, true, true, true, true, true, true, true, true, true, false, true, false, false, false, false, false, false, false, false, false, false, false, false] rfl rfl (any_of HT_.out (by kernel_rfl)) (fun _ _ _ h => h) (Or.inl ⟨by rfl, ?_⟩) ?_ ?_
         rotate_left
         ·intro w'
          go_simp
          with_reducible rfl
         rotate_left
         ·simp only [Act.put, List.setIfInBounds_toArray, List.set_cons_zero, List.set_cons_succ, i64_w, i32_w]
          rfl
         refine pure_ (i := 16) (N := some 50) (v := ?_) (a' := ?_) #[true, true, true, true, true, true, true, true, true, true, true, false, true, false, false, false, true, false, false, false, false, false, false, false, false] rfl rfl (any_of HT_.out (by kernel_rfl)) (fun _ _ _ h => h) (Or.inl ⟨by rfl, ?_⟩) ?_ ?_
         rotate_left
         ·intro w'
          go_simp
          with_reducible rfl
         rotate_left
         ·simp only [Act.put, List.setIfInBounds_toArray, List.set_cons_zero, List.set_cons_succ, i64_w, i32_w]
          rfl
         refine pure_ (i := 18) (N := some 52) (v := ?_) (a' := ?_) #[true, true, true, true, true, true, true, true, true, true, true, false, true, false, false, false, true, false, true, false, false, false, false, false, false] rfl rfl (any_of HT_.out (by kernel_rfl)) (fun _ _ _ h => h) (Or.inl ⟨by rfl, ?_⟩) ?_ ?_
         rotate_left
         ·intro w'
          go_simp
          with_reducible rfl
         rotate_left
         ·simp only [Act.put, List.setIfInBounds_toArray, List.set_cons_zero, List.set_cons_succ, i64_w, i32_w]
          rfl
         refine take_ (i := 11) (N := some 45) (v := ?_) (a' := ?_) #[true, true, true, true, true, true, true, true, true, true, true, true, true, false, false, false, true, false, true, false, false, false, false, false, false] rfl rfl (take_ofW HT_.out HW_.out (by kernel_rfl)) (fun _ _ _ h => h) (Or.inl ⟨by rfl, ?_⟩) hHeld ?_ ?_
         rotate_left
         ·rintro w' ⟨s0, s1, s2, s3, s4, s5, s6, s7, s8⟩
          go_simp
          with_reducible rfl
         rotate_left
         ·simp only [Act.put, List.setIfInBounds_toArray, List.set_cons_zero, List.set_cons_succ, i64_w, i32_w]
          rfl
         refine pure_ (i := 13) (N := some 47) (v := ?_) (a' := ?_) #[true, true, true, true, true, true, true, true, true, true, true, true, true, true, false, false, true, false, true, false, false, false, false, false, false] rfl rfl (any_of HT_.out (by kernel_rfl)) (fun _ _ _ h => h) (Or.inl ⟨by rfl, ?_⟩) ?_ ?_
         rotate_left
         ·intro w'
          go_simp
          with_reducible rfl
         rotate_left
         ·simp only [Act.put, List.setIfInBounds_toArray, List.set_cons_zero, List.set_cons_succ, i64_w, i32_w]
          rfl
         refine pure_ (i := 14) (N := some 48) (v := ?_) (a' := ?_) #[true, true, true, true, true, true, true, true, true, true, true, true, true, true, true, false, true, false, true, false, false, false, false, false, false] rfl rfl (any_of HT_.out (by kernel_rfl)) (fun _ _ _ h => h) (Or.inl ⟨by rfl, ?_⟩) ?_ ?_
         rotate_left
         ·intro w'
          go_simp
          with_reducible rfl
         rotate_left
         ·simp only [Act.put, List.setIfInBounds_toArray, List.set_cons_zero, List.set_cons_succ, i64_w, i32_w]
          rfl
         refine take_ (i := 15) (N := some 49) (v := ?_) (a' := ?_) #[true, true, true, true, true, true, true, true, true, true, true, true, true, true, true, true, true, false, true, false, false, false, false, false, false] rfl rfl (take_ofW HT_.out HW_.out (by kernel_rfl)) (fun _ _ _ h => h) (Or.inl ⟨by rfl, ?_⟩) hHeld ?_ ?_
         rotate_left
         ·rintro w' ⟨s0, s1, s2, s3, s4, s5, s6, s7, s8⟩
          go_simp
          with_reducible rfl
         rotate_left
         ·simp only [Act.put, List.setIfInBounds_toArray, List.set_cons_zero, List.set_cons_succ, i64_w, i32_w]
          rfl
         refine take_ (i := 17) (N := some 51) (v := ?_) (a' := ?_) #[true, true, true, true, true, true, true, true, true, true, true, true, true, true, true, true, true, true, true, false, false, false, false, false, false] rfl rfl (take_ofW HT_.out HW_.out (by kernel_rfl)) (fun _ _ _ h => h) (Or.inl ⟨by rfl, ?_⟩) hHeld ?_ ?_
         rotate_left
         ·rintro w' ⟨s0, s1, s2, s3, s4, s5, s6, s7, s8⟩
          go_simp
          with_reducible rfl
         rotate_left
         ·simp only [Act.put, List.setIfInBounds_toArray, List.set_cons_zero, List.set_cons_succ, i64_w, i32_w]
          rfl
         refine pure_ (i := 19) (N := some 53) (v := ?_) (a' := ?_) #[true, true, true, true, true, true, true, true, true, true, true, true, true, true, true, true, true, true, true, true, false, false, false, false, false] rfl rfl (any_of HT_.out (by kernel_rfl)) (fun _ _ _ h => h) (Or.inl ⟨by rfl, ?_⟩) ?_ ?_
         rotate_left
         ·intro w'
          go_simp
          with_reducible rfl
         rotate_left
         ·simp only [Act.put, List.setIfInBounds_toArray, List.set_cons_zero, List.set_cons_succ, i64_w, i32_w]
          rfl
         refine take_ (i := 20) (N := some 54) (v := ?_) (a' := ?_) #[true, true, true, true, true, true, true, true, true, true, true, true, true, true, true, true, true, true, true, true, true, false, false, false, false] rfl rfl (take_ofW HT_.out HW_.out (by kernel_rfl)) (fun _ _ _ h => h) (Or.inl ⟨by rfl, ?_⟩) hHeld ?_ ?_
         rotate_left
         ·rintro w' ⟨s0, s1, s2, s3, s4, s5, s6, s7, s8⟩
          go_simp
          with_reducible rfl
         rotate_left
         ·simp only [Act.put, List.setIfInBounds_toArray, List.set_cons_zero, List.set_cons_succ, i64_w, i32_w]
          rfl
         refine pure_ (i := 21) (N := some 55) (v := ?_) (a' := ?_) #[true, true, true, true, true, true, true, true, true, true, true, true, true, true, true, true, true, true, true, true, true, true, false, false, false] rfl rfl (any_of HT_.out (by kernel_rfl)) (fun _ _ _ h => h) (Or.inl ⟨by rfl, ?_⟩) ?_ ?_
         rotate_left
         ·intro w'
          go_simp
          with_reducible rfl
         rotate_left
         ·simp only [Act.put, List.setIfInBounds_toArray, List.set_cons_zero, List.set_cons_succ, i64_w, i32_w]
          rfl
         refine pure_ (i := 22) (N := some 56) (v := ?_) (a' := ?_) #[true, true, true, true, true, true, true, true, true, true, true, true, true, true, true, true, true, true, true, true, true, true, true, false, false] rfl rfl (any_of HT_.out (by kernel_rfl)) (fun _ _ _ h => h) (Or.inl ⟨by rfl, ?_⟩) ?_ ?_
         rotate_left
         ·intro w'
          go_simp
          with_reducible rfl
         rotate_left
         ·simp only [Act.put, List.setIfInBounds_toArray, List.set_cons_zero, List.set_cons_succ, i64_w, i32_w]
          rfl
         refine pure_ (i := 23) (N := some 57) (v := ?_) (a' := ?_) #[true, true, true, true, true, true, true, true, true, true, true, true, true, true, true, true, true, true, true, true, true, true, true, true, false] rfl rfl (any_of HT_.out (by kernel_rfl)) (fun _ _ _ h => h) (Or.inl ⟨by rfl, ?_⟩) ?_ ?_
         rotate_left
         ·intro w'
          go_simp
          with_reducible rfl
         rotate_left
         ·simp only [Act.put, List.setIfInBounds_toArray, List.set_cons_zero, List.set_cons_succ, i64_w, i32_w]
          rfl
         refine pure_ (i := 24) (N := some 10) (v := ?_) (a' := ?_) #[true, true, true, true, true, true, true, true, true, true, true, true, true, true, true, true, true, true, true, true, true, true, true, true, true] rfl rfl (any_of HT_.out (by kernel_rfl)) (fun _ _ _ h => h) (Or.inl ⟨by rfl, ?_⟩) ?_ ?_
         rotate_left
         ·intro w'
          go_simp
          with_reducible rfl
         rotate_left
         ·simp only [Act.put, List.setIfInBounds_toArray, List.set_cons_zero, List.set_cons_succ, i64_w, i32_w]
          rfl
         refine done_ (done_of HT_.out (by kernel_rfl)) ?_
         try go_wp2
         go_meet
         case rel => exact ⟨_, (decide (((rd_T45 l1_1 a2).f0) < ((rd_L3 l0_1 a2).length : Int))), (by first | rfl | (simp; done) | (simp [*]; done)), H', ⟨by have := HJ4.out; first | omega | exact Nat.le_refl _⟩, ⟨by (with_reducible repeat (first | apply Kd.V_alloc | apply Kd.V_drewN | apply Kd.V_drew)); exact HO137.out⟩, ⟨by (with_reducible repeat (first | apply Kd.V_alloc | apply Kd.V_drewN | apply Kd.V_drew)); exact HO140.out⟩, ⟨by (with_reducible repeat (first | refine blk_drewN ?_ _ | refine blk_drew ?_ | refine blk_alloc ?_ _)); exact BK129.out⟩, ⟨by (with_reducible repeat (first | refine blk_drewN ?_ _ | refine blk_drew ?_ | refine blk_alloc ?_ _)); exact BK130.out⟩, ⟨by (with_reducible repeat (first | refine blk_drewN ?_ _ | refine blk_drew ?_ | refine blk_alloc ?_ _)); exact BK142.out⟩, ⟨by repeat (first | (with_reducible first | exact HB.out | apply below_alloc | apply pw_below_drewN | apply below_drew1 | refine below_set ?_ GE129.out | refine below_set ?_ GE130.out | refine below_set ?_ GE142.out) | exact HB.out)⟩⟩
        ·rw [if_neg c46] at H
         exact absurd H (by simp)
       ·rw [if_neg c45] at H
        exact absurd H (by simp)
      ·rw [if_neg c44] at H
       have c44b0 : decide (a2 < (l1_1.length : Int)) = false := decide_eq_false c44
       clear c44
       have H' := Aside0.mk H
       clear H
       try go_wp2
       have n0_ : Aside0 (Kd.V (Kd.int .i64) 3 ((w37.setCell ⟨gb142, 0, none⟩ (.slice Ao38 t135.length co38)).setCell ⟨gb142, 1, none⟩ (.slice Ao42 t138.length co42)) w.heap.size (fun k_ => k_ ≠ gb129 ∧ k_ ≠ gb130 ∧ k_ ≠ gb142) (.slice Ao38 t135.length co38) t135) := ⟨by (with_reducible repeat (first | apply Kd.V_alloc | apply Kd.V_drewN | apply Kd.V_drew)); exact Kd.V_mono (Kd.V_far (p := ⟨gb142, 1, none⟩) (Kd.V_far (p := ⟨gb142, 0, none⟩) (Kd.V_mono HO137.out (fun k_ hk => (⟨hk, hk.2⟩ : _ ∧ k_ ≠ gb142))) (fun _ hk => hk.2) (.slice Ao38 t135.length co38)) (fun _ hk => hk.2) (.slice Ao42 t138.length co42)) (fun _ hk => ⟨hk.1.1.1, ⟨hk.1.1.2, hk.1.2⟩⟩)⟩
       have n1_ : Aside0 (Kd.V k45 45 ((w37.setCell ⟨gb142, 0, none⟩ (.slice Ao38 t135.length co38)).setCell ⟨gb142, 1, none⟩ (.slice Ao42 t138.length co42)) w.heap.size (fun k_ => k_ ≠ gb129 ∧ k_ ≠ gb130 ∧ k_ ≠ gb142) (.slice Ao42 t138.length co42) t138) := ⟨by (with_reducible repeat (first | apply Kd.V_alloc | apply Kd.V_drewN | apply Kd.V_drew)); exact Kd.V_mono (Kd.V_far (p := ⟨gb142, 1, none⟩) (Kd.V_far (p := ⟨gb142, 0, none⟩) (Kd.V_mono HO140.out (fun k_ hk => (⟨hk, hk.2⟩ : _ ∧ k_ ≠ gb142))) (fun _ hk => hk.2) (.slice Ao38 t135.length co38)) (fun _ hk => hk.2) (.slice Ao42 t138.length co42)) (fun _ hk => ⟨hk.1.1.1, ⟨hk.1.1.2, hk.1.2⟩⟩)⟩
       have n2_ : Aside0 (((w37.setCell ⟨gb142, 0, none⟩ (.slice Ao38 t135.length co38)).setCell ⟨gb142, 1, none⟩ (.slice Ao42 t138.length co42)).heap[gb129]? = some (.cells #[.slice A0_0 l0_0.length c0_0, .slice A0_1 l0_1.length c0_1] 25 (0, 0))) := ⟨by (with_reducible repeat (first | refine blk_drewN ?_ _ | refine blk_drew ?_ | refine blk_alloc ?_ _)); refine blk_far ?_ NB129_142.out _; (with_reducible repeat (first | refine blk_drewN ?_ _ | refine blk_drew ?_ | refine blk_alloc ?_ _)); refine blk_far ?_ NB129_142.out _; (with_reducible repeat (first | refine blk_drewN ?_ _ | refine blk_drew ?_ | refine blk_alloc ?_ _)); exact BK129.out⟩
       have n3_ : Aside0 (((w37.setCell ⟨gb142, 0, none⟩ (.slice Ao38 t135.length co38)).setCell ⟨gb142, 1, none⟩ (.slice Ao42 t138.length co42)).heap[gb130]? = some (.cells #[.slice A1_0 l1_0.length c1_0, .slice A1_1 l1_1.length c1_1] 28 (0, 0))) := ⟨by (with_reducible repeat (first | refine blk_drewN ?_ _ | refine blk_drew ?_ | refine blk_alloc ?_ _)); refine blk_far ?_ NB130_142.out _; (with_reducible repeat (first | refine blk_drewN ?_ _ | refine blk_drew ?_ | refine blk_alloc ?_ _)); refine blk_far ?_ NB130_142.out _; (with_reducible repeat (first | refine blk_drewN ?_ _ | refine blk_drew ?_ | refine blk_alloc ?_ _)); exact BK130.out⟩
       have n4_ : Aside0 (((w37.setCell ⟨gb142, 0, none⟩ (.slice Ao38 t135.length co38)).setCell ⟨gb142, 1, none⟩ (.slice Ao42 t138.length co42)).heap[gb142]? = some (.cells #[.slice Ao38 t135.length co38, .slice Ao42 t138.length co42] 28 (0, 0))) := ⟨by (with_reducible repeat (first | refine blk_drewN ?_ _ | refine blk_drew ?_ | refine blk_alloc ?_ _)); refine blk_put (cs := #[.slice Ao38 t135.length co38, .slice none 0 0]) ?_ 1 _ rfl; (with_reducible repeat (first | refine blk_drewN ?_ _ | refine blk_drew ?_ | refine blk_alloc ?_ _)); refine blk_put (cs := #[.slice none 0 0, .slice none 0 0]) ?_ 0 _ rfl; (with_reducible repeat (first | refine blk_drewN ?_ _ | refine blk_drew ?_ | refine blk_alloc ?_ _)); exact BK142.out⟩
       have n5_ : Aside0 (Below w.heap.size w ((w37.setCell ⟨gb142, 0, none⟩ (.slice Ao38 t135.length co38)).setCell ⟨gb142, 1, none⟩ (.slice Ao42 t138.length co42))) := ⟨by repeat (first | (with_reducible first | exact HB.out | apply below_alloc | apply pw_below_drewN | apply below_drew1 | refine below_set ?_ GE129.out | refine below_set ?_ GE130.out | refine below_set ?_ GE142.out) | exact HB.out)⟩
       (try clear HO137)
       (try clear HO140)
       (try clear BK129)
       (try clear BK130)
       (try clear BK142)
       (try clear HB)
       generalize ((w37.setCell ⟨gb142, 0, none⟩ (.slice Ao38 t135.length co38)).setCell ⟨gb142, 1, none⟩ (.slice Ao42 t138.length co42)) = w49 at n0_ n1_ n2_ n3_ n4_ n5_ ⊢
       have HO137 := n0_
       have HO140 := n1_
       have BK129 := n2_
       have BK130 := n3_
       have BK142 := n4_
       have HB := n5_
       clear n0_ n1_ n2_ n3_ n4_ n5_
       have n0_ := Aside0.mk (Kd.V_drew HO137.out)
       have n1_ := Aside0.mk (Kd.V_drew HO140.out)
       have n2_ := Aside0.mk (blk_drew BK129.out)
       have n3_ := Aside0.mk (blk_drew BK130.out)
       have n4_ := Aside0.mk (blk_drew BK142.out)
       have n5_ := Aside0.mk (below_drew1 HB.out)
       clear HO137
       clear HO140
       clear BK129
       clear BK130
       clear BK142
       clear HB
       have HO137 := n0_
       have HO140 := n1_
       have BK129 := n2_
       have BK130 := n3_
       have BK142 := n4_
       have HB := n5_
       clear n0_ n1_ n2_ n3_ n4_ n5_
       refine start_ (n := 25) (S := fun w' => w'.cell? ⟨gb130, 0, none⟩ = some (.slice A1_0 l1_0.length c1_0) ∧ w'.cell? ⟨gb130, 1, none⟩ = some (.slice A1_1 l1_1.length c1_1)) (ds := []) #[false, false, false, false, false, false, false, false, false, false, false, false, false, false, false, false, false, false, false, false, false, false, false, false, false] (by kernel_rfl) rfl rfl ⟨(blk_cell BK130.out 0).trans rfl, (blk_cell BK130.out 1).trans rfl⟩ (fun hHeld => ?_); refine with_tabW fencepostlaw10_ScOn.tab5 fencepostlaw10_ScOn.bits5 (fun HT_ HW_ => ?_)
       generalize w49.drew = w50 at HO137 HO140 BK129 BK130 BK142 HB hHeld ⊢
       refine pure_ (i := 0) (N := some 34) (v := ?_) (a' := ?_) #[true, false, false, false, false, false, false, false, false, false, false, false, false, false, false, false, false, false, false, false, false, false, false, false, false] rfl rfl (any_of HT_.out (by kernel_rfl)) (fun _ _ _ h => h) (Or.inl ⟨by rfl, ?_⟩) ?_ ?_
       rotate_left
       ·intro w'
        go_simp
        with_reducible rfl
       rotate_left
       ·simp only [Act.put, List.setIfInBounds_toArray, List.set_cons_zero, List.set_cons_succ, i64_w, i32_w]
        rfl
       refine pure_ (i := 1) (N := some 35) (v := ?_) (a' := ?_) #[true, true, false, false, false, false, false, false, false, false, false, false, false, false, false, false, false, false, false, false, false, false, false, false, false] rfl rfl (any_of HT_.out (by kernel_rfl)) (fun _ _ _ h => h) (Or.inl ⟨by rfl, ?_⟩) ?_ ?_
       rotate_left
       ·intro w'
        go_simp
        with_reducible rfl
       rotate_left
       ·simp only [Act.put, List.setIfInBounds_toArray, List.set_cons_zero, List.set_cons_succ, i64_w, i32_w]
        rfl
       refine pure_ (i := 2) (N := some 36) (v := ?_) (a' := ?_) #[true, true, true, false, false, false, false, false, false, false, false, false, false, false, false, false, false, false, false, false, false, false, false, false, false] rfl rfl (any_of HT_.out (by kernel_rfl)) (fun _ _ _ h => h) (Or.inl ⟨by rfl, ?_⟩) ?_ ?_
       rotate_left
       ·intro w'
        go_simp
        with_reducible rfl
       rotate_left
       ·simp only [Act.put, List.setIfInBounds_toArray, List.set_cons_zero, List.set_cons_succ, i64_w, i32_w]
        rfl
       refine pure_ (i := 3) (N := some 37) (v := ?_) (a' := ?_) #[true, true, true, true, false, false, false, false, false, false, false, false, false, false, false, false, false, false, false, false, false, false, false, false, false] rfl rfl (any_of HT_.out (by kernel_rfl)) (fun _ _ _ h => h) (Or.inl ⟨by rfl, ?_⟩) ?_ ?_
       rotate_left
       ·intro w'
        go_simp
        with_reducible rfl
       rotate_left
       ·simp only [Act.put, List.setIfInBounds_toArray, List.set_cons_zero, List.set_cons_succ, i64_w, i32_w]
        rfl
       refine pure_ (i := 4) (N := some 38) (v := ?_) (a' := ?_) #[true, true, true, true, true, false, false, false, false, false, false, false, false, false, false, false, false, false, false, false, false, false, false, false, false] rfl rfl (any_of HT_.out (by kernel_rfl)) (fun _ _ _ h => h) (Or.inl ⟨by rfl, ?_⟩) ?_ ?_
       rotate_left
       ·intro w'
        go_simp
        with_reducible rfl
       rotate_left
       ·simp only [Act.put, List.setIfInBounds_toArray, List.set_cons_zero, List.set_cons_succ, i64_w, i32_w]
        rfl
       refine take_ (i := 5) (N := some 39) (v := ?_) (a' := ?_) #[true, true, true, true, true, true, false, false, false, false, false, false, false, false, false, false, false, false, false, false, false, false, false, false, false] rfl rfl (take_ofW HT_.out HW_.out (by kernel_rfl)) (fun _ _ _ h => h) (Or.inl ⟨by rfl, ?_⟩) hHeld ?_ ?_
       rotate_left
       ·rintro w' ⟨s0, s1⟩
        go_simp
        with_reducible rfl
       rotate_left
       ·simp only [Act.put, List.setIfInBounds_toArray, List.set_cons_zero, List.set_cons_succ, i64_w, i32_w]
        rfl
       refine pure_ (i := 6) (N := some 40) (v := ?_) (a' := ?_) #[true, true, true, true, true, true, true, false, false, false, false, false, false, false, false, false, false, false, false, false, false, false, false, false, false] rfl rfl (any_of HT_.out (by kernel_rfl)) (fun _ _ _ h => h) (Or.inl ⟨by rfl, ?_⟩) ?_ ?_
       rotate_left
       ·intro w'
        go_simp
        with_reducible rfl
       rotate_left
       ·simp only [Act.put, List.setIfInBounds_toArray, List.set_cons_zero, List.set_cons_succ, i64_w, i32_w]
        rfl
       refine pure_ (i := 7) (N := some 41) (v := ?_) (a' := ?_) #[true, true, true, true, true, true, true, true, false, false, false, false, false, false, false, false, false, false, false, false, false, false, false, false, false] rfl rfl (any_of HT_.out (by kernel_rfl)) (fun _ _ _ h => h) (Or.inl ⟨by rfl, ?_⟩) ?_ ?_
       rotate_left
       ·intro w'
        go_simp
        with_reducible rfl
       rotate_left
       ·simp only [Act.put, List.setIfInBounds_toArray, List.set_cons_zero, List.set_cons_succ, i64_w, i32_w]
        rfl
       refine pure_ (i := 8) (N := some 42) (v := ?_) (a' := ?_) #[true, true, true, true, true, true, true, true, true, false, false, false, false, false, false, false, false, false, false, false, false, false, false, false, false] rfl rfl (any_of HT_.out (by kernel_rfl)) (fun _ _ _ h => h) (Or.inl ⟨by rfl, ?_⟩) ?_ ?_
       rotate_left
       ·intro w'
        go_simp
        with_reducible rfl
       rotate_left
       ·simp only [Act.put, List.setIfInBounds_toArray, List.set_cons_zero, List.set_cons_succ, i64_w, i32_w]
        rfl
       refine pure_ (i := 9) (N := some 43) (v := ?_) (a' := ?_) #[true, true, true, true, true, true, true, true, true, true, false, false, false, false, false, false, false, false, false, false, false, false, false, false, false] rfl rfl (any_of HT_.out (by kernel_rfl)) (fun _ _ _ h => h) (Or.inl ⟨by rfl, ?_⟩) ?_ ?_
       rotate_left
       ·intro w'
        go_simp
        with_reducible rfl
       rotate_left
       ·simp only [Act.put, List.setIfInBounds_toArray, List.set_cons_zero, List.set_cons_succ, i64_w, i32_w]
        rfl
       refine pure_ (i := 10) (N := some 44) (v := undef) (a' := ?_) #[true, true, true, true, true, true, true, true, true, true, true, false, false, false, false, false, false, false, false, false, false, false, false, false, false] rfl rfl (any_of HT_.out (by kernel_rfl)) (fun _ _ _ h => h) (Or.inr ⟨by rfl, rfl⟩) ?_ ?_
       rotate_left
       ·simp only [Act.put, List.setIfInBounds_toArray, List.set_cons_zero, List.set_cons_succ, i64_w, i32_w]
        rfl
       refine pure_ (i := 11) (N := some 45) (v := undef) (a' := ?_) #[true, true, true, true, true, true, true, true, true, true, true, true, false, false, false, false, false, false, false, false, false, false, false, false, false] rfl rfl (any_of HT_.out (by kernel_rfl)) (fun _ _ _ h => h) (Or.inr ⟨by rfl, rfl⟩) ?_ ?_
       rotate_left
       ·simp only [Act.put, List.setIfInBounds_toArray, List.set_cons_zero, List.set_cons_succ, i64_w, i32_w]
        rfl
       refine pure_ (i := 12) (N := some 46) (v := undef) (a' := ?_) #[true, true, true, true, true, true, true, true, true, true, true, true, true, false, false, false, false, false, false, false, false, false, false, false, false] rfl rfl (any_of HT_.out (by kernel_rfl)) (fun _ _ _ h => h) (Or.inr ⟨by rfl, rfl⟩) ?_ ?_
       rotate_left
       ·simp only [Act.put, List.setIfInBounds_toArray, List.set_cons_zero, List.set_cons_succ, i64_w, i32_w]
        rfl
       refine pure_ (i := 13) (N := some 47) (v := undef) (a' := ?_) #[true, true, true, true, true, true, true, true, true, true, true, true, true, true, false, false, false, false, false, false, false, false, false, false, false] rfl rfl (any_of HT_.out (by kernel_rfl)) (fun _ _ _ h => h) (Or.inr ⟨by rfl, rfl⟩) ?_ ?_
       rotate_left
       ·simp only [Act.put, List.setIfInBounds_toArray, List.set_cons_zero, List.set_cons_succ, i64_w, i32_w]
        rfl
       refine pure_ (i := 14) (N := some 48) (v := undef) (a' := ?_) #[true, true, true, true, true, true, true, true, true, true, true, true, true, true, true, false, false, false, false, false, false, false, false, false, false] rfl rfl (any_of HT_.out (by kernel_rfl)) (fun _ _ _ h => h) (Or.inr ⟨by rfl, rfl⟩) ?_ ?_
       rotate_left
       ·simp only [Act.put, List.setIfInBounds_toArray, List.set_cons_zero, List.set_cons_succ, i64_w, i32_w]
        rfl
       refine pure_ (i := 15) (N := some 49) (v := undef) (a' := ?_) #[true, true, true, true, true, true, true, true, true, true, true, true, true, true, true, true, false, false, false, false, false, false, false, false, false] rfl rfl (any_of HT_.out (by kernel_rfl)) (fun _ _ _ h => h) (Or.inr ⟨by rfl, rfl⟩) ?_ ?_
       rotate_left
       ·simp only [Act.put, List.setIfInBounds_toArray, List.set_cons_zero, List.set_cons_succ, i64_w, i32_w]
        rfl
       refine pure_ (i := 16) (N := some 50) (v := undef) (a' := ?_) #[true, true, true, true, true, true, true, true, true, true, true, true, true, true, true, true, true, false, false, false, false, false, false, false, false] rfl rfl (any_of HT_.out (by kernel_rfl)) (fun _ _ _ h => h) (Or.inr ⟨by rfl, rfl⟩) ?_ ?_
       rotate_left
       ·simp only [Act.put, List.setIfInBounds_toArray, List.set_cons_zero, List.set_cons_succ, i64_w, i32_w]
        rfl
       refine pure_ (i := 17) (N := some 51) (v := undef) (a' := ?_) #[true, true, true, true, true, true, true, true, true, true, true, true, true, true, true, true, true, true, false, false, false, false, false, false, false] rfl rfl (any_of HT_.out (by kernel_rfl)) (fun _ _ _ h => h) (Or.inr ⟨by rfl, rfl⟩) ?_ ?_
       rotate_left
       ·simp only [Act.put, List.setIfInBounds_toArray, List.set_cons_zero, List.set_cons_succ, i64_w, i32_w]
        rfl
       refine pure_ (i := 18) (N := some 52) (v := undef) (a' := ?_) #[true, true, true, true, true, true, true, true, true, true, true, true, true, true, true, true, true, true, true, false, false, false, false, false, false] rfl rfl (any_of HT_.out (by kernel_rfl)) (fun _ _ _ h => h) (Or.inr ⟨by rfl, rfl⟩) ?_ ?_
       rotate_left
       ·simp only [Act.put, List.setIfInBounds_toArray, List.set_cons_zero, List.set_cons_succ, i64_w, i32_w]
        rfl
       refine pure_ (i := 19) (N := some 53) (v := undef) (a' := ?_) #[true, true, true, true, true, true, true, true, true, true, true, true, true, true, true, true, true, true, true, true, false, false, false, false, false] rfl rfl (any_of HT_.out (by kernel_rfl)) (fun _ _ _ h => h) (Or.inr ⟨by rfl, rfl⟩) ?_ ?_
       rotate_left
       ·simp only [Act.put, List.setIfInBounds_toArray, List.set_cons_zero, List.set_cons_succ, i64_w, i32_w]
        rfl
       refine pure_ (i := 20) (N := some 54) (v := undef) (a' := ?_) #[true, true, true, true, true, true, true, true, true, true, true, true, true, true, true, true, true, true, true, true, true, false, false, false, false] rfl rfl (any_of HT_.out (by kernel_rfl)) (fun _ _ _ h => h) (Or.inr ⟨by rfl, rfl⟩) ?_ ?_
       rotate_left
       ·simp only [Act.put, List.setIfInBounds_toArray, List.set_cons_zero, List.set_cons_succ, i64_w, i32_w]
        rfl
       refine pure_ (i := 21) (N := some 55) (v := undef) (a' := ?_) #[true, true, true, true, true, true, true, true, true, true, true, true, true, true, true, true, true, true, true, true, true, true, false, false, false] rfl rfl (any_of HT_.out (by kernel_rfl)) (fun _ _ _ h => h) (Or.inr ⟨by rfl, rfl⟩) ?_ ?_
       rotate_left
       ·simp only [Act.put, List.setIfInBounds_toArray, List.set_cons_zero, List.set_cons_succ, i64_w, i32_w]
        rfl
       refine pure_ (i := 22) (N := some 56) (v := undef) (a' := ?_) #[true, true, true, true, true, true, true, true, true, true, true, true, true, true, true, true, true, true, true, true, true, true, true, false, false] rfl rfl (any_of HT_.out (by kernel_rfl)) (fun _ _ _ h => h) (Or.inr ⟨by rfl, rfl⟩) ?_ ?_
       rotate_left
       ·simp only [Act.put, List.setIfInBounds_toArray, List.set_cons_zero, List.set_cons_succ, i64_w, i32_w]
        rfl
       refine pure_ (i := 23) (N := some 57) (v := ?_) (a' := ?_) #[true, true, true, true, true, true, true, true, true, true, true, true, true, true, true, true, true, true, true, true, true, true, true, true, false] rfl rfl (any_of HT_.out (by kernel_rfl)) (fun _ _ _ h => h) (Or.inl ⟨by rfl, ?_⟩) ?_ ?_
       rotate_left
       ·intro w'
        go_simp
        with_reducible rfl
       rotate_left
       ·simp only [Act.put, List.setIfInBounds_toArray, List.set_cons_zero, List.set_cons_succ, i64_w, i32_w]
        rfl
       refine pure_ (i := 24) (N := some 10) (v := ?_) (a' := ?_) #[true, true, true, true, true, true, true, true, true, true, true, true, true, true, true, true, true, true, true, true, true, true, true, true, true] rfl rfl (any_of HT_.out (by kernel_rfl)) (fun _ _ _ h => h) (Or.inl ⟨by rfl, ?_⟩) ?_ ?_
       rotate_left
       ·intro w'
        go_simp
        with_reducible rfl
       rotate_left
       ·simp only [Act.put, List.setIfInBounds_toArray, List.set_cons_zero, List.set_cons_succ, i64_w, i32_w]
        rfl
       refine done_ (done_of HT_.out (by kernel_rfl)) ?_
       try go_wp2
       go_meet
       case rel => exact ⟨_, (false), (by first | rfl | (simp; done) | (simp [*]; done)), H', ⟨by have := HJ4.out; first | omega | exact Nat.le_refl _⟩, ⟨by (with_reducible repeat (first | apply Kd.V_alloc | apply Kd.V_drewN | apply Kd.V_drew)); exact HO137.out⟩, ⟨by (with_reducible repeat (first | apply Kd.V_alloc | apply Kd.V_drewN | apply Kd.V_drew)); exact HO140.out⟩, ⟨by (with_reducible repeat (first | refine blk_drewN ?_ _ | refine blk_drew ?_ | refine blk_alloc ?_ _)); exact BK129.out⟩, ⟨by (with_reducible repeat (first | refine blk_drewN ?_ _ | refine blk_drew ?_ | refine blk_alloc ?_ _)); exact BK130.out⟩, ⟨by (with_reducible repeat (first | refine blk_drewN ?_ _ | refine blk_drew ?_ | refine blk_alloc ?_ _)); exact BK142.out⟩, ⟨by repeat (first | (with_reducible first | exact HB.out | apply below_alloc | apply pw_below_drewN | apply below_drew1 | refine below_set ?_ GE129.out | refine below_set ?_ GE130.out | refine below_set ?_ GE142.out) | exact HB.out)⟩⟩
     ·rw [if_neg c43] at H
      have c43b0 : decide (0 ≤ a2) = false := decide_eq_false c43
      clear c43
      (first | rw [c43b0] | (simp only [i64_w, i32_w]; rw [c43b0]) | skip)
      have H' := Aside0.mk H
      clear H
      try go_wp2
      have n0_ : Aside0 (Kd.V (Kd.int .i64) 3 ((w37.setCell ⟨gb142, 0, none⟩ (.slice Ao38 t135.length co38)).setCell ⟨gb142, 1, none⟩ (.slice Ao42 t138.length co42)) w.heap.size (fun k_ => k_ ≠ gb129 ∧ k_ ≠ gb130 ∧ k_ ≠ gb142) (.slice Ao38 t135.length co38) t135) := ⟨by (with_reducible repeat (first | apply Kd.V_alloc | apply Kd.V_drewN | apply Kd.V_drew)); exact Kd.V_mono (Kd.V_far (p := ⟨gb142, 1, none⟩) (Kd.V_far (p := ⟨gb142, 0, none⟩) (Kd.V_mono HO137.out (fun k_ hk => (⟨hk, hk.2⟩ : _ ∧ k_ ≠ gb142))) (fun _ hk => hk.2) (.slice Ao38 t135.length co38)) (fun _ hk => hk.2) (.slice Ao42 t138.length co42)) (fun _ hk => ⟨hk.1.1.1, ⟨hk.1.1.2, hk.1.2⟩⟩)⟩
      have n1_ : Aside0 (Kd.V k45 45 ((w37.setCell ⟨gb142, 0, none⟩ (.slice Ao38 t135.length co38)).setCell ⟨gb142, 1, none⟩ (.slice Ao42 t138.length co42)) w.heap.size (fun k_ => k_ ≠ gb129 ∧ k_ ≠ gb130 ∧ k_ ≠ gb142) (.slice Ao42 t138.length co42) t138) := ⟨by (with_reducible repeat (first | apply Kd.V_alloc | apply Kd.V_drewN | apply Kd.V_drew)); exact Kd.V_mono (Kd.V_far (p := ⟨gb142, 1, none⟩) (Kd.V_far (p := ⟨gb142, 0, none⟩) (Kd.V_mono HO140.out (fun k_ hk => (⟨hk, hk.2⟩ : _ ∧ k_ ≠ gb142))) (fun _ hk => hk.2) (.slice Ao38 t135.length co38)) (fun _ hk => hk.2) (.slice Ao42 t138.length co42)) (fun _ hk => ⟨hk.1.1.1, ⟨hk.1.1.2, hk.1.2⟩⟩)⟩
      have n2_ : Aside0 (((w37.setCell ⟨gb142, 0, none⟩ (.slice Ao38 t135.length co38)).setCell ⟨gb142, 1, none⟩ (.slice Ao42 t138.length co42)).heap[gb129]? = some (.cells #[.slice A0_0 l0_0.length c0_0, .slice A0_1 l0_1.length c0_1] 25 (0, 0))) := ⟨by (with_reducible repeat (first | refine blk_drewN ?_ _ | refine blk_drew ?_ | refine blk_alloc ?_ _)); refine blk_far ?_ NB129_142.out _; (with_reducible repeat (first | refine blk_drewN ?_ _ | refine blk_drew ?_ | refine blk_alloc ?_ _)); refine blk_far ?_ NB129_142.out _; (with_reducible repeat (first | refine blk_drewN ?_ _ | refine blk_drew ?_ | refine blk_alloc ?_ _)); exact BK129.out⟩
      have n3_ : Aside0 (((w37.setCell ⟨gb142, 0, none⟩ (.slice Ao38 t135.length co38)).setCell ⟨gb142, 1, none⟩ (.slice Ao42 t138.length co42)).heap[gb130]? = some (.cells #[.slice A1_0 l1_0.length c1_0, .slice A1_1 l1_1.length c1_1] 28 (0, 0))) := ⟨by (with_reducible repeat (first | refine blk_drewN ?_ _ | refine blk_drew ?_ | refine blk_alloc ?_ _)); refine blk_far ?_ NB130_142.out _; (with_reducible repeat (first | refine blk_drewN ?_ _ | refine blk_drew ?_ | refine blk_alloc ?_ _)); refine blk_far ?_ NB130_142.out _; (with_reducible repeat (first | refine blk_drewN ?_ _ | refine blk_drew ?_ | refine blk_alloc ?_ _)); exact BK130.out⟩
      have n4_ : Aside0 (((w37.setCell ⟨gb142, 0, none⟩ (.slice Ao38 t135.length co38)).setCell ⟨gb142, 1, none⟩ (.slice Ao42 t138.length co42)).heap[gb142]? = some (.cells #[.slice Ao38 t135.length co38, .slice Ao42 t138.length co42] 28 (0, 0))) := ⟨by (with_reducible repeat (first | refine blk_drewN ?_ _ | refine blk_drew ?_ | refine blk_alloc ?_ _)); refine blk_put (cs := #[.slice Ao38 t135.length co38, .slice none 0 0]) ?_ 1 _ rfl; (with_reducible repeat (first | refine blk_drewN ?_ _ | refine blk_drew ?_ | refine blk_alloc ?_ _)); refine blk_put (cs := #[.slice none 0 0, .slice none 0 0]) ?_ 0 _ rfl; (with_reducible repeat (first | refine blk_drewN ?_ _ | refine blk_drew ?_ | refine blk_alloc ?_ _)); exact BK142.out⟩
      have n5_ : Aside0 (Below w.heap.size w ((w37.setCell ⟨gb142, 0, none⟩ (.slice Ao38 t135.length co38)).setCell ⟨gb142, 1, none⟩ (.slice Ao42 t138.length co42))) := ⟨by repeat (first | (with_reducible first | exact HB.out | apply below_alloc | apply pw_below_drewN | apply below_drew1 | refine below_set ?_ GE129.out | refine below_set ?_ GE130.out | refine below_set ?_ GE142.out) | exact HB.out)⟩
      (try clear HO137)
      (try clear HO140)
      (try clear BK129)
      (try clear BK130)
      (try clear BK142)
      (try clear HB)
      generalize ((w37.setCell ⟨gb142, 0, none⟩ (.slice Ao38 t135.length co38)).setCell ⟨gb142, 1, none⟩ (.slice Ao42 t138.length co42)) = w51 at n0_ n1_ n2_ n3_ n4_ n5_ ⊢
      have HO137 := n0_
      have HO140 := n1_
      have BK129 := n2_
      have BK130 := n3_
      have BK142 := n4_
      have HB := n5_
      clear n0_ n1_ n2_ n3_ n4_ n5_
      have n0_ := Aside0.mk (Kd.V_drew HO137.out)
      have n1_ := Aside0.mk (Kd.V_drew HO140.out)
      have n2_ := Aside0.mk (blk_drew BK129.out)
      have n3_ := Aside0.mk (blk_drew BK130.out)
      have n4_ := Aside0.mk (blk_drew BK142.out)
      have n5_ := Aside0.mk (below_drew1 HB.out)
      clear HO137
      clear HO140
      clear BK129
      clear BK130
      clear BK142
      clear HB
      have HO137 := n0_
      have HO140 := n1_
      have BK129 := n2_
      have BK130 := n3_
      have BK142 := n4_
      have HB := n5_
      clear n0_ n1_ n2_ n3_ n4_ n5_
      refine start_ (n := 25) (S := fun w' => True) (ds := []) #[false, false, false, false, false, false, false, false, false, false, false, false, false, false, false, false, false, false, false, false, false, false, false, false, false] (by kernel_rfl) rfl rfl trivial (fun hHeld => ?_); refine with_tabW fencepostlaw10_ScOn.tab5 fencepostlaw10_ScOn.bits5 (fun HT_ HW_ => ?_)
      generalize w51.drew = w52 at HO137 HO140 BK129 BK130 BK142 HB hHeld ⊢
      refine pure_ (i := 0) (N := some 34) (v := ?_) (a' := ?_) #[true, false, false, false, false, false, false, false, false, false, false, false, false, false, false, false, false, false, false, false, false, false, false, false, false] rfl rfl (any_of HT_.out (by kernel_rfl)) (fun _ _ _ h => h) (Or.inl ⟨by rfl, ?_⟩) ?_ ?_
      rotate_left
      ·intro w'
       go_simp
       with_reducible rfl
      rotate_left
      ·simp only [Act.put, List.setIfInBounds_toArray, List.set_cons_zero, List.set_cons_succ, i64_w, i32_w]
       rfl
      refine pure_ (i := 1) (N := some 35) (v := ?_) (a' := ?_) #[true, true, false, false, false, false, false, false, false, false, false, false, false, false, false, false, false, false, false, false, false, false, false, false, false] rfl rfl (any_of HT_.out (by kernel_rfl)) (fun _ _ _ h => h) (Or.inl ⟨by rfl, ?_⟩) ?_ ?_
      rotate_left
      ·intro w'
       go_simp
       with_reducible rfl
      rotate_left
      ·simp only [Act.put, List.setIfInBounds_toArray, List.set_cons_zero, List.set_cons_succ, i64_w, i32_w]
       rfl
      refine pure_ (i := 2) (N := some 36) (v := ?_) (a' := ?_) #[true, true, true, false, false, false, false, false, false, false, false, false, false, false, false, false, false, false, false, false, false, false, false, false, false] rfl rfl (any_of HT_.out (by kernel_rfl)) (fun _ _ _ h => h) (Or.inl ⟨by rfl, ?_⟩) ?_ ?_
      rotate_left
      ·intro w'
       go_simp
       with_reducible rfl
      rotate_left
      ·simp only [Act.put, List.setIfInBounds_toArray, List.set_cons_zero, List.set_cons_succ, i64_w, i32_w]
       rfl
      refine pure_ (i := 3) (N := some 37) (v := undef) (a' := ?_) #[true, true, true, true, false, false, false, false, false, false, false, false, false, false, false, false, false, false, false, false, false, false, false, false, false] rfl rfl (any_of HT_.out (by kernel_rfl)) (fun _ _ _ h => h) (Or.inr ⟨by rfl, rfl⟩) ?_ ?_
      rotate_left
      ·simp only [Act.put, List.setIfInBounds_toArray, List.set_cons_zero, List.set_cons_succ, i64_w, i32_w]
       rfl
      refine pure_ (i := 4) (N := some 38) (v := undef) (a' := ?_) #[true, true, true, true, true, false, false, false, false, false, false, false, false, false, false, false, false, false, false, false, false, false, false, false, false] rfl rfl (any_of HT_.out (by kernel_rfl)) (fun _ _ _ h => h) (Or.inr ⟨by rfl, rfl⟩) ?_ ?_
      rotate_left
      ·simp only [Act.put, List.setIfInBounds_toArray, List.set_cons_zero, List.set_cons_succ, i64_w, i32_w]
       rfl
      refine pure_ (i := 5) (N := some 39) (v := undef) (a' := ?_) #[true, true, true, true, true, true, false, false, false, false, false, false, false, false, false, false, false, false, false, false, false, false, false, false, false] rfl rfl (any_of HT_.out (by kernel_rfl)) (fun _ _ _ h => h) (Or.inr ⟨by rfl, rfl⟩) ?_ ?_
      rotate_left
      ·simp only [Act.put, List.setIfInBounds_toArray, List.set_cons_zero, List.set_cons_succ, i64_w, i32_w]
       rfl
      refine pure_ (i := 6) (N := some 40) (v := undef) (a' := ?_) #[true, true, true, true, true, true, true, false, false, false, false, false, false, false, false, false, false, false, false, false, false, false, false, false, false] rfl rfl (any_of HT_.out (by kernel_rfl)) (fun _ _ _ h => h) (Or.inr ⟨by rfl, rfl⟩) ?_ ?_
      rotate_left
      ·simp only [Act.put, List.setIfInBounds_toArray, List.set_cons_zero, List.set_cons_succ, i64_w, i32_w]
       rfl
      refine pure_ (i := 7) (N := some 41) (v := undef) (a' := ?_) #[true, true, true, true, true, true, true, true, false, false, false, false, false, false, false, false, false, false, false, false, false, false, false, false, false] rfl rfl (any_of HT_.out (by kernel_rfl)) (fun _ _ _ h => h) (Or.inr ⟨by rfl, rfl⟩) ?_ ?_
      rotate_left
      ·simp only [Act.put, List.setIfInBounds_toArray, List.set_cons_zero, List.set_cons_succ, i64_w, i32_w]
       rfl
      refine pure_ (i := 8) (N := some 42) (v := ?_) (a' := ?_) #[true, true, true, true, true, true, true, true, true, false, false, false, false, false, false, false, false, false, false, false, false, false, false, false, false] rfl rfl (any_of HT_.out (by kernel_rfl)) (fun _ _ _ h => h) (Or.inl ⟨by rfl, ?_⟩) ?_ ?_
      rotate_left
      ·intro w'
       go_simp
       with_reducible rfl
      rotate_left
      ·simp only [Act.put, List.setIfInBounds_toArray, List.set_cons_zero, List.set_cons_succ, i64_w, i32_w]
       rfl
      refine pure_ (i := 9) (N := some 43) (v := ?_) (a' := ?_) #[true, true, true, true, true, true, true, true, true, true, false, false, false, false, false, false, false, false, false, false, false, false, false, false, false] rfl rfl (any_of HT_.out (by kernel_rfl)) (fun _ _ _ h => h) (Or.inl ⟨by rfl, ?_⟩) ?_ ?_
      rotate_left
      ·intro w'
       go_simp
       with_reducible rfl
      rotate_left
      ·simp only [Act.put, List.setIfInBounds_toArray, List.set_cons_zero, List.set_cons_succ, i64_w, i32_w]
       rfl
      refine pure_ (i := 10) (N := some 44) (v := undef) (a' := ?_) #[true, true, true, true, true, true, true, true, true, true, true, false, false, false, false, false, false, false, false, false, false, false, false, false, false] rfl rfl (any_of HT_.out (by kernel_rfl)) (fun _ _ _ h => h) (Or.inr ⟨by rfl, rfl⟩) ?_ ?_
      rotate_left
      ·simp only [Act.put, List.setIfInBounds_toArray, List.set_cons_zero, List.set_cons_succ, i64_w, i32_w]
       rfl
      refine pure_ (i := 11) (N := some 45) (v := undef) (a' := ?_) #[true, true, true, true, true, true, true, true, true, true, true, true, false, false, false, false, false, false, false, false, false, false, false, false, false] rfl rfl (any_of HT_.out (by kernel_rfl)) (fun _ _ _ h => h) (Or.inr ⟨by rfl, rfl⟩) ?_ ?_
      rotate_left
      ·simp only [Act.put, List.setIfInBounds_toArray, List.set_cons_zero, List.set_cons_succ, i64_w, i32_w]
       rfl
      refine pure_ (i := 12) (N := some 46) (v := undef) (a' := ?_) #[true, true, true, true, true, true, true, true, true, true, true, true, true, false, false, false, false, false, false, false, false, false, false, false, false] rfl rfl (any_of HT_.out (by kernel_rfl)) (fun _ _ _ h => h) (Or.inr ⟨by rfl, rfl⟩) ?_ ?_
      rotate_left
      ·simp only [Act.put, List.setIfInBounds_toArray, List.set_cons_zero, List.set_cons_succ, i64_w, i32_w]
       rfl
      refine pure_ (i := 13) (N := some 47) (v := undef) (a' := ?_) #[true, true, true, true, true, true, true, true, true, true, true, true, true, true, false, false, false, false, false, false, false, false, false, false, false] rfl rfl (any_of HT_.out (by kernel_rfl)) (fun _ _ _ h => h) (Or.inr ⟨by rfl, rfl⟩) ?_ ?_
      rotate_left
      ·simp only [Act.put, List.setIfInBounds_toArray, List.set_cons_zero, List.set_cons_succ, i64_w, i32_w]
       rfl
      refine pure_ (i := 14) (N := some 48) (v := undef) (a' := ?_) #[true, true, true, true, true, true, true, true, true, true, true, true, true, true, true, false, false, false, false, false, false, false, false, false, false] rfl rfl (any_of HT_.out (by kernel_rfl)) (fun _ _ _ h => h) (Or.inr ⟨by rfl, rfl⟩) ?_ ?_
      rotate_left
      ·simp only [Act.put, List.setIfInBounds_toArray, List.set_cons_zero, List.set_cons_succ, i64_w, i32_w]
       rfl
      refine pure_ (i := 15) (N := some 49) (v := undef) (a' := ?_) #[true, true, true, true, true, true, true, true, true, true, true, true, true, true, true, true, false, false, false, false, false, false, false, false, false] rfl rfl (any_of HT_.out (by kernel_rfl)) (fun _ _ _ h => h) (Or.inr ⟨by rfl, rfl⟩) ?_ ?_
      rotate_left
      ·simp only [Act.put, List.setIfInBounds_toArray, List.set_cons_zero, List.set_cons_succ, i64_w, i32_w]
       rfl
      refine pure_ (i := 16) (N := some 50) (v := undef) (a' := ?_) #[true, true, true, true, true, true, true, true, true, true, true, true, true, true, true, true, true, false, false, false, false, false, false, false, false] rfl rfl (any_of HT_.out (by kernel_rfl)) (fun _ _ _ h => h) (Or.inr ⟨by rfl, rfl⟩) ?_ ?_
      rotate_left
      ·simp only [Act.put, List.setIfInBounds_toArray, List.set_cons_zero, List.set_cons_succ, i64_w, i32_w]
       rfl
      refine pure_ (i := 17) (N := some 51) (v := undef) (a' := ?_) #[true, true, true, true, true, true, true, true, true, true, true, true, true, true, true, true, true, true, false, false, false, false, false, false, false] rfl rfl (any_of HT_.out (by kernel_rfl)) (fun _ _ _ h => h) (Or.inr ⟨by rfl, rfl⟩) ?_ ?_
      rotate_left
      ·simp only [Act.put, List.setIfInBounds_toArray, List.set_cons_zero, List.set_cons_succ, i64_w, i32_w]
       rfl
      refine pure_ (i := 18) (N := some 52) (v := undef) (a' := ?_) #[true, true, true, true, true, true, true, true, true, true, true, true, true, true, true, true, true, true, true, false, false, false, false, false, false] rfl rfl (any_of HT_.out (by kernel_rfl)) (fun _ _ _ h => h) (Or.inr ⟨by rfl, rfl⟩) ?_ ?_
      rotate_left
      ·simp only [Act.put, List.setIfInBounds_toArray, List.set_cons_zero, List.set_cons_succ, i64_w, i32_w]
       rfl
      refine pure_ (i := 19) (N := some 53) (v := undef) (a' := ?_) #[true, true, true, true, true, true, true, true, true, true, true, true, true, true, true, true, true, true, true, true, false, false, false, false, false] rfl rfl (any_of HT_.out (by kernel_rfl)) (fun _ _ _ h => h) (Or.inr ⟨by rfl, rfl⟩) ?_ ?_
      rotate_left
      ·simp only [Act.put, List.setIfInBounds_toArray, List.set_cons_zero, List.set_cons_succ, i64_w, i32_w]
       rfl
      refine pure_ (i := 20) (N := some 54) (v := undef) (a' := ?_) #[true, true, true, true, true, true, true, true, true, true, true, true, true, true, true, true, true, true, true, true, true, false, false, false, false] rfl rfl (any_of HT_.out (by kernel_rfl)) (fun _ _ _ h => h) (Or.inr ⟨by rfl, rfl⟩) ?_ ?_
      rotate_left
      ·simp only [Act.put, List.setIfInBounds_toArray, List.set_cons_zero, List.set_cons_succ, i64_w, i32_w]
       rfl
      refine pure_ (i := 21) (N := some 55) (v := undef) (a' := ?_) #[true, true, true, true, true, true, true, true, true, true, true, true, true, true, true, true, true, true, true, true, true, true, false, false, false] rfl rfl (any_of HT_.out (by kernel_rfl)) (fun _ _ _ h => h) (Or.inr ⟨by rfl, rfl⟩) ?_ ?_
      rotate_left
      ·simp only [Act.put, List.setIfInBounds_toArray, List.set_cons_zero, List.set_cons_succ, i64_w, i32_w]
       rfl
      refine pure_ (i := 22) (N := some 56) (v := undef) (a' := ?_) #[true, true, true, true, true, true, true, true, true, true, true, true, true, true, true, true, true, true, true, true, true, true, true, false, false] rfl rfl (any_of HT_.out (by kernel_rfl)) (fun _ _ _ h => h) (Or.inr ⟨by rfl, rfl⟩) ?_ ?_
      rotate_left
      ·simp only [Act.put, List.setIfInBounds_toArray, List.set_cons_zero, List.set_cons_succ, i64_w, i32_w]
       rfl
      refine pure_ (i := 23) (N := some 57) (v := ?_) (a' := ?_) #[true, true, true, true, true, true, true, true, true, true, true, true, true, true, true, true, true, true, true, true, true, true, true, true, false] rfl rfl (any_of HT_.out (by kernel_rfl)) (fun _ _ _ h => h) (Or.inl ⟨by rfl, ?_⟩) ?_ ?_
      rotate_left
      ·intro w'
       go_simp
       with_reducible rfl
      rotate_left
      ·simp only [Act.put, List.setIfInBounds_toArray, List.set_cons_zero, List.set_cons_succ, i64_w, i32_w]
       rfl
      refine pure_ (i := 24) (N := some 10) (v := ?_) (a' := ?_) #[true, true, true, true, true, true, true, true, true, true, true, true, true, true, true, true, true, true, true, true, true, true, true, true, true] rfl rfl (any_of HT_.out (by kernel_rfl)) (fun _ _ _ h => h) (Or.inl ⟨by rfl, ?_⟩) ?_ ?_
      rotate_left
      ·intro w'
       go_simp
       with_reducible rfl
      rotate_left
      ·simp only [Act.put, List.setIfInBounds_toArray, List.set_cons_zero, List.set_cons_succ, i64_w, i32_w]
       rfl
      refine done_ (done_of HT_.out (by kernel_rfl)) ?_
      try go_wp2
      go_meet
      case rel => exact ⟨_, (false), (by first | rfl | (simp; done) | (simp [*]; done)), H', ⟨by have := HJ4.out; first | omega | exact Nat.le_refl _⟩, ⟨by (with_reducible repeat (first | apply Kd.V_alloc | apply Kd.V_drewN | apply Kd.V_drew)); exact HO137.out⟩, ⟨by (with_reducible repeat (first | apply Kd.V_alloc | apply Kd.V_drewN | apply Kd.V_drew)); exact HO140.out⟩, ⟨by (with_reducible repeat (first | refine blk_drewN ?_ _ | refine blk_drew ?_ | refine blk_alloc ?_ _)); exact BK129.out⟩, ⟨by (with_reducible repeat (first | refine blk_drewN ?_ _ | refine blk_drew ?_ | refine blk_alloc ?_ _)); exact BK130.out⟩, ⟨by (with_reducible repeat (first | refine blk_drewN ?_ _ | refine blk_drew ?_ | refine blk_alloc ?_ _)); exact BK142.out⟩, ⟨by repeat (first | (with_reducible first | exact HB.out | apply below_alloc | apply pw_below_drewN | apply below_drew1 | refine below_set ?_ GE129.out | refine below_set ?_ GE130.out | refine below_set ?_ GE142.out) | exact HB.out)⟩⟩
    case rest =>
     clear HC32
     try clear c1
     try clear p1
     try clear q1
     try clear hx1
     try clear p2
     try clear c4
     try clear c14
     try clear p14
     try clear q14
     try clear hx14
     try clear c43
     try clear c43b0
     try clear c44
     try clear c44b0
     try clear c45
     try clear c46
     try clear hx143_0
     try clear hx143_1
     try clear hx143_2
     try clear hx143_3
     try clear hx144_0
     try clear p144
     try clear q144
     obtain ⟨kq, x10_31, rfl, HA, HJ31, HO_143000, HO_143001, BK129, BK130, BK142, HB⟩ := hcut
     cases kq with
     | zero => exact absurd HA.out (by simp [fencepostlaw10_ScOn.j1])
     | succ kj31 =>
      have H := HA.out
      clear HA
      simp only [fencepostlaw10_ScOn.j1] at H
      by_cases c53 : (t141 != x10_31) = true
      ·rw [if_pos c53] at H
       have c53b0 : (t141 != x10_31) = true := c53
       (try (have c53b1 : decide (t141 = x10_31) = false := by simpa using c53))
       (try (have c53b2 : (t141 == x10_31) = false := by simpa using c53))
       (try (have c53b3 : ¬ (t141 = x10_31) := by simpa using c53))
       clear c53
       exact absurd ((Option.some.inj H).trans HT.out) (by simp)
      ·rw [if_neg c53] at H
       have c53b0 : (t141 != x10_31) = false := by simpa using c53
       (try (have c53b1 : decide (t141 = x10_31) = true := by simpa using c53))
       (try (have c53b2 : (t141 == x10_31) = true := by simpa using c53))
       clear c53
       by_cases c54 : t141 = true
       ·subst c54
        have H1 : (if 0 ≤ a2 then (if a2 < (l0_1.length : Int) then (if a2 < (l1_1.length : Int) then (if 0 ≤ ((rd_T45 l1_1 a2).f0) then (if ((rd_T45 l1_1 a2).f0) < ((rd_L3 l0_1 a2).length : Int) then (if (t138.length : Int) = (l1_1.length : Int) then (if a2 < (t138.length : Int) then (if t131 = true then (if ((rd_T45 t138 a2).f0) > ((rd_T45 l1_1 a2).f0) then (if ((rd_T45 t138 a2).f0) ≤ ((rd_L3 l0_1 a2).length : Int) then (if ((rd_T45 t138 a2).f0) = (wrap64 (((rd_T45 l1_1 a2).f0) + 1)) then (some true) else (if ((rd_T39 (rd_L3 l0_1 a2) ((rd_T45 l1_1 a2).f0)).f0) ≥ 8 then (some (((rd_T45 t138 a2).f0) == ((rd_T39 (rd_L3 l0_1 a2) ((rd_T45 l1_1 a2).f0)).f4))) else (some false))) else (some false)) else (some false)) else (some false)) else (none)) else (some false)) else (none)) else (none)) else (none)) else (none)) else (none)) = some r := by rw [if_pos rfl] at H; exact H
        clear H
        have H := H1
        clear H1
        by_cases c55 : 0 ≤ a2
        ·rw [if_pos c55] at H
         have c55b0 : decide (0 ≤ a2) = true := decide_eq_true c55
         clear c55
         by_cases c56 : a2 < (l0_1.length : Int)
         ·rw [if_pos c56] at H
          have c56b0 : decide (a2 < (l0_1.length : Int)) = true := decide_eq_true c56
          clear c56
          by_cases c57 : a2 < (l1_1.length : Int)
          ·rw [if_pos c57] at H
           have c57b0 : decide (a2 < (l1_1.length : Int)) = true := decide_eq_true c57
           clear c57
           by_cases c58 : 0 ≤ ((rd_T45 l1_1 a2).f0)
           ·rw [if_pos c58] at H
            have c58b0 : decide (0 ≤ ((rd_T45 l1_1 a2).f0)) = true := decide_eq_true c58
            clear c58
            by_cases c59 : ((rd_T45 l1_1 a2).f0) < ((rd_L3 l0_1 a2).length : Int)
            ·rw [if_pos c59] at H
             have c59b0 : decide (((rd_T45 l1_1 a2).f0) < ((rd_L3 l0_1 a2).length : Int)) = true := decide_eq_true c59
             clear c59
             by_cases c60 : (t138.length : Int) = (l1_1.length : Int)
             ·rw [if_pos c60] at H
              have c60b0 : ((t138.length : Int) == (l1_1.length : Int)) = true := beq_iff_eq.mpr c60
              have c60b1 : ((t138.length : Int) != (l1_1.length : Int)) = false := bne_eq_false_iff_eq.mpr c60
              have c60b2 : (t138.length == l1_1.length) = true := by first | simpa using c60 | (simp at c60 ⊢; omega)
              clear c60
              by_cases c61 : a2 < (t138.length : Int)
              ·rw [if_pos c61] at H
               have c61b0 : decide (a2 < (t138.length : Int)) = true := decide_eq_true c61
               clear c61
               by_cases c62 : t131 = true
               ·subst c62
                have H1 : (if ((rd_T45 t138 a2).f0) > ((rd_T45 l1_1 a2).f0) then (if ((rd_T45 t138 a2).f0) ≤ ((rd_L3 l0_1 a2).length : Int) then (if ((rd_T45 t138 a2).f0) = (wrap64 (((rd_T45 l1_1 a2).f0) + 1)) then (some true) else (if ((rd_T39 (rd_L3 l0_1 a2) ((rd_T45 l1_1 a2).f0)).f0) ≥ 8 then (some (((rd_T45 t138 a2).f0) == ((rd_T39 (rd_L3 l0_1 a2) ((rd_T45 l1_1 a2).f0)).f4))) else (some false))) else (some false)) else (some false)) = some r := by rw [if_pos rfl] at H; exact H
                clear H
                have H := H1
                clear H1
                by_cases c63 : ((rd_T45 t138 a2).f0) > ((rd_T45 l1_1 a2).f0)
                ·rw [if_pos c63] at H
                 have c63b0 : decide (((rd_T45 l1_1 a2).f0) < ((rd_T45 t138 a2).f0)) = true := decide_eq_true c63
                 clear c63
                 by_cases c64 : ((rd_T45 t138 a2).f0) ≤ ((rd_L3 l0_1 a2).length : Int)
                 ·rw [if_pos c64] at H
                  have c64b0 : decide (((rd_T45 t138 a2).f0) ≤ ((rd_L3 l0_1 a2).length : Int)) = true := decide_eq_true c64
                  clear c64
                  by_cases c65 : ((rd_T45 t138 a2).f0) = (wrap64 (((rd_T45 l1_1 a2).f0) + 1))
                  ·rw [if_pos c65] at H
                   have c65b0 : (((rd_T45 t138 a2).f0) == (wrap64 (((rd_T45 l1_1 a2).f0) + 1))) = true := beq_iff_eq.mpr c65
                   have c65b1 : (((rd_T45 t138 a2).f0) != (wrap64 (((rd_T45 l1_1 a2).f0) + 1))) = false := bne_eq_false_iff_eq.mpr c65
                   clear c65
                   obtain rfl := Option.some.inj H
                   try go_wp2
                   have n0_ := Aside0.mk (Kd.V_drew HO_143000.out)
                   have n1_ := Aside0.mk (Kd.V_drew HO_143001.out)
                   have n2_ := Aside0.mk (blk_drew BK129.out)
                   have n3_ := Aside0.mk (blk_drew BK130.out)
                   have n4_ := Aside0.mk (blk_drew BK142.out)
                   have n5_ := Aside0.mk (below_drew1 HB.out)
                   clear HO_143000
                   clear HO_143001
                   clear BK129
                   clear BK130
                   clear BK142
                   clear HB
                   have HO_143000 := n0_
                   have HO_143001 := n1_
                   have BK129 := n2_
                   have BK130 := n3_
                   have BK142 := n4_
                   have HB := n5_
                   clear n0_ n1_ n2_ n3_ n4_ n5_
                   have p145 : 0 ≤ (a2 : Int) := of_decide_eq_true (by first | (with_reducible assumption) | assumption)
                   have q145 : a2 < (l0_1.length : Int) := of_decide_eq_true (by first | (with_reducible assumption) | assumption)
                   obtain ⟨ad145, A145_0, c145_0, e145, hx145_0, hl145_0, hi145_0⟩ := at_L3 HR0_1.out a2 p145 q145
                   have hw145_0 := hx145_0
                   cases e145
                   replace hx145_0 := (HB.out.cell (World.block_lt_of_cell? w _ hx145_0)).trans hx145_0
                   have HR145_0 := Aside0.mk hi145_0
                   have HC145_0 := Aside0.mk hl145_0
                   clear hi145_0 hl145_0
                   replace p145 := eq_true p145
                   replace q145 := eq_true q145
                   have p146 : 0 ≤ (a2 : Int) := of_decide_eq_true (by first | (with_reducible assumption) | assumption)
                   have q146 : a2 < (l1_1.length : Int) := of_decide_eq_true (by first | (with_reducible assumption) | assumption)
                   obtain ⟨ad146, A146_1, c146_1, A146_3, c146_3, e146, hx146_0, hx146_1, hx146_2, hx146_3, hl146_1, hi146_1, hl146_3, hi146_3⟩ := at_T45 HR1_1.out a2 p146 q146
                   have hw146_3 := hx146_3
                   have hw146_2 := hx146_2
                   have hw146_1 := hx146_1
                   have hw146_0 := hx146_0
                   cases e146
                   replace hx146_0 := (HB.out.cell (World.block_lt_of_cell? w _ hx146_0)).trans hx146_0
                   replace hx146_1 := (HB.out.cell (World.block_lt_of_cell? w _ hx146_1)).trans hx146_1
                   replace hx146_2 := (HB.out.cell (World.block_lt_of_cell? w _ hx146_2)).trans hx146_2
                   replace hx146_3 := (HB.out.cell (World.block_lt_of_cell? w _ hx146_3)).trans hx146_3
                   have HR146_1 := Aside0.mk hi146_1
                   have HC146_1 := Aside0.mk hl146_1
                   clear hi146_1 hl146_1
                   have HR146_3 := Aside0.mk hi146_3
                   have HC146_3 := Aside0.mk hl146_3
                   clear hi146_3 hl146_3
                   replace p146 := eq_true p146
                   replace q146 := eq_true q146
                   have p147 : 0 ≤ (((rd_T45 l1_1 a2).f0) : Int) := of_decide_eq_true (by first | (with_reducible assumption) | assumption)
                   have q147 : ((rd_T45 l1_1 a2).f0) < ((rd_L3 l0_1 a2).length : Int) := of_decide_eq_true (by first | (with_reducible assumption) | assumption)
                   obtain ⟨ad147, e147, hx147_0, hx147_1, hx147_2, hx147_3, hx147_4⟩ := at_T39 HR145_0.out ((rd_T45 l1_1 a2).f0) p147 q147
                   have hw147_4 := hx147_4
                   have hw147_3 := hx147_3
                   have hw147_2 := hx147_2
                   have hw147_1 := hx147_1
                   have hw147_0 := hx147_0
                   cases e147
                   replace hx147_0 := (HB.out.cell (World.block_lt_of_cell? w _ hx147_0)).trans hx147_0
                   replace hx147_1 := (HB.out.cell (World.block_lt_of_cell? w _ hx147_1)).trans hx147_1
                   replace hx147_2 := (HB.out.cell (World.block_lt_of_cell? w _ hx147_2)).trans hx147_2
                   replace hx147_3 := (HB.out.cell (World.block_lt_of_cell? w _ hx147_3)).trans hx147_3
                   replace hx147_4 := (HB.out.cell (World.block_lt_of_cell? w _ hx147_4)).trans hx147_4
                   replace p147 := eq_true p147
                   replace q147 := eq_true q147
                   refine start_ (n := 15) (S := fun w' => w'.cell? ⟨gb129, 0, none⟩ = some (.slice A0_0 l0_0.length c0_0) ∧ w'.cell? ⟨gb129, 1, none⟩ = some (.slice (some ad145) l0_1.length c0_1) ∧ w'.cell? ⟨gb130, 0, none⟩ = some (.slice A1_0 l1_0.length c1_0) ∧ w'.cell? ⟨gb130, 1, none⟩ = some (.slice (some ad146) l1_1.length c1_1) ∧ w'.cell? (ad145.add (a2).toNat) = some (.slice (some ad147) (rd_L3 l0_1 a2).length c145_0) ∧ w'.cell? (ad146.add ((a2).toNat * 4)) = some (.int .i64 ((rd_T45 l1_1 a2).f0)) ∧ w'.cell? ⟨(ad146.add ((a2).toNat * 4)).block, (ad146.add ((a2).toNat * 4)).off + 1, none⟩ = some (.slice A146_1 ((rd_T45 l1_1 a2).f1).length c146_1) ∧ w'.cell? ⟨(ad146.add ((a2).toNat * 4)).block, (ad146.add ((a2).toNat * 4)).off + 2, none⟩ = some (.bool ((rd_T45 l1_1 a2).f2)) ∧ w'.cell? ⟨(ad146.add ((a2).toNat * 4)).block, (ad146.add ((a2).toNat * 4)).off + 3, none⟩ = some (.slice A146_3 ((rd_T45 l1_1 a2).f3).length c146_3) ∧ w'.cell? (ad147.add ((((rd_T45 l1_1 a2).f0)).toNat * 5)) = some (.int .i64 ((rd_T39 (rd_L3 l0_1 a2) ((rd_T45 l1_1 a2).f0)).f0)) ∧ w'.cell? ⟨(ad147.add ((((rd_T45 l1_1 a2).f0)).toNat * 5)).block, (ad147.add ((((rd_T45 l1_1 a2).f0)).toNat * 5)).off + 1, none⟩ = some (.int .i64 ((rd_T39 (rd_L3 l0_1 a2) ((rd_T45 l1_1 a2).f0)).f1)) ∧ w'.cell? ⟨(ad147.add ((((rd_T45 l1_1 a2).f0)).toNat * 5)).block, (ad147.add ((((rd_T45 l1_1 a2).f0)).toNat * 5)).off + 2, none⟩ = some (.int .i64 ((rd_T39 (rd_L3 l0_1 a2) ((rd_T45 l1_1 a2).f0)).f2)) ∧ w'.cell? ⟨(ad147.add ((((rd_T45 l1_1 a2).f0)).toNat * 5)).block, (ad147.add ((((rd_T45 l1_1 a2).f0)).toNat * 5)).off + 3, none⟩ = some (.int .i64 ((rd_T39 (rd_L3 l0_1 a2) ((rd_T45 l1_1 a2).f0)).f3)) ∧ w'.cell? ⟨(ad147.add ((((rd_T45 l1_1 a2).f0)).toNat * 5)).block, (ad147.add ((((rd_T45 l1_1 a2).f0)).toNat * 5)).off + 4, none⟩ = some (.int .i64 ((rd_T39 (rd_L3 l0_1 a2) ((rd_T45 l1_1 a2).f0)).f4))) (ds := []) #[false, false, false, false, false, false, false, false, false, false, false, false, false, false, false] (by kernel_rfl) rfl rfl ⟨(blk_cell BK129.out 0).trans rfl, (blk_cell BK129.out 1).trans rfl, (blk_cell BK130.out 0).trans rfl, (blk_cell BK130.out 1).trans rfl, ((HB.out.cell (World.block_lt_of_cell? w _ hw145_0)).trans hw145_0), ((HB.out.cell (World.block_lt_of_cell? w _ hw146_0)).trans hw146_0), ((HB.out.cell (World.block_lt_of_cell? w _ hw146_1)).trans hw146_1), ((HB.out.cell (World.block_lt_of_cell? w _ hw146_2)).trans hw146_2), ((HB.out.cell (World.block_lt_of_cell? w _ hw146_3)).trans hw146_3), ((HB.out.cell (World.block_lt_of_cell? w _ hw147_0)).trans hw147_0), ((HB.out.cell (World.block_lt_of_cell? w _ hw147_1)).trans hw147_1), ((HB.out.cell (World.block_lt_of_cell? w _ hw147_2)).trans hw147_2), ((HB.out.cell (World.block_lt_of_cell? w _ hw147_3)).trans hw147_3), ((HB.out.cell (World.block_lt_of_cell? w _ hw147_4)).trans hw147_4)⟩ (fun hHeld => ?_); refine with_tabW fencepostlaw10_ScOn.tab10 fencepostlaw10_ScOn.bits10 (fun HT_ HW_ => ?_)
                   generalize wc.drew = w66 at HO_143000 HO_143001 BK129 BK130 BK142 HB HR145_0 HR146_1 HR146_3 hx145_0 hx146_0 hx146_1 hx146_2 hx146_3 hx147_0 hx147_1 hx147_2 hx147_3 hx147_4 hHeld ⊢
                   refine pure_ (i := 0) (N := some 64) (v := ?_) (a' := ?_) #[true, false, false, false, false, false, false, false, false, false, false, false, false, false, false] rfl rfl (any_of HT_.out (by kernel_rfl)) (fun _ _ _ h => h) (Or.inl ⟨by rfl, ?_⟩) ?_ ?_
                   rotate_left
                   ·intro w'
                    go_simp
                    with_reducible rfl
                   rotate_left
                   ·simp only [Act.put, List.setIfInBounds_toArray, List.set_cons_zero, List.set_cons_succ, i64_w, i32_w]
                    rfl
                   refine pure_ (i := 2) (N := some 66) (v := ?_) (a' := ?_) #[true, false, true, false, false, false, false, false, false, false, false, false, false, false, false] rfl rfl (any_of HT_.out (by kernel_rfl)) (fun _ _ _ h => h) (Or.inl ⟨by rfl, ?_⟩) ?_ ?_
                   rotate_left
                   ·intro w'
                    go_simp
                    with_reducible rfl
                   rotate_left
                   ·simp only [Act.put, List.setIfInBounds_toArray, List.set_cons_zero, List.set_cons_succ, i64_w, i32_w]
                    rfl
                   refine pure_ (i := 5) (N := some 69) (v := ?_) (a' := ?_) #[true, false, true, false, false, true, false, false, false, false, false, false, false, false, false] rfl rfl (any_of HT_.out (by kernel_rfl)) (fun _ _ _ h => h) (Or.inl ⟨by rfl, ?_⟩) ?_ ?_
                   rotate_left
                   ·intro w'
                    go_simp
                    with_reducible rfl
                   rotate_left
                   ·simp only [Act.put, List.setIfInBounds_toArray, List.set_cons_zero, List.set_cons_succ, i64_w, i32_w]
                    rfl
                   refine pure_ (i := 7) (N := some 71) (v := ?_) (a' := ?_) #[true, false, true, false, false, true, false, true, false, false, false, false, false, false, false] rfl rfl (any_of HT_.out (by kernel_rfl)) (fun _ _ _ h => h) (Or.inl ⟨by rfl, ?_⟩) ?_ ?_
                   rotate_left
                   ·intro w'
                    go_simp
                    with_reducible rfl
                   rotate_left
                   ·simp only [Act.put, List.setIfInBounds_toArray, List.set_cons_zero, List.set_cons_succ, i64_w, i32_w]
                    rfl
                   refine take_ (i := 1) (N := some 65) (v := ?_) (a' := ?_) #[true, true, true, false, false, true, false, true, false, false, false, false, false, false, false] rfl rfl (take_ofW HT_.out HW_.out (by kernel_rfl)) (fun _ _ _ h => h) (Or.inl ⟨by rfl, ?_⟩) hHeld ?_ ?_
                   rotate_left
                   ·rintro w' ⟨s0, s1, s2, s3, s4, s5, s6, s7, s8, s9, s10, s11, s12, s13⟩
                    go_simp
                    with_reducible rfl
                   rotate_left
                   ·simp only [Act.put, List.setIfInBounds_toArray, List.set_cons_zero, List.set_cons_succ, i64_w, i32_w]
                    rfl
                   refine pure_ (i := 3) (N := some 67) (v := ?_) (a' := ?_) #[true, true, true, true, false, true, false, true, false, false, false, false, false, false, false] rfl rfl (any_of HT_.out (by kernel_rfl)) (fun _ _ _ h => h) (Or.inl ⟨by rfl, ?_⟩) ?_ ?_
                   rotate_left
                   ·intro w'
                    go_simp
                    with_reducible rfl
                   rotate_left
                   ·simp only [Act.put, List.setIfInBounds_toArray, List.set_cons_zero, List.set_cons_succ, i64_w, i32_w]
                    rfl
                   refine take_ (i := 4) (N := some 68) (v := ?_) (a' := ?_) #[true, true, true, true, true, true, false, true, false, false, false, false, false, false, false] rfl rfl (take_ofW HT_.out HW_.out (by kernel_rfl)) (fun _ _ _ h => h) (Or.inl ⟨by rfl, ?_⟩) hHeld ?_ ?_
                   rotate_left
                   ·rintro w' ⟨s0, s1, s2, s3, s4, s5, s6, s7, s8, s9, s10, s11, s12, s13⟩
                    go_simp
                    with_reducible rfl
                   rotate_left
                   ·simp only [Act.put, List.setIfInBounds_toArray, List.set_cons_zero, List.set_cons_succ, i64_w, i32_w]
                    rfl
                   refine take_ (i := 6) (N := some 70) (v := ?_) (a' := ?_) #[true, true, true, true, true, true, true, true, false, false, false, false, false, false, false] rfl rfl (take_ofW HT_.out HW_.out (by kernel_rfl)) (fun _ _ _ h => h) (Or.inl ⟨by rfl, ?_⟩) hHeld ?_ ?_
                   rotate_left
                   ·rintro w' ⟨s0, s1, s2, s3, s4, s5, s6, s7, s8, s9, s10, s11, s12, s13⟩
                    go_simp
                    with_reducible rfl
                   rotate_left
                   ·simp only [Act.put, List.setIfInBounds_toArray, List.set_cons_zero, List.set_cons_succ, i64_w, i32_w]
                    rfl
                   refine pure_ (i := 8) (N := some 72) (v := ?_) (a' := ?_) #[true, true, true, true, true, true, true, true, true, false, false, false, false, false, false] rfl rfl (any_of HT_.out (by kernel_rfl)) (fun _ _ _ h => h) (Or.inl ⟨by rfl, ?_⟩) ?_ ?_
                   rotate_left
                   ·intro w'
                    go_simp
                    with_reducible rfl
                   rotate_left
                   ·simp only [Act.put, List.setIfInBounds_toArray, List.set_cons_zero, List.set_cons_succ, i64_w, i32_w]
                    rfl
                   refine pure_ (i := 9) (N := some 73) (v := ?_) (a' := ?_) #[true, true, true, true, true, true, true, true, true, true, false, false, false, false, false] rfl rfl (any_of HT_.out (by kernel_rfl)) (fun _ _ _ h => h) (Or.inl ⟨by rfl, ?_⟩) ?_ ?_
                   rotate_left
                   ·intro w'
                    go_simp
                    with_reducible rfl
                   rotate_left
                   ·simp only [Act.put, List.setIfInBounds_toArray, List.set_cons_zero, List.set_cons_succ, i64_w, i32_w]
                    rfl
                   refine take_ (i := 10) (N := some 74) (v := ?_) (a' := ?_) #[true, true, true, true, true, true, true, true, true, true, true, false, false, false, false] rfl rfl (take_ofW HT_.out HW_.out (by kernel_rfl)) (fun _ _ _ h => h) (Or.inl ⟨by rfl, ?_⟩) hHeld ?_ ?_
                   rotate_left
                   ·rintro w' ⟨s0, s1, s2, s3, s4, s5, s6, s7, s8, s9, s10, s11, s12, s13⟩
                    go_simp
                    with_reducible rfl
                   rotate_left
                   ·simp only [Act.put, List.setIfInBounds_toArray, List.set_cons_zero, List.set_cons_succ, i64_w, i32_w]
                    rfl
                   refine pure_ (i := 11) (N := some 75) (v := ?_) (a' := ?_) #[true, true, true, true, true, true, true, true, true, true, true, true, false, false, false] rfl rfl (any_of HT_.out (by kernel_rfl)) (fun _ _ _ h => h) (Or.inl ⟨by rfl, ?_⟩) ?_ ?_
                   rotate_left
                   ·intro w'
                    go_simp
                    with_reducible rfl
                   rotate_left
                   ·simp only [Act.put, List.setIfInBounds_toArray, List.set_cons_zero, List.set_cons_succ, i64_w, i32_w]
                    rfl
                   refine take_ (i := 12) (N := some 76) (v := ?_) (a' := ?_) #[true, true, true, true, true, true, true, true, true, true, true, true, true, false, false] rfl rfl (take_ofW HT_.out HW_.out (by kernel_rfl)) (fun _ _ _ h => h) (Or.inl ⟨by rfl, ?_⟩) hHeld ?_ ?_
                   rotate_left
                   ·rintro w' ⟨s0, s1, s2, s3, s4, s5, s6, s7, s8, s9, s10, s11, s12, s13⟩
                    go_simp
                    with_reducible rfl
                   rotate_left
                   ·simp only [Act.put, List.setIfInBounds_toArray, List.set_cons_zero, List.set_cons_succ, i64_w, i32_w]
                    rfl
                   refine one_ (i := 13) (N := some 11) #[true, true, true, true, true, true, true, true, true, true, true, true, true, true, false] rfl rfl (one_of HT_.out (by kernel_rfl)) (by decide) (fun K hK => ?_)
                   refine box_step ?hg (N := 11) ?hd (cs := #[.int .i64 0, .int .i64 0, .int .i64 0, .int .i64 0, .int .i64 0]) (t := 39) ?hr ?_; (case hd => rfl); (case hg => rfl); (case hr => first | (go_simp; done) | (go_simp; rfl))
                   intro gb148 hg w67 hbox hb
                   have n0_ := Aside0.mk (Kd.V_below (Kd.V_elderB (by (with_reducible repeat (first | apply Kd.V_alloc | apply Kd.V_drewN | apply Kd.V_drew)); exact HO_143000.out) gb148 (Nat.le_of_eq hg.symm)) hb)
                   have n1_ := Aside0.mk (Kd.V_below (Kd.V_elderB (by (with_reducible repeat (first | apply Kd.V_alloc | apply Kd.V_drewN | apply Kd.V_drew)); exact HO_143001.out) gb148 (Nat.le_of_eq hg.symm)) hb)
                   have n2_ := Aside0.mk (blk_below (g := gb129) (o := .cells #[.slice A0_0 l0_0.length c0_0, .slice (some ad145) l0_1.length c0_1] 25 (0, 0)) (by (with_reducible repeat (first | refine blk_drewN ?_ _ | refine blk_drew ?_ | refine blk_alloc ?_ _)); exact BK129.out) hb)
                   have n3_ := Aside0.mk (blk_below (g := gb130) (o := .cells #[.slice A1_0 l1_0.length c1_0, .slice (some ad146) l1_1.length c1_1] 28 (0, 0)) (by (with_reducible repeat (first | refine blk_drewN ?_ _ | refine blk_drew ?_ | refine blk_alloc ?_ _)); exact BK130.out) hb)
                   have n4_ := Aside0.mk (blk_below (g := gb142) (o := .cells #[.slice Ao38 t135.length co38, .slice Ao42 t138.length co42] 28 (0, 0)) (by (with_reducible repeat (first | refine blk_drewN ?_ _ | refine blk_drew ?_ | refine blk_alloc ?_ _)); exact BK142.out) hb)
                   have n5_ := Aside0.mk (below_step (by repeat (first | (with_reducible first | exact HB.out | apply below_alloc | apply pw_below_drewN | apply below_drew1 | refine below_set ?_ GE129.out | refine below_set ?_ GE130.out | refine below_set ?_ GE142.out) | exact HB.out)) hb)
                   have n6_ := Aside0.mk (hbox)
                   have n7_ := Aside0.mk ((by rw [hg]; exact (below_size (by repeat (first | (with_reducible first | exact HB.out | apply below_alloc | apply pw_below_drewN | apply below_drew1 | refine below_set ?_ GE129.out | refine below_set ?_ GE130.out | refine below_set ?_ GE142.out) | exact HB.out))) : w.heap.size ≤ gb148))
                   have n8_ := Aside0.mk ((by rw [hg]; exact (below_size (by repeat (first | (with_reducible first | exact HB.out | apply below_alloc | apply pw_below_drewN | apply below_drew1 | refine below_set ?_ GE129.out | refine below_set ?_ GE130.out | refine below_set ?_ GE142.out) | exact HB.out))) : w.heap.size ≤ gb148))
                   have n9_ := Aside0.mk ((by rw [hg]; exact Nat.ne_of_lt (blk_lt (g := gb129) (o := .cells #[.slice A0_0 l0_0.length c0_0, .slice (some ad145) l0_1.length c0_1] 25 (0, 0)) (by (with_reducible repeat (first | refine blk_drewN ?_ _ | refine blk_drew ?_ | refine blk_alloc ?_ _)); exact BK129.out)) : gb129 ≠ gb148))
                   have n10_ := Aside0.mk ((by rw [hg]; exact Nat.ne_of_gt (blk_lt (g := gb129) (o := .cells #[.slice A0_0 l0_0.length c0_0, .slice (some ad145) l0_1.length c0_1] 25 (0, 0)) (by (with_reducible repeat (first | refine blk_drewN ?_ _ | refine blk_drew ?_ | refine blk_alloc ?_ _)); exact BK129.out)) : gb148 ≠ gb129))
                   have n11_ := Aside0.mk ((by rw [hg]; exact Nat.ne_of_lt (blk_lt (g := gb130) (o := .cells #[.slice A1_0 l1_0.length c1_0, .slice (some ad146) l1_1.length c1_1] 28 (0, 0)) (by (with_reducible repeat (first | refine blk_drewN ?_ _ | refine blk_drew ?_ | refine blk_alloc ?_ _)); exact BK130.out)) : gb130 ≠ gb148))
                   have n12_ := Aside0.mk ((by rw [hg]; exact Nat.ne_of_gt (blk_lt (g := gb130) (o := .cells #[.slice A1_0 l1_0.length c1_0, .slice (some ad146) l1_1.length c1_1] 28 (0, 0)) (by (with_reducible repeat (first | refine blk_drewN ?_ _ | refine blk_drew ?_ | refine blk_alloc ?_ _)); exact BK130.out)) : gb148 ≠ gb130))
                   have n13_ := Aside0.mk ((by rw [hg]; exact Nat.ne_of_lt (blk_lt (g := gb142) (o := .cells #[.slice Ao38 t135.length co38, .slice Ao42 t138.length co42] 28 (0, 0)) (by (with_reducible repeat (first | refine blk_drewN ?_ _ | refine blk_drew ?_ | refine blk_alloc ?_ _)); exact BK142.out)) : gb142 ≠ gb148))
                   have n14_ := Aside0.mk ((by rw [hg]; exact Nat.ne_of_gt (blk_lt (g := gb142) (o := .cells #[.slice Ao38 t135.length co38, .slice Ao42 t138.length co42] 28 (0, 0)) (by (with_reducible repeat (first | refine blk_drewN ?_ _ | refine blk_drew ?_ | refine blk_alloc ?_ _)); exact BK142.out)) : gb148 ≠ gb142))
                   clear HO_143000
                   clear HO_143001
                   clear BK129
                   clear BK130
                   clear BK142
                   clear HB
                   have HO_143000 := n0_
                   have HO_143001 := n1_
                   have BK129 := n2_
                   have BK130 := n3_
                   have BK142 := n4_
                   have HB := n5_
                   have BK148 := n6_
                   have GW148 := n7_
                   have GE148 := n8_
                   have NB129_148 := n9_
                   have NB148_129 := n10_
                   have NB130_148 := n11_
                   have NB148_130 := n12_
                   have NB142_148 := n13_
                   have NB148_142 := n14_
                   clear n0_ n1_ n2_ n3_ n4_ n5_ n6_ n7_ n8_ n9_ n10_ n11_ n12_ n13_ n14_
                   clear hb hbox hg
                   refine hK.out _ _ ⟨(blk_cell BK129.out 0).trans rfl, (blk_cell BK129.out 1).trans rfl, (blk_cell BK130.out 0).trans rfl, (blk_cell BK130.out 1).trans rfl, ((HB.out.cell (World.block_lt_of_cell? w _ hw145_0)).trans hw145_0), ((HB.out.cell (World.block_lt_of_cell? w _ hw146_0)).trans hw146_0), ((HB.out.cell (World.block_lt_of_cell? w _ hw146_1)).trans hw146_1), ((HB.out.cell (World.block_lt_of_cell? w _ hw146_2)).trans hw146_2), ((HB.out.cell (World.block_lt_of_cell? w _ hw146_3)).trans hw146_3), ((HB.out.cell (World.block_lt_of_cell? w _ hw147_0)).trans hw147_0), ((HB.out.cell (World.block_lt_of_cell? w _ hw147_1)).trans hw147_1), ((HB.out.cell (World.block_lt_of_cell? w _ hw147_2)).trans hw147_2), ((HB.out.cell (World.block_lt_of_cell? w _ hw147_3)).trans hw147_3), ((HB.out.cell (World.block_lt_of_cell? w _ hw147_4)).trans hw147_4)⟩ (fun hHeld => ?_)
                   clear hK K
                   refine norm_ (a' := ?_) ?_ ?_
                   rotate_left
                   ·show Act.put _ (some 11) _ = _
                    simp only [Act.put, List.setIfInBounds_toArray, List.set_cons_zero, List.set_cons_succ, i64_w, i32_w]
                    rfl
                   refine one_ (i := 14) (N := none) #[true, true, true, true, true, true, true, true, true, true, true, true, true, true, true] rfl rfl (one_of HT_.out (by kernel_rfl)) (by decide) (fun K hK => ?_)
                   have hs68 : w67.cell? ⟨gb148, 0, none⟩ = some (.int .i64 0) := (blk_cell BK148.out 0).trans rfl
                   have hfs68 := blk_frozen BK148.out 0
                   have hns68_0 := NB129_148.out
                   have hns68_1 := NB130_148.out
                   have hns68_2 := NB142_148.out
                   have hms68_0 := NB148_129.out
                   have hms68_1 := NB148_130.out
                   have hms68_2 := NB148_142.out
                   have hs69 : w67.cell? ⟨gb148, 1, none⟩ = some (.int .i64 0) := (blk_cell BK148.out 1).trans rfl
                   have hfs69 := blk_frozen BK148.out 1
                   have hns69_0 := NB129_148.out
                   have hns69_1 := NB130_148.out
                   have hns69_2 := NB142_148.out
                   have hms69_0 := NB148_129.out
                   have hms69_1 := NB148_130.out
                   have hms69_2 := NB148_142.out
                   have hs70 : w67.cell? ⟨gb148, 2, none⟩ = some (.int .i64 0) := (blk_cell BK148.out 2).trans rfl
                   have hfs70 := blk_frozen BK148.out 2
                   have hns70_0 := NB129_148.out
                   have hns70_1 := NB130_148.out
                   have hns70_2 := NB142_148.out
                   have hms70_0 := NB148_129.out
                   have hms70_1 := NB148_130.out
                   have hms70_2 := NB148_142.out
                   have hs71 : w67.cell? ⟨gb148, 3, none⟩ = some (.int .i64 0) := (blk_cell BK148.out 3).trans rfl
                   have hfs71 := blk_frozen BK148.out 3
                   have hns71_0 := NB129_148.out
                   have hns71_1 := NB130_148.out
                   have hns71_2 := NB142_148.out
                   have hms71_0 := NB148_129.out
                   have hms71_1 := NB148_130.out
                   have hms71_2 := NB148_142.out
                   have hs72 : w67.cell? ⟨gb148, 4, none⟩ = some (.int .i64 0) := (blk_cell BK148.out 4).trans rfl
                   have hfs72 := blk_frozen BK148.out 4
                   have hns72_0 := NB129_148.out
                   have hns72_1 := NB130_148.out
                   have hns72_2 := NB142_148.out
                   have hms72_0 := NB148_129.out
                   have hms72_1 := NB148_130.out
                   have hms72_2 := NB148_142.out
                   refine skip_ (w1 := ?_) (by rfl) rfl ?_ ?_
                   rotate_left
                   ·go_simp
                    rfl
                   refine hK.out _ _ ⟨((cell_far (p := ⟨gb148, _, none⟩) NB129_148.out _).trans (((cell_far (p := ⟨gb148, _, none⟩) NB129_148.out _).trans (((cell_far (p := ⟨gb148, _, none⟩) NB129_148.out _).trans (((cell_far (p := ⟨gb148, _, none⟩) NB129_148.out _).trans (((cell_far (p := ⟨gb148, _, none⟩) NB129_148.out _).trans (hHeld.1)))))))))), ((cell_far (p := ⟨gb148, _, none⟩) NB129_148.out _).trans (((cell_far (p := ⟨gb148, _, none⟩) NB129_148.out _).trans (((cell_far (p := ⟨gb148, _, none⟩) NB129_148.out _).trans (((cell_far (p := ⟨gb148, _, none⟩) NB129_148.out _).trans (((cell_far (p := ⟨gb148, _, none⟩) NB129_148.out _).trans (hHeld.2.1)))))))))), ((cell_far (p := ⟨gb148, _, none⟩) NB130_148.out _).trans (((cell_far (p := ⟨gb148, _, none⟩) NB130_148.out _).trans (((cell_far (p := ⟨gb148, _, none⟩) NB130_148.out _).trans (((cell_far (p := ⟨gb148, _, none⟩) NB130_148.out _).trans (((cell_far (p := ⟨gb148, _, none⟩) NB130_148.out _).trans (hHeld.2.2.1)))))))))), ((cell_far (p := ⟨gb148, _, none⟩) NB130_148.out _).trans (((cell_far (p := ⟨gb148, _, none⟩) NB130_148.out _).trans (((cell_far (p := ⟨gb148, _, none⟩) NB130_148.out _).trans (((cell_far (p := ⟨gb148, _, none⟩) NB130_148.out _).trans (((cell_far (p := ⟨gb148, _, none⟩) NB130_148.out _).trans (hHeld.2.2.2.1)))))))))), ((cell_far (p := ⟨gb148, _, none⟩) (by first | exact Nat.ne_of_lt (bk_ hw145_0 GW148.out) | (rw [add_block]; exact Nat.ne_of_lt (bk_ hw145_0 GW148.out)) | (show (Addr.add _ _).block ≠ _; rw [add_block]; exact Nat.ne_of_lt (bk_ hw145_0 GW148.out)) | (dsimp only; exact Nat.ne_of_lt (bk_ hw145_0 GW148.out))) _).trans (((cell_far (p := ⟨gb148, _, none⟩) (by first | exact Nat.ne_of_lt (bk_ hw145_0 GW148.out) | (rw [add_block]; exact Nat.ne_of_lt (bk_ hw145_0 GW148.out)) | (show (Addr.add _ _).block ≠ _; rw [add_block]; exact Nat.ne_of_lt (bk_ hw145_0 GW148.out)) | (dsimp only; exact Nat.ne_of_lt (bk_ hw145_0 GW148.out))) _).trans (((cell_far (p := ⟨gb148, _, none⟩) (by first | exact Nat.ne_of_lt (bk_ hw145_0 GW148.out) | (rw [add_block]; exact Nat.ne_of_lt (bk_ hw145_0 GW148.out)) | (show (Addr.add _ _).block ≠ _; rw [add_block]; exact Nat.ne_of_lt (bk_ hw145_0 GW148.out)) | (dsimp only; exact Nat.ne_of_lt (bk_ hw145_0 GW148.out))) _).trans (((cell_far (p := ⟨gb148, _, none⟩) (by first | exact Nat.ne_of_lt (bk_ hw145_0 GW148.out) | (rw [add_block]; exact Nat.ne_of_lt (bk_ hw145_0 GW148.out)) | (show (Addr.add _ _).block ≠ _; rw [add_block]; exact Nat.ne_of_lt (bk_ hw145_0 GW148.out)) | (dsimp only; exact Nat.ne_of_lt (bk_ hw145_0 GW148.out))) _).trans (((cell_far (p := ⟨gb148, _, none⟩) (by first | exact Nat.ne_of_lt (bk_ hw145_0 GW148.out) | (rw [add_block]; exact Nat.ne_of_lt (bk_ hw145_0 GW148.out)) | (show (Addr.add _ _).block ≠ _; rw [add_block]; exact Nat.ne_of_lt (bk_ hw145_0 GW148.out)) | (dsimp only; exact Nat.ne_of_lt (bk_ hw145_0 GW148.out))) _).trans (hHeld.2.2.2.2.1)))))))))), ((cell_far (p := ⟨gb148, _, none⟩) (by first | exact Nat.ne_of_lt (bk_ hw146_0 GW148.out) | (rw [add_block]; exact Nat.ne_of_lt (bk_ hw146_0 GW148.out)) | (show (Addr.add _ _).block ≠ _; rw [add_block]; exact Nat.ne_of_lt (bk_ hw146_0 GW148.out)) | (dsimp only; exact Nat.ne_of_lt (bk_ hw146_0 GW148.out))) _).trans (((cell_far (p := ⟨gb148, _, none⟩) (by first | exact Nat.ne_of_lt (bk_ hw146_0 GW148.out) | (rw [add_block]; exact Nat.ne_of_lt (bk_ hw146_0 GW148.out)) | (show (Addr.add _ _).block ≠ _; rw [add_block]; exact Nat.ne_of_lt (bk_ hw146_0 GW148.out)) | (dsimp only; exact Nat.ne_of_lt (bk_ hw146_0 GW148.out))) _).trans (((cell_far (p := ⟨gb148, _, none⟩) (by first | exact Nat.ne_of_lt (bk_ hw146_0 GW148.out) | (rw [add_block]; exact Nat.ne_of_lt (bk_ hw146_0 GW148.out)) | (show (Addr.add _ _).block ≠ _; rw [add_block]; exact Nat.ne_of_lt (bk_ hw146_0 GW148.out)) | (dsimp only; exact Nat.ne_of_lt (bk_ hw146_0 GW148.out))) _).trans (((cell_far (p := ⟨gb148, _, none⟩) (by first | exact Nat.ne_of_lt (bk_ hw146_0 GW148.out) | (rw [add_block]; exact Nat.ne_of_lt (bk_ hw146_0 GW148.out)) | (show (Addr.add _ _).block ≠ _; rw [add_block]; exact Nat.ne_of_lt (bk_ hw146_0 GW148.out)) | (dsimp only; exact Nat.ne_of_lt (bk_ hw146_0 GW148.out))) _).trans (((cell_far (p := ⟨gb148, _, none⟩) (by first | exact Nat.ne_of_lt (bk_ hw146_0 GW148.out) | (rw [add_block]; exact Nat.ne_of_lt (bk_ hw146_0 GW148.out)) | (show (Addr.add _ _).block ≠ _; rw [add_block]; exact Nat.ne_of_lt (bk_ hw146_0 GW148.out)) | (dsimp only; exact Nat.ne_of_lt (bk_ hw146_0 GW148.out))) _).trans (hHeld.2.2.2.2.2.1)))))))))), ((cell_far (p := ⟨gb148, _, none⟩) (by first | exact Nat.ne_of_lt (bk_ hw146_1 GW148.out) | (rw [add_block]; exact Nat.ne_of_lt (bk_ hw146_1 GW148.out)) | (show (Addr.add _ _).block ≠ _; rw [add_block]; exact Nat.ne_of_lt (bk_ hw146_1 GW148.out)) | (dsimp only; exact Nat.ne_of_lt (bk_ hw146_1 GW148.out))) _).trans (((cell_far (p := ⟨gb148, _, none⟩) (by first | exact Nat.ne_of_lt (bk_ hw146_1 GW148.out) | (rw [add_block]; exact Nat.ne_of_lt (bk_ hw146_1 GW148.out)) | (show (Addr.add _ _).block ≠ _; rw [add_block]; exact Nat.ne_of_lt (bk_ hw146_1 GW148.out)) | (dsimp only; exact Nat.ne_of_lt (bk_ hw146_1 GW148.out))) _).trans (((cell_far (p := ⟨gb148, _, none⟩) (by first | exact Nat.ne_of_lt (bk_ hw146_1 GW148.out) | (rw [add_block]; exact Nat.ne_of_lt (bk_ hw146_1 GW148.out)) | (show (Addr.add _ _).block ≠ _; rw [add_block]; exact Nat.ne_of_lt (bk_ hw146_1 GW148.out)) | (dsimp only; exact Nat.ne_of_lt (bk_ hw146_1 GW148.out))) _).trans (((cell_far (p := ⟨gb148, _, none⟩) (by first | exact Nat.ne_of_lt (bk_ hw146_1 GW148.out) | (rw [add_block]; exact Nat.ne_of_lt (bk_ hw146_1 GW148.out)) | (show (Addr.add _ _).block ≠ _; rw [add_block]; exact Nat.ne_of_lt (bk_ hw146_1 GW148.out)) | (dsimp only; exact Nat.ne_of_lt (bk_ hw146_1 GW148.out))) _).trans (((cell_far (p := ⟨gb148, _, none⟩) (by first | exact Nat.ne_of_lt (bk_ hw146_1 GW148.out) | (rw [add_block]; exact Nat.ne_of_lt (bk_ hw146_1 GW148.out)) | (show (Addr.add _ _).block ≠ _; rw [add_block]; exact Nat.ne_of_lt (bk_ hw146_1 GW148.out)) | (dsimp only; exact Nat.ne_of_lt (bk_ hw146_1 GW148.out))) _).trans (hHeld.2.2.2.2.2.2.1)))))))))), ((cell_far (p := ⟨gb148, _, none⟩) (by first | exact Nat.ne_of_lt (bk_ hw146_2 GW148.out) | (rw [add_block]; exact Nat.ne_of_lt (bk_ hw146_2 GW148.out)) | (show (Addr.add _ _).block ≠ _; rw [add_block]; exact Nat.ne_of_lt (bk_ hw146_2 GW148.out)) | (dsimp only; exact Nat.ne_of_lt (bk_ hw146_2 GW148.out))) _).trans (((cell_far (p := ⟨gb148, _, none⟩) (by first | exact Nat.ne_of_lt (bk_ hw146_2 GW148.out) | (rw [add_block]; exact Nat.ne_of_lt (bk_ hw146_2 GW148.out)) | (show (Addr.add _ _).block ≠ _; rw [add_block]; exact Nat.ne_of_lt (bk_ hw146_2 GW148.out)) | (dsimp only; exact Nat.ne_of_lt (bk_ hw146_2 GW148.out))) _).trans (((cell_far (p := ⟨gb148, _, none⟩) (by first | exact Nat.ne_of_lt (bk_ hw146_2 GW148.out) | (rw [add_block]; exact Nat.ne_of_lt (bk_ hw146_2 GW148.out)) | (show (Addr.add _ _).block ≠ _; rw [add_block]; exact Nat.ne_of_lt (bk_ hw146_2 GW148.out)) | (dsimp only; exact Nat.ne_of_lt (bk_ hw146_2 GW148.out))) _).trans (((cell_far (p := ⟨gb148, _, none⟩) (by first | exact Nat.ne_of_lt (bk_ hw146_2 GW148.out) | (rw [add_block]; exact Nat.ne_of_lt (bk_ hw146_2 GW148.out)) | (show (Addr.add _ _).block ≠ _; rw [add_block]; exact Nat.ne_of_lt (bk_ hw146_2 GW148.out)) | (dsimp only; exact Nat.ne_of_lt (bk_ hw146_2 GW148.out))) _).trans (((cell_far (p := ⟨gb148, _, none⟩) (by first | exact Nat.ne_of_lt (bk_ hw146_2 GW148.out) | (rw [add_block]; exact Nat.ne_of_lt (bk_ hw146_2 GW148.out)) | (show (Addr.add _ _).block ≠ _; rw [add_block]; exact Nat.ne_of_lt (bk_ hw146_2 GW148.out)) | (dsimp only; exact Nat.ne_of_lt (bk_ hw146_2 GW148.out))) _).trans (hHeld.2.2.2.2.2.2.2.1)))))))))), ((cell_far (p := ⟨gb148, _, none⟩) (by first | exact Nat.ne_of_lt (bk_ hw146_3 GW148.out) | (rw [add_block]; exact Nat.ne_of_lt (bk_ hw146_3 GW148.out)) | (show (Addr.add _ _).block ≠ _; rw [add_block]; exact Nat.ne_of_lt (bk_ hw146_3 GW148.out)) | (dsimp only; exact Nat.ne_of_lt (bk_ hw146_3 GW148.out))) _).trans (((cell_far (p := ⟨gb148, _, none⟩) (by first | exact Nat.ne_of_lt (bk_ hw146_3 GW148.out) | (rw [add_block]; exact Nat.ne_of_lt (bk_ hw146_3 GW148.out)) | (show (Addr.add _ _).block ≠ _; rw [add_block]; exact Nat.ne_of_lt (bk_ hw146_3 GW148.out)) | (dsimp only; exact Nat.ne_of_lt (bk_ hw146_3 GW148.out))) _).trans (((cell_far (p := ⟨gb148, _, none⟩) (by first | exact Nat.ne_of_lt (bk_ hw146_3 GW148.out) | (rw [add_block]; exact Nat.ne_of_lt (bk_ hw146_3 GW148.out)) | (show (Addr.add _ _).block ≠ _; rw [add_block]; exact Nat.ne_of_lt (bk_ hw146_3 GW148.out)) | (dsimp only; exact Nat.ne_of_lt (bk_ hw146_3 GW148.out))) _).trans (((cell_far (p := ⟨gb148, _, none⟩) (by first | exact Nat.ne_of_lt (bk_ hw146_3 GW148.out) | (rw [add_block]; exact Nat.ne_of_lt (bk_ hw146_3 GW148.out)) | (show (Addr.add _ _).block ≠ _; rw [add_block]; exact Nat.ne_of_lt (bk_ hw146_3 GW148.out)) | (dsimp only; exact Nat.ne_of_lt (bk_ hw146_3 GW148.out))) _).trans (((cell_far (p := ⟨gb148, _, none⟩) (by first | exact Nat.ne_of_lt (bk_ hw146_3 GW148.out) | (rw [add_block]; exact Nat.ne_of_lt (bk_ hw146_3 GW148.out)) | (show (Addr.add _ _).block ≠ _; rw [add_block]; exact Nat.ne_of_lt (bk_ hw146_3 GW148.out)) | (dsimp only; exact Nat.ne_of_lt (bk_ hw146_3 GW148.out))) _).trans (hHeld.2.2.2.2.2.2.2.2.1)))))))))), ((cell_far (p := ⟨gb148, _, none⟩) (by first | exact Nat.ne_of_lt (bk_ hw147_0 GW148.out) | (rw [add_block]; exact Nat.ne_of_lt (bk_ hw147_0 GW148.out)) | (show (Addr.add _ _).block ≠ _; rw [add_block]; exact Nat.ne_of_lt (bk_ hw147_0 GW148.out)) | (dsimp only; exact Nat.ne_of_lt (bk_ hw147_0 GW148.out))) _).trans (((cell_far (p := ⟨gb148, _, none⟩) (by first | exact Nat.ne_of_lt (bk_ hw147_0 GW148.out) | (rw [add_block]; exact Nat.ne_of_lt (bk_ hw147_0 GW148.out)) | (show (Addr.add _ _).block ≠ _; rw [add_block]; exact Nat.ne_of_lt (bk_ hw147_0 GW148.out)) | (dsimp only; exact Nat.ne_of_lt (bk_ hw147_0 GW148.out))) _).trans (((cell_far (p := ⟨gb148, _, none⟩) (by first | exact Nat.ne_of_lt (bk_ hw147_0 GW148.out) | (rw [add_block]; exact Nat.ne_of_lt (bk_ hw147_0 GW148.out)) | (show (Addr.add _ _).block ≠ _; rw [add_block]; exact Nat.ne_of_lt (bk_ hw147_0 GW148.out)) | (dsimp only; exact Nat.ne_of_lt (bk_ hw147_0 GW148.out))) _).trans (((cell_far (p := ⟨gb148, _, none⟩) (by first | exact Nat.ne_of_lt (bk_ hw147_0 GW148.out) | (rw [add_block]; exact Nat.ne_of_lt (bk_ hw147_0 GW148.out)) | (show (Addr.add _ _).block ≠ _; rw [add_block]; exact Nat.ne_of_lt (bk_ hw147_0 GW148.out)) | (dsimp only; exact Nat.ne_of_lt (bk_ hw147_0 GW148.out))) _).trans (((cell_far (p := ⟨gb148, _, none⟩) (by first | exact Nat.ne_of_lt (bk_ hw147_0 GW148.out) | (rw [add_block]; exact Nat.ne_of_lt (bk_ hw147_0 GW148.out)) | (show (Addr.add _ _).block ≠ _; rw [add_block]; exact Nat.ne_of_lt (bk_ hw147_0 GW148.out)) | (dsimp only; exact Nat.ne_of_lt (bk_ hw147_0 GW148.out))) _).trans (hHeld.2.2.2.2.2.2.2.2.2.1)))))))))), ((cell_far (p := ⟨gb148, _, none⟩) (by first | exact Nat.ne_of_lt (bk_ hw147_1 GW148.out) | (rw [add_block]; exact Nat.ne_of_lt (bk_ hw147_1 GW148.out)) | (show (Addr.add _ _).block ≠ _; rw [add_block]; exact Nat.ne_of_lt (bk_ hw147_1 GW148.out)) | (dsimp only; exact Nat.ne_of_lt (bk_ hw147_1 GW148.out))) _).trans (((cell_far (p := ⟨gb148, _, none⟩) (by first | exact Nat.ne_of_lt (bk_ hw147_1 GW148.out) | (rw [add_block]; exact Nat.ne_of_lt (bk_ hw147_1 GW148.out)) | (show (Addr.add _ _).block ≠ _; rw [add_block]; exact Nat.ne_of_lt (bk_ hw147_1 GW148.out)) | (dsimp only; exact Nat.ne_of_lt (bk_ hw147_1 GW148.out))) _).trans (((cell_far (p := ⟨gb148, _, none⟩) (by first | exact Nat.ne_of_lt (bk_ hw147_1 GW148.out) | (rw [add_block]; exact Nat.ne_of_lt (bk_ hw147_1 GW148.out)) | (show (Addr.add _ _).block ≠ _; rw [add_block]; exact Nat.ne_of_lt (bk_ hw147_1 GW148.out)) | (dsimp only; exact Nat.ne_of_lt (bk_ hw147_1 GW148.out))) _).trans (((cell_far (p := ⟨gb148, _, none⟩) (by first | exact Nat.ne_of_lt (bk_ hw147_1 GW148.out) | (rw [add_block]; exact Nat.ne_of_lt (bk_ hw147_1 GW148.out)) | (show (Addr.add _ _).block ≠ _; rw [add_block]; exact Nat.ne_of_lt (bk_ hw147_1 GW148.out)) | (dsimp only; exact Nat.ne_of_lt (bk_ hw147_1 GW148.out))) _).trans (((cell_far (p := ⟨gb148, _, none⟩) (by first | exact Nat.ne_of_lt (bk_ hw147_1 GW148.out) | (rw [add_block]; exact Nat.ne_of_lt (bk_ hw147_1 GW148.out)) | (show (Addr.add _ _).block ≠ _; rw [add_block]; exact Nat.ne_of_lt (bk_ hw147_1 GW148.out)) | (dsimp only; exact Nat.ne_of_lt (bk_ hw147_1 GW148.out))) _).trans (hHeld.2.2.2.2.2.2.2.2.2.2.1)))))))))), ((cell_far (p := ⟨gb148, _, none⟩) (by first | exact Nat.ne_of_lt (bk_ hw147_2 GW148.out) | (rw [add_block]; exact Nat.ne_of_lt (bk_ hw147_2 GW148.out)) | (show (Addr.add _ _).block ≠ _; rw [add_block]; exact Nat.ne_of_lt (bk_ hw147_2 GW148.out)) | (dsimp only; exact Nat.ne_of_lt (bk_ hw147_2 GW148.out))) _).trans (((cell_far (p := ⟨gb148, _, none⟩) (by first | exact Nat.ne_of_lt (bk_ hw147_2 GW148.out) | (rw [add_block]; exact Nat.ne_of_lt (bk_ hw147_2 GW148.out)) | (show (Addr.add _ _).block ≠ _; rw [add_block]; exact Nat.ne_of_lt (bk_ hw147_2 GW148.out)) | (dsimp only; exact Nat.ne_of_lt (bk_ hw147_2 GW148.out))) _).trans (((cell_far (p := ⟨gb148, _, none⟩) (by first | exact Nat.ne_of_lt (bk_ hw147_2 GW148.out) | (rw [add_block]; exact Nat.ne_of_lt (bk_ hw147_2 GW148.out)) | (show (Addr.add _ _).block ≠ _; rw [add_block]; exact Nat.ne_of_lt (bk_ hw147_2 GW148.out)) | (dsimp only; exact Nat.ne_of_lt (bk_ hw147_2 GW148.out))) _).trans (((cell_far (p := ⟨gb148, _, none⟩) (by first | exact Nat.ne_of_lt (bk_ hw147_2 GW148.out) | (rw [add_block]; exact Nat.ne_of_lt (bk_ hw147_2 GW148.out)) | (show (Addr.add _ _).block ≠ _; rw [add_block]; exact Nat.ne_of_lt (bk_ hw147_2 GW148.out)) | (dsimp only; exact Nat.ne_of_lt (bk_ hw147_2 GW148.out))) _).trans (((cell_far (p := ⟨gb148, _, none⟩) (by first | exact Nat.ne_of_lt (bk_ hw147_2 GW148.out) | (rw [add_block]; exact Nat.ne_of_lt (bk_ hw147_2 GW148.out)) | (show (Addr.add _ _).block ≠ _; rw [add_block]; exact Nat.ne_of_lt (bk_ hw147_2 GW148.out)) | (dsimp only; exact Nat.ne_of_lt (bk_ hw147_2 GW148.out))) _).trans (hHeld.2.2.2.2.2.2.2.2.2.2.2.1)))))))))), ((cell_far (p := ⟨gb148, _, none⟩) (by first | exact Nat.ne_of_lt (bk_ hw147_3 GW148.out) | (rw [add_block]; exact Nat.ne_of_lt (bk_ hw147_3 GW148.out)) | (show (Addr.add _ _).block ≠ _; rw [add_block]; exact Nat.ne_of_lt (bk_ hw147_3 GW148.out)) | (dsimp only; exact Nat.ne_of_lt (bk_ hw147_3 GW148.out))) _).trans (((cell_far (p := ⟨gb148, _, none⟩) (by first | exact Nat.ne_of_lt (bk_ hw147_3 GW148.out) | (rw [add_block]; exact Nat.ne_of_lt (bk_ hw147_3 GW148.out)) | (show (Addr.add _ _).block ≠ _; rw [add_block]; exact Nat.ne_of_lt (bk_ hw147_3 GW148.out)) | (dsimp only; exact Nat.ne_of_lt (bk_ hw147_3 GW148.out))) _).trans (((cell_far (p := ⟨gb148, _, none⟩) (by first | exact Nat.ne_of_lt (bk_ hw147_3 GW148.out) | (rw [add_block]; exact Nat.ne_of_lt (bk_ hw147_3 GW148.out)) | (show (Addr.add _ _).block ≠ _; rw [add_block]; exact Nat.ne_of_lt (bk_ hw147_3 GW148.out)) | (dsimp only; exact Nat.ne_of_lt (bk_ hw147_3 GW148.out))) _).trans (((cell_far (p := ⟨gb148, _, none⟩) (by first | exact Nat.ne_of_lt (bk_ hw147_3 GW148.out) | (rw [add_block]; exact Nat.ne_of_lt (bk_ hw147_3 GW148.out)) | (show (Addr.add _ _).block ≠ _; rw [add_block]; exact Nat.ne_of_lt (bk_ hw147_3 GW148.out)) | (dsimp only; exact Nat.ne_of_lt (bk_ hw147_3 GW148.out))) _).trans (((cell_far (p := ⟨gb148, _, none⟩) (by first | exact Nat.ne_of_lt (bk_ hw147_3 GW148.out) | (rw [add_block]; exact Nat.ne_of_lt (bk_ hw147_3 GW148.out)) | (show (Addr.add _ _).block ≠ _; rw [add_block]; exact Nat.ne_of_lt (bk_ hw147_3 GW148.out)) | (dsimp only; exact Nat.ne_of_lt (bk_ hw147_3 GW148.out))) _).trans (hHeld.2.2.2.2.2.2.2.2.2.2.2.2.1)))))))))), ((cell_far (p := ⟨gb148, _, none⟩) (by first | exact Nat.ne_of_lt (bk_ hw147_4 GW148.out) | (rw [add_block]; exact Nat.ne_of_lt (bk_ hw147_4 GW148.out)) | (show (Addr.add _ _).block ≠ _; rw [add_block]; exact Nat.ne_of_lt (bk_ hw147_4 GW148.out)) | (dsimp only; exact Nat.ne_of_lt (bk_ hw147_4 GW148.out))) _).trans (((cell_far (p := ⟨gb148, _, none⟩) (by first | exact Nat.ne_of_lt (bk_ hw147_4 GW148.out) | (rw [add_block]; exact Nat.ne_of_lt (bk_ hw147_4 GW148.out)) | (show (Addr.add _ _).block ≠ _; rw [add_block]; exact Nat.ne_of_lt (bk_ hw147_4 GW148.out)) | (dsimp only; exact Nat.ne_of_lt (bk_ hw147_4 GW148.out))) _).trans (((cell_far (p := ⟨gb148, _, none⟩) (by first | exact Nat.ne_of_lt (bk_ hw147_4 GW148.out) | (rw [add_block]; exact Nat.ne_of_lt (bk_ hw147_4 GW148.out)) | (show (Addr.add _ _).block ≠ _; rw [add_block]; exact Nat.ne_of_lt (bk_ hw147_4 GW148.out)) | (dsimp only; exact Nat.ne_of_lt (bk_ hw147_4 GW148.out))) _).trans (((cell_far (p := ⟨gb148, _, none⟩) (by first | exact Nat.ne_of_lt (bk_ hw147_4 GW148.out) | (rw [add_block]; exact Nat.ne_of_lt (bk_ hw147_4 GW148.out)) | (show (Addr.add _ _).block ≠ _; rw [add_block]; exact Nat.ne_of_lt (bk_ hw147_4 GW148.out)) | (dsimp only; exact Nat.ne_of_lt (bk_ hw147_4 GW148.out))) _).trans (((cell_far (p := ⟨gb148, _, none⟩) (by first | exact Nat.ne_of_lt (bk_ hw147_4 GW148.out) | (rw [add_block]; exact Nat.ne_of_lt (bk_ hw147_4 GW148.out)) | (show (Addr.add _ _).block ≠ _; rw [add_block]; exact Nat.ne_of_lt (bk_ hw147_4 GW148.out)) | (dsimp only; exact Nat.ne_of_lt (bk_ hw147_4 GW148.out))) _).trans (hHeld.2.2.2.2.2.2.2.2.2.2.2.2.2))))))))))⟩ (fun hHeld => ?_)
                   clear hK K
                   refine done_ (done_of HT_.out (by kernel_rfl)) ?_
                   have n0_ : Aside0 (Kd.V (Kd.int .i64) 3 (((((w67.setCell ⟨gb148, 0, none⟩ (.int .i64 ((rd_T39 (rd_L3 l0_1 a2) ((rd_T45 l1_1 a2).f0)).f0))).setCell ⟨gb148, 1, none⟩ (.int .i64 ((rd_T39 (rd_L3 l0_1 a2) ((rd_T45 l1_1 a2).f0)).f1))).setCell ⟨gb148, 2, none⟩ (.int .i64 ((rd_T39 (rd_L3 l0_1 a2) ((rd_T45 l1_1 a2).f0)).f2))).setCell ⟨gb148, 3, none⟩ (.int .i64 ((rd_T39 (rd_L3 l0_1 a2) ((rd_T45 l1_1 a2).f0)).f3))).setCell ⟨gb148, 4, none⟩ (.int .i64 ((rd_T39 (rd_L3 l0_1 a2) ((rd_T45 l1_1 a2).f0)).f4))) w.heap.size (fun k_ => k_ ≠ gb129 ∧ k_ ≠ gb130 ∧ k_ ≠ gb142 ∧ k_ ≠ gb148) (.slice Ao38 t135.length co38) t135) := ⟨by (with_reducible repeat (first | apply Kd.V_alloc | apply Kd.V_drewN | apply Kd.V_drew)); exact Kd.V_mono (Kd.V_far (p := ⟨gb148, 4, none⟩) (Kd.V_far (p := ⟨gb148, 3, none⟩) (Kd.V_far (p := ⟨gb148, 2, none⟩) (Kd.V_far (p := ⟨gb148, 1, none⟩) (Kd.V_far (p := ⟨gb148, 0, none⟩) (Kd.V_mono HO_143000.out (fun k_ hk => (⟨hk, hk.2⟩ : _ ∧ k_ ≠ gb148))) (fun _ hk => hk.2) (.int .i64 ((rd_T39 (rd_L3 l0_1 a2) ((rd_T45 l1_1 a2).f0)).f0))) (fun _ hk => hk.2) (.int .i64 ((rd_T39 (rd_L3 l0_1 a2) ((rd_T45 l1_1 a2).f0)).f1))) (fun _ hk => hk.2) (.int .i64 ((rd_T39 (rd_L3 l0_1 a2) ((rd_T45 l1_1 a2).f0)).f2))) (fun _ hk => hk.2) (.int .i64 ((rd_T39 (rd_L3 l0_1 a2) ((rd_T45 l1_1 a2).f0)).f3))) (fun _ hk => hk.2) (.int .i64 ((rd_T39 (rd_L3 l0_1 a2) ((rd_T45 l1_1 a2).f0)).f4))) (fun _ hk => ⟨hk.1.1.1, ⟨hk.1.1.2.1, ⟨hk.1.1.2.2, hk.1.2⟩⟩⟩)⟩
                   have n1_ : Aside0 (Kd.V k45 45 (((((w67.setCell ⟨gb148, 0, none⟩ (.int .i64 ((rd_T39 (rd_L3 l0_1 a2) ((rd_T45 l1_1 a2).f0)).f0))).setCell ⟨gb148, 1, none⟩ (.int .i64 ((rd_T39 (rd_L3 l0_1 a2) ((rd_T45 l1_1 a2).f0)).f1))).setCell ⟨gb148, 2, none⟩ (.int .i64 ((rd_T39 (rd_L3 l0_1 a2) ((rd_T45 l1_1 a2).f0)).f2))).setCell ⟨gb148, 3, none⟩ (.int .i64 ((rd_T39 (rd_L3 l0_1 a2) ((rd_T45 l1_1 a2).f0)).f3))).setCell ⟨gb148, 4, none⟩ (.int .i64 ((rd_T39 (rd_L3 l0_1 a2) ((rd_T45 l1_1 a2).f0)).f4))) w.heap.size (fun k_ => k_ ≠ gb129 ∧ k_ ≠ gb130 ∧ k_ ≠ gb142 ∧ k_ ≠ gb148) (.slice Ao42 t138.length co42) t138) := ⟨by (with_reducible repeat (first | apply Kd.V_alloc | apply Kd.V_drewN | apply Kd.V_drew)); exact Kd.V_mono (Kd.V_far (p := ⟨gb148, 4, none⟩) (Kd.V_far (p := ⟨gb148, 3, none⟩) (Kd.V_far (p := ⟨gb148, 2, none⟩) (Kd.V_far (p := ⟨gb148, 1, none⟩) (Kd.V_far (p := ⟨gb148, 0, none⟩) (Kd.V_mono HO_143001.out (fun k_ hk => (⟨hk, hk.2⟩ : _ ∧ k_ ≠ gb148))) (fun _ hk => hk.2) (.int .i64 ((rd_T39 (rd_L3 l0_1 a2) ((rd_T45 l1_1 a2).f0)).f0))) (fun _ hk => hk.2) (.int .i64 ((rd_T39 (rd_L3 l0_1 a2) ((rd_T45 l1_1 a2).f0)).f1))) (fun _ hk => hk.2) (.int .i64 ((rd_T39 (rd_L3 l0_1 a2) ((rd_T45 l1_1 a2).f0)).f2))) (fun _ hk => hk.2) (.int .i64 ((rd_T39 (rd_L3 l0_1 a2) ((rd_T45 l1_1 a2).f0)).f3))) (fun _ hk => hk.2) (.int .i64 ((rd_T39 (rd_L3 l0_1 a2) ((rd_T45 l1_1 a2).f0)).f4))) (fun _ hk => ⟨hk.1.1.1, ⟨hk.1.1.2.1, ⟨hk.1.1.2.2, hk.1.2⟩⟩⟩)⟩
                   have n2_ : Aside0 ((((((w67.setCell ⟨gb148, 0, none⟩ (.int .i64 ((rd_T39 (rd_L3 l0_1 a2) ((rd_T45 l1_1 a2).f0)).f0))).setCell ⟨gb148, 1, none⟩ (.int .i64 ((rd_T39 (rd_L3 l0_1 a2) ((rd_T45 l1_1 a2).f0)).f1))).setCell ⟨gb148, 2, none⟩ (.int .i64 ((rd_T39 (rd_L3 l0_1 a2) ((rd_T45 l1_1 a2).f0)).f2))).setCell ⟨gb148, 3, none⟩ (.int .i64 ((rd_T39 (rd_L3 l0_1 a2) ((rd_T45 l1_1 a2).f0)).f3))).setCell ⟨gb148, 4, none⟩ (.int .i64 ((rd_T39 (rd_L3 l0_1 a2) ((rd_T45 l1_1 a2).f0)).f4))).heap[gb129]? = some (.cells #[.slice A0_0 l0_0.length c0_0, .slice (some ad145) l0_1.length c0_1] 25 (0, 0))) := ⟨by (with_reducible repeat (first | refine blk_drewN ?_ _ | refine blk_drew ?_ | refine blk_alloc ?_ _)); refine blk_far ?_ NB129_148.out _; (with_reducible repeat (first | refine blk_drewN ?_ _ | refine blk_drew ?_ | refine blk_alloc ?_ _)); refine blk_far ?_ NB129_148.out _; (with_reducible repeat (first | refine blk_drewN ?_ _ | refine blk_drew ?_ | refine blk_alloc ?_ _)); refine blk_far ?_ NB129_148.out _; (with_reducible repeat (first | refine blk_drewN ?_ _ | refine blk_drew ?_ | refine blk_alloc ?_ _)); refine blk_far ?_ NB129_148.out _; (with_reducible repeat (first | refine blk_drewN ?_ _ | refine blk_drew ?_ | refine blk_alloc ?_ _)); refine blk_far ?_ NB129_148.out _; (with_reducible repeat (first | refine blk_drewN ?_ _ | refine blk_drew ?_ | refine blk_alloc ?_ _)); exact BK129.out⟩
                   have n3_ : Aside0 ((((((w67.setCell ⟨gb148, 0, none⟩ (.int .i64 ((rd_T39 (rd_L3 l0_1 a2) ((rd_T45 l1_1 a2).f0)).f0))).setCell ⟨gb148, 1, none⟩ (.int .i64 ((rd_T39 (rd_L3 l0_1 a2) ((rd_T45 l1_1 a2).f0)).f1))).setCell ⟨gb148, 2, none⟩ (.int .i64 ((rd_T39 (rd_L3 l0_1 a2) ((rd_T45 l1_1 a2).f0)).f2))).setCell ⟨gb148, 3, none⟩ (.int .i64 ((rd_T39 (rd_L3 l0_1 a2) ((rd_T45 l1_1 a2).f0)).f3))).setCell ⟨gb148, 4, none⟩ (.int .i64 ((rd_T39 (rd_L3 l0_1 a2) ((rd_T45 l1_1 a2).f0)).f4))).heap[gb130]? = some (.cells #[.slice A1_0 l1_0.length c1_0, .slice (some ad146) l1_1.length c1_1] 28 (0, 0))) := ⟨by (with_reducible repeat (first | refine blk_drewN ?_ _ | refine blk_drew ?_ | refine blk_alloc ?_ _)); refine blk_far ?_ NB130_148.out _; (with_reducible repeat (first | refine blk_drewN ?_ _ | refine blk_drew ?_ | refine blk_alloc ?_ _)); refine blk_far ?_ NB130_148.out _; (with_reducible repeat (first | refine blk_drewN ?_ _ | refine blk_drew ?_ | refine blk_alloc ?_ _)); refine blk_far ?_ NB130_148.out _; (with_reducible repeat (first | refine blk_drewN ?_ _ | refine blk_drew ?_ | refine blk_alloc ?_ _)); refine blk_far ?_ NB130_148.out _; (with_reducible repeat (first | refine blk_drewN ?_ _ | refine blk_drew ?_ | refine blk_alloc ?_ _)); refine blk_far ?_ NB130_148.out _; (with_reducible repeat (first | refine blk_drewN ?_ _ | refine blk_drew ?_ | refine blk_alloc ?_ _)); exact BK130.out⟩
                   have n4_ : Aside0 ((((((w67.setCell ⟨gb148, 0, none⟩ (.int .i64 ((rd_T39 (rd_L3 l0_1 a2) ((rd_T45 l1_1 a2).f0)).f0))).setCell ⟨gb148, 1, none⟩ (.int .i64 ((rd_T39 (rd_L3 l0_1 a2) ((rd_T45 l1_1 a2).f0)).f1))).setCell ⟨gb148, 2, none⟩ (.int .i64 ((rd_T39 (rd_L3 l0_1 a2) ((rd_T45 l1_1 a2).f0)).f2))).setCell ⟨gb148, 3, none⟩ (.int .i64 ((rd_T39 (rd_L3 l0_1 a2) ((rd_T45 l1_1 a2).f0)).f3))).setCell ⟨gb148, 4, none⟩ (.int .i64 ((rd_T39 (rd_L3 l0_1 a2) ((rd_T45 l1_1 a2).f0)).f4))).heap[gb142]? = some (.cells #[.slice Ao38 t135.length co38, .slice Ao42 t138.length co42] 28 (0, 0))) := ⟨by (with_reducible repeat (first | refine blk_drewN ?_ _ | refine blk_drew ?_ | refine blk_alloc ?_ _)); refine blk_far ?_ NB142_148.out _; (with_reducible repeat (first | refine blk_drewN ?_ _ | refine blk_drew ?_ | refine blk_alloc ?_ _)); refine blk_far ?_ NB142_148.out _; (with_reducible repeat (first | refine blk_drewN ?_ _ | refine blk_drew ?_ | refine blk_alloc ?_ _)); refine blk_far ?_ NB142_148.out _; (with_reducible repeat (first | refine blk_drewN ?_ _ | refine blk_drew ?_ | refine blk_alloc ?_ _)); refine blk_far ?_ NB142_148.out _; (with_reducible repeat (first | refine blk_drewN ?_ _ | refine blk_drew ?_ | refine blk_alloc ?_ _)); refine blk_far ?_ NB142_148.out _; (with_reducible repeat (first | refine blk_drewN ?_ _ | refine blk_drew ?_ | refine blk_alloc ?_ _)); exact BK142.out⟩
                   have n5_ : Aside0 ((((((w67.setCell ⟨gb148, 0, none⟩ (.int .i64 ((rd_T39 (rd_L3 l0_1 a2) ((rd_T45 l1_1 a2).f0)).f0))).setCell ⟨gb148, 1, none⟩ (.int .i64 ((rd_T39 (rd_L3 l0_1 a2) ((rd_T45 l1_1 a2).f0)).f1))).setCell ⟨gb148, 2, none⟩ (.int .i64 ((rd_T39 (rd_L3 l0_1 a2) ((rd_T45 l1_1 a2).f0)).f2))).setCell ⟨gb148, 3, none⟩ (.int .i64 ((rd_T39 (rd_L3 l0_1 a2) ((rd_T45 l1_1 a2).f0)).f3))).setCell ⟨gb148, 4, none⟩ (.int .i64 ((rd_T39 (rd_L3 l0_1 a2) ((rd_T45 l1_1 a2).f0)).f4))).heap[gb148]? = some (.cells #[.int .i64 ((rd_T39 (rd_L3 l0_1 a2) ((rd_T45 l1_1 a2).f0)).f0), .int .i64 ((rd_T39 (rd_L3 l0_1 a2) ((rd_T45 l1_1 a2).f0)).f1), .int .i64 ((rd_T39 (rd_L3 l0_1 a2) ((rd_T45 l1_1 a2).f0)).f2), .int .i64 ((rd_T39 (rd_L3 l0_1 a2) ((rd_T45 l1_1 a2).f0)).f3), .int .i64 ((rd_T39 (rd_L3 l0_1 a2) ((rd_T45 l1_1 a2).f0)).f4)] 39 (0, 0))) := ⟨by (with_reducible repeat (first | refine blk_drewN ?_ _ | refine blk_drew ?_ | refine blk_alloc ?_ _)); refine blk_put (cs := #[.int .i64 ((rd_T39 (rd_L3 l0_1 a2) ((rd_T45 l1_1 a2).f0)).f0), .int .i64 ((rd_T39 (rd_L3 l0_1 a2) ((rd_T45 l1_1 a2).f0)).f1), .int .i64 ((rd_T39 (rd_L3 l0_1 a2) ((rd_T45 l1_1 a2).f0)).f2), .int .i64 ((rd_T39 (rd_L3 l0_1 a2) ((rd_T45 l1_1 a2).f0)).f3), .int .i64 0]) ?_ 4 _ rfl; (with_reducible repeat (first | refine blk_drewN ?_ _ | refine blk_drew ?_ | refine blk_alloc ?_ _)); refine blk_put (cs := #[.int .i64 ((rd_T39 (rd_L3 l0_1 a2) ((rd_T45 l1_1 a2).f0)).f0), .int .i64 ((rd_T39 (rd_L3 l0_1 a2) ((rd_T45 l1_1 a2).f0)).f1), .int .i64 ((rd_T39 (rd_L3 l0_1 a2) ((rd_T45 l1_1 a2).f0)).f2), .int .i64 0, .int .i64 0]) ?_ 3 _ rfl; (with_reducible repeat (first | refine blk_drewN ?_ _ | refine blk_drew ?_ | refine blk_alloc ?_ _)); refine blk_put (cs := #[.int .i64 ((rd_T39 (rd_L3 l0_1 a2) ((rd_T45 l1_1 a2).f0)).f0), .int .i64 ((rd_T39 (rd_L3 l0_1 a2) ((rd_T45 l1_1 a2).f0)).f1), .int .i64 0, .int .i64 0, .int .i64 0]) ?_ 2 _ rfl; (with_reducible repeat (first | refine blk_drewN ?_ _ | refine blk_drew ?_ | refine blk_alloc ?_ _)); refine blk_put (cs := #[.int .i64 ((rd_T39 (rd_L3 l0_1 a2) ((rd_T45 l1_1 a2).f0)).f0), .int .i64 0, .int .i64 0, .int .i64 0, .int .i64 0]) ?_ 1 _ rfl; (with_reducible repeat (first | refine blk_drewN ?_ _ | refine blk_drew ?_ | refine blk_alloc ?_ _)); refine blk_put (cs := #[.int .i64 0, .int .i64 0, .int .i64 0, .int .i64 0, .int .i64 0]) ?_ 0 _ rfl; (with_reducible repeat (first | refine blk_drewN ?_ _ | refine blk_drew ?_ | refine blk_alloc ?_ _)); exact BK148.out⟩
                   have n6_ : Aside0 (Below w.heap.size w (((((w67.setCell ⟨gb148, 0, none⟩ (.int .i64 ((rd_T39 (rd_L3 l0_1 a2) ((rd_T45 l1_1 a2).f0)).f0))).setCell ⟨gb148, 1, none⟩ (.int .i64 ((rd_T39 (rd_L3 l0_1 a2) ((rd_T45 l1_1 a2).f0)).f1))).setCell ⟨gb148, 2, none⟩ (.int .i64 ((rd_T39 (rd_L3 l0_1 a2) ((rd_T45 l1_1 a2).f0)).f2))).setCell ⟨gb148, 3, none⟩ (.int .i64 ((rd_T39 (rd_L3 l0_1 a2) ((rd_T45 l1_1 a2).f0)).f3))).setCell ⟨gb148, 4, none⟩ (.int .i64 ((rd_T39 (rd_L3 l0_1 a2) ((rd_T45 l1_1 a2).f0)).f4)))) := ⟨by repeat (first | (with_reducible first | exact HB.out | apply below_alloc | apply pw_below_drewN | apply below_drew1 | refine below_set ?_ GE129.out | refine below_set ?_ GE130.out | refine below_set ?_ GE142.out | refine below_set ?_ GE148.out) | exact HB.out)⟩
                   (try clear HO_143000)
                   (try clear HO_143001)
                   (try clear BK129)
                   (try clear BK130)
                   (try clear BK142)
                   (try clear BK148)
                   (try clear HB)
                   generalize (((((w67.setCell ⟨gb148, 0, none⟩ (.int .i64 ((rd_T39 (rd_L3 l0_1 a2) ((rd_T45 l1_1 a2).f0)).f0))).setCell ⟨gb148, 1, none⟩ (.int .i64 ((rd_T39 (rd_L3 l0_1 a2) ((rd_T45 l1_1 a2).f0)).f1))).setCell ⟨gb148, 2, none⟩ (.int .i64 ((rd_T39 (rd_L3 l0_1 a2) ((rd_T45 l1_1 a2).f0)).f2))).setCell ⟨gb148, 3, none⟩ (.int .i64 ((rd_T39 (rd_L3 l0_1 a2) ((rd_T45 l1_1 a2).f0)).f3))).setCell ⟨gb148, 4, none⟩ (.int .i64 ((rd_T39 (rd_L3 l0_1 a2) ((rd_T45 l1_1 a2).f0)).f4))) = w73 at n0_ n1_ n2_ n3_ n4_ n5_ n6_ ⊢
                   have HO_143000 := n0_
                   have HO_143001 := n1_
                   have BK129 := n2_
                   have BK130 := n3_
                   have BK142 := n4_
                   have BK148 := n5_
                   have HB := n6_
                   clear n0_ n1_ n2_ n3_ n4_ n5_ n6_
                   have hnb74 := NB142_129.out
                   have hnc74 := NB129_142.out
                   have hnb75 := NB142_130.out
                   have hnc75 := NB130_142.out
                   have hnb76 := NB142_148.out
                   have hnc76 := NB148_142.out
                   have hcz77_0 : w73.cell? ⟨gb142, 0, none⟩ = some (.slice Ao38 t135.length co38) := (blk_cell BK142.out 0).trans rfl
                   have hcz77_1 : w73.cell? ⟨gb142, 1, none⟩ = some (.slice Ao42 t138.length co42) := (blk_cell BK142.out 1).trans rfl
                   have hfz77_0 := blk_frozen BK142.out 0
                   have hfz77_1 := blk_frozen BK142.out 1
                   have hnb78 := NB130_129.out
                   have hnc78 := NB129_130.out
                   have hnb79 := NB130_148.out
                   have hnc79 := NB148_130.out
                   have hcz80_0 : w73.cell? ⟨gb130, 0, none⟩ = some (.slice A1_0 l1_0.length c1_0) := (blk_cell BK130.out 0).trans rfl
                   have hcz80_1 : w73.cell? ⟨gb130, 1, none⟩ = some (.slice (some ad146) l1_1.length c1_1) := (blk_cell BK130.out 1).trans rfl
                   have hfz80_0 := blk_frozen BK130.out 0
                   have hfz80_1 := blk_frozen BK130.out 1
                   have p149 : 0 ≤ (a2 : Int) := of_decide_eq_true (by first | (with_reducible assumption) | assumption)
                   have q149 : a2 < (t138.length : Int) := of_decide_eq_true (by first | (with_reducible assumption) | assumption)
                   obtain ⟨ad149, A149_1, c149_1, A149_3, c149_3, e149, hx149_0, hx149_1, hx149_2, hx149_3, hl149_1, hi149_1, hl149_3, hi149_3⟩ := at_T45 (Kd.V_reads' HO_143001.out).2.2 a2 p149 q149
                   cases e149
                   obtain ⟨ce149, hce149, hMe149, hcc149⟩ := Kd.V_get HO_143001.out z45 a2 p149 (by first | exact q149 | exact of_decide_eq_true (by first | (with_reducible assumption) | assumption) | (have e_ := (Kd.V_reads' HO_143001.out).1; omega))
                   obtain ⟨ua149_1, uc149_1, ua149_3, uc149_3, rfl, ul149_1, ge149_1, ul149_3, ge149_3⟩ := k45_openF hMe149
                   have hv149_1 := hcc149 1 _ rfl
                   rw [add_field _ _ 1 (by omega)] at hv149_1
                   replace hv149_1 := Option.some.inj (hv149_1.symm.trans hx149_1)
                   injection hv149_1 with hva_ hvn_ hvc_
                   rw [hva_] at ge149_1
                   rw [hvc_] at ul149_1
                   have HL149_1 := Aside0.mk (show Kd.V (Kd.int .i64) 3 _ w.heap.size _ _ ((rd_T45 t138 a2).f1) from Kd.V_mk ul149_1 ge149_1)
                   clear hva_ hvn_ hvc_ ge149_1 ul149_1
                   have hv149_3 := hcc149 3 _ rfl
                   rw [add_field _ _ 3 (by omega)] at hv149_3
                   replace hv149_3 := Option.some.inj (hv149_3.symm.trans hx149_3)
                   injection hv149_3 with hva_ hvn_ hvc_
                   rw [hva_] at ge149_3
                   rw [hvc_] at ul149_3
                   have HL149_3 := Aside0.mk (show Kd.V k53 53 _ w.heap.size _ _ ((rd_T45 t138 a2).f3) from Kd.V_mk ul149_3 ge149_3)
                   clear hva_ hvn_ hvc_ ge149_3 ul149_3
                   clear hcc149 hce149
                   have HR149_1 := Aside0.mk hi149_1
                   have HC149_1 := Aside0.mk hl149_1
                   clear hi149_1 hl149_1
                   have HR149_3 := Aside0.mk hi149_3
                   have HC149_3 := Aside0.mk hl149_3
                   clear hi149_3 hl149_3
                   replace p149 := eq_true p149
                   replace q149 := eq_true q149
                   have p150 : 0 ≤ (a2 : Int) := of_decide_eq_true (by first | (with_reducible assumption) | assumption)
                   have q150 : a2 < (l1_1.length : Int) := of_decide_eq_true (by first | (with_reducible assumption) | assumption)
                   obtain ⟨ad150, A150_1, c150_1, A150_3, c150_3, e150, hx150_0, hx150_1, hx150_2, hx150_3, hl150_1, hi150_1, hl150_3, hi150_3⟩ := at_T45 HR1_1.out a2 p150 q150
                   obtain rfl : ad146 = ad150 := (by injection e150)
                   replace hx150_0 := (HB.out.cell (World.block_lt_of_cell? w _ hx150_0)).trans hx150_0
                   replace hx150_1 := (HB.out.cell (World.block_lt_of_cell? w _ hx150_1)).trans hx150_1
                   replace hx150_2 := (HB.out.cell (World.block_lt_of_cell? w _ hx150_2)).trans hx150_2
                   replace hx150_3 := (HB.out.cell (World.block_lt_of_cell? w _ hx150_3)).trans hx150_3
                   have HR150_1 := Aside0.mk hi150_1
                   have HC150_1 := Aside0.mk hl150_1
                   clear hi150_1 hl150_1
                   have HR150_3 := Aside0.mk hi150_3
                   have HC150_3 := Aside0.mk hl150_3
                   clear hi150_3 hl150_3
                   replace p150 := eq_true p150
                   replace q150 := eq_true q150
                   have hnb81 := NB129_148.out
                   have hnc81 := NB148_129.out
                   have hcz82_0 : w73.cell? ⟨gb129, 0, none⟩ = some (.slice A0_0 l0_0.length c0_0) := (blk_cell BK129.out 0).trans rfl
                   have hcz82_1 : w73.cell? ⟨gb129, 1, none⟩ = some (.slice (some ad145) l0_1.length c0_1) := (blk_cell BK129.out 1).trans rfl
                   have hfz82_0 := blk_frozen BK129.out 0
                   have hfz82_1 := blk_frozen BK129.out 1
                   have p151 : 0 ≤ (a2 : Int) := of_decide_eq_true (by first | (with_reducible assumption) | assumption)
                   have q151 : a2 < (l0_1.length : Int) := of_decide_eq_true (by first | (with_reducible assumption) | assumption)
                   obtain ⟨ad151, A151_0, c151_0, e151, hx151_0, hl151_0, hi151_0⟩ := at_L3 HR0_1.out a2 p151 q151
                   obtain rfl : ad145 = ad151 := (by injection e151)
                   replace hx151_0 := (HB.out.cell (World.block_lt_of_cell? w _ hx151_0)).trans hx151_0
                   have HR151_0 := Aside0.mk hi151_0
                   have HC151_0 := Aside0.mk hl151_0
                   clear hi151_0 hl151_0
                   replace p151 := eq_true p151
                   replace q151 := eq_true q151
                   have p152 : 0 ≤ (a2 : Int) := of_decide_eq_true (by first | (with_reducible assumption) | assumption)
                   have q152 : a2 < (l1_1.length : Int) := of_decide_eq_true (by first | (with_reducible assumption) | assumption)
                   obtain ⟨ad152, A152_1, c152_1, A152_3, c152_3, e152, hx152_0, hx152_1, hx152_2, hx152_3, hl152_1, hi152_1, hl152_3, hi152_3⟩ := at_T45 HR1_1.out a2 p152 q152
                   obtain rfl : ad146 = ad152 := (by injection e152)
                   replace hx152_0 := (HB.out.cell (World.block_lt_of_cell? w _ hx152_0)).trans hx152_0
                   replace hx152_1 := (HB.out.cell (World.block_lt_of_cell? w _ hx152_1)).trans hx152_1
                   replace hx152_2 := (HB.out.cell (World.block_lt_of_cell? w _ hx152_2)).trans hx152_2
                   replace hx152_3 := (HB.out.cell (World.block_lt_of_cell? w _ hx152_3)).trans hx152_3
                   have HR152_1 := Aside0.mk hi152_1
                   have HC152_1 := Aside0.mk hl152_1
                   clear hi152_1 hl152_1
                   have HR152_3 := Aside0.mk hi152_3
                   have HC152_3 := Aside0.mk hl152_3
                   clear hi152_3 hl152_3
                   replace p152 := eq_true p152
                   replace q152 := eq_true q152
                   have ea_ := Option.some.inj (hx150_1.symm.trans hx152_1)
                   injection ea_ with ea_ en_ ec_
                   subst ea_
                   subst ec_
                   clear en_
                   have ea_ := Option.some.inj (hx150_3.symm.trans hx152_3)
                   injection ea_ with ea_ en_ ec_
                   subst ea_
                   subst ec_
                   clear en_
                   try go_wp2
                   go_ret
                   exact ⟨by first | rfl | (simp [errW_none, errW_some] <;> rfl) | (simp [*, errW_none, errW_some] <;> rfl), by repeat (first | (with_reducible first | exact HB.out | apply below_alloc | apply pw_below_drewN | apply below_drew1 | refine below_set ?_ GE129.out | refine below_set ?_ GE130.out | refine below_set ?_ GE142.out | refine below_set ?_ GE148.out) | exact HB.out)⟩
                  ·rw [if_neg c65] at H
                   have c65b0 : (((rd_T45 t138 a2).f0) == (wrap64 (((rd_T45 l1_1 a2).f0) + 1))) = false := beq_eq_false_iff_ne.mpr c65
                   have c65b1 : (((rd_T45 t138 a2).f0) != (wrap64 (((rd_T45 l1_1 a2).f0) + 1))) = true := bne_iff_ne.mpr c65
                   by_cases c83 : ((rd_T39 (rd_L3 l0_1 a2) ((rd_T45 l1_1 a2).f0)).f0) ≥ 8
                   ·rw [if_pos c83] at H
                    have c83b0 : decide (8 ≤ ((rd_T39 (rd_L3 l0_1 a2) ((rd_T45 l1_1 a2).f0)).f0)) = true := decide_eq_true c83
                    clear c83
                    obtain rfl := Option.some.inj H
                    try go_wp2
                    have n0_ := Aside0.mk (Kd.V_drew HO_143000.out)
                    have n1_ := Aside0.mk (Kd.V_drew HO_143001.out)
                    have n2_ := Aside0.mk (blk_drew BK129.out)
                    have n3_ := Aside0.mk (blk_drew BK130.out)
                    have n4_ := Aside0.mk (blk_drew BK142.out)
                    have n5_ := Aside0.mk (below_drew1 HB.out)
                    clear HO_143000
                    clear HO_143001
                    clear BK129
                    clear BK130
                    clear BK142
                    clear HB
                    have HO_143000 := n0_
                    have HO_143001 := n1_
                    have BK129 := n2_
                    have BK130 := n3_
                    have BK142 := n4_
                    have HB := n5_
                    clear n0_ n1_ n2_ n3_ n4_ n5_
                    have p145 : 0 ≤ (a2 : Int) := of_decide_eq_true (by first | (with_reducible assumption) | assumption)
                    have q145 : a2 < (l0_1.length : Int) := of_decide_eq_true (by first | (with_reducible assumption) | assumption)
                    obtain ⟨ad145, A145_0, c145_0, e145, hx145_0, hl145_0, hi145_0⟩ := at_L3 HR0_1.out a2 p145 q145
                    have hw145_0 := hx145_0
                    cases e145
                    replace hx145_0 := (HB.out.cell (World.block_lt_of_cell? w _ hx145_0)).trans hx145_0
                    have HR145_0 := Aside0.mk hi145_0
                    have HC145_0 := Aside0.mk hl145_0
                    clear hi145_0 hl145_0
                    replace p145 := eq_true p145
                    replace q145 := eq_true q145
                    have p146 : 0 ≤ (a2 : Int) := of_decide_eq_true (by first | (with_reducible assumption) | assumption)
                    have q146 : a2 < (l1_1.length : Int) := of_decide_eq_true (by first | (with_reducible assumption) | assumption)
                    obtain ⟨ad146, A146_1, c146_1, A146_3, c146_3, e146, hx146_0, hx146_1, hx146_2, hx146_3, hl146_1, hi146_1, hl146_3, hi146_3⟩ := at_T45 HR1_1.out a2 p146 q146
                    have hw146_3 := hx146_3
                    have hw146_2 := hx146_2
                    have hw146_1 := hx146_1
                    have hw146_0 := hx146_0
                    cases e146
                    replace hx146_0 := (HB.out.cell (World.block_lt_of_cell? w _ hx146_0)).trans hx146_0
                    replace hx146_1 := (HB.out.cell (World.block_lt_of_cell? w _ hx146_1)).trans hx146_1
                    replace hx146_2 := (HB.out.cell (World.block_lt_of_cell? w _ hx146_2)).trans hx146_2
                    replace hx146_3 := (HB.out.cell (World.block_lt_of_cell? w _ hx146_3)).trans hx146_3
                    have HR146_1 := Aside0.mk hi146_1
                    have HC146_1 := Aside0.mk hl146_1
                    clear hi146_1 hl146_1
                    have HR146_3 := Aside0.mk hi146_3
                    have HC146_3 := Aside0.mk hl146_3
                    clear hi146_3 hl146_3
                    replace p146 := eq_true p146
                    replace q146 := eq_true q146
                    have p147 : 0 ≤ (((rd_T45 l1_1 a2).f0) : Int) := of_decide_eq_true (by first | (with_reducible assumption) | assumption)
                    have q147 : ((rd_T45 l1_1 a2).f0) < ((rd_L3 l0_1 a2).length : Int) := of_decide_eq_true (by first | (with_reducible assumption) | assumption)
                    obtain ⟨ad147, e147, hx147_0, hx147_1, hx147_2, hx147_3, hx147_4⟩ := at_T39 HR145_0.out ((rd_T45 l1_1 a2).f0) p147 q147
                    have hw147_4 := hx147_4
                    have hw147_3 := hx147_3
                    have hw147_2 := hx147_2
                    have hw147_1 := hx147_1
                    have hw147_0 := hx147_0
                    cases e147
                    replace hx147_0 := (HB.out.cell (World.block_lt_of_cell? w _ hx147_0)).trans hx147_0
                    replace hx147_1 := (HB.out.cell (World.block_lt_of_cell? w _ hx147_1)).trans hx147_1
                    replace hx147_2 := (HB.out.cell (World.block_lt_of_cell? w _ hx147_2)).trans hx147_2
                    replace hx147_3 := (HB.out.cell (World.block_lt_of_cell? w _ hx147_3)).trans hx147_3
                    replace hx147_4 := (HB.out.cell (World.block_lt_of_cell? w _ hx147_4)).trans hx147_4
                    replace p147 := eq_true p147
                    replace q147 := eq_true q147
                    refine start_ (n := 15) (S := fun w' => w'.cell? ⟨gb129, 0, none⟩ = some (.slice A0_0 l0_0.length c0_0) ∧ w'.cell? ⟨gb129, 1, none⟩ = some (.slice (some ad145) l0_1.length c0_1) ∧ w'.cell? ⟨gb130, 0, none⟩ = some (.slice A1_0 l1_0.length c1_0) ∧ w'.cell? ⟨gb130, 1, none⟩ = some (.slice (some ad146) l1_1.length c1_1) ∧ w'.cell? (ad145.add (a2).toNat) = some (.slice (some ad147) (rd_L3 l0_1 a2).length c145_0) ∧ w'.cell? (ad146.add ((a2).toNat * 4)) = some (.int .i64 ((rd_T45 l1_1 a2).f0)) ∧ w'.cell? ⟨(ad146.add ((a2).toNat * 4)).block, (ad146.add ((a2).toNat * 4)).off + 1, none⟩ = some (.slice A146_1 ((rd_T45 l1_1 a2).f1).length c146_1) ∧ w'.cell? ⟨(ad146.add ((a2).toNat * 4)).block, (ad146.add ((a2).toNat * 4)).off + 2, none⟩ = some (.bool ((rd_T45 l1_1 a2).f2)) ∧ w'.cell? ⟨(ad146.add ((a2).toNat * 4)).block, (ad146.add ((a2).toNat * 4)).off + 3, none⟩ = some (.slice A146_3 ((rd_T45 l1_1 a2).f3).length c146_3) ∧ w'.cell? (ad147.add ((((rd_T45 l1_1 a2).f0)).toNat * 5)) = some (.int .i64 ((rd_T39 (rd_L3 l0_1 a2) ((rd_T45 l1_1 a2).f0)).f0)) ∧ w'.cell? ⟨(ad147.add ((((rd_T45 l1_1 a2).f0)).toNat * 5)).block, (ad147.add ((((rd_T45 l1_1 a2).f0)).toNat * 5)).off + 1, none⟩ = some (.int .i64 ((rd_T39 (rd_L3 l0_1 a2) ((rd_T45 l1_1 a2).f0)).f1)) ∧ w'.cell? ⟨(ad147.add ((((rd_T45 l1_1 a2).f0)).toNat * 5)).block, (ad147.add ((((rd_T45 l1_1 a2).f0)).toNat * 5)).off + 2, none⟩ = some (.int .i64 ((rd_T39 (rd_L3 l0_1 a2) ((rd_T45 l1_1 a2).f0)).f2)) ∧ w'.cell? ⟨(ad147.add ((((rd_T45 l1_1 a2).f0)).toNat * 5)).block, (ad147.add ((((rd_T45 l1_1 a2).f0)).toNat * 5)).off + 3, none⟩ = some (.int .i64 ((rd_T39 (rd_L3 l0_1 a2) ((rd_T45 l1_1 a2).f0)).f3)) ∧ w'.cell? ⟨(ad147.add ((((rd_T45 l1_1 a2).f0)).toNat * 5)).block, (ad147.add ((((rd_T45 l1_1 a2).f0)).toNat * 5)).off + 4, none⟩ = some (.int .i64 ((rd_T39 (rd_L3 l0_1 a2) ((rd_T45 l1_1 a2).f0)).f4))) (ds := []) #[false, false, false, false, false, false, false, false, false, false, false, false, false, false, false] (by kernel_rfl) rfl rfl ⟨(blk_cell BK129.out 0).trans rfl, (blk_cell BK129.out 1).trans rfl, (blk_cell BK130.out 0).trans rfl, (blk_cell BK130.out 1).trans rfl, ((HB.out.cell (World.block_lt_of_cell? w _ hw145_0)).trans hw145_0), ((HB.out.cell (World.block_lt_of_cell? w _ hw146_0)).trans hw146_0), ((HB.out.cell (World.block_lt_of_cell? w _ hw146_1)).trans hw146_1), ((HB.out.cell (World.block_lt_of_cell? w _ hw146_2)).trans hw146_2), ((HB.out.cell (World.block_lt_of_cell? w _ hw146_3)).trans hw146_3), ((HB.out.cell (World.block_lt_of_cell? w _ hw147_0)).trans hw147_0), ((HB.out.cell (World.block_lt_of_cell? w _ hw147_1)).trans hw147_1), ((HB.out.cell (World.block_lt_of_cell? w _ hw147_2)).trans hw147_2), ((HB.out.cell (World.block_lt_of_cell? w _ hw147_3)).trans hw147_3), ((HB.out.cell (World.block_lt_of_cell? w _ hw147_4)).trans hw147_4)⟩ (fun hHeld => ?_); refine with_tabW fencepostlaw10_ScOn.tab10 fencepostlaw10_ScOn.bits10 (fun HT_ HW_ => ?_)
                    generalize wc.drew = w84 at HO_143000 HO_143001 BK129 BK130 BK142 HB HR145_0 HR146_1 HR146_3 hx145_0 hx146_0 hx146_1 hx146_2 hx146_3 hx147_0 hx147_1 hx147_2 hx147_3 hx147_4 hHeld ⊢
                    refine pure_ (i := 0) (N := some 64) (v := ?_) (a' := ?_) #[true, false, false, false, false, false, false, false, false, false, false, false, false, false, false] rfl rfl (any_of HT_.out (by kernel_rfl)) (fun _ _ _ h => h) (Or.inl ⟨by rfl, ?_⟩) ?_ ?_
                    rotate_left
                    ·intro w'
                     go_simp
                     with_reducible rfl
                    rotate_left
                    ·simp only [Act.put, List.setIfInBounds_toArray, List.set_cons_zero, List.set_cons_succ, i64_w, i32_w]
                     rfl
                    refine pure_ (i := 2) (N := some 66) (v := ?_) (a' := ?_) #[true, false, true, false, false, false, false, false, false, false, false, false, false, false, false] rfl rfl (any_of HT_.out (by kernel_rfl)) (fun _ _ _ h => h) (Or.inl ⟨by rfl, ?_⟩) ?_ ?_
                    rotate_left
                    ·intro w'
                     go_simp
                     with_reducible rfl
                    rotate_left
                    ·simp only [Act.put, List.setIfInBounds_toArray, List.set_cons_zero, List.set_cons_succ, i64_w, i32_w]
                     rfl
                    refine pure_ (i := 5) (N := some 69) (v := ?_) (a' := ?_) #[true, false, true, false, false, true, false, false, false, false, false, false, false, false, false] rfl rfl (any_of HT_.out (by kernel_rfl)) (fun _ _ _ h => h) (Or.inl ⟨by rfl, ?_⟩) ?_ ?_
                    rotate_left
                    ·intro w'
                     go_simp
                     with_reducible rfl
                    rotate_left
                    ·simp only [Act.put, List.setIfInBounds_toArray, List.set_cons_zero, List.set_cons_succ, i64_w, i32_w]
                     rfl
                    refine pure_ (i := 7) (N := some 71) (v := ?_) (a' := ?_) #[true, false, true, false, false, true, false, true, false, false, false, false, false, false, false] rfl rfl (any_of HT_.out (by kernel_rfl)) (fun _ _ _ h => h) (Or.inl ⟨by rfl, ?_⟩) ?_ ?_
                    rotate_left
                    ·intro w'
                     go_simp
                     with_reducible rfl
                    rotate_left
                    ·simp only [Act.put, List.setIfInBounds_toArray, List.set_cons_zero, List.set_cons_succ, i64_w, i32_w]
                     rfl
                    refine take_ (i := 1) (N := some 65) (v := ?_) (a' := ?_) #[true, true, true, false, false, true, false, true, false, false, false, false, false, false, false] rfl rfl (take_ofW HT_.out HW_.out (by kernel_rfl)) (fun _ _ _ h => h) (Or.inl ⟨by rfl, ?_⟩) hHeld ?_ ?_
                    rotate_left
                    ·rintro w' ⟨s0, s1, s2, s3, s4, s5, s6, s7, s8, s9, s10, s11, s12, s13⟩
                     go_simp
                     with_reducible rfl
                    rotate_left
                    ·simp only [Act.put, List.setIfInBounds_toArray, List.set_cons_zero, List.set_cons_succ, i64_w, i32_w]
                     rfl
                    refine pure_ (i := 3) (N := some 67) (v := ?_) (a' := ?_) #[true, true, true, true, false, true, false, true, false, false, false, false, false, false, false] rfl rfl (any_of HT_.out (by kernel_rfl)) (fun _ _ _ h => h) (Or.inl ⟨by rfl, ?_⟩) ?_ ?_
                    rotate_left
                    ·intro w'
                     go_simp
                     with_reducible rfl
                    rotate_left
                    ·simp only [Act.put, List.setIfInBounds_toArray, List.set_cons_zero, List.set_cons_succ, i64_w, i32_w]
                     rfl
                    refine take_ (i := 4) (N := some 68) (v := ?_) (a' := ?_) #[true, true, true, true, true, true, false, true, false, false, false, false, false, false, false] rfl rfl (take_ofW HT_.out HW_.out (by kernel_rfl)) (fun _ _ _ h => h) (Or.inl ⟨by rfl, ?_⟩) hHeld ?_ ?_
                    rotate_left
                    ·rintro w' ⟨s0, s1, s2, s3, s4, s5, s6, s7, s8, s9, s10, s11, s12, s13⟩
                     go_simp
                     with_reducible rfl
                    rotate_left
                    ·simp only [Act.put, List.setIfInBounds_toArray, List.set_cons_zero, List.set_cons_succ, i64_w, i32_w]
                     rfl
                    refine take_ (i := 6) (N := some 70) (v := ?_) (a' := ?_) #[true, true, true, true, true, true, true, true, false, false, false, false, false, false, false] rfl rfl (take_ofW HT_.out HW_.out (by kernel_rfl)) (fun _ _ _ h => h) (Or.inl ⟨by rfl, ?_⟩) hHeld ?_ ?_
                    rotate_left
                    ·rintro w' ⟨s0, s1, s2, s3, s4, s5, s6, s7, s8, s9, s10, s11, s12, s13⟩
                     go_simp
                     with_reducible rfl
                    rotate_left
                    ·simp only [Act.put, List.setIfInBounds_toArray, List.set_cons_zero, List.set_cons_succ, i64_w, i32_w]
                     rfl
                    refine pure_ (i := 8) (N := some 72) (v := ?_) (a' := ?_) #[true, true, true, true, true, true, true, true, true, false, false, false, false, false, false] rfl rfl (any_of HT_.out (by kernel_rfl)) (fun _ _ _ h => h) (Or.inl ⟨by rfl, ?_⟩) ?_ ?_
                    rotate_left
                    ·intro w'
                     go_simp
                     with_reducible rfl
                    rotate_left
                    ·simp only [Act.put, List.setIfInBounds_toArray, List.set_cons_zero, List.set_cons_succ, i64_w, i32_w]
                     rfl
                    refine pure_ (i := 9) (N := some 73) (v := ?_) (a' := ?_) #[true, true, true, true, true, true, true, true, true, true, false, false, false, false, false] rfl rfl (any_of HT_.out (by kernel_rfl)) (fun _ _ _ h => h) (Or.inl ⟨by rfl, ?_⟩) ?_ ?_
                    rotate_left
                    ·intro w'
                     go_simp
                     with_reducible rfl
                    rotate_left
                    ·simp only [Act.put, List.setIfInBounds_toArray, List.set_cons_zero, List.set_cons_succ, i64_w, i32_w]
                     rfl
                    refine take_ (i := 10) (N := some 74) (v := ?_) (a' := ?_) #[true, true, true, true, true, true, true, true, true, true, true, false, false, false, false] rfl rfl (take_ofW HT_.out HW_.out (by kernel_rfl)) (fun _ _ _ h => h) (Or.inl ⟨by rfl, ?_⟩) hHeld ?_ ?_
                    rotate_left
                    ·rintro w' ⟨s0, s1, s2, s3, s4, s5, s6, s7, s8, s9, s10, s11, s12, s13⟩
                     go_simp
                     with_reducible rfl
                    rotate_left
                    ·simp only [Act.put, List.setIfInBounds_toArray, List.set_cons_zero, List.set_cons_succ, i64_w, i32_w]
                     rfl
                    refine pure_ (i := 11) (N := some 75) (v := ?_) (a' := ?_) #[true, true, true, true, true, true, true, true, true, true, true, true, false, false, false] rfl rfl (any_of HT_.out (by kernel_rfl)) (fun _ _ _ h => h) (Or.inl ⟨by rfl, ?_⟩) ?_ ?_
                    rotate_left
                    ·intro w'
                     go_simp
                     with_reducible rfl
                    rotate_left
                    ·simp only [Act.put, List.setIfInBounds_toArray, List.set_cons_zero, List.set_cons_succ, i64_w, i32_w]
                     rfl
                    refine take_ (i := 12) (N := some 76) (v := ?_) (a' := ?_) #[true, true, true, true, true, true, true, true, true, true, true, true, true, false, false] rfl rfl (take_ofW HT_.out HW_.out (by kernel_rfl)) (fun _ _ _ h => h) (Or.inl ⟨by rfl, ?_⟩) hHeld ?_ ?_
                    rotate_left
                    ·rintro w' ⟨s0, s1, s2, s3, s4, s5, s6, s7, s8, s9, s10, s11, s12, s13⟩
                     go_simp
                     with_reducible rfl
                    rotate_left
                    ·simp only [Act.put, List.setIfInBounds_toArray, List.set_cons_zero, List.set_cons_succ, i64_w, i32_w]
                     rfl
                    refine one_ (i := 13) (N := some 11) #[true, true, true, true, true, true, true, true, true, true, true, true, true, true, false] rfl rfl (one_of HT_.out (by kernel_rfl)) (by decide) (fun K hK => ?_)
                    refine box_step ?hg (N := 11) ?hd (cs := #[.int .i64 0, .int .i64 0, .int .i64 0, .int .i64 0, .int .i64 0]) (t := 39) ?hr ?_; (case hd => rfl); (case hg => rfl); (case hr => first | (go_simp; done) | (go_simp; rfl))
                    intro gb148 hg w85 hbox hb
                    have n0_ := Aside0.mk (Kd.V_below (Kd.V_elderB (by (with_reducible repeat (first | apply Kd.V_alloc | apply Kd.V_drewN | apply Kd.V_drew)); exact HO_143000.out) gb148 (Nat.le_of_eq hg.symm)) hb)
                    have n1_ := Aside0.mk (Kd.V_below (Kd.V_elderB (by (with_reducible repeat (first | apply Kd.V_alloc | apply Kd.V_drewN | apply Kd.V_drew)); exact HO_143001.out) gb148 (Nat.le_of_eq hg.symm)) hb)
                    have n2_ := Aside0.mk (blk_below (g := gb129) (o := .cells #[.slice A0_0 l0_0.length c0_0, .slice (some ad145) l0_1.length c0_1] 25 (0, 0)) (by (with_reducible repeat (first | refine blk_drewN ?_ _ | refine blk_drew ?_ | refine blk_alloc ?_ _)); exact BK129.out) hb)
                    have n3_ := Aside0.mk (blk_below (g := gb130) (o := .cells #[.slice A1_0 l1_0.length c1_0, .slice (some ad146) l1_1.length c1_1] 28 (0, 0)) (by (with_reducible repeat (first | refine blk_drewN ?_ _ | refine blk_drew ?_ | refine blk_alloc ?_ _)); exact BK130.out) hb)
                    have n4_ := Aside0.mk (blk_below (g := gb142) (o := .cells #[.slice Ao38 t135.length co38, .slice Ao42 t138.length co42] 28 (0, 0)) (by (with_reducible repeat (first | refine blk_drewN ?_ _ | refine blk_drew ?_ | refine blk_alloc ?_ _)); exact BK142.out) hb)
                    have n5_ := Aside0.mk (below_step (by repeat (first | (with_reducible first | exact HB.out | apply below_alloc | apply pw_below_drewN | apply below_drew1 | refine below_set ?_ GE129.out | refine below_set ?_ GE130.out | refine below_set ?_ GE142.out) | exact HB.out)) hb)
                    have n6_ := Aside0.mk (hbox)
                    have n7_ := Aside0.mk ((by rw [hg]; exact (below_size (by repeat (first | (with_reducible first | exact HB.out | apply below_alloc | apply pw_below_drewN | apply below_drew1 | refine below_set ?_ GE129.out | refine below_set ?_ GE130.out | refine below_set ?_ GE142.out) | exact HB.out))) : w.heap.size ≤ gb148))
                    have n8_ := Aside0.mk ((by rw [hg]; exact (below_size (by repeat (first | (with_reducible first | exact HB.out | apply below_alloc | apply pw_below_drewN | apply below_drew1 | refine below_set ?_ GE129.out | refine below_set ?_ GE130.out | refine below_set ?_ GE142.out) | exact HB.out))) : w.heap.size ≤ gb148))
                    have n9_ := Aside0.mk ((by rw [hg]; exact Nat.ne_of_lt (blk_lt (g := gb129) (o := .cells #[.slice A0_0 l0_0.length c0_0, .slice (some ad145) l0_1.length c0_1] 25 (0, 0)) (by (with_reducible repeat (first | refine blk_drewN ?_ _ | refine blk_drew ?_ | refine blk_alloc ?_ _)); exact BK129.out)) : gb129 ≠ gb148))
                    have n10_ := Aside0.mk ((by rw [hg]; exact Nat.ne_of_gt (blk_lt (g := gb129) (o := .cells #[.slice A0_0 l0_0.length c0_0, .slice (some ad145) l0_1.length c0_1] 25 (0, 0)) (by (with_reducible repeat (first | refine blk_drewN ?_ _ | refine blk_drew ?_ | refine blk_alloc ?_ _)); exact BK129.out)) : gb148 ≠ gb129))
                    have n11_ := Aside0.mk ((by rw [hg]; exact Nat.ne_of_lt (blk_lt (g := gb130) (o := .cells #[.slice A1_0 l1_0.length c1_0, .slice (some ad146) l1_1.length c1_1] 28 (0, 0)) (by (with_reducible repeat (first | refine blk_drewN ?_ _ | refine blk_drew ?_ | refine blk_alloc ?_ _)); exact BK130.out)) : gb130 ≠ gb148))
                    have n12_ := Aside0.mk ((by rw [hg]; exact Nat.ne_of_gt (blk_lt (g := gb130) (o := .cells #[.slice A1_0 l1_0.length c1_0, .slice (some ad146) l1_1.length c1_1] 28 (0, 0)) (by (with_reducible repeat (first | refine blk_drewN ?_ _ | refine blk_drew ?_ | refine blk_alloc ?_ _)); exact BK130.out)) : gb148 ≠ gb130))
                    have n13_ := Aside0.mk ((by rw [hg]; exact Nat.ne_of_lt (blk_lt (g := gb142) (o := .cells #[.slice Ao38 t135.length co38, .slice Ao42 t138.length co42] 28 (0, 0)) (by (with_reducible repeat (first | refine blk_drewN ?_ _ | refine blk_drew ?_ | refine blk_alloc ?_ _)); exact BK142.out)) : gb142 ≠ gb148))
                    have n14_ := Aside0.mk ((by rw [hg]; exact Nat.ne_of_gt (blk_lt (g := gb142) (o := .cells #[.slice Ao38 t135.length co38, .slice Ao42 t138.length co42] 28 (0, 0)) (by (with_reducible repeat (first | refine blk_drewN ?_ _ | refine blk_drew ?_ | refine blk_alloc ?_ _)); exact BK142.out)) : gb148 ≠ gb142))
                    clear HO_143000
                    clear HO_143001
                    clear BK129
                    clear BK130
                    clear BK142
                    clear HB
                    have HO_143000 := n0_
                    have HO_143001 := n1_
                    have BK129 := n2_
                    have BK130 := n3_
                    have BK142 := n4_
                    have HB := n5_
                    have BK148 := n6_
                    have GW148 := n7_
                    have GE148 := n8_
                    have NB129_148 := n9_
                    have NB148_129 := n10_
                    have NB130_148 := n11_
                    have NB148_130 := n12_
                    have NB142_148 := n13_
                    have NB148_142 := n14_
                    clear n0_ n1_ n2_ n3_ n4_ n5_ n6_ n7_ n8_ n9_ n10_ n11_ n12_ n13_ n14_
                    clear hb hbox hg
                    refine hK.out _ _ ⟨(blk_cell BK129.out 0).trans rfl, (blk_cell BK129.out 1).trans rfl, (blk_cell BK130.out 0).trans rfl, (blk_cell BK130.out 1).trans rfl, ((HB.out.cell (World.block_lt_of_cell? w _ hw145_0)).trans hw145_0), ((HB.out.cell (World.block_lt_of_cell? w _ hw146_0)).trans hw146_0), ((HB.out.cell (World.block_lt_of_cell? w _ hw146_1)).trans hw146_1), ((HB.out.cell (World.block_lt_of_cell? w _ hw146_2)).trans hw146_2), ((HB.out.cell (World.block_lt_of_cell? w _ hw146_3)).trans hw146_3), ((HB.out.cell (World.block_lt_of_cell? w _ hw147_0)).trans hw147_0), ((HB.out.cell (World.block_lt_of_cell? w _ hw147_1)).trans hw147_1), ((HB.out.cell (World.block_lt_of_cell? w _ hw147_2)).trans hw147_2), ((HB.out.cell (World.block_lt_of_cell? w _ hw147_3)).trans hw147_3), ((HB.out.cell (World.block_lt_of_cell? w _ hw147_4)).trans hw147_4)⟩ (fun hHeld => ?_)
                    clear hK K
                    refine norm_ (a' := ?_) ?_ ?_
                    rotate_left
                    ·show Act.put _ (some 11) _ = _
                     simp only [Act.put, List.setIfInBounds_toArray, List.set_cons_zero, List.set_cons_succ, i64_w, i32_w]
                     rfl
                    refine one_ (i := 14) (N := none) #[true, true, true, true, true, true, true, true, true, true, true, true, true, true, true] rfl rfl (one_of HT_.out (by kernel_rfl)) (by decide) (fun K hK => ?_)
                    have hs86 : w85.cell? ⟨gb148, 0, none⟩ = some (.int .i64 0) := (blk_cell BK148.out 0).trans rfl
                    have hfs86 := blk_frozen BK148.out 0
                    have hns86_0 := NB129_148.out
                    have hns86_1 := NB130_148.out
                    have hns86_2 := NB142_148.out
                    have hms86_0 := NB148_129.out
                    have hms86_1 := NB148_130.out
                    have hms86_2 := NB148_142.out
                    have hs87 : w85.cell? ⟨gb148, 1, none⟩ = some (.int .i64 0) := (blk_cell BK148.out 1).trans rfl
                    have hfs87 := blk_frozen BK148.out 1
                    have hns87_0 := NB129_148.out
                    have hns87_1 := NB130_148.out
                    have hns87_2 := NB142_148.out
                    have hms87_0 := NB148_129.out
                    have hms87_1 := NB148_130.out
                    have hms87_2 := NB148_142.out
                    have hs88 : w85.cell? ⟨gb148, 2, none⟩ = some (.int .i64 0) := (blk_cell BK148.out 2).trans rfl
                    have hfs88 := blk_frozen BK148.out 2
                    have hns88_0 := NB129_148.out
                    have hns88_1 := NB130_148.out
                    have hns88_2 := NB142_148.out
                    have hms88_0 := NB148_129.out
                    have hms88_1 := NB148_130.out
                    have hms88_2 := NB148_142.out
                    have hs89 : w85.cell? ⟨gb148, 3, none⟩ = some (.int .i64 0) := (blk_cell BK148.out 3).trans rfl
                    have hfs89 := blk_frozen BK148.out 3
                    have hns89_0 := NB129_148.out
                    have hns89_1 := NB130_148.out
                    have hns89_2 := NB142_148.out
                    have hms89_0 := NB148_129.out
                    have hms89_1 := NB148_130.out
                    have hms89_2 := NB148_142.out
                    have hs90 : w85.cell? ⟨gb148, 4, none⟩ = some (.int .i64 0) := (blk_cell BK148.out 4).trans rfl
                    have hfs90 := blk_frozen BK148.out 4
                    have hns90_0 := NB129_148.out
                    have hns90_1 := NB130_148.out
                    have hns90_2 := NB142_148.out
                    have hms90_0 := NB148_129.out
                    have hms90_1 := NB148_130.out
                    have hms90_2 := NB148_142.out
                    refine skip_ (w1 := ?_) (by rfl) rfl ?_ ?_
                    rotate_left
                    ·go_simp
                     rfl
                    refine hK.out _ _ ⟨((cell_far (p := ⟨gb148, _, none⟩) NB129_148.out _).trans (((cell_far (p := ⟨gb148, _, none⟩) NB129_148.out _).trans (((cell_far (p := ⟨gb148, _, none⟩) NB129_148.out _).trans (((cell_far (p := ⟨gb148, _, none⟩) NB129_148.out _).trans (((cell_far (p := ⟨gb148, _, none⟩) NB129_148.out _).trans (hHeld.1)))))))))), ((cell_far (p := ⟨gb148, _, none⟩) NB129_148.out _).trans (((cell_far (p := ⟨gb148, _, none⟩) NB129_148.out _).trans (((cell_far (p := ⟨gb148, _, none⟩) NB129_148.out _).trans (((cell_far (p := ⟨gb148, _, none⟩) NB129_148.out _).trans (((cell_far (p := ⟨gb148, _, none⟩) NB129_148.out _).trans (hHeld.2.1)))))))))), ((cell_far (p := ⟨gb148, _, none⟩) NB130_148.out _).trans (((cell_far (p := ⟨gb148, _, none⟩) NB130_148.out _).trans (((cell_far (p := ⟨gb148, _, none⟩) NB130_148.out _).trans (((cell_far (p := ⟨gb148, _, none⟩) NB130_148.out _).trans (((cell_far (p := ⟨gb148, _, none⟩) NB130_148.out _).trans (hHeld.2.2.1)))))))))), ((cell_far (p := ⟨gb148, _, none⟩) NB130_148.out _).trans (((cell_far (p := ⟨gb148, _, none⟩) NB130_148.out _).trans (((cell_far (p := ⟨gb148, _, none⟩) NB130_148.out _).trans (((cell_far (p := ⟨gb148, _, none⟩) NB130_148.out _).trans (((cell_far (p := ⟨gb148, _, none⟩) NB130_148.out _).trans (hHeld.2.2.2.1)))))))))), ((cell_far (p := ⟨gb148, _, none⟩) (by first | exact Nat.ne_of_lt (bk_ hw145_0 GW148.out) | (rw [add_block]; exact Nat.ne_of_lt (bk_ hw145_0 GW148.out)) | (show (Addr.add _ _).block ≠ _; rw [add_block]; exact Nat.ne_of_lt (bk_ hw145_0 GW148.out)) | (dsimp only; exact Nat.ne_of_lt (bk_ hw145_0 GW148.out))) _).trans (((cell_far (p := ⟨gb148, _, none⟩) (by first | exact Nat.ne_of_lt (bk_ hw145_0 GW148.out) | (rw [add_block]; exact Nat.ne_of_lt (bk_ hw145_0 GW148.out)) | (show (Addr.add _ _).block ≠ _; rw [add_block]; exact Nat.ne_of_lt (bk_ hw145_0 GW148.out)) | (dsimp only; exact Nat.ne_of_lt (bk_ hw145_0 GW148.out))) _).trans (((cell_far (p := ⟨gb148, _, none⟩) (by first | exact Nat.ne_of_lt (bk_ hw145_0 GW148.out) | (rw [add_block]; exact Nat.ne_of_lt (bk_ hw145_0 GW148.out)) | (show (Addr.add _ _).block ≠ _; rw [add_block]; exact Nat.ne_of_lt (bk_ hw145_0 GW148.out)) | (dsimp only; exact Nat.ne_of_lt (bk_ hw145_0 GW148.out))) _).trans (((cell_far (p := ⟨gb148, _, none⟩) (by first | exact Nat.ne_of_lt (bk_ hw145_0 GW148.out) | (rw [add_block]; exact Nat.ne_of_lt (bk_ hw145_0 GW148.out)) | (show (Addr.add _ _).block ≠ _; rw [add_block]; exact Nat.ne_of_lt (bk_ hw145_0 GW148.out)) | (dsimp only; exact Nat.ne_of_lt (bk_ hw145_0 GW148.out))) _).trans (((cell_far (p := ⟨gb148, _, none⟩) (by first | exact Nat.ne_of_lt (bk_ hw145_0 GW148.out) | (rw [add_block]; exact Nat.ne_of_lt (bk_ hw145_0 GW148.out)) | (show (Addr.add _ _).block ≠ _; rw [add_block]; exact Nat.ne_of_lt (bk_ hw145_0 GW148.out)) | (dsimp only; exact Nat.ne_of_lt (bk_ hw145_0 GW148.out))) _).trans (hHeld.2.2.2.2.1)))))))))), ((cell_far (p := ⟨gb148, _, none⟩) (by first | exact Nat.ne_of_lt (bk_ hw146_0 GW148.out) | (rw [add_block]; exact Nat.ne_of_lt (bk_ hw146_0 GW148.out)) | (show (Addr.add _ _).block ≠ _; rw [add_block]; exact Nat.ne_of_lt (bk_ hw146_0 GW148.out)) | (dsimp only; exact Nat.ne_of_lt (bk_ hw146_0 GW148.out))) _).trans (((cell_far (p := ⟨gb148, _, none⟩) (by first | exact Nat.ne_of_lt (bk_ hw146_0 GW148.out) | (rw [add_block]; exact Nat.ne_of_lt (bk_ hw146_0 GW148.out)) | (show (Addr.add _ _).block ≠ _; rw [add_block]; exact Nat.ne_of_lt (bk_ hw146_0 GW148.out)) | (dsimp only; exact Nat.ne_of_lt (bk_ hw146_0 GW148.out))) _).trans (((cell_far (p := ⟨gb148, _, none⟩) (by first | exact Nat.ne_of_lt (bk_ hw146_0 GW148.out) | (rw [add_block]; exact Nat.ne_of_lt (bk_ hw146_0 GW148.out)) | (show (Addr.add _ _).block ≠ _; rw [add_block]; exact Nat.ne_of_lt (bk_ hw146_0 GW148.out)) | (dsimp only; exact Nat.ne_of_lt (bk_ hw146_0 GW148.out))) _).trans (((cell_far (p := ⟨gb148, _, none⟩) (by first | exact Nat.ne_of_lt (bk_ hw146_0 GW148.out) | (rw [add_block]; exact Nat.ne_of_lt (bk_ hw146_0 GW148.out)) | (show (Addr.add _ _).block ≠ _; rw [add_block]; exact Nat.ne_of_lt (bk_ hw146_0 GW148.out)) | (dsimp only; exact Nat.ne_of_lt (bk_ hw146_0 GW148.out))) _).trans (((cell_far (p := ⟨gb148, _, none⟩) (by first | exact Nat.ne_of_lt (bk_ hw146_0 GW148.out) | (rw [add_block]; exact Nat.ne_of_lt (bk_ hw146_0 GW148.out)) | (show (Addr.add _ _).block ≠ _; rw [add_block]; exact Nat.ne_of_lt (bk_ hw146_0 GW148.out)) | (dsimp only; exact Nat.ne_of_lt (bk_ hw146_0 GW148.out))) _).trans (hHeld.2.2.2.2.2.1)))))))))), ((cell_far (p := ⟨gb148, _, none⟩) (by first | exact Nat.ne_of_lt (bk_ hw146_1 GW148.out) | (rw [add_block]; exact Nat.ne_of_lt (bk_ hw146_1 GW148.out)) | (show (Addr.add _ _).block ≠ _; rw [add_block]; exact Nat.ne_of_lt (bk_ hw146_1 GW148.out)) | (dsimp only; exact Nat.ne_of_lt (bk_ hw146_1 GW148.out))) _).trans (((cell_far (p := ⟨gb148, _, none⟩) (by first | exact Nat.ne_of_lt (bk_ hw146_1 GW148.out) | (rw [add_block]; exact Nat.ne_of_lt (bk_ hw146_1 GW148.out)) | (show (Addr.add _ _).block ≠ _; rw [add_block]; exact Nat.ne_of_lt (bk_ hw146_1 GW148.out)) | (dsimp only; exact Nat.ne_of_lt (bk_ hw146_1 GW148.out))) _).trans (((cell_far (p := ⟨gb148, _, none⟩) (by first | exact Nat.ne_of_lt (bk_ hw146_1 GW148.out) | (rw [add_block]; exact Nat.ne_of_lt (bk_ hw146_1 GW148.out)) | (show (Addr.add _ _).block ≠ _; rw [add_block]; exact Nat.ne_of_lt (bk_ hw146_1 GW148.out)) | (dsimp only; exact Nat.ne_of_lt (bk_ hw146_1 GW148.out))) _).trans (((cell_far (p := ⟨gb148, _, none⟩) (by first | exact Nat.ne_of_lt (bk_ hw146_1 GW148.out) | (rw [add_block]; exact Nat.ne_of_lt (bk_ hw146_1 GW148.out)) | (show (Addr.add _ _).block ≠ _; rw [add_block]; exact Nat.ne_of_lt (bk_ hw146_1 GW148.out)) | (dsimp only; exact Nat.ne_of_lt (bk_ hw146_1 GW148.out))) _).trans (((cell_far (p := ⟨gb148, _, none⟩) (by first | exact Nat.ne_of_lt (bk_ hw146_1 GW148.out) | (rw [add_block]; exact Nat.ne_of_lt (bk_ hw146_1 GW148.out)) | (show (Addr.add _ _).block ≠ _; rw [add_block]; exact Nat.ne_of_lt (bk_ hw146_1 GW148.out)) | (dsimp only; exact Nat.ne_of_lt (bk_ hw146_1 GW148.out))) _).trans (hHeld.2.2.2.2.2.2.1)))))))))), ((cell_far (p := ⟨gb148, _, none⟩) (by first | exact Nat.ne_of_lt (bk_ hw146_2 GW148.out) | (rw [add_block]; exact Nat.ne_of_lt (bk_ hw146_2 GW148.out)) | (show (Addr.add _ _).block ≠ _; rw [add_block]; exact Nat.ne_of_lt (bk_ hw146_2 GW148.out)) | (dsimp only; exact Nat.ne_of_lt (bk_ hw146_2 GW148.out))) _).trans (((cell_far (p := ⟨gb148, _, none⟩) (by first | exact Nat.ne_of_lt (bk_ hw146_2 GW148.out) | (rw [add_block]; exact Nat.ne_of_lt (bk_ hw146_2 GW148.out)) | (show (Addr.add _ _).block ≠ _; rw [add_block]; exact Nat.ne_of_lt (bk_ hw146_2 GW148.out)) | (dsimp only; exact Nat.ne_of_lt (bk_ hw146_2 GW148.out))) _).trans (((cell_far (p := ⟨gb148, _, none⟩) (by first | exact Nat.ne_of_lt (bk_ hw146_2 GW148.out) | (rw [add_block]; exact Nat.ne_of_lt (bk_ hw146_2 GW148.out)) | (show (Addr.add _ _).block ≠ _; rw [add_block]; exact Nat.ne_of_lt (bk_ hw146_2 GW148.out)) | (dsimp only; exact Nat.ne_of_lt (bk_ hw146_2 GW148.out))) _).trans (((cell_far (p := ⟨gb148, _, none⟩) (by first | exact Nat.ne_of_lt (bk_ hw146_2 GW148.out) | (rw [add_block]; exact Nat.ne_of_lt (bk_ hw146_2 GW148.out)) | (show (Addr.add _ _).block ≠ _; rw [add_block]; exact Nat.ne_of_lt (bk_ hw146_2 GW148.out)) | (dsimp only; exact Nat.ne_of_lt (bk_ hw146_2 GW148.out))) _).trans (((cell_far (p := ⟨gb148, _, none⟩) (by first | exact Nat.ne_of_lt (bk_ hw146_2 GW148.out) | (rw [add_block]; exact Nat.ne_of_lt (bk_ hw146_2 GW148.out)) | (show (Addr.add _ _).block ≠ _; rw [add_block]; exact Nat.ne_of_lt (bk_ hw146_2 GW148.out)) | (dsimp only; exact Nat.ne_of_lt (bk_ hw146_2 GW148.out))) _).trans (hHeld.2.2.2.2.2.2.2.1)))))))))), ((cell_far (p := ⟨gb148, _, none⟩) (by first | exact Nat.ne_of_lt (bk_ hw146_3 GW148.out) | (rw [add_block]; exact Nat.ne_of_lt (bk_ hw146_3 GW148.out)) | (show (Addr.add _ _).block ≠ _; rw [add_block]; exact Nat.ne_of_lt (bk_ hw146_3 GW148.out)) | (dsimp only; exact Nat.ne_of_lt (bk_ hw146_3 GW148.out))) _).trans (((cell_far (p := ⟨gb148, _, none⟩) (by first | exact Nat.ne_of_lt (bk_ hw146_3 GW148.out) | (rw [add_block]; exact Nat.ne_of_lt (bk_ hw146_3 GW148.out)) | (show (Addr.add _ _).block ≠ _; rw [add_block]; exact Nat.ne_of_lt (bk_ hw146_3 GW148.out)) | (dsimp only; exact Nat.ne_of_lt (bk_ hw146_3 GW148.out))) _).trans (((cell_far (p := ⟨gb148, _, none⟩) (by first | exact Nat.ne_of_lt (bk_ hw146_3 GW148.out) | (rw [add_block]; exact Nat.ne_of_lt (bk_ hw146_3 GW148.out)) | (show (Addr.add _ _).block ≠ _; rw [add_block]; exact Nat.ne_of_lt (bk_ hw146_3 GW148.out)) | (dsimp only; exact Nat.ne_of_lt (bk_ hw146_3 GW148.out))) _).trans (((cell_far (p := ⟨gb148, _, none⟩) (by first | exact Nat.ne_of_lt (bk_ hw146_3 GW148.out) | (rw [add_block]; exact Nat.ne_of_lt (bk_ hw146_3 GW148.out)) | (show (Addr.add _ _).block ≠ _; rw [add_block]; exact Nat.ne_of_lt (bk_ hw146_3 GW148.out)) | (dsimp only; exact Nat.ne_of_lt (bk_ hw146_3 GW148.out))) _).trans (((cell_far (p := ⟨gb148, _, none⟩) (by first | exact Nat.ne_of_lt (bk_ hw146_3 GW148.out) | (rw [add_block]; exact Nat.ne_of_lt (bk_ hw146_3 GW148.out)) | (show (Addr.add _ _).block ≠ _; rw [add_block]; exact Nat.ne_of_lt (bk_ hw146_3 GW148.out)) | (dsimp only; exact Nat.ne_of_lt (bk_ hw146_3 GW148.out))) _).trans (hHeld.2.2.2.2.2.2.2.2.1)))))))))), ((cell_far (p := ⟨gb148, _, none⟩) (by first | exact Nat.ne_of_lt (bk_ hw147_0 GW148.out) | (rw [add_block]; exact Nat.ne_of_lt (bk_ hw147_0 GW148.out)) | (show (Addr.add _ _).block ≠ _; rw [add_block]; exact Nat.ne_of_lt (bk_ hw147_0 GW148.out)) | (dsimp only; exact Nat.ne_of_lt (bk_ hw147_0 GW148.out))) _).trans (((cell_far (p := ⟨gb148, _, none⟩) (by first | exact Nat.ne_of_lt (bk_ hw147_0 GW148.out) | (rw [add_block]; exact Nat.ne_of_lt (bk_ hw147_0 GW148.out)) | (show (Addr.add _ _).block ≠ _; rw [add_block]; exact Nat.ne_of_lt (bk_ hw147_0 GW148.out)) | (dsimp only; exact Nat.ne_of_lt (bk_ hw147_0 GW148.out))) _).trans (((cell_far (p := ⟨gb148, _, none⟩) (by first | exact Nat.ne_of_lt (bk_ hw147_0 GW148.out) | (rw [add_block]; exact Nat.ne_of_lt (bk_ hw147_0 GW148.out)) | (show (Addr.add _ _).block ≠ _; rw [add_block]; exact Nat.ne_of_lt (bk_ hw147_0 GW148.out)) | (dsimp only; exact Nat.ne_of_lt (bk_ hw147_0 GW148.out))) _).trans (((cell_far (p := ⟨gb148, _, none⟩) (by first | exact Nat.ne_of_lt (bk_ hw147_0 GW148.out) | (rw [add_block]; exact Nat.ne_of_lt (bk_ hw147_0 GW148.out)) | (show (Addr.add _ _).block ≠ _; rw [add_block]; exact Nat.ne_of_lt (bk_ hw147_0 GW148.out)) | (dsimp only; exact Nat.ne_of_lt (bk_ hw147_0 GW148.out))) _).trans (((cell_far (p := ⟨gb148, _, none⟩) (by first | exact Nat.ne_of_lt (bk_ hw147_0 GW148.out) | (rw [add_block]; exact Nat.ne_of_lt (bk_ hw147_0 GW148.out)) | (show (Addr.add _ _).block ≠ _; rw [add_block]; exact Nat.ne_of_lt (bk_ hw147_0 GW148.out)) | (dsimp only; exact Nat.ne_of_lt (bk_ hw147_0 GW148.out))) _).trans (hHeld.2.2.2.2.2.2.2.2.2.1)))))))))), ((cell_far (p := ⟨gb148, _, none⟩) (by first | exact Nat.ne_of_lt (bk_ hw147_1 GW148.out) | (rw [add_block]; exact Nat.ne_of_lt (bk_ hw147_1 GW148.out)) | (show (Addr.add _ _).block ≠ _; rw [add_block]; exact Nat.ne_of_lt (bk_ hw147_1 GW148.out)) | (dsimp only; exact Nat.ne_of_lt (bk_ hw147_1 GW148.out))) _).trans (((cell_far (p := ⟨gb148, _, none⟩) (by first | exact Nat.ne_of_lt (bk_ hw147_1 GW148.out) | (rw [add_block]; exact Nat.ne_of_lt (bk_ hw147_1 GW148.out)) | (show (Addr.add _ _).block ≠ _; rw [add_block]; exact Nat.ne_of_lt (bk_ hw147_1 GW148.out)) | (dsimp only; exact Nat.ne_of_lt (bk_ hw147_1 GW148.out))) _).trans (((cell_far (p := ⟨gb148, _, none⟩) (by first | exact Nat.ne_of_lt (bk_ hw147_1 GW148.out) | (rw [add_block]; exact Nat.ne_of_lt (bk_ hw147_1 GW148.out)) | (show (Addr.add _ _).block ≠ _; rw [add_block]; exact Nat.ne_of_lt (bk_ hw147_1 GW148.out)) | (dsimp only; exact Nat.ne_of_lt (bk_ hw147_1 GW148.out))) _).trans (((cell_far (p := ⟨gb148, _, none⟩) (by first | exact Nat.ne_of_lt (bk_ hw147_1 GW148.out) | (rw [add_block]; exact Nat.ne_of_lt (bk_ hw147_1 GW148.out)) | (show (Addr.add _ _).block ≠ _; rw [add_block]; exact Nat.ne_of_lt (bk_ hw147_1 GW148.out)) | (dsimp only; exact Nat.ne_of_lt (bk_ hw147_1 GW148.out))) _).trans (((cell_far (p := ⟨gb148, _, none⟩) (by first | exact Nat.ne_of_lt (bk_ hw147_1 GW148.out) | (rw [add_block]; exact Nat.ne_of_lt (bk_ hw147_1 GW148.out)) | (show (Addr.add _ _).block ≠ _; rw [add_block]; exact Nat.ne_of_lt (bk_ hw147_1 GW148.out)) | (dsimp only; exact Nat.ne_of_lt (bk_ hw147_1 GW148.out))) _).trans (hHeld.2.2.2.2.2.2.2.2.2.2.1)))))))))), ((cell_far (p := ⟨gb148, _, none⟩) (by first | exact Nat.ne_of_lt (bk_ hw147_2 GW148.out) | (rw [add_block]; exact Nat.ne_of_lt (bk_ hw147_2 GW148.out)) | (show (Addr.add _ _).block ≠ _; rw [add_block]; exact Nat.ne_of_lt (bk_ hw147_2 GW148.out)) | (dsimp only; exact Nat.ne_of_lt (bk_ hw147_2 GW148.out))) _).trans (((cell_far (p := ⟨gb148, _, none⟩) (by first | exact Nat.ne_of_lt (bk_ hw147_2 GW148.out) | (rw [add_block]; exact Nat.ne_of_lt (bk_ hw147_2 GW148.out)) | (show (Addr.add _ _).block ≠ _; rw [add_block]; exact Nat.ne_of_lt (bk_ hw147_2 GW148.out)) | (dsimp only; exact Nat.ne_of_lt (bk_ hw147_2 GW148.out))) _).trans (((cell_far (p := ⟨gb148, _, none⟩) (by first | exact Nat.ne_of_lt (bk_ hw147_2 GW148.out) | (rw [add_block]; exact Nat.ne_of_lt (bk_ hw147_2 GW148.out)) | (show (Addr.add _ _).block ≠ _; rw [add_block]; exact Nat.ne_of_lt (bk_ hw147_2 GW148.out)) | (dsimp only; exact Nat.ne_of_lt (bk_ hw147_2 GW148.out))) _).trans (((cell_far (p := ⟨gb148, _, none⟩) (by first | exact Nat.ne_of_lt (bk_ hw147_2 GW148.out) | (rw [add_block]; exact Nat.ne_of_lt (bk_ hw147_2 GW148.out)) | (show (Addr.add _ _).block ≠ _; rw [add_block]; exact Nat.ne_of_lt (bk_ hw147_2 GW148.out)) | (dsimp only; exact Nat.ne_of_lt (bk_ hw147_2 GW148.out))) _).trans (((cell_far (p := ⟨gb148, _, none⟩) (by first | exact Nat.ne_of_lt (bk_ hw147_2 GW148.out) | (rw [add_block]; exact Nat.ne_of_lt (bk_ hw147_2 GW148.out)) | (show (Addr.add _ _).block ≠ _; rw [add_block]; exact Nat.ne_of_lt (bk_ hw147_2 GW148.out)) | (dsimp only; exact Nat.ne_of_lt (bk_ hw147_2 GW148.out))) _).trans (hHeld.2.2.2.2.2.2.2.2.2.2.2.1)))))))))), ((cell_far (p := ⟨gb148, _, none⟩) (by first | exact Nat.ne_of_lt (bk_ hw147_3 GW148.out) | (rw [add_block]; exact Nat.ne_of_lt (bk_ hw147_3 GW148.out)) | (show (Addr.add _ _).block ≠ _; rw [add_block]; exact Nat.ne_of_lt (bk_ hw147_3 GW148.out)) | (dsimp only; exact Nat.ne_of_lt (bk_ hw147_3 GW148.out))) _).trans (((cell_far (p := ⟨gb148, _, none⟩) (by first | exact Nat.ne_of_lt (bk_ hw147_3 GW148.out) | (rw [add_block]; exact Nat.ne_of_lt (bk_ hw147_3 GW148.out)) | (show (Addr.add _ _).block ≠ _; rw [add_block]; exact Nat.ne_of_lt (bk_ hw147_3 GW148.out)) | (dsimp only; exact Nat.ne_of_lt (bk_ hw147_3 GW148.out))) _).trans (((cell_far (p := ⟨gb148, _, none⟩) (by first | exact Nat.ne_of_lt (bk_ hw147_3 GW148.out) | (rw [add_block]; exact Nat.ne_of_lt (bk_ hw147_3 GW148.out)) | (show (Addr.add _ _).block ≠ _; rw [add_block]; exact Nat.ne_of_lt (bk_ hw147_3 GW148.out)) | (dsimp only; exact Nat.ne_of_lt (bk_ hw147_3 GW148.out))) _).trans (((cell_far (p := ⟨gb148, _, none⟩) (by first | exact Nat.ne_of_lt (bk_ hw147_3 GW148.out) | (rw [add_block]; exact Nat.ne_of_lt (bk_ hw147_3 GW148.out)) | (show (Addr.add _ _).block ≠ _; rw [add_block]; exact Nat.ne_of_lt (bk_ hw147_3 GW148.out)) | (dsimp only; exact Nat.ne_of_lt (bk_ hw147_3 GW148.out))) _).trans (((cell_far (p := ⟨gb148, _, none⟩) (by first | exact Nat.ne_of_lt (bk_ hw147_3 GW148.out) | (rw [add_block]; exact Nat.ne_of_lt (bk_ hw147_3 GW148.out)) | (show (Addr.add _ _).block ≠ _; rw [add_block]; exact Nat.ne_of_lt (bk_ hw147_3 GW148.out)) | (dsimp only; exact Nat.ne_of_lt (bk_ hw147_3 GW148.out))) _).trans (hHeld.2.2.2.2.2.2.2.2.2.2.2.2.1)))))))))), ((cell_far (p := ⟨gb148, _, none⟩) (by first | exact Nat.ne_of_lt (bk_ hw147_4 GW148.out) | (rw [add_block]; exact Nat.ne_of_lt (bk_ hw147_4 GW148.out)) | (show (Addr.add _ _).block ≠ _; rw [add_block]; exact Nat.ne_of_lt (bk_ hw147_4 GW148.out)) | (dsimp only; exact Nat.ne_of_lt (bk_ hw147_4 GW148.out))) _).trans (((cell_far (p := ⟨gb148, _, none⟩) (by first | exact Nat.ne_of_lt (bk_ hw147_4 GW148.out) | (rw [add_block]; exact Nat.ne_of_lt (bk_ hw147_4 GW148.out)) | (show (Addr.add _ _).block ≠ _; rw [add_block]; exact Nat.ne_of_lt (bk_ hw147_4 GW148.out)) | (dsimp only; exact Nat.ne_of_lt (bk_ hw147_4 GW148.out))) _).trans (((cell_far (p := ⟨gb148, _, none⟩) (by first | exact Nat.ne_of_lt (bk_ hw147_4 GW148.out) | (rw [add_block]; exact Nat.ne_of_lt (bk_ hw147_4 GW148.out)) | (show (Addr.add _ _).block ≠ _; rw [add_block]; exact Nat.ne_of_lt (bk_ hw147_4 GW148.out)) | (dsimp only; exact Nat.ne_of_lt (bk_ hw147_4 GW148.out))) _).trans (((cell_far (p := ⟨gb148, _, none⟩) (by first | exact Nat.ne_of_lt (bk_ hw147_4 GW148.out) | (rw [add_block]; exact Nat.ne_of_lt (bk_ hw147_4 GW148.out)) | (show (Addr.add _ _).block ≠ _; rw [add_block]; exact Nat.ne_of_lt (bk_ hw147_4 GW148.out)) | (dsimp only; exact Nat.ne_of_lt (bk_ hw147_4 GW148.out))) _).trans (((cell_far (p := ⟨gb148, _, none⟩) (by first | exact Nat.ne_of_lt (bk_ hw147_4 GW148.out) | (rw [add_block]; exact Nat.ne_of_lt (bk_ hw147_4 GW148.out)) | (show (Addr.add _ _).block ≠ _; rw [add_block]; exact Nat.ne_of_lt (bk_ hw147_4 GW148.out)) | (dsimp only; exact Nat.ne_of_lt (bk_ hw147_4 GW148.out))) _).trans (hHeld.2.2.2.2.2.2.2.2.2.2.2.2.2))))))))))⟩ (fun hHeld => ?_)
                    clear hK K
                    refine done_ (done_of HT_.out (by kernel_rfl)) ?_
                    have n0_ : Aside0 (Kd.V (Kd.int .i64) 3 (((((w85.setCell ⟨gb148, 0, none⟩ (.int .i64 ((rd_T39 (rd_L3 l0_1 a2) ((rd_T45 l1_1 a2).f0)).f0))).setCell ⟨gb148, 1, none⟩ (.int .i64 ((rd_T39 (rd_L3 l0_1 a2) ((rd_T45 l1_1 a2).f0)).f1))).setCell ⟨gb148, 2, none⟩ (.int .i64 ((rd_T39 (rd_L3 l0_1 a2) ((rd_T45 l1_1 a2).f0)).f2))).setCell ⟨gb148, 3, none⟩ (.int .i64 ((rd_T39 (rd_L3 l0_1 a2) ((rd_T45 l1_1 a2).f0)).f3))).setCell ⟨gb148, 4, none⟩ (.int .i64 ((rd_T39 (rd_L3 l0_1 a2) ((rd_T45 l1_1 a2).f0)).f4))) w.heap.size (fun k_ => k_ ≠ gb129 ∧ k_ ≠ gb130 ∧ k_ ≠ gb142 ∧ k_ ≠ gb148) (.slice Ao38 t135.length co38) t135) := ⟨by (with_reducible repeat (first | apply Kd.V_alloc | apply Kd.V_drewN | apply Kd.V_drew)); exact Kd.V_mono (Kd.V_far (p := ⟨gb148, 4, none⟩) (Kd.V_far (p := ⟨gb148, 3, none⟩) (Kd.V_far (p := ⟨gb148, 2, none⟩) (Kd.V_far (p := ⟨gb148, 1, none⟩) (Kd.V_far (p := ⟨gb148, 0, none⟩) (Kd.V_mono HO_143000.out (fun k_ hk => (⟨hk, hk.2⟩ : _ ∧ k_ ≠ gb148))) (fun _ hk => hk.2) (.int .i64 ((rd_T39 (rd_L3 l0_1 a2) ((rd_T45 l1_1 a2).f0)).f0))) (fun _ hk => hk.2) (.int .i64 ((rd_T39 (rd_L3 l0_1 a2) ((rd_T45 l1_1 a2).f0)).f1))) (fun _ hk => hk.2) (.int .i64 ((rd_T39 (rd_L3 l0_1 a2) ((rd_T45 l1_1 a2).f0)).f2))) (fun _ hk => hk.2) (.int .i64 ((rd_T39 (rd_L3 l0_1 a2) ((rd_T45 l1_1 a2).f0)).f3))) (fun _ hk => hk.2) (.int .i64 ((rd_T39 (rd_L3 l0_1 a2) ((rd_T45 l1_1 a2).f0)).f4))) (fun _ hk => ⟨hk.1.1.1, ⟨hk.1.1.2.1, ⟨hk.1.1.2.2, hk.1.2⟩⟩⟩)⟩
                    have n1_ : Aside0 (Kd.V k45 45 (((((w85.setCell ⟨gb148, 0, none⟩ (.int .i64 ((rd_T39 (rd_L3 l0_1 a2) ((rd_T45 l1_1 a2).f0)).f0))).setCell ⟨gb148, 1, none⟩ (.int .i64 ((rd_T39 (rd_L3 l0_1 a2) ((rd_T45 l1_1 a2).f0)).f1))).setCell ⟨gb148, 2, none⟩ (.int .i64 ((rd_T39 (rd_L3 l0_1 a2) ((rd_T45 l1_1 a2).f0)).f2))).setCell ⟨gb148, 3, none⟩ (.int .i64 ((rd_T39 (rd_L3 l0_1 a2) ((rd_T45 l1_1 a2).f0)).f3))).setCell ⟨gb148, 4, none⟩ (.int .i64 ((rd_T39 (rd_L3 l0_1 a2) ((rd_T45 l1_1 a2).f0)).f4))) w.heap.size (fun k_ => k_ ≠ gb129 ∧ k_ ≠ gb130 ∧ k_ ≠ gb142 ∧ k_ ≠ gb148) (.slice Ao42 t138.length co42) t138) := ⟨by (with_reducible repeat (first | apply Kd.V_alloc | apply Kd.V_drewN | apply Kd.V_drew)); exact Kd.V_mono (Kd.V_far (p := ⟨gb148, 4, none⟩) (Kd.V_far (p := ⟨gb148, 3, none⟩) (Kd.V_far (p := ⟨gb148, 2, none⟩) (Kd.V_far (p := ⟨gb148, 1, none⟩) (Kd.V_far (p := ⟨gb148, 0, none⟩) (Kd.V_mono HO_143001.out (fun k_ hk => (⟨hk, hk.2⟩ : _ ∧ k_ ≠ gb148))) (fun _ hk => hk.2) (.int .i64 ((rd_T39 (rd_L3 l0_1 a2) ((rd_T45 l1_1 a2).f0)).f0))) (fun _ hk => hk.2) (.int .i64 ((rd_T39 (rd_L3 l0_1 a2) ((rd_T45 l1_1 a2).f0)).f1))) (fun _ hk => hk.2) (.int .i64 ((rd_T39 (rd_L3 l0_1 a2) ((rd_T45 l1_1 a2).f0)).f2))) (fun _ hk => hk.2) (.int .i64 ((rd_T39 (rd_L3 l0_1 a2) ((rd_T45 l1_1 a2).f0)).f3))) (fun _ hk => hk.2) (.int .i64 ((rd_T39 (rd_L3 l0_1 a2) ((rd_T45 l1_1 a2).f0)).f4))) (fun _ hk => ⟨hk.1.1.1, ⟨hk.1.1.2.1, ⟨hk.1.1.2.2, hk.1.2⟩⟩⟩)⟩
                    have n2_ : Aside0 ((((((w85.setCell ⟨gb148, 0, none⟩ (.int .i64 ((rd_T39 (rd_L3 l0_1 a2) ((rd_T45 l1_1 a2).f0)).f0))).setCell ⟨gb148, 1, none⟩ (.int .i64 ((rd_T39 (rd_L3 l0_1 a2) ((rd_T45 l1_1 a2).f0)).f1))).setCell ⟨gb148, 2, none⟩ (.int .i64 ((rd_T39 (rd_L3 l0_1 a2) ((rd_T45 l1_1 a2).f0)).f2))).setCell ⟨gb148, 3, none⟩ (.int .i64 ((rd_T39 (rd_L3 l0_1 a2) ((rd_T45 l1_1 a2).f0)).f3))).setCell ⟨gb148, 4, none⟩ (.int .i64 ((rd_T39 (rd_L3 l0_1 a2) ((rd_T45 l1_1 a2).f0)).f4))).heap[gb129]? = some (.cells #[.slice A0_0 l0_0.length c0_0, .slice (some ad145) l0_1.length c0_1] 25 (0, 0))) := ⟨by (with_reducible repeat (first | refine blk_drewN ?_ _ | refine blk_drew ?_ | refine blk_alloc ?_ _)); refine blk_far ?_ NB129_148.out _; (with_reducible repeat (first | refine blk_drewN ?_ _ | refine blk_drew ?_ | refine blk_alloc ?_ _)); refine blk_far ?_ NB129_148.out _; (with_reducible repeat (first | refine blk_drewN ?_ _ | refine blk_drew ?_ | refine blk_alloc ?_ _)); refine blk_far ?_ NB129_148.out _; (with_reducible repeat (first | refine blk_drewN ?_ _ | refine blk_drew ?_ | refine blk_alloc ?_ _)); refine blk_far ?_ NB129_148.out _; (with_reducible repeat (first | refine blk_drewN ?_ _ | refine blk_drew ?_ | refine blk_alloc ?_ _)); refine blk_far ?_ NB129_148.out _; (with_reducible repeat (first | refine blk_drewN ?_ _ | refine blk_drew ?_ | refine blk_alloc ?_ _)); exact BK129.out⟩
                    have n3_ : Aside0 ((((((w85.setCell ⟨gb148, 0, none⟩ (.int .i64 ((rd_T39 (rd_L3 l0_1 a2) ((rd_T45 l1_1 a2).f0)).f0))).setCell ⟨gb148, 1, none⟩ (.int .i64 ((rd_T39 (rd_L3 l0_1 a2) ((rd_T45 l1_1 a2).f0)).f1))).setCell ⟨gb148, 2, none⟩ (.int .i64 ((rd_T39 (rd_L3 l0_1 a2) ((rd_T45 l1_1 a2).f0)).f2))).setCell ⟨gb148, 3, none⟩ (.int .i64 ((rd_T39 (rd_L3 l0_1 a2) ((rd_T45 l1_1 a2).f0)).f3))).setCell ⟨gb148, 4, none⟩ (.int .i64 ((rd_T39 (rd_L3 l0_1 a2) ((rd_T45 l1_1 a2).f0)).f4))).heap[gb130]? = some (.cells #[.slice A1_0 l1_0.length c1_0, .slice (some ad146) l1_1.length c1_1] 28 (0, 0))) := ⟨by (with_reducible repeat (first | refine blk_drewN ?_ _ | refine blk_drew ?_ | refine blk_alloc ?_ _)); refine blk_far ?_ NB130_148.out _; (with_reducible repeat (first | refine blk_drewN ?_ _ | refine blk_drew ?_ | refine blk_alloc ?_ _)); refine blk_far ?_ NB130_148.out _; (with_reducible repeat (first | refine blk_drewN ?_ _ | refine blk_drew ?_ | refine blk_alloc ?_ _)); refine blk_far ?_ NB130_148.out _; (with_reducible repeat (first | refine blk_drewN ?_ _ | refine blk_drew ?_ | refine blk_alloc ?_ _)); refine blk_far ?_ NB130_148.out _; (with_reducible repeat (first | refine blk_drewN ?_ _ | refine blk_drew ?_ | refine blk_alloc ?_ _)); refine blk_far ?_ NB130_148.out _; (with_reducible repeat (first | refine blk_drewN ?_ _ | refine blk_drew ?_ | refine blk_alloc ?_ _)); exact BK130.out⟩
                    have n4_ : Aside0 ((((((w85.setCell ⟨gb148, 0, none⟩ (.int .i64 ((rd_T39 (rd_L3 l0_1 a2) ((rd_T45 l1_1 a2).f0)).f0))).setCell ⟨gb148, 1, none⟩ (.int .i64 ((rd_T39 (rd_L3 l0_1 a2) ((rd_T45 l1_1 a2).f0)).f1))).setCell ⟨gb148, 2, none⟩ (.int .i64 ((rd_T39 (rd_L3 l0_1 a2) ((rd_T45 l1_1 a2).f0)).f2))).setCell ⟨gb148, 3, none⟩ (.int .i64 ((rd_T39 (rd_L3 l0_1 a2) ((rd_T45 l1_1 a2).f0)).f3))).setCell ⟨gb148, 4, none⟩ (.int .i64 ((rd_T39 (rd_L3 l0_1 a2) ((rd_T45 l1_1 a2).f0)).f4))).heap[gb142]? = some (.cells #[.slice Ao38 t135.length co38, .slice Ao42 t138.length co42] 28 (0, 0))) := ⟨by (with_reducible repeat (first | refine blk_drewN ?_ _ | refine blk_drew ?_ | refine blk_alloc ?_ _)); refine blk_far ?_ NB142_148.out _; (with_reducible repeat (first | refine blk_drewN ?_ _ | refine blk_drew ?_ | refine blk_alloc ?_ _)); refine blk_far ?_ NB142_148.out _; (with_reducible repeat (first | refine blk_drewN ?_ _ | refine blk_drew ?_ | refine blk_alloc ?_ _)); refine blk_far ?_ NB142_148.out _; (with_reducible repeat (first | refine blk_drewN ?_ _ | refine blk_drew ?_ | refine blk_alloc ?_ _)); refine blk_far ?_ NB142_148.out _; (with_reducible repeat (first | refine blk_drewN ?_ _ | refine blk_drew ?_ | refine blk_alloc ?_ _)); refine blk_far ?_ NB142_148.out _; (with_reducible repeat (first | refine blk_drewN ?_ _ | refine blk_drew ?_ | refine blk_alloc ?_ _)); exact BK142.out⟩
                    have n5_ : Aside0 ((((((w85.setCell ⟨gb148, 0, none⟩ (.int .i64 ((rd_T39 (rd_L3 l0_1 a2) ((rd_T45 l1_1 a2).f0)).f0))).setCell ⟨gb148, 1, none⟩ (.int .i64 ((rd_T39 (rd_L3 l0_1 a2) ((rd_T45 l1_1 a2).f0)).f1))).setCell ⟨gb148, 2, none⟩ (.int .i64 ((rd_T39 (rd_L3 l0_1 a2) ((rd_T45 l1_1 a2).f0)).f2))).setCell ⟨gb148, 3, none⟩ (.int .i64 ((rd_T39 (rd_L3 l0_1 a2) ((rd_T45 l1_1 a2).f0)).f3))).setCell ⟨gb148, 4, none⟩ (.int .i64 ((rd_T39 (rd_L3 l0_1 a2) ((rd_T45 l1_1 a2).f0)).f4))).heap[gb148]? = some (.cells #[.int .i64 ((rd_T39 (rd_L3 l0_1 a2) ((rd_T45 l1_1 a2).f0)).f0), .int .i64 ((rd_T39 (rd_L3 l0_1 a2) ((rd_T45 l1_1 a2).f0)).f1), .int .i64 ((rd_T39 (rd_L3 l0_1 a2) ((rd_T45 l1_1 a2).f0)).f2), .int .i64 ((rd_T39 (rd_L3 l0_1 a2) ((rd_T45 l1_1 a2).f0)).f3), .int .i64 ((rd_T39 (rd_L3 l0_1 a2) ((rd_T45 l1_1 a2).f0)).f4)] 39 (0, 0))) := ⟨by (with_reducible repeat (first | refine blk_drewN ?_ _ | refine blk_drew ?_ | refine blk_alloc ?_ _)); refine blk_put (cs := #[.int .i64 ((rd_T39 (rd_L3 l0_1 a2) ((rd_T45 l1_1 a2).f0)).f0), .int .i64 ((rd_T39 (rd_L3 l0_1 a2) ((rd_T45 l1_1 a2).f0)).f1), .int .i64 ((rd_T39 (rd_L3 l0_1 a2) ((rd_T45 l1_1 a2).f0)).f2), .int .i64 ((rd_T39 (rd_L3 l0_1 a2) ((rd_T45 l1_1 a2).f0)).f3), .int .i64 0]) ?_ 4 _ rfl; (with_reducible repeat (first | refine blk_drewN ?_ _ | refine blk_drew ?_ | refine blk_alloc ?_ _)); refine blk_put (cs := #[.int .i64 ((rd_T39 (rd_L3 l0_1 a2) ((rd_T45 l1_1 a2).f0)).f0), .int .i64 ((rd_T39 (rd_L3 l0_1 a2) ((rd_T45 l1_1 a2).f0)).f1), .int .i64 ((rd_T39 (rd_L3 l0_1 a2) ((rd_T45 l1_1 a2).f0)).f2), .int .i64 0, .int .i64 0]) ?_ 3 _ rfl; (with_reducible repeat (first | refine blk_drewN ?_ _ | refine blk_drew ?_ | refine blk_alloc ?_ _)); refine blk_put (cs := #[.int .i64 ((rd_T39 (rd_L3 l0_1 a2) ((rd_T45 l1_1 a2).f0)).f0), .int .i64 ((rd_T39 (rd_L3 l0_1 a2) ((rd_T45 l1_1 a2).f0)).f1), .int .i64 0, .int .i64 0, .int .i64 0]) ?_ 2 _ rfl; (with_reducible repeat (first | refine blk_drewN ?_ _ | refine blk_drew ?_ | refine blk_alloc ?_ _)); refine blk_put (cs := #[.int .i64 ((rd_T39 (rd_L3 l0_1 a2) ((rd_T45 l1_1 a2).f0)).f0), .int .i64 0, .int .i64 0, .int .i64 0, .int .i64 0]) ?_ 1 _ rfl; (with_reducible repeat (first | refine blk_drewN ?_ _ | refine blk_drew ?_ | refine blk_alloc ?_ _)); refine blk_put (cs := #[.int .i64 0, .int .i64 0, .int .i64 0, .int .i64 0, .int .i64 0]) ?_ 0 _ rfl; (with_reducible repeat (first | refine blk_drewN ?_ _ | refine blk_drew ?_ | refine blk_alloc ?_ _)); exact BK148.out⟩
                    have n6_ : Aside0 (Below w.heap.size w (((((w85.setCell ⟨gb148, 0, none⟩ (.int .i64 ((rd_T39 (rd_L3 l0_1 a2) ((rd_T45 l1_1 a2).f0)).f0))).setCell ⟨gb148, 1, none⟩ (.int .i64 ((rd_T39 (rd_L3 l0_1 a2) ((rd_T45 l1_1 a2).f0)).f1))).setCell ⟨gb148, 2, none⟩ (.int .i64 ((rd_T39 (rd_L3 l0_1 a2) ((rd_T45 l1_1 a2).f0)).f2))).setCell ⟨gb148, 3, none⟩ (.int .i64 ((rd_T39 (rd_L3 l0_1 a2) ((rd_T45 l1_1 a2).f0)).f3))).setCell ⟨gb148, 4, none⟩ (.int .i64 ((rd_T39 (rd_L3 l0_1 a2) ((rd_T45 l1_1 a2).f0)).f4)))) := ⟨by repeat (first | (with_reducible first | exact HB.out | apply below_alloc | apply pw_below_drewN | apply below_drew1 | refine below_set ?_ GE129.out | refine below_set ?_ GE130.out | refine below_set ?_ GE142.out | refine below_set ?_ GE148.out) | exact HB.out)⟩
                    (try clear HO_143000)
                    (try clear HO_143001)
                    (try clear BK129)
                    (try clear BK130)
                    (try clear BK142)
                    (try clear BK148)
                    (try clear HB)
                    generalize (((((w85.setCell ⟨gb148, 0, none⟩ (.int .i64 ((rd_T39 (rd_L3 l0_1 a2) ((rd_T45 l1_1 a2).f0)).f0))).setCell ⟨gb148, 1, none⟩ (.int .i64 ((rd_T39 (rd_L3 l0_1 a2) ((rd_T45 l1_1 a2).f0)).f1))).setCell ⟨gb148, 2, none⟩ (.int .i64 ((rd_T39 (rd_L3 l0_1 a2) ((rd_T45 l1_1 a2).f0)).f2))).setCell ⟨gb148, 3, none⟩ (.int .i64 ((rd_T39 (rd_L3 l0_1 a2) ((rd_T45 l1_1 a2).f0)).f3))).setCell ⟨gb148, 4, none⟩ (.int .i64 ((rd_T39 (rd_L3 l0_1 a2) ((rd_T45 l1_1 a2).f0)).f4))) = w91 at n0_ n1_ n2_ n3_ n4_ n5_ n6_ ⊢
                    have HO_143000 := n0_
                    have HO_143001 := n1_
                    have BK129 := n2_
                    have BK130 := n3_
                    have BK142 := n4_
                    have BK148 := n5_
                    have HB := n6_
                    clear n0_ n1_ n2_ n3_ n4_ n5_ n6_
                    have hnb92 := NB142_129.out
                    have hnc92 := NB129_142.out
                    have hnb93 := NB142_130.out
                    have hnc93 := NB130_142.out
                    have hnb94 := NB142_148.out
                    have hnc94 := NB148_142.out
                    have hcz95_0 : w91.cell? ⟨gb142, 0, none⟩ = some (.slice Ao38 t135.length co38) := (blk_cell BK142.out 0).trans rfl
                    have hcz95_1 : w91.cell? ⟨gb142, 1, none⟩ = some (.slice Ao42 t138.length co42) := (blk_cell BK142.out 1).trans rfl
                    have hfz95_0 := blk_frozen BK142.out 0
                    have hfz95_1 := blk_frozen BK142.out 1
                    have hnb96 := NB130_129.out
                    have hnc96 := NB129_130.out
                    have hnb97 := NB130_148.out
                    have hnc97 := NB148_130.out
                    have hcz98_0 : w91.cell? ⟨gb130, 0, none⟩ = some (.slice A1_0 l1_0.length c1_0) := (blk_cell BK130.out 0).trans rfl
                    have hcz98_1 : w91.cell? ⟨gb130, 1, none⟩ = some (.slice (some ad146) l1_1.length c1_1) := (blk_cell BK130.out 1).trans rfl
                    have hfz98_0 := blk_frozen BK130.out 0
                    have hfz98_1 := blk_frozen BK130.out 1
                    have p149 : 0 ≤ (a2 : Int) := of_decide_eq_true (by first | (with_reducible assumption) | assumption)
                    have q149 : a2 < (t138.length : Int) := of_decide_eq_true (by first | (with_reducible assumption) | assumption)
                    obtain ⟨ad149, A149_1, c149_1, A149_3, c149_3, e149, hx149_0, hx149_1, hx149_2, hx149_3, hl149_1, hi149_1, hl149_3, hi149_3⟩ := at_T45 (Kd.V_reads' HO_143001.out).2.2 a2 p149 q149
                    cases e149
                    obtain ⟨ce149, hce149, hMe149, hcc149⟩ := Kd.V_get HO_143001.out z45 a2 p149 (by first | exact q149 | exact of_decide_eq_true (by first | (with_reducible assumption) | assumption) | (have e_ := (Kd.V_reads' HO_143001.out).1; omega))
                    obtain ⟨ua149_1, uc149_1, ua149_3, uc149_3, rfl, ul149_1, ge149_1, ul149_3, ge149_3⟩ := k45_openF hMe149
                    have hv149_1 := hcc149 1 _ rfl
                    rw [add_field _ _ 1 (by omega)] at hv149_1
                    replace hv149_1 := Option.some.inj (hv149_1.symm.trans hx149_1)
                    injection hv149_1 with hva_ hvn_ hvc_
                    rw [hva_] at ge149_1
                    rw [hvc_] at ul149_1
                    have HL149_1 := Aside0.mk (show Kd.V (Kd.int .i64) 3 _ w.heap.size _ _ ((rd_T45 t138 a2).f1) from Kd.V_mk ul149_1 ge149_1)
                    clear hva_ hvn_ hvc_ ge149_1 ul149_1
                    have hv149_3 := hcc149 3 _ rfl
                    rw [add_field _ _ 3 (by omega)] at hv149_3
                    replace hv149_3 := Option.some.inj (hv149_3.symm.trans hx149_3)
                    injection hv149_3 with hva_ hvn_ hvc_
                    rw [hva_] at ge149_3
                    rw [hvc_] at ul149_3
                    have HL149_3 := Aside0.mk (show Kd.V k53 53 _ w.heap.size _ _ ((rd_T45 t138 a2).f3) from Kd.V_mk ul149_3 ge149_3)
                    clear hva_ hvn_ hvc_ ge149_3 ul149_3
                    clear hcc149 hce149
                    have HR149_1 := Aside0.mk hi149_1
                    have HC149_1 := Aside0.mk hl149_1
                    clear hi149_1 hl149_1
                    have HR149_3 := Aside0.mk hi149_3
                    have HC149_3 := Aside0.mk hl149_3
                    clear hi149_3 hl149_3
                    replace p149 := eq_true p149
                    replace q149 := eq_true q149
                    have p150 : 0 ≤ (a2 : Int) := of_decide_eq_true (by first | (with_reducible assumption) | assumption)
                    have q150 : a2 < (l1_1.length : Int) := of_decide_eq_true (by first | (with_reducible assumption) | assumption)
                    obtain ⟨ad150, A150_1, c150_1, A150_3, c150_3, e150, hx150_0, hx150_1, hx150_2, hx150_3, hl150_1, hi150_1, hl150_3, hi150_3⟩ := at_T45 HR1_1.out a2 p150 q150
                    obtain rfl : ad146 = ad150 := (by injection e150)
                    replace hx150_0 := (HB.out.cell (World.block_lt_of_cell? w _ hx150_0)).trans hx150_0
                    replace hx150_1 := (HB.out.cell (World.block_lt_of_cell? w _ hx150_1)).trans hx150_1
                    replace hx150_2 := (HB.out.cell (World.block_lt_of_cell? w _ hx150_2)).trans hx150_2
                    replace hx150_3 := (HB.out.cell (World.block_lt_of_cell? w _ hx150_3)).trans hx150_3
                    have HR150_1 := Aside0.mk hi150_1
                    have HC150_1 := Aside0.mk hl150_1
                    clear hi150_1 hl150_1
                    have HR150_3 := Aside0.mk hi150_3
                    have HC150_3 := Aside0.mk hl150_3
                    clear hi150_3 hl150_3
                    replace p150 := eq_true p150
                    replace q150 := eq_true q150
                    have hnb99 := NB129_148.out
                    have hnc99 := NB148_129.out
                    have hcz100_0 : w91.cell? ⟨gb129, 0, none⟩ = some (.slice A0_0 l0_0.length c0_0) := (blk_cell BK129.out 0).trans rfl
                    have hcz100_1 : w91.cell? ⟨gb129, 1, none⟩ = some (.slice (some ad145) l0_1.length c0_1) := (blk_cell BK129.out 1).trans rfl
                    have hfz100_0 := blk_frozen BK129.out 0
                    have hfz100_1 := blk_frozen BK129.out 1
                    have p151 : 0 ≤ (a2 : Int) := of_decide_eq_true (by first | (with_reducible assumption) | assumption)
                    have q151 : a2 < (l0_1.length : Int) := of_decide_eq_true (by first | (with_reducible assumption) | assumption)
                    obtain ⟨ad151, A151_0, c151_0, e151, hx151_0, hl151_0, hi151_0⟩ := at_L3 HR0_1.out a2 p151 q151
                    obtain rfl : ad145 = ad151 := (by injection e151)
                    replace hx151_0 := (HB.out.cell (World.block_lt_of_cell? w _ hx151_0)).trans hx151_0
                    have HR151_0 := Aside0.mk hi151_0
                    have HC151_0 := Aside0.mk hl151_0
                    clear hi151_0 hl151_0
                    replace p151 := eq_true p151
                    replace q151 := eq_true q151
                    have p152 : 0 ≤ (a2 : Int) := of_decide_eq_true (by first | (with_reducible assumption) | assumption)
                    have q152 : a2 < (l1_1.length : Int) := of_decide_eq_true (by first | (with_reducible assumption) | assumption)
                    obtain ⟨ad152, A152_1, c152_1, A152_3, c152_3, e152, hx152_0, hx152_1, hx152_2, hx152_3, hl152_1, hi152_1, hl152_3, hi152_3⟩ := at_T45 HR1_1.out a2 p152 q152
                    obtain rfl : ad146 = ad152 := (by injection e152)
                    replace hx152_0 := (HB.out.cell (World.block_lt_of_cell? w _ hx152_0)).trans hx152_0
                    replace hx152_1 := (HB.out.cell (World.block_lt_of_cell? w _ hx152_1)).trans hx152_1
                    replace hx152_2 := (HB.out.cell (World.block_lt_of_cell? w _ hx152_2)).trans hx152_2
                    replace hx152_3 := (HB.out.cell (World.block_lt_of_cell? w _ hx152_3)).trans hx152_3
                    have HR152_1 := Aside0.mk hi152_1
                    have HC152_1 := Aside0.mk hl152_1
                    clear hi152_1 hl152_1
                    have HR152_3 := Aside0.mk hi152_3
                    have HC152_3 := Aside0.mk hl152_3
                    clear hi152_3 hl152_3
                    replace p152 := eq_true p152
                    replace q152 := eq_true q152
                    have ea_ := Option.some.inj (hx150_1.symm.trans hx152_1)
                    injection ea_ with ea_ en_ ec_
                    subst ea_
                    subst ec_
                    clear en_
                    have ea_ := Option.some.inj (hx150_3.symm.trans hx152_3)
                    injection ea_ with ea_ en_ ec_
                    subst ea_
                    subst ec_
                    clear en_
                    have hcz101_0 : w91.cell? ⟨gb148, 0, none⟩ = some (.int .i64 ((rd_T39 (rd_L3 l0_1 a2) ((rd_T45 l1_1 a2).f0)).f0)) := (blk_cell BK148.out 0).trans rfl
                    have hcz101_1 : w91.cell? ⟨gb148, 1, none⟩ = some (.int .i64 ((rd_T39 (rd_L3 l0_1 a2) ((rd_T45 l1_1 a2).f0)).f1)) := (blk_cell BK148.out 1).trans rfl
                    have hcz101_2 : w91.cell? ⟨gb148, 2, none⟩ = some (.int .i64 ((rd_T39 (rd_L3 l0_1 a2) ((rd_T45 l1_1 a2).f0)).f2)) := (blk_cell BK148.out 2).trans rfl
                    have hcz101_3 : w91.cell? ⟨gb148, 3, none⟩ = some (.int .i64 ((rd_T39 (rd_L3 l0_1 a2) ((rd_T45 l1_1 a2).f0)).f3)) := (blk_cell BK148.out 3).trans rfl
                    have hcz101_4 : w91.cell? ⟨gb148, 4, none⟩ = some (.int .i64 ((rd_T39 (rd_L3 l0_1 a2) ((rd_T45 l1_1 a2).f0)).f4)) := (blk_cell BK148.out 4).trans rfl
                    have hfz101_0 := blk_frozen BK148.out 0
                    have hfz101_1 := blk_frozen BK148.out 1
                    have hfz101_2 := blk_frozen BK148.out 2
                    have hfz101_3 := blk_frozen BK148.out 3
                    have hfz101_4 := blk_frozen BK148.out 4
                    try go_wp2
                    go_ret
                    exact ⟨by first | rfl | (simp [errW_none, errW_some] <;> rfl) | (simp [*, errW_none, errW_some] <;> rfl), by repeat (first | (with_reducible first | exact HB.out | apply below_alloc | apply pw_below_drewN | apply below_drew1 | refine below_set ?_ GE129.out | refine below_set ?_ GE130.out | refine below_set ?_ GE142.out | refine below_set ?_ GE148.out) | exact HB.out)⟩
                   ·rw [if_neg c83] at H
                    have c83b0 : decide (8 ≤ ((rd_T39 (rd_L3 l0_1 a2) ((rd_T45 l1_1 a2).f0)).f0)) = false := decide_eq_false c83
                    clear c83
                    exact absurd ((Option.some.inj H).trans HT.out) (by simp)
                 ·rw [if_neg c64] at H
                  have c64b0 : decide (((rd_T45 t138 a2).f0) ≤ ((rd_L3 l0_1 a2).length : Int)) = false := decide_eq_false c64
                  clear c64
                  exact absurd ((Option.some.inj H).trans HT.out) (by simp)
                ·rw [if_neg c63] at H
                 have c63b0 : decide (((rd_T45 l1_1 a2).f0) < ((rd_T45 t138 a2).f0)) = false := decide_eq_false c63
                 clear c63
                 exact absurd ((Option.some.inj H).trans HT.out) (by simp)
               ·replace c62 := Bool.eq_false_iff.mpr c62
                subst c62
                have H1 : (some false) = some r := by rw [if_neg (show ¬ (false = true) by decide)] at H; exact H
                clear H
                have H := H1
                clear H1
                exact absurd ((Option.some.inj H).trans HT.out) (by simp)
              ·rw [if_neg c61] at H
               exact absurd H (by simp)
             ·rw [if_neg c60] at H
              have c60b0 : ((t138.length : Int) == (l1_1.length : Int)) = false := beq_eq_false_iff_ne.mpr c60
              have c60b1 : ((t138.length : Int) != (l1_1.length : Int)) = true := bne_iff_ne.mpr c60
              have c60b2 : (t138.length == l1_1.length) = false := by first | simpa using c60 | (simp at c60 ⊢; omega)
              exact absurd ((Option.some.inj H).trans HT.out) (by simp)
            ·rw [if_neg c59] at H
             exact absurd H (by simp)
           ·rw [if_neg c58] at H
            exact absurd H (by simp)
          ·rw [if_neg c57] at H
           exact absurd H (by simp)
         ·rw [if_neg c56] at H
          exact absurd H (by simp)
        ·rw [if_neg c55] at H
         exact absurd H (by simp)
       ·replace c54 := Bool.eq_false_iff.mpr c54
        subst c54
        have H1 : (some t131) = some r := by rw [if_neg (show ¬ (false = true) by decide)] at H; exact H
        clear H
        have H := H1
        clear H1
        obtain rfl := Option.some.inj H
        go_wp2
        go_ret
        exact ⟨by first | rfl | (simp [errW_none, errW_some] <;> rfl) | (simp [*, errW_none, errW_some] <;> rfl), by repeat (first | (with_reducible first | exact HB.out | apply below_alloc | apply pw_below_drewN | apply below_drew1 | refine below_set ?_ GE129.out | refine below_set ?_ GE130.out | refine below_set ?_ GE142.out) | exact HB.out)⟩
end Go.Proofs.Ytdliojcpnkggnaa.Print
