-- Written by ownprint.py (this session's) with the kit's print.py: functions, contracts, rows; Lean checks it.
import Derived.Test.YtdliojcpnkggnaaPrint0
import Derived.Test.YtdliojcpnkggnaaHSq
namespace Go.Proofs.Ytdliojcpnkggnaa.Print
open Go.RowKit Go.Proofs.YtdliojcpnkggnaaW.PrintWords Go.Proofs.YtdliojcpnkggnaaW.PrintLast Go.Proofs.YtdliojcpnkggnaaW.PrintMore
attribute [local go_sem] max2_int min2_int max_two min_two max_three min_three max_four min_four   -- for this text's walks alone
set_option linter.unusedVariables false
set_option linter.unusedSimpArgs false
mutual
def fencepostref10_Right.j0 : Nat → Bool → List Int → List (List (S39)) → List Int → List (S45) → Option (Bool)
 | 0, _, _, _, _, _ => none
 | k + 1, x23, x123000, x123001, x124000, x124001 => if x23 = true then (some false) else (fencepostref10_Right.l0 k 0 x123000 x123001 x124000 x124001)
def fencepostref10_Right.l0 : Nat → Int → List Int → List (List (S39)) → List Int → List (S45) → Option (Bool)
 | 0, _, _, _, _, _ => none
 | k + 1, x5, x123000, x123001, x124000, x124001 => if x5 < (x124001.length : Int) then (if 0 ≤ x5 then (if ((rd_T45 x124001 x5).f0) < 0 then (fencepostref10_Right.j2 k x5 true x123000 x123001 x124000 x124001 ((rd_T45 x124001 x5).f0) ((rd_T45 x124001 x5).f1) ((rd_T45 x124001 x5).f2) ((rd_T45 x124001 x5).f3)) else (if x5 < (x123001.length : Int) then (if ((rd_T45 x124001 x5).f0) > ((rd_L3 x123001 x5).length : Int) then (fencepostref10_Right.j2 k x5 true x123000 x123001 x124000 x124001 ((rd_T45 x124001 x5).f0) ((rd_T45 x124001 x5).f1) ((rd_T45 x124001 x5).f2) ((rd_T45 x124001 x5).f3)) else (fencepostref10_Right.j2 k x5 ((((rd_T45 x124001 x5).f1).length : Int) != 4) x123000 x123001 x124000 x124001 ((rd_T45 x124001 x5).f0) ((rd_T45 x124001 x5).f1) ((rd_T45 x124001 x5).f2) ((rd_T45 x124001 x5).f3))) else (none))) else (none)) else (some true)
def fencepostref10_Right.j2 : Nat → Int → Bool → List Int → List (List (S39)) → List Int → List (S45) → Int → List Int → Bool → List (S53) → Option (Bool)
 | 0, _, _, _, _, _, _, _, _, _, _ => none
 | k + 1, x5, x55, x123000, x123001, x124000, x124001, x126000, x126001, x126002, x126003 => if x55 = true then (some false) else (fencepostref10_Right.l1 k x5 0 x123000 x123001 x124000 x124001 x126000 x126001 x126002 x126003)
def fencepostref10_Right.l1 : Nat → Int → Int → List Int → List (List (S39)) → List Int → List (S45) → Int → List Int → Bool → List (S53) → Option (Bool)
 | 0, _, _, _, _, _, _, _, _, _, _ => none
 | k + 1, x5, x7, x123000, x123001, x124000, x124001, x126000, x126001, x126002, x126003 => if x7 < (x126003.length : Int) then (if 0 ≤ x7 then (if ((rd_T53 x126003 x7).f0) < 0 then (some false) else (if ((rd_T53 x126003 x7).f0) ≥ (x124000.length : Int) then (some false) else (fencepostref10_Right.l1 k x5 (wrap64 (x7 + 1)) x123000 x123001 x124000 x124001 x126000 x126001 x126002 x126003))) else (none)) else (fencepostref10_Right.l0 k (wrap64 (x5 + 1)) x123000 x123001 x124000 x124001)
end
def fencepostref10_Right.f (k : Nat) (l0_0 : List Int) (l0_1 : List (List (S39))) (l1_0 : List Int) (l1_1 : List (S45)) : Option (Bool) := if (l1_0.length : Int) = (l0_0.length : Int) then (fencepostref10_Right.j0 k ((l1_1.length : Int) != (l0_1.length : Int)) l0_0 l0_1 l1_0 l1_1) else (fencepostref10_Right.j0 k true l0_0 l0_1 l1_0 l1_1)
theorem fencepostref10_Right.mono_l : ∀ k, (∀ y0 y1 y2 y3 y4, LeO (fencepostref10_Right.j0 k y0 y1 y2 y3 y4) (fencepostref10_Right.j0 (k + 1) y0 y1 y2 y3 y4)) ∧ (∀ y0 y1 y2 y3 y4, LeO (fencepostref10_Right.l0 k y0 y1 y2 y3 y4) (fencepostref10_Right.l0 (k + 1) y0 y1 y2 y3 y4)) ∧ (∀ y0 y1 y2 y3 y4 y5 y6 y7 y8 y9, LeO (fencepostref10_Right.j2 k y0 y1 y2 y3 y4 y5 y6 y7 y8 y9) (fencepostref10_Right.j2 (k + 1) y0 y1 y2 y3 y4 y5 y6 y7 y8 y9)) ∧ (∀ y0 y1 y2 y3 y4 y5 y6 y7 y8 y9, LeO (fencepostref10_Right.l1 k y0 y1 y2 y3 y4 y5 y6 y7 y8 y9) (fencepostref10_Right.l1 (k + 1) y0 y1 y2 y3 y4 y5 y6 y7 y8 y9))
 | 0 => ⟨fun _ _ _ _ _ r h => by simp [fencepostref10_Right.j0] at h, fun _ _ _ _ _ r h => by simp [fencepostref10_Right.l0] at h, fun _ _ _ _ _ _ _ _ _ _ r h => by simp [fencepostref10_Right.j2] at h, fun _ _ _ _ _ _ _ _ _ _ r h => by simp [fencepostref10_Right.l1] at h⟩
 | k + 1 => by
  obtain ⟨ih0, ih1, ih2, ih3⟩ := fencepostref10_Right.mono_l k
  refine ⟨?_, ?_, ?_, ?_⟩
  ·intro y0 y1 y2 y3 y4
   unfold fencepostref10_Right.j0
   repeat' first
   | (with_reducible exact ih0 _ _ _ _ _)
   | (with_reducible exact ih1 _ _ _ _ _)
   | (with_reducible exact ih2 _ _ _ _ _ _ _ _ _ _)
   | (with_reducible exact ih3 _ _ _ _ _ _ _ _ _ _)
   | (with_reducible exact LeO.refl _)
   | (with_reducible exact LeO.none _)
   | (with_reducible refine LeO.ite ?_ ?_)
   | (with_reducible refine LeO.bind ?_ (fun _ => ?_))
   | exact ih0 _ _ _ _ _
   | exact ih1 _ _ _ _ _
   | exact ih2 _ _ _ _ _ _ _ _ _ _
   | exact ih3 _ _ _ _ _ _ _ _ _ _
   | exact LeO.none _
   | refine LeO.ite ?_ ?_
   | refine LeO.bind ?_ (fun _ => ?_)
  ·intro y0 y1 y2 y3 y4
   unfold fencepostref10_Right.l0
   repeat' first
   | (with_reducible exact ih0 _ _ _ _ _)
   | (with_reducible exact ih1 _ _ _ _ _)
   | (with_reducible exact ih2 _ _ _ _ _ _ _ _ _ _)
   | (with_reducible exact ih3 _ _ _ _ _ _ _ _ _ _)
   | (with_reducible exact LeO.refl _)
   | (with_reducible exact LeO.none _)
   | (with_reducible refine LeO.ite ?_ ?_)
   | (with_reducible refine LeO.bind ?_ (fun _ => ?_))
   | exact ih0 _ _ _ _ _
   | exact ih1 _ _ _ _ _
   | exact ih2 _ _ _ _ _ _ _ _ _ _
   | exact ih3 _ _ _ _ _ _ _ _ _ _
   | exact LeO.none _
   | refine LeO.ite ?_ ?_
   | refine LeO.bind ?_ (fun _ => ?_)
  ·intro y0 y1 y2 y3 y4 y5 y6 y7 y8 y9
   unfold fencepostref10_Right.j2
   repeat' first
   | (with_reducible exact ih0 _ _ _ _ _)
   | (with_reducible exact ih1 _ _ _ _ _)
   | (with_reducible exact ih2 _ _ _ _ _ _ _ _ _ _)
   | (with_reducible exact ih3 _ _ _ _ _ _ _ _ _ _)
   | (with_reducible exact LeO.refl _)
   | (with_reducible exact LeO.none _)
   | (with_reducible refine LeO.ite ?_ ?_)
   | (with_reducible refine LeO.bind ?_ (fun _ => ?_))
   | exact ih0 _ _ _ _ _
   | exact ih1 _ _ _ _ _
   | exact ih2 _ _ _ _ _ _ _ _ _ _
   | exact ih3 _ _ _ _ _ _ _ _ _ _
   | exact LeO.none _
   | refine LeO.ite ?_ ?_
   | refine LeO.bind ?_ (fun _ => ?_)
  ·intro y0 y1 y2 y3 y4 y5 y6 y7 y8 y9
   unfold fencepostref10_Right.l1
   repeat' first
   | (with_reducible exact ih0 _ _ _ _ _)
   | (with_reducible exact ih1 _ _ _ _ _)
   | (with_reducible exact ih2 _ _ _ _ _ _ _ _ _ _)
   | (with_reducible exact ih3 _ _ _ _ _ _ _ _ _ _)
   | (with_reducible exact LeO.refl _)
   | (with_reducible exact LeO.none _)
   | (with_reducible refine LeO.ite ?_ ?_)
   | (with_reducible refine LeO.bind ?_ (fun _ => ?_))
   | exact ih0 _ _ _ _ _
   | exact ih1 _ _ _ _ _
   | exact ih2 _ _ _ _ _ _ _ _ _ _
   | exact ih3 _ _ _ _ _ _ _ _ _ _
   | exact LeO.none _
   | refine LeO.ite ?_ ?_
   | refine LeO.bind ?_ (fun _ => ?_)
theorem fencepostref10_Right.mono : ∀ a0 a1 a2 a3 k, LeO (fencepostref10_Right.f k a0 a1 a2 a3) (fencepostref10_Right.f (k + 1) a0 a1 a2 a3) := by
 intro a0 a1 a2 a3 k
 obtain ⟨ih0, ih1, ih2, ih3⟩ := fencepostref10_Right.mono_l k
 unfold fencepostref10_Right.f
 repeat' first
  | (with_reducible exact ih0 _ _ _ _ _)
  | (with_reducible exact ih1 _ _ _ _ _)
  | (with_reducible exact ih2 _ _ _ _ _ _ _ _ _ _)
  | (with_reducible exact ih3 _ _ _ _ _ _ _ _ _ _)
  | (with_reducible exact LeO.refl _)
  | (with_reducible exact LeO.none _)
  | (with_reducible refine LeO.ite ?_ ?_)
  | (with_reducible refine LeO.bind ?_ (fun _ => ?_))
  | exact ih0 _ _ _ _ _
  | exact ih1 _ _ _ _ _
  | exact ih2 _ _ _ _ _ _ _ _ _ _
  | exact ih3 _ _ _ _ _ _ _ _ _ _
  | exact LeO.none _
  | refine LeO.ite ?_ ?_
  | refine LeO.bind ?_ (fun _ => ?_)
set_option maxHeartbeats 8000000 in
set_option maxRecDepth 100000 in
theorem fencepostref10_Right.calls (k : Nat) (A0_0 : Option Addr) (c0_0 : Nat) (l0_0 : List Int) (A0_1 : Option Addr) (c0_1 : Nat) (l0_1 : List (List (S39))) (A1_0 : Option Addr) (c1_0 : Nat) (l1_0 : List Int) (A1_1 : Option Addr) (c1_1 : Nat) (l1_1 : List (S45)) (r : Bool) (w : World) (hr0_0 : Kd.C (Kd.int .i64) w A0_0 l0_0.length l0_0) (hc0_0 : l0_0.length ≤ c0_0) (hr0_1 : Kd.C (Kd.slice 39 k39) w A0_1 l0_1.length l0_1) (hc0_1 : l0_1.length ≤ c0_1) (hr1_0 : Kd.C (Kd.int .i64) w A1_0 l1_0.length l1_0) (hc1_0 : l1_0.length ≤ c1_0) (hr1_1 : Kd.C k45 w A1_1 l1_1.length l1_1) (hc1_1 : l1_1.length ≤ c1_1) (h : fencepostref10_Right.f k l0_0 l0_1 l1_0 l1_1 = some r) :
 Calls Try.prog 13 #[.agg #[.slice A0_0 l0_0.length c0_0, .slice A0_1 l0_1.length c0_1], .agg #[.slice A1_0 l1_0.length c1_0, .slice A1_1 l1_1.length c1_1]] w fun e w' => e = .returned (.bool r) ∧ Below w.heap.size w w' := by
 have hu25 := Try.underlying25
 have hu28 := Try.underlying28
 have hu45 := Try.underlying45
 have HR0_0 := Aside0.mk hr0_0
 have HC0_0 := Aside0.mk hc0_0
 clear hr0_0 hc0_0
 have HR0_1 := Aside0.mk hr0_1
 have HC0_1 := Aside0.mk hc0_1
 clear hr0_1 hc0_1
 have HR1_0 := Aside0.mk hr1_0
 have HC1_0 := Aside0.mk hc1_0
 clear hr1_0 hc1_0
 have HR1_1 := Aside0.mk hr1_1
 have HC1_1 := Aside0.mk hc1_1
 clear hr1_1 hc1_1
 have HB := Aside0.mk (Below.refl w.heap.size w)
 have H : (if (l1_0.length : Int) = (l0_0.length : Int) then (fencepostref10_Right.j0 k ((l1_1.length : Int) != (l0_1.length : Int)) l0_0 l0_1 l1_0 l1_1) else (fencepostref10_Right.j0 k true l0_0 l0_1 l1_0 l1_1)) = some r := h
 clear h
 have HC3 := Aside0.mk H
 clear H
 go_enter Try.func13, Try.ntmps13
 (try simp only [List.append_eq, List.cons_append, List.nil_append])
 go_upto_region 1 with (first | ((with_reducible refine gate_dst (N := 2) rfl ?_); (try (refine gate_guard (by rfl) ?_; dsimp only)); refine box_event ?hg (N := 2) ?hd (cs := #[.slice A0_0 l0_0.length c0_0, .slice A0_1 l0_1.length c0_1]) (t := 25) ?hr ?_; (case hd => rfl); (case hg => rfl); (case hr => first | (go_simp; done) | (go_simp; rfl)); intro gb122 hg w4 hbox hb; have n0_ := Aside0.mk (below_step (by repeat (first | (with_reducible first | exact HB.out | apply below_alloc | apply pw_below_drewN | apply below_drew1) | exact HB.out)) hb); have n1_ := Aside0.mk (hbox); have n2_ := Aside0.mk ((by rw [hg]; exact (below_size (by repeat (first | (with_reducible first | exact HB.out | apply below_alloc | apply pw_below_drewN | apply below_drew1) | exact HB.out))) : w.heap.size ≤ gb122)); have n3_ := Aside0.mk ((by rw [hg]; exact (below_size (by repeat (first | (with_reducible first | exact HB.out | apply below_alloc | apply pw_below_drewN | apply below_drew1) | exact HB.out))) : w.heap.size ≤ gb122)); clear HB; have HB := n0_; have BK122 := n1_; have GW122 := n2_; have GE122 := n3_; clear n0_ n1_ n2_ n3_; clear hb hbox hg) | ((with_reducible refine gate_dst (N := 3) rfl ?_); (try (refine gate_guard (by rfl) ?_; dsimp only)); refine box_event ?hg (N := 3) ?hd (cs := #[.slice A1_0 l1_0.length c1_0, .slice A1_1 l1_1.length c1_1]) (t := 28) ?hr ?_; (case hd => rfl); (case hg => rfl); (case hr => first | (go_simp; done) | (go_simp; rfl)); intro gb123 hg w5 hbox hb; have n0_ := Aside0.mk (blk_below (g := gb122) (o := .cells #[.slice A0_0 l0_0.length c0_0, .slice A0_1 l0_1.length c0_1] 25 (0, 0)) (by (with_reducible repeat (first | refine blk_drewN ?_ _ | refine blk_drew ?_ | refine blk_alloc ?_ _)); exact BK122.out) hb); have n1_ := Aside0.mk (below_step (by repeat (first | (with_reducible first | exact HB.out | apply below_alloc | apply pw_below_drewN | apply below_drew1 | refine below_set ?_ GE122.out) | exact HB.out)) hb); have n2_ := Aside0.mk (hbox); have n3_ := Aside0.mk ((by rw [hg]; exact (below_size (by repeat (first | (with_reducible first | exact HB.out | apply below_alloc | apply pw_below_drewN | apply below_drew1 | refine below_set ?_ GE122.out) | exact HB.out))) : w.heap.size ≤ gb123)); have n4_ := Aside0.mk ((by rw [hg]; exact (below_size (by repeat (first | (with_reducible first | exact HB.out | apply below_alloc | apply pw_below_drewN | apply below_drew1 | refine below_set ?_ GE122.out) | exact HB.out))) : w.heap.size ≤ gb123)); have n5_ := Aside0.mk ((by rw [hg]; exact Nat.ne_of_lt (blk_lt (g := gb122) (o := .cells #[.slice A0_0 l0_0.length c0_0, .slice A0_1 l0_1.length c0_1] 25 (0, 0)) (by (with_reducible repeat (first | refine blk_drewN ?_ _ | refine blk_drew ?_ | refine blk_alloc ?_ _)); exact BK122.out)) : gb122 ≠ gb123)); have n6_ := Aside0.mk ((by rw [hg]; exact Nat.ne_of_gt (blk_lt (g := gb122) (o := .cells #[.slice A0_0 l0_0.length c0_0, .slice A0_1 l0_1.length c0_1] 25 (0, 0)) (by (with_reducible repeat (first | refine blk_drewN ?_ _ | refine blk_drew ?_ | refine blk_alloc ?_ _)); exact BK122.out)) : gb123 ≠ gb122)); clear BK122; clear HB; have BK122 := n0_; have HB := n1_; have BK123 := n2_; have GW123 := n3_; have GE123 := n4_; have NB122_123 := n5_; have NB123_122 := n6_; clear n0_ n1_ n2_ n3_ n4_ n5_ n6_; clear hb hbox hg))
 repeat (go_quiet (first | ((with_reducible refine gate_dst (N := 2) rfl ?_); (try (refine gate_guard (by rfl) ?_; dsimp only)); refine box_event ?hg (N := 2) ?hd (cs := #[.slice A0_0 l0_0.length c0_0, .slice A0_1 l0_1.length c0_1]) (t := 25) ?hr ?_; (case hd => rfl); (case hg => rfl); (case hr => first | (go_simp; done) | (go_simp; rfl)); intro gb122 hg w4 hbox hb; have n0_ := Aside0.mk (below_step (by repeat (first | (with_reducible first | exact HB.out | apply below_alloc | apply pw_below_drewN | apply below_drew1) | exact HB.out)) hb); have n1_ := Aside0.mk (hbox); have n2_ := Aside0.mk ((by rw [hg]; exact (below_size (by repeat (first | (with_reducible first | exact HB.out | apply below_alloc | apply pw_below_drewN | apply below_drew1) | exact HB.out))) : w.heap.size ≤ gb122)); have n3_ := Aside0.mk ((by rw [hg]; exact (below_size (by repeat (first | (with_reducible first | exact HB.out | apply below_alloc | apply pw_below_drewN | apply below_drew1) | exact HB.out))) : w.heap.size ≤ gb122)); clear HB; have HB := n0_; have BK122 := n1_; have GW122 := n2_; have GE122 := n3_; clear n0_ n1_ n2_ n3_; clear hb hbox hg) | ((with_reducible refine gate_dst (N := 3) rfl ?_); (try (refine gate_guard (by rfl) ?_; dsimp only)); refine box_event ?hg (N := 3) ?hd (cs := #[.slice A1_0 l1_0.length c1_0, .slice A1_1 l1_1.length c1_1]) (t := 28) ?hr ?_; (case hd => rfl); (case hg => rfl); (case hr => first | (go_simp; done) | (go_simp; rfl)); intro gb123 hg w5 hbox hb; have n0_ := Aside0.mk (blk_below (g := gb122) (o := .cells #[.slice A0_0 l0_0.length c0_0, .slice A0_1 l0_1.length c0_1] 25 (0, 0)) (by (with_reducible repeat (first | refine blk_drewN ?_ _ | refine blk_drew ?_ | refine blk_alloc ?_ _)); exact BK122.out) hb); have n1_ := Aside0.mk (below_step (by repeat (first | (with_reducible first | exact HB.out | apply below_alloc | apply pw_below_drewN | apply below_drew1 | refine below_set ?_ GE122.out) | exact HB.out)) hb); have n2_ := Aside0.mk (hbox); have n3_ := Aside0.mk ((by rw [hg]; exact (below_size (by repeat (first | (with_reducible first | exact HB.out | apply below_alloc | apply pw_below_drewN | apply below_drew1 | refine below_set ?_ GE122.out) | exact HB.out))) : w.heap.size ≤ gb123)); have n4_ := Aside0.mk ((by rw [hg]; exact (below_size (by repeat (first | (with_reducible first | exact HB.out | apply below_alloc | apply pw_below_drewN | apply below_drew1 | refine below_set ?_ GE122.out) | exact HB.out))) : w.heap.size ≤ gb123)); have n5_ := Aside0.mk ((by rw [hg]; exact Nat.ne_of_lt (blk_lt (g := gb122) (o := .cells #[.slice A0_0 l0_0.length c0_0, .slice A0_1 l0_1.length c0_1] 25 (0, 0)) (by (with_reducible repeat (first | refine blk_drewN ?_ _ | refine blk_drew ?_ | refine blk_alloc ?_ _)); exact BK122.out)) : gb122 ≠ gb123)); have n6_ := Aside0.mk ((by rw [hg]; exact Nat.ne_of_gt (blk_lt (g := gb122) (o := .cells #[.slice A0_0 l0_0.length c0_0, .slice A0_1 l0_1.length c0_1] 25 (0, 0)) (by (with_reducible repeat (first | refine blk_drewN ?_ _ | refine blk_drew ?_ | refine blk_alloc ?_ _)); exact BK122.out)) : gb123 ≠ gb122)); clear BK122; clear HB; have BK122 := n0_; have HB := n1_; have BK123 := n2_; have GW123 := n3_; have GE123 := n4_; have NB122_123 := n5_; have NB123_122 := n6_; clear n0_ n1_ n2_ n3_ n4_ n5_ n6_; clear hb hbox hg)); go_upto_region 1 with (first | ((with_reducible refine gate_dst (N := 2) rfl ?_); (try (refine gate_guard (by rfl) ?_; dsimp only)); refine box_event ?hg (N := 2) ?hd (cs := #[.slice A0_0 l0_0.length c0_0, .slice A0_1 l0_1.length c0_1]) (t := 25) ?hr ?_; (case hd => rfl); (case hg => rfl); (case hr => first | (go_simp; done) | (go_simp; rfl)); intro gb122 hg w4 hbox hb; have n0_ := Aside0.mk (below_step (by repeat (first | (with_reducible first | exact HB.out | apply below_alloc | apply pw_below_drewN | apply below_drew1) | exact HB.out)) hb); have n1_ := Aside0.mk (hbox); have n2_ := Aside0.mk ((by rw [hg]; exact (below_size (by repeat (first | (with_reducible first | exact HB.out | apply below_alloc | apply pw_below_drewN | apply below_drew1) | exact HB.out))) : w.heap.size ≤ gb122)); have n3_ := Aside0.mk ((by rw [hg]; exact (below_size (by repeat (first | (with_reducible first | exact HB.out | apply below_alloc | apply pw_below_drewN | apply below_drew1) | exact HB.out))) : w.heap.size ≤ gb122)); clear HB; have HB := n0_; have BK122 := n1_; have GW122 := n2_; have GE122 := n3_; clear n0_ n1_ n2_ n3_; clear hb hbox hg) | ((with_reducible refine gate_dst (N := 3) rfl ?_); (try (refine gate_guard (by rfl) ?_; dsimp only)); refine box_event ?hg (N := 3) ?hd (cs := #[.slice A1_0 l1_0.length c1_0, .slice A1_1 l1_1.length c1_1]) (t := 28) ?hr ?_; (case hd => rfl); (case hg => rfl); (case hr => first | (go_simp; done) | (go_simp; rfl)); intro gb123 hg w5 hbox hb; have n0_ := Aside0.mk (blk_below (g := gb122) (o := .cells #[.slice A0_0 l0_0.length c0_0, .slice A0_1 l0_1.length c0_1] 25 (0, 0)) (by (with_reducible repeat (first | refine blk_drewN ?_ _ | refine blk_drew ?_ | refine blk_alloc ?_ _)); exact BK122.out) hb); have n1_ := Aside0.mk (below_step (by repeat (first | (with_reducible first | exact HB.out | apply below_alloc | apply pw_below_drewN | apply below_drew1 | refine below_set ?_ GE122.out) | exact HB.out)) hb); have n2_ := Aside0.mk (hbox); have n3_ := Aside0.mk ((by rw [hg]; exact (below_size (by repeat (first | (with_reducible first | exact HB.out | apply below_alloc | apply pw_below_drewN | apply below_drew1 | refine below_set ?_ GE122.out) | exact HB.out))) : w.heap.size ≤ gb123)); have n4_ := Aside0.mk ((by rw [hg]; exact (below_size (by repeat (first | (with_reducible first | exact HB.out | apply below_alloc | apply pw_below_drewN | apply below_drew1 | refine below_set ?_ GE122.out) | exact HB.out))) : w.heap.size ≤ gb123)); have n5_ := Aside0.mk ((by rw [hg]; exact Nat.ne_of_lt (blk_lt (g := gb122) (o := .cells #[.slice A0_0 l0_0.length c0_0, .slice A0_1 l0_1.length c0_1] 25 (0, 0)) (by (with_reducible repeat (first | refine blk_drewN ?_ _ | refine blk_drew ?_ | refine blk_alloc ?_ _)); exact BK122.out)) : gb122 ≠ gb123)); have n6_ := Aside0.mk ((by rw [hg]; exact Nat.ne_of_gt (blk_lt (g := gb122) (o := .cells #[.slice A0_0 l0_0.length c0_0, .slice A0_1 l0_1.length c0_1] 25 (0, 0)) (by (with_reducible repeat (first | refine blk_drewN ?_ _ | refine blk_drew ?_ | refine blk_alloc ?_ _)); exact BK122.out)) : gb123 ≠ gb122)); clear BK122; clear HB; have BK122 := n0_; have HB := n1_; have BK123 := n2_; have GW123 := n3_; have GE123 := n4_; have NB122_123 := n5_; have NB123_122 := n6_; clear n0_ n1_ n2_ n3_ n4_ n5_ n6_; clear hb hbox hg)))
 (try simp only [Act.put, List.setIfInBounds_toArray, List.set_cons_zero, List.set_cons_succ])
 go_cut [23] (fun v23 wc => ∃ (kq : Nat) (x23_2 : Bool), v23 = .bool x23_2 ∧ Aside0 (fencepostref10_Right.j0 kq x23_2 l0_0 l0_1 l1_0 l1_1 = some r) ∧ Aside0 (kq ≤ k) ∧ Aside0 (wc.heap[gb122]? = some (.cells #[(.slice A0_0 l0_0.length c0_0), (.slice A0_1 l0_1.length c0_1)] 25 (0, 0))) ∧ Aside0 (wc.heap[gb123]? = some (.cells #[(.slice A1_0 l1_0.length c1_0), (.slice A1_1 l1_1.length c1_1)] 28 (0, 0))) ∧ Aside0 (Below w.heap.size w wc))
 case first =>
  have H := HC3.out
  clear HC3
  by_cases c6 : (l1_0.length : Int) = (l0_0.length : Int)
  rotate_left
  ·rw [if_neg c6] at H
   have c6b0 : ((l1_0.length : Int) == (l0_0.length : Int)) = false := beq_eq_false_iff_ne.mpr c6
   have c6b1 : ((l1_0.length : Int) != (l0_0.length : Int)) = true := bne_iff_ne.mpr c6
   have c6b2 : (l1_0.length == l0_0.length) = false := by first | simpa using c6 | (simp at c6 ⊢; omega)
   (first | rw [c6b0] | (simp only [i64_w, i32_w]; rw [c6b0]) | skip)
   have H' := Aside0.mk H
   clear H
   have hnb10 := NB123_122.out
   have hnc10 := NB122_123.out
   have hcz11_0 : w5.cell? ⟨gb123, 0, none⟩ = some (.slice A1_0 l1_0.length c1_0) := (blk_cell BK123.out 0).trans rfl
   have hcz11_1 : w5.cell? ⟨gb123, 1, none⟩ = some (.slice A1_1 l1_1.length c1_1) := (blk_cell BK123.out 1).trans rfl
   have hfz11_0 := blk_frozen BK123.out 0
   have hfz11_1 := blk_frozen BK123.out 1
   have hcz12_0 : w5.cell? ⟨gb122, 0, none⟩ = some (.slice A0_0 l0_0.length c0_0) := (blk_cell BK122.out 0).trans rfl
   have hcz12_1 : w5.cell? ⟨gb122, 1, none⟩ = some (.slice A0_1 l0_1.length c0_1) := (blk_cell BK122.out 1).trans rfl
   have hfz12_0 := blk_frozen BK122.out 0
   have hfz12_1 := blk_frozen BK122.out 1
   go_wp2
   repeat (go_quiet (fail); try go_wp2)
   go_meet
   case rel => exact ⟨_, (true), (by first | rfl | (simp; done) | (simp [*]; done)), H', ⟨by first | omega | exact Nat.le_refl _⟩, ⟨by (with_reducible repeat (first | refine blk_drewN ?_ _ | refine blk_drew ?_ | refine blk_alloc ?_ _)); exact BK122.out⟩, ⟨by (with_reducible repeat (first | refine blk_drewN ?_ _ | refine blk_drew ?_ | refine blk_alloc ?_ _)); exact BK123.out⟩, ⟨by repeat (first | (with_reducible first | exact HB.out | apply below_alloc | apply pw_below_drewN | apply below_drew1 | refine below_set ?_ GE122.out | refine below_set ?_ GE123.out) | exact HB.out)⟩⟩
  rw [if_pos c6] at H
  have c6b0 : ((l1_0.length : Int) == (l0_0.length : Int)) = true := beq_iff_eq.mpr c6
  have c6b1 : ((l1_0.length : Int) != (l0_0.length : Int)) = false := bne_eq_false_iff_eq.mpr c6
  have c6b2 : (l1_0.length == l0_0.length) = true := by first | simpa using c6 | (simp at c6 ⊢; omega)
  clear c6
  (first | rw [c6b0] | (simp only [i64_w, i32_w]; rw [c6b0]) | skip)
  have H' := Aside0.mk H
  clear H
  have hnb7 := NB123_122.out
  have hnc7 := NB122_123.out
  have hcz8_0 : w5.cell? ⟨gb123, 0, none⟩ = some (.slice A1_0 l1_0.length c1_0) := (blk_cell BK123.out 0).trans rfl
  have hcz8_1 : w5.cell? ⟨gb123, 1, none⟩ = some (.slice A1_1 l1_1.length c1_1) := (blk_cell BK123.out 1).trans rfl
  have hfz8_0 := blk_frozen BK123.out 0
  have hfz8_1 := blk_frozen BK123.out 1
  have hcz9_0 : w5.cell? ⟨gb122, 0, none⟩ = some (.slice A0_0 l0_0.length c0_0) := (blk_cell BK122.out 0).trans rfl
  have hcz9_1 : w5.cell? ⟨gb122, 1, none⟩ = some (.slice A0_1 l0_1.length c0_1) := (blk_cell BK122.out 1).trans rfl
  have hfz9_0 := blk_frozen BK122.out 0
  have hfz9_1 := blk_frozen BK122.out 1
  go_wp2
  repeat (go_quiet (fail); try go_wp2)
  go_meet
  case rel => exact ⟨_, (((l1_1.length : Int) != (l0_1.length : Int))), (by first | rfl | (simp; done) | (simp [*]; done)), H', ⟨by first | omega | exact Nat.le_refl _⟩, ⟨by (with_reducible repeat (first | refine blk_drewN ?_ _ | refine blk_drew ?_ | refine blk_alloc ?_ _)); exact BK122.out⟩, ⟨by (with_reducible repeat (first | refine blk_drewN ?_ _ | refine blk_drew ?_ | refine blk_alloc ?_ _)); exact BK123.out⟩, ⟨by repeat (first | (with_reducible first | exact HB.out | apply below_alloc | apply pw_below_drewN | apply below_drew1 | refine below_set ?_ GE122.out | refine below_set ?_ GE123.out) | exact HB.out)⟩⟩
 clear HC3
 obtain ⟨kq, x23_2, rfl, HA, HJ2, BK122, BK123, HB⟩ := hcut
 cases kq with
 | zero => exact absurd HA.out (by simp [fencepostref10_Right.j0])
 | succ kj2 => ?_
 have H := HA.out
 clear HA
 simp only [fencepostref10_Right.j0] at H
 by_cases c13 : x23_2 = true
 ·subst c13
  have H1 : (some false) = some r := by rw [if_pos rfl] at H; exact H
  clear H
  have H := H1
  clear H1
  obtain rfl := Option.some.inj H
  go_wp2
  repeat (go_quiet (fail); try go_wp2)
  go_ret
  exact ⟨by first | rfl | (simp [errW_none, errW_some] <;> rfl) | (simp [*, errW_none, errW_some] <;> rfl), by repeat (first | (with_reducible first | exact HB.out | apply below_alloc | apply pw_below_drewN | apply below_drew1 | refine below_set ?_ GE122.out | refine below_set ?_ GE123.out) | exact HB.out)⟩
 replace c13 := Bool.eq_false_iff.mpr c13
 subst c13
 have H1 : (fencepostref10_Right.l0 kj2 0 l0_0 l0_1 l1_0 l1_1) = some r := by rw [if_neg (show ¬ (false = true) by decide)] at H; exact H
 clear H
 have H := H1
 clear H1
 have H' := Aside0.mk H
 clear H
 go_wp2
 repeat (go_quiet (fail); try go_wp2)
 go_loopg [5] kj2 (fun kq v5 w' => ∃ (x5_2 : Int), v5 = .int .i64 x5_2 ∧ Aside0 (fencepostref10_Right.l0 kq x5_2 l0_0 l0_1 l1_0 l1_1 = some r) ∧ Aside0 (kq ≤ kj2) ∧ Aside0 (w'.heap[gb122]? = some (.cells #[(.slice A0_0 l0_0.length c0_0), (.slice A0_1 l0_1.length c0_1)] 25 (0, 0))) ∧ Aside0 (w'.heap[gb123]? = some (.cells #[(.slice A1_0 l1_0.length c1_0), (.slice A1_1 l1_1.length c1_1)] 28 (0, 0))) ∧ Aside0 (Below w.heap.size w w'))
 case atStart => exact ⟨(0), (by first | rfl | (simp; done) | (simp [*]; done)), H', ⟨Nat.le_refl _⟩, ⟨by (with_reducible repeat (first | refine blk_drewN ?_ _ | refine blk_drew ?_ | refine blk_alloc ?_ _)); exact BK122.out⟩, ⟨by (with_reducible repeat (first | refine blk_drewN ?_ _ | refine blk_drew ?_ | refine blk_alloc ?_ _)); exact BK123.out⟩, ⟨by repeat (first | (with_reducible first | exact HB.out | apply below_alloc | apply pw_below_drewN | apply below_drew1 | refine below_set ?_ GE122.out | refine below_set ?_ GE123.out) | exact HB.out)⟩⟩
 clear H'
 try clear c13
 obtain ⟨x5_2, rfl, HA, HK2, BK122, BK123, HB⟩ := hrel
 cases gk with
 | zero => exact absurd HA.out (by simp [fencepostref10_Right.l0])
 | succ k2 => ?_
 have H := HA.out
 clear HA
 simp only [fencepostref10_Right.l0] at H
 by_cases c14 : x5_2 < (l1_1.length : Int)
 rotate_left
 ·rw [if_neg c14] at H
  have c14b0 : decide (x5_2 < (l1_1.length : Int)) = false := decide_eq_false c14
  clear c14
  obtain rfl := Option.some.inj H
  have hnb60 := NB123_122.out
  have hnc60 := NB122_123.out
  have hcz61_0 : wr.cell? ⟨gb123, 0, none⟩ = some (.slice A1_0 l1_0.length c1_0) := (blk_cell BK123.out 0).trans rfl
  have hcz61_1 : wr.cell? ⟨gb123, 1, none⟩ = some (.slice A1_1 l1_1.length c1_1) := (blk_cell BK123.out 1).trans rfl
  have hfz61_0 := blk_frozen BK123.out 0
  have hfz61_1 := blk_frozen BK123.out 1
  go_wp2
  repeat (go_quiet (fail); try go_wp2)
  go_ret
  exact ⟨by first | rfl | (simp [errW_none, errW_some] <;> rfl) | (simp [*, errW_none, errW_some] <;> rfl), by repeat (first | (with_reducible first | exact HB.out | apply below_alloc | apply pw_below_drewN | apply below_drew1 | refine below_set ?_ GE122.out | refine below_set ?_ GE123.out) | exact HB.out)⟩
 rw [if_pos c14] at H
 have c14b0 : decide (x5_2 < (l1_1.length : Int)) = true := decide_eq_true c14
 clear c14
 by_cases c15 : 0 ≤ x5_2
 rotate_left
 ·rw [if_neg c15] at H
  exact absurd H (by simp)
 rw [if_pos c15] at H
 have c15b0 : decide (0 ≤ x5_2) = true := decide_eq_true c15
 clear c15
 have HC16 := Aside0.mk H
 clear H
 have hnb17 := NB123_122.out
 have hnc17 := NB122_123.out
 have hcz18_0 : wr.cell? ⟨gb123, 0, none⟩ = some (.slice A1_0 l1_0.length c1_0) := (blk_cell BK123.out 0).trans rfl
 have hcz18_1 : wr.cell? ⟨gb123, 1, none⟩ = some (.slice A1_1 l1_1.length c1_1) := (blk_cell BK123.out 1).trans rfl
 have hfz18_0 := blk_frozen BK123.out 0
 have hfz18_1 := blk_frozen BK123.out 1
 have p124 : 0 ≤ (x5_2 : Int) := of_decide_eq_true (by first | (with_reducible assumption) | assumption)
 have q124 : x5_2 < (l1_1.length : Int) := of_decide_eq_true (by first | (with_reducible assumption) | assumption)
 obtain ⟨ad124, A124_1, c124_1, A124_3, c124_3, e124, hx124_0, hx124_1, hx124_2, hx124_3, hl124_1, hi124_1, hl124_3, hi124_3⟩ := at_T45 HR1_1.out x5_2 p124 q124
 cases e124
 replace hx124_0 := (HB.out.cell (World.block_lt_of_cell? w _ hx124_0)).trans hx124_0
 replace hx124_1 := (HB.out.cell (World.block_lt_of_cell? w _ hx124_1)).trans hx124_1
 replace hx124_2 := (HB.out.cell (World.block_lt_of_cell? w _ hx124_2)).trans hx124_2
 replace hx124_3 := (HB.out.cell (World.block_lt_of_cell? w _ hx124_3)).trans hx124_3
 have HR124_1 := Aside0.mk hi124_1
 have HC124_1 := Aside0.mk hl124_1
 clear hi124_1 hl124_1
 have HR124_3 := Aside0.mk hi124_3
 have HC124_3 := Aside0.mk hl124_3
 clear hi124_3 hl124_3
 replace p124 := eq_true p124
 replace q124 := eq_true q124
 go_upto_region 7 with (first | ((with_reducible refine gate_dst (N := 6) rfl ?_); (try (refine gate_guard (by rfl) ?_; dsimp only)); refine box_event ?hg (N := 6) ?hd (cs := #[.int .i64 0, .slice none 0 0, .bool false, .slice none 0 0]) (t := 45) ?hr ?_; (case hd => rfl); (case hg => rfl); (case hr => first | (go_simp; done) | (go_simp; rfl)); intro gb125 hg w19 hbox hb; have n0_ := Aside0.mk (blk_below (g := gb122) (o := .cells #[.slice A0_0 l0_0.length c0_0, .slice A0_1 l0_1.length c0_1] 25 (0, 0)) (by (with_reducible repeat (first | refine blk_drewN ?_ _ | refine blk_drew ?_ | refine blk_alloc ?_ _)); exact BK122.out) hb); have n1_ := Aside0.mk (blk_below (g := gb123) (o := .cells #[.slice A1_0 l1_0.length c1_0, .slice (some ad124) l1_1.length c1_1] 28 (0, 0)) (by (with_reducible repeat (first | refine blk_drewN ?_ _ | refine blk_drew ?_ | refine blk_alloc ?_ _)); exact BK123.out) hb); have n2_ := Aside0.mk (below_step (by repeat (first | (with_reducible first | exact HB.out | apply below_alloc | apply pw_below_drewN | apply below_drew1 | refine below_set ?_ GE122.out | refine below_set ?_ GE123.out) | exact HB.out)) hb); have n3_ := Aside0.mk (hbox); have n4_ := Aside0.mk ((by rw [hg]; exact (below_size (by repeat (first | (with_reducible first | exact HB.out | apply below_alloc | apply pw_below_drewN | apply below_drew1 | refine below_set ?_ GE122.out | refine below_set ?_ GE123.out) | exact HB.out))) : w.heap.size ≤ gb125)); have n5_ := Aside0.mk ((by rw [hg]; exact (below_size (by repeat (first | (with_reducible first | exact HB.out | apply below_alloc | apply pw_below_drewN | apply below_drew1 | refine below_set ?_ GE122.out | refine below_set ?_ GE123.out) | exact HB.out))) : w.heap.size ≤ gb125)); have n6_ := Aside0.mk ((by rw [hg]; exact Nat.ne_of_lt (blk_lt (g := gb122) (o := .cells #[.slice A0_0 l0_0.length c0_0, .slice A0_1 l0_1.length c0_1] 25 (0, 0)) (by (with_reducible repeat (first | refine blk_drewN ?_ _ | refine blk_drew ?_ | refine blk_alloc ?_ _)); exact BK122.out)) : gb122 ≠ gb125)); have n7_ := Aside0.mk ((by rw [hg]; exact Nat.ne_of_gt (blk_lt (g := gb122) (o := .cells #[.slice A0_0 l0_0.length c0_0, .slice A0_1 l0_1.length c0_1] 25 (0, 0)) (by (with_reducible repeat (first | refine blk_drewN ?_ _ | refine blk_drew ?_ | refine blk_alloc ?_ _)); exact BK122.out)) : gb125 ≠ gb122)); have n8_ := Aside0.mk ((by rw [hg]; exact Nat.ne_of_lt (blk_lt (g := gb123) (o := .cells #[.slice A1_0 l1_0.length c1_0, .slice (some ad124) l1_1.length c1_1] 28 (0, 0)) (by (with_reducible repeat (first | refine blk_drewN ?_ _ | refine blk_drew ?_ | refine blk_alloc ?_ _)); exact BK123.out)) : gb123 ≠ gb125)); have n9_ := Aside0.mk ((by rw [hg]; exact Nat.ne_of_gt (blk_lt (g := gb123) (o := .cells #[.slice A1_0 l1_0.length c1_0, .slice (some ad124) l1_1.length c1_1] 28 (0, 0)) (by (with_reducible repeat (first | refine blk_drewN ?_ _ | refine blk_drew ?_ | refine blk_alloc ?_ _)); exact BK123.out)) : gb125 ≠ gb123)); clear BK122; clear BK123; clear HB; have BK122 := n0_; have BK123 := n1_; have HB := n2_; have BK125 := n3_; have GW125 := n4_; have GE125 := n5_; have NB122_125 := n6_; have NB125_122 := n7_; have NB123_125 := n8_; have NB125_123 := n9_; clear n0_ n1_ n2_ n3_ n4_ n5_ n6_ n7_ n8_ n9_; clear hb hbox hg; have hnb20 := NB125_122.out; have hnc20 := NB122_125.out; have hnb21 := NB125_123.out; have hnc21 := NB123_125.out; have hcz22_0 : w19.cell? ⟨gb125, 0, none⟩ = some (.int .i64 0) := (blk_cell BK125.out 0).trans rfl; have hcz22_1 : w19.cell? ⟨gb125, 1, none⟩ = some (.slice none 0 0) := (blk_cell BK125.out 1).trans rfl; have hcz22_2 : w19.cell? ⟨gb125, 2, none⟩ = some (.bool false) := (blk_cell BK125.out 2).trans rfl; have hcz22_3 : w19.cell? ⟨gb125, 3, none⟩ = some (.slice none 0 0) := (blk_cell BK125.out 3).trans rfl; have hfz22_0 := blk_frozen BK125.out 0; have hfz22_1 := blk_frozen BK125.out 1; have hfz22_2 := blk_frozen BK125.out 2; have hfz22_3 := blk_frozen BK125.out 3))
 repeat (go_quiet (first | ((with_reducible refine gate_dst (N := 6) rfl ?_); (try (refine gate_guard (by rfl) ?_; dsimp only)); refine box_event ?hg (N := 6) ?hd (cs := #[.int .i64 0, .slice none 0 0, .bool false, .slice none 0 0]) (t := 45) ?hr ?_; (case hd => rfl); (case hg => rfl); (case hr => first | (go_simp; done) | (go_simp; rfl)); intro gb125 hg w19 hbox hb; have n0_ := Aside0.mk (blk_below (g := gb122) (o := .cells #[.slice A0_0 l0_0.length c0_0, .slice A0_1 l0_1.length c0_1] 25 (0, 0)) (by (with_reducible repeat (first | refine blk_drewN ?_ _ | refine blk_drew ?_ | refine blk_alloc ?_ _)); exact BK122.out) hb); have n1_ := Aside0.mk (blk_below (g := gb123) (o := .cells #[.slice A1_0 l1_0.length c1_0, .slice (some ad124) l1_1.length c1_1] 28 (0, 0)) (by (with_reducible repeat (first | refine blk_drewN ?_ _ | refine blk_drew ?_ | refine blk_alloc ?_ _)); exact BK123.out) hb); have n2_ := Aside0.mk (below_step (by repeat (first | (with_reducible first | exact HB.out | apply below_alloc | apply pw_below_drewN | apply below_drew1 | refine below_set ?_ GE122.out | refine below_set ?_ GE123.out) | exact HB.out)) hb); have n3_ := Aside0.mk (hbox); have n4_ := Aside0.mk ((by rw [hg]; exact (below_size (by repeat (first | (with_reducible first | exact HB.out | apply below_alloc | apply pw_below_drewN | apply below_drew1 | refine below_set ?_ GE122.out | refine below_set ?_ GE123.out) | exact HB.out))) : w.heap.size ≤ gb125)); have n5_ := Aside0.mk ((by rw [hg]; exact (below_size (by repeat (first | (with_reducible first | exact HB.out | apply below_alloc | apply pw_below_drewN | apply below_drew1 | refine below_set ?_ GE122.out | refine below_set ?_ GE123.out) | exact HB.out))) : w.heap.size ≤ gb125)); have n6_ := Aside0.mk ((by rw [hg]; exact Nat.ne_of_lt (blk_lt (g := gb122) (o := .cells #[.slice A0_0 l0_0.length c0_0, .slice A0_1 l0_1.length c0_1] 25 (0, 0)) (by (with_reducible repeat (first | refine blk_drewN ?_ _ | refine blk_drew ?_ | refine blk_alloc ?_ _)); exact BK122.out)) : gb122 ≠ gb125)); have n7_ := Aside0.mk ((by rw [hg]; exact Nat.ne_of_gt (blk_lt (g := gb122) (o := .cells #[.slice A0_0 l0_0.length c0_0, .slice A0_1 l0_1.length c0_1] 25 (0, 0)) (by (with_reducible repeat (first | refine blk_drewN ?_ _ | refine blk_drew ?_ | refine blk_alloc ?_ _)); exact BK122.out)) : gb125 ≠ gb122)); have n8_ := Aside0.mk ((by rw [hg]; exact Nat.ne_of_lt (blk_lt (g := gb123) (o := .cells #[.slice A1_0 l1_0.length c1_0, .slice (some ad124) l1_1.length c1_1] 28 (0, 0)) (by (with_reducible repeat (first | refine blk_drewN ?_ _ | refine blk_drew ?_ | refine blk_alloc ?_ _)); exact BK123.out)) : gb123 ≠ gb125)); have n9_ := Aside0.mk ((by rw [hg]; exact Nat.ne_of_gt (blk_lt (g := gb123) (o := .cells #[.slice A1_0 l1_0.length c1_0, .slice (some ad124) l1_1.length c1_1] 28 (0, 0)) (by (with_reducible repeat (first | refine blk_drewN ?_ _ | refine blk_drew ?_ | refine blk_alloc ?_ _)); exact BK123.out)) : gb125 ≠ gb123)); clear BK122; clear BK123; clear HB; have BK122 := n0_; have BK123 := n1_; have HB := n2_; have BK125 := n3_; have GW125 := n4_; have GE125 := n5_; have NB122_125 := n6_; have NB125_122 := n7_; have NB123_125 := n8_; have NB125_123 := n9_; clear n0_ n1_ n2_ n3_ n4_ n5_ n6_ n7_ n8_ n9_; clear hb hbox hg; have hnb20 := NB125_122.out; have hnc20 := NB122_125.out; have hnb21 := NB125_123.out; have hnc21 := NB123_125.out; have hcz22_0 : w19.cell? ⟨gb125, 0, none⟩ = some (.int .i64 0) := (blk_cell BK125.out 0).trans rfl; have hcz22_1 : w19.cell? ⟨gb125, 1, none⟩ = some (.slice none 0 0) := (blk_cell BK125.out 1).trans rfl; have hcz22_2 : w19.cell? ⟨gb125, 2, none⟩ = some (.bool false) := (blk_cell BK125.out 2).trans rfl; have hcz22_3 : w19.cell? ⟨gb125, 3, none⟩ = some (.slice none 0 0) := (blk_cell BK125.out 3).trans rfl; have hfz22_0 := blk_frozen BK125.out 0; have hfz22_1 := blk_frozen BK125.out 1; have hfz22_2 := blk_frozen BK125.out 2; have hfz22_3 := blk_frozen BK125.out 3)); go_upto_region 7 with (first | ((with_reducible refine gate_dst (N := 6) rfl ?_); (try (refine gate_guard (by rfl) ?_; dsimp only)); refine box_event ?hg (N := 6) ?hd (cs := #[.int .i64 0, .slice none 0 0, .bool false, .slice none 0 0]) (t := 45) ?hr ?_; (case hd => rfl); (case hg => rfl); (case hr => first | (go_simp; done) | (go_simp; rfl)); intro gb125 hg w19 hbox hb; have n0_ := Aside0.mk (blk_below (g := gb122) (o := .cells #[.slice A0_0 l0_0.length c0_0, .slice A0_1 l0_1.length c0_1] 25 (0, 0)) (by (with_reducible repeat (first | refine blk_drewN ?_ _ | refine blk_drew ?_ | refine blk_alloc ?_ _)); exact BK122.out) hb); have n1_ := Aside0.mk (blk_below (g := gb123) (o := .cells #[.slice A1_0 l1_0.length c1_0, .slice (some ad124) l1_1.length c1_1] 28 (0, 0)) (by (with_reducible repeat (first | refine blk_drewN ?_ _ | refine blk_drew ?_ | refine blk_alloc ?_ _)); exact BK123.out) hb); have n2_ := Aside0.mk (below_step (by repeat (first | (with_reducible first | exact HB.out | apply below_alloc | apply pw_below_drewN | apply below_drew1 | refine below_set ?_ GE122.out | refine below_set ?_ GE123.out) | exact HB.out)) hb); have n3_ := Aside0.mk (hbox); have n4_ := Aside0.mk ((by rw [hg]; exact (below_size (by repeat (first | (with_reducible first | exact HB.out | apply below_alloc | apply pw_below_drewN | apply below_drew1 | refine below_set ?_ GE122.out | refine below_set ?_ GE123.out) | exact HB.out))) : w.heap.size ≤ gb125)); have n5_ := Aside0.mk ((by rw [hg]; exact (below_size (by repeat (first | (with_reducible first | exact HB.out | apply below_alloc | apply pw_below_drewN | apply below_drew1 | refine below_set ?_ GE122.out | refine below_set ?_ GE123.out) | exact HB.out))) : w.heap.size ≤ gb125)); have n6_ := Aside0.mk ((by rw [hg]; exact Nat.ne_of_lt (blk_lt (g := gb122) (o := .cells #[.slice A0_0 l0_0.length c0_0, .slice A0_1 l0_1.length c0_1] 25 (0, 0)) (by (with_reducible repeat (first | refine blk_drewN ?_ _ | refine blk_drew ?_ | refine blk_alloc ?_ _)); exact BK122.out)) : gb122 ≠ gb125)); have n7_ := Aside0.mk ((by rw [hg]; exact Nat.ne_of_gt (blk_lt (g := gb122) (o := .cells #[.slice A0_0 l0_0.length c0_0, .slice A0_1 l0_1.length c0_1] 25 (0, 0)) (by (with_reducible repeat (first | refine blk_drewN ?_ _ | refine blk_drew ?_ | refine blk_alloc ?_ _)); exact BK122.out)) : gb125 ≠ gb122)); have n8_ := Aside0.mk ((by rw [hg]; exact Nat.ne_of_lt (blk_lt (g := gb123) (o := .cells #[.slice A1_0 l1_0.length c1_0, .slice (some ad124) l1_1.length c1_1] 28 (0, 0)) (by (with_reducible repeat (first | refine blk_drewN ?_ _ | refine blk_drew ?_ | refine blk_alloc ?_ _)); exact BK123.out)) : gb123 ≠ gb125)); have n9_ := Aside0.mk ((by rw [hg]; exact Nat.ne_of_gt (blk_lt (g := gb123) (o := .cells #[.slice A1_0 l1_0.length c1_0, .slice (some ad124) l1_1.length c1_1] 28 (0, 0)) (by (with_reducible repeat (first | refine blk_drewN ?_ _ | refine blk_drew ?_ | refine blk_alloc ?_ _)); exact BK123.out)) : gb125 ≠ gb123)); clear BK122; clear BK123; clear HB; have BK122 := n0_; have BK123 := n1_; have HB := n2_; have BK125 := n3_; have GW125 := n4_; have GE125 := n5_; have NB122_125 := n6_; have NB125_122 := n7_; have NB123_125 := n8_; have NB125_123 := n9_; clear n0_ n1_ n2_ n3_ n4_ n5_ n6_ n7_ n8_ n9_; clear hb hbox hg; have hnb20 := NB125_122.out; have hnc20 := NB122_125.out; have hnb21 := NB125_123.out; have hnc21 := NB123_125.out; have hcz22_0 : w19.cell? ⟨gb125, 0, none⟩ = some (.int .i64 0) := (blk_cell BK125.out 0).trans rfl; have hcz22_1 : w19.cell? ⟨gb125, 1, none⟩ = some (.slice none 0 0) := (blk_cell BK125.out 1).trans rfl; have hcz22_2 : w19.cell? ⟨gb125, 2, none⟩ = some (.bool false) := (blk_cell BK125.out 2).trans rfl; have hcz22_3 : w19.cell? ⟨gb125, 3, none⟩ = some (.slice none 0 0) := (blk_cell BK125.out 3).trans rfl; have hfz22_0 := blk_frozen BK125.out 0; have hfz22_1 := blk_frozen BK125.out 1; have hfz22_2 := blk_frozen BK125.out 2; have hfz22_3 := blk_frozen BK125.out 3)))
 (try simp only [Act.put, List.setIfInBounds_toArray, List.set_cons_zero, List.set_cons_succ])
 go_cut [55] (fun v55 wc => ∃ (kq : Nat) (x55_15 : Bool), v55 = .bool x55_15 ∧ Aside0 (fencepostref10_Right.j2 kq x5_2 x55_15 l0_0 l0_1 l1_0 l1_1 ((rd_T45 l1_1 x5_2).f0) ((rd_T45 l1_1 x5_2).f1) ((rd_T45 l1_1 x5_2).f2) ((rd_T45 l1_1 x5_2).f3) = some r) ∧ Aside0 (kq ≤ k2) ∧ Aside0 (wc.heap[gb122]? = some (.cells #[(.slice A0_0 l0_0.length c0_0), (.slice A0_1 l0_1.length c0_1)] 25 (0, 0))) ∧ Aside0 (wc.heap[gb123]? = some (.cells #[(.slice A1_0 l1_0.length c1_0), (.slice (some ad124) l1_1.length c1_1)] 28 (0, 0))) ∧ Aside0 (wc.heap[gb125]? = some (.cells #[.int .i64 ((rd_T45 l1_1 x5_2).f0), (.slice A124_1 ((rd_T45 l1_1 x5_2).f1).length c124_1), .bool ((rd_T45 l1_1 x5_2).f2), (.slice A124_3 ((rd_T45 l1_1 x5_2).f3).length c124_3)] 45 (0, 0))) ∧ Aside0 (Below w.heap.size w wc))
 case first =>
  have H := HC16.out
  clear HC16
  by_cases c23 : ((rd_T45 l1_1 x5_2).f0) < 0
  ·rw [if_pos c23] at H
   have c23b0 : decide (((rd_T45 l1_1 x5_2).f0) < 0) = true := decide_eq_true c23
   clear c23
   (first | rw [c23b0] | (simp only [i64_w, i32_w]; rw [c23b0]) | skip)
   have H' := Aside0.mk H
   clear H
   have hnb24 := NB125_122.out
   have hnc24 := NB122_125.out
   have hnb25 := NB125_123.out
   have hnc25 := NB123_125.out
   have hcz26_0 : w19.cell? ⟨gb125, 0, none⟩ = some (.int .i64 0) := (blk_cell BK125.out 0).trans rfl
   have hcz26_1 : w19.cell? ⟨gb125, 1, none⟩ = some (.slice none 0 0) := (blk_cell BK125.out 1).trans rfl
   have hcz26_2 : w19.cell? ⟨gb125, 2, none⟩ = some (.bool false) := (blk_cell BK125.out 2).trans rfl
   have hcz26_3 : w19.cell? ⟨gb125, 3, none⟩ = some (.slice none 0 0) := (blk_cell BK125.out 3).trans rfl
   have hfz26_0 := blk_frozen BK125.out 0
   have hfz26_1 := blk_frozen BK125.out 1
   have hfz26_2 := blk_frozen BK125.out 2
   have hfz26_3 := blk_frozen BK125.out 3
   go_wp2
   repeat (go_quiet (fail); try go_wp2)
   go_meet
   case rel => exact ⟨_, (true), (by first | rfl | (simp; done) | (simp [*]; done)), H', ⟨by have := HJ2.out; have := HK2.out; first | omega | exact Nat.le_refl _⟩, ⟨by (with_reducible repeat (first | refine blk_drewN ?_ _ | refine blk_drew ?_ | refine blk_alloc ?_ _)); refine blk_far ?_ NB122_125.out _; (with_reducible repeat (first | refine blk_drewN ?_ _ | refine blk_drew ?_ | refine blk_alloc ?_ _)); refine blk_far ?_ NB122_125.out _; (with_reducible repeat (first | refine blk_drewN ?_ _ | refine blk_drew ?_ | refine blk_alloc ?_ _)); refine blk_far ?_ NB122_125.out _; (with_reducible repeat (first | refine blk_drewN ?_ _ | refine blk_drew ?_ | refine blk_alloc ?_ _)); refine blk_far ?_ NB122_125.out _; (with_reducible repeat (first | refine blk_drewN ?_ _ | refine blk_drew ?_ | refine blk_alloc ?_ _)); exact BK122.out⟩, ⟨by (with_reducible repeat (first | refine blk_drewN ?_ _ | refine blk_drew ?_ | refine blk_alloc ?_ _)); refine blk_far ?_ NB123_125.out _; (with_reducible repeat (first | refine blk_drewN ?_ _ | refine blk_drew ?_ | refine blk_alloc ?_ _)); refine blk_far ?_ NB123_125.out _; (with_reducible repeat (first | refine blk_drewN ?_ _ | refine blk_drew ?_ | refine blk_alloc ?_ _)); refine blk_far ?_ NB123_125.out _; (with_reducible repeat (first | refine blk_drewN ?_ _ | refine blk_drew ?_ | refine blk_alloc ?_ _)); refine blk_far ?_ NB123_125.out _; (with_reducible repeat (first | refine blk_drewN ?_ _ | refine blk_drew ?_ | refine blk_alloc ?_ _)); exact BK123.out⟩, ⟨by (with_reducible repeat (first | refine blk_drewN ?_ _ | refine blk_drew ?_ | refine blk_alloc ?_ _)); refine blk_put (cs := #[.int .i64 ((rd_T45 l1_1 x5_2).f0), .slice A124_1 ((rd_T45 l1_1 x5_2).f1).length c124_1, .bool ((rd_T45 l1_1 x5_2).f2), .slice none 0 0]) ?_ 3 _ rfl; (with_reducible repeat (first | refine blk_drewN ?_ _ | refine blk_drew ?_ | refine blk_alloc ?_ _)); refine blk_put (cs := #[.int .i64 ((rd_T45 l1_1 x5_2).f0), .slice A124_1 ((rd_T45 l1_1 x5_2).f1).length c124_1, .bool false, .slice none 0 0]) ?_ 2 _ rfl; (with_reducible repeat (first | refine blk_drewN ?_ _ | refine blk_drew ?_ | refine blk_alloc ?_ _)); refine blk_put (cs := #[.int .i64 ((rd_T45 l1_1 x5_2).f0), .slice none 0 0, .bool false, .slice none 0 0]) ?_ 1 _ rfl; (with_reducible repeat (first | refine blk_drewN ?_ _ | refine blk_drew ?_ | refine blk_alloc ?_ _)); refine blk_put (cs := #[.int .i64 0, .slice none 0 0, .bool false, .slice none 0 0]) ?_ 0 _ rfl; (with_reducible repeat (first | refine blk_drewN ?_ _ | refine blk_drew ?_ | refine blk_alloc ?_ _)); exact BK125.out⟩, ⟨by repeat (first | (with_reducible first | exact HB.out | apply below_alloc | apply pw_below_drewN | apply below_drew1 | refine below_set ?_ GE122.out | refine below_set ?_ GE123.out | refine below_set ?_ GE125.out) | exact HB.out)⟩⟩
  rw [if_neg c23] at H
  have c23b0 : decide (((rd_T45 l1_1 x5_2).f0) < 0) = false := decide_eq_false c23
  clear c23
  (first | rw [c23b0] | (simp only [i64_w, i32_w]; rw [c23b0]) | skip)
  by_cases c27 : x5_2 < (l0_1.length : Int)
  rotate_left
  ·rw [if_neg c27] at H
   exact absurd H (by simp)
  rw [if_pos c27] at H
  have c27b0 : decide (x5_2 < (l0_1.length : Int)) = true := decide_eq_true c27
  clear c27
  by_cases c28 : ((rd_T45 l1_1 x5_2).f0) > ((rd_L3 l0_1 x5_2).length : Int)
  ·rw [if_pos c28] at H
   have c28b0 : decide (((rd_L3 l0_1 x5_2).length : Int) < ((rd_T45 l1_1 x5_2).f0)) = true := decide_eq_true c28
   clear c28
   have H' := Aside0.mk H
   clear H
   have hnb29 := NB125_122.out
   have hnc29 := NB122_125.out
   have hnb30 := NB125_123.out
   have hnc30 := NB123_125.out
   have hcz31_0 : w19.cell? ⟨gb125, 0, none⟩ = some (.int .i64 0) := (blk_cell BK125.out 0).trans rfl
   have hcz31_1 : w19.cell? ⟨gb125, 1, none⟩ = some (.slice none 0 0) := (blk_cell BK125.out 1).trans rfl
   have hcz31_2 : w19.cell? ⟨gb125, 2, none⟩ = some (.bool false) := (blk_cell BK125.out 2).trans rfl
   have hcz31_3 : w19.cell? ⟨gb125, 3, none⟩ = some (.slice none 0 0) := (blk_cell BK125.out 3).trans rfl
   have hfz31_0 := blk_frozen BK125.out 0
   have hfz31_1 := blk_frozen BK125.out 1
   have hfz31_2 := blk_frozen BK125.out 2
   have hfz31_3 := blk_frozen BK125.out 3
   have hnb32 := NB122_123.out
   have hnc32 := NB123_122.out
   have hcz33_0 : w19.cell? ⟨gb122, 0, none⟩ = some (.slice A0_0 l0_0.length c0_0) := (blk_cell BK122.out 0).trans rfl
   have hcz33_1 : w19.cell? ⟨gb122, 1, none⟩ = some (.slice A0_1 l0_1.length c0_1) := (blk_cell BK122.out 1).trans rfl
   have hfz33_0 := blk_frozen BK122.out 0
   have hfz33_1 := blk_frozen BK122.out 1
   have p126 : 0 ≤ (x5_2 : Int) := of_decide_eq_true (by first | (with_reducible assumption) | assumption)
   have q126 : x5_2 < (l0_1.length : Int) := of_decide_eq_true (by first | (with_reducible assumption) | assumption)
   obtain ⟨ad126, A126_0, c126_0, e126, hx126_0, hl126_0, hi126_0⟩ := at_L3 HR0_1.out x5_2 p126 q126
   cases e126
   have hn126_0 : ad126.block ≠ gb125 := Nat.ne_of_lt (bk_ hx126_0 GW125.out)
   have hn126_1 : ad126.block ≠ gb125 := Nat.ne_of_lt (bk_ hx126_0 GW125.out)
   have hn126_2 : ad126.block ≠ gb125 := Nat.ne_of_lt (bk_ hx126_0 GW125.out)
   have hn126_3 : ad126.block ≠ gb125 := Nat.ne_of_lt (bk_ hx126_0 GW125.out)
   replace hx126_0 := (HB.out.cell (World.block_lt_of_cell? w _ hx126_0)).trans hx126_0
   have HR126_0 := Aside0.mk hi126_0
   have HC126_0 := Aside0.mk hl126_0
   clear hi126_0 hl126_0
   replace hx126_0 := (cell_far (p := ⟨gb125, 0, none⟩) (by first | (rw [add_block]; exact hn126_0) | (show (Addr.add _ _).block ≠ _; rw [add_block]; exact hn126_0) | exact hn126_0) (.int .i64 ((rd_T45 l1_1 x5_2).f0))).trans hx126_0
   replace hx126_0 := (cell_far (p := ⟨gb125, 1, none⟩) (by first | (rw [add_block]; exact hn126_1) | (show (Addr.add _ _).block ≠ _; rw [add_block]; exact hn126_1) | exact hn126_1) (.slice A124_1 ((rd_T45 l1_1 x5_2).f1).length c124_1)).trans hx126_0
   replace hx126_0 := (cell_far (p := ⟨gb125, 2, none⟩) (by first | (rw [add_block]; exact hn126_2) | (show (Addr.add _ _).block ≠ _; rw [add_block]; exact hn126_2) | exact hn126_2) (.bool ((rd_T45 l1_1 x5_2).f2))).trans hx126_0
   replace hx126_0 := (cell_far (p := ⟨gb125, 3, none⟩) (by first | (rw [add_block]; exact hn126_3) | (show (Addr.add _ _).block ≠ _; rw [add_block]; exact hn126_3) | exact hn126_3) (.slice A124_3 ((rd_T45 l1_1 x5_2).f3).length c124_3)).trans hx126_0
   (try have hy126_0 := fun (n_ : Nat) => (show ((((((w19.drewN n_).setCell ⟨gb125, 0, none⟩ (.int .i64 ((rd_T45 l1_1 x5_2).f0))).setCell ⟨gb125, 1, none⟩ (.slice A124_1 ((rd_T45 l1_1 x5_2).f1).length c124_1)).setCell ⟨gb125, 2, none⟩ (.bool ((rd_T45 l1_1 x5_2).f2))).setCell ⟨gb125, 3, none⟩ (.slice A124_3 ((rd_T45 l1_1 x5_2).f3).length c124_3))).cell? _ = some _ from hx126_0))
   clear hn126_0
   clear hn126_1
   clear hn126_2
   clear hn126_3
   replace p126 := eq_true p126
   replace q126 := eq_true q126
   go_wp2
   repeat (go_quiet (fail); try go_wp2)
   go_meet
   case rel => exact ⟨_, (true), (by first | rfl | (simp; done) | (simp [*]; done)), H', ⟨by have := HJ2.out; have := HK2.out; first | omega | exact Nat.le_refl _⟩, ⟨by (with_reducible repeat (first | refine blk_drewN ?_ _ | refine blk_drew ?_ | refine blk_alloc ?_ _)); refine blk_far ?_ NB122_125.out _; (with_reducible repeat (first | refine blk_drewN ?_ _ | refine blk_drew ?_ | refine blk_alloc ?_ _)); refine blk_far ?_ NB122_125.out _; (with_reducible repeat (first | refine blk_drewN ?_ _ | refine blk_drew ?_ | refine blk_alloc ?_ _)); refine blk_far ?_ NB122_125.out _; (with_reducible repeat (first | refine blk_drewN ?_ _ | refine blk_drew ?_ | refine blk_alloc ?_ _)); refine blk_far ?_ NB122_125.out _; (with_reducible repeat (first | refine blk_drewN ?_ _ | refine blk_drew ?_ | refine blk_alloc ?_ _)); exact BK122.out⟩, ⟨by (with_reducible repeat (first | refine blk_drewN ?_ _ | refine blk_drew ?_ | refine blk_alloc ?_ _)); refine blk_far ?_ NB123_125.out _; (with_reducible repeat (first | refine blk_drewN ?_ _ | refine blk_drew ?_ | refine blk_alloc ?_ _)); refine blk_far ?_ NB123_125.out _; (with_reducible repeat (first | refine blk_drewN ?_ _ | refine blk_drew ?_ | refine blk_alloc ?_ _)); refine blk_far ?_ NB123_125.out _; (with_reducible repeat (first | refine blk_drewN ?_ _ | refine blk_drew ?_ | refine blk_alloc ?_ _)); refine blk_far ?_ NB123_125.out _; (with_reducible repeat (first | refine blk_drewN ?_ _ | refine blk_drew ?_ | refine blk_alloc ?_ _)); exact BK123.out⟩, ⟨by (with_reducible repeat (first | refine blk_drewN ?_ _ | refine blk_drew ?_ | refine blk_alloc ?_ _)); refine blk_put (cs := #[.int .i64 ((rd_T45 l1_1 x5_2).f0), .slice A124_1 ((rd_T45 l1_1 x5_2).f1).length c124_1, .bool ((rd_T45 l1_1 x5_2).f2), .slice none 0 0]) ?_ 3 _ rfl; (with_reducible repeat (first | refine blk_drewN ?_ _ | refine blk_drew ?_ | refine blk_alloc ?_ _)); refine blk_put (cs := #[.int .i64 ((rd_T45 l1_1 x5_2).f0), .slice A124_1 ((rd_T45 l1_1 x5_2).f1).length c124_1, .bool false, .slice none 0 0]) ?_ 2 _ rfl; (with_reducible repeat (first | refine blk_drewN ?_ _ | refine blk_drew ?_ | refine blk_alloc ?_ _)); refine blk_put (cs := #[.int .i64 ((rd_T45 l1_1 x5_2).f0), .slice none 0 0, .bool false, .slice none 0 0]) ?_ 1 _ rfl; (with_reducible repeat (first | refine blk_drewN ?_ _ | refine blk_drew ?_ | refine blk_alloc ?_ _)); refine blk_put (cs := #[.int .i64 0, .slice none 0 0, .bool false, .slice none 0 0]) ?_ 0 _ rfl; (with_reducible repeat (first | refine blk_drewN ?_ _ | refine blk_drew ?_ | refine blk_alloc ?_ _)); exact BK125.out⟩, ⟨by repeat (first | (with_reducible first | exact HB.out | apply below_alloc | apply pw_below_drewN | apply below_drew1 | refine below_set ?_ GE122.out | refine below_set ?_ GE123.out | refine below_set ?_ GE125.out) | exact HB.out)⟩⟩
  rw [if_neg c28] at H
  have c28b0 : decide (((rd_L3 l0_1 x5_2).length : Int) < ((rd_T45 l1_1 x5_2).f0)) = false := decide_eq_false c28
  clear c28
  have H' := Aside0.mk H
  clear H
  have hnb34 := NB125_122.out
  have hnc34 := NB122_125.out
  have hnb35 := NB125_123.out
  have hnc35 := NB123_125.out
  have hcz36_0 : w19.cell? ⟨gb125, 0, none⟩ = some (.int .i64 0) := (blk_cell BK125.out 0).trans rfl
  have hcz36_1 : w19.cell? ⟨gb125, 1, none⟩ = some (.slice none 0 0) := (blk_cell BK125.out 1).trans rfl
  have hcz36_2 : w19.cell? ⟨gb125, 2, none⟩ = some (.bool false) := (blk_cell BK125.out 2).trans rfl
  have hcz36_3 : w19.cell? ⟨gb125, 3, none⟩ = some (.slice none 0 0) := (blk_cell BK125.out 3).trans rfl
  have hfz36_0 := blk_frozen BK125.out 0
  have hfz36_1 := blk_frozen BK125.out 1
  have hfz36_2 := blk_frozen BK125.out 2
  have hfz36_3 := blk_frozen BK125.out 3
  have hnb37 := NB122_123.out
  have hnc37 := NB123_122.out
  have hcz38_0 : w19.cell? ⟨gb122, 0, none⟩ = some (.slice A0_0 l0_0.length c0_0) := (blk_cell BK122.out 0).trans rfl
  have hcz38_1 : w19.cell? ⟨gb122, 1, none⟩ = some (.slice A0_1 l0_1.length c0_1) := (blk_cell BK122.out 1).trans rfl
  have hfz38_0 := blk_frozen BK122.out 0
  have hfz38_1 := blk_frozen BK122.out 1
  have p126 : 0 ≤ (x5_2 : Int) := of_decide_eq_true (by first | (with_reducible assumption) | assumption)
  have q126 : x5_2 < (l0_1.length : Int) := of_decide_eq_true (by first | (with_reducible assumption) | assumption)
  obtain ⟨ad126, A126_0, c126_0, e126, hx126_0, hl126_0, hi126_0⟩ := at_L3 HR0_1.out x5_2 p126 q126
  cases e126
  have hn126_0 : ad126.block ≠ gb125 := Nat.ne_of_lt (bk_ hx126_0 GW125.out)
  have hn126_1 : ad126.block ≠ gb125 := Nat.ne_of_lt (bk_ hx126_0 GW125.out)
  have hn126_2 : ad126.block ≠ gb125 := Nat.ne_of_lt (bk_ hx126_0 GW125.out)
  have hn126_3 : ad126.block ≠ gb125 := Nat.ne_of_lt (bk_ hx126_0 GW125.out)
  replace hx126_0 := (HB.out.cell (World.block_lt_of_cell? w _ hx126_0)).trans hx126_0
  have HR126_0 := Aside0.mk hi126_0
  have HC126_0 := Aside0.mk hl126_0
  clear hi126_0 hl126_0
  replace hx126_0 := (cell_far (p := ⟨gb125, 0, none⟩) (by first | (rw [add_block]; exact hn126_0) | (show (Addr.add _ _).block ≠ _; rw [add_block]; exact hn126_0) | exact hn126_0) (.int .i64 ((rd_T45 l1_1 x5_2).f0))).trans hx126_0
  replace hx126_0 := (cell_far (p := ⟨gb125, 1, none⟩) (by first | (rw [add_block]; exact hn126_1) | (show (Addr.add _ _).block ≠ _; rw [add_block]; exact hn126_1) | exact hn126_1) (.slice A124_1 ((rd_T45 l1_1 x5_2).f1).length c124_1)).trans hx126_0
  replace hx126_0 := (cell_far (p := ⟨gb125, 2, none⟩) (by first | (rw [add_block]; exact hn126_2) | (show (Addr.add _ _).block ≠ _; rw [add_block]; exact hn126_2) | exact hn126_2) (.bool ((rd_T45 l1_1 x5_2).f2))).trans hx126_0
  replace hx126_0 := (cell_far (p := ⟨gb125, 3, none⟩) (by first | (rw [add_block]; exact hn126_3) | (show (Addr.add _ _).block ≠ _; rw [add_block]; exact hn126_3) | exact hn126_3) (.slice A124_3 ((rd_T45 l1_1 x5_2).f3).length c124_3)).trans hx126_0
  (try have hy126_0 := fun (n_ : Nat) => (show ((((((w19.drewN n_).setCell ⟨gb125, 0, none⟩ (.int .i64 ((rd_T45 l1_1 x5_2).f0))).setCell ⟨gb125, 1, none⟩ (.slice A124_1 ((rd_T45 l1_1 x5_2).f1).length c124_1)).setCell ⟨gb125, 2, none⟩ (.bool ((rd_T45 l1_1 x5_2).f2))).setCell ⟨gb125, 3, none⟩ (.slice A124_3 ((rd_T45 l1_1 x5_2).f3).length c124_3))).cell? _ = some _ from hx126_0))
  clear hn126_0
  clear hn126_1
  clear hn126_2
  clear hn126_3
  replace p126 := eq_true p126
  replace q126 := eq_true q126
  go_wp2
  repeat (go_quiet (fail); try go_wp2)
  go_meet
  case rel => exact ⟨_, (((((rd_T45 l1_1 x5_2).f1).length : Int) != 4)), (by first | rfl | (simp; done) | (simp [*]; done)), H', ⟨by have := HJ2.out; have := HK2.out; first | omega | exact Nat.le_refl _⟩, ⟨by (with_reducible repeat (first | refine blk_drewN ?_ _ | refine blk_drew ?_ | refine blk_alloc ?_ _)); refine blk_far ?_ NB122_125.out _; (with_reducible repeat (first | refine blk_drewN ?_ _ | refine blk_drew ?_ | refine blk_alloc ?_ _)); refine blk_far ?_ NB122_125.out _; (with_reducible repeat (first | refine blk_drewN ?_ _ | refine blk_drew ?_ | refine blk_alloc ?_ _)); refine blk_far ?_ NB122_125.out _; (with_reducible repeat (first | refine blk_drewN ?_ _ | refine blk_drew ?_ | refine blk_alloc ?_ _)); refine blk_far ?_ NB122_125.out _; (with_reducible repeat (first | refine blk_drewN ?_ _ | refine blk_drew ?_ | refine blk_alloc ?_ _)); exact BK122.out⟩, ⟨by (with_reducible repeat (first | refine blk_drewN ?_ _ | refine blk_drew ?_ | refine blk_alloc ?_ _)); refine blk_far ?_ NB123_125.out _; (with_reducible repeat (first | refine blk_drewN ?_ _ | refine blk_drew ?_ | refine blk_alloc ?_ _)); refine blk_far ?_ NB123_125.out _; (with_reducible repeat (first | refine blk_drewN ?_ _ | refine blk_drew ?_ | refine blk_alloc ?_ _)); refine blk_far ?_ NB123_125.out _; (with_reducible repeat (first | refine blk_drewN ?_ _ | refine blk_drew ?_ | refine blk_alloc ?_ _)); refine blk_far ?_ NB123_125.out _; (with_reducible repeat (first | refine blk_drewN ?_ _ | refine blk_drew ?_ | refine blk_alloc ?_ _)); exact BK123.out⟩, ⟨by (with_reducible repeat (first | refine blk_drewN ?_ _ | refine blk_drew ?_ | refine blk_alloc ?_ _)); refine blk_put (cs := #[.int .i64 ((rd_T45 l1_1 x5_2).f0), .slice A124_1 ((rd_T45 l1_1 x5_2).f1).length c124_1, .bool ((rd_T45 l1_1 x5_2).f2), .slice none 0 0]) ?_ 3 _ rfl; (with_reducible repeat (first | refine blk_drewN ?_ _ | refine blk_drew ?_ | refine blk_alloc ?_ _)); refine blk_put (cs := #[.int .i64 ((rd_T45 l1_1 x5_2).f0), .slice A124_1 ((rd_T45 l1_1 x5_2).f1).length c124_1, .bool false, .slice none 0 0]) ?_ 2 _ rfl; (with_reducible repeat (first | refine blk_drewN ?_ _ | refine blk_drew ?_ | refine blk_alloc ?_ _)); refine blk_put (cs := #[.int .i64 ((rd_T45 l1_1 x5_2).f0), .slice none 0 0, .bool false, .slice none 0 0]) ?_ 1 _ rfl; (with_reducible repeat (first | refine blk_drewN ?_ _ | refine blk_drew ?_ | refine blk_alloc ?_ _)); refine blk_put (cs := #[.int .i64 0, .slice none 0 0, .bool false, .slice none 0 0]) ?_ 0 _ rfl; (with_reducible repeat (first | refine blk_drewN ?_ _ | refine blk_drew ?_ | refine blk_alloc ?_ _)); exact BK125.out⟩, ⟨by repeat (first | (with_reducible first | exact HB.out | apply below_alloc | apply pw_below_drewN | apply below_drew1 | refine below_set ?_ GE122.out | refine below_set ?_ GE123.out | refine below_set ?_ GE125.out) | exact HB.out)⟩⟩
 clear HC16
 try clear c13
 try clear c14
 try clear c14b0
 try clear c15
 try clear c15b0
 try clear hcz18_0
 try clear hcz18_1
 try clear hcz22_0
 try clear hcz22_1
 try clear hcz22_2
 try clear hcz22_3
 try clear hfz18_0
 try clear hfz18_1
 try clear hfz22_0
 try clear hfz22_1
 try clear hfz22_2
 try clear hfz22_3
 try clear hx124_0
 try clear hx124_1
 try clear hx124_2
 try clear hx124_3
 try clear p124
 try clear q124
 obtain ⟨kq, x55_15, rfl, HA, HJ15, BK122, BK123, BK125, HB⟩ := hcut
 cases kq with
 | zero => exact absurd HA.out (by simp [fencepostref10_Right.j2])
 | succ kj15 => ?_
 have H := HA.out
 clear HA
 simp only [fencepostref10_Right.j2] at H
 by_cases c39 : x55_15 = true
 ·subst c39
  have H1 : (some false) = some r := by rw [if_pos rfl] at H; exact H
  clear H
  have H := H1
  clear H1
  obtain rfl := Option.some.inj H
  go_wp2
  repeat (go_quiet (fail); try go_wp2)
  go_ret
  exact ⟨by first | rfl | (simp [errW_none, errW_some] <;> rfl) | (simp [*, errW_none, errW_some] <;> rfl), by repeat (first | (with_reducible first | exact HB.out | apply below_alloc | apply pw_below_drewN | apply below_drew1 | refine below_set ?_ GE122.out | refine below_set ?_ GE123.out | refine below_set ?_ GE125.out) | exact HB.out)⟩
 replace c39 := Bool.eq_false_iff.mpr c39
 subst c39
 have H1 : (fencepostref10_Right.l1 kj15 x5_2 0 l0_0 l0_1 l1_0 l1_1 ((rd_T45 l1_1 x5_2).f0) ((rd_T45 l1_1 x5_2).f1) ((rd_T45 l1_1 x5_2).f2) ((rd_T45 l1_1 x5_2).f3)) = some r := by rw [if_neg (show ¬ (false = true) by decide)] at H; exact H
 clear H
 have H := H1
 clear H1
 have H' := Aside0.mk H
 clear H
 go_wp2
 repeat (go_quiet (fail); try go_wp2)
 go_loopg [7] kj15 (fun kq v7 w' => ∃ (x7_4 : Int), v7 = .int .i64 x7_4 ∧ Aside0 (fencepostref10_Right.l1 kq x5_2 x7_4 l0_0 l0_1 l1_0 l1_1 ((rd_T45 l1_1 x5_2).f0) ((rd_T45 l1_1 x5_2).f1) ((rd_T45 l1_1 x5_2).f2) ((rd_T45 l1_1 x5_2).f3) = some r) ∧ Aside0 (kq ≤ kj15) ∧ Aside0 (w'.heap[gb122]? = some (.cells #[(.slice A0_0 l0_0.length c0_0), (.slice A0_1 l0_1.length c0_1)] 25 (0, 0))) ∧ Aside0 (w'.heap[gb123]? = some (.cells #[(.slice A1_0 l1_0.length c1_0), (.slice (some ad124) l1_1.length c1_1)] 28 (0, 0))) ∧ Aside0 (w'.heap[gb125]? = some (.cells #[.int .i64 ((rd_T45 l1_1 x5_2).f0), (.slice A124_1 ((rd_T45 l1_1 x5_2).f1).length c124_1), .bool ((rd_T45 l1_1 x5_2).f2), (.slice A124_3 ((rd_T45 l1_1 x5_2).f3).length c124_3)] 45 (0, 0))) ∧ Aside0 (Below w.heap.size w w'))
 case atStart => exact ⟨(0), (by first | rfl | (simp; done) | (simp [*]; done)), H', ⟨Nat.le_refl _⟩, ⟨by (with_reducible repeat (first | refine blk_drewN ?_ _ | refine blk_drew ?_ | refine blk_alloc ?_ _)); exact BK122.out⟩, ⟨by (with_reducible repeat (first | refine blk_drewN ?_ _ | refine blk_drew ?_ | refine blk_alloc ?_ _)); exact BK123.out⟩, ⟨by (with_reducible repeat (first | refine blk_drewN ?_ _ | refine blk_drew ?_ | refine blk_alloc ?_ _)); exact BK125.out⟩, ⟨by repeat (first | (with_reducible first | exact HB.out | apply below_alloc | apply pw_below_drewN | apply below_drew1 | refine below_set ?_ GE122.out | refine below_set ?_ GE123.out | refine below_set ?_ GE125.out) | exact HB.out)⟩⟩
 clear H'
 try clear c13
 try clear c14
 try clear c14b0
 try clear c15
 try clear c15b0
 try clear c39
 try clear hcz18_0
 try clear hcz18_1
 try clear hcz22_0
 try clear hcz22_1
 try clear hcz22_2
 try clear hcz22_3
 try clear hfz18_0
 try clear hfz18_1
 try clear hfz22_0
 try clear hfz22_1
 try clear hfz22_2
 try clear hfz22_3
 try clear hx124_0
 try clear hx124_1
 try clear hx124_2
 try clear hx124_3
 try clear p124
 try clear q124
 obtain ⟨x7_4, rfl, HA, HK4, BK122, BK123, BK125, HB⟩ := hrel
 cases gk with
 | zero => exact absurd HA.out (by simp [fencepostref10_Right.l1])
 | succ k4 => ?_
 have H := HA.out
 clear HA
 simp only [fencepostref10_Right.l1] at H
 by_cases c40 : x7_4 < (((rd_T45 l1_1 x5_2).f3).length : Int)
 rotate_left
 ·rw [if_neg c40] at H
  have c40b0 : decide (x7_4 < (((rd_T45 l1_1 x5_2).f3).length : Int)) = false := decide_eq_false c40
  clear c40
  have H' := Aside0.mk H
  clear H
  have hnb57 := NB125_122.out
  have hnc57 := NB122_125.out
  have hnb58 := NB125_123.out
  have hnc58 := NB123_125.out
  have hcz59_0 : wr.cell? ⟨gb125, 0, none⟩ = some (.int .i64 ((rd_T45 l1_1 x5_2).f0)) := (blk_cell BK125.out 0).trans rfl
  have hcz59_1 : wr.cell? ⟨gb125, 1, none⟩ = some (.slice A124_1 ((rd_T45 l1_1 x5_2).f1).length c124_1) := (blk_cell BK125.out 1).trans rfl
  have hcz59_2 : wr.cell? ⟨gb125, 2, none⟩ = some (.bool ((rd_T45 l1_1 x5_2).f2)) := (blk_cell BK125.out 2).trans rfl
  have hcz59_3 : wr.cell? ⟨gb125, 3, none⟩ = some (.slice A124_3 ((rd_T45 l1_1 x5_2).f3).length c124_3) := (blk_cell BK125.out 3).trans rfl
  have hfz59_0 := blk_frozen BK125.out 0
  have hfz59_1 := blk_frozen BK125.out 1
  have hfz59_2 := blk_frozen BK125.out 2
  have hfz59_3 := blk_frozen BK125.out 3
  go_wp2
  repeat (go_quiet (fail); try go_wp2)
  go_roundg k4
  case measure => have := HJ2.out; have := HK2.out; have := HJ15.out; have := HK4.out; omega
  case rel => exact ⟨(wrap64 (x5_2 + 1)), (by first | rfl | (simp; done) | (simp [*]; done)), H', ⟨by have := HJ2.out; have := HK2.out; have := HJ15.out; have := HK4.out; omega⟩, ⟨by (with_reducible repeat (first | refine blk_drewN ?_ _ | refine blk_drew ?_ | refine blk_alloc ?_ _)); exact BK122.out⟩, ⟨by (with_reducible repeat (first | refine blk_drewN ?_ _ | refine blk_drew ?_ | refine blk_alloc ?_ _)); exact BK123.out⟩, ⟨by repeat (first | (with_reducible first | exact HB.out | apply below_alloc | apply pw_below_drewN | apply below_drew1 | refine below_set ?_ GE122.out | refine below_set ?_ GE123.out | refine below_set ?_ GE125.out) | exact HB.out)⟩⟩
 rw [if_pos c40] at H
 have c40b0 : decide (x7_4 < (((rd_T45 l1_1 x5_2).f3).length : Int)) = true := decide_eq_true c40
 clear c40
 by_cases c41 : 0 ≤ x7_4
 rotate_left
 ·rw [if_neg c41] at H
  exact absurd H (by simp)
 rw [if_pos c41] at H
 have c41b0 : decide (0 ≤ x7_4) = true := decide_eq_true c41
 clear c41
 by_cases c42 : ((rd_T53 ((rd_T45 l1_1 x5_2).f3) x7_4).f0) < 0
 ·rw [if_pos c42] at H
  have c42b0 : decide (((rd_T53 ((rd_T45 l1_1 x5_2).f3) x7_4).f0) < 0) = true := decide_eq_true c42
  clear c42
  obtain rfl := Option.some.inj H
  have hnb43 := NB125_122.out
  have hnc43 := NB122_125.out
  have hnb44 := NB125_123.out
  have hnc44 := NB123_125.out
  have hcz45_0 : wr.cell? ⟨gb125, 0, none⟩ = some (.int .i64 ((rd_T45 l1_1 x5_2).f0)) := (blk_cell BK125.out 0).trans rfl
  have hcz45_1 : wr.cell? ⟨gb125, 1, none⟩ = some (.slice A124_1 ((rd_T45 l1_1 x5_2).f1).length c124_1) := (blk_cell BK125.out 1).trans rfl
  have hcz45_2 : wr.cell? ⟨gb125, 2, none⟩ = some (.bool ((rd_T45 l1_1 x5_2).f2)) := (blk_cell BK125.out 2).trans rfl
  have hcz45_3 : wr.cell? ⟨gb125, 3, none⟩ = some (.slice A124_3 ((rd_T45 l1_1 x5_2).f3).length c124_3) := (blk_cell BK125.out 3).trans rfl
  have hfz45_0 := blk_frozen BK125.out 0
  have hfz45_1 := blk_frozen BK125.out 1
  have hfz45_2 := blk_frozen BK125.out 2
  have hfz45_3 := blk_frozen BK125.out 3
  have p127 : 0 ≤ (x7_4 : Int) := of_decide_eq_true (by first | (with_reducible assumption) | assumption)
  have q127 : x7_4 < (((rd_T45 l1_1 x5_2).f3).length : Int) := of_decide_eq_true (by first | (with_reducible assumption) | assumption)
  obtain ⟨ad127, e127, hx127_0, hx127_1⟩ := at_T53 HR124_3.out x7_4 p127 q127
  cases e127
  replace hx127_0 := (HB.out.cell (World.block_lt_of_cell? w _ hx127_0)).trans hx127_0
  replace hx127_1 := (HB.out.cell (World.block_lt_of_cell? w _ hx127_1)).trans hx127_1
  replace p127 := eq_true p127
  replace q127 := eq_true q127
  go_wp2
  repeat (go_quiet (fail); try go_wp2)
  go_ret
  exact ⟨by first | rfl | (simp [errW_none, errW_some] <;> rfl) | (simp [*, errW_none, errW_some] <;> rfl), by repeat (first | (with_reducible first | exact HB.out | apply below_alloc | apply pw_below_drewN | apply below_drew1 | refine below_set ?_ GE122.out | refine below_set ?_ GE123.out | refine below_set ?_ GE125.out) | exact HB.out)⟩
 rw [if_neg c42] at H
 have c42b0 : decide (((rd_T53 ((rd_T45 l1_1 x5_2).f3) x7_4).f0) < 0) = false := decide_eq_false c42
 clear c42
 by_cases c46 : ((rd_T53 ((rd_T45 l1_1 x5_2).f3) x7_4).f0) ≥ (l1_0.length : Int)
 ·rw [if_pos c46] at H
  have c46b0 : decide ((l1_0.length : Int) ≤ ((rd_T53 ((rd_T45 l1_1 x5_2).f3) x7_4).f0)) = true := decide_eq_true c46
  clear c46
  obtain rfl := Option.some.inj H
  have hnb47 := NB125_122.out
  have hnc47 := NB122_125.out
  have hnb48 := NB125_123.out
  have hnc48 := NB123_125.out
  have hcz49_0 : wr.cell? ⟨gb125, 0, none⟩ = some (.int .i64 ((rd_T45 l1_1 x5_2).f0)) := (blk_cell BK125.out 0).trans rfl
  have hcz49_1 : wr.cell? ⟨gb125, 1, none⟩ = some (.slice A124_1 ((rd_T45 l1_1 x5_2).f1).length c124_1) := (blk_cell BK125.out 1).trans rfl
  have hcz49_2 : wr.cell? ⟨gb125, 2, none⟩ = some (.bool ((rd_T45 l1_1 x5_2).f2)) := (blk_cell BK125.out 2).trans rfl
  have hcz49_3 : wr.cell? ⟨gb125, 3, none⟩ = some (.slice A124_3 ((rd_T45 l1_1 x5_2).f3).length c124_3) := (blk_cell BK125.out 3).trans rfl
  have hfz49_0 := blk_frozen BK125.out 0
  have hfz49_1 := blk_frozen BK125.out 1
  have hfz49_2 := blk_frozen BK125.out 2
  have hfz49_3 := blk_frozen BK125.out 3
  have p127 : 0 ≤ (x7_4 : Int) := of_decide_eq_true (by first | (with_reducible assumption) | assumption)
  have q127 : x7_4 < (((rd_T45 l1_1 x5_2).f3).length : Int) := of_decide_eq_true (by first | (with_reducible assumption) | assumption)
  obtain ⟨ad127, e127, hx127_0, hx127_1⟩ := at_T53 HR124_3.out x7_4 p127 q127
  cases e127
  replace hx127_0 := (HB.out.cell (World.block_lt_of_cell? w _ hx127_0)).trans hx127_0
  replace hx127_1 := (HB.out.cell (World.block_lt_of_cell? w _ hx127_1)).trans hx127_1
  replace p127 := eq_true p127
  replace q127 := eq_true q127
  have p128 : 0 ≤ (x7_4 : Int) := of_decide_eq_true (by first | (with_reducible assumption) | assumption)
  have q128 : x7_4 < (((rd_T45 l1_1 x5_2).f3).length : Int) := of_decide_eq_true (by first | (with_reducible assumption) | assumption)
  obtain ⟨ad128, e128, hx128_0, hx128_1⟩ := at_T53 HR124_3.out x7_4 p128 q128
  obtain rfl : ad127 = ad128 := (by injection e128)
  replace hx128_0 := (HB.out.cell (World.block_lt_of_cell? w _ hx128_0)).trans hx128_0
  replace hx128_1 := (HB.out.cell (World.block_lt_of_cell? w _ hx128_1)).trans hx128_1
  replace p128 := eq_true p128
  replace q128 := eq_true q128
  have hnb50 := NB123_122.out
  have hnc50 := NB122_123.out
  have hcz51_0 : wr.cell? ⟨gb123, 0, none⟩ = some (.slice A1_0 l1_0.length c1_0) := (blk_cell BK123.out 0).trans rfl
  have hcz51_1 : wr.cell? ⟨gb123, 1, none⟩ = some (.slice (some ad124) l1_1.length c1_1) := (blk_cell BK123.out 1).trans rfl
  have hfz51_0 := blk_frozen BK123.out 0
  have hfz51_1 := blk_frozen BK123.out 1
  go_wp2
  repeat (go_quiet (fail); try go_wp2)
  go_ret
  exact ⟨by first | rfl | (simp [errW_none, errW_some] <;> rfl) | (simp [*, errW_none, errW_some] <;> rfl), by repeat (first | (with_reducible first | exact HB.out | apply below_alloc | apply pw_below_drewN | apply below_drew1 | refine below_set ?_ GE122.out | refine below_set ?_ GE123.out | refine below_set ?_ GE125.out) | exact HB.out)⟩
 rw [if_neg c46] at H
 have c46b0 : decide ((l1_0.length : Int) ≤ ((rd_T53 ((rd_T45 l1_1 x5_2).f3) x7_4).f0)) = false := decide_eq_false c46
 clear c46
 have H' := Aside0.mk H
 clear H
 have hnb52 := NB125_122.out
 have hnc52 := NB122_125.out
 have hnb53 := NB125_123.out
 have hnc53 := NB123_125.out
 have hcz54_0 : wr.cell? ⟨gb125, 0, none⟩ = some (.int .i64 ((rd_T45 l1_1 x5_2).f0)) := (blk_cell BK125.out 0).trans rfl
 have hcz54_1 : wr.cell? ⟨gb125, 1, none⟩ = some (.slice A124_1 ((rd_T45 l1_1 x5_2).f1).length c124_1) := (blk_cell BK125.out 1).trans rfl
 have hcz54_2 : wr.cell? ⟨gb125, 2, none⟩ = some (.bool ((rd_T45 l1_1 x5_2).f2)) := (blk_cell BK125.out 2).trans rfl
 have hcz54_3 : wr.cell? ⟨gb125, 3, none⟩ = some (.slice A124_3 ((rd_T45 l1_1 x5_2).f3).length c124_3) := (blk_cell BK125.out 3).trans rfl
 have hfz54_0 := blk_frozen BK125.out 0
 have hfz54_1 := blk_frozen BK125.out 1
 have hfz54_2 := blk_frozen BK125.out 2
 have hfz54_3 := blk_frozen BK125.out 3
 have p127 : 0 ≤ (x7_4 : Int) := of_decide_eq_true (by first | (with_reducible assumption) | assumption)
 have q127 : x7_4 < (((rd_T45 l1_1 x5_2).f3).length : Int) := of_decide_eq_true (by first | (with_reducible assumption) | assumption)
 obtain ⟨ad127, e127, hx127_0, hx127_1⟩ := at_T53 HR124_3.out x7_4 p127 q127
 cases e127
 replace hx127_0 := (HB.out.cell (World.block_lt_of_cell? w _ hx127_0)).trans hx127_0
 replace hx127_1 := (HB.out.cell (World.block_lt_of_cell? w _ hx127_1)).trans hx127_1
 replace p127 := eq_true p127
 replace q127 := eq_true q127
 have p128 : 0 ≤ (x7_4 : Int) := of_decide_eq_true (by first | (with_reducible assumption) | assumption)
 have q128 : x7_4 < (((rd_T45 l1_1 x5_2).f3).length : Int) := of_decide_eq_true (by first | (with_reducible assumption) | assumption)
 obtain ⟨ad128, e128, hx128_0, hx128_1⟩ := at_T53 HR124_3.out x7_4 p128 q128
 obtain rfl : ad127 = ad128 := (by injection e128)
 replace hx128_0 := (HB.out.cell (World.block_lt_of_cell? w _ hx128_0)).trans hx128_0
 replace hx128_1 := (HB.out.cell (World.block_lt_of_cell? w _ hx128_1)).trans hx128_1
 replace p128 := eq_true p128
 replace q128 := eq_true q128
 have hnb55 := NB123_122.out
 have hnc55 := NB122_123.out
 have hcz56_0 : wr.cell? ⟨gb123, 0, none⟩ = some (.slice A1_0 l1_0.length c1_0) := (blk_cell BK123.out 0).trans rfl
 have hcz56_1 : wr.cell? ⟨gb123, 1, none⟩ = some (.slice (some ad124) l1_1.length c1_1) := (blk_cell BK123.out 1).trans rfl
 have hfz56_0 := blk_frozen BK123.out 0
 have hfz56_1 := blk_frozen BK123.out 1
 go_wp2
 repeat (go_quiet (fail); try go_wp2)
 go_roundg k4
 case measure => have := HJ2.out; have := HK2.out; have := HJ15.out; have := HK4.out; omega
 case rel => exact ⟨(wrap64 (x7_4 + 1)), (by first | rfl | (simp; done) | (simp [*]; done)), H', ⟨by have := HJ2.out; have := HK2.out; have := HJ15.out; have := HK4.out; omega⟩, ⟨by (with_reducible repeat (first | refine blk_drewN ?_ _ | refine blk_drew ?_ | refine blk_alloc ?_ _)); exact BK122.out⟩, ⟨by (with_reducible repeat (first | refine blk_drewN ?_ _ | refine blk_drew ?_ | refine blk_alloc ?_ _)); exact BK123.out⟩, ⟨by (with_reducible repeat (first | refine blk_drewN ?_ _ | refine blk_drew ?_ | refine blk_alloc ?_ _)); exact BK125.out⟩, ⟨by repeat (first | (with_reducible first | exact HB.out | apply below_alloc | apply pw_below_drewN | apply below_drew1 | refine below_set ?_ GE122.out | refine below_set ?_ GE123.out | refine below_set ?_ GE125.out) | exact HB.out)⟩⟩
end Go.Proofs.Ytdliojcpnkggnaa.Print
