-- Written by ownprint.py (this session's) with the kit's print.py: functions, contracts, rows; Lean checks it.
import Derived.Test.YtijpfonbeepmfaaPrint0
import Derived.Test.YtijpfonbeepmfaaPrint6
import Derived.Test.YtijpfonbeepmfaaPrint11
import Derived.Test.YtijpfonbeepmfaaHHead08
import Derived.Test.YtijpfonbeepmfaaHSlErase
import Derived.Test.YtijpfonbeepmfaaHSlFence
namespace Go.Proofs.Ytijpfonbeepmfaa.Print
open Go.RowKit Go.Proofs.YtijpfonbeepmfaaW.PrintWords Go.Proofs.YtijpfonbeepmfaaW.PrintLast Go.Proofs.YtijpfonbeepmfaaW.PrintMore
attribute [local go_sem] max2_int min2_int max_two min_two max_three min_three max_four min_four   -- for this text's walks alone
set_option linter.unusedVariables false
set_option linter.unusedSimpArgs false
def fencepostlaw08_SlotsErased.j0 : Nat → List Int → Bool → Bool → ByteArray → List (S62) → List (S58) → Bool → List (S64) → Option (Bool)
 | 0, _, _, _, _, _, _, _, _ => none
 | k + 1, x1, x5, x15, x391000, x391001, x391002, x391003, x391004 => if x15 = true then (some x5) else ((slots_Erase.f x391000 x391001 x391002 x391003 x391004 x1).bind fun bt393 => (if bt393.2.2.2.2.2 = true then (if x5 = true then ((slots_Fence.f bt393.1 bt393.2.1 bt393.2.2.1 bt393.2.2.2.1 bt393.2.2.2.2.1 x1).bind fun bt406 => ((fencepostref04_Same.f k bt406.1 bt406.2.1 bt406.2.2.1 bt406.2.2.2.1 bt406.2.2.2.2 x391000 x391001 x391002 x391003 x391004).bind fun t417 => (some t417))) else (some false)) else (if x5 = true then ((fencepostref04_Same.f k bt393.1 bt393.2.1 bt393.2.2.1 bt393.2.2.2.1 bt393.2.2.2.2.1 x391000 x391001 x391002 x391003 x391004).bind fun t418 => (some t418)) else (some false))))
def fencepostlaw08_SlotsErased.f (k : Nat) (a0_0 : ByteArray) (l0_1 : List (S62)) (l0_2 : List (S58)) (a0_3 : Bool) (l0_4 : List (S64)) (l1 : List Int) : Option (Bool) := (fencepostlaw08_head.f).bind fun t391 => ((fencepostlaw04_Great.f k a0_0 l0_1 l0_2 a0_3 l0_4).bind fun t392 => (if t392 = true then (fencepostlaw08_SlotsErased.j0 k l1 t391 true a0_0 l0_1 l0_2 a0_3 l0_4) else (fencepostlaw08_SlotsErased.j0 k l1 t391 (decide ((l1.length : Int) > 100)) a0_0 l0_1 l0_2 a0_3 l0_4)))
theorem fencepostlaw08_SlotsErased.mono_l : ∀ k, (∀ y0 y1 y2 y3 y4 y5 y6 y7, LeO (fencepostlaw08_SlotsErased.j0 k y0 y1 y2 y3 y4 y5 y6 y7) (fencepostlaw08_SlotsErased.j0 (k + 1) y0 y1 y2 y3 y4 y5 y6 y7))
 | 0 => fun _ _ _ _ _ _ _ _ r h => by simp [fencepostlaw08_SlotsErased.j0] at h
 | k + 1 => by
  have ih0 := fencepostlaw08_SlotsErased.mono_l k
  ·intro y0 y1 y2 y3 y4 y5 y6 y7
   unfold fencepostlaw08_SlotsErased.j0
   repeat' first
   | (with_reducible exact ih0 _ _ _ _ _ _ _ _)
   | (with_reducible exact fencepostlaw04_Great.mono _ _ _ _ _ _)
   | (with_reducible exact fencepostref04_Same.mono _ _ _ _ _ _ _ _ _ _ _)
   | (with_reducible exact LeO.refl _)
   | (with_reducible exact LeO.none _)
   | (with_reducible refine LeO.ite ?_ ?_)
   | (with_reducible refine LeO.bind ?_ (fun _ => ?_))
   | exact ih0 _ _ _ _ _ _ _ _
   | exact fencepostlaw04_Great.mono _ _ _ _ _ _
   | exact fencepostref04_Same.mono _ _ _ _ _ _ _ _ _ _ _
   | exact LeO.none _
   | refine LeO.ite ?_ ?_
   | refine LeO.bind ?_ (fun _ => ?_)
theorem fencepostlaw08_SlotsErased.mono : ∀ a0 a1 a2 a3 a4 a5 k, LeO (fencepostlaw08_SlotsErased.f k a0 a1 a2 a3 a4 a5) (fencepostlaw08_SlotsErased.f (k + 1) a0 a1 a2 a3 a4 a5) := by
 intro a0 a1 a2 a3 a4 a5 k
 have ih0 := fencepostlaw08_SlotsErased.mono_l k
 unfold fencepostlaw08_SlotsErased.f
 repeat' first
  | (with_reducible exact ih0 _ _ _ _ _ _ _ _)
  | (with_reducible exact fencepostlaw04_Great.mono _ _ _ _ _ _)
  | (with_reducible exact fencepostref04_Same.mono _ _ _ _ _ _ _ _ _ _ _)
  | (with_reducible exact LeO.refl _)
  | (with_reducible exact LeO.none _)
  | (with_reducible refine LeO.ite ?_ ?_)
  | (with_reducible refine LeO.bind ?_ (fun _ => ?_))
  | exact ih0 _ _ _ _ _ _ _ _
  | exact fencepostlaw04_Great.mono _ _ _ _ _ _
  | exact fencepostref04_Same.mono _ _ _ _ _ _ _ _ _ _ _
  | exact LeO.none _
  | refine LeO.ite ?_ ?_
  | refine LeO.bind ?_ (fun _ => ?_)
def fencepostlaw08_SlotsErased.T7 : Bool × List (List Nat × List Nat) := (true, [([], []), ([0], [0]), ([1], [1]), ([1], [1]), ([2, 3, 1, 1], [1, 2, 3]), ([1], [1]), ([4, 5, 4, 1], [1, 4, 5]), ([1, 6], [1, 6]), ([7, 6, 0, 1, 2, 3, 4, 5, 6, 7], [7])])
def fencepostlaw08_SlotsErased.B7 : List Nat := [0, 1, 3, 3, 15, 3, 63, 127, 255]
theorem fencepostlaw08_SlotsErased.tab7 : rtab .any (opsOf Try.f6 7) = fencepostlaw08_SlotsErased.T7 := by kernel_rfl
theorem fencepostlaw08_SlotsErased.bits7 : waitsOk fencepostlaw08_SlotsErased.T7.2 fencepostlaw08_SlotsErased.B7 = true := by kernel_rfl
set_option maxHeartbeats 8000000 in
set_option maxRecDepth 100000 in
theorem fencepostlaw08_SlotsErased.calls (k : Nat) (a0_0 : ByteArray) (A0_1 : Option Addr) (c0_1 : Nat) (l0_1 : List (S62)) (A0_2 : Option Addr) (c0_2 : Nat) (l0_2 : List (S58)) (a0_3 : Bool) (A0_4 : Option Addr) (c0_4 : Nat) (l0_4 : List (S64)) (A1 : Option Addr) (c1 : Nat) (l1 : List Int) (r : Bool) (w : World) (hr0_1 : Kd.C k62 w A0_1 l0_1.length l0_1) (hc0_1 : l0_1.length ≤ c0_1) (hr0_2 : Kd.C k58 w A0_2 l0_2.length l0_2) (hc0_2 : l0_2.length ≤ c0_2) (hr0_4 : Kd.C k64 w A0_4 l0_4.length l0_4) (hc0_4 : l0_4.length ≤ c0_4) (hr1 : Kd.C (Kd.int .i64) w A1 l1.length l1) (hc1 : l1.length ≤ c1) (ht_ : r = true) (h : fencepostlaw08_SlotsErased.f k a0_0 l0_1 l0_2 a0_3 l0_4 l1 = some r) :
 Calls Try.prog 6 #[.agg #[.string a0_0, .slice A0_1 l0_1.length c0_1, .slice A0_2 l0_2.length c0_2, .bool a0_3, .slice A0_4 l0_4.length c0_4], .slice A1 l1.length c1] w fun e w' => e = .returned (.bool r) ∧ Below w.heap.size w w' := by
 have hu30 := Try.underlying30
 have HR0_1 := Aside0.mk hr0_1
 have HC0_1 := Aside0.mk hc0_1
 clear hr0_1 hc0_1
 have HR0_2 := Aside0.mk hr0_2
 have HC0_2 := Aside0.mk hc0_2
 clear hr0_2 hc0_2
 have HR0_4 := Aside0.mk hr0_4
 have HC0_4 := Aside0.mk hc0_4
 clear hr0_4 hc0_4
 have HR1 := Aside0.mk hr1
 have HC1 := Aside0.mk hc1
 clear hr1 hc1
 have HB := Aside0.mk (Below.refl w.heap.size w)
 have HT := Aside0.mk ht_
 clear ht_
 have H : ((fencepostlaw08_head.f).bind fun t391 => ((fencepostlaw04_Great.f k a0_0 l0_1 l0_2 a0_3 l0_4).bind fun t392 => (if t392 = true then (fencepostlaw08_SlotsErased.j0 k l1 t391 true a0_0 l0_1 l0_2 a0_3 l0_4) else (fencepostlaw08_SlotsErased.j0 k l1 t391 (decide ((l1.length : Int) > 100)) a0_0 l0_1 l0_2 a0_3 l0_4)))) = some r := h
 clear h
 replace H := Option.bind_eq_some_iff.mp H
 obtain ⟨t391, A30, H⟩ := H
 replace H : ((fencepostlaw04_Great.f k a0_0 l0_1 l0_2 a0_3 l0_4).bind fun t392 => (if t392 = true then (fencepostlaw08_SlotsErased.j0 k l1 t391 true a0_0 l0_1 l0_2 a0_3 l0_4) else (fencepostlaw08_SlotsErased.j0 k l1 t391 (decide ((l1.length : Int) > 100)) a0_0 l0_1 l0_2 a0_3 l0_4))) = some r := H
 have A3 := Aside0.mk A30
 clear A30
 have HC4 := Aside0.mk H
 clear H
 go_enter Try.func6, Try.ntmps6
 go_upto_region 2 with (first | ((with_reducible refine gate_dst (N := 2) rfl ?_); (try (refine gate_guard (by rfl) ?_; dsimp only)); refine box_event ?hg (N := 2) ?hd (cs := #[.string a0_0, .slice A0_1 l0_1.length c0_1, .slice A0_2 l0_2.length c0_2, .bool a0_3, .slice A0_4 l0_4.length c0_4]) (t := 30) ?hr ?_; (case hd => rfl); (case hg => rfl); (case hr => first | (go_simp; done) | (go_simp; rfl)); intro gb390 hg w5 hbox hb; have n0_ := Aside0.mk (below_step (by repeat (first | (with_reducible first | exact HB.out | apply below_alloc | apply pw_below_drewN | apply below_drew1) | exact HB.out)) hb); have n1_ := Aside0.mk (hbox); have n2_ := Aside0.mk ((by rw [hg]; exact (below_size (by repeat (first | (with_reducible first | exact HB.out | apply below_alloc | apply pw_below_drewN | apply below_drew1) | exact HB.out))) : w.heap.size ≤ gb390)); have n3_ := Aside0.mk ((by rw [hg]; exact (below_size (by repeat (first | (with_reducible first | exact HB.out | apply below_alloc | apply pw_below_drewN | apply below_drew1) | exact HB.out))) : w.heap.size ≤ gb390)); clear HB; have HB := n0_; have BK390 := n1_; have GW390 := n2_; have GE390 := n3_; clear n0_ n1_ n2_ n3_; clear hb hbox hg) | ((with_reducible refine gate_callee (f := 10) rfl ?_); refine goesL_ (some 8) rfl rfl Try.func10 (by kernel_rfl) rfl #[] rfl (by (try simp only [List.map_toArray, List.map_cons, List.map_nil]); first | done | rfl | (simp only [List.length_drop, List.length_take]; rfl)) ?_; (with_reducible refine (fencepostlaw08_head.calls  t391 _ A3.out).mono ?_); rintro e w6 ⟨rfl, hb⟩; refine ⟨_, rfl, ?_⟩; have n0_ := Aside0.mk (blk_below (g := gb390) (o := .cells #[.string a0_0, .slice A0_1 l0_1.length c0_1, .slice A0_2 l0_2.length c0_2, .bool a0_3, .slice A0_4 l0_4.length c0_4] 30 (0, 0)) (by (with_reducible repeat (first | refine blk_drewN ?_ _ | refine blk_drew ?_ | refine blk_alloc ?_ _)); exact BK390.out) hb); have n1_ := Aside0.mk (below_step (by repeat (first | (with_reducible first | exact HB.out | apply below_alloc | apply pw_below_drewN | apply below_drew1 | refine below_set ?_ GE390.out) | exact HB.out)) hb); clear BK390; clear HB; have BK390 := n0_; have HB := n1_; clear n0_ n1_; (try clear hb); (try clear hb2); (try clear hk); (try clear hi)))
 (try simp only [Act.put, List.setIfInBounds_toArray, List.set_cons_zero, List.set_cons_succ])
 go_cut [15] (fun v15 wc => ∃ (kq : Nat) (x15_3 : Bool), v15 = .bool x15_3 ∧ Aside0 (fencepostlaw08_SlotsErased.j0 kq l1 t391 x15_3 a0_0 l0_1 l0_2 a0_3 l0_4 = some r) ∧ Aside0 (kq ≤ k) ∧ Aside0 (wc.heap[gb390]? = some (.cells #[.string a0_0, (.slice A0_1 l0_1.length c0_1), (.slice A0_2 l0_2.length c0_2), .bool a0_3, (.slice A0_4 l0_4.length c0_4)] 30 (0, 0))) ∧ Aside0 (Below w.heap.size w wc))
 case first =>
  have H := HC4.out
  clear HC4
  replace H := Option.bind_eq_some_iff.mp H
  obtain ⟨t392, A70, H⟩ := H
  replace H : (if t392 = true then (fencepostlaw08_SlotsErased.j0 k l1 t391 true a0_0 l0_1 l0_2 a0_3 l0_4) else (fencepostlaw08_SlotsErased.j0 k l1 t391 (decide ((l1.length : Int) > 100)) a0_0 l0_1 l0_2 a0_3 l0_4)) = some r := H
  have A7 := Aside0.mk A70
  clear A70
  by_cases c8 : t392 = true
  ·subst c8
   have H1 : (fencepostlaw08_SlotsErased.j0 k l1 t391 true a0_0 l0_1 l0_2 a0_3 l0_4) = some r := by rw [if_pos rfl] at H; exact H
   clear H
   have H := H1
   clear H1
   have H' := Aside0.mk H
   clear H
   have hcz9_0 : w6.cell? ⟨gb390, 0, none⟩ = some (.string a0_0) := (blk_cell BK390.out 0).trans rfl
   have hcz9_1 : w6.cell? ⟨gb390, 1, none⟩ = some (.slice A0_1 l0_1.length c0_1) := (blk_cell BK390.out 1).trans rfl
   have hcz9_2 : w6.cell? ⟨gb390, 2, none⟩ = some (.slice A0_2 l0_2.length c0_2) := (blk_cell BK390.out 2).trans rfl
   have hcz9_3 : w6.cell? ⟨gb390, 3, none⟩ = some (.bool a0_3) := (blk_cell BK390.out 3).trans rfl
   have hcz9_4 : w6.cell? ⟨gb390, 4, none⟩ = some (.slice A0_4 l0_4.length c0_4) := (blk_cell BK390.out 4).trans rfl
   have hfz9_0 := blk_frozen BK390.out 0
   have hfz9_1 := blk_frozen BK390.out 1
   have hfz9_2 := blk_frozen BK390.out 2
   have hfz9_3 := blk_frozen BK390.out 3
   have hfz9_4 := blk_frozen BK390.out 4
   go_wp2_with (first | ((with_reducible refine gate_callee (f := 12) rfl ?_); refine goesL_ (some 10) rfl rfl Try.func12 (by kernel_rfl) rfl #[.agg #[.string a0_0, .slice A0_1 l0_1.length c0_1, .slice A0_2 l0_2.length c0_2, .bool a0_3, .slice A0_4 l0_4.length c0_4]] rfl (by (try simp only [List.map_toArray, List.map_cons, List.map_nil]); first | done | rfl | (simp only [List.length_drop, List.length_take]; rfl)) ?_; (with_reducible refine (fencepostlaw04_Great.calls k a0_0 _ _ l0_1 _ _ l0_2 a0_3 _ _ l0_4 true _ ?side1 ?side2 ?side3 ?side4 ?side5 ?side6 A7.out).mono ?_); (case side1 => repeat (first | exact (Kd.C_below HR0_1.out HB.out) | (with_reducible refine Kd.C_alloc ?_ _) | (with_reducible refine Kd.C_drewN ?_ _) | (with_reducible refine Kd.C_drew ?_))); (case side2 => exact HC0_1.out); (case side3 => repeat (first | exact (Kd.C_below HR0_2.out HB.out) | (with_reducible refine Kd.C_alloc ?_ _) | (with_reducible refine Kd.C_drewN ?_ _) | (with_reducible refine Kd.C_drew ?_))); (case side4 => exact HC0_2.out); (case side5 => repeat (first | exact (Kd.C_below HR0_4.out HB.out) | (with_reducible refine Kd.C_alloc ?_ _) | (with_reducible refine Kd.C_drewN ?_ _) | (with_reducible refine Kd.C_drew ?_))); (case side6 => exact HC0_4.out); rintro e w10 ⟨rfl, hb⟩; refine ⟨_, rfl, ?_⟩; have n0_ := Aside0.mk (blk_below (g := gb390) (o := .cells #[.string a0_0, .slice A0_1 l0_1.length c0_1, .slice A0_2 l0_2.length c0_2, .bool a0_3, .slice A0_4 l0_4.length c0_4] 30 (0, 0)) (by (with_reducible repeat (first | refine blk_drewN ?_ _ | refine blk_drew ?_ | refine blk_alloc ?_ _)); exact BK390.out) hb); have n1_ := Aside0.mk (below_step (by repeat (first | (with_reducible first | exact HB.out | apply below_alloc | apply pw_below_drewN | apply below_drew1 | refine below_set ?_ GE390.out) | exact HB.out)) hb); clear BK390; clear HB; have BK390 := n0_; have HB := n1_; clear n0_ n1_; (try clear hb); (try clear hb2); (try clear hk); (try clear hi)))
   go_meet
   case rel => exact ⟨_, (true), (by first | rfl | (simp; done) | (simp [*]; done)), H', ⟨by first | omega | exact Nat.le_refl _⟩, ⟨by (with_reducible repeat (first | refine blk_drewN ?_ _ | refine blk_drew ?_ | refine blk_alloc ?_ _)); exact BK390.out⟩, ⟨by repeat (first | (with_reducible first | exact HB.out | apply below_alloc | apply pw_below_drewN | apply below_drew1 | refine below_set ?_ GE390.out) | exact HB.out)⟩⟩
  replace c8 := Bool.eq_false_iff.mpr c8
  subst c8
  have H1 : (fencepostlaw08_SlotsErased.j0 k l1 t391 (decide ((l1.length : Int) > 100)) a0_0 l0_1 l0_2 a0_3 l0_4) = some r := by rw [if_neg (show ¬ (false = true) by decide)] at H; exact H
  clear H
  have H := H1
  clear H1
  have H' := Aside0.mk H
  clear H
  have hcz11_0 : w6.cell? ⟨gb390, 0, none⟩ = some (.string a0_0) := (blk_cell BK390.out 0).trans rfl
  have hcz11_1 : w6.cell? ⟨gb390, 1, none⟩ = some (.slice A0_1 l0_1.length c0_1) := (blk_cell BK390.out 1).trans rfl
  have hcz11_2 : w6.cell? ⟨gb390, 2, none⟩ = some (.slice A0_2 l0_2.length c0_2) := (blk_cell BK390.out 2).trans rfl
  have hcz11_3 : w6.cell? ⟨gb390, 3, none⟩ = some (.bool a0_3) := (blk_cell BK390.out 3).trans rfl
  have hcz11_4 : w6.cell? ⟨gb390, 4, none⟩ = some (.slice A0_4 l0_4.length c0_4) := (blk_cell BK390.out 4).trans rfl
  have hfz11_0 := blk_frozen BK390.out 0
  have hfz11_1 := blk_frozen BK390.out 1
  have hfz11_2 := blk_frozen BK390.out 2
  have hfz11_3 := blk_frozen BK390.out 3
  have hfz11_4 := blk_frozen BK390.out 4
  go_wp2_with (first | ((with_reducible refine gate_callee (f := 12) rfl ?_); refine goesL_ (some 10) rfl rfl Try.func12 (by kernel_rfl) rfl #[.agg #[.string a0_0, .slice A0_1 l0_1.length c0_1, .slice A0_2 l0_2.length c0_2, .bool a0_3, .slice A0_4 l0_4.length c0_4]] rfl (by (try simp only [List.map_toArray, List.map_cons, List.map_nil]); first | done | rfl | (simp only [List.length_drop, List.length_take]; rfl)) ?_; (with_reducible refine (fencepostlaw04_Great.calls k a0_0 _ _ l0_1 _ _ l0_2 a0_3 _ _ l0_4 false _ ?side1 ?side2 ?side3 ?side4 ?side5 ?side6 A7.out).mono ?_); (case side1 => repeat (first | exact (Kd.C_below HR0_1.out HB.out) | (with_reducible refine Kd.C_alloc ?_ _) | (with_reducible refine Kd.C_drewN ?_ _) | (with_reducible refine Kd.C_drew ?_))); (case side2 => exact HC0_1.out); (case side3 => repeat (first | exact (Kd.C_below HR0_2.out HB.out) | (with_reducible refine Kd.C_alloc ?_ _) | (with_reducible refine Kd.C_drewN ?_ _) | (with_reducible refine Kd.C_drew ?_))); (case side4 => exact HC0_2.out); (case side5 => repeat (first | exact (Kd.C_below HR0_4.out HB.out) | (with_reducible refine Kd.C_alloc ?_ _) | (with_reducible refine Kd.C_drewN ?_ _) | (with_reducible refine Kd.C_drew ?_))); (case side6 => exact HC0_4.out); rintro e w12 ⟨rfl, hb⟩; refine ⟨_, rfl, ?_⟩; have n0_ := Aside0.mk (blk_below (g := gb390) (o := .cells #[.string a0_0, .slice A0_1 l0_1.length c0_1, .slice A0_2 l0_2.length c0_2, .bool a0_3, .slice A0_4 l0_4.length c0_4] 30 (0, 0)) (by (with_reducible repeat (first | refine blk_drewN ?_ _ | refine blk_drew ?_ | refine blk_alloc ?_ _)); exact BK390.out) hb); have n1_ := Aside0.mk (below_step (by repeat (first | (with_reducible first | exact HB.out | apply below_alloc | apply pw_below_drewN | apply below_drew1 | refine below_set ?_ GE390.out) | exact HB.out)) hb); clear BK390; clear HB; have BK390 := n0_; have HB := n1_; clear n0_ n1_; (try clear hb); (try clear hb2); (try clear hk); (try clear hi)))
  go_meet
  case rel => exact ⟨_, (decide ((l1.length : Int) > 100)), (by first | rfl | (simp; done) | (simp [*]; done)), H', ⟨by first | omega | exact Nat.le_refl _⟩, ⟨by (with_reducible repeat (first | refine blk_drewN ?_ _ | refine blk_drew ?_ | refine blk_alloc ?_ _)); exact BK390.out⟩, ⟨by repeat (first | (with_reducible first | exact HB.out | apply below_alloc | apply pw_below_drewN | apply below_drew1 | refine below_set ?_ GE390.out) | exact HB.out)⟩⟩
 clear HC4
 try clear c1
 obtain ⟨kq, x15_3, rfl, HA, HJ3, BK390, HB⟩ := hcut
 cases kq with
 | zero => exact absurd HA.out (by simp [fencepostlaw08_SlotsErased.j0])
 | succ kj3 => ?_
 have H := HA.out
 clear HA
 simp only [fencepostlaw08_SlotsErased.j0] at H
 by_cases c13 : x15_3 = true
 ·subst c13
  have H1 : (some t391) = some r := by rw [if_pos rfl] at H; exact H
  clear H
  have H := H1
  clear H1
  obtain rfl := Option.some.inj H
  go_wp2
  go_ret
  exact ⟨by first | rfl | (simp [errW_none, errW_some] <;> rfl) | (simp [*, errW_none, errW_some] <;> rfl), by repeat (first | (with_reducible first | exact HB.out | apply below_alloc | apply pw_below_drewN | apply below_drew1 | refine below_set ?_ GE390.out) | exact HB.out)⟩
 replace c13 := Bool.eq_false_iff.mpr c13
 subst c13
 have H1 : ((slots_Erase.f a0_0 l0_1 l0_2 a0_3 l0_4 l1).bind fun bt393 => (if bt393.2.2.2.2.2 = true then (if t391 = true then ((slots_Fence.f bt393.1 bt393.2.1 bt393.2.2.1 bt393.2.2.2.1 bt393.2.2.2.2.1 l1).bind fun bt406 => ((fencepostref04_Same.f kj3 bt406.1 bt406.2.1 bt406.2.2.1 bt406.2.2.2.1 bt406.2.2.2.2 a0_0 l0_1 l0_2 a0_3 l0_4).bind fun t417 => (some t417))) else (some false)) else (if t391 = true then ((fencepostref04_Same.f kj3 bt393.1 bt393.2.1 bt393.2.2.1 bt393.2.2.2.1 bt393.2.2.2.2.1 a0_0 l0_1 l0_2 a0_3 l0_4).bind fun t418 => (some t418)) else (some false)))) = some r := by rw [if_neg (show ¬ (false = true) by decide)] at H; exact H
 clear H
 have H := H1
 clear H1
 replace H := Option.bind_eq_some_iff.mp H
 obtain ⟨⟨t393, t394, t397, t400, t401, t404⟩, A140, H⟩ := H
 replace H : (if t404 = true then (if t391 = true then ((slots_Fence.f t393 t394 t397 t400 t401 l1).bind fun bt406 => ((fencepostref04_Same.f kj3 bt406.1 bt406.2.1 bt406.2.2.1 bt406.2.2.2.1 bt406.2.2.2.2 a0_0 l0_1 l0_2 a0_3 l0_4).bind fun t417 => (some t417))) else (some false)) else (if t391 = true then ((fencepostref04_Same.f kj3 t393 t394 t397 t400 t401 a0_0 l0_1 l0_2 a0_3 l0_4).bind fun t418 => (some t418)) else (some false))) = some r := H
 have A14 := Aside0.mk A140
 clear A140
 by_cases c15 : t404 = true
 rotate_left
 ·replace c15 := Bool.eq_false_iff.mpr c15
  subst c15
  have H1 : (if t391 = true then ((fencepostref04_Same.f kj3 t393 t394 t397 t400 t401 a0_0 l0_1 l0_2 a0_3 l0_4).bind fun t418 => (some t418)) else (some false)) = some r := by rw [if_neg (show ¬ (false = true) by decide)] at H; exact H
  clear H
  have H := H1
  clear H1
  by_cases c34 : t391 = true
  rotate_left
  ·replace c34 := Bool.eq_false_iff.mpr c34
   subst c34
   have H1 : (some false) = some r := by rw [if_neg (show ¬ (false = true) by decide)] at H; exact H
   clear H
   have H := H1
   clear H1
   exact absurd ((Option.some.inj H).trans HT.out) (by simp)
  subst c34
  have H1 : ((fencepostref04_Same.f kj3 t393 t394 t397 t400 t401 a0_0 l0_1 l0_2 a0_3 l0_4).bind fun t418 => (some t418)) = some r := by rw [if_pos rfl] at H; exact H
  clear H
  have H := H1
  clear H1
  replace H := Option.bind_eq_some_iff.mp H
  obtain ⟨t418, A350, H⟩ := H
  replace H : (some t418) = some r := H
  have A35 := Aside0.mk A350
  clear A350
  obtain rfl := Option.some.inj H
  have hcz36_0 : wc.cell? ⟨gb390, 0, none⟩ = some (.string a0_0) := (blk_cell BK390.out 0).trans rfl
  have hcz36_1 : wc.cell? ⟨gb390, 1, none⟩ = some (.slice A0_1 l0_1.length c0_1) := (blk_cell BK390.out 1).trans rfl
  have hcz36_2 : wc.cell? ⟨gb390, 2, none⟩ = some (.slice A0_2 l0_2.length c0_2) := (blk_cell BK390.out 2).trans rfl
  have hcz36_3 : wc.cell? ⟨gb390, 3, none⟩ = some (.bool a0_3) := (blk_cell BK390.out 3).trans rfl
  have hcz36_4 : wc.cell? ⟨gb390, 4, none⟩ = some (.slice A0_4 l0_4.length c0_4) := (blk_cell BK390.out 4).trans rfl
  have hfz36_0 := blk_frozen BK390.out 0
  have hfz36_1 := blk_frozen BK390.out 1
  have hfz36_2 := blk_frozen BK390.out 2
  have hfz36_3 := blk_frozen BK390.out 3
  have hfz36_4 := blk_frozen BK390.out 4
  go_wp2_with (first | ((with_reducible refine gate_callee (f := 15) rfl ?_); refine goesL_ (some 20) rfl rfl Try.func15 (by kernel_rfl) rfl #[.agg #[.string a0_0, .slice A0_1 l0_1.length c0_1, .slice A0_2 l0_2.length c0_2, .bool a0_3, .slice A0_4 l0_4.length c0_4], .slice A1 l1.length c1] rfl (by (try simp only [List.map_toArray, List.map_cons, List.map_nil]); first | done | rfl | (simp only [List.length_drop, List.length_take]; rfl)) ?_; (with_reducible refine (slots_Erase.calls a0_0 (fun k_ => k_ < w.heap.size) _ _ l0_1 (fun k_ => k_ < w.heap.size) _ _ l0_2 a0_3 (fun k_ => k_ < w.heap.size) _ _ l0_4 _ _ l1 t393 t394 t397 t400 t401 false _ ?side1 ?side2 ?side3 ?side4 ?side5 A14.out).mono ?_); (case side1 => exact Kd.V_mk HC0_1.out (Kd.F_below (Kd.C_F k62_heap HR0_1.out) (by repeat (first | (with_reducible first | exact HB.out | apply below_alloc | apply pw_below_drewN | apply below_drew1 | refine below_set ?_ GE390.out) | exact HB.out)))); (case side2 => exact Kd.V_mk HC0_2.out (Kd.F_below (Kd.C_F k58_heap HR0_2.out) (by repeat (first | (with_reducible first | exact HB.out | apply below_alloc | apply pw_below_drewN | apply below_drew1 | refine below_set ?_ GE390.out) | exact HB.out)))); (case side3 => exact Kd.V_mk HC0_4.out (Kd.F_below (Kd.C_F k64_heap HR0_4.out) (by repeat (first | (with_reducible first | exact HB.out | apply below_alloc | apply pw_below_drewN | apply below_drew1 | refine below_set ?_ GE390.out) | exact HB.out)))); (case side4 => repeat (first | exact (Kd.C_below HR1.out HB.out) | (with_reducible refine Kd.C_alloc ?_ _) | (with_reducible refine Kd.C_drewN ?_ _) | (with_reducible refine Kd.C_drew ?_))); (case side5 => exact HC1.out); rintro e w37 ⟨v395, v398, v402, rfl, ho0, ho1, ho2, hb⟩; refine ⟨_, rfl, ?_⟩; have n0_ := Aside0.mk (Kd.V_lower (Kd.V_mono (ok' := fun k_ => k_ ≠ gb390) ho0 (fun k_ hk_ => Or.elim hk_ (fun hs_ => Or.elim hs_ (fun hs_ => fun e_ => Nat.not_le.2 hs_ (by rw [e_]; exact GW390.out)) (fun hs_ => Or.elim hs_ (fun hs_ => fun e_ => Nat.not_le.2 hs_ (by rw [e_]; exact GW390.out)) (fun hs_ => fun e_ => Nat.not_le.2 hs_ (by rw [e_]; exact GW390.out)))) (fun hn_ => (Kd.freshB (g := gb390) (o := .cells #[.string a0_0, .slice A0_1 l0_1.length c0_1, .slice A0_2 l0_2.length c0_2, .bool a0_3, .slice A0_4 l0_4.length c0_4] 30 (0, 0)) (by (with_reducible repeat (first | refine blk_drewN ?_ _ | refine blk_drew ?_ | refine blk_alloc ?_ _)); exact BK390.out) k_ hn_)))) (below_size (by repeat (first | (with_reducible first | exact HB.out | apply below_alloc | apply pw_below_drewN | apply below_drew1 | refine below_set ?_ GE390.out) | exact HB.out)))); have n1_ := Aside0.mk (Kd.V_lower (Kd.V_mono (ok' := fun k_ => k_ ≠ gb390) ho1 (fun k_ hk_ => Or.elim hk_ (fun hs_ => Or.elim hs_ (fun hs_ => fun e_ => Nat.not_le.2 hs_ (by rw [e_]; exact GW390.out)) (fun hs_ => Or.elim hs_ (fun hs_ => fun e_ => Nat.not_le.2 hs_ (by rw [e_]; exact GW390.out)) (fun hs_ => fun e_ => Nat.not_le.2 hs_ (by rw [e_]; exact GW390.out)))) (fun hn_ => (Kd.freshB (g := gb390) (o := .cells #[.string a0_0, .slice A0_1 l0_1.length c0_1, .slice A0_2 l0_2.length c0_2, .bool a0_3, .slice A0_4 l0_4.length c0_4] 30 (0, 0)) (by (with_reducible repeat (first | refine blk_drewN ?_ _ | refine blk_drew ?_ | refine blk_alloc ?_ _)); exact BK390.out) k_ hn_)))) (below_size (by repeat (first | (with_reducible first | exact HB.out | apply below_alloc | apply pw_below_drewN | apply below_drew1 | refine below_set ?_ GE390.out) | exact HB.out)))); have n2_ := Aside0.mk (Kd.V_lower (Kd.V_mono (ok' := fun k_ => k_ ≠ gb390) ho2 (fun k_ hk_ => Or.elim hk_ (fun hs_ => Or.elim hs_ (fun hs_ => fun e_ => Nat.not_le.2 hs_ (by rw [e_]; exact GW390.out)) (fun hs_ => Or.elim hs_ (fun hs_ => fun e_ => Nat.not_le.2 hs_ (by rw [e_]; exact GW390.out)) (fun hs_ => fun e_ => Nat.not_le.2 hs_ (by rw [e_]; exact GW390.out)))) (fun hn_ => (Kd.freshB (g := gb390) (o := .cells #[.string a0_0, .slice A0_1 l0_1.length c0_1, .slice A0_2 l0_2.length c0_2, .bool a0_3, .slice A0_4 l0_4.length c0_4] 30 (0, 0)) (by (with_reducible repeat (first | refine blk_drewN ?_ _ | refine blk_drew ?_ | refine blk_alloc ?_ _)); exact BK390.out) k_ hn_)))) (below_size (by repeat (first | (with_reducible first | exact HB.out | apply below_alloc | apply pw_below_drewN | apply below_drew1 | refine below_set ?_ GE390.out) | exact HB.out)))); have n3_ := Aside0.mk (blk_below (g := gb390) (o := .cells #[.string a0_0, .slice A0_1 l0_1.length c0_1, .slice A0_2 l0_2.length c0_2, .bool a0_3, .slice A0_4 l0_4.length c0_4] 30 (0, 0)) (by (with_reducible repeat (first | refine blk_drewN ?_ _ | refine blk_drew ?_ | refine blk_alloc ?_ _)); exact BK390.out) hb); have n4_ := Aside0.mk (below_step (by repeat (first | (with_reducible first | exact HB.out | apply below_alloc | apply pw_below_drewN | apply below_drew1 | refine below_set ?_ GE390.out) | exact HB.out)) hb); clear BK390; clear HB; have HO396 := n0_; have HO399 := n1_; have HO403 := n2_; have BK390 := n3_; have HB := n4_; clear n0_ n1_ n2_ n3_ n4_; (try clear hb); (try clear hb2); (try clear hk); (try clear hi); (try clear ho0); (try clear ho1); (try clear ho2)) | ((with_reducible refine gate_dst (N := 6) rfl ?_); (try (refine gate_guard (by rfl) ?_; dsimp only)); refine box_event ?hg (N := 6) ?hd (cs := #[.string (⟨#[]⟩ : ByteArray), .slice none 0 0, .slice none 0 0, .bool false, .slice none 0 0]) (t := 30) ?hr ?_; (case hd => rfl); (case hg => rfl); (case hr => first | (go_simp; done) | (go_simp; rfl)); intro gb405 hg w38 hbox hb; have n0_ := Aside0.mk (Kd.V_below (Kd.V_elderB (by (with_reducible repeat (first | apply Kd.V_alloc | apply Kd.V_drewN | apply Kd.V_drew)); exact HO396.out) gb405 (Nat.le_of_eq hg.symm)) hb); have n1_ := Aside0.mk (Kd.V_below (Kd.V_elderB (by (with_reducible repeat (first | apply Kd.V_alloc | apply Kd.V_drewN | apply Kd.V_drew)); exact HO399.out) gb405 (Nat.le_of_eq hg.symm)) hb); have n2_ := Aside0.mk (Kd.V_below (Kd.V_elderB (by (with_reducible repeat (first | apply Kd.V_alloc | apply Kd.V_drewN | apply Kd.V_drew)); exact HO403.out) gb405 (Nat.le_of_eq hg.symm)) hb); have n3_ := Aside0.mk (blk_below (g := gb390) (o := .cells #[.string a0_0, .slice A0_1 l0_1.length c0_1, .slice A0_2 l0_2.length c0_2, .bool a0_3, .slice A0_4 l0_4.length c0_4] 30 (0, 0)) (by (with_reducible repeat (first | refine blk_drewN ?_ _ | refine blk_drew ?_ | refine blk_alloc ?_ _)); exact BK390.out) hb); have n4_ := Aside0.mk (below_step (by repeat (first | (with_reducible first | exact HB.out | apply below_alloc | apply pw_below_drewN | apply below_drew1 | refine below_set ?_ GE390.out) | exact HB.out)) hb); have n5_ := Aside0.mk (hbox); have n6_ := Aside0.mk ((by rw [hg]; exact (below_size (by repeat (first | (with_reducible first | exact HB.out | apply below_alloc | apply pw_below_drewN | apply below_drew1 | refine below_set ?_ GE390.out) | exact HB.out))) : w.heap.size ≤ gb405)); have n7_ := Aside0.mk ((by rw [hg]; exact (below_size (by repeat (first | (with_reducible first | exact HB.out | apply below_alloc | apply pw_below_drewN | apply below_drew1 | refine below_set ?_ GE390.out) | exact HB.out))) : w.heap.size ≤ gb405)); have n8_ := Aside0.mk ((by rw [hg]; exact Nat.ne_of_lt (blk_lt (g := gb390) (o := .cells #[.string a0_0, .slice A0_1 l0_1.length c0_1, .slice A0_2 l0_2.length c0_2, .bool a0_3, .slice A0_4 l0_4.length c0_4] 30 (0, 0)) (by (with_reducible repeat (first | refine blk_drewN ?_ _ | refine blk_drew ?_ | refine blk_alloc ?_ _)); exact BK390.out)) : gb390 ≠ gb405)); have n9_ := Aside0.mk ((by rw [hg]; exact Nat.ne_of_gt (blk_lt (g := gb390) (o := .cells #[.string a0_0, .slice A0_1 l0_1.length c0_1, .slice A0_2 l0_2.length c0_2, .bool a0_3, .slice A0_4 l0_4.length c0_4] 30 (0, 0)) (by (with_reducible repeat (first | refine blk_drewN ?_ _ | refine blk_drew ?_ | refine blk_alloc ?_ _)); exact BK390.out)) : gb405 ≠ gb390)); clear HO396; clear HO399; clear HO403; clear BK390; clear HB; have HO396 := n0_; have HO399 := n1_; have HO403 := n2_; have BK390 := n3_; have HB := n4_; have BK405 := n5_; have GW405 := n6_; have GE405 := n7_; have NB390_405 := n8_; have NB405_390 := n9_; clear n0_ n1_ n2_ n3_ n4_ n5_ n6_ n7_ n8_ n9_; clear hb hbox hg; have hnb39 := NB405_390.out; have hnc39 := NB390_405.out; have hcz40_0 : w38.cell? ⟨gb405, 0, none⟩ = some (.string (⟨#[]⟩ : ByteArray)) := (blk_cell BK405.out 0).trans rfl; have hcz40_1 : w38.cell? ⟨gb405, 1, none⟩ = some (.slice none 0 0) := (blk_cell BK405.out 1).trans rfl; have hcz40_2 : w38.cell? ⟨gb405, 2, none⟩ = some (.slice none 0 0) := (blk_cell BK405.out 2).trans rfl; have hcz40_3 : w38.cell? ⟨gb405, 3, none⟩ = some (.bool false) := (blk_cell BK405.out 3).trans rfl; have hcz40_4 : w38.cell? ⟨gb405, 4, none⟩ = some (.slice none 0 0) := (blk_cell BK405.out 4).trans rfl; have hfz40_0 := blk_frozen BK405.out 0; have hfz40_1 := blk_frozen BK405.out 1; have hfz40_2 := blk_frozen BK405.out 2; have hfz40_3 := blk_frozen BK405.out 3; have hfz40_4 := blk_frozen BK405.out 4; obtain ⟨Ao41, co41, eo41⟩ := Kd.V_slice HO396.out; subst eo41; obtain ⟨Ao42, co42, eo42⟩ := Kd.V_slice HO399.out; subst eo42; obtain ⟨Ao43, co43, eo43⟩ := Kd.V_slice HO403.out; subst eo43; have hcz44_0 : w38.cell? ⟨gb390, 0, none⟩ = some (.string a0_0) := (blk_cell BK390.out 0).trans rfl; have hcz44_1 : w38.cell? ⟨gb390, 1, none⟩ = some (.slice A0_1 l0_1.length c0_1) := (blk_cell BK390.out 1).trans rfl; have hcz44_2 : w38.cell? ⟨gb390, 2, none⟩ = some (.slice A0_2 l0_2.length c0_2) := (blk_cell BK390.out 2).trans rfl; have hcz44_3 : w38.cell? ⟨gb390, 3, none⟩ = some (.bool a0_3) := (blk_cell BK390.out 3).trans rfl; have hcz44_4 : w38.cell? ⟨gb390, 4, none⟩ = some (.slice A0_4 l0_4.length c0_4) := (blk_cell BK390.out 4).trans rfl; have hfz44_0 := blk_frozen BK390.out 0; have hfz44_1 := blk_frozen BK390.out 1; have hfz44_2 := blk_frozen BK390.out 2; have hfz44_3 := blk_frozen BK390.out 3; have hfz44_4 := blk_frozen BK390.out 4) | (go_at_call 24; (with_reducible refine (fencepostref04_Same.calls kj3 t393 _ _ t394 _ _ t397 t400 _ _ t401 a0_0 _ _ l0_1 _ _ l0_2 a0_3 _ _ l0_4 t418 _ ?side1 ?side2 ?side3 ?side4 ?side5 ?side6 ?side7 ?side8 ?side9 ?side10 ?side11 ?side12 A35.out).mono ?_); (case side1 => refine (Kd.V_reads' (e := 62) (base := w.heap.size) (ok := fun k_ => (k_ ≠ gb390 ∧ k_ ≠ gb405)) (n := t394.length) (c := co41) ?_).2.2; exact (by (with_reducible repeat (first | apply Kd.V_alloc | apply Kd.V_drewN | apply Kd.V_drew)); exact (Kd.V_mono (Kd.V_far (p := ⟨gb405, 4, none⟩) (Kd.V_far (p := ⟨gb405, 3, none⟩) (Kd.V_far (p := ⟨gb405, 2, none⟩) (Kd.V_far (p := ⟨gb405, 1, none⟩) (Kd.V_far (p := ⟨gb405, 0, none⟩) (Kd.V_mono HO396.out (fun k_ hk => (⟨hk, hk.2⟩ : _ ∧ k_ ≠ gb405))) (fun _ hk => hk.2) (.string t393)) (fun _ hk => hk.2) (.slice Ao41 t394.length co41)) (fun _ hk => hk.2) (.slice Ao42 t397.length co42)) (fun _ hk => hk.2) (.bool t400)) (fun _ hk => hk.2) (.slice Ao43 t401.length co43)) (fun _ h_ => h_.1)))); (case side2 => exact (Kd.V_reads' HO396.out).2.1); (case side3 => refine (Kd.V_reads' (e := 58) (base := w.heap.size) (ok := fun k_ => (k_ ≠ gb390 ∧ k_ ≠ gb405)) (n := t397.length) (c := co42) ?_).2.2; exact (by (with_reducible repeat (first | apply Kd.V_alloc | apply Kd.V_drewN | apply Kd.V_drew)); exact (Kd.V_mono (Kd.V_far (p := ⟨gb405, 4, none⟩) (Kd.V_far (p := ⟨gb405, 3, none⟩) (Kd.V_far (p := ⟨gb405, 2, none⟩) (Kd.V_far (p := ⟨gb405, 1, none⟩) (Kd.V_far (p := ⟨gb405, 0, none⟩) (Kd.V_mono HO399.out (fun k_ hk => (⟨hk, hk.2⟩ : _ ∧ k_ ≠ gb405))) (fun _ hk => hk.2) (.string t393)) (fun _ hk => hk.2) (.slice Ao41 t394.length co41)) (fun _ hk => hk.2) (.slice Ao42 t397.length co42)) (fun _ hk => hk.2) (.bool t400)) (fun _ hk => hk.2) (.slice Ao43 t401.length co43)) (fun _ h_ => h_.1)))); (case side4 => exact (Kd.V_reads' HO399.out).2.1); (case side5 => refine (Kd.V_reads' (e := 64) (base := w.heap.size) (ok := fun k_ => (k_ ≠ gb390 ∧ k_ ≠ gb405)) (n := t401.length) (c := co43) ?_).2.2; exact (by (with_reducible repeat (first | apply Kd.V_alloc | apply Kd.V_drewN | apply Kd.V_drew)); exact (Kd.V_mono (Kd.V_far (p := ⟨gb405, 4, none⟩) (Kd.V_far (p := ⟨gb405, 3, none⟩) (Kd.V_far (p := ⟨gb405, 2, none⟩) (Kd.V_far (p := ⟨gb405, 1, none⟩) (Kd.V_far (p := ⟨gb405, 0, none⟩) (Kd.V_mono HO403.out (fun k_ hk => (⟨hk, hk.2⟩ : _ ∧ k_ ≠ gb405))) (fun _ hk => hk.2) (.string t393)) (fun _ hk => hk.2) (.slice Ao41 t394.length co41)) (fun _ hk => hk.2) (.slice Ao42 t397.length co42)) (fun _ hk => hk.2) (.bool t400)) (fun _ hk => hk.2) (.slice Ao43 t401.length co43)) (fun _ h_ => h_.1)))); (case side6 => exact (Kd.V_reads' HO403.out).2.1); (case side7 => exact Kd.C_below HR0_1.out (by repeat (first | (with_reducible first | exact HB.out | apply below_alloc | apply pw_below_drewN | apply below_drew1 | refine below_set ?_ GE390.out | refine below_set ?_ GE405.out) | exact HB.out))); (case side8 => exact HC0_1.out); (case side9 => exact Kd.C_below HR0_2.out (by repeat (first | (with_reducible first | exact HB.out | apply below_alloc | apply pw_below_drewN | apply below_drew1 | refine below_set ?_ GE390.out | refine below_set ?_ GE405.out) | exact HB.out))); (case side10 => exact HC0_2.out); (case side11 => exact Kd.C_below HR0_4.out (by repeat (first | (with_reducible first | exact HB.out | apply below_alloc | apply pw_below_drewN | apply below_drew1 | refine below_set ?_ GE390.out | refine below_set ?_ GE405.out) | exact HB.out))); (case side12 => exact HC0_4.out); rintro e w45 ⟨rfl, hb⟩; have n0_ := Aside0.mk (Kd.V_below (by (with_reducible repeat (first | apply Kd.V_alloc | apply Kd.V_drewN | apply Kd.V_drew)); exact (Kd.V_mono (Kd.V_far (p := ⟨gb405, 4, none⟩) (Kd.V_far (p := ⟨gb405, 3, none⟩) (Kd.V_far (p := ⟨gb405, 2, none⟩) (Kd.V_far (p := ⟨gb405, 1, none⟩) (Kd.V_far (p := ⟨gb405, 0, none⟩) (Kd.V_mono HO396.out (fun k_ hk => (⟨hk, hk.2⟩ : _ ∧ k_ ≠ gb405))) (fun _ hk => hk.2) (.string t393)) (fun _ hk => hk.2) (.slice Ao41 t394.length co41)) (fun _ hk => hk.2) (.slice Ao42 t397.length co42)) (fun _ hk => hk.2) (.bool t400)) (fun _ hk => hk.2) (.slice Ao43 t401.length co43)) (fun _ h_ => h_.1))) hb); have n1_ := Aside0.mk (Kd.V_below (by (with_reducible repeat (first | apply Kd.V_alloc | apply Kd.V_drewN | apply Kd.V_drew)); exact (Kd.V_mono (Kd.V_far (p := ⟨gb405, 4, none⟩) (Kd.V_far (p := ⟨gb405, 3, none⟩) (Kd.V_far (p := ⟨gb405, 2, none⟩) (Kd.V_far (p := ⟨gb405, 1, none⟩) (Kd.V_far (p := ⟨gb405, 0, none⟩) (Kd.V_mono HO399.out (fun k_ hk => (⟨hk, hk.2⟩ : _ ∧ k_ ≠ gb405))) (fun _ hk => hk.2) (.string t393)) (fun _ hk => hk.2) (.slice Ao41 t394.length co41)) (fun _ hk => hk.2) (.slice Ao42 t397.length co42)) (fun _ hk => hk.2) (.bool t400)) (fun _ hk => hk.2) (.slice Ao43 t401.length co43)) (fun _ h_ => h_.1))) hb); have n2_ := Aside0.mk (Kd.V_below (by (with_reducible repeat (first | apply Kd.V_alloc | apply Kd.V_drewN | apply Kd.V_drew)); exact (Kd.V_mono (Kd.V_far (p := ⟨gb405, 4, none⟩) (Kd.V_far (p := ⟨gb405, 3, none⟩) (Kd.V_far (p := ⟨gb405, 2, none⟩) (Kd.V_far (p := ⟨gb405, 1, none⟩) (Kd.V_far (p := ⟨gb405, 0, none⟩) (Kd.V_mono HO403.out (fun k_ hk => (⟨hk, hk.2⟩ : _ ∧ k_ ≠ gb405))) (fun _ hk => hk.2) (.string t393)) (fun _ hk => hk.2) (.slice Ao41 t394.length co41)) (fun _ hk => hk.2) (.slice Ao42 t397.length co42)) (fun _ hk => hk.2) (.bool t400)) (fun _ hk => hk.2) (.slice Ao43 t401.length co43)) (fun _ h_ => h_.1))) hb); have n3_ := Aside0.mk (blk_below (g := gb390) (o := .cells #[.string a0_0, .slice A0_1 l0_1.length c0_1, .slice A0_2 l0_2.length c0_2, .bool a0_3, .slice A0_4 l0_4.length c0_4] 30 (0, 0)) (by (with_reducible repeat (first | refine blk_drewN ?_ _ | refine blk_drew ?_ | refine blk_alloc ?_ _)); refine blk_far ?_ NB390_405.out _; (with_reducible repeat (first | refine blk_drewN ?_ _ | refine blk_drew ?_ | refine blk_alloc ?_ _)); refine blk_far ?_ NB390_405.out _; (with_reducible repeat (first | refine blk_drewN ?_ _ | refine blk_drew ?_ | refine blk_alloc ?_ _)); refine blk_far ?_ NB390_405.out _; (with_reducible repeat (first | refine blk_drewN ?_ _ | refine blk_drew ?_ | refine blk_alloc ?_ _)); refine blk_far ?_ NB390_405.out _; (with_reducible repeat (first | refine blk_drewN ?_ _ | refine blk_drew ?_ | refine blk_alloc ?_ _)); refine blk_far ?_ NB390_405.out _; (with_reducible repeat (first | refine blk_drewN ?_ _ | refine blk_drew ?_ | refine blk_alloc ?_ _)); exact BK390.out) hb); have n4_ := Aside0.mk (blk_below (g := gb405) (o := .cells #[.string t393, .slice Ao41 t394.length co41, .slice Ao42 t397.length co42, .bool t400, .slice Ao43 t401.length co43] 30 (0, 0)) (by (with_reducible repeat (first | refine blk_drewN ?_ _ | refine blk_drew ?_ | refine blk_alloc ?_ _)); refine blk_put (cs := #[.string t393, .slice Ao41 t394.length co41, .slice Ao42 t397.length co42, .bool t400, .slice none 0 0]) ?_ 4 _ rfl; (with_reducible repeat (first | refine blk_drewN ?_ _ | refine blk_drew ?_ | refine blk_alloc ?_ _)); refine blk_put (cs := #[.string t393, .slice Ao41 t394.length co41, .slice Ao42 t397.length co42, .bool false, .slice none 0 0]) ?_ 3 _ rfl; (with_reducible repeat (first | refine blk_drewN ?_ _ | refine blk_drew ?_ | refine blk_alloc ?_ _)); refine blk_put (cs := #[.string t393, .slice Ao41 t394.length co41, .slice none 0 0, .bool false, .slice none 0 0]) ?_ 2 _ rfl; (with_reducible repeat (first | refine blk_drewN ?_ _ | refine blk_drew ?_ | refine blk_alloc ?_ _)); refine blk_put (cs := #[.string t393, .slice none 0 0, .slice none 0 0, .bool false, .slice none 0 0]) ?_ 1 _ rfl; (with_reducible repeat (first | refine blk_drewN ?_ _ | refine blk_drew ?_ | refine blk_alloc ?_ _)); refine blk_put (cs := #[.string (⟨#[]⟩ : ByteArray), .slice none 0 0, .slice none 0 0, .bool false, .slice none 0 0]) ?_ 0 _ rfl; (with_reducible repeat (first | refine blk_drewN ?_ _ | refine blk_drew ?_ | refine blk_alloc ?_ _)); exact BK405.out) hb); have n5_ := Aside0.mk (below_step (by repeat (first | (with_reducible first | exact HB.out | apply below_alloc | apply pw_below_drewN | apply below_drew1 | refine below_set ?_ GE390.out | refine below_set ?_ GE405.out) | exact HB.out)) hb); clear HO396; clear HO399; clear HO403; clear BK390; clear BK405; clear HB; have HO396 := n0_; have HO399 := n1_; have HO403 := n2_; have BK390 := n3_; have BK405 := n4_; have HB := n5_; clear n0_ n1_ n2_ n3_ n4_ n5_; (try clear hb); (try clear hb2); (try clear hk); (try clear hi)))
  go_ret
  exact ⟨by first | rfl | (simp [errW_none, errW_some] <;> rfl) | (simp [*, errW_none, errW_some] <;> rfl), by repeat (first | (with_reducible first | exact HB.out | apply below_alloc | apply pw_below_drewN | apply below_drew1 | refine below_set ?_ GE390.out | refine below_set ?_ GE405.out) | exact HB.out)⟩
 subst c15
 have H1 : (if t391 = true then ((slots_Fence.f t393 t394 t397 t400 t401 l1).bind fun bt406 => ((fencepostref04_Same.f kj3 bt406.1 bt406.2.1 bt406.2.2.1 bt406.2.2.2.1 bt406.2.2.2.2 a0_0 l0_1 l0_2 a0_3 l0_4).bind fun t417 => (some t417))) else (some false)) = some r := by rw [if_pos rfl] at H; exact H
 clear H
 have H := H1
 clear H1
 by_cases c16 : t391 = true
 rotate_left
 ·replace c16 := Bool.eq_false_iff.mpr c16
  subst c16
  have H1 : (some false) = some r := by rw [if_neg (show ¬ (false = true) by decide)] at H; exact H
  clear H
  have H := H1
  clear H1
  exact absurd ((Option.some.inj H).trans HT.out) (by simp)
 subst c16
 have H1 : ((slots_Fence.f t393 t394 t397 t400 t401 l1).bind fun bt406 => ((fencepostref04_Same.f kj3 bt406.1 bt406.2.1 bt406.2.2.1 bt406.2.2.2.1 bt406.2.2.2.2 a0_0 l0_1 l0_2 a0_3 l0_4).bind fun t417 => (some t417))) = some r := by rw [if_pos rfl] at H; exact H
 clear H
 have H := H1
 clear H1
 replace H := Option.bind_eq_some_iff.mp H
 obtain ⟨⟨t406, t407, t410, t413, t414⟩, A170, H⟩ := H
 replace H : ((fencepostref04_Same.f kj3 t406 t407 t410 t413 t414 a0_0 l0_1 l0_2 a0_3 l0_4).bind fun t417 => (some t417)) = some r := H
 have A17 := Aside0.mk A170
 clear A170
 replace H := Option.bind_eq_some_iff.mp H
 obtain ⟨t417, A180, H⟩ := H
 replace H : (some t417) = some r := H
 have A18 := Aside0.mk A180
 clear A180
 obtain rfl := Option.some.inj H
 have hcz19_0 : wc.cell? ⟨gb390, 0, none⟩ = some (.string a0_0) := (blk_cell BK390.out 0).trans rfl
 have hcz19_1 : wc.cell? ⟨gb390, 1, none⟩ = some (.slice A0_1 l0_1.length c0_1) := (blk_cell BK390.out 1).trans rfl
 have hcz19_2 : wc.cell? ⟨gb390, 2, none⟩ = some (.slice A0_2 l0_2.length c0_2) := (blk_cell BK390.out 2).trans rfl
 have hcz19_3 : wc.cell? ⟨gb390, 3, none⟩ = some (.bool a0_3) := (blk_cell BK390.out 3).trans rfl
 have hcz19_4 : wc.cell? ⟨gb390, 4, none⟩ = some (.slice A0_4 l0_4.length c0_4) := (blk_cell BK390.out 4).trans rfl
 have hfz19_0 := blk_frozen BK390.out 0
 have hfz19_1 := blk_frozen BK390.out 1
 have hfz19_2 := blk_frozen BK390.out 2
 have hfz19_3 := blk_frozen BK390.out 3
 have hfz19_4 := blk_frozen BK390.out 4
 try go_wp2_with (first | ((with_reducible refine gate_callee (f := 15) rfl ?_); refine goesL_ (some 20) rfl rfl Try.func15 (by kernel_rfl) rfl #[.agg #[.string a0_0, .slice A0_1 l0_1.length c0_1, .slice A0_2 l0_2.length c0_2, .bool a0_3, .slice A0_4 l0_4.length c0_4], .slice A1 l1.length c1] rfl (by (try simp only [List.map_toArray, List.map_cons, List.map_nil]); first | done | rfl | (simp only [List.length_drop, List.length_take]; rfl)) ?_; (with_reducible refine (slots_Erase.calls a0_0 (fun k_ => k_ < w.heap.size) _ _ l0_1 (fun k_ => k_ < w.heap.size) _ _ l0_2 a0_3 (fun k_ => k_ < w.heap.size) _ _ l0_4 _ _ l1 t393 t394 t397 t400 t401 true _ ?side1 ?side2 ?side3 ?side4 ?side5 A14.out).mono ?_); (case side1 => exact Kd.V_mk HC0_1.out (Kd.F_below (Kd.C_F k62_heap HR0_1.out) (by repeat (first | (with_reducible first | exact HB.out | apply below_alloc | apply pw_below_drewN | apply below_drew1 | refine below_set ?_ GE390.out) | exact HB.out)))); (case side2 => exact Kd.V_mk HC0_2.out (Kd.F_below (Kd.C_F k58_heap HR0_2.out) (by repeat (first | (with_reducible first | exact HB.out | apply below_alloc | apply pw_below_drewN | apply below_drew1 | refine below_set ?_ GE390.out) | exact HB.out)))); (case side3 => exact Kd.V_mk HC0_4.out (Kd.F_below (Kd.C_F k64_heap HR0_4.out) (by repeat (first | (with_reducible first | exact HB.out | apply below_alloc | apply pw_below_drewN | apply below_drew1 | refine below_set ?_ GE390.out) | exact HB.out)))); (case side4 => repeat (first | exact (Kd.C_below HR1.out HB.out) | (with_reducible refine Kd.C_alloc ?_ _) | (with_reducible refine Kd.C_drewN ?_ _) | (with_reducible refine Kd.C_drew ?_))); (case side5 => exact HC1.out); rintro e w20 ⟨v395, v398, v402, rfl, ho0, ho1, ho2, hb⟩; refine ⟨_, rfl, ?_⟩; have n0_ := Aside0.mk (Kd.V_lower (Kd.V_mono (ok' := fun k_ => k_ ≠ gb390) ho0 (fun k_ hk_ => Or.elim hk_ (fun hs_ => Or.elim hs_ (fun hs_ => fun e_ => Nat.not_le.2 hs_ (by rw [e_]; exact GW390.out)) (fun hs_ => Or.elim hs_ (fun hs_ => fun e_ => Nat.not_le.2 hs_ (by rw [e_]; exact GW390.out)) (fun hs_ => fun e_ => Nat.not_le.2 hs_ (by rw [e_]; exact GW390.out)))) (fun hn_ => (Kd.freshB (g := gb390) (o := .cells #[.string a0_0, .slice A0_1 l0_1.length c0_1, .slice A0_2 l0_2.length c0_2, .bool a0_3, .slice A0_4 l0_4.length c0_4] 30 (0, 0)) (by (with_reducible repeat (first | refine blk_drewN ?_ _ | refine blk_drew ?_ | refine blk_alloc ?_ _)); exact BK390.out) k_ hn_)))) (below_size (by repeat (first | (with_reducible first | exact HB.out | apply below_alloc | apply pw_below_drewN | apply below_drew1 | refine below_set ?_ GE390.out) | exact HB.out)))); have n1_ := Aside0.mk (Kd.V_lower (Kd.V_mono (ok' := fun k_ => k_ ≠ gb390) ho1 (fun k_ hk_ => Or.elim hk_ (fun hs_ => Or.elim hs_ (fun hs_ => fun e_ => Nat.not_le.2 hs_ (by rw [e_]; exact GW390.out)) (fun hs_ => Or.elim hs_ (fun hs_ => fun e_ => Nat.not_le.2 hs_ (by rw [e_]; exact GW390.out)) (fun hs_ => fun e_ => Nat.not_le.2 hs_ (by rw [e_]; exact GW390.out)))) (fun hn_ => (Kd.freshB (g := gb390) (o := .cells #[.string a0_0, .slice A0_1 l0_1.length c0_1, .slice A0_2 l0_2.length c0_2, .bool a0_3, .slice A0_4 l0_4.length c0_4] 30 (0, 0)) (by (with_reducible repeat (first | refine blk_drewN ?_ _ | refine blk_drew ?_ | refine blk_alloc ?_ _)); exact BK390.out) k_ hn_)))) (below_size (by repeat (first | (with_reducible first | exact HB.out | apply below_alloc | apply pw_below_drewN | apply below_drew1 | refine below_set ?_ GE390.out) | exact HB.out)))); have n2_ := Aside0.mk (Kd.V_lower (Kd.V_mono (ok' := fun k_ => k_ ≠ gb390) ho2 (fun k_ hk_ => Or.elim hk_ (fun hs_ => Or.elim hs_ (fun hs_ => fun e_ => Nat.not_le.2 hs_ (by rw [e_]; exact GW390.out)) (fun hs_ => Or.elim hs_ (fun hs_ => fun e_ => Nat.not_le.2 hs_ (by rw [e_]; exact GW390.out)) (fun hs_ => fun e_ => Nat.not_le.2 hs_ (by rw [e_]; exact GW390.out)))) (fun hn_ => (Kd.freshB (g := gb390) (o := .cells #[.string a0_0, .slice A0_1 l0_1.length c0_1, .slice A0_2 l0_2.length c0_2, .bool a0_3, .slice A0_4 l0_4.length c0_4] 30 (0, 0)) (by (with_reducible repeat (first | refine blk_drewN ?_ _ | refine blk_drew ?_ | refine blk_alloc ?_ _)); exact BK390.out) k_ hn_)))) (below_size (by repeat (first | (with_reducible first | exact HB.out | apply below_alloc | apply pw_below_drewN | apply below_drew1 | refine below_set ?_ GE390.out) | exact HB.out)))); have n3_ := Aside0.mk (blk_below (g := gb390) (o := .cells #[.string a0_0, .slice A0_1 l0_1.length c0_1, .slice A0_2 l0_2.length c0_2, .bool a0_3, .slice A0_4 l0_4.length c0_4] 30 (0, 0)) (by (with_reducible repeat (first | refine blk_drewN ?_ _ | refine blk_drew ?_ | refine blk_alloc ?_ _)); exact BK390.out) hb); have n4_ := Aside0.mk (below_step (by repeat (first | (with_reducible first | exact HB.out | apply below_alloc | apply pw_below_drewN | apply below_drew1 | refine below_set ?_ GE390.out) | exact HB.out)) hb); clear BK390; clear HB; have HO396 := n0_; have HO399 := n1_; have HO403 := n2_; have BK390 := n3_; have HB := n4_; clear n0_ n1_ n2_ n3_ n4_; (try clear hb); (try clear hb2); (try clear hk); (try clear hi); (try clear ho0); (try clear ho1); (try clear ho2)) | ((with_reducible refine gate_dst (N := 6) rfl ?_); (try (refine gate_guard (by rfl) ?_; dsimp only)); refine box_event ?hg (N := 6) ?hd (cs := #[.string (⟨#[]⟩ : ByteArray), .slice none 0 0, .slice none 0 0, .bool false, .slice none 0 0]) (t := 30) ?hr ?_; (case hd => rfl); (case hg => rfl); (case hr => first | (go_simp; done) | (go_simp; rfl)); intro gb405 hg w21 hbox hb; have n0_ := Aside0.mk (Kd.V_below (Kd.V_elderB (by (with_reducible repeat (first | apply Kd.V_alloc | apply Kd.V_drewN | apply Kd.V_drew)); exact HO396.out) gb405 (Nat.le_of_eq hg.symm)) hb); have n1_ := Aside0.mk (Kd.V_below (Kd.V_elderB (by (with_reducible repeat (first | apply Kd.V_alloc | apply Kd.V_drewN | apply Kd.V_drew)); exact HO399.out) gb405 (Nat.le_of_eq hg.symm)) hb); have n2_ := Aside0.mk (Kd.V_below (Kd.V_elderB (by (with_reducible repeat (first | apply Kd.V_alloc | apply Kd.V_drewN | apply Kd.V_drew)); exact HO403.out) gb405 (Nat.le_of_eq hg.symm)) hb); have n3_ := Aside0.mk (blk_below (g := gb390) (o := .cells #[.string a0_0, .slice A0_1 l0_1.length c0_1, .slice A0_2 l0_2.length c0_2, .bool a0_3, .slice A0_4 l0_4.length c0_4] 30 (0, 0)) (by (with_reducible repeat (first | refine blk_drewN ?_ _ | refine blk_drew ?_ | refine blk_alloc ?_ _)); exact BK390.out) hb); have n4_ := Aside0.mk (below_step (by repeat (first | (with_reducible first | exact HB.out | apply below_alloc | apply pw_below_drewN | apply below_drew1 | refine below_set ?_ GE390.out) | exact HB.out)) hb); have n5_ := Aside0.mk (hbox); have n6_ := Aside0.mk ((by rw [hg]; exact (below_size (by repeat (first | (with_reducible first | exact HB.out | apply below_alloc | apply pw_below_drewN | apply below_drew1 | refine below_set ?_ GE390.out) | exact HB.out))) : w.heap.size ≤ gb405)); have n7_ := Aside0.mk ((by rw [hg]; exact (below_size (by repeat (first | (with_reducible first | exact HB.out | apply below_alloc | apply pw_below_drewN | apply below_drew1 | refine below_set ?_ GE390.out) | exact HB.out))) : w.heap.size ≤ gb405)); have n8_ := Aside0.mk ((by rw [hg]; exact Nat.ne_of_lt (blk_lt (g := gb390) (o := .cells #[.string a0_0, .slice A0_1 l0_1.length c0_1, .slice A0_2 l0_2.length c0_2, .bool a0_3, .slice A0_4 l0_4.length c0_4] 30 (0, 0)) (by (with_reducible repeat (first | refine blk_drewN ?_ _ | refine blk_drew ?_ | refine blk_alloc ?_ _)); exact BK390.out)) : gb390 ≠ gb405)); have n9_ := Aside0.mk ((by rw [hg]; exact Nat.ne_of_gt (blk_lt (g := gb390) (o := .cells #[.string a0_0, .slice A0_1 l0_1.length c0_1, .slice A0_2 l0_2.length c0_2, .bool a0_3, .slice A0_4 l0_4.length c0_4] 30 (0, 0)) (by (with_reducible repeat (first | refine blk_drewN ?_ _ | refine blk_drew ?_ | refine blk_alloc ?_ _)); exact BK390.out)) : gb405 ≠ gb390)); clear HO396; clear HO399; clear HO403; clear BK390; clear HB; have HO396 := n0_; have HO399 := n1_; have HO403 := n2_; have BK390 := n3_; have HB := n4_; have BK405 := n5_; have GW405 := n6_; have GE405 := n7_; have NB390_405 := n8_; have NB405_390 := n9_; clear n0_ n1_ n2_ n3_ n4_ n5_ n6_ n7_ n8_ n9_; clear hb hbox hg; have hnb22 := NB405_390.out; have hnc22 := NB390_405.out; have hcz23_0 : w21.cell? ⟨gb405, 0, none⟩ = some (.string (⟨#[]⟩ : ByteArray)) := (blk_cell BK405.out 0).trans rfl; have hcz23_1 : w21.cell? ⟨gb405, 1, none⟩ = some (.slice none 0 0) := (blk_cell BK405.out 1).trans rfl; have hcz23_2 : w21.cell? ⟨gb405, 2, none⟩ = some (.slice none 0 0) := (blk_cell BK405.out 2).trans rfl; have hcz23_3 : w21.cell? ⟨gb405, 3, none⟩ = some (.bool false) := (blk_cell BK405.out 3).trans rfl; have hcz23_4 : w21.cell? ⟨gb405, 4, none⟩ = some (.slice none 0 0) := (blk_cell BK405.out 4).trans rfl; have hfz23_0 := blk_frozen BK405.out 0; have hfz23_1 := blk_frozen BK405.out 1; have hfz23_2 := blk_frozen BK405.out 2; have hfz23_3 := blk_frozen BK405.out 3; have hfz23_4 := blk_frozen BK405.out 4; obtain ⟨Ao24, co24, eo24⟩ := Kd.V_slice HO396.out; subst eo24; obtain ⟨Ao25, co25, eo25⟩ := Kd.V_slice HO399.out; subst eo25; obtain ⟨Ao26, co26, eo26⟩ := Kd.V_slice HO403.out; subst eo26))
 have n0_ : Aside0 (Kd.V k62 62 (((((w21.setCell ⟨gb405, 0, none⟩ (.string t393)).setCell ⟨gb405, 1, none⟩ (.slice Ao24 t394.length co24)).setCell ⟨gb405, 2, none⟩ (.slice Ao25 t397.length co25)).setCell ⟨gb405, 3, none⟩ (.bool t400)).setCell ⟨gb405, 4, none⟩ (.slice Ao26 t401.length co26)) w.heap.size (fun k_ => k_ ≠ gb390 ∧ k_ ≠ gb405) (.slice Ao24 t394.length co24) t394) := ⟨by (with_reducible repeat (first | apply Kd.V_alloc | apply Kd.V_drewN | apply Kd.V_drew)); exact Kd.V_mono (Kd.V_far (p := ⟨gb405, 4, none⟩) (Kd.V_far (p := ⟨gb405, 3, none⟩) (Kd.V_far (p := ⟨gb405, 2, none⟩) (Kd.V_far (p := ⟨gb405, 1, none⟩) (Kd.V_far (p := ⟨gb405, 0, none⟩) (Kd.V_mono HO396.out (fun k_ hk => (⟨hk, hk.2⟩ : _ ∧ k_ ≠ gb405))) (fun _ hk => hk.2) (.string t393)) (fun _ hk => hk.2) (.slice Ao24 t394.length co24)) (fun _ hk => hk.2) (.slice Ao25 t397.length co25)) (fun _ hk => hk.2) (.bool t400)) (fun _ hk => hk.2) (.slice Ao26 t401.length co26)) (fun _ hk => ⟨hk.1.1, hk.1.2⟩)⟩
 have n1_ : Aside0 (Kd.V k58 58 (((((w21.setCell ⟨gb405, 0, none⟩ (.string t393)).setCell ⟨gb405, 1, none⟩ (.slice Ao24 t394.length co24)).setCell ⟨gb405, 2, none⟩ (.slice Ao25 t397.length co25)).setCell ⟨gb405, 3, none⟩ (.bool t400)).setCell ⟨gb405, 4, none⟩ (.slice Ao26 t401.length co26)) w.heap.size (fun k_ => k_ ≠ gb390 ∧ k_ ≠ gb405) (.slice Ao25 t397.length co25) t397) := ⟨by (with_reducible repeat (first | apply Kd.V_alloc | apply Kd.V_drewN | apply Kd.V_drew)); exact Kd.V_mono (Kd.V_far (p := ⟨gb405, 4, none⟩) (Kd.V_far (p := ⟨gb405, 3, none⟩) (Kd.V_far (p := ⟨gb405, 2, none⟩) (Kd.V_far (p := ⟨gb405, 1, none⟩) (Kd.V_far (p := ⟨gb405, 0, none⟩) (Kd.V_mono HO399.out (fun k_ hk => (⟨hk, hk.2⟩ : _ ∧ k_ ≠ gb405))) (fun _ hk => hk.2) (.string t393)) (fun _ hk => hk.2) (.slice Ao24 t394.length co24)) (fun _ hk => hk.2) (.slice Ao25 t397.length co25)) (fun _ hk => hk.2) (.bool t400)) (fun _ hk => hk.2) (.slice Ao26 t401.length co26)) (fun _ hk => ⟨hk.1.1, hk.1.2⟩)⟩
 have n2_ : Aside0 (Kd.V k64 64 (((((w21.setCell ⟨gb405, 0, none⟩ (.string t393)).setCell ⟨gb405, 1, none⟩ (.slice Ao24 t394.length co24)).setCell ⟨gb405, 2, none⟩ (.slice Ao25 t397.length co25)).setCell ⟨gb405, 3, none⟩ (.bool t400)).setCell ⟨gb405, 4, none⟩ (.slice Ao26 t401.length co26)) w.heap.size (fun k_ => k_ ≠ gb390 ∧ k_ ≠ gb405) (.slice Ao26 t401.length co26) t401) := ⟨by (with_reducible repeat (first | apply Kd.V_alloc | apply Kd.V_drewN | apply Kd.V_drew)); exact Kd.V_mono (Kd.V_far (p := ⟨gb405, 4, none⟩) (Kd.V_far (p := ⟨gb405, 3, none⟩) (Kd.V_far (p := ⟨gb405, 2, none⟩) (Kd.V_far (p := ⟨gb405, 1, none⟩) (Kd.V_far (p := ⟨gb405, 0, none⟩) (Kd.V_mono HO403.out (fun k_ hk => (⟨hk, hk.2⟩ : _ ∧ k_ ≠ gb405))) (fun _ hk => hk.2) (.string t393)) (fun _ hk => hk.2) (.slice Ao24 t394.length co24)) (fun _ hk => hk.2) (.slice Ao25 t397.length co25)) (fun _ hk => hk.2) (.bool t400)) (fun _ hk => hk.2) (.slice Ao26 t401.length co26)) (fun _ hk => ⟨hk.1.1, hk.1.2⟩)⟩
 have n3_ : Aside0 ((((((w21.setCell ⟨gb405, 0, none⟩ (.string t393)).setCell ⟨gb405, 1, none⟩ (.slice Ao24 t394.length co24)).setCell ⟨gb405, 2, none⟩ (.slice Ao25 t397.length co25)).setCell ⟨gb405, 3, none⟩ (.bool t400)).setCell ⟨gb405, 4, none⟩ (.slice Ao26 t401.length co26)).heap[gb390]? = some (.cells #[.string a0_0, .slice A0_1 l0_1.length c0_1, .slice A0_2 l0_2.length c0_2, .bool a0_3, .slice A0_4 l0_4.length c0_4] 30 (0, 0))) := ⟨by (with_reducible repeat (first | refine blk_drewN ?_ _ | refine blk_drew ?_ | refine blk_alloc ?_ _)); refine blk_far ?_ NB390_405.out _; (with_reducible repeat (first | refine blk_drewN ?_ _ | refine blk_drew ?_ | refine blk_alloc ?_ _)); refine blk_far ?_ NB390_405.out _; (with_reducible repeat (first | refine blk_drewN ?_ _ | refine blk_drew ?_ | refine blk_alloc ?_ _)); refine blk_far ?_ NB390_405.out _; (with_reducible repeat (first | refine blk_drewN ?_ _ | refine blk_drew ?_ | refine blk_alloc ?_ _)); refine blk_far ?_ NB390_405.out _; (with_reducible repeat (first | refine blk_drewN ?_ _ | refine blk_drew ?_ | refine blk_alloc ?_ _)); refine blk_far ?_ NB390_405.out _; (with_reducible repeat (first | refine blk_drewN ?_ _ | refine blk_drew ?_ | refine blk_alloc ?_ _)); exact BK390.out⟩
 have n4_ : Aside0 ((((((w21.setCell ⟨gb405, 0, none⟩ (.string t393)).setCell ⟨gb405, 1, none⟩ (.slice Ao24 t394.length co24)).setCell ⟨gb405, 2, none⟩ (.slice Ao25 t397.length co25)).setCell ⟨gb405, 3, none⟩ (.bool t400)).setCell ⟨gb405, 4, none⟩ (.slice Ao26 t401.length co26)).heap[gb405]? = some (.cells #[.string t393, .slice Ao24 t394.length co24, .slice Ao25 t397.length co25, .bool t400, .slice Ao26 t401.length co26] 30 (0, 0))) := ⟨by (with_reducible repeat (first | refine blk_drewN ?_ _ | refine blk_drew ?_ | refine blk_alloc ?_ _)); refine blk_put (cs := #[.string t393, .slice Ao24 t394.length co24, .slice Ao25 t397.length co25, .bool t400, .slice none 0 0]) ?_ 4 _ rfl; (with_reducible repeat (first | refine blk_drewN ?_ _ | refine blk_drew ?_ | refine blk_alloc ?_ _)); refine blk_put (cs := #[.string t393, .slice Ao24 t394.length co24, .slice Ao25 t397.length co25, .bool false, .slice none 0 0]) ?_ 3 _ rfl; (with_reducible repeat (first | refine blk_drewN ?_ _ | refine blk_drew ?_ | refine blk_alloc ?_ _)); refine blk_put (cs := #[.string t393, .slice Ao24 t394.length co24, .slice none 0 0, .bool false, .slice none 0 0]) ?_ 2 _ rfl; (with_reducible repeat (first | refine blk_drewN ?_ _ | refine blk_drew ?_ | refine blk_alloc ?_ _)); refine blk_put (cs := #[.string t393, .slice none 0 0, .slice none 0 0, .bool false, .slice none 0 0]) ?_ 1 _ rfl; (with_reducible repeat (first | refine blk_drewN ?_ _ | refine blk_drew ?_ | refine blk_alloc ?_ _)); refine blk_put (cs := #[.string (⟨#[]⟩ : ByteArray), .slice none 0 0, .slice none 0 0, .bool false, .slice none 0 0]) ?_ 0 _ rfl; (with_reducible repeat (first | refine blk_drewN ?_ _ | refine blk_drew ?_ | refine blk_alloc ?_ _)); exact BK405.out⟩
 have n5_ : Aside0 (Below w.heap.size w (((((w21.setCell ⟨gb405, 0, none⟩ (.string t393)).setCell ⟨gb405, 1, none⟩ (.slice Ao24 t394.length co24)).setCell ⟨gb405, 2, none⟩ (.slice Ao25 t397.length co25)).setCell ⟨gb405, 3, none⟩ (.bool t400)).setCell ⟨gb405, 4, none⟩ (.slice Ao26 t401.length co26))) := ⟨by repeat (first | (with_reducible first | exact HB.out | apply below_alloc | apply pw_below_drewN | apply below_drew1 | refine below_set ?_ GE390.out | refine below_set ?_ GE405.out) | exact HB.out)⟩
 (try clear HO396)
 (try clear HO399)
 (try clear HO403)
 (try clear BK390)
 (try clear BK405)
 (try clear HB)
 generalize (((((w21.setCell ⟨gb405, 0, none⟩ (.string t393)).setCell ⟨gb405, 1, none⟩ (.slice Ao24 t394.length co24)).setCell ⟨gb405, 2, none⟩ (.slice Ao25 t397.length co25)).setCell ⟨gb405, 3, none⟩ (.bool t400)).setCell ⟨gb405, 4, none⟩ (.slice Ao26 t401.length co26)) = w27 at n0_ n1_ n2_ n3_ n4_ n5_ ⊢
 have HO396 := n0_
 have HO399 := n1_
 have HO403 := n2_
 have BK390 := n3_
 have BK405 := n4_
 have HB := n5_
 clear n0_ n1_ n2_ n3_ n4_ n5_
 have n0_ := Aside0.mk (Kd.V_drew HO396.out)
 have n1_ := Aside0.mk (Kd.V_drew HO399.out)
 have n2_ := Aside0.mk (Kd.V_drew HO403.out)
 have n3_ := Aside0.mk (blk_drew BK390.out)
 have n4_ := Aside0.mk (blk_drew BK405.out)
 have n5_ := Aside0.mk (below_drew1 HB.out)
 clear HO396
 clear HO399
 clear HO403
 clear BK390
 clear BK405
 clear HB
 have HO396 := n0_
 have HO399 := n1_
 have HO403 := n2_
 have BK390 := n3_
 have BK405 := n4_
 have HB := n5_
 clear n0_ n1_ n2_ n3_ n4_ n5_
 refine start_ (n := 9) (S := fun w' => w'.cell? ⟨gb405, 0, none⟩ = some (.string t393) ∧ w'.cell? ⟨gb405, 1, none⟩ = some (.slice Ao24 t394.length co24) ∧ w'.cell? ⟨gb405, 2, none⟩ = some (.slice Ao25 t397.length co25) ∧ w'.cell? ⟨gb405, 3, none⟩ = some (.bool t400) ∧ w'.cell? ⟨gb405, 4, none⟩ = some (.slice Ao26 t401.length co26) ∧ w'.cell? ⟨gb390, 0, none⟩ = some (.string a0_0) ∧ w'.cell? ⟨gb390, 1, none⟩ = some (.slice A0_1 l0_1.length c0_1) ∧ w'.cell? ⟨gb390, 2, none⟩ = some (.slice A0_2 l0_2.length c0_2) ∧ w'.cell? ⟨gb390, 3, none⟩ = some (.bool a0_3) ∧ w'.cell? ⟨gb390, 4, none⟩ = some (.slice A0_4 l0_4.length c0_4)) (ds := []) #[false, false, false, false, false, false, false, false, false] (by kernel_rfl) rfl rfl ⟨(blk_cell BK405.out 0).trans rfl, (blk_cell BK405.out 1).trans rfl, (blk_cell BK405.out 2).trans rfl, (blk_cell BK405.out 3).trans rfl, (blk_cell BK405.out 4).trans rfl, (blk_cell BK390.out 0).trans rfl, (blk_cell BK390.out 1).trans rfl, (blk_cell BK390.out 2).trans rfl, (blk_cell BK390.out 3).trans rfl, (blk_cell BK390.out 4).trans rfl⟩ (fun hHeld => ?_); refine with_tabW fencepostlaw08_SlotsErased.tab7 fencepostlaw08_SlotsErased.bits7 (fun HT_ HW_ => ?_)
 generalize w27.drew = w28 at HO396 HO399 HO403 BK390 BK405 HB hHeld ⊢
 refine pure_ (i := 0) (N := some 31) (v := ?_) (a' := ?_) #[true, false, false, false, false, false, false, false, false] rfl rfl (any_of HT_.out (by kernel_rfl)) (fun _ _ _ h => h) (Or.inl ⟨by rfl, ?_⟩) ?_ ?_; rotate_left; intro w'; go_simp; with_reducible rfl; rotate_left; simp only [Act.put, List.setIfInBounds_toArray, List.set_cons_zero, List.set_cons_succ, i64_w, i32_w]; rfl
 refine pure_ (i := 1) (N := some 32) (v := ?_) (a' := ?_) #[true, true, false, false, false, false, false, false, false] rfl rfl (any_of HT_.out (by kernel_rfl)) (fun _ _ _ h => h) (Or.inl ⟨by rfl, ?_⟩) ?_ ?_; rotate_left; intro w'; go_simp; with_reducible rfl; rotate_left; simp only [Act.put, List.setIfInBounds_toArray, List.set_cons_zero, List.set_cons_succ, i64_w, i32_w]; rfl
 refine pure_ (i := 3) (N := some 34) (v := ?_) (a' := ?_) #[true, true, false, true, false, false, false, false, false] rfl rfl (any_of HT_.out (by kernel_rfl)) (fun _ _ _ h => h) (Or.inl ⟨by rfl, ?_⟩) ?_ ?_; rotate_left; intro w'; go_simp; with_reducible rfl; rotate_left; simp only [Act.put, List.setIfInBounds_toArray, List.set_cons_zero, List.set_cons_succ, i64_w, i32_w]; rfl
 refine take_ (i := 2) (N := some 33) (v := ?_) (a' := ?_) #[true, true, true, true, false, false, false, false, false] rfl rfl (take_ofW HT_.out HW_.out (by kernel_rfl)) (fun _ _ _ h => h) (Or.inl ⟨by rfl, ?_⟩) hHeld ?_ ?_; rotate_left; rintro w' ⟨s0, s1, s2, s3, s4, s5, s6, s7, s8, s9⟩; go_simp; with_reducible rfl; rotate_left; simp only [Act.put, List.setIfInBounds_toArray, List.set_cons_zero, List.set_cons_succ, i64_w, i32_w]; rfl
 refine take_ (i := 5) (N := some 36) (v := ?_) (a' := ?_) #[true, true, true, true, false, true, false, false, false] rfl rfl (take_ofW HT_.out HW_.out (by kernel_rfl)) (fun _ _ _ h => h) (Or.inl ⟨by rfl, ?_⟩) hHeld ?_ ?_; rotate_left; rintro w' ⟨s0, s1, s2, s3, s4, s5, s6, s7, s8, s9⟩; go_simp; with_reducible rfl; rotate_left; simp only [Act.put, List.setIfInBounds_toArray, List.set_cons_zero, List.set_cons_succ, i64_w, i32_w]; rfl
 refine one_ (i := 4) (N := some 35) #[true, true, true, true, true, true, false, false, false] rfl rfl (one_of HT_.out (by kernel_rfl)) (by decide) (fun K hK => ?_)
 refine goes_ Try.func25 (by kernel_rfl) rfl #[.agg #[.string t393, .slice Ao24 t394.length co24, .slice Ao25 t397.length co25, .bool t400, .slice Ao26 t401.length co26], .slice A1 l1.length c1] (by rfl) rfl rfl (by (try simp only [List.map_toArray, List.map_cons, List.map_nil]); first | done | rfl | (simp only [List.length_drop, List.length_take]; rfl)) ?_
 with_reducible refine (slots_Fence.calls t393 (fun k_ => (k_ ≠ gb390 ∧ k_ ≠ gb405)) _ _ t394 _ _ t397 t400 (fun k_ => (k_ ≠ gb390 ∧ k_ ≠ gb405)) _ _ t401 _ _ l1 t406 t407 t410 t413 t414 _ ?side1 ?side2 ?side3 ?side4 ?side5 ?side6 A17.out).mono ?_
 (case side1 => exact HO396.out)
 (case side2 => repeat (first | exact (Kd.V_reads' HO399.out).2.2 | (with_reducible refine Kd.C_alloc ?_ _) | (with_reducible refine Kd.C_drewN ?_ _) | (with_reducible refine Kd.C_drew ?_)))
 (case side3 => exact (Kd.V_reads' HO399.out).2.1)
 (case side4 => exact HO403.out)
 (case side5 => repeat (first | exact (Kd.C_below HR1.out HB.out) | (with_reducible refine Kd.C_alloc ?_ _) | (with_reducible refine Kd.C_drewN ?_ _) | (with_reducible refine Kd.C_drew ?_)))
 (case side6 => exact HC1.out)
 rintro e w29 ⟨v408, v411, v415, rfl, ho0, ho1, ho2, hb⟩
 refine ⟨_, rfl, ?_⟩
 have n0_ := Aside0.mk (Kd.V_elder' (by (with_reducible repeat (first | apply Kd.V_alloc | apply Kd.V_drewN | apply Kd.V_drew)); exact HO396.out) (Kd.S_base ho1) hb)
 have n1_ := Aside0.mk (Kd.V_elder' (by (with_reducible repeat (first | apply Kd.V_alloc | apply Kd.V_drewN | apply Kd.V_drew)); exact HO399.out) (Kd.S_base ho1) hb)
 have n2_ := Aside0.mk (Kd.V_elder' (by (with_reducible repeat (first | apply Kd.V_alloc | apply Kd.V_drewN | apply Kd.V_drew)); exact HO403.out) (Kd.S_base ho1) hb)
 have n3_ := Aside0.mk (Kd.V_lower (Kd.V_mono (ok' := fun k_ => some k_ ≠ (v411 : Value).ownBlock ∧ k_ ≠ gb390 ∧ k_ ≠ gb405) ho0 (fun k_ hk_ => ⟨hk_.2, Or.elim hk_.1 (fun hs_ => Or.elim hs_ (fun hs_ => hs_.1) (fun hs_ => hs_.1)) (fun hn_ => (Kd.freshB (g := gb390) (o := .cells #[.string a0_0, .slice A0_1 l0_1.length c0_1, .slice A0_2 l0_2.length c0_2, .bool a0_3, .slice A0_4 l0_4.length c0_4] 30 (0, 0)) (by (with_reducible repeat (first | refine blk_drewN ?_ _ | refine blk_drew ?_ | refine blk_alloc ?_ _)); exact BK390.out) k_ hn_)), Or.elim hk_.1 (fun hs_ => Or.elim hs_ (fun hs_ => hs_.2) (fun hs_ => hs_.2)) (fun hn_ => (Kd.freshB (g := gb405) (o := .cells #[.string t393, .slice Ao24 t394.length co24, .slice Ao25 t397.length co25, .bool t400, .slice Ao26 t401.length co26] 30 (0, 0)) (by (with_reducible repeat (first | refine blk_drewN ?_ _ | refine blk_drew ?_ | refine blk_alloc ?_ _)); exact BK405.out) k_ hn_))⟩)) (below_size (by repeat (first | (with_reducible first | exact HB.out | apply below_alloc | apply pw_below_drewN | apply below_drew1 | refine below_set ?_ GE390.out | refine below_set ?_ GE405.out) | exact HB.out))))
 have n4_ := Aside0.mk (Kd.S_lower (Kd.S_mono (ok' := fun k_ => True) ho1 (fun _ hk_ => trivial)) (below_size (by repeat (first | (with_reducible first | exact HB.out | apply below_alloc | apply pw_below_drewN | apply below_drew1 | refine below_set ?_ GE390.out | refine below_set ?_ GE405.out) | exact HB.out))))
 have n5_ := Aside0.mk (Kd.V_lower (Kd.V_mono (ok' := fun k_ => some k_ ≠ (v411 : Value).ownBlock ∧ k_ ≠ gb390 ∧ k_ ≠ gb405) ho2 (fun k_ hk_ => ⟨hk_.2, Or.elim hk_.1 (fun hs_ => Or.elim hs_ (fun hs_ => hs_.1) (fun hs_ => hs_.1)) (fun hn_ => (Kd.freshB (g := gb390) (o := .cells #[.string a0_0, .slice A0_1 l0_1.length c0_1, .slice A0_2 l0_2.length c0_2, .bool a0_3, .slice A0_4 l0_4.length c0_4] 30 (0, 0)) (by (with_reducible repeat (first | refine blk_drewN ?_ _ | refine blk_drew ?_ | refine blk_alloc ?_ _)); exact BK390.out) k_ hn_)), Or.elim hk_.1 (fun hs_ => Or.elim hs_ (fun hs_ => hs_.2) (fun hs_ => hs_.2)) (fun hn_ => (Kd.freshB (g := gb405) (o := .cells #[.string t393, .slice Ao24 t394.length co24, .slice Ao25 t397.length co25, .bool t400, .slice Ao26 t401.length co26] 30 (0, 0)) (by (with_reducible repeat (first | refine blk_drewN ?_ _ | refine blk_drew ?_ | refine blk_alloc ?_ _)); exact BK405.out) k_ hn_))⟩)) (below_size (by repeat (first | (with_reducible first | exact HB.out | apply below_alloc | apply pw_below_drewN | apply below_drew1 | refine below_set ?_ GE390.out | refine below_set ?_ GE405.out) | exact HB.out))))
 have n6_ := Aside0.mk (blk_below (g := gb390) (o := .cells #[.string a0_0, .slice A0_1 l0_1.length c0_1, .slice A0_2 l0_2.length c0_2, .bool a0_3, .slice A0_4 l0_4.length c0_4] 30 (0, 0)) (by (with_reducible repeat (first | refine blk_drewN ?_ _ | refine blk_drew ?_ | refine blk_alloc ?_ _)); exact BK390.out) hb)
 have n7_ := Aside0.mk (blk_below (g := gb405) (o := .cells #[.string t393, .slice Ao24 t394.length co24, .slice Ao25 t397.length co25, .bool t400, .slice Ao26 t401.length co26] 30 (0, 0)) (by (with_reducible repeat (first | refine blk_drewN ?_ _ | refine blk_drew ?_ | refine blk_alloc ?_ _)); exact BK405.out) hb)
 have n8_ := Aside0.mk (below_step (by repeat (first | (with_reducible first | exact HB.out | apply below_alloc | apply pw_below_drewN | apply below_drew1 | refine below_set ?_ GE390.out | refine below_set ?_ GE405.out) | exact HB.out)) hb)
 clear HO396
 clear HO399
 clear HO403
 clear BK390
 clear BK405
 clear HB
 have HO396 := n0_
 have HO399 := n1_
 have HO403 := n2_
 have HO409 := n3_
 have HO412 := n4_
 have HO416 := n5_
 have BK390 := n6_
 have BK405 := n7_
 have HB := n8_
 clear n0_ n1_ n2_ n3_ n4_ n5_ n6_ n7_ n8_
 (try clear hb)
 (try clear hb2)
 (try clear hk)
 (try clear hi)
 (try clear ho0)
 (try clear ho1)
 (try clear ho2)
 obtain ⟨Ao30, co30, eo30⟩ := Kd.V_slice HO409.out
 (first | subst eo30 | (injection eo30 with f1_ f2_ f3_; have f4_ := f1_.symm; have f5_ := f3_.symm; clear f1_ f2_ f3_; subst f4_; subst f5_))
 obtain ⟨Ao31, co31, eo31⟩ := Kd.S_slice HO412.out
 (first | subst eo31 | (injection eo31 with f1_ f2_ f3_; have f4_ := f1_.symm; have f5_ := f3_.symm; clear f1_ f2_ f3_; subst f4_; subst f5_))
 obtain ⟨Ao32, co32, eo32⟩ := Kd.V_slice HO416.out
 (first | subst eo32 | (injection eo32 with f1_ f2_ f3_; have f4_ := f1_.symm; have f5_ := f3_.symm; clear f1_ f2_ f3_; subst f4_; subst f5_))
 refine hK.out _ _ ⟨(blk_cell BK405.out 0).trans rfl, (blk_cell BK405.out 1).trans rfl, (blk_cell BK405.out 2).trans rfl, (blk_cell BK405.out 3).trans rfl, (blk_cell BK405.out 4).trans rfl, (blk_cell BK390.out 0).trans rfl, (blk_cell BK390.out 1).trans rfl, (blk_cell BK390.out 2).trans rfl, (blk_cell BK390.out 3).trans rfl, (blk_cell BK390.out 4).trans rfl⟩ (fun hHeld => ?_)
 clear hK K
 refine norm_ (a' := ?_) ?_ ?_
 rotate_left
 ·show Act.put _ (some 35) _ = _
  simp only [Act.put, List.setIfInBounds_toArray, List.set_cons_zero, List.set_cons_succ, i64_w, i32_w]
  rfl
 refine one_ (i := 6) (N := some 37) #[true, true, true, true, true, true, true, false, false] rfl rfl (one_of HT_.out (by kernel_rfl)) (by decide) (fun K hK => ?_)
 refine goes_ Try.func24 (by kernel_rfl) rfl #[.agg #[.string t406, .slice Ao30 t407.length co30, .slice Ao31 t410.length co31, .bool t413, .slice Ao32 t414.length co32], .agg #[.string a0_0, .slice A0_1 l0_1.length c0_1, .slice A0_2 l0_2.length c0_2, .bool a0_3, .slice A0_4 l0_4.length c0_4]] (by rfl) rfl rfl (by (try simp only [List.map_toArray, List.map_cons, List.map_nil]); first | done | rfl | (simp only [List.length_drop, List.length_take]; rfl)) ?_
 with_reducible refine (fencepostref04_Same.calls kj3 t406 _ _ t407 _ _ t410 t413 _ _ t414 a0_0 _ _ l0_1 _ _ l0_2 a0_3 _ _ l0_4 t417 _ ?side1 ?side2 ?side3 ?side4 ?side5 ?side6 ?side7 ?side8 ?side9 ?side10 ?side11 ?side12 A18.out).mono ?_
 (case side1 => repeat (first | exact (Kd.V_reads' HO409.out).2.2 | (with_reducible refine Kd.C_alloc ?_ _) | (with_reducible refine Kd.C_drewN ?_ _) | (with_reducible refine Kd.C_drew ?_)))
 (case side2 => exact (Kd.V_reads' HO409.out).2.1)
 (case side3 => repeat (first | exact (Kd.S_reads' HO412.out).2.2 | (with_reducible refine Kd.C_alloc ?_ _) | (with_reducible refine Kd.C_drewN ?_ _) | (with_reducible refine Kd.C_drew ?_)))
 (case side4 => exact (Kd.S_reads' HO412.out).2.1)
 (case side5 => repeat (first | exact (Kd.V_reads' HO416.out).2.2 | (with_reducible refine Kd.C_alloc ?_ _) | (with_reducible refine Kd.C_drewN ?_ _) | (with_reducible refine Kd.C_drew ?_)))
 (case side6 => exact (Kd.V_reads' HO416.out).2.1)
 (case side7 => repeat (first | exact (Kd.C_below HR0_1.out HB.out) | (with_reducible refine Kd.C_alloc ?_ _) | (with_reducible refine Kd.C_drewN ?_ _) | (with_reducible refine Kd.C_drew ?_)))
 (case side8 => exact HC0_1.out)
 (case side9 => repeat (first | exact (Kd.C_below HR0_2.out HB.out) | (with_reducible refine Kd.C_alloc ?_ _) | (with_reducible refine Kd.C_drewN ?_ _) | (with_reducible refine Kd.C_drew ?_)))
 (case side10 => exact HC0_2.out)
 (case side11 => repeat (first | exact (Kd.C_below HR0_4.out HB.out) | (with_reducible refine Kd.C_alloc ?_ _) | (with_reducible refine Kd.C_drewN ?_ _) | (with_reducible refine Kd.C_drew ?_)))
 (case side12 => exact HC0_4.out)
 rintro e w33 ⟨rfl, hb⟩
 refine ⟨_, rfl, ?_⟩
 have n0_ := Aside0.mk (Kd.V_below (by (with_reducible repeat (first | apply Kd.V_alloc | apply Kd.V_drewN | apply Kd.V_drew)); exact HO396.out) hb)
 have n1_ := Aside0.mk (Kd.V_below (by (with_reducible repeat (first | apply Kd.V_alloc | apply Kd.V_drewN | apply Kd.V_drew)); exact HO399.out) hb)
 have n2_ := Aside0.mk (Kd.V_below (by (with_reducible repeat (first | apply Kd.V_alloc | apply Kd.V_drewN | apply Kd.V_drew)); exact HO403.out) hb)
 have n3_ := Aside0.mk (Kd.V_below (by (with_reducible repeat (first | apply Kd.V_alloc | apply Kd.V_drewN | apply Kd.V_drew)); exact HO409.out) hb)
 have n4_ := Aside0.mk (Kd.S_below (by (with_reducible repeat (first | apply Kd.S_alloc | apply Kd.S_drewN | apply Kd.S_drew)); exact HO412.out) hb)
 have n5_ := Aside0.mk (Kd.V_below (by (with_reducible repeat (first | apply Kd.V_alloc | apply Kd.V_drewN | apply Kd.V_drew)); exact HO416.out) hb)
 have n6_ := Aside0.mk (blk_below (g := gb390) (o := .cells #[.string a0_0, .slice A0_1 l0_1.length c0_1, .slice A0_2 l0_2.length c0_2, .bool a0_3, .slice A0_4 l0_4.length c0_4] 30 (0, 0)) (by (with_reducible repeat (first | refine blk_drewN ?_ _ | refine blk_drew ?_ | refine blk_alloc ?_ _)); exact BK390.out) hb)
 have n7_ := Aside0.mk (blk_below (g := gb405) (o := .cells #[.string t393, .slice Ao24 t394.length co24, .slice Ao25 t397.length co25, .bool t400, .slice Ao26 t401.length co26] 30 (0, 0)) (by (with_reducible repeat (first | refine blk_drewN ?_ _ | refine blk_drew ?_ | refine blk_alloc ?_ _)); exact BK405.out) hb)
 have n8_ := Aside0.mk (below_step (by repeat (first | (with_reducible first | exact HB.out | apply below_alloc | apply pw_below_drewN | apply below_drew1 | refine below_set ?_ GE390.out | refine below_set ?_ GE405.out) | exact HB.out)) hb)
 clear HO396
 clear HO399
 clear HO403
 clear HO409
 clear HO412
 clear HO416
 clear BK390
 clear BK405
 clear HB
 have HO396 := n0_
 have HO399 := n1_
 have HO403 := n2_
 have HO409 := n3_
 have HO412 := n4_
 have HO416 := n5_
 have BK390 := n6_
 have BK405 := n7_
 have HB := n8_
 clear n0_ n1_ n2_ n3_ n4_ n5_ n6_ n7_ n8_
 (try clear hb)
 (try clear hb2)
 (try clear hk)
 (try clear hi)
 refine hK.out _ _ ⟨(blk_cell BK405.out 0).trans rfl, (blk_cell BK405.out 1).trans rfl, (blk_cell BK405.out 2).trans rfl, (blk_cell BK405.out 3).trans rfl, (blk_cell BK405.out 4).trans rfl, (blk_cell BK390.out 0).trans rfl, (blk_cell BK390.out 1).trans rfl, (blk_cell BK390.out 2).trans rfl, (blk_cell BK390.out 3).trans rfl, (blk_cell BK390.out 4).trans rfl⟩ (fun hHeld => ?_)
 clear hK K
 refine norm_ (a' := ?_) ?_ ?_
 rotate_left
 ·show Act.put _ (some 37) _ = _
  simp only [Act.put, List.setIfInBounds_toArray, List.set_cons_zero, List.set_cons_succ, i64_w, i32_w]
  rfl
 refine pure_ (i := 7) (N := some 38) (v := ?_) (a' := ?_) #[true, true, true, true, true, true, true, true, false] rfl rfl (any_of HT_.out (by kernel_rfl)) (fun _ _ _ h => h) (Or.inl ⟨by rfl, ?_⟩) ?_ ?_; rotate_left; intro w'; go_simp; with_reducible rfl; rotate_left; simp only [Act.put, List.setIfInBounds_toArray, List.set_cons_zero, List.set_cons_succ, i64_w, i32_w]; rfl
 refine pure_ (i := 8) (N := some 4) (v := ?_) (a' := ?_) #[true, true, true, true, true, true, true, true, true] rfl rfl (any_of HT_.out (by kernel_rfl)) (fun _ _ _ h => h) (Or.inl ⟨by rfl, ?_⟩) ?_ ?_; rotate_left; intro w'; go_simp; with_reducible rfl; rotate_left; simp only [Act.put, List.setIfInBounds_toArray, List.set_cons_zero, List.set_cons_succ, i64_w, i32_w]; rfl
 refine done_ (done_of HT_.out (by kernel_rfl)) ?_
 try go_wp2
 go_ret
 exact ⟨by first | rfl | (simp [errW_none, errW_some] <;> rfl) | (simp [*, errW_none, errW_some] <;> rfl), by repeat (first | (with_reducible first | exact HB.out | apply below_alloc | apply pw_below_drewN | apply below_drew1 | refine below_set ?_ GE390.out | refine below_set ?_ GE405.out) | exact HB.out)⟩
end Go.Proofs.Ytijpfonbeepmfaa.Print
