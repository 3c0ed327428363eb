-- Written by ownprint.py (this session's) with the kit's print.py: functions, contracts, rows; Lean checks it.
import Derived.Test.YtijpfonbeepmfaaPrint0
import Derived.Test.YtijpfonbeepmfaaPrint6
import Derived.Test.YtijpfonbeepmfaaPrint10
import Derived.Test.YtijpfonbeepmfaaPrint11
import Derived.Test.YtijpfonbeepmfaaHHead08
import Derived.Test.YtijpfonbeepmfaaHSlErase
import Derived.Test.YtijpfonbeepmfaaHSlFence
import Derived.Test.YtijpfonbeepmfaaHSlOf
namespace Go.Proofs.Ytijpfonbeepmfaa.Print
open Go.RowKit Go.Proofs.YtijpfonbeepmfaaW.PrintWords Go.Proofs.YtijpfonbeepmfaaW.PrintLast Go.Proofs.YtijpfonbeepmfaaW.PrintMore
attribute [local go_sem] max2_int min2_int max_two min_two max_three min_three max_four min_four   -- for this text's walks alone
set_option linter.unusedVariables false
set_option linter.unusedSimpArgs false
def fencepostlaw08_SlotsNums.j0 : Nat → Int → Int → Bool → Bool → List Int → List (List (S53)) → Option (Bool)
 | 0, _, _, _, _, _, _ => none
 | k + 1, x2, x3, x9, x48, x349000, x349001 => if x48 = true then (some false) else ((slots_Num.f x349000 x349001 x2 x3).bind fun t357 => (if t357 < 0 then (if x9 = true then (some (t357 == (-1))) else (some false)) else ((slots_Of.f x349000 x349001 t357).bind fun bt358 => (if x9 = true then (if bt358.2.2 = true then (if bt358.1 = x2 then (some (bt358.2.1 == x3)) else (some false)) else (some false)) else (some false)))))
def fencepostlaw08_SlotsNums.f (k : Nat) (l0_0 : List Int) (l0_1 : List (List (S53))) (a1 : Int) (a2 : Int) (a3 : Int) : Option (Bool) := (fencepostlaw08_head.f).bind fun t349 => ((fencepostlaw08_Great.f k l0_0 l0_1).bind fun t350 => (if t350 = true then (some t349) else ((slots_Of.f l0_0 l0_1 a1).bind fun bt351 => (if a1 ≥ 0 then ((slots_Many.f l0_0 l0_1).bind fun t354 => (if (bt351.2.2 != (decide (a1 < t354))) = true then (fencepostlaw08_SlotsNums.j0 k a2 a3 t349 true l0_0 l0_1) else (if bt351.2.2 = true then ((slots_Num.f l0_0 l0_1 bt351.1 bt351.2.1).bind fun t355 => (fencepostlaw08_SlotsNums.j0 k a2 a3 t349 (t355 != a1) l0_0 l0_1)) else (fencepostlaw08_SlotsNums.j0 k a2 a3 t349 false l0_0 l0_1)))) else (if (bt351.2.2 != false) = true then (fencepostlaw08_SlotsNums.j0 k a2 a3 t349 true l0_0 l0_1) else (if bt351.2.2 = true then ((slots_Num.f l0_0 l0_1 bt351.1 bt351.2.1).bind fun t356 => (fencepostlaw08_SlotsNums.j0 k a2 a3 t349 (t356 != a1) l0_0 l0_1)) else (fencepostlaw08_SlotsNums.j0 k a2 a3 t349 false l0_0 l0_1)))))))
theorem fencepostlaw08_SlotsNums.mono_l : ∀ k, (∀ y0 y1 y2 y3 y4 y5, LeO (fencepostlaw08_SlotsNums.j0 k y0 y1 y2 y3 y4 y5) (fencepostlaw08_SlotsNums.j0 (k + 1) y0 y1 y2 y3 y4 y5))
 | 0 => fun _ _ _ _ _ _ r h => by simp [fencepostlaw08_SlotsNums.j0] at h
 | k + 1 => by
  have ih0 := fencepostlaw08_SlotsNums.mono_l k
  ·intro y0 y1 y2 y3 y4 y5
   unfold fencepostlaw08_SlotsNums.j0
   repeat' first
   | (with_reducible exact ih0 _ _ _ _ _ _)
   | (with_reducible exact fencepostlaw08_Great.mono _ _ _)
   | (with_reducible exact LeO.refl _)
   | (with_reducible exact LeO.none _)
   | (with_reducible refine LeO.ite ?_ ?_)
   | (with_reducible refine LeO.bind ?_ (fun _ => ?_))
   | exact ih0 _ _ _ _ _ _
   | exact fencepostlaw08_Great.mono _ _ _
   | exact LeO.none _
   | refine LeO.ite ?_ ?_
   | refine LeO.bind ?_ (fun _ => ?_)
theorem fencepostlaw08_SlotsNums.mono : ∀ a0 a1 a2 a3 a4 k, LeO (fencepostlaw08_SlotsNums.f k a0 a1 a2 a3 a4) (fencepostlaw08_SlotsNums.f (k + 1) a0 a1 a2 a3 a4) := by
 intro a0 a1 a2 a3 a4 k
 have ih0 := fencepostlaw08_SlotsNums.mono_l k
 unfold fencepostlaw08_SlotsNums.f
 repeat' first
  | (with_reducible exact ih0 _ _ _ _ _ _)
  | (with_reducible exact fencepostlaw08_Great.mono _ _ _)
  | (with_reducible exact LeO.refl _)
  | (with_reducible exact LeO.none _)
  | (with_reducible refine LeO.ite ?_ ?_)
  | (with_reducible refine LeO.bind ?_ (fun _ => ?_))
  | exact ih0 _ _ _ _ _ _
  | exact fencepostlaw08_Great.mono _ _ _
  | exact LeO.none _
  | refine LeO.ite ?_ ?_
  | refine LeO.bind ?_ (fun _ => ?_)
set_option maxHeartbeats 8000000 in
set_option maxRecDepth 100000 in
theorem fencepostlaw08_SlotsNums.calls (k : Nat) (A0_0 : Option Addr) (c0_0 : Nat) (l0_0 : List Int) (A0_1 : Option Addr) (c0_1 : Nat) (l0_1 : List (List (S53))) (a1 : Int) (a2 : Int) (a3 : Int) (r : Bool) (w : World) (hr0_0 : Kd.C (Kd.int .i64) w A0_0 l0_0.length l0_0) (hc0_0 : l0_0.length ≤ c0_0) (hr0_1 : Kd.C (Kd.slice 53 k53) w A0_1 l0_1.length l0_1) (hc0_1 : l0_1.length ≤ c0_1) (ht_ : r = true) (h : fencepostlaw08_SlotsNums.f k l0_0 l0_1 a1 a2 a3 = some r) :
 Calls Try.prog 4 #[.agg #[.slice A0_0 l0_0.length c0_0, .slice A0_1 l0_1.length c0_1], .int .i64 a1, .int .i64 a2, .int .i64 a3] w fun e w' => e = .returned (.bool r) ∧ Below w.heap.size w w' := by
 have hu25 := Try.underlying25
 have HR0_0 := Aside0.mk hr0_0
 have HC0_0 := Aside0.mk hc0_0
 clear hr0_0 hc0_0
 have HR0_1 := Aside0.mk hr0_1
 have HC0_1 := Aside0.mk hc0_1
 clear hr0_1 hc0_1
 have HB := Aside0.mk (Below.refl w.heap.size w)
 have HT := Aside0.mk ht_
 clear ht_
 have H : ((fencepostlaw08_head.f).bind fun t349 => ((fencepostlaw08_Great.f k l0_0 l0_1).bind fun t350 => (if t350 = true then (some t349) else ((slots_Of.f l0_0 l0_1 a1).bind fun bt351 => (if a1 ≥ 0 then ((slots_Many.f l0_0 l0_1).bind fun t354 => (if (bt351.2.2 != (decide (a1 < t354))) = true then (fencepostlaw08_SlotsNums.j0 k a2 a3 t349 true l0_0 l0_1) else (if bt351.2.2 = true then ((slots_Num.f l0_0 l0_1 bt351.1 bt351.2.1).bind fun t355 => (fencepostlaw08_SlotsNums.j0 k a2 a3 t349 (t355 != a1) l0_0 l0_1)) else (fencepostlaw08_SlotsNums.j0 k a2 a3 t349 false l0_0 l0_1)))) else (if (bt351.2.2 != false) = true then (fencepostlaw08_SlotsNums.j0 k a2 a3 t349 true l0_0 l0_1) else (if bt351.2.2 = true then ((slots_Num.f l0_0 l0_1 bt351.1 bt351.2.1).bind fun t356 => (fencepostlaw08_SlotsNums.j0 k a2 a3 t349 (t356 != a1) l0_0 l0_1)) else (fencepostlaw08_SlotsNums.j0 k a2 a3 t349 false l0_0 l0_1)))))))) = some r := h
 clear h
 replace H := Option.bind_eq_some_iff.mp H
 obtain ⟨t349, A50, H⟩ := H
 replace H : ((fencepostlaw08_Great.f k l0_0 l0_1).bind fun t350 => (if t350 = true then (some t349) else ((slots_Of.f l0_0 l0_1 a1).bind fun bt351 => (if a1 ≥ 0 then ((slots_Many.f l0_0 l0_1).bind fun t354 => (if (bt351.2.2 != (decide (a1 < t354))) = true then (fencepostlaw08_SlotsNums.j0 k a2 a3 t349 true l0_0 l0_1) else (if bt351.2.2 = true then ((slots_Num.f l0_0 l0_1 bt351.1 bt351.2.1).bind fun t355 => (fencepostlaw08_SlotsNums.j0 k a2 a3 t349 (t355 != a1) l0_0 l0_1)) else (fencepostlaw08_SlotsNums.j0 k a2 a3 t349 false l0_0 l0_1)))) else (if (bt351.2.2 != false) = true then (fencepostlaw08_SlotsNums.j0 k a2 a3 t349 true l0_0 l0_1) else (if bt351.2.2 = true then ((slots_Num.f l0_0 l0_1 bt351.1 bt351.2.1).bind fun t356 => (fencepostlaw08_SlotsNums.j0 k a2 a3 t349 (t356 != a1) l0_0 l0_1)) else (fencepostlaw08_SlotsNums.j0 k a2 a3 t349 false l0_0 l0_1))))))) = some r := H
 have A5 := Aside0.mk A50
 clear A50
 replace H := Option.bind_eq_some_iff.mp H
 obtain ⟨t350, A60, H⟩ := H
 replace H : (if t350 = true then (some t349) else ((slots_Of.f l0_0 l0_1 a1).bind fun bt351 => (if a1 ≥ 0 then ((slots_Many.f l0_0 l0_1).bind fun t354 => (if (bt351.2.2 != (decide (a1 < t354))) = true then (fencepostlaw08_SlotsNums.j0 k a2 a3 t349 true l0_0 l0_1) else (if bt351.2.2 = true then ((slots_Num.f l0_0 l0_1 bt351.1 bt351.2.1).bind fun t355 => (fencepostlaw08_SlotsNums.j0 k a2 a3 t349 (t355 != a1) l0_0 l0_1)) else (fencepostlaw08_SlotsNums.j0 k a2 a3 t349 false l0_0 l0_1)))) else (if (bt351.2.2 != false) = true then (fencepostlaw08_SlotsNums.j0 k a2 a3 t349 true l0_0 l0_1) else (if bt351.2.2 = true then ((slots_Num.f l0_0 l0_1 bt351.1 bt351.2.1).bind fun t356 => (fencepostlaw08_SlotsNums.j0 k a2 a3 t349 (t356 != a1) l0_0 l0_1)) else (fencepostlaw08_SlotsNums.j0 k a2 a3 t349 false l0_0 l0_1)))))) = some r := H
 have A6 := Aside0.mk A60
 clear A60
 by_cases c7 : t350 = true
 ·subst c7
  have H1 : (some t349) = some r := by rw [if_pos rfl] at H; exact H
  clear H
  have H := H1
  clear H1
  obtain rfl := Option.some.inj H
  go_enter Try.func4, Try.ntmps4
  (try simp only [List.append_eq, List.cons_append, List.nil_append])
  go_wp2_with (first | ((with_reducible refine gate_dst (N := 4) rfl ?_); refine box_event ?hg (N := 4) ?hd (cs := #[.slice A0_0 l0_0.length c0_0, .slice A0_1 l0_1.length c0_1]) (t := 25) ?hr ?_; (case hd => rfl); (case hg => rfl); (case hr => first | (go_simp; done) | (go_simp; rfl)); intro gb348 hg w8 hbox hb; have n0_ := Aside0.mk (below_step (by repeat (first | (with_reducible first | exact HB.out | apply below_alloc | apply pw_below_drewN | apply below_drew1) | exact HB.out)) hb); have n1_ := Aside0.mk (hbox); have n2_ := Aside0.mk ((by rw [hg]; exact (below_size (by repeat (first | (with_reducible first | exact HB.out | apply below_alloc | apply pw_below_drewN | apply below_drew1) | exact HB.out))) : w.heap.size ≤ gb348)); have n3_ := Aside0.mk ((by rw [hg]; exact (below_size (by repeat (first | (with_reducible first | exact HB.out | apply below_alloc | apply pw_below_drewN | apply below_drew1) | exact HB.out))) : w.heap.size ≤ gb348)); clear HB; have HB := n0_; have BK348 := n1_; have GW348 := n2_; have GE348 := n3_; clear n0_ n1_ n2_ n3_; clear hb hbox hg) | ((with_reducible refine gate_callee (f := 10) rfl ?_); refine goesL_ (some 17) rfl rfl Try.func10 (by kernel_rfl) rfl #[] rfl (by (try simp only [List.map_toArray, List.map_cons, List.map_nil]); first | done | rfl | (simp only [List.length_drop, List.length_take]; rfl)) ?_; (with_reducible refine (fencepostlaw08_head.calls  t349 _ A5.out).mono ?_); rintro e w9 ⟨rfl, hb⟩; refine ⟨_, rfl, ?_⟩; have n0_ := Aside0.mk (blk_below (g := gb348) (o := .cells #[.slice A0_0 l0_0.length c0_0, .slice A0_1 l0_1.length c0_1] 25 (0, 0)) (by (with_reducible repeat (first | refine blk_drewN ?_ _ | refine blk_drew ?_ | refine blk_alloc ?_ _)); exact BK348.out) hb); have n1_ := Aside0.mk (below_step (by repeat (first | (with_reducible first | exact HB.out | apply below_alloc | apply pw_below_drewN | apply below_drew1 | refine below_set ?_ GE348.out) | exact HB.out)) hb); clear BK348; clear HB; have BK348 := n0_; have HB := n1_; clear n0_ n1_; (try clear hb); (try clear hb2); (try clear hk); (try clear hi); have hcz10_0 : w9.cell? ⟨gb348, 0, none⟩ = some (.slice A0_0 l0_0.length c0_0) := (blk_cell BK348.out 0).trans rfl; have hcz10_1 : w9.cell? ⟨gb348, 1, none⟩ = some (.slice A0_1 l0_1.length c0_1) := (blk_cell BK348.out 1).trans rfl; have hfz10_0 := blk_frozen BK348.out 0; have hfz10_1 := blk_frozen BK348.out 1) | ((with_reducible refine gate_callee (f := 11) rfl ?_); refine goesL_ (some 19) rfl rfl Try.func11 (by kernel_rfl) rfl #[.agg #[.slice A0_0 l0_0.length c0_0, .slice A0_1 l0_1.length c0_1]] rfl (by (try simp only [List.map_toArray, List.map_cons, List.map_nil]); first | done | rfl | (simp only [List.length_drop, List.length_take]; rfl)) ?_; (with_reducible refine (fencepostlaw08_Great.calls k _ _ l0_0 _ _ l0_1 true _ ?side1 ?side2 ?side3 ?side4 A6.out).mono ?_); (case side1 => repeat (first | exact (Kd.C_below HR0_0.out HB.out) | (with_reducible refine Kd.C_alloc ?_ _) | (with_reducible refine Kd.C_drewN ?_ _) | (with_reducible refine Kd.C_drew ?_))); (case side2 => exact HC0_0.out); (case side3 => repeat (first | exact (Kd.C_below HR0_1.out HB.out) | (with_reducible refine Kd.C_alloc ?_ _) | (with_reducible refine Kd.C_drewN ?_ _) | (with_reducible refine Kd.C_drew ?_))); (case side4 => exact HC0_1.out); rintro e w11 ⟨rfl, hb⟩; refine ⟨_, rfl, ?_⟩; have n0_ := Aside0.mk (blk_below (g := gb348) (o := .cells #[.slice A0_0 l0_0.length c0_0, .slice A0_1 l0_1.length c0_1] 25 (0, 0)) (by (with_reducible repeat (first | refine blk_drewN ?_ _ | refine blk_drew ?_ | refine blk_alloc ?_ _)); exact BK348.out) hb); have n1_ := Aside0.mk (below_step (by repeat (first | (with_reducible first | exact HB.out | apply below_alloc | apply pw_below_drewN | apply below_drew1 | refine below_set ?_ GE348.out) | exact HB.out)) hb); clear BK348; clear HB; have BK348 := n0_; have HB := n1_; clear n0_ n1_; (try clear hb); (try clear hb2); (try clear hk); (try clear hi)))
  go_ret
  exact ⟨by first | rfl | (simp [errW_none, errW_some] <;> rfl) | (simp [*, errW_none, errW_some] <;> rfl), by repeat (first | (with_reducible first | exact HB.out | apply below_alloc | apply pw_below_drewN | apply below_drew1 | refine below_set ?_ GE348.out) | exact HB.out)⟩
 replace c7 := Bool.eq_false_iff.mpr c7
 subst c7
 have H1 : ((slots_Of.f l0_0 l0_1 a1).bind fun bt351 => (if a1 ≥ 0 then ((slots_Many.f l0_0 l0_1).bind fun t354 => (if (bt351.2.2 != (decide (a1 < t354))) = true then (fencepostlaw08_SlotsNums.j0 k a2 a3 t349 true l0_0 l0_1) else (if bt351.2.2 = true then ((slots_Num.f l0_0 l0_1 bt351.1 bt351.2.1).bind fun t355 => (fencepostlaw08_SlotsNums.j0 k a2 a3 t349 (t355 != a1) l0_0 l0_1)) else (fencepostlaw08_SlotsNums.j0 k a2 a3 t349 false l0_0 l0_1)))) else (if (bt351.2.2 != false) = true then (fencepostlaw08_SlotsNums.j0 k a2 a3 t349 true l0_0 l0_1) else (if bt351.2.2 = true then ((slots_Num.f l0_0 l0_1 bt351.1 bt351.2.1).bind fun t356 => (fencepostlaw08_SlotsNums.j0 k a2 a3 t349 (t356 != a1) l0_0 l0_1)) else (fencepostlaw08_SlotsNums.j0 k a2 a3 t349 false l0_0 l0_1))))) = some r := by rw [if_neg (show ¬ (false = true) by decide)] at H; exact H
 clear H
 have H := H1
 clear H1
 replace H := Option.bind_eq_some_iff.mp H
 obtain ⟨⟨t351, t352, t353⟩, A120, H⟩ := H
 replace H : (if a1 ≥ 0 then ((slots_Many.f l0_0 l0_1).bind fun t354 => (if (t353 != (decide (a1 < t354))) = true then (fencepostlaw08_SlotsNums.j0 k a2 a3 t349 true l0_0 l0_1) else (if t353 = true then ((slots_Num.f l0_0 l0_1 t351 t352).bind fun t355 => (fencepostlaw08_SlotsNums.j0 k a2 a3 t349 (t355 != a1) l0_0 l0_1)) else (fencepostlaw08_SlotsNums.j0 k a2 a3 t349 false l0_0 l0_1)))) else (if (t353 != false) = true then (fencepostlaw08_SlotsNums.j0 k a2 a3 t349 true l0_0 l0_1) else (if t353 = true then ((slots_Num.f l0_0 l0_1 t351 t352).bind fun t356 => (fencepostlaw08_SlotsNums.j0 k a2 a3 t349 (t356 != a1) l0_0 l0_1)) else (fencepostlaw08_SlotsNums.j0 k a2 a3 t349 false l0_0 l0_1)))) = some r := H
 have A12 := Aside0.mk A120
 clear A120
 have HC13 := Aside0.mk H
 clear H
 go_enter Try.func4, Try.ntmps4
 (try simp only [List.append_eq, List.cons_append, List.nil_append])
 go_upto_region 5 with (first | ((with_reducible refine gate_dst (N := 4) rfl ?_); refine box_event ?hg (N := 4) ?hd (cs := #[.slice A0_0 l0_0.length c0_0, .slice A0_1 l0_1.length c0_1]) (t := 25) ?hr ?_; (case hd => rfl); (case hg => rfl); (case hr => first | (go_simp; done) | (go_simp; rfl)); intro gb348 hg w14 hbox hb; have n0_ := Aside0.mk (below_step (by repeat (first | (with_reducible first | exact HB.out | apply below_alloc | apply pw_below_drewN | apply below_drew1) | exact HB.out)) hb); have n1_ := Aside0.mk (hbox); have n2_ := Aside0.mk ((by rw [hg]; exact (below_size (by repeat (first | (with_reducible first | exact HB.out | apply below_alloc | apply pw_below_drewN | apply below_drew1) | exact HB.out))) : w.heap.size ≤ gb348)); have n3_ := Aside0.mk ((by rw [hg]; exact (below_size (by repeat (first | (with_reducible first | exact HB.out | apply below_alloc | apply pw_below_drewN | apply below_drew1) | exact HB.out))) : w.heap.size ≤ gb348)); clear HB; have HB := n0_; have BK348 := n1_; have GW348 := n2_; have GE348 := n3_; clear n0_ n1_ n2_ n3_; clear hb hbox hg) | ((with_reducible refine gate_callee (f := 10) rfl ?_); refine goesL_ (some 17) rfl rfl Try.func10 (by kernel_rfl) rfl #[] rfl (by (try simp only [List.map_toArray, List.map_cons, List.map_nil]); first | done | rfl | (simp only [List.length_drop, List.length_take]; rfl)) ?_; (with_reducible refine (fencepostlaw08_head.calls  t349 _ A5.out).mono ?_); rintro e w15 ⟨rfl, hb⟩; refine ⟨_, rfl, ?_⟩; have n0_ := Aside0.mk (blk_below (g := gb348) (o := .cells #[.slice A0_0 l0_0.length c0_0, .slice A0_1 l0_1.length c0_1] 25 (0, 0)) (by (with_reducible repeat (first | refine blk_drewN ?_ _ | refine blk_drew ?_ | refine blk_alloc ?_ _)); exact BK348.out) hb); have n1_ := Aside0.mk (below_step (by repeat (first | (with_reducible first | exact HB.out | apply below_alloc | apply pw_below_drewN | apply below_drew1 | refine below_set ?_ GE348.out) | exact HB.out)) hb); clear BK348; clear HB; have BK348 := n0_; have HB := n1_; clear n0_ n1_; (try clear hb); (try clear hb2); (try clear hk); (try clear hi); have hcz16_0 : w15.cell? ⟨gb348, 0, none⟩ = some (.slice A0_0 l0_0.length c0_0) := (blk_cell BK348.out 0).trans rfl; have hcz16_1 : w15.cell? ⟨gb348, 1, none⟩ = some (.slice A0_1 l0_1.length c0_1) := (blk_cell BK348.out 1).trans rfl; have hfz16_0 := blk_frozen BK348.out 0; have hfz16_1 := blk_frozen BK348.out 1) | ((with_reducible refine gate_callee (f := 11) rfl ?_); refine goesL_ (some 19) rfl rfl Try.func11 (by kernel_rfl) rfl #[.agg #[.slice A0_0 l0_0.length c0_0, .slice A0_1 l0_1.length c0_1]] rfl (by (try simp only [List.map_toArray, List.map_cons, List.map_nil]); first | done | rfl | (simp only [List.length_drop, List.length_take]; rfl)) ?_; (with_reducible refine (fencepostlaw08_Great.calls k _ _ l0_0 _ _ l0_1 false _ ?side1 ?side2 ?side3 ?side4 A6.out).mono ?_); (case side1 => repeat (first | exact (Kd.C_below HR0_0.out HB.out) | (with_reducible refine Kd.C_alloc ?_ _) | (with_reducible refine Kd.C_drewN ?_ _) | (with_reducible refine Kd.C_drew ?_))); (case side2 => exact HC0_0.out); (case side3 => repeat (first | exact (Kd.C_below HR0_1.out HB.out) | (with_reducible refine Kd.C_alloc ?_ _) | (with_reducible refine Kd.C_drewN ?_ _) | (with_reducible refine Kd.C_drew ?_))); (case side4 => exact HC0_1.out); rintro e w17 ⟨rfl, hb⟩; refine ⟨_, rfl, ?_⟩; have n0_ := Aside0.mk (blk_below (g := gb348) (o := .cells #[.slice A0_0 l0_0.length c0_0, .slice A0_1 l0_1.length c0_1] 25 (0, 0)) (by (with_reducible repeat (first | refine blk_drewN ?_ _ | refine blk_drew ?_ | refine blk_alloc ?_ _)); exact BK348.out) hb); have n1_ := Aside0.mk (below_step (by repeat (first | (with_reducible first | exact HB.out | apply below_alloc | apply pw_below_drewN | apply below_drew1 | refine below_set ?_ GE348.out) | exact HB.out)) hb); clear BK348; clear HB; have BK348 := n0_; have HB := n1_; clear n0_ n1_; (try clear hb); (try clear hb2); (try clear hk); (try clear hi); have hcz18_0 : w17.cell? ⟨gb348, 0, none⟩ = some (.slice A0_0 l0_0.length c0_0) := (blk_cell BK348.out 0).trans rfl; have hcz18_1 : w17.cell? ⟨gb348, 1, none⟩ = some (.slice A0_1 l0_1.length c0_1) := (blk_cell BK348.out 1).trans rfl; have hfz18_0 := blk_frozen BK348.out 0; have hfz18_1 := blk_frozen BK348.out 1) | ((with_reducible refine gate_callee (f := 13) rfl ?_); refine goesL_ (some 24) rfl rfl Try.func13 (by kernel_rfl) rfl #[.agg #[.slice A0_0 l0_0.length c0_0, .slice A0_1 l0_1.length c0_1], .int .i64 a1] rfl (by (try simp only [List.map_toArray, List.map_cons, List.map_nil]); first | done | rfl | (simp only [List.length_drop, List.length_take]; rfl)) ?_; (with_reducible refine (slots_Of.calls _ _ l0_0 _ _ l0_1 a1 t351 t352 t353 _ ?side1 ?side2 ?side3 ?side4 A12.out).mono ?_); (case side1 => repeat (first | exact (Kd.C_below HR0_0.out HB.out) | (with_reducible refine Kd.C_alloc ?_ _) | (with_reducible refine Kd.C_drewN ?_ _) | (with_reducible refine Kd.C_drew ?_))); (case side2 => exact HC0_0.out); (case side3 => repeat (first | exact (Kd.C_below HR0_1.out HB.out) | (with_reducible refine Kd.C_alloc ?_ _) | (with_reducible refine Kd.C_drewN ?_ _) | (with_reducible refine Kd.C_drew ?_))); (case side4 => exact HC0_1.out); rintro e w19 ⟨rfl, hb⟩; refine ⟨_, rfl, ?_⟩; have n0_ := Aside0.mk (blk_below (g := gb348) (o := .cells #[.slice A0_0 l0_0.length c0_0, .slice A0_1 l0_1.length c0_1] 25 (0, 0)) (by (with_reducible repeat (first | refine blk_drewN ?_ _ | refine blk_drew ?_ | refine blk_alloc ?_ _)); exact BK348.out) hb); have n1_ := Aside0.mk (below_step (by repeat (first | (with_reducible first | exact HB.out | apply below_alloc | apply pw_below_drewN | apply below_drew1 | refine below_set ?_ GE348.out) | exact HB.out)) hb); clear BK348; clear HB; have BK348 := n0_; have HB := n1_; clear n0_ n1_; (try clear hb); (try clear hb2); (try clear hk); (try clear hi)))
 (try simp only [Act.put, List.setIfInBounds_toArray, List.set_cons_zero, List.set_cons_succ])
 go_cut [48] (fun v48 wc => ∃ (kq : Nat) (x48_12 : Bool), v48 = .bool x48_12 ∧ Aside0 (fencepostlaw08_SlotsNums.j0 kq a2 a3 t349 x48_12 l0_0 l0_1 = some r) ∧ Aside0 (kq ≤ k) ∧ Aside0 (wc.heap[gb348]? = some (.cells #[(.slice A0_0 l0_0.length c0_0), (.slice A0_1 l0_1.length c0_1)] 25 (0, 0))) ∧ Aside0 (Below w.heap.size w wc))
 case first =>
  have H := HC13.out
  clear HC13
  by_cases c20 : a1 ≥ 0
  rotate_left
  ·rw [if_neg c20] at H
   have c20b0 : decide (0 ≤ a1) = false := decide_eq_false c20
   clear c20
   (first | rw [c20b0] | (simp only [i64_w, i32_w]; rw [c20b0]) | skip)
   by_cases c33 : (t353 != false) = true
   ·rw [if_pos c33] at H
    have c33b0 : (t353 != false) = true := c33
    (try (have c33b1 : decide (t353 = false) = false := by simpa using c33))
    (try (have c33b2 : (t353 == false) = false := by simpa using c33))
    (try (have c33b3 : ¬ (t353 = false) := by simpa using c33))
    clear c33
    have H' := Aside0.mk H
    clear H
    go_wp2
    go_meet
    case rel => exact ⟨_, (true), (by first | rfl | (simp; done) | (simp [*]; done)), H', ⟨by first | omega | exact Nat.le_refl _⟩, ⟨by (with_reducible repeat (first | refine blk_drewN ?_ _ | refine blk_drew ?_ | refine blk_alloc ?_ _)); exact BK348.out⟩, ⟨by repeat (first | (with_reducible first | exact HB.out | apply below_alloc | apply pw_below_drewN | apply below_drew1 | refine below_set ?_ GE348.out) | exact HB.out)⟩⟩
   rw [if_neg c33] at H
   have c33b0 : (t353 != false) = false := by simpa using c33
   (try (have c33b1 : decide (t353 = false) = true := by simpa using c33))
   (try (have c33b2 : (t353 == false) = true := by simpa using c33))
   clear c33
   by_cases c34 : t353 = true
   rotate_left
   ·replace c34 := Bool.eq_false_iff.mpr c34
    subst c34
    have H1 : (fencepostlaw08_SlotsNums.j0 k a2 a3 t349 false l0_0 l0_1) = some r := by rw [if_neg (show ¬ (false = true) by decide)] at H; exact H
    clear H
    have H := H1
    clear H1
    have H' := Aside0.mk H
    clear H
    go_wp2
    go_meet
    case rel => exact ⟨_, (false), (by first | rfl | (simp; done) | (simp [*]; done)), H', ⟨by first | omega | exact Nat.le_refl _⟩, ⟨by (with_reducible repeat (first | refine blk_drewN ?_ _ | refine blk_drew ?_ | refine blk_alloc ?_ _)); exact BK348.out⟩, ⟨by repeat (first | (with_reducible first | exact HB.out | apply below_alloc | apply pw_below_drewN | apply below_drew1 | refine below_set ?_ GE348.out) | exact HB.out)⟩⟩
   subst c34
   have H1 : ((slots_Num.f l0_0 l0_1 t351 t352).bind fun t356 => (fencepostlaw08_SlotsNums.j0 k a2 a3 t349 (t356 != a1) l0_0 l0_1)) = some r := by rw [if_pos rfl] at H; exact H
   clear H
   have H := H1
   clear H1
   replace H := Option.bind_eq_some_iff.mp H
   obtain ⟨t356, A350, H⟩ := H
   replace H : (fencepostlaw08_SlotsNums.j0 k a2 a3 t349 (t356 != a1) l0_0 l0_1) = some r := H
   have A35 := Aside0.mk A350
   clear A350
   have H' := Aside0.mk H
   clear H
   have hcz36_0 : w19.cell? ⟨gb348, 0, none⟩ = some (.slice A0_0 l0_0.length c0_0) := (blk_cell BK348.out 0).trans rfl
   have hcz36_1 : w19.cell? ⟨gb348, 1, none⟩ = some (.slice A0_1 l0_1.length c0_1) := (blk_cell BK348.out 1).trans rfl
   have hfz36_0 := blk_frozen BK348.out 0
   have hfz36_1 := blk_frozen BK348.out 1
   go_wp2_with (first | (go_at_call 19; (with_reducible refine (slots_Num.calls _ _ l0_0 _ _ l0_1 t351 t352 t356 _ ?side1 ?side2 ?side3 ?side4 A35.out).mono ?_); (case side1 => repeat (first | exact (Kd.C_below HR0_0.out HB.out) | (with_reducible refine Kd.C_alloc ?_ _) | (with_reducible refine Kd.C_drewN ?_ _) | (with_reducible refine Kd.C_drew ?_))); (case side2 => exact HC0_0.out); (case side3 => repeat (first | exact (Kd.C_below HR0_1.out HB.out) | (with_reducible refine Kd.C_alloc ?_ _) | (with_reducible refine Kd.C_drewN ?_ _) | (with_reducible refine Kd.C_drew ?_))); (case side4 => exact HC0_1.out); rintro e w37 ⟨rfl, hb⟩; have n0_ := Aside0.mk (blk_below (g := gb348) (o := .cells #[.slice A0_0 l0_0.length c0_0, .slice A0_1 l0_1.length c0_1] 25 (0, 0)) (by (with_reducible repeat (first | refine blk_drewN ?_ _ | refine blk_drew ?_ | refine blk_alloc ?_ _)); exact BK348.out) hb); have n1_ := Aside0.mk (below_step (by repeat (first | (with_reducible first | exact HB.out | apply below_alloc | apply pw_below_drewN | apply below_drew1 | refine below_set ?_ GE348.out) | exact HB.out)) hb); clear BK348; clear HB; have BK348 := n0_; have HB := n1_; clear n0_ n1_; (try clear hb); (try clear hb2); (try clear hk); (try clear hi)))
   go_meet
   case rel => exact ⟨_, ((t356 != a1)), (by first | rfl | (simp; done) | (simp [*]; done)), H', ⟨by first | omega | exact Nat.le_refl _⟩, ⟨by (with_reducible repeat (first | refine blk_drewN ?_ _ | refine blk_drew ?_ | refine blk_alloc ?_ _)); exact BK348.out⟩, ⟨by repeat (first | (with_reducible first | exact HB.out | apply below_alloc | apply pw_below_drewN | apply below_drew1 | refine below_set ?_ GE348.out) | exact HB.out)⟩⟩
  rw [if_pos c20] at H
  have c20b0 : decide (0 ≤ a1) = true := decide_eq_true c20
  clear c20
  (first | rw [c20b0] | (simp only [i64_w, i32_w]; rw [c20b0]) | skip)
  replace H := Option.bind_eq_some_iff.mp H
  obtain ⟨t354, A210, H⟩ := H
  replace H : (if (t353 != (decide (a1 < t354))) = true then (fencepostlaw08_SlotsNums.j0 k a2 a3 t349 true l0_0 l0_1) else (if t353 = true then ((slots_Num.f l0_0 l0_1 t351 t352).bind fun t355 => (fencepostlaw08_SlotsNums.j0 k a2 a3 t349 (t355 != a1) l0_0 l0_1)) else (fencepostlaw08_SlotsNums.j0 k a2 a3 t349 false l0_0 l0_1))) = some r := H
  have A21 := Aside0.mk A210
  clear A210
  by_cases c22 : (t353 != (decide (a1 < t354))) = true
  ·rw [if_pos c22] at H
   have c22b0 : (t353 != (decide (a1 < t354))) = true := c22
   (try (have c22b1 : decide (t353 = (decide (a1 < t354))) = false := by simpa using c22))
   (try (have c22b2 : (t353 == (decide (a1 < t354))) = false := by simpa using c22))
   (try (have c22b3 : ¬ (t353 = (decide (a1 < t354))) := by simpa using c22))
   clear c22
   have H' := Aside0.mk H
   clear H
   have hcz23_0 : w19.cell? ⟨gb348, 0, none⟩ = some (.slice A0_0 l0_0.length c0_0) := (blk_cell BK348.out 0).trans rfl
   have hcz23_1 : w19.cell? ⟨gb348, 1, none⟩ = some (.slice A0_1 l0_1.length c0_1) := (blk_cell BK348.out 1).trans rfl
   have hfz23_0 := blk_frozen BK348.out 0
   have hfz23_1 := blk_frozen BK348.out 1
   go_wp2_with (first | (go_at_call 17; (with_reducible refine (slots_Many.calls _ _ l0_0 _ _ l0_1 t354 _ ?side1 ?side2 ?side3 ?side4 A21.out).mono ?_); (case side1 => repeat (first | exact (Kd.C_below HR0_0.out HB.out) | (with_reducible refine Kd.C_alloc ?_ _) | (with_reducible refine Kd.C_drewN ?_ _) | (with_reducible refine Kd.C_drew ?_))); (case side2 => exact HC0_0.out); (case side3 => repeat (first | exact (Kd.C_below HR0_1.out HB.out) | (with_reducible refine Kd.C_alloc ?_ _) | (with_reducible refine Kd.C_drewN ?_ _) | (with_reducible refine Kd.C_drew ?_))); (case side4 => exact HC0_1.out); rintro e w24 ⟨rfl, hb⟩; have n0_ := Aside0.mk (blk_below (g := gb348) (o := .cells #[.slice A0_0 l0_0.length c0_0, .slice A0_1 l0_1.length c0_1] 25 (0, 0)) (by (with_reducible repeat (first | refine blk_drewN ?_ _ | refine blk_drew ?_ | refine blk_alloc ?_ _)); exact BK348.out) hb); have n1_ := Aside0.mk (below_step (by repeat (first | (with_reducible first | exact HB.out | apply below_alloc | apply pw_below_drewN | apply below_drew1 | refine below_set ?_ GE348.out) | exact HB.out)) hb); clear BK348; clear HB; have BK348 := n0_; have HB := n1_; clear n0_ n1_; (try clear hb); (try clear hb2); (try clear hk); (try clear hi)))
   go_meet
   case rel => exact ⟨_, (true), (by first | rfl | (simp; done) | (simp [*]; done)), H', ⟨by first | omega | exact Nat.le_refl _⟩, ⟨by (with_reducible repeat (first | refine blk_drewN ?_ _ | refine blk_drew ?_ | refine blk_alloc ?_ _)); exact BK348.out⟩, ⟨by repeat (first | (with_reducible first | exact HB.out | apply below_alloc | apply pw_below_drewN | apply below_drew1 | refine below_set ?_ GE348.out) | exact HB.out)⟩⟩
  rw [if_neg c22] at H
  have c22b0 : (t353 != (decide (a1 < t354))) = false := by simpa using c22
  (try (have c22b1 : decide (t353 = (decide (a1 < t354))) = true := by simpa using c22))
  (try (have c22b2 : (t353 == (decide (a1 < t354))) = true := by simpa using c22))
  clear c22
  by_cases c25 : t353 = true
  rotate_left
  ·replace c25 := Bool.eq_false_iff.mpr c25
   subst c25
   have H1 : (fencepostlaw08_SlotsNums.j0 k a2 a3 t349 false l0_0 l0_1) = some r := by rw [if_neg (show ¬ (false = true) by decide)] at H; exact H
   clear H
   have H := H1
   clear H1
   have H' := Aside0.mk H
   clear H
   have hcz31_0 : w19.cell? ⟨gb348, 0, none⟩ = some (.slice A0_0 l0_0.length c0_0) := (blk_cell BK348.out 0).trans rfl
   have hcz31_1 : w19.cell? ⟨gb348, 1, none⟩ = some (.slice A0_1 l0_1.length c0_1) := (blk_cell BK348.out 1).trans rfl
   have hfz31_0 := blk_frozen BK348.out 0
   have hfz31_1 := blk_frozen BK348.out 1
   go_wp2_with (first | (go_at_call 17; (with_reducible refine (slots_Many.calls _ _ l0_0 _ _ l0_1 t354 _ ?side1 ?side2 ?side3 ?side4 A21.out).mono ?_); (case side1 => repeat (first | exact (Kd.C_below HR0_0.out HB.out) | (with_reducible refine Kd.C_alloc ?_ _) | (with_reducible refine Kd.C_drewN ?_ _) | (with_reducible refine Kd.C_drew ?_))); (case side2 => exact HC0_0.out); (case side3 => repeat (first | exact (Kd.C_below HR0_1.out HB.out) | (with_reducible refine Kd.C_alloc ?_ _) | (with_reducible refine Kd.C_drewN ?_ _) | (with_reducible refine Kd.C_drew ?_))); (case side4 => exact HC0_1.out); rintro e w32 ⟨rfl, hb⟩; have n0_ := Aside0.mk (blk_below (g := gb348) (o := .cells #[.slice A0_0 l0_0.length c0_0, .slice A0_1 l0_1.length c0_1] 25 (0, 0)) (by (with_reducible repeat (first | refine blk_drewN ?_ _ | refine blk_drew ?_ | refine blk_alloc ?_ _)); exact BK348.out) hb); have n1_ := Aside0.mk (below_step (by repeat (first | (with_reducible first | exact HB.out | apply below_alloc | apply pw_below_drewN | apply below_drew1 | refine below_set ?_ GE348.out) | exact HB.out)) hb); clear BK348; clear HB; have BK348 := n0_; have HB := n1_; clear n0_ n1_; (try clear hb); (try clear hb2); (try clear hk); (try clear hi)))
   go_meet
   case rel => exact ⟨_, (false), (by first | rfl | (simp; done) | (simp [*]; done)), H', ⟨by first | omega | exact Nat.le_refl _⟩, ⟨by (with_reducible repeat (first | refine blk_drewN ?_ _ | refine blk_drew ?_ | refine blk_alloc ?_ _)); exact BK348.out⟩, ⟨by repeat (first | (with_reducible first | exact HB.out | apply below_alloc | apply pw_below_drewN | apply below_drew1 | refine below_set ?_ GE348.out) | exact HB.out)⟩⟩
  subst c25
  have H1 : ((slots_Num.f l0_0 l0_1 t351 t352).bind fun t355 => (fencepostlaw08_SlotsNums.j0 k a2 a3 t349 (t355 != a1) l0_0 l0_1)) = some r := by rw [if_pos rfl] at H; exact H
  clear H
  have H := H1
  clear H1
  replace H := Option.bind_eq_some_iff.mp H
  obtain ⟨t355, A260, H⟩ := H
  replace H : (fencepostlaw08_SlotsNums.j0 k a2 a3 t349 (t355 != a1) l0_0 l0_1) = some r := H
  have A26 := Aside0.mk A260
  clear A260
  have H' := Aside0.mk H
  clear H
  have hcz27_0 : w19.cell? ⟨gb348, 0, none⟩ = some (.slice A0_0 l0_0.length c0_0) := (blk_cell BK348.out 0).trans rfl
  have hcz27_1 : w19.cell? ⟨gb348, 1, none⟩ = some (.slice A0_1 l0_1.length c0_1) := (blk_cell BK348.out 1).trans rfl
  have hfz27_0 := blk_frozen BK348.out 0
  have hfz27_1 := blk_frozen BK348.out 1
  go_wp2_with (first | (go_at_call 17; (with_reducible refine (slots_Many.calls _ _ l0_0 _ _ l0_1 t354 _ ?side1 ?side2 ?side3 ?side4 A21.out).mono ?_); (case side1 => repeat (first | exact (Kd.C_below HR0_0.out HB.out) | (with_reducible refine Kd.C_alloc ?_ _) | (with_reducible refine Kd.C_drewN ?_ _) | (with_reducible refine Kd.C_drew ?_))); (case side2 => exact HC0_0.out); (case side3 => repeat (first | exact (Kd.C_below HR0_1.out HB.out) | (with_reducible refine Kd.C_alloc ?_ _) | (with_reducible refine Kd.C_drewN ?_ _) | (with_reducible refine Kd.C_drew ?_))); (case side4 => exact HC0_1.out); rintro e w28 ⟨rfl, hb⟩; have n0_ := Aside0.mk (blk_below (g := gb348) (o := .cells #[.slice A0_0 l0_0.length c0_0, .slice A0_1 l0_1.length c0_1] 25 (0, 0)) (by (with_reducible repeat (first | refine blk_drewN ?_ _ | refine blk_drew ?_ | refine blk_alloc ?_ _)); exact BK348.out) hb); have n1_ := Aside0.mk (below_step (by repeat (first | (with_reducible first | exact HB.out | apply below_alloc | apply pw_below_drewN | apply below_drew1 | refine below_set ?_ GE348.out) | exact HB.out)) hb); clear BK348; clear HB; have BK348 := n0_; have HB := n1_; clear n0_ n1_; (try clear hb); (try clear hb2); (try clear hk); (try clear hi); have hcz29_0 : w28.cell? ⟨gb348, 0, none⟩ = some (.slice A0_0 l0_0.length c0_0) := (blk_cell BK348.out 0).trans rfl; have hcz29_1 : w28.cell? ⟨gb348, 1, none⟩ = some (.slice A0_1 l0_1.length c0_1) := (blk_cell BK348.out 1).trans rfl; have hfz29_0 := blk_frozen BK348.out 0; have hfz29_1 := blk_frozen BK348.out 1) | (go_at_call 19; (with_reducible refine (slots_Num.calls _ _ l0_0 _ _ l0_1 t351 t352 t355 _ ?side1 ?side2 ?side3 ?side4 A26.out).mono ?_); (case side1 => repeat (first | exact (Kd.C_below HR0_0.out HB.out) | (with_reducible refine Kd.C_alloc ?_ _) | (with_reducible refine Kd.C_drewN ?_ _) | (with_reducible refine Kd.C_drew ?_))); (case side2 => exact HC0_0.out); (case side3 => repeat (first | exact (Kd.C_below HR0_1.out HB.out) | (with_reducible refine Kd.C_alloc ?_ _) | (with_reducible refine Kd.C_drewN ?_ _) | (with_reducible refine Kd.C_drew ?_))); (case side4 => exact HC0_1.out); rintro e w30 ⟨rfl, hb⟩; have n0_ := Aside0.mk (blk_below (g := gb348) (o := .cells #[.slice A0_0 l0_0.length c0_0, .slice A0_1 l0_1.length c0_1] 25 (0, 0)) (by (with_reducible repeat (first | refine blk_drewN ?_ _ | refine blk_drew ?_ | refine blk_alloc ?_ _)); exact BK348.out) hb); have n1_ := Aside0.mk (below_step (by repeat (first | (with_reducible first | exact HB.out | apply below_alloc | apply pw_below_drewN | apply below_drew1 | refine below_set ?_ GE348.out) | exact HB.out)) hb); clear BK348; clear HB; have BK348 := n0_; have HB := n1_; clear n0_ n1_; (try clear hb); (try clear hb2); (try clear hk); (try clear hi)))
  go_meet
  case rel => exact ⟨_, ((t355 != a1)), (by first | rfl | (simp; done) | (simp [*]; done)), H', ⟨by first | omega | exact Nat.le_refl _⟩, ⟨by (with_reducible repeat (first | refine blk_drewN ?_ _ | refine blk_drew ?_ | refine blk_alloc ?_ _)); exact BK348.out⟩, ⟨by repeat (first | (with_reducible first | exact HB.out | apply below_alloc | apply pw_below_drewN | apply below_drew1 | refine below_set ?_ GE348.out) | exact HB.out)⟩⟩
 clear HC13
 try clear c7
 try clear hcz16_0
 try clear hcz16_1
 try clear hcz18_0
 try clear hcz18_1
 try clear hfz16_0
 try clear hfz16_1
 try clear hfz18_0
 try clear hfz18_1
 obtain ⟨kq, x48_12, rfl, HA, HJ12, BK348, HB⟩ := hcut
 cases kq with
 | zero => exact absurd HA.out (by simp [fencepostlaw08_SlotsNums.j0])
 | succ kj12 => ?_
 have H := HA.out
 clear HA
 simp only [fencepostlaw08_SlotsNums.j0] at H
 by_cases c38 : x48_12 = true
 ·subst c38
  have H1 : (some false) = some r := by rw [if_pos rfl] at H; exact H
  clear H
  have H := H1
  clear H1
  exact absurd ((Option.some.inj H).trans HT.out) (by simp)
 replace c38 := Bool.eq_false_iff.mpr c38
 subst c38
 have H1 : ((slots_Num.f l0_0 l0_1 a2 a3).bind fun t357 => (if t357 < 0 then (if t349 = true then (some (t357 == (-1))) else (some false)) else ((slots_Of.f l0_0 l0_1 t357).bind fun bt358 => (if t349 = true then (if bt358.2.2 = true then (if bt358.1 = a2 then (some (bt358.2.1 == a3)) else (some false)) else (some false)) else (some false))))) = some r := by rw [if_neg (show ¬ (false = true) by decide)] at H; exact H
 clear H
 have H := H1
 clear H1
 replace H := Option.bind_eq_some_iff.mp H
 obtain ⟨t357, A390, H⟩ := H
 replace H : (if t357 < 0 then (if t349 = true then (some (t357 == (-1))) else (some false)) else ((slots_Of.f l0_0 l0_1 t357).bind fun bt358 => (if t349 = true then (if bt358.2.2 = true then (if bt358.1 = a2 then (some (bt358.2.1 == a3)) else (some false)) else (some false)) else (some false)))) = some r := H
 have A39 := Aside0.mk A390
 clear A390
 by_cases c40 : t357 < 0
 ·rw [if_pos c40] at H
  have c40b0 : decide (t357 < 0) = true := decide_eq_true c40
  clear c40
  by_cases c41 : t349 = true
  rotate_left
  ·replace c41 := Bool.eq_false_iff.mpr c41
   subst c41
   have H1 : (some false) = some r := by rw [if_neg (show ¬ (false = true) by decide)] at H; exact H
   clear H
   have H := H1
   clear H1
   exact absurd ((Option.some.inj H).trans HT.out) (by simp)
  subst c41
  have H1 : (some (t357 == (-1))) = some r := by rw [if_pos rfl] at H; exact H
  clear H
  have H := H1
  clear H1
  obtain rfl := Option.some.inj H
  have hcz42_0 : wc.cell? ⟨gb348, 0, none⟩ = some (.slice A0_0 l0_0.length c0_0) := (blk_cell BK348.out 0).trans rfl
  have hcz42_1 : wc.cell? ⟨gb348, 1, none⟩ = some (.slice A0_1 l0_1.length c0_1) := (blk_cell BK348.out 1).trans rfl
  have hfz42_0 := blk_frozen BK348.out 0
  have hfz42_1 := blk_frozen BK348.out 1
  go_wp2_with (first | ((with_reducible refine gate_callee (f := 19) rfl ?_); refine goesL_ (some 52) rfl rfl Try.func19 (by kernel_rfl) rfl #[.agg #[.slice A0_0 l0_0.length c0_0, .slice A0_1 l0_1.length c0_1], .int .i64 a2, .int .i64 a3] rfl (by (try simp only [List.map_toArray, List.map_cons, List.map_nil]); first | done | rfl | (simp only [List.length_drop, List.length_take]; rfl)) ?_; (with_reducible refine (slots_Num.calls _ _ l0_0 _ _ l0_1 a2 a3 t357 _ ?side1 ?side2 ?side3 ?side4 A39.out).mono ?_); (case side1 => repeat (first | exact (Kd.C_below HR0_0.out HB.out) | (with_reducible refine Kd.C_alloc ?_ _) | (with_reducible refine Kd.C_drewN ?_ _) | (with_reducible refine Kd.C_drew ?_))); (case side2 => exact HC0_0.out); (case side3 => repeat (first | exact (Kd.C_below HR0_1.out HB.out) | (with_reducible refine Kd.C_alloc ?_ _) | (with_reducible refine Kd.C_drewN ?_ _) | (with_reducible refine Kd.C_drew ?_))); (case side4 => exact HC0_1.out); rintro e w43 ⟨rfl, hb⟩; refine ⟨_, rfl, ?_⟩; have n0_ := Aside0.mk (blk_below (g := gb348) (o := .cells #[.slice A0_0 l0_0.length c0_0, .slice A0_1 l0_1.length c0_1] 25 (0, 0)) (by (with_reducible repeat (first | refine blk_drewN ?_ _ | refine blk_drew ?_ | refine blk_alloc ?_ _)); exact BK348.out) hb); have n1_ := Aside0.mk (below_step (by repeat (first | (with_reducible first | exact HB.out | apply below_alloc | apply pw_below_drewN | apply below_drew1 | refine below_set ?_ GE348.out) | exact HB.out)) hb); clear BK348; clear HB; have BK348 := n0_; have HB := n1_; clear n0_ n1_; (try clear hb); (try clear hb2); (try clear hk); (try clear hi)))
  go_ret
  exact ⟨by first | rfl | (simp [errW_none, errW_some] <;> rfl) | (simp [*, errW_none, errW_some] <;> rfl), by repeat (first | (with_reducible first | exact HB.out | apply below_alloc | apply pw_below_drewN | apply below_drew1 | refine below_set ?_ GE348.out) | exact HB.out)⟩
 rw [if_neg c40] at H
 have c40b0 : decide (t357 < 0) = false := decide_eq_false c40
 clear c40
 replace H := Option.bind_eq_some_iff.mp H
 obtain ⟨⟨t358, t359, t360⟩, A440, H⟩ := H
 replace H : (if t349 = true then (if t360 = true then (if t358 = a2 then (some (t359 == a3)) else (some false)) else (some false)) else (some false)) = some r := H
 have A44 := Aside0.mk A440
 clear A440
 by_cases c45 : t349 = true
 rotate_left
 ·replace c45 := Bool.eq_false_iff.mpr c45
  subst c45
  have H1 : (some false) = some r := by rw [if_neg (show ¬ (false = true) by decide)] at H; exact H
  clear H
  have H := H1
  clear H1
  exact absurd ((Option.some.inj H).trans HT.out) (by simp)
 subst c45
 have H1 : (if t360 = true then (if t358 = a2 then (some (t359 == a3)) else (some false)) else (some false)) = some r := by rw [if_pos rfl] at H; exact H
 clear H
 have H := H1
 clear H1
 by_cases c46 : t360 = true
 rotate_left
 ·replace c46 := Bool.eq_false_iff.mpr c46
  subst c46
  have H1 : (some false) = some r := by rw [if_neg (show ¬ (false = true) by decide)] at H; exact H
  clear H
  have H := H1
  clear H1
  exact absurd ((Option.some.inj H).trans HT.out) (by simp)
 subst c46
 have H1 : (if t358 = a2 then (some (t359 == a3)) else (some false)) = some r := by rw [if_pos rfl] at H; exact H
 clear H
 have H := H1
 clear H1
 by_cases c47 : t358 = a2
 rotate_left
 ·rw [if_neg c47] at H
  have c47b0 : (t358 == a2) = false := beq_eq_false_iff_ne.mpr c47
  have c47b1 : (t358 != a2) = true := bne_iff_ne.mpr c47
  exact absurd ((Option.some.inj H).trans HT.out) (by simp)
 rw [if_pos c47] at H
 have c47b0 : (t358 == a2) = true := beq_iff_eq.mpr c47
 have c47b1 : (t358 != a2) = false := bne_eq_false_iff_eq.mpr c47
 clear c47
 obtain rfl := Option.some.inj H
 have hcz48_0 : wc.cell? ⟨gb348, 0, none⟩ = some (.slice A0_0 l0_0.length c0_0) := (blk_cell BK348.out 0).trans rfl
 have hcz48_1 : wc.cell? ⟨gb348, 1, none⟩ = some (.slice A0_1 l0_1.length c0_1) := (blk_cell BK348.out 1).trans rfl
 have hfz48_0 := blk_frozen BK348.out 0
 have hfz48_1 := blk_frozen BK348.out 1
 go_wp2_with (first | ((with_reducible refine gate_callee (f := 19) rfl ?_); refine goesL_ (some 52) rfl rfl Try.func19 (by kernel_rfl) rfl #[.agg #[.slice A0_0 l0_0.length c0_0, .slice A0_1 l0_1.length c0_1], .int .i64 a2, .int .i64 a3] rfl (by (try simp only [List.map_toArray, List.map_cons, List.map_nil]); first | done | rfl | (simp only [List.length_drop, List.length_take]; rfl)) ?_; (with_reducible refine (slots_Num.calls _ _ l0_0 _ _ l0_1 a2 a3 t357 _ ?side1 ?side2 ?side3 ?side4 A39.out).mono ?_); (case side1 => repeat (first | exact (Kd.C_below HR0_0.out HB.out) | (with_reducible refine Kd.C_alloc ?_ _) | (with_reducible refine Kd.C_drewN ?_ _) | (with_reducible refine Kd.C_drew ?_))); (case side2 => exact HC0_0.out); (case side3 => repeat (first | exact (Kd.C_below HR0_1.out HB.out) | (with_reducible refine Kd.C_alloc ?_ _) | (with_reducible refine Kd.C_drewN ?_ _) | (with_reducible refine Kd.C_drew ?_))); (case side4 => exact HC0_1.out); rintro e w49 ⟨rfl, hb⟩; refine ⟨_, rfl, ?_⟩; have n0_ := Aside0.mk (blk_below (g := gb348) (o := .cells #[.slice A0_0 l0_0.length c0_0, .slice A0_1 l0_1.length c0_1] 25 (0, 0)) (by (with_reducible repeat (first | refine blk_drewN ?_ _ | refine blk_drew ?_ | refine blk_alloc ?_ _)); exact BK348.out) hb); have n1_ := Aside0.mk (below_step (by repeat (first | (with_reducible first | exact HB.out | apply below_alloc | apply pw_below_drewN | apply below_drew1 | refine below_set ?_ GE348.out) | exact HB.out)) hb); clear BK348; clear HB; have BK348 := n0_; have HB := n1_; clear n0_ n1_; (try clear hb); (try clear hb2); (try clear hk); (try clear hi); have hcz50_0 : w49.cell? ⟨gb348, 0, none⟩ = some (.slice A0_0 l0_0.length c0_0) := (blk_cell BK348.out 0).trans rfl; have hcz50_1 : w49.cell? ⟨gb348, 1, none⟩ = some (.slice A0_1 l0_1.length c0_1) := (blk_cell BK348.out 1).trans rfl; have hfz50_0 := blk_frozen BK348.out 0; have hfz50_1 := blk_frozen BK348.out 1) | ((with_reducible refine gate_callee (f := 13) rfl ?_); refine goesL_ (some 63) rfl rfl Try.func13 (by kernel_rfl) rfl #[.agg #[.slice A0_0 l0_0.length c0_0, .slice A0_1 l0_1.length c0_1], .int .i64 t357] rfl (by (try simp only [List.map_toArray, List.map_cons, List.map_nil]); first | done | rfl | (simp only [List.length_drop, List.length_take]; rfl)) ?_; (with_reducible refine (slots_Of.calls _ _ l0_0 _ _ l0_1 t357 t358 t359 true _ ?side1 ?side2 ?side3 ?side4 A44.out).mono ?_); (case side1 => repeat (first | exact (Kd.C_below HR0_0.out HB.out) | (with_reducible refine Kd.C_alloc ?_ _) | (with_reducible refine Kd.C_drewN ?_ _) | (with_reducible refine Kd.C_drew ?_))); (case side2 => exact HC0_0.out); (case side3 => repeat (first | exact (Kd.C_below HR0_1.out HB.out) | (with_reducible refine Kd.C_alloc ?_ _) | (with_reducible refine Kd.C_drewN ?_ _) | (with_reducible refine Kd.C_drew ?_))); (case side4 => exact HC0_1.out); rintro e w51 ⟨rfl, hb⟩; refine ⟨_, rfl, ?_⟩; have n0_ := Aside0.mk (blk_below (g := gb348) (o := .cells #[.slice A0_0 l0_0.length c0_0, .slice A0_1 l0_1.length c0_1] 25 (0, 0)) (by (with_reducible repeat (first | refine blk_drewN ?_ _ | refine blk_drew ?_ | refine blk_alloc ?_ _)); exact BK348.out) hb); have n1_ := Aside0.mk (below_step (by repeat (first | (with_reducible first | exact HB.out | apply below_alloc | apply pw_below_drewN | apply below_drew1 | refine below_set ?_ GE348.out) | exact HB.out)) hb); clear BK348; clear HB; have BK348 := n0_; have HB := n1_; clear n0_ n1_; (try clear hb); (try clear hb2); (try clear hk); (try clear hi)))
 go_ret
 exact ⟨by first | rfl | (simp [errW_none, errW_some] <;> rfl) | (simp [*, errW_none, errW_some] <;> rfl), by repeat (first | (with_reducible first | exact HB.out | apply below_alloc | apply pw_below_drewN | apply below_drew1 | refine below_set ?_ GE348.out) | exact HB.out)⟩
def fencepostlaw08_SlotsBack.j0 : Nat → List Int → Bool → Bool → ByteArray → List (S62) → List (S58) → Bool → List (S64) → Option (Bool)
 | 0, _, _, _, _, _, _, _, _ => none
 | k + 1, x1, x5, x16, x362000, x362001, x362002, x362003, x362004 => if x16 = true then (some x5) else ((slots_Fence.f x362000 x362001 x362002 x362003 x362004 x1).bind fun bt364 => ((slots_Erase.f bt364.1 bt364.2.1 bt364.2.2.1 bt364.2.2.2.1 bt364.2.2.2.2 x1).bind fun bt376 => (if x5 = true then (if bt376.2.2.2.2.2 = true then ((fencepostref04_Same.f k bt376.1 bt376.2.1 bt376.2.2.1 bt376.2.2.2.1 bt376.2.2.2.2.1 x362000 x362001 x362002 x362003 x362004).bind fun t389 => (some t389)) else (some false)) else (some false))))
def fencepostlaw08_SlotsBack.f (k : Nat) (a0_0 : ByteArray) (l0_1 : List (S62)) (l0_2 : List (S58)) (a0_3 : Bool) (l0_4 : List (S64)) (l1 : List Int) : Option (Bool) := (fencepostlaw08_head.f).bind fun t362 => ((fencepostlaw04_Great.f k a0_0 l0_1 l0_2 a0_3 l0_4).bind fun t363 => (if t363 = true then (fencepostlaw08_SlotsBack.j0 k l1 t362 true a0_0 l0_1 l0_2 a0_3 l0_4) else (fencepostlaw08_SlotsBack.j0 k l1 t362 (decide ((l1.length : Int) > 100)) a0_0 l0_1 l0_2 a0_3 l0_4)))
theorem fencepostlaw08_SlotsBack.mono_l : ∀ k, (∀ y0 y1 y2 y3 y4 y5 y6 y7, LeO (fencepostlaw08_SlotsBack.j0 k y0 y1 y2 y3 y4 y5 y6 y7) (fencepostlaw08_SlotsBack.j0 (k + 1) y0 y1 y2 y3 y4 y5 y6 y7))
 | 0 => fun _ _ _ _ _ _ _ _ r h => by simp [fencepostlaw08_SlotsBack.j0] at h
 | k + 1 => by
  have ih0 := fencepostlaw08_SlotsBack.mono_l k
  ·intro y0 y1 y2 y3 y4 y5 y6 y7
   unfold fencepostlaw08_SlotsBack.j0
   repeat' first
   | (with_reducible exact ih0 _ _ _ _ _ _ _ _)
   | (with_reducible exact fencepostlaw04_Great.mono _ _ _ _ _ _)
   | (with_reducible exact fencepostref04_Same.mono _ _ _ _ _ _ _ _ _ _ _)
   | (with_reducible exact LeO.refl _)
   | (with_reducible exact LeO.none _)
   | (with_reducible refine LeO.ite ?_ ?_)
   | (with_reducible refine LeO.bind ?_ (fun _ => ?_))
   | exact ih0 _ _ _ _ _ _ _ _
   | exact fencepostlaw04_Great.mono _ _ _ _ _ _
   | exact fencepostref04_Same.mono _ _ _ _ _ _ _ _ _ _ _
   | exact LeO.none _
   | refine LeO.ite ?_ ?_
   | refine LeO.bind ?_ (fun _ => ?_)
theorem fencepostlaw08_SlotsBack.mono : ∀ a0 a1 a2 a3 a4 a5 k, LeO (fencepostlaw08_SlotsBack.f k a0 a1 a2 a3 a4 a5) (fencepostlaw08_SlotsBack.f (k + 1) a0 a1 a2 a3 a4 a5) := by
 intro a0 a1 a2 a3 a4 a5 k
 have ih0 := fencepostlaw08_SlotsBack.mono_l k
 unfold fencepostlaw08_SlotsBack.f
 repeat' first
  | (with_reducible exact ih0 _ _ _ _ _ _ _ _)
  | (with_reducible exact fencepostlaw04_Great.mono _ _ _ _ _ _)
  | (with_reducible exact fencepostref04_Same.mono _ _ _ _ _ _ _ _ _ _ _)
  | (with_reducible exact LeO.refl _)
  | (with_reducible exact LeO.none _)
  | (with_reducible refine LeO.ite ?_ ?_)
  | (with_reducible refine LeO.bind ?_ (fun _ => ?_))
  | exact ih0 _ _ _ _ _ _ _ _
  | exact fencepostlaw04_Great.mono _ _ _ _ _ _
  | exact fencepostref04_Same.mono _ _ _ _ _ _ _ _ _ _ _
  | exact LeO.none _
  | refine LeO.ite ?_ ?_
  | refine LeO.bind ?_ (fun _ => ?_)
set_option maxHeartbeats 8000000 in
set_option maxRecDepth 100000 in
theorem fencepostlaw08_SlotsBack.calls (k : Nat) (a0_0 : ByteArray) (A0_1 : Option Addr) (c0_1 : Nat) (l0_1 : List (S62)) (A0_2 : Option Addr) (c0_2 : Nat) (l0_2 : List (S58)) (a0_3 : Bool) (A0_4 : Option Addr) (c0_4 : Nat) (l0_4 : List (S64)) (A1 : Option Addr) (c1 : Nat) (l1 : List Int) (r : Bool) (w : World) (hr0_1 : Kd.C k62 w A0_1 l0_1.length l0_1) (hc0_1 : l0_1.length ≤ c0_1) (hr0_2 : Kd.C k58 w A0_2 l0_2.length l0_2) (hc0_2 : l0_2.length ≤ c0_2) (hr0_4 : Kd.C k64 w A0_4 l0_4.length l0_4) (hc0_4 : l0_4.length ≤ c0_4) (hr1 : Kd.C (Kd.int .i64) w A1 l1.length l1) (hc1 : l1.length ≤ c1) (ht_ : r = true) (h : fencepostlaw08_SlotsBack.f k a0_0 l0_1 l0_2 a0_3 l0_4 l1 = some r) :
 Calls Try.prog 5 #[.agg #[.string a0_0, .slice A0_1 l0_1.length c0_1, .slice A0_2 l0_2.length c0_2, .bool a0_3, .slice A0_4 l0_4.length c0_4], .slice A1 l1.length c1] w fun e w' => e = .returned (.bool r) ∧ Below w.heap.size w w' := by
 have hu30 := Try.underlying30
 have HR0_1 := Aside0.mk hr0_1
 have HC0_1 := Aside0.mk hc0_1
 clear hr0_1 hc0_1
 have HR0_2 := Aside0.mk hr0_2
 have HC0_2 := Aside0.mk hc0_2
 clear hr0_2 hc0_2
 have HR0_4 := Aside0.mk hr0_4
 have HC0_4 := Aside0.mk hc0_4
 clear hr0_4 hc0_4
 have HR1 := Aside0.mk hr1
 have HC1 := Aside0.mk hc1
 clear hr1 hc1
 have HB := Aside0.mk (Below.refl w.heap.size w)
 have HT := Aside0.mk ht_
 clear ht_
 have H : ((fencepostlaw08_head.f).bind fun t362 => ((fencepostlaw04_Great.f k a0_0 l0_1 l0_2 a0_3 l0_4).bind fun t363 => (if t363 = true then (fencepostlaw08_SlotsBack.j0 k l1 t362 true a0_0 l0_1 l0_2 a0_3 l0_4) else (fencepostlaw08_SlotsBack.j0 k l1 t362 (decide ((l1.length : Int) > 100)) a0_0 l0_1 l0_2 a0_3 l0_4)))) = some r := h
 clear h
 replace H := Option.bind_eq_some_iff.mp H
 obtain ⟨t362, A30, H⟩ := H
 replace H : ((fencepostlaw04_Great.f k a0_0 l0_1 l0_2 a0_3 l0_4).bind fun t363 => (if t363 = true then (fencepostlaw08_SlotsBack.j0 k l1 t362 true a0_0 l0_1 l0_2 a0_3 l0_4) else (fencepostlaw08_SlotsBack.j0 k l1 t362 (decide ((l1.length : Int) > 100)) a0_0 l0_1 l0_2 a0_3 l0_4))) = some r := H
 have A3 := Aside0.mk A30
 clear A30
 have HC4 := Aside0.mk H
 clear H
 go_enter Try.func5, Try.ntmps5
 go_upto_region 2 with (first | ((with_reducible refine gate_dst (N := 2) rfl ?_); (try (refine gate_guard (by rfl) ?_; dsimp only)); refine box_event ?hg (N := 2) ?hd (cs := #[.string a0_0, .slice A0_1 l0_1.length c0_1, .slice A0_2 l0_2.length c0_2, .bool a0_3, .slice A0_4 l0_4.length c0_4]) (t := 30) ?hr ?_; (case hd => rfl); (case hg => rfl); (case hr => first | (go_simp; done) | (go_simp; rfl)); intro gb361 hg w5 hbox hb; have n0_ := Aside0.mk (below_step (by repeat (first | (with_reducible first | exact HB.out | apply below_alloc | apply pw_below_drewN | apply below_drew1) | exact HB.out)) hb); have n1_ := Aside0.mk (hbox); have n2_ := Aside0.mk ((by rw [hg]; exact (below_size (by repeat (first | (with_reducible first | exact HB.out | apply below_alloc | apply pw_below_drewN | apply below_drew1) | exact HB.out))) : w.heap.size ≤ gb361)); have n3_ := Aside0.mk ((by rw [hg]; exact (below_size (by repeat (first | (with_reducible first | exact HB.out | apply below_alloc | apply pw_below_drewN | apply below_drew1) | exact HB.out))) : w.heap.size ≤ gb361)); clear HB; have HB := n0_; have BK361 := n1_; have GW361 := n2_; have GE361 := n3_; clear n0_ n1_ n2_ n3_; clear hb hbox hg) | ((with_reducible refine gate_callee (f := 10) rfl ?_); refine goesL_ (some 9) rfl rfl Try.func10 (by kernel_rfl) rfl #[] rfl (by (try simp only [List.map_toArray, List.map_cons, List.map_nil]); first | done | rfl | (simp only [List.length_drop, List.length_take]; rfl)) ?_; (with_reducible refine (fencepostlaw08_head.calls  t362 _ A3.out).mono ?_); rintro e w6 ⟨rfl, hb⟩; refine ⟨_, rfl, ?_⟩; have n0_ := Aside0.mk (blk_below (g := gb361) (o := .cells #[.string a0_0, .slice A0_1 l0_1.length c0_1, .slice A0_2 l0_2.length c0_2, .bool a0_3, .slice A0_4 l0_4.length c0_4] 30 (0, 0)) (by (with_reducible repeat (first | refine blk_drewN ?_ _ | refine blk_drew ?_ | refine blk_alloc ?_ _)); exact BK361.out) hb); have n1_ := Aside0.mk (below_step (by repeat (first | (with_reducible first | exact HB.out | apply below_alloc | apply pw_below_drewN | apply below_drew1 | refine below_set ?_ GE361.out) | exact HB.out)) hb); clear BK361; clear HB; have BK361 := n0_; have HB := n1_; clear n0_ n1_; (try clear hb); (try clear hb2); (try clear hk); (try clear hi)))
 (try simp only [Act.put, List.setIfInBounds_toArray, List.set_cons_zero, List.set_cons_succ])
 go_cut [16] (fun v16 wc => ∃ (kq : Nat) (x16_3 : Bool), v16 = .bool x16_3 ∧ Aside0 (fencepostlaw08_SlotsBack.j0 kq l1 t362 x16_3 a0_0 l0_1 l0_2 a0_3 l0_4 = some r) ∧ Aside0 (kq ≤ k) ∧ Aside0 (wc.heap[gb361]? = some (.cells #[.string a0_0, (.slice A0_1 l0_1.length c0_1), (.slice A0_2 l0_2.length c0_2), .bool a0_3, (.slice A0_4 l0_4.length c0_4)] 30 (0, 0))) ∧ Aside0 (Below w.heap.size w wc))
 case first =>
  have H := HC4.out
  clear HC4
  replace H := Option.bind_eq_some_iff.mp H
  obtain ⟨t363, A70, H⟩ := H
  replace H : (if t363 = true then (fencepostlaw08_SlotsBack.j0 k l1 t362 true a0_0 l0_1 l0_2 a0_3 l0_4) else (fencepostlaw08_SlotsBack.j0 k l1 t362 (decide ((l1.length : Int) > 100)) a0_0 l0_1 l0_2 a0_3 l0_4)) = some r := H
  have A7 := Aside0.mk A70
  clear A70
  by_cases c8 : t363 = true
  ·subst c8
   have H1 : (fencepostlaw08_SlotsBack.j0 k l1 t362 true a0_0 l0_1 l0_2 a0_3 l0_4) = some r := by rw [if_pos rfl] at H; exact H
   clear H
   have H := H1
   clear H1
   have H' := Aside0.mk H
   clear H
   have hcz9_0 : w6.cell? ⟨gb361, 0, none⟩ = some (.string a0_0) := (blk_cell BK361.out 0).trans rfl
   have hcz9_1 : w6.cell? ⟨gb361, 1, none⟩ = some (.slice A0_1 l0_1.length c0_1) := (blk_cell BK361.out 1).trans rfl
   have hcz9_2 : w6.cell? ⟨gb361, 2, none⟩ = some (.slice A0_2 l0_2.length c0_2) := (blk_cell BK361.out 2).trans rfl
   have hcz9_3 : w6.cell? ⟨gb361, 3, none⟩ = some (.bool a0_3) := (blk_cell BK361.out 3).trans rfl
   have hcz9_4 : w6.cell? ⟨gb361, 4, none⟩ = some (.slice A0_4 l0_4.length c0_4) := (blk_cell BK361.out 4).trans rfl
   have hfz9_0 := blk_frozen BK361.out 0
   have hfz9_1 := blk_frozen BK361.out 1
   have hfz9_2 := blk_frozen BK361.out 2
   have hfz9_3 := blk_frozen BK361.out 3
   have hfz9_4 := blk_frozen BK361.out 4
   go_wp2_with (first | ((with_reducible refine gate_callee (f := 12) rfl ?_); refine goesL_ (some 11) rfl rfl Try.func12 (by kernel_rfl) rfl #[.agg #[.string a0_0, .slice A0_1 l0_1.length c0_1, .slice A0_2 l0_2.length c0_2, .bool a0_3, .slice A0_4 l0_4.length c0_4]] rfl (by (try simp only [List.map_toArray, List.map_cons, List.map_nil]); first | done | rfl | (simp only [List.length_drop, List.length_take]; rfl)) ?_; (with_reducible refine (fencepostlaw04_Great.calls k a0_0 _ _ l0_1 _ _ l0_2 a0_3 _ _ l0_4 true _ ?side1 ?side2 ?side3 ?side4 ?side5 ?side6 A7.out).mono ?_); (case side1 => repeat (first | exact (Kd.C_below HR0_1.out HB.out) | (with_reducible refine Kd.C_alloc ?_ _) | (with_reducible refine Kd.C_drewN ?_ _) | (with_reducible refine Kd.C_drew ?_))); (case side2 => exact HC0_1.out); (case side3 => repeat (first | exact (Kd.C_below HR0_2.out HB.out) | (with_reducible refine Kd.C_alloc ?_ _) | (with_reducible refine Kd.C_drewN ?_ _) | (with_reducible refine Kd.C_drew ?_))); (case side4 => exact HC0_2.out); (case side5 => repeat (first | exact (Kd.C_below HR0_4.out HB.out) | (with_reducible refine Kd.C_alloc ?_ _) | (with_reducible refine Kd.C_drewN ?_ _) | (with_reducible refine Kd.C_drew ?_))); (case side6 => exact HC0_4.out); rintro e w10 ⟨rfl, hb⟩; refine ⟨_, rfl, ?_⟩; have n0_ := Aside0.mk (blk_below (g := gb361) (o := .cells #[.string a0_0, .slice A0_1 l0_1.length c0_1, .slice A0_2 l0_2.length c0_2, .bool a0_3, .slice A0_4 l0_4.length c0_4] 30 (0, 0)) (by (with_reducible repeat (first | refine blk_drewN ?_ _ | refine blk_drew ?_ | refine blk_alloc ?_ _)); exact BK361.out) hb); have n1_ := Aside0.mk (below_step (by repeat (first | (with_reducible first | exact HB.out | apply below_alloc | apply pw_below_drewN | apply below_drew1 | refine below_set ?_ GE361.out) | exact HB.out)) hb); clear BK361; clear HB; have BK361 := n0_; have HB := n1_; clear n0_ n1_; (try clear hb); (try clear hb2); (try clear hk); (try clear hi)))
   go_meet
   case rel => exact ⟨_, (true), (by first | rfl | (simp; done) | (simp [*]; done)), H', ⟨by first | omega | exact Nat.le_refl _⟩, ⟨by (with_reducible repeat (first | refine blk_drewN ?_ _ | refine blk_drew ?_ | refine blk_alloc ?_ _)); exact BK361.out⟩, ⟨by repeat (first | (with_reducible first | exact HB.out | apply below_alloc | apply pw_below_drewN | apply below_drew1 | refine below_set ?_ GE361.out) | exact HB.out)⟩⟩
  replace c8 := Bool.eq_false_iff.mpr c8
  subst c8
  have H1 : (fencepostlaw08_SlotsBack.j0 k l1 t362 (decide ((l1.length : Int) > 100)) a0_0 l0_1 l0_2 a0_3 l0_4) = some r := by rw [if_neg (show ¬ (false = true) by decide)] at H; exact H
  clear H
  have H := H1
  clear H1
  have H' := Aside0.mk H
  clear H
  have hcz11_0 : w6.cell? ⟨gb361, 0, none⟩ = some (.string a0_0) := (blk_cell BK361.out 0).trans rfl
  have hcz11_1 : w6.cell? ⟨gb361, 1, none⟩ = some (.slice A0_1 l0_1.length c0_1) := (blk_cell BK361.out 1).trans rfl
  have hcz11_2 : w6.cell? ⟨gb361, 2, none⟩ = some (.slice A0_2 l0_2.length c0_2) := (blk_cell BK361.out 2).trans rfl
  have hcz11_3 : w6.cell? ⟨gb361, 3, none⟩ = some (.bool a0_3) := (blk_cell BK361.out 3).trans rfl
  have hcz11_4 : w6.cell? ⟨gb361, 4, none⟩ = some (.slice A0_4 l0_4.length c0_4) := (blk_cell BK361.out 4).trans rfl
  have hfz11_0 := blk_frozen BK361.out 0
  have hfz11_1 := blk_frozen BK361.out 1
  have hfz11_2 := blk_frozen BK361.out 2
  have hfz11_3 := blk_frozen BK361.out 3
  have hfz11_4 := blk_frozen BK361.out 4
  go_wp2_with (first | ((with_reducible refine gate_callee (f := 12) rfl ?_); refine goesL_ (some 11) rfl rfl Try.func12 (by kernel_rfl) rfl #[.agg #[.string a0_0, .slice A0_1 l0_1.length c0_1, .slice A0_2 l0_2.length c0_2, .bool a0_3, .slice A0_4 l0_4.length c0_4]] rfl (by (try simp only [List.map_toArray, List.map_cons, List.map_nil]); first | done | rfl | (simp only [List.length_drop, List.length_take]; rfl)) ?_; (with_reducible refine (fencepostlaw04_Great.calls k a0_0 _ _ l0_1 _ _ l0_2 a0_3 _ _ l0_4 false _ ?side1 ?side2 ?side3 ?side4 ?side5 ?side6 A7.out).mono ?_); (case side1 => repeat (first | exact (Kd.C_below HR0_1.out HB.out) | (with_reducible refine Kd.C_alloc ?_ _) | (with_reducible refine Kd.C_drewN ?_ _) | (with_reducible refine Kd.C_drew ?_))); (case side2 => exact HC0_1.out); (case side3 => repeat (first | exact (Kd.C_below HR0_2.out HB.out) | (with_reducible refine Kd.C_alloc ?_ _) | (with_reducible refine Kd.C_drewN ?_ _) | (with_reducible refine Kd.C_drew ?_))); (case side4 => exact HC0_2.out); (case side5 => repeat (first | exact (Kd.C_below HR0_4.out HB.out) | (with_reducible refine Kd.C_alloc ?_ _) | (with_reducible refine Kd.C_drewN ?_ _) | (with_reducible refine Kd.C_drew ?_))); (case side6 => exact HC0_4.out); rintro e w12 ⟨rfl, hb⟩; refine ⟨_, rfl, ?_⟩; have n0_ := Aside0.mk (blk_below (g := gb361) (o := .cells #[.string a0_0, .slice A0_1 l0_1.length c0_1, .slice A0_2 l0_2.length c0_2, .bool a0_3, .slice A0_4 l0_4.length c0_4] 30 (0, 0)) (by (with_reducible repeat (first | refine blk_drewN ?_ _ | refine blk_drew ?_ | refine blk_alloc ?_ _)); exact BK361.out) hb); have n1_ := Aside0.mk (below_step (by repeat (first | (with_reducible first | exact HB.out | apply below_alloc | apply pw_below_drewN | apply below_drew1 | refine below_set ?_ GE361.out) | exact HB.out)) hb); clear BK361; clear HB; have BK361 := n0_; have HB := n1_; clear n0_ n1_; (try clear hb); (try clear hb2); (try clear hk); (try clear hi)))
  go_meet
  case rel => exact ⟨_, (decide ((l1.length : Int) > 100)), (by first | rfl | (simp; done) | (simp [*]; done)), H', ⟨by first | omega | exact Nat.le_refl _⟩, ⟨by (with_reducible repeat (first | refine blk_drewN ?_ _ | refine blk_drew ?_ | refine blk_alloc ?_ _)); exact BK361.out⟩, ⟨by repeat (first | (with_reducible first | exact HB.out | apply below_alloc | apply pw_below_drewN | apply below_drew1 | refine below_set ?_ GE361.out) | exact HB.out)⟩⟩
 clear HC4
 try clear c1
 obtain ⟨kq, x16_3, rfl, HA, HJ3, BK361, HB⟩ := hcut
 cases kq with
 | zero => exact absurd HA.out (by simp [fencepostlaw08_SlotsBack.j0])
 | succ kj3 => ?_
 have H := HA.out
 clear HA
 simp only [fencepostlaw08_SlotsBack.j0] at H
 by_cases c13 : x16_3 = true
 ·subst c13
  have H1 : (some t362) = some r := by rw [if_pos rfl] at H; exact H
  clear H
  have H := H1
  clear H1
  obtain rfl := Option.some.inj H
  go_wp2
  go_ret
  exact ⟨by first | rfl | (simp [errW_none, errW_some] <;> rfl) | (simp [*, errW_none, errW_some] <;> rfl), by repeat (first | (with_reducible first | exact HB.out | apply below_alloc | apply pw_below_drewN | apply below_drew1 | refine below_set ?_ GE361.out) | exact HB.out)⟩
 replace c13 := Bool.eq_false_iff.mpr c13
 subst c13
 have H1 : ((slots_Fence.f a0_0 l0_1 l0_2 a0_3 l0_4 l1).bind fun bt364 => ((slots_Erase.f bt364.1 bt364.2.1 bt364.2.2.1 bt364.2.2.2.1 bt364.2.2.2.2 l1).bind fun bt376 => (if t362 = true then (if bt376.2.2.2.2.2 = true then ((fencepostref04_Same.f kj3 bt376.1 bt376.2.1 bt376.2.2.1 bt376.2.2.2.1 bt376.2.2.2.2.1 a0_0 l0_1 l0_2 a0_3 l0_4).bind fun t389 => (some t389)) else (some false)) else (some false)))) = some r := by rw [if_neg (show ¬ (false = true) by decide)] at H; exact H
 clear H
 have H := H1
 clear H1
 replace H := Option.bind_eq_some_iff.mp H
 obtain ⟨⟨t364, t365, t368, t371, t372⟩, A140, H⟩ := H
 replace H : ((slots_Erase.f t364 t365 t368 t371 t372 l1).bind fun bt376 => (if t362 = true then (if bt376.2.2.2.2.2 = true then ((fencepostref04_Same.f kj3 bt376.1 bt376.2.1 bt376.2.2.1 bt376.2.2.2.1 bt376.2.2.2.2.1 a0_0 l0_1 l0_2 a0_3 l0_4).bind fun t389 => (some t389)) else (some false)) else (some false))) = some r := H
 have A14 := Aside0.mk A140
 clear A140
 replace H := Option.bind_eq_some_iff.mp H
 obtain ⟨⟨t376, t377, t380, t383, t384, t387⟩, A150, H⟩ := H
 replace H : (if t362 = true then (if t387 = true then ((fencepostref04_Same.f kj3 t376 t377 t380 t383 t384 a0_0 l0_1 l0_2 a0_3 l0_4).bind fun t389 => (some t389)) else (some false)) else (some false)) = some r := H
 have A15 := Aside0.mk A150
 clear A150
 by_cases c16 : t362 = true
 rotate_left
 ·replace c16 := Bool.eq_false_iff.mpr c16
  subst c16
  have H1 : (some false) = some r := by rw [if_neg (show ¬ (false = true) by decide)] at H; exact H
  clear H
  have H := H1
  clear H1
  exact absurd ((Option.some.inj H).trans HT.out) (by simp)
 subst c16
 have H1 : (if t387 = true then ((fencepostref04_Same.f kj3 t376 t377 t380 t383 t384 a0_0 l0_1 l0_2 a0_3 l0_4).bind fun t389 => (some t389)) else (some false)) = some r := by rw [if_pos rfl] at H; exact H
 clear H
 have H := H1
 clear H1
 by_cases c17 : t387 = true
 rotate_left
 ·replace c17 := Bool.eq_false_iff.mpr c17
  subst c17
  have H1 : (some false) = some r := by rw [if_neg (show ¬ (false = true) by decide)] at H; exact H
  clear H
  have H := H1
  clear H1
  exact absurd ((Option.some.inj H).trans HT.out) (by simp)
 subst c17
 have H1 : ((fencepostref04_Same.f kj3 t376 t377 t380 t383 t384 a0_0 l0_1 l0_2 a0_3 l0_4).bind fun t389 => (some t389)) = some r := by rw [if_pos rfl] at H; exact H
 clear H
 have H := H1
 clear H1
 replace H := Option.bind_eq_some_iff.mp H
 obtain ⟨t389, A180, H⟩ := H
 replace H : (some t389) = some r := H
 have A18 := Aside0.mk A180
 clear A180
 obtain rfl := Option.some.inj H
 have hcz19_0 : wc.cell? ⟨gb361, 0, none⟩ = some (.string a0_0) := (blk_cell BK361.out 0).trans rfl
 have hcz19_1 : wc.cell? ⟨gb361, 1, none⟩ = some (.slice A0_1 l0_1.length c0_1) := (blk_cell BK361.out 1).trans rfl
 have hcz19_2 : wc.cell? ⟨gb361, 2, none⟩ = some (.slice A0_2 l0_2.length c0_2) := (blk_cell BK361.out 2).trans rfl
 have hcz19_3 : wc.cell? ⟨gb361, 3, none⟩ = some (.bool a0_3) := (blk_cell BK361.out 3).trans rfl
 have hcz19_4 : wc.cell? ⟨gb361, 4, none⟩ = some (.slice A0_4 l0_4.length c0_4) := (blk_cell BK361.out 4).trans rfl
 have hfz19_0 := blk_frozen BK361.out 0
 have hfz19_1 := blk_frozen BK361.out 1
 have hfz19_2 := blk_frozen BK361.out 2
 have hfz19_3 := blk_frozen BK361.out 3
 have hfz19_4 := blk_frozen BK361.out 4
 go_wp2_with (first | ((with_reducible refine gate_callee (f := 25) rfl ?_); refine goesL_ (some 20) rfl rfl Try.func25 (by kernel_rfl) rfl #[.agg #[.string a0_0, .slice A0_1 l0_1.length c0_1, .slice A0_2 l0_2.length c0_2, .bool a0_3, .slice A0_4 l0_4.length c0_4], .slice A1 l1.length c1] rfl (by (try simp only [List.map_toArray, List.map_cons, List.map_nil]); first | done | rfl | (simp only [List.length_drop, List.length_take]; rfl)) ?_; (with_reducible refine (slots_Fence.calls a0_0 (fun k_ => k_ < w.heap.size) _ _ l0_1 _ _ l0_2 a0_3 (fun k_ => k_ < w.heap.size) _ _ l0_4 _ _ l1 t364 t365 t368 t371 t372 _ ?side1 ?side2 ?side3 ?side4 ?side5 ?side6 A14.out).mono ?_); (case side1 => exact Kd.V_mk HC0_1.out (Kd.F_below (Kd.C_F k62_heap HR0_1.out) (by repeat (first | (with_reducible first | exact HB.out | apply below_alloc | apply pw_below_drewN | apply below_drew1 | refine below_set ?_ GE361.out) | exact HB.out)))); (case side2 => repeat (first | exact (Kd.C_below HR0_2.out HB.out) | (with_reducible refine Kd.C_alloc ?_ _) | (with_reducible refine Kd.C_drewN ?_ _) | (with_reducible refine Kd.C_drew ?_))); (case side3 => exact HC0_2.out); (case side4 => exact Kd.V_mk HC0_4.out (Kd.F_below (Kd.C_F k64_heap HR0_4.out) (by repeat (first | (with_reducible first | exact HB.out | apply below_alloc | apply pw_below_drewN | apply below_drew1 | refine below_set ?_ GE361.out) | exact HB.out)))); (case side5 => repeat (first | exact (Kd.C_below HR1.out HB.out) | (with_reducible refine Kd.C_alloc ?_ _) | (with_reducible refine Kd.C_drewN ?_ _) | (with_reducible refine Kd.C_drew ?_))); (case side6 => exact HC1.out); rintro e w20 ⟨v366, v369, v373, rfl, ho0, ho1, ho2, hb⟩; refine ⟨_, rfl, ?_⟩; have n0_ := Aside0.mk (Kd.V_lower (Kd.V_mono (ok' := fun k_ => some k_ ≠ (v369 : Value).ownBlock ∧ k_ ≠ gb361) ho0 (fun k_ hk_ => ⟨hk_.2, Or.elim hk_.1 (fun hs_ => Or.elim hs_ (fun hs_ => fun e_ => Nat.not_le.2 hs_ (by rw [e_]; exact GW361.out)) (fun hs_ => fun e_ => Nat.not_le.2 hs_ (by rw [e_]; exact GW361.out))) (fun hn_ => (Kd.freshB (g := gb361) (o := .cells #[.string a0_0, .slice A0_1 l0_1.length c0_1, .slice A0_2 l0_2.length c0_2, .bool a0_3, .slice A0_4 l0_4.length c0_4] 30 (0, 0)) (by (with_reducible repeat (first | refine blk_drewN ?_ _ | refine blk_drew ?_ | refine blk_alloc ?_ _)); exact BK361.out) k_ hn_))⟩)) (below_size (by repeat (first | (with_reducible first | exact HB.out | apply below_alloc | apply pw_below_drewN | apply below_drew1 | refine below_set ?_ GE361.out) | exact HB.out)))); have n1_ := Aside0.mk (Kd.S_lower (Kd.S_mono (ok' := fun k_ => True) ho1 (fun _ hk_ => trivial)) (below_size (by repeat (first | (with_reducible first | exact HB.out | apply below_alloc | apply pw_below_drewN | apply below_drew1 | refine below_set ?_ GE361.out) | exact HB.out)))); have n2_ := Aside0.mk (Kd.V_lower (Kd.V_mono (ok' := fun k_ => some k_ ≠ (v369 : Value).ownBlock ∧ k_ ≠ gb361) ho2 (fun k_ hk_ => ⟨hk_.2, Or.elim hk_.1 (fun hs_ => Or.elim hs_ (fun hs_ => fun e_ => Nat.not_le.2 hs_ (by rw [e_]; exact GW361.out)) (fun hs_ => fun e_ => Nat.not_le.2 hs_ (by rw [e_]; exact GW361.out))) (fun hn_ => (Kd.freshB (g := gb361) (o := .cells #[.string a0_0, .slice A0_1 l0_1.length c0_1, .slice A0_2 l0_2.length c0_2, .bool a0_3, .slice A0_4 l0_4.length c0_4] 30 (0, 0)) (by (with_reducible repeat (first | refine blk_drewN ?_ _ | refine blk_drew ?_ | refine blk_alloc ?_ _)); exact BK361.out) k_ hn_))⟩)) (below_size (by repeat (first | (with_reducible first | exact HB.out | apply below_alloc | apply pw_below_drewN | apply below_drew1 | refine below_set ?_ GE361.out) | exact HB.out)))); have n3_ := Aside0.mk (blk_below (g := gb361) (o := .cells #[.string a0_0, .slice A0_1 l0_1.length c0_1, .slice A0_2 l0_2.length c0_2, .bool a0_3, .slice A0_4 l0_4.length c0_4] 30 (0, 0)) (by (with_reducible repeat (first | refine blk_drewN ?_ _ | refine blk_drew ?_ | refine blk_alloc ?_ _)); exact BK361.out) hb); have n4_ := Aside0.mk (below_step (by repeat (first | (with_reducible first | exact HB.out | apply below_alloc | apply pw_below_drewN | apply below_drew1 | refine below_set ?_ GE361.out) | exact HB.out)) hb); clear BK361; clear HB; have HO367 := n0_; have HO370 := n1_; have HO374 := n2_; have BK361 := n3_; have HB := n4_; clear n0_ n1_ n2_ n3_ n4_; (try clear hb); (try clear hb2); (try clear hk); (try clear hi); (try clear ho0); (try clear ho1); (try clear ho2)) | ((with_reducible refine gate_dst (N := 6) rfl ?_); (try (refine gate_guard (by rfl) ?_; dsimp only)); refine box_event ?hg (N := 6) ?hd (cs := #[.string (⟨#[]⟩ : ByteArray), .slice none 0 0, .slice none 0 0, .bool false, .slice none 0 0]) (t := 30) ?hr ?_; (case hd => rfl); (case hg => rfl); (case hr => first | (go_simp; done) | (go_simp; rfl)); intro gb375 hg w21 hbox hb; have n0_ := Aside0.mk (Kd.V_below (Kd.V_elderB (by (with_reducible repeat (first | apply Kd.V_alloc | apply Kd.V_drewN | apply Kd.V_drew)); exact HO367.out) gb375 (Nat.le_of_eq hg.symm)) hb); have n1_ := Aside0.mk (Kd.S_below (by (with_reducible repeat (first | apply Kd.S_alloc | apply Kd.S_drewN | apply Kd.S_drew)); exact HO370.out) hb); have n2_ := Aside0.mk (Kd.V_below (Kd.V_elderB (by (with_reducible repeat (first | apply Kd.V_alloc | apply Kd.V_drewN | apply Kd.V_drew)); exact HO374.out) gb375 (Nat.le_of_eq hg.symm)) hb); have n3_ := Aside0.mk (blk_below (g := gb361) (o := .cells #[.string a0_0, .slice A0_1 l0_1.length c0_1, .slice A0_2 l0_2.length c0_2, .bool a0_3, .slice A0_4 l0_4.length c0_4] 30 (0, 0)) (by (with_reducible repeat (first | refine blk_drewN ?_ _ | refine blk_drew ?_ | refine blk_alloc ?_ _)); exact BK361.out) hb); have n4_ := Aside0.mk (below_step (by repeat (first | (with_reducible first | exact HB.out | apply below_alloc | apply pw_below_drewN | apply below_drew1 | refine below_set ?_ GE361.out) | exact HB.out)) hb); have n5_ := Aside0.mk (hbox); have n6_ := Aside0.mk ((by rw [hg]; exact (below_size (by repeat (first | (with_reducible first | exact HB.out | apply below_alloc | apply pw_below_drewN | apply below_drew1 | refine below_set ?_ GE361.out) | exact HB.out))) : w.heap.size ≤ gb375)); have n7_ := Aside0.mk ((by rw [hg]; exact (below_size (by repeat (first | (with_reducible first | exact HB.out | apply below_alloc | apply pw_below_drewN | apply below_drew1 | refine below_set ?_ GE361.out) | exact HB.out))) : w.heap.size ≤ gb375)); have n8_ := Aside0.mk ((by rw [hg]; exact Nat.ne_of_lt (blk_lt (g := gb361) (o := .cells #[.string a0_0, .slice A0_1 l0_1.length c0_1, .slice A0_2 l0_2.length c0_2, .bool a0_3, .slice A0_4 l0_4.length c0_4] 30 (0, 0)) (by (with_reducible repeat (first | refine blk_drewN ?_ _ | refine blk_drew ?_ | refine blk_alloc ?_ _)); exact BK361.out)) : gb361 ≠ gb375)); have n9_ := Aside0.mk ((by rw [hg]; exact Nat.ne_of_gt (blk_lt (g := gb361) (o := .cells #[.string a0_0, .slice A0_1 l0_1.length c0_1, .slice A0_2 l0_2.length c0_2, .bool a0_3, .slice A0_4 l0_4.length c0_4] 30 (0, 0)) (by (with_reducible repeat (first | refine blk_drewN ?_ _ | refine blk_drew ?_ | refine blk_alloc ?_ _)); exact BK361.out)) : gb375 ≠ gb361)); clear HO367; clear HO370; clear HO374; clear BK361; clear HB; have HO367 := n0_; have HO370 := n1_; have HO374 := n2_; have BK361 := n3_; have HB := n4_; have BK375 := n5_; have GW375 := n6_; have GE375 := n7_; have NB361_375 := n8_; have NB375_361 := n9_; clear n0_ n1_ n2_ n3_ n4_ n5_ n6_ n7_ n8_ n9_; clear hb hbox hg; have hnb22 := NB375_361.out; have hnc22 := NB361_375.out; have hcz23_0 : w21.cell? ⟨gb375, 0, none⟩ = some (.string (⟨#[]⟩ : ByteArray)) := (blk_cell BK375.out 0).trans rfl; have hcz23_1 : w21.cell? ⟨gb375, 1, none⟩ = some (.slice none 0 0) := (blk_cell BK375.out 1).trans rfl; have hcz23_2 : w21.cell? ⟨gb375, 2, none⟩ = some (.slice none 0 0) := (blk_cell BK375.out 2).trans rfl; have hcz23_3 : w21.cell? ⟨gb375, 3, none⟩ = some (.bool false) := (blk_cell BK375.out 3).trans rfl; have hcz23_4 : w21.cell? ⟨gb375, 4, none⟩ = some (.slice none 0 0) := (blk_cell BK375.out 4).trans rfl; have hfz23_0 := blk_frozen BK375.out 0; have hfz23_1 := blk_frozen BK375.out 1; have hfz23_2 := blk_frozen BK375.out 2; have hfz23_3 := blk_frozen BK375.out 3; have hfz23_4 := blk_frozen BK375.out 4; obtain ⟨Ao24, co24, eo24⟩ := Kd.V_slice HO367.out; subst eo24; obtain ⟨Ao25, co25, eo25⟩ := Kd.S_slice HO370.out; subst eo25; obtain ⟨Ao26, co26, eo26⟩ := Kd.V_slice HO374.out; subst eo26) | ((with_reducible refine gate_store (t := 30) (p := 6) rfl ?_); refine store_event (t := 30) (p := 6) (v := ?vo_w27) (w1 := (((((w21.setCell ⟨gb375, 0, none⟩ (.string t364)).setCell ⟨gb375, 1, none⟩ (.slice Ao24 t365.length co24)).setCell ⟨gb375, 2, none⟩ (.slice Ao25 t368.length co25)).setCell ⟨gb375, 3, none⟩ (.bool t371)).setCell ⟨gb375, 4, none⟩ (.slice Ao26 t372.length co26))) ?hg ?ho ?hn ?hr ?_; (case ho => rfl); (case hg => rfl); (case hn => rfl); (case hr => first | (go_simp; done) | (go_simp; rfl)); intro w27 hw; have n0_ : Aside0 (Kd.V k62 62 w27 w.heap.size (fun k_ => some k_ ≠ (.slice Ao25 t368.length co25 : Value).ownBlock ∧ k_ ≠ gb361 ∧ k_ ≠ gb375) (.slice Ao24 t365.length co24) t365) := ⟨(by rw [hw]; exact (by (with_reducible repeat (first | apply Kd.V_alloc | apply Kd.V_drewN | apply Kd.V_drew)); exact Kd.V_mono (Kd.V_far (p := ⟨gb375, 4, none⟩) (Kd.V_far (p := ⟨gb375, 3, none⟩) (Kd.V_far (p := ⟨gb375, 2, none⟩) (Kd.V_far (p := ⟨gb375, 1, none⟩) (Kd.V_far (p := ⟨gb375, 0, none⟩) (Kd.V_mono HO367.out (fun k_ hk => (⟨hk, hk.2⟩ : _ ∧ k_ ≠ gb375))) (fun _ hk => hk.2) (.string t364)) (fun _ hk => hk.2) (.slice Ao24 t365.length co24)) (fun _ hk => hk.2) (.slice Ao25 t368.length co25)) (fun _ hk => hk.2) (.bool t371)) (fun _ hk => hk.2) (.slice Ao26 t372.length co26)) (fun _ hk => ⟨hk.1.1.1, ⟨hk.1.1.2, hk.1.2⟩⟩)))⟩; have n1_ : Aside0 (Kd.S k58 58 w27 w.heap.size (fun _ => True) (.slice Ao25 t368.length co25) t368) := ⟨(by rw [hw]; exact (by (with_reducible repeat (first | apply Kd.S_alloc | apply Kd.S_drewN | apply Kd.S_drew)); exact Kd.S_mono (Kd.S_far (p := ⟨gb375, 4, none⟩) (Kd.S_far (p := ⟨gb375, 3, none⟩) (Kd.S_far (p := ⟨gb375, 2, none⟩) (Kd.S_far (p := ⟨gb375, 1, none⟩) (Kd.S_far (p := ⟨gb375, 0, none⟩) (Kd.S_types HO370.out BK375.out (by decide)) (fun _ hk => hk.2) (.string t364)) (fun _ hk => hk.2) (.slice Ao24 t365.length co24)) (fun _ hk => hk.2) (.slice Ao25 t368.length co25)) (fun _ hk => hk.2) (.bool t371)) (fun _ hk => hk.2) (.slice Ao26 t372.length co26)) (fun _ hk => trivial)))⟩; have n2_ : Aside0 (Kd.V k64 64 w27 w.heap.size (fun k_ => some k_ ≠ (.slice Ao25 t368.length co25 : Value).ownBlock ∧ k_ ≠ gb361 ∧ k_ ≠ gb375) (.slice Ao26 t372.length co26) t372) := ⟨(by rw [hw]; exact (by (with_reducible repeat (first | apply Kd.V_alloc | apply Kd.V_drewN | apply Kd.V_drew)); exact Kd.V_mono (Kd.V_far (p := ⟨gb375, 4, none⟩) (Kd.V_far (p := ⟨gb375, 3, none⟩) (Kd.V_far (p := ⟨gb375, 2, none⟩) (Kd.V_far (p := ⟨gb375, 1, none⟩) (Kd.V_far (p := ⟨gb375, 0, none⟩) (Kd.V_mono HO374.out (fun k_ hk => (⟨hk, hk.2⟩ : _ ∧ k_ ≠ gb375))) (fun _ hk => hk.2) (.string t364)) (fun _ hk => hk.2) (.slice Ao24 t365.length co24)) (fun _ hk => hk.2) (.slice Ao25 t368.length co25)) (fun _ hk => hk.2) (.bool t371)) (fun _ hk => hk.2) (.slice Ao26 t372.length co26)) (fun _ hk => ⟨hk.1.1.1, ⟨hk.1.1.2, hk.1.2⟩⟩)))⟩; have n3_ : Aside0 (w27.heap[gb361]? = some (.cells #[.string a0_0, .slice A0_1 l0_1.length c0_1, .slice A0_2 l0_2.length c0_2, .bool a0_3, .slice A0_4 l0_4.length c0_4] 30 (0, 0))) := ⟨(by rw [hw]; exact (by (with_reducible repeat (first | refine blk_drewN ?_ _ | refine blk_drew ?_ | refine blk_alloc ?_ _)); refine blk_far ?_ NB361_375.out _; (with_reducible repeat (first | refine blk_drewN ?_ _ | refine blk_drew ?_ | refine blk_alloc ?_ _)); refine blk_far ?_ NB361_375.out _; (with_reducible repeat (first | refine blk_drewN ?_ _ | refine blk_drew ?_ | refine blk_alloc ?_ _)); refine blk_far ?_ NB361_375.out _; (with_reducible repeat (first | refine blk_drewN ?_ _ | refine blk_drew ?_ | refine blk_alloc ?_ _)); refine blk_far ?_ NB361_375.out _; (with_reducible repeat (first | refine blk_drewN ?_ _ | refine blk_drew ?_ | refine blk_alloc ?_ _)); refine blk_far ?_ NB361_375.out _; (with_reducible repeat (first | refine blk_drewN ?_ _ | refine blk_drew ?_ | refine blk_alloc ?_ _)); exact BK361.out))⟩; have n4_ : Aside0 (w27.heap[gb375]? = some (.cells #[.string t364, .slice Ao24 t365.length co24, .slice Ao25 t368.length co25, .bool t371, .slice Ao26 t372.length co26] 30 (0, 0))) := ⟨(by rw [hw]; exact (by (with_reducible repeat (first | refine blk_drewN ?_ _ | refine blk_drew ?_ | refine blk_alloc ?_ _)); refine blk_put (cs := #[.string t364, .slice Ao24 t365.length co24, .slice Ao25 t368.length co25, .bool t371, .slice none 0 0]) ?_ 4 _ rfl; (with_reducible repeat (first | refine blk_drewN ?_ _ | refine blk_drew ?_ | refine blk_alloc ?_ _)); refine blk_put (cs := #[.string t364, .slice Ao24 t365.length co24, .slice Ao25 t368.length co25, .bool false, .slice none 0 0]) ?_ 3 _ rfl; (with_reducible repeat (first | refine blk_drewN ?_ _ | refine blk_drew ?_ | refine blk_alloc ?_ _)); refine blk_put (cs := #[.string t364, .slice Ao24 t365.length co24, .slice none 0 0, .bool false, .slice none 0 0]) ?_ 2 _ rfl; (with_reducible repeat (first | refine blk_drewN ?_ _ | refine blk_drew ?_ | refine blk_alloc ?_ _)); refine blk_put (cs := #[.string t364, .slice none 0 0, .slice none 0 0, .bool false, .slice none 0 0]) ?_ 1 _ rfl; (with_reducible repeat (first | refine blk_drewN ?_ _ | refine blk_drew ?_ | refine blk_alloc ?_ _)); refine blk_put (cs := #[.string (⟨#[]⟩ : ByteArray), .slice none 0 0, .slice none 0 0, .bool false, .slice none 0 0]) ?_ 0 _ rfl; (with_reducible repeat (first | refine blk_drewN ?_ _ | refine blk_drew ?_ | refine blk_alloc ?_ _)); exact BK375.out))⟩; have n5_ : Aside0 (Below w.heap.size w w27) := ⟨(by rw [hw]; exact (by repeat (first | (with_reducible first | exact HB.out | apply below_alloc | apply pw_below_drewN | apply below_drew1 | refine below_set ?_ GE361.out | refine below_set ?_ GE375.out) | exact HB.out)))⟩; clear hw; clear HO367; clear HO370; clear HO374; clear BK361; clear BK375; clear HB; have HO367 := n0_; have HO370 := n1_; have HO374 := n2_; have BK361 := n3_; have BK375 := n4_; have HB := n5_; clear n0_ n1_ n2_ n3_ n4_ n5_; have hcz28_0 : w27.cell? ⟨gb375, 0, none⟩ = some (.string t364) := (blk_cell BK375.out 0).trans rfl; have hcz28_1 : w27.cell? ⟨gb375, 1, none⟩ = some (.slice Ao24 t365.length co24) := (blk_cell BK375.out 1).trans rfl; have hcz28_2 : w27.cell? ⟨gb375, 2, none⟩ = some (.slice Ao25 t368.length co25) := (blk_cell BK375.out 2).trans rfl; have hcz28_3 : w27.cell? ⟨gb375, 3, none⟩ = some (.bool t371) := (blk_cell BK375.out 3).trans rfl; have hcz28_4 : w27.cell? ⟨gb375, 4, none⟩ = some (.slice Ao26 t372.length co26) := (blk_cell BK375.out 4).trans rfl; have hfz28_0 := blk_frozen BK375.out 0; have hfz28_1 := blk_frozen BK375.out 1; have hfz28_2 := blk_frozen BK375.out 2; have hfz28_3 := blk_frozen BK375.out 3; have hfz28_4 := blk_frozen BK375.out 4) | ((with_reducible refine gate_callee (f := 15) rfl ?_); refine goesL_ (some 24) rfl rfl Try.func15 (by kernel_rfl) rfl #[.agg #[.string t364, .slice Ao24 t365.length co24, .slice Ao25 t368.length co25, .bool t371, .slice Ao26 t372.length co26], .slice A1 l1.length c1] rfl (by (try simp only [List.map_toArray, List.map_cons, List.map_nil]); first | done | rfl | (simp only [List.length_drop, List.length_take]; rfl)) ?_; (with_reducible refine (slots_Erase.calls t364 (fun k_ => (some k_ ≠ (.slice Ao25 t368.length co25 : Value).ownBlock ∧ (k_ ≠ gb361 ∧ k_ ≠ gb375))) _ _ t365 (fun k_ => ((True ∧ k_ ≠ gb361) ∧ k_ ≠ gb375)) _ _ t368 t371 (fun k_ => (some k_ ≠ (.slice Ao25 t368.length co25 : Value).ownBlock ∧ (k_ ≠ gb361 ∧ k_ ≠ gb375))) _ _ t372 _ _ l1 t376 t377 t380 t383 t384 true _ ?side1 ?side2 ?side3 ?side4 ?side5 A15.out).mono ?_); (case side1 => exact HO367.out); (case side2 => exact Kd.S_V (Kd.S_types (Kd.S_types (HO370.out) BK361.out (by decide)) BK375.out (by decide))); (case side3 => exact HO374.out); (case side4 => repeat (first | exact (Kd.C_below HR1.out HB.out) | (with_reducible refine Kd.C_alloc ?_ _) | (with_reducible refine Kd.C_drewN ?_ _) | (with_reducible refine Kd.C_drew ?_))); (case side5 => exact HC1.out); rintro e w29 ⟨v378, v381, v385, rfl, ho0, ho1, ho2, hb⟩; refine ⟨_, rfl, ?_⟩; have n0_ := Aside0.mk (Kd.V_below (by (with_reducible repeat (first | apply Kd.V_alloc | apply Kd.V_drewN | apply Kd.V_drew)); exact HO367.out) hb); have n1_ := Aside0.mk (Kd.S_below (by (with_reducible repeat (first | apply Kd.S_alloc | apply Kd.S_drewN | apply Kd.S_drew)); exact HO370.out) hb); have n2_ := Aside0.mk (Kd.V_below (by (with_reducible repeat (first | apply Kd.V_alloc | apply Kd.V_drewN | apply Kd.V_drew)); exact HO374.out) hb); have n3_ := Aside0.mk (Kd.V_lower (Kd.V_mono (ok' := fun k_ => k_ ≠ gb361 ∧ k_ ≠ gb375) ho0 (fun k_ hk_ => ⟨Or.elim hk_ (fun hs_ => Or.elim hs_ (fun hs_ => hs_.2.1) (fun hs_ => Or.elim hs_ (fun hs_ => hs_.1.2) (fun hs_ => hs_.2.1))) (fun hn_ => (Kd.freshB (g := gb361) (o := .cells #[.string a0_0, .slice A0_1 l0_1.length c0_1, .slice A0_2 l0_2.length c0_2, .bool a0_3, .slice A0_4 l0_4.length c0_4] 30 (0, 0)) (by (with_reducible repeat (first | refine blk_drewN ?_ _ | refine blk_drew ?_ | refine blk_alloc ?_ _)); exact BK361.out) k_ hn_)), Or.elim hk_ (fun hs_ => Or.elim hs_ (fun hs_ => hs_.2.2) (fun hs_ => Or.elim hs_ (fun hs_ => hs_.2) (fun hs_ => hs_.2.2))) (fun hn_ => (Kd.freshB (g := gb375) (o := .cells #[.string t364, .slice Ao24 t365.length co24, .slice Ao25 t368.length co25, .bool t371, .slice Ao26 t372.length co26] 30 (0, 0)) (by (with_reducible repeat (first | refine blk_drewN ?_ _ | refine blk_drew ?_ | refine blk_alloc ?_ _)); exact BK375.out) k_ hn_))⟩)) (below_size (by repeat (first | (with_reducible first | exact HB.out | apply below_alloc | apply pw_below_drewN | apply below_drew1 | refine below_set ?_ GE361.out | refine below_set ?_ GE375.out) | exact HB.out)))); have n4_ := Aside0.mk (Kd.V_lower (Kd.V_mono (ok' := fun k_ => k_ ≠ gb361 ∧ k_ ≠ gb375) ho1 (fun k_ hk_ => ⟨Or.elim hk_ (fun hs_ => Or.elim hs_ (fun hs_ => hs_.2.1) (fun hs_ => Or.elim hs_ (fun hs_ => hs_.1.2) (fun hs_ => hs_.2.1))) (fun hn_ => (Kd.freshB (g := gb361) (o := .cells #[.string a0_0, .slice A0_1 l0_1.length c0_1, .slice A0_2 l0_2.length c0_2, .bool a0_3, .slice A0_4 l0_4.length c0_4] 30 (0, 0)) (by (with_reducible repeat (first | refine blk_drewN ?_ _ | refine blk_drew ?_ | refine blk_alloc ?_ _)); exact BK361.out) k_ hn_)), Or.elim hk_ (fun hs_ => Or.elim hs_ (fun hs_ => hs_.2.2) (fun hs_ => Or.elim hs_ (fun hs_ => hs_.2) (fun hs_ => hs_.2.2))) (fun hn_ => (Kd.freshB (g := gb375) (o := .cells #[.string t364, .slice Ao24 t365.length co24, .slice Ao25 t368.length co25, .bool t371, .slice Ao26 t372.length co26] 30 (0, 0)) (by (with_reducible repeat (first | refine blk_drewN ?_ _ | refine blk_drew ?_ | refine blk_alloc ?_ _)); exact BK375.out) k_ hn_))⟩)) (below_size (by repeat (first | (with_reducible first | exact HB.out | apply below_alloc | apply pw_below_drewN | apply below_drew1 | refine below_set ?_ GE361.out | refine below_set ?_ GE375.out) | exact HB.out)))); have n5_ := Aside0.mk (Kd.V_lower (Kd.V_mono (ok' := fun k_ => k_ ≠ gb361 ∧ k_ ≠ gb375) ho2 (fun k_ hk_ => ⟨Or.elim hk_ (fun hs_ => Or.elim hs_ (fun hs_ => hs_.2.1) (fun hs_ => Or.elim hs_ (fun hs_ => hs_.1.2) (fun hs_ => hs_.2.1))) (fun hn_ => (Kd.freshB (g := gb361) (o := .cells #[.string a0_0, .slice A0_1 l0_1.length c0_1, .slice A0_2 l0_2.length c0_2, .bool a0_3, .slice A0_4 l0_4.length c0_4] 30 (0, 0)) (by (with_reducible repeat (first | refine blk_drewN ?_ _ | refine blk_drew ?_ | refine blk_alloc ?_ _)); exact BK361.out) k_ hn_)), Or.elim hk_ (fun hs_ => Or.elim hs_ (fun hs_ => hs_.2.2) (fun hs_ => Or.elim hs_ (fun hs_ => hs_.2) (fun hs_ => hs_.2.2))) (fun hn_ => (Kd.freshB (g := gb375) (o := .cells #[.string t364, .slice Ao24 t365.length co24, .slice Ao25 t368.length co25, .bool t371, .slice Ao26 t372.length co26] 30 (0, 0)) (by (with_reducible repeat (first | refine blk_drewN ?_ _ | refine blk_drew ?_ | refine blk_alloc ?_ _)); exact BK375.out) k_ hn_))⟩)) (below_size (by repeat (first | (with_reducible first | exact HB.out | apply below_alloc | apply pw_below_drewN | apply below_drew1 | refine below_set ?_ GE361.out | refine below_set ?_ GE375.out) | exact HB.out)))); have n6_ := Aside0.mk (blk_below (g := gb361) (o := .cells #[.string a0_0, .slice A0_1 l0_1.length c0_1, .slice A0_2 l0_2.length c0_2, .bool a0_3, .slice A0_4 l0_4.length c0_4] 30 (0, 0)) (by (with_reducible repeat (first | refine blk_drewN ?_ _ | refine blk_drew ?_ | refine blk_alloc ?_ _)); exact BK361.out) hb); have n7_ := Aside0.mk (blk_below (g := gb375) (o := .cells #[.string t364, .slice Ao24 t365.length co24, .slice Ao25 t368.length co25, .bool t371, .slice Ao26 t372.length co26] 30 (0, 0)) (by (with_reducible repeat (first | refine blk_drewN ?_ _ | refine blk_drew ?_ | refine blk_alloc ?_ _)); exact BK375.out) hb); have n8_ := Aside0.mk (below_step (by repeat (first | (with_reducible first | exact HB.out | apply below_alloc | apply pw_below_drewN | apply below_drew1 | refine below_set ?_ GE361.out | refine below_set ?_ GE375.out) | exact HB.out)) hb); clear HO367; clear HO370; clear HO374; clear BK361; clear BK375; clear HB; have HO367 := n0_; have HO370 := n1_; have HO374 := n2_; have HO379 := n3_; have HO382 := n4_; have HO386 := n5_; have BK361 := n6_; have BK375 := n7_; have HB := n8_; clear n0_ n1_ n2_ n3_ n4_ n5_ n6_ n7_ n8_; (try clear hb); (try clear hb2); (try clear hk); (try clear hi); (try clear ho0); (try clear ho1); (try clear ho2)) | ((with_reducible refine gate_dst (N := 7) rfl ?_); (try (refine gate_guard (by rfl) ?_; dsimp only)); refine box_event ?hg (N := 7) ?hd (cs := #[.string (⟨#[]⟩ : ByteArray), .slice none 0 0, .slice none 0 0, .bool false, .slice none 0 0]) (t := 30) ?hr ?_; (case hd => rfl); (case hg => rfl); (case hr => first | (go_simp; done) | (go_simp; rfl)); intro gb388 hg w30 hbox hb; have n0_ := Aside0.mk (Kd.V_below (Kd.V_elderB (by (with_reducible repeat (first | apply Kd.V_alloc | apply Kd.V_drewN | apply Kd.V_drew)); exact HO367.out) gb388 (Nat.le_of_eq hg.symm)) hb); have n1_ := Aside0.mk (Kd.S_below (by (with_reducible repeat (first | apply Kd.S_alloc | apply Kd.S_drewN | apply Kd.S_drew)); exact HO370.out) hb); have n2_ := Aside0.mk (Kd.V_below (Kd.V_elderB (by (with_reducible repeat (first | apply Kd.V_alloc | apply Kd.V_drewN | apply Kd.V_drew)); exact HO374.out) gb388 (Nat.le_of_eq hg.symm)) hb); have n3_ := Aside0.mk (Kd.V_below (Kd.V_elderB (by (with_reducible repeat (first | apply Kd.V_alloc | apply Kd.V_drewN | apply Kd.V_drew)); exact HO379.out) gb388 (Nat.le_of_eq hg.symm)) hb); have n4_ := Aside0.mk (Kd.V_below (Kd.V_elderB (by (with_reducible repeat (first | apply Kd.V_alloc | apply Kd.V_drewN | apply Kd.V_drew)); exact HO382.out) gb388 (Nat.le_of_eq hg.symm)) hb); have n5_ := Aside0.mk (Kd.V_below (Kd.V_elderB (by (with_reducible repeat (first | apply Kd.V_alloc | apply Kd.V_drewN | apply Kd.V_drew)); exact HO386.out) gb388 (Nat.le_of_eq hg.symm)) hb); have n6_ := Aside0.mk (blk_below (g := gb361) (o := .cells #[.string a0_0, .slice A0_1 l0_1.length c0_1, .slice A0_2 l0_2.length c0_2, .bool a0_3, .slice A0_4 l0_4.length c0_4] 30 (0, 0)) (by (with_reducible repeat (first | refine blk_drewN ?_ _ | refine blk_drew ?_ | refine blk_alloc ?_ _)); exact BK361.out) hb); have n7_ := Aside0.mk (blk_below (g := gb375) (o := .cells #[.string t364, .slice Ao24 t365.length co24, .slice Ao25 t368.length co25, .bool t371, .slice Ao26 t372.length co26] 30 (0, 0)) (by (with_reducible repeat (first | refine blk_drewN ?_ _ | refine blk_drew ?_ | refine blk_alloc ?_ _)); exact BK375.out) hb); have n8_ := Aside0.mk (below_step (by repeat (first | (with_reducible first | exact HB.out | apply below_alloc | apply pw_below_drewN | apply below_drew1 | refine below_set ?_ GE361.out | refine below_set ?_ GE375.out) | exact HB.out)) hb); have n9_ := Aside0.mk (hbox); have n10_ := Aside0.mk ((by rw [hg]; exact (below_size (by repeat (first | (with_reducible first | exact HB.out | apply below_alloc | apply pw_below_drewN | apply below_drew1 | refine below_set ?_ GE361.out | refine below_set ?_ GE375.out) | exact HB.out))) : w.heap.size ≤ gb388)); have n11_ := Aside0.mk ((by rw [hg]; exact (below_size (by repeat (first | (with_reducible first | exact HB.out | apply below_alloc | apply pw_below_drewN | apply below_drew1 | refine below_set ?_ GE361.out | refine below_set ?_ GE375.out) | exact HB.out))) : w.heap.size ≤ gb388)); have n12_ := Aside0.mk ((by rw [hg]; exact Nat.ne_of_lt (blk_lt (g := gb361) (o := .cells #[.string a0_0, .slice A0_1 l0_1.length c0_1, .slice A0_2 l0_2.length c0_2, .bool a0_3, .slice A0_4 l0_4.length c0_4] 30 (0, 0)) (by (with_reducible repeat (first | refine blk_drewN ?_ _ | refine blk_drew ?_ | refine blk_alloc ?_ _)); exact BK361.out)) : gb361 ≠ gb388)); have n13_ := Aside0.mk ((by rw [hg]; exact Nat.ne_of_gt (blk_lt (g := gb361) (o := .cells #[.string a0_0, .slice A0_1 l0_1.length c0_1, .slice A0_2 l0_2.length c0_2, .bool a0_3, .slice A0_4 l0_4.length c0_4] 30 (0, 0)) (by (with_reducible repeat (first | refine blk_drewN ?_ _ | refine blk_drew ?_ | refine blk_alloc ?_ _)); exact BK361.out)) : gb388 ≠ gb361)); have n14_ := Aside0.mk ((by rw [hg]; exact Nat.ne_of_lt (blk_lt (g := gb375) (o := .cells #[.string t364, .slice Ao24 t365.length co24, .slice Ao25 t368.length co25, .bool t371, .slice Ao26 t372.length co26] 30 (0, 0)) (by (with_reducible repeat (first | refine blk_drewN ?_ _ | refine blk_drew ?_ | refine blk_alloc ?_ _)); exact BK375.out)) : gb375 ≠ gb388)); have n15_ := Aside0.mk ((by rw [hg]; exact Nat.ne_of_gt (blk_lt (g := gb375) (o := .cells #[.string t364, .slice Ao24 t365.length co24, .slice Ao25 t368.length co25, .bool t371, .slice Ao26 t372.length co26] 30 (0, 0)) (by (with_reducible repeat (first | refine blk_drewN ?_ _ | refine blk_drew ?_ | refine blk_alloc ?_ _)); exact BK375.out)) : gb388 ≠ gb375)); clear HO367; clear HO370; clear HO374; clear HO379; clear HO382; clear HO386; clear BK361; clear BK375; clear HB; have HO367 := n0_; have HO370 := n1_; have HO374 := n2_; have HO379 := n3_; have HO382 := n4_; have HO386 := n5_; have BK361 := n6_; have BK375 := n7_; have HB := n8_; have BK388 := n9_; have GW388 := n10_; have GE388 := n11_; have NB361_388 := n12_; have NB388_361 := n13_; have NB375_388 := n14_; have NB388_375 := n15_; clear n0_ n1_ n2_ n3_ n4_ n5_ n6_ n7_ n8_ n9_ n10_ n11_ n12_ n13_ n14_ n15_; clear hb hbox hg; have hnb31 := NB388_361.out; have hnc31 := NB361_388.out; have hnb32 := NB388_375.out; have hnc32 := NB375_388.out; have hcz33_0 : w30.cell? ⟨gb388, 0, none⟩ = some (.string (⟨#[]⟩ : ByteArray)) := (blk_cell BK388.out 0).trans rfl; have hcz33_1 : w30.cell? ⟨gb388, 1, none⟩ = some (.slice none 0 0) := (blk_cell BK388.out 1).trans rfl; have hcz33_2 : w30.cell? ⟨gb388, 2, none⟩ = some (.slice none 0 0) := (blk_cell BK388.out 2).trans rfl; have hcz33_3 : w30.cell? ⟨gb388, 3, none⟩ = some (.bool false) := (blk_cell BK388.out 3).trans rfl; have hcz33_4 : w30.cell? ⟨gb388, 4, none⟩ = some (.slice none 0 0) := (blk_cell BK388.out 4).trans rfl; have hfz33_0 := blk_frozen BK388.out 0; have hfz33_1 := blk_frozen BK388.out 1; have hfz33_2 := blk_frozen BK388.out 2; have hfz33_3 := blk_frozen BK388.out 3; have hfz33_4 := blk_frozen BK388.out 4; obtain ⟨Ao34, co34, eo34⟩ := Kd.V_slice HO379.out; subst eo34; obtain ⟨Ao35, co35, eo35⟩ := Kd.V_slice HO382.out; subst eo35; obtain ⟨Ao36, co36, eo36⟩ := Kd.V_slice HO386.out; subst eo36; have hcz37_0 : w30.cell? ⟨gb361, 0, none⟩ = some (.string a0_0) := (blk_cell BK361.out 0).trans rfl; have hcz37_1 : w30.cell? ⟨gb361, 1, none⟩ = some (.slice A0_1 l0_1.length c0_1) := (blk_cell BK361.out 1).trans rfl; have hcz37_2 : w30.cell? ⟨gb361, 2, none⟩ = some (.slice A0_2 l0_2.length c0_2) := (blk_cell BK361.out 2).trans rfl; have hcz37_3 : w30.cell? ⟨gb361, 3, none⟩ = some (.bool a0_3) := (blk_cell BK361.out 3).trans rfl; have hcz37_4 : w30.cell? ⟨gb361, 4, none⟩ = some (.slice A0_4 l0_4.length c0_4) := (blk_cell BK361.out 4).trans rfl; have hfz37_0 := blk_frozen BK361.out 0; have hfz37_1 := blk_frozen BK361.out 1; have hfz37_2 := blk_frozen BK361.out 2; have hfz37_3 := blk_frozen BK361.out 3; have hfz37_4 := blk_frozen BK361.out 4) | (go_at_call 24; (with_reducible refine (fencepostref04_Same.calls kj3 t376 _ _ t377 _ _ t380 t383 _ _ t384 a0_0 _ _ l0_1 _ _ l0_2 a0_3 _ _ l0_4 t389 _ ?side1 ?side2 ?side3 ?side4 ?side5 ?side6 ?side7 ?side8 ?side9 ?side10 ?side11 ?side12 A18.out).mono ?_); (case side1 => refine (Kd.V_reads' (e := 62) (base := w.heap.size) (ok := fun k_ => ((k_ ≠ gb361 ∧ k_ ≠ gb375) ∧ k_ ≠ gb388)) (n := t377.length) (c := co34) ?_).2.2; exact (by (with_reducible repeat (first | apply Kd.V_alloc | apply Kd.V_drewN | apply Kd.V_drew)); exact (Kd.V_mono (Kd.V_far (p := ⟨gb388, 4, none⟩) (Kd.V_far (p := ⟨gb388, 3, none⟩) (Kd.V_far (p := ⟨gb388, 2, none⟩) (Kd.V_far (p := ⟨gb388, 1, none⟩) (Kd.V_far (p := ⟨gb388, 0, none⟩) (Kd.V_mono HO379.out (fun k_ hk => (⟨hk, hk.2⟩ : _ ∧ k_ ≠ gb388))) (fun _ hk => hk.2) (.string t376)) (fun _ hk => hk.2) (.slice Ao34 t377.length co34)) (fun _ hk => hk.2) (.slice Ao35 t380.length co35)) (fun _ hk => hk.2) (.bool t383)) (fun _ hk => hk.2) (.slice Ao36 t384.length co36)) (fun _ h_ => h_.1)))); (case side2 => exact (Kd.V_reads' HO379.out).2.1); (case side3 => refine (Kd.V_reads' (e := 58) (base := w.heap.size) (ok := fun k_ => ((k_ ≠ gb361 ∧ k_ ≠ gb375) ∧ k_ ≠ gb388)) (n := t380.length) (c := co35) ?_).2.2; exact (by (with_reducible repeat (first | apply Kd.V_alloc | apply Kd.V_drewN | apply Kd.V_drew)); exact (Kd.V_mono (Kd.V_far (p := ⟨gb388, 4, none⟩) (Kd.V_far (p := ⟨gb388, 3, none⟩) (Kd.V_far (p := ⟨gb388, 2, none⟩) (Kd.V_far (p := ⟨gb388, 1, none⟩) (Kd.V_far (p := ⟨gb388, 0, none⟩) (Kd.V_mono HO382.out (fun k_ hk => (⟨hk, hk.2⟩ : _ ∧ k_ ≠ gb388))) (fun _ hk => hk.2) (.string t376)) (fun _ hk => hk.2) (.slice Ao34 t377.length co34)) (fun _ hk => hk.2) (.slice Ao35 t380.length co35)) (fun _ hk => hk.2) (.bool t383)) (fun _ hk => hk.2) (.slice Ao36 t384.length co36)) (fun _ h_ => h_.1)))); (case side4 => exact (Kd.V_reads' HO382.out).2.1); (case side5 => refine (Kd.V_reads' (e := 64) (base := w.heap.size) (ok := fun k_ => ((k_ ≠ gb361 ∧ k_ ≠ gb375) ∧ k_ ≠ gb388)) (n := t384.length) (c := co36) ?_).2.2; exact (by (with_reducible repeat (first | apply Kd.V_alloc | apply Kd.V_drewN | apply Kd.V_drew)); exact (Kd.V_mono (Kd.V_far (p := ⟨gb388, 4, none⟩) (Kd.V_far (p := ⟨gb388, 3, none⟩) (Kd.V_far (p := ⟨gb388, 2, none⟩) (Kd.V_far (p := ⟨gb388, 1, none⟩) (Kd.V_far (p := ⟨gb388, 0, none⟩) (Kd.V_mono HO386.out (fun k_ hk => (⟨hk, hk.2⟩ : _ ∧ k_ ≠ gb388))) (fun _ hk => hk.2) (.string t376)) (fun _ hk => hk.2) (.slice Ao34 t377.length co34)) (fun _ hk => hk.2) (.slice Ao35 t380.length co35)) (fun _ hk => hk.2) (.bool t383)) (fun _ hk => hk.2) (.slice Ao36 t384.length co36)) (fun _ h_ => h_.1)))); (case side6 => exact (Kd.V_reads' HO386.out).2.1); (case side7 => exact Kd.C_below HR0_1.out (by repeat (first | (with_reducible first | exact HB.out | apply below_alloc | apply pw_below_drewN | apply below_drew1 | refine below_set ?_ GE361.out | refine below_set ?_ GE375.out | refine below_set ?_ GE388.out) | exact HB.out))); (case side8 => exact HC0_1.out); (case side9 => exact Kd.C_below HR0_2.out (by repeat (first | (with_reducible first | exact HB.out | apply below_alloc | apply pw_below_drewN | apply below_drew1 | refine below_set ?_ GE361.out | refine below_set ?_ GE375.out | refine below_set ?_ GE388.out) | exact HB.out))); (case side10 => exact HC0_2.out); (case side11 => exact Kd.C_below HR0_4.out (by repeat (first | (with_reducible first | exact HB.out | apply below_alloc | apply pw_below_drewN | apply below_drew1 | refine below_set ?_ GE361.out | refine below_set ?_ GE375.out | refine below_set ?_ GE388.out) | exact HB.out))); (case side12 => exact HC0_4.out); rintro e w38 ⟨rfl, hb⟩; have n0_ := Aside0.mk (Kd.V_below (by (with_reducible repeat (first | apply Kd.V_alloc | apply Kd.V_drewN | apply Kd.V_drew)); exact (Kd.V_mono (Kd.V_far (p := ⟨gb388, 4, none⟩) (Kd.V_far (p := ⟨gb388, 3, none⟩) (Kd.V_far (p := ⟨gb388, 2, none⟩) (Kd.V_far (p := ⟨gb388, 1, none⟩) (Kd.V_far (p := ⟨gb388, 0, none⟩) (Kd.V_mono HO367.out (fun k_ hk => (⟨hk, hk.2⟩ : _ ∧ k_ ≠ gb388))) (fun _ hk => hk.2) (.string t376)) (fun _ hk => hk.2) (.slice Ao34 t377.length co34)) (fun _ hk => hk.2) (.slice Ao35 t380.length co35)) (fun _ hk => hk.2) (.bool t383)) (fun _ hk => hk.2) (.slice Ao36 t384.length co36)) (fun _ h_ => h_.1))) hb); have n1_ := Aside0.mk (Kd.S_below (by (with_reducible repeat (first | apply Kd.S_alloc | apply Kd.S_drewN | apply Kd.S_drew)); exact (Kd.S_mono (Kd.S_far (p := ⟨gb388, 4, none⟩) (Kd.S_far (p := ⟨gb388, 3, none⟩) (Kd.S_far (p := ⟨gb388, 2, none⟩) (Kd.S_far (p := ⟨gb388, 1, none⟩) (Kd.S_far (p := ⟨gb388, 0, none⟩) (Kd.S_types HO370.out BK388.out (by decide)) (fun _ hk => hk.2) (.string t376)) (fun _ hk => hk.2) (.slice Ao34 t377.length co34)) (fun _ hk => hk.2) (.slice Ao35 t380.length co35)) (fun _ hk => hk.2) (.bool t383)) (fun _ hk => hk.2) (.slice Ao36 t384.length co36)) (fun _ h_ => h_.1))) hb); have n2_ := Aside0.mk (Kd.V_below (by (with_reducible repeat (first | apply Kd.V_alloc | apply Kd.V_drewN | apply Kd.V_drew)); exact (Kd.V_mono (Kd.V_far (p := ⟨gb388, 4, none⟩) (Kd.V_far (p := ⟨gb388, 3, none⟩) (Kd.V_far (p := ⟨gb388, 2, none⟩) (Kd.V_far (p := ⟨gb388, 1, none⟩) (Kd.V_far (p := ⟨gb388, 0, none⟩) (Kd.V_mono HO374.out (fun k_ hk => (⟨hk, hk.2⟩ : _ ∧ k_ ≠ gb388))) (fun _ hk => hk.2) (.string t376)) (fun _ hk => hk.2) (.slice Ao34 t377.length co34)) (fun _ hk => hk.2) (.slice Ao35 t380.length co35)) (fun _ hk => hk.2) (.bool t383)) (fun _ hk => hk.2) (.slice Ao36 t384.length co36)) (fun _ h_ => h_.1))) hb); have n3_ := Aside0.mk (Kd.V_below (by (with_reducible repeat (first | apply Kd.V_alloc | apply Kd.V_drewN | apply Kd.V_drew)); exact (Kd.V_mono (Kd.V_far (p := ⟨gb388, 4, none⟩) (Kd.V_far (p := ⟨gb388, 3, none⟩) (Kd.V_far (p := ⟨gb388, 2, none⟩) (Kd.V_far (p := ⟨gb388, 1, none⟩) (Kd.V_far (p := ⟨gb388, 0, none⟩) (Kd.V_mono HO379.out (fun k_ hk => (⟨hk, hk.2⟩ : _ ∧ k_ ≠ gb388))) (fun _ hk => hk.2) (.string t376)) (fun _ hk => hk.2) (.slice Ao34 t377.length co34)) (fun _ hk => hk.2) (.slice Ao35 t380.length co35)) (fun _ hk => hk.2) (.bool t383)) (fun _ hk => hk.2) (.slice Ao36 t384.length co36)) (fun _ h_ => h_.1))) hb); have n4_ := Aside0.mk (Kd.V_below (by (with_reducible repeat (first | apply Kd.V_alloc | apply Kd.V_drewN | apply Kd.V_drew)); exact (Kd.V_mono (Kd.V_far (p := ⟨gb388, 4, none⟩) (Kd.V_far (p := ⟨gb388, 3, none⟩) (Kd.V_far (p := ⟨gb388, 2, none⟩) (Kd.V_far (p := ⟨gb388, 1, none⟩) (Kd.V_far (p := ⟨gb388, 0, none⟩) (Kd.V_mono HO382.out (fun k_ hk => (⟨hk, hk.2⟩ : _ ∧ k_ ≠ gb388))) (fun _ hk => hk.2) (.string t376)) (fun _ hk => hk.2) (.slice Ao34 t377.length co34)) (fun _ hk => hk.2) (.slice Ao35 t380.length co35)) (fun _ hk => hk.2) (.bool t383)) (fun _ hk => hk.2) (.slice Ao36 t384.length co36)) (fun _ h_ => h_.1))) hb); have n5_ := Aside0.mk (Kd.V_below (by (with_reducible repeat (first | apply Kd.V_alloc | apply Kd.V_drewN | apply Kd.V_drew)); exact (Kd.V_mono (Kd.V_far (p := ⟨gb388, 4, none⟩) (Kd.V_far (p := ⟨gb388, 3, none⟩) (Kd.V_far (p := ⟨gb388, 2, none⟩) (Kd.V_far (p := ⟨gb388, 1, none⟩) (Kd.V_far (p := ⟨gb388, 0, none⟩) (Kd.V_mono HO386.out (fun k_ hk => (⟨hk, hk.2⟩ : _ ∧ k_ ≠ gb388))) (fun _ hk => hk.2) (.string t376)) (fun _ hk => hk.2) (.slice Ao34 t377.length co34)) (fun _ hk => hk.2) (.slice Ao35 t380.length co35)) (fun _ hk => hk.2) (.bool t383)) (fun _ hk => hk.2) (.slice Ao36 t384.length co36)) (fun _ h_ => h_.1))) hb); have n6_ := Aside0.mk (blk_below (g := gb361) (o := .cells #[.string a0_0, .slice A0_1 l0_1.length c0_1, .slice A0_2 l0_2.length c0_2, .bool a0_3, .slice A0_4 l0_4.length c0_4] 30 (0, 0)) (by (with_reducible repeat (first | refine blk_drewN ?_ _ | refine blk_drew ?_ | refine blk_alloc ?_ _)); refine blk_far ?_ NB361_388.out _; (with_reducible repeat (first | refine blk_drewN ?_ _ | refine blk_drew ?_ | refine blk_alloc ?_ _)); refine blk_far ?_ NB361_388.out _; (with_reducible repeat (first | refine blk_drewN ?_ _ | refine blk_drew ?_ | refine blk_alloc ?_ _)); refine blk_far ?_ NB361_388.out _; (with_reducible repeat (first | refine blk_drewN ?_ _ | refine blk_drew ?_ | refine blk_alloc ?_ _)); refine blk_far ?_ NB361_388.out _; (with_reducible repeat (first | refine blk_drewN ?_ _ | refine blk_drew ?_ | refine blk_alloc ?_ _)); refine blk_far ?_ NB361_388.out _; (with_reducible repeat (first | refine blk_drewN ?_ _ | refine blk_drew ?_ | refine blk_alloc ?_ _)); exact BK361.out) hb); have n7_ := Aside0.mk (blk_below (g := gb375) (o := .cells #[.string t364, .slice Ao24 t365.length co24, .slice Ao25 t368.length co25, .bool t371, .slice Ao26 t372.length co26] 30 (0, 0)) (by (with_reducible repeat (first | refine blk_drewN ?_ _ | refine blk_drew ?_ | refine blk_alloc ?_ _)); refine blk_far ?_ NB375_388.out _; (with_reducible repeat (first | refine blk_drewN ?_ _ | refine blk_drew ?_ | refine blk_alloc ?_ _)); refine blk_far ?_ NB375_388.out _; (with_reducible repeat (first | refine blk_drewN ?_ _ | refine blk_drew ?_ | refine blk_alloc ?_ _)); refine blk_far ?_ NB375_388.out _; (with_reducible repeat (first | refine blk_drewN ?_ _ | refine blk_drew ?_ | refine blk_alloc ?_ _)); refine blk_far ?_ NB375_388.out _; (with_reducible repeat (first | refine blk_drewN ?_ _ | refine blk_drew ?_ | refine blk_alloc ?_ _)); refine blk_far ?_ NB375_388.out _; (with_reducible repeat (first | refine blk_drewN ?_ _ | refine blk_drew ?_ | refine blk_alloc ?_ _)); exact BK375.out) hb); have n8_ := Aside0.mk (blk_below (g := gb388) (o := .cells #[.string t376, .slice Ao34 t377.length co34, .slice Ao35 t380.length co35, .bool t383, .slice Ao36 t384.length co36] 30 (0, 0)) (by (with_reducible repeat (first | refine blk_drewN ?_ _ | refine blk_drew ?_ | refine blk_alloc ?_ _)); refine blk_put (cs := #[.string t376, .slice Ao34 t377.length co34, .slice Ao35 t380.length co35, .bool t383, .slice none 0 0]) ?_ 4 _ rfl; (with_reducible repeat (first | refine blk_drewN ?_ _ | refine blk_drew ?_ | refine blk_alloc ?_ _)); refine blk_put (cs := #[.string t376, .slice Ao34 t377.length co34, .slice Ao35 t380.length co35, .bool false, .slice none 0 0]) ?_ 3 _ rfl; (with_reducible repeat (first | refine blk_drewN ?_ _ | refine blk_drew ?_ | refine blk_alloc ?_ _)); refine blk_put (cs := #[.string t376, .slice Ao34 t377.length co34, .slice none 0 0, .bool false, .slice none 0 0]) ?_ 2 _ rfl; (with_reducible repeat (first | refine blk_drewN ?_ _ | refine blk_drew ?_ | refine blk_alloc ?_ _)); refine blk_put (cs := #[.string t376, .slice none 0 0, .slice none 0 0, .bool false, .slice none 0 0]) ?_ 1 _ rfl; (with_reducible repeat (first | refine blk_drewN ?_ _ | refine blk_drew ?_ | refine blk_alloc ?_ _)); refine blk_put (cs := #[.string (⟨#[]⟩ : ByteArray), .slice none 0 0, .slice none 0 0, .bool false, .slice none 0 0]) ?_ 0 _ rfl; (with_reducible repeat (first | refine blk_drewN ?_ _ | refine blk_drew ?_ | refine blk_alloc ?_ _)); exact BK388.out) hb); have n9_ := Aside0.mk (below_step (by repeat (first | (with_reducible first | exact HB.out | apply below_alloc | apply pw_below_drewN | apply below_drew1 | refine below_set ?_ GE361.out | refine below_set ?_ GE375.out | refine below_set ?_ GE388.out) | exact HB.out)) hb); clear HO367; clear HO370; clear HO374; clear HO379; clear HO382; clear HO386; clear BK361; clear BK375; clear BK388; clear HB; have HO367 := n0_; have HO370 := n1_; have HO374 := n2_; have HO379 := n3_; have HO382 := n4_; have HO386 := n5_; have BK361 := n6_; have BK375 := n7_; have BK388 := n8_; have HB := n9_; clear n0_ n1_ n2_ n3_ n4_ n5_ n6_ n7_ n8_ n9_; (try clear hb); (try clear hb2); (try clear hk); (try clear hi)))
 go_ret
 exact ⟨by first | rfl | (simp [errW_none, errW_some] <;> rfl) | (simp [*, errW_none, errW_some] <;> rfl), by repeat (first | (with_reducible first | exact HB.out | apply below_alloc | apply pw_below_drewN | apply below_drew1 | refine below_set ?_ GE361.out | refine below_set ?_ GE375.out | refine below_set ?_ GE388.out) | exact HB.out)⟩
end Go.Proofs.Ytijpfonbeepmfaa.Print
