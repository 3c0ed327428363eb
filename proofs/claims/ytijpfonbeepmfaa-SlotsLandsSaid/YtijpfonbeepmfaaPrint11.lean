-- Written by ownprint.py (this session's) with the kit's print.py: functions, contracts, rows; Lean checks it.
import Derived.Test.YtijpfonbeepmfaaPrint0
import Derived.Test.YtijpfonbeepmfaaPrint1
import Derived.Test.YtijpfonbeepmfaaPrint5
import Derived.Test.YtijpfonbeepmfaaPrint10
import Derived.Test.YtijpfonbeepmfaaHSq
import Derived.Test.YtijpfonbeepmfaaHHead08
import Derived.Test.YtijpfonbeepmfaaHSlInsert
namespace Go.Proofs.Ytijpfonbeepmfaa.Print
open Go.RowKit Go.Proofs.YtijpfonbeepmfaaW.PrintWords Go.Proofs.YtijpfonbeepmfaaW.PrintLast Go.Proofs.YtijpfonbeepmfaaW.PrintMore
attribute [local go_sem] max2_int min2_int max_two min_two max_three min_three max_four min_four   -- for this text's walks alone
set_option linter.unusedVariables false
set_option linter.unusedSimpArgs false
attribute [local go_sem high] eqA53
mutual
def fencepostlaw08_SlotsLands.j0 : Nat → List Int → Bool → Bool → List Int → List (List (S53)) → Option (Bool)
 | 0, _, _, _, _, _ => none
 | k + 1, x1, x5, x24, x161000, x161001 => if x24 = true then (some x5) else ((slots_Insert.f x161000 x161001 x1).bind fun bt163 => (if (bt163.2.length : Int) = (x161001.length : Int) then ((fencepostref07_Same.f k bt163.1 ([] : List (List (S53))) x161000 ([] : List (List (S53)))).bind fun t170 => (fencepostlaw08_SlotsLands.j1 k x1 x5 (!t170) x161000 x161001 bt163.1 bt163.2)) else (fencepostlaw08_SlotsLands.j1 k x1 x5 true x161000 x161001 bt163.1 bt163.2)))
def fencepostlaw08_SlotsLands.j1 : Nat → List Int → Bool → Bool → List Int → List (List (S53)) → List Int → List (List (S53)) → Option (Bool)
 | 0, _, _, _, _, _, _, _ => none
 | k + 1, x1, x5, x45, x161000, x161001, x170000, x170001 => if x45 = true then (some false) else (fencepostlaw08_SlotsLands.l0 k x1 x5 0 0 x161000 x161001 x170000 x170001)
def fencepostlaw08_SlotsLands.l0 : Nat → List Int → Bool → Int → Int → List Int → List (List (S53)) → List Int → List (List (S53)) → Option (Bool)
 | 0, _, _, _, _, _, _, _, _ => none
 | k + 1, x1, x5, x7, x8, x161000, x161001, x170000, x170001 => if x8 < (x161001.length : Int) then (if 0 ≤ x8 then (if x8 < (x170001.length : Int) then (fencepostlaw08_SlotsLands.l1 k x1 x5 x7 x8 (rd_L3 x170001 x8) ([] : List Int) 0 0 x161000 x161001 x170000 x170001) else (none)) else (none)) else (some x5)
def fencepostlaw08_SlotsLands.l1 : Nat → List Int → Bool → Int → Int → List (S53) → List Int → Int → Int → List Int → List (List (S53)) → List Int → List (List (S53)) → Option (Bool)
 | 0, _, _, _, _, _, _, _, _, _, _, _, _ => none
 | k + 1, x1, x5, x7, x8, x9, x10, x11, x12, x161000, x161001, x170000, x170001 => if 0 ≤ x8 then (if x8 < (x161001.length : Int) then (if x12 < ((rd_L3 x161001 x8).length : Int) then (if x10.length < 17592186044416 then ((some (x10 ++ [x11] : List Int)).bind fun y173 => ((fencepostref08_Has.f k x1 x7).bind fun t176 => (if t176 = true then (if x11 ≥ (x9.length : Int) then (some false) else (if 0 ≤ x11 then (if x11 < (x9.length : Int) then (if (!(((rd_T53 x9 x11).f0) == 6) || (!(((rd_T53 x9 x11).f1) == 0) || (!(((rd_T53 x9 x11).f2) == 0) || (!(((rd_T53 x9 x11).f3) == 0) || (!(((rd_T53 x9 x11).f4) == 0)))))) = true then (some false) else (fencepostlaw08_SlotsLands.j4 k x1 x5 x7 x8 x9 y173 (wrap64 (x11 + 1)) x12 x161000 x161001 x170000 x170001)) else (none)) else (none))) else (fencepostlaw08_SlotsLands.j4 k x1 x5 x7 x8 x9 y173 x11 x12 x161000 x161001 x170000 x170001)))) else (none)) else (if x10.length < 17592186044416 then (if x11 = (x9.length : Int) then (fencepostlaw08_SlotsLands.l2 k x1 x5 x7 x8 x9 (x10 ++ [x11]) 0 x161000 x161001 x170000 x170001) else (some false)) else (none))) else (none)) else (none)
def fencepostlaw08_SlotsLands.j4 : Nat → List Int → Bool → Int → Int → List (S53) → List Int → Int → Int → List Int → List (List (S53)) → List Int → List (List (S53)) → Option (Bool)
 | 0, _, _, _, _, _, _, _, _, _, _, _, _ => none
 | k + 1, x1, x5, x7, x8, x9, x10, x11, x12, x161000, x161001, x170000, x170001 => if x11 ≥ (x9.length : Int) then (some false) else (if 0 ≤ x11 then (if x11 < (x9.length : Int) then (if ((rd_T53 x9 x11).f0) ≥ 8 then (if 0 ≤ x8 then (if x8 < (x161001.length : Int) then (if 0 ≤ x12 then (if x12 < ((rd_L3 x161001 x8).length : Int) then (if (!(((rd_T53 x9 x11).f0) == ((rd_T53 (rd_L3 x161001 x8) x12).f0)) || (!(((rd_T53 x9 x11).f1) == ((rd_T53 (rd_L3 x161001 x8) x12).f1)) || (!(((rd_T53 x9 x11).f2) == ((rd_T53 (rd_L3 x161001 x8) x12).f2)) || (!(((rd_T53 x9 x11).f3) == ((rd_T53 (rd_L3 x161001 x8) x12).f3)))))) = true then (some false) else (fencepostlaw08_SlotsLands.l1 k x1 x5 (wrap64 (x7 + 1)) x8 x9 x10 (wrap64 (x11 + 1)) (wrap64 (x12 + 1)) x161000 x161001 x170000 x170001)) else (none)) else (none)) else (none)) else (none)) else (if 0 ≤ x8 then (if x8 < (x161001.length : Int) then (if 0 ≤ x12 then (if x12 < ((rd_L3 x161001 x8).length : Int) then (if (!(((rd_T53 x9 x11).f0) == ((rd_T53 (rd_L3 x161001 x8) x12).f0)) || (!(((rd_T53 x9 x11).f1) == ((rd_T53 (rd_L3 x161001 x8) x12).f1)) || (!(((rd_T53 x9 x11).f2) == ((rd_T53 (rd_L3 x161001 x8) x12).f2)) || (!(((rd_T53 x9 x11).f3) == ((rd_T53 (rd_L3 x161001 x8) x12).f3)) || (!(((rd_T53 x9 x11).f4) == ((rd_T53 (rd_L3 x161001 x8) x12).f4))))))) = true then (some false) else (fencepostlaw08_SlotsLands.l1 k x1 x5 (wrap64 (x7 + 1)) x8 x9 x10 (wrap64 (x11 + 1)) (wrap64 (x12 + 1)) x161000 x161001 x170000 x170001)) else (none)) else (none)) else (none)) else (none))) else (none)) else (none))
def fencepostlaw08_SlotsLands.l2 : Nat → List Int → Bool → Int → Int → List (S53) → List Int → Int → List Int → List (List (S53)) → List Int → List (List (S53)) → Option (Bool)
 | 0, _, _, _, _, _, _, _, _, _, _, _ => none
 | k + 1, x1, x5, x7, x8, x9, x10, x14, x161000, x161001, x170000, x170001 => if 0 ≤ x8 then (if x8 < (x161001.length : Int) then (if x14 < ((rd_L3 x161001 x8).length : Int) then (if 0 ≤ x14 then (if 0 ≤ (wrap64 (x14 + 1)) then (if (wrap64 (x14 + 1)) < (x10.length : Int) then (if ((rd_T53 (rd_L3 x161001 x8) x14).f0) ≥ 8 then (if 0 ≤ (wrap64 ((rd x10 (wrap64 (x14 + 1))) - 1)) then (if (wrap64 ((rd x10 (wrap64 (x14 + 1))) - 1)) < (x9.length : Int) then (if 0 ≤ ((rd_T53 (rd_L3 x161001 x8) x14).f4) then (if ((rd_T53 (rd_L3 x161001 x8) x14).f4) < (x10.length : Int) then (if ((rd_T53 x9 (wrap64 ((rd x10 (wrap64 (x14 + 1))) - 1))).f4) = (rd x10 ((rd_T53 (rd_L3 x161001 x8) x14).f4)) then (fencepostlaw08_SlotsLands.l2 k x1 x5 x7 x8 x9 x10 (wrap64 (x14 + 1)) x161000 x161001 x170000 x170001) else (some false)) else (none)) else (none)) else (none)) else (none)) else (fencepostlaw08_SlotsLands.l2 k x1 x5 x7 x8 x9 x10 (wrap64 (x14 + 1)) x161000 x161001 x170000 x170001)) else (none)) else (none)) else (none)) else (fencepostlaw08_SlotsLands.l0 k x1 x5 x7 (wrap64 (x8 + 1)) x161000 x161001 x170000 x170001)) else (none)) else (none)
end
def fencepostlaw08_SlotsLands.f (k : Nat) (l0_0 : List Int) (l0_1 : List (List (S53))) (l1 : List Int) : Option (Bool) := (fencepostlaw08_head.f).bind fun t161 => ((fencepostlaw08_Great.f k l0_0 l0_1).bind fun t162 => (if t162 = true then (fencepostlaw08_SlotsLands.j0 k l1 t161 true l0_0 l0_1) else (fencepostlaw08_SlotsLands.j0 k l1 t161 (decide ((l1.length : Int) > 100)) l0_0 l0_1)))
theorem hz5_ {w : World} {g : Nat} {x0 x1 x2 x3 x4 x5 y : Value} (h : w.cell? ⟨g, 4, none⟩ = some y) : ((((((w.setCell ⟨g, 0, none⟩ x0).setCell ⟨g, 1, none⟩ x1).setCell ⟨g, 2, none⟩ x2).setCell ⟨g, 3, none⟩ x3).setCell ⟨g, 4, none⟩ x4).setCell ⟨g, 4, none⟩ x5).cell? ⟨g, 4, none⟩ = some x5 := by
  have e : ((((w.setCell ⟨g, 0, none⟩ x0).setCell ⟨g, 1, none⟩ x1).setCell ⟨g, 2, none⟩ x2).setCell ⟨g, 3, none⟩ x3).cell? ⟨g, 4, none⟩ = some y := by
    rw [World.cell?_setCell_other _ _ _ _ (by simp), World.cell?_setCell_other _ _ _ _ (by simp), World.cell?_setCell_other _ _ _ _ (by simp), World.cell?_setCell_other _ _ _ _ (by simp)]; exact h
  exact World.cell?_setCell_same _ _ _ (World.cell?_setCell_same _ _ _ e)
set_option maxHeartbeats 60000000 in
set_option maxRecDepth 100000 in
theorem fencepostlaw08_SlotsLands.calls (k : Nat) (A0_0 : Option Addr) (c0_0 : Nat) (l0_0 : List Int) (A0_1 : Option Addr) (c0_1 : Nat) (l0_1 : List (List (S53))) (A1 : Option Addr) (c1 : Nat) (l1 : List Int) (r : Bool) (w : World) (hr0_0 : Kd.C (Kd.int .i64) w A0_0 l0_0.length l0_0) (hc0_0 : l0_0.length ≤ c0_0) (hr0_1 : Kd.C (Kd.slice 53 k53) w A0_1 l0_1.length l0_1) (hc0_1 : l0_1.length ≤ c0_1) (hr1 : Kd.C (Kd.int .i64) w A1 l1.length l1) (hc1 : l1.length ≤ c1) (ht_ : r = true) (h : fencepostlaw08_SlotsLands.f k l0_0 l0_1 l1 = some r) :
 Calls Try.prog 8 #[.agg #[.slice A0_0 l0_0.length c0_0, .slice A0_1 l0_1.length c0_1], .slice A1 l1.length c1] w fun e w' => e = .returned (.bool r) ∧ Below w.heap.size w w' := by
 have hu25 := Try.underlying25
 have hu53 := Try.underlying53
 have HR0_0 := Aside0.mk hr0_0
 have HC0_0 := Aside0.mk hc0_0
 clear hr0_0 hc0_0
 have HR0_1 := Aside0.mk hr0_1
 have HC0_1 := Aside0.mk hc0_1
 clear hr0_1 hc0_1
 have HR1 := Aside0.mk hr1
 have HC1 := Aside0.mk hc1
 clear hr1 hc1
 have HB := Aside0.mk (Below.refl w.heap.size w)
 have HT := Aside0.mk ht_
 clear ht_
 have H : ((fencepostlaw08_head.f).bind fun t161 => ((fencepostlaw08_Great.f k l0_0 l0_1).bind fun t162 => (if t162 = true then (fencepostlaw08_SlotsLands.j0 k l1 t161 true l0_0 l0_1) else (fencepostlaw08_SlotsLands.j0 k l1 t161 (decide ((l1.length : Int) > 100)) l0_0 l0_1)))) = some r := h
 clear h
 replace H := Option.bind_eq_some_iff.mp H
 obtain ⟨t161, A30, H⟩ := H
 replace H : ((fencepostlaw08_Great.f k l0_0 l0_1).bind fun t162 => (if t162 = true then (fencepostlaw08_SlotsLands.j0 k l1 t161 true l0_0 l0_1) else (fencepostlaw08_SlotsLands.j0 k l1 t161 (decide ((l1.length : Int) > 100)) l0_0 l0_1))) = some r := H
 have A3 := Aside0.mk A30
 clear A30
 have HC4 := Aside0.mk H
 clear H
 go_enter Try.func8, Try.ntmps8
 (try simp only [List.append_eq, List.cons_append, List.nil_append])
 go_upto_region 2 with (first | ((with_reducible refine gate_dst (N := 2) rfl ?_); (try (refine gate_guard (by rfl) ?_; dsimp only)); refine box_event ?hg (N := 2) ?hd (cs := #[.slice A0_0 l0_0.length c0_0, .slice A0_1 l0_1.length c0_1]) (t := 25) ?hr ?_; (case hd => rfl); (case hg => rfl); (case hr => first | (go_simp; done) | (go_simp; rfl)); intro gb160 hg w5 hbox hb; have n0_ := Aside0.mk (below_step (hb_ HB.out) hb); have n1_ := Aside0.mk (hbox); have n2_ := Aside0.mk (gs_ hg (hb_ HB.out)); have n3_ := Aside0.mk (gs_ hg (hb_ HB.out)); clear HB; have HB := n0_; have BK160 := n1_; have GW160 := n2_; have GE160 := n3_; clear n0_ n1_ n2_ n3_; clear hb hbox hg) | (go_at_call 10; (with_reducible refine (fencepostlaw08_head.calls  t161 _ A3.out).mono ?_); rintro e w6 ⟨rfl, hb⟩; have n0_ := Aside0.mk (bb_ BK160.out hb); have n1_ := Aside0.mk (below_step (hb_ HB.out) hb); clear BK160; clear HB; have BK160 := n0_; have HB := n1_; clear n0_ n1_; (try clear hb); (try clear hb2); (try clear hk); (try clear hi)))
 repeat (go_quiet (first | ((with_reducible refine gate_dst (N := 2) rfl ?_); (try (refine gate_guard (by rfl) ?_; dsimp only)); refine box_event ?hg (N := 2) ?hd (cs := #[.slice A0_0 l0_0.length c0_0, .slice A0_1 l0_1.length c0_1]) (t := 25) ?hr ?_; (case hd => rfl); (case hg => rfl); (case hr => first | (go_simp; done) | (go_simp; rfl)); intro gb160 hg w5 hbox hb; have n0_ := Aside0.mk (below_step (hb_ HB.out) hb); have n1_ := Aside0.mk (hbox); have n2_ := Aside0.mk (gs_ hg (hb_ HB.out)); have n3_ := Aside0.mk (gs_ hg (hb_ HB.out)); clear HB; have HB := n0_; have BK160 := n1_; have GW160 := n2_; have GE160 := n3_; clear n0_ n1_ n2_ n3_; clear hb hbox hg) | (go_at_call 10; (with_reducible refine (fencepostlaw08_head.calls  t161 _ A3.out).mono ?_); rintro e w6 ⟨rfl, hb⟩; have n0_ := Aside0.mk (bb_ BK160.out hb); have n1_ := Aside0.mk (below_step (hb_ HB.out) hb); clear BK160; clear HB; have BK160 := n0_; have HB := n1_; clear n0_ n1_; (try clear hb); (try clear hb2); (try clear hk); (try clear hi))); go_upto_region 2 with (first | ((with_reducible refine gate_dst (N := 2) rfl ?_); (try (refine gate_guard (by rfl) ?_; dsimp only)); refine box_event ?hg (N := 2) ?hd (cs := #[.slice A0_0 l0_0.length c0_0, .slice A0_1 l0_1.length c0_1]) (t := 25) ?hr ?_; (case hd => rfl); (case hg => rfl); (case hr => first | (go_simp; done) | (go_simp; rfl)); intro gb160 hg w5 hbox hb; have n0_ := Aside0.mk (below_step (hb_ HB.out) hb); have n1_ := Aside0.mk (hbox); have n2_ := Aside0.mk (gs_ hg (hb_ HB.out)); have n3_ := Aside0.mk (gs_ hg (hb_ HB.out)); clear HB; have HB := n0_; have BK160 := n1_; have GW160 := n2_; have GE160 := n3_; clear n0_ n1_ n2_ n3_; clear hb hbox hg) | (go_at_call 10; (with_reducible refine (fencepostlaw08_head.calls  t161 _ A3.out).mono ?_); rintro e w6 ⟨rfl, hb⟩; have n0_ := Aside0.mk (bb_ BK160.out hb); have n1_ := Aside0.mk (below_step (hb_ HB.out) hb); clear BK160; clear HB; have BK160 := n0_; have HB := n1_; clear n0_ n1_; (try clear hb); (try clear hb2); (try clear hk); (try clear hi))))
 (try simp only [Act.put, List.setIfInBounds_toArray, List.set_cons_zero, List.set_cons_succ])
 go_cut [24] (fun v24 wc => ∃ (kq : Nat) (x24_3 : Bool), v24 = .bool x24_3 ∧ Aside0 (fencepostlaw08_SlotsLands.j0 kq l1 t161 x24_3 l0_0 l0_1 = some r) ∧ Aside0 (kq ≤ k) ∧ Aside0 (wc.heap[gb160]? = some (.cells #[(.slice A0_0 l0_0.length c0_0), (.slice A0_1 l0_1.length c0_1)] 25 (0, 0))) ∧ Aside0 (Below w.heap.size w wc))
 case first =>
  have H := HC4.out
  clear HC4
  replace H := Option.bind_eq_some_iff.mp H
  obtain ⟨t162, A70, H⟩ := H
  replace H : (if t162 = true then (fencepostlaw08_SlotsLands.j0 k l1 t161 true l0_0 l0_1) else (fencepostlaw08_SlotsLands.j0 k l1 t161 (decide ((l1.length : Int) > 100)) l0_0 l0_1)) = some r := H
  have A7 := Aside0.mk A70
  clear A70
  by_cases c8 : t162 = true
  ·subst c8
   have H1 : (fencepostlaw08_SlotsLands.j0 k l1 t161 true l0_0 l0_1) = some r := by rw [if_pos rfl] at H; exact H
   clear H
   have H := H1
   clear H1
   have H' := Aside0.mk H
   clear H
   have hcz9_0 : w6.cell? ⟨gb160, 0, none⟩ = some (.slice A0_0 l0_0.length c0_0) := (blk_cell BK160.out 0).trans rfl
   have hcz9_1 : w6.cell? ⟨gb160, 1, none⟩ = some (.slice A0_1 l0_1.length c0_1) := (blk_cell BK160.out 1).trans rfl
   have hfz9_0 := blk_frozen BK160.out 0
   have hfz9_1 := blk_frozen BK160.out 1
   go_wp2_with (first | (go_at_call 11; (with_reducible refine (fencepostlaw08_Great.calls k _ _ l0_0 _ _ l0_1 true _ ?side1 ?side2 ?side3 ?side4 A7.out).mono ?_); (case side1 => exact cd_ (Kd.C_below HR0_0.out HB.out)); (case side2 => exact HC0_0.out); (case side3 => exact cd_ (Kd.C_below HR0_1.out HB.out)); (case side4 => exact HC0_1.out); rintro e w10 ⟨rfl, hb⟩; have n0_ := Aside0.mk (bb_ BK160.out hb); have n1_ := Aside0.mk (below_step (hb_ HB.out) hb); clear BK160; clear HB; have BK160 := n0_; have HB := n1_; clear n0_ n1_; (try clear hb); (try clear hb2); (try clear hk); (try clear hi)))
   repeat (go_quiet (first | (go_at_call 11; (with_reducible refine (fencepostlaw08_Great.calls k _ _ l0_0 _ _ l0_1 true _ ?side1 ?side2 ?side3 ?side4 A7.out).mono ?_); (case side1 => exact cd_ (Kd.C_below HR0_0.out HB.out)); (case side2 => exact HC0_0.out); (case side3 => exact cd_ (Kd.C_below HR0_1.out HB.out)); (case side4 => exact HC0_1.out); rintro e w10 ⟨rfl, hb⟩; have n0_ := Aside0.mk (bb_ BK160.out hb); have n1_ := Aside0.mk (below_step (hb_ HB.out) hb); clear BK160; clear HB; have BK160 := n0_; have HB := n1_; clear n0_ n1_; (try clear hb); (try clear hb2); (try clear hk); (try clear hi))); try go_wp2_with (first | (go_at_call 11; (with_reducible refine (fencepostlaw08_Great.calls k _ _ l0_0 _ _ l0_1 true _ ?side1 ?side2 ?side3 ?side4 A7.out).mono ?_); (case side1 => exact cd_ (Kd.C_below HR0_0.out HB.out)); (case side2 => exact HC0_0.out); (case side3 => exact cd_ (Kd.C_below HR0_1.out HB.out)); (case side4 => exact HC0_1.out); rintro e w10 ⟨rfl, hb⟩; have n0_ := Aside0.mk (bb_ BK160.out hb); have n1_ := Aside0.mk (below_step (hb_ HB.out) hb); clear BK160; clear HB; have BK160 := n0_; have HB := n1_; clear n0_ n1_; (try clear hb); (try clear hb2); (try clear hk); (try clear hi))))
   go_meet
   case rel => exact ⟨_, (true), rf_, H', ⟨by first | omega | exact Nat.le_refl _⟩, ⟨bd_ BK160.out⟩, ⟨hb_ HB.out⟩⟩
  replace c8 := Bool.eq_false_iff.mpr c8
  subst c8
  have H1 : (fencepostlaw08_SlotsLands.j0 k l1 t161 (decide ((l1.length : Int) > 100)) l0_0 l0_1) = some r := by rw [if_neg (show ¬ (false = true) by decide)] at H; exact H
  clear H
  have H := H1
  clear H1
  have H' := Aside0.mk H
  clear H
  have hcz11_0 : w6.cell? ⟨gb160, 0, none⟩ = some (.slice A0_0 l0_0.length c0_0) := (blk_cell BK160.out 0).trans rfl
  have hcz11_1 : w6.cell? ⟨gb160, 1, none⟩ = some (.slice A0_1 l0_1.length c0_1) := (blk_cell BK160.out 1).trans rfl
  have hfz11_0 := blk_frozen BK160.out 0
  have hfz11_1 := blk_frozen BK160.out 1
  go_wp2_with (first | (go_at_call 11; (with_reducible refine (fencepostlaw08_Great.calls k _ _ l0_0 _ _ l0_1 false _ ?side1 ?side2 ?side3 ?side4 A7.out).mono ?_); (case side1 => exact cd_ (Kd.C_below HR0_0.out HB.out)); (case side2 => exact HC0_0.out); (case side3 => exact cd_ (Kd.C_below HR0_1.out HB.out)); (case side4 => exact HC0_1.out); rintro e w12 ⟨rfl, hb⟩; have n0_ := Aside0.mk (bb_ BK160.out hb); have n1_ := Aside0.mk (below_step (hb_ HB.out) hb); clear BK160; clear HB; have BK160 := n0_; have HB := n1_; clear n0_ n1_; (try clear hb); (try clear hb2); (try clear hk); (try clear hi)))
  repeat (go_quiet (first | (go_at_call 11; (with_reducible refine (fencepostlaw08_Great.calls k _ _ l0_0 _ _ l0_1 false _ ?side1 ?side2 ?side3 ?side4 A7.out).mono ?_); (case side1 => exact cd_ (Kd.C_below HR0_0.out HB.out)); (case side2 => exact HC0_0.out); (case side3 => exact cd_ (Kd.C_below HR0_1.out HB.out)); (case side4 => exact HC0_1.out); rintro e w12 ⟨rfl, hb⟩; have n0_ := Aside0.mk (bb_ BK160.out hb); have n1_ := Aside0.mk (below_step (hb_ HB.out) hb); clear BK160; clear HB; have BK160 := n0_; have HB := n1_; clear n0_ n1_; (try clear hb); (try clear hb2); (try clear hk); (try clear hi))); try go_wp2_with (first | (go_at_call 11; (with_reducible refine (fencepostlaw08_Great.calls k _ _ l0_0 _ _ l0_1 false _ ?side1 ?side2 ?side3 ?side4 A7.out).mono ?_); (case side1 => exact cd_ (Kd.C_below HR0_0.out HB.out)); (case side2 => exact HC0_0.out); (case side3 => exact cd_ (Kd.C_below HR0_1.out HB.out)); (case side4 => exact HC0_1.out); rintro e w12 ⟨rfl, hb⟩; have n0_ := Aside0.mk (bb_ BK160.out hb); have n1_ := Aside0.mk (below_step (hb_ HB.out) hb); clear BK160; clear HB; have BK160 := n0_; have HB := n1_; clear n0_ n1_; (try clear hb); (try clear hb2); (try clear hk); (try clear hi))))
  go_meet
  case rel => exact ⟨_, (decide ((l1.length : Int) > 100)), rf_, H', ⟨by first | omega | exact Nat.le_refl _⟩, ⟨bd_ BK160.out⟩, ⟨hb_ HB.out⟩⟩
 case rest =>
  clear HC4
  try clear c1
  obtain ⟨kq, x24_3, rfl, HA, HJ3, BK160, HB⟩ := hcut
  cases kq with
  | zero => exact absurd HA.out (by simp [fencepostlaw08_SlotsLands.j0])
  | succ kj3 => ?_
  have H := HA.out
  clear HA
  simp only [fencepostlaw08_SlotsLands.j0] at H
  by_cases c13 : x24_3 = true
  ·subst c13
   have H1 : (some t161) = some r := by rw [if_pos rfl] at H; exact H
   clear H
   have H := H1
   clear H1
   obtain rfl := Option.some.inj H
   go_wp2
   repeat (go_quiet (fail); try go_wp2)
   go_ret
   exact ⟨by first | rfl | (simp [errW_none, errW_some] <;> rfl) | (simp [*, errW_none, errW_some] <;> rfl), hb_ HB.out⟩
  replace c13 := Bool.eq_false_iff.mpr c13
  subst c13
  have H1 : ((slots_Insert.f l0_0 l0_1 l1).bind fun bt163 => (if (bt163.2.length : Int) = (l0_1.length : Int) then ((fencepostref07_Same.f kj3 bt163.1 ([] : List (List (S53))) l0_0 ([] : List (List (S53)))).bind fun t170 => (fencepostlaw08_SlotsLands.j1 kj3 l1 t161 (!t170) l0_0 l0_1 bt163.1 bt163.2)) else (fencepostlaw08_SlotsLands.j1 kj3 l1 t161 true l0_0 l0_1 bt163.1 bt163.2))) = some r := by rw [if_neg (show ¬ (false = true) by decide)] at H; exact H
  clear H
  have H := H1
  clear H1
  replace H := Option.bind_eq_some_iff.mp H
  obtain ⟨⟨t163, t166⟩, A140, H⟩ := H
  replace H : (if (t166.length : Int) = (l0_1.length : Int) then ((fencepostref07_Same.f kj3 t163 ([] : List (List (S53))) l0_0 ([] : List (List (S53)))).bind fun t170 => (fencepostlaw08_SlotsLands.j1 kj3 l1 t161 (!t170) l0_0 l0_1 t163 t166)) else (fencepostlaw08_SlotsLands.j1 kj3 l1 t161 true l0_0 l0_1 t163 t166)) = some r := H
  have A14 := Aside0.mk A140
  clear A140
  have HC15 := Aside0.mk H
  clear H
  have hcz16_0 : wc.cell? ⟨gb160, 0, none⟩ = some (.slice A0_0 l0_0.length c0_0) := (blk_cell BK160.out 0).trans rfl
  have hcz16_1 : wc.cell? ⟨gb160, 1, none⟩ = some (.slice A0_1 l0_1.length c0_1) := (blk_cell BK160.out 1).trans rfl
  have hfz16_0 := blk_frozen BK160.out 0
  have hfz16_1 := blk_frozen BK160.out 1
  go_upto_region 5 with (first | (go_at_call 22; (with_reducible refine (slots_Insert.calls _ _ l0_0 _ _ l0_1 _ _ l1 t163 t166 _ ?side1 ?side2 ?side3 ?side4 ?side5 ?side6 A14.out).mono ?_); (case side1 => exact cd_ (Kd.C_below HR0_0.out HB.out)); (case side2 => exact HC0_0.out); (case side3 => exact cd_ (Kd.C_below HR0_1.out HB.out)); (case side4 => exact HC0_1.out); (case side5 => exact cd_ (Kd.C_below HR1.out HB.out)); (case side6 => exact HC1.out); rintro e w17 ⟨v164, v167, rfl, ho0, ho1, hb⟩; have n0_ := Aside0.mk (Kd.R_lower ho0 (below_size (hb_ HB.out))); have n1_ := Aside0.mk (Kd.S_lower ho1 (below_size (hb_ HB.out))); have n2_ := Aside0.mk (bb_ BK160.out hb); have n3_ := Aside0.mk (below_step (hb_ HB.out) hb); clear BK160; clear HB; have HO165 := n0_; have HO168 := n1_; have BK160 := n2_; have HB := n3_; clear n0_ n1_ n2_ n3_; (try clear hb); (try clear hb2); (try clear hk); (try clear hi); (try clear ho0); (try clear ho1)) | ((with_reducible refine gate_dst (N := 6) rfl ?_); (try (refine gate_guard (by rfl) ?_; dsimp only)); refine box_event ?hg (N := 6) ?hd (cs := #[.slice none 0 0, .slice none 0 0]) (t := 25) ?hr ?_; (case hd => rfl); (case hg => rfl); (case hr => first | (go_simp; done) | (go_simp; rfl)); intro gb169 hg w18 hbox hb; have n0_ := Aside0.mk (Kd.R_below (rd_ HO165.out) hb); have n1_ := Aside0.mk (Kd.S_below (sd_ HO168.out) hb); have n2_ := Aside0.mk (bb_ BK160.out hb); have n3_ := Aside0.mk (below_step (hb_ HB.out) hb); have n4_ := Aside0.mk (hbox); have n5_ := Aside0.mk (gs_ hg (hb_ HB.out)); have n6_ := Aside0.mk (gs_ hg (hb_ HB.out)); have n7_ := Aside0.mk (gn_ hg BK160.out); have n8_ := Aside0.mk (gn_ hg BK160.out).symm; clear HO165; clear HO168; clear BK160; clear HB; have HO165 := n0_; have HO168 := n1_; have BK160 := n2_; have HB := n3_; have BK169 := n4_; have GW169 := n5_; have GE169 := n6_; have NB160_169 := n7_; have NB169_160 := n8_; clear n0_ n1_ n2_ n3_ n4_ n5_ n6_ n7_ n8_; clear hb hbox hg; obtain ⟨Ao19, co19, eo19⟩ := Kd.R_slice HO165.out; subst eo19; have hnb20 := NB169_160.out; have hnc20 := NB160_169.out; have hcz21_0 : w18.cell? ⟨gb169, 0, none⟩ = some (.slice none 0 0) := (blk_cell BK169.out 0).trans rfl; have hcz21_1 : w18.cell? ⟨gb169, 1, none⟩ = some (.slice none 0 0) := (blk_cell BK169.out 1).trans rfl; have hfz21_0 := blk_frozen BK169.out 0; have hfz21_1 := blk_frozen BK169.out 1; obtain ⟨Ao22, co22, eo22⟩ := Kd.S_slice HO168.out; subst eo22))
  repeat (go_quiet (first | (go_at_call 22; (with_reducible refine (slots_Insert.calls _ _ l0_0 _ _ l0_1 _ _ l1 t163 t166 _ ?side1 ?side2 ?side3 ?side4 ?side5 ?side6 A14.out).mono ?_); (case side1 => exact cd_ (Kd.C_below HR0_0.out HB.out)); (case side2 => exact HC0_0.out); (case side3 => exact cd_ (Kd.C_below HR0_1.out HB.out)); (case side4 => exact HC0_1.out); (case side5 => exact cd_ (Kd.C_below HR1.out HB.out)); (case side6 => exact HC1.out); rintro e w17 ⟨v164, v167, rfl, ho0, ho1, hb⟩; have n0_ := Aside0.mk (Kd.R_lower ho0 (below_size (hb_ HB.out))); have n1_ := Aside0.mk (Kd.S_lower ho1 (below_size (hb_ HB.out))); have n2_ := Aside0.mk (bb_ BK160.out hb); have n3_ := Aside0.mk (below_step (hb_ HB.out) hb); clear BK160; clear HB; have HO165 := n0_; have HO168 := n1_; have BK160 := n2_; have HB := n3_; clear n0_ n1_ n2_ n3_; (try clear hb); (try clear hb2); (try clear hk); (try clear hi); (try clear ho0); (try clear ho1)) | ((with_reducible refine gate_dst (N := 6) rfl ?_); (try (refine gate_guard (by rfl) ?_; dsimp only)); refine box_event ?hg (N := 6) ?hd (cs := #[.slice none 0 0, .slice none 0 0]) (t := 25) ?hr ?_; (case hd => rfl); (case hg => rfl); (case hr => first | (go_simp; done) | (go_simp; rfl)); intro gb169 hg w18 hbox hb; have n0_ := Aside0.mk (Kd.R_below (rd_ HO165.out) hb); have n1_ := Aside0.mk (Kd.S_below (sd_ HO168.out) hb); have n2_ := Aside0.mk (bb_ BK160.out hb); have n3_ := Aside0.mk (below_step (hb_ HB.out) hb); have n4_ := Aside0.mk (hbox); have n5_ := Aside0.mk (gs_ hg (hb_ HB.out)); have n6_ := Aside0.mk (gs_ hg (hb_ HB.out)); have n7_ := Aside0.mk (gn_ hg BK160.out); have n8_ := Aside0.mk (gn_ hg BK160.out).symm; clear HO165; clear HO168; clear BK160; clear HB; have HO165 := n0_; have HO168 := n1_; have BK160 := n2_; have HB := n3_; have BK169 := n4_; have GW169 := n5_; have GE169 := n6_; have NB160_169 := n7_; have NB169_160 := n8_; clear n0_ n1_ n2_ n3_ n4_ n5_ n6_ n7_ n8_; clear hb hbox hg; obtain ⟨Ao19, co19, eo19⟩ := Kd.R_slice HO165.out; subst eo19; have hnb20 := NB169_160.out; have hnc20 := NB160_169.out; have hcz21_0 : w18.cell? ⟨gb169, 0, none⟩ = some (.slice none 0 0) := (blk_cell BK169.out 0).trans rfl; have hcz21_1 : w18.cell? ⟨gb169, 1, none⟩ = some (.slice none 0 0) := (blk_cell BK169.out 1).trans rfl; have hfz21_0 := blk_frozen BK169.out 0; have hfz21_1 := blk_frozen BK169.out 1; obtain ⟨Ao22, co22, eo22⟩ := Kd.S_slice HO168.out; subst eo22)); go_upto_region 5 with (first | (go_at_call 22; (with_reducible refine (slots_Insert.calls _ _ l0_0 _ _ l0_1 _ _ l1 t163 t166 _ ?side1 ?side2 ?side3 ?side4 ?side5 ?side6 A14.out).mono ?_); (case side1 => exact cd_ (Kd.C_below HR0_0.out HB.out)); (case side2 => exact HC0_0.out); (case side3 => exact cd_ (Kd.C_below HR0_1.out HB.out)); (case side4 => exact HC0_1.out); (case side5 => exact cd_ (Kd.C_below HR1.out HB.out)); (case side6 => exact HC1.out); rintro e w17 ⟨v164, v167, rfl, ho0, ho1, hb⟩; have n0_ := Aside0.mk (Kd.R_lower ho0 (below_size (hb_ HB.out))); have n1_ := Aside0.mk (Kd.S_lower ho1 (below_size (hb_ HB.out))); have n2_ := Aside0.mk (bb_ BK160.out hb); have n3_ := Aside0.mk (below_step (hb_ HB.out) hb); clear BK160; clear HB; have HO165 := n0_; have HO168 := n1_; have BK160 := n2_; have HB := n3_; clear n0_ n1_ n2_ n3_; (try clear hb); (try clear hb2); (try clear hk); (try clear hi); (try clear ho0); (try clear ho1)) | ((with_reducible refine gate_dst (N := 6) rfl ?_); (try (refine gate_guard (by rfl) ?_; dsimp only)); refine box_event ?hg (N := 6) ?hd (cs := #[.slice none 0 0, .slice none 0 0]) (t := 25) ?hr ?_; (case hd => rfl); (case hg => rfl); (case hr => first | (go_simp; done) | (go_simp; rfl)); intro gb169 hg w18 hbox hb; have n0_ := Aside0.mk (Kd.R_below (rd_ HO165.out) hb); have n1_ := Aside0.mk (Kd.S_below (sd_ HO168.out) hb); have n2_ := Aside0.mk (bb_ BK160.out hb); have n3_ := Aside0.mk (below_step (hb_ HB.out) hb); have n4_ := Aside0.mk (hbox); have n5_ := Aside0.mk (gs_ hg (hb_ HB.out)); have n6_ := Aside0.mk (gs_ hg (hb_ HB.out)); have n7_ := Aside0.mk (gn_ hg BK160.out); have n8_ := Aside0.mk (gn_ hg BK160.out).symm; clear HO165; clear HO168; clear BK160; clear HB; have HO165 := n0_; have HO168 := n1_; have BK160 := n2_; have HB := n3_; have BK169 := n4_; have GW169 := n5_; have GE169 := n6_; have NB160_169 := n7_; have NB169_160 := n8_; clear n0_ n1_ n2_ n3_ n4_ n5_ n6_ n7_ n8_; clear hb hbox hg; obtain ⟨Ao19, co19, eo19⟩ := Kd.R_slice HO165.out; subst eo19; have hnb20 := NB169_160.out; have hnc20 := NB160_169.out; have hcz21_0 : w18.cell? ⟨gb169, 0, none⟩ = some (.slice none 0 0) := (blk_cell BK169.out 0).trans rfl; have hcz21_1 : w18.cell? ⟨gb169, 1, none⟩ = some (.slice none 0 0) := (blk_cell BK169.out 1).trans rfl; have hfz21_0 := blk_frozen BK169.out 0; have hfz21_1 := blk_frozen BK169.out 1; obtain ⟨Ao22, co22, eo22⟩ := Kd.S_slice HO168.out; subst eo22)))
  (try simp only [Act.put, List.setIfInBounds_toArray, List.set_cons_zero, List.set_cons_succ])
  go_cut [45] (fun v45 wc => ∃ (kq : Nat) (x45_14 : Bool), v45 = .bool x45_14 ∧ Aside0 (fencepostlaw08_SlotsLands.j1 kq l1 t161 x45_14 l0_0 l0_1 t163 t166 = some r) ∧ Aside0 (kq ≤ kj3) ∧ Aside0 (Kd.R (Kd.int .i64) 3 wc w.heap.size (fun _ => True) (.slice Ao19 t163.length co19) t163) ∧ Aside0 (Kd.S (Kd.slice 53 k53) 50 wc w.heap.size (fun _ => True) (.slice Ao22 t166.length co22) t166) ∧ Aside0 (wc.heap[gb160]? = some (.cells #[(.slice A0_0 l0_0.length c0_0), (.slice A0_1 l0_1.length c0_1)] 25 (0, 0))) ∧ Aside0 (wc.heap[gb169]? = some (.cells #[(.slice Ao19 t163.length co19), (.slice Ao22 t166.length co22)] 25 (0, 0))) ∧ Aside0 (Below w.heap.size w wc))
  case first =>
   have H := HC15.out
   clear HC15
   by_cases c23 : (t166.length : Int) = (l0_1.length : Int)
   rotate_left
   ·rw [if_neg c23] at H
    have c23b0 : ((t166.length : Int) == (l0_1.length : Int)) = false := beq_eq_false_iff_ne.mpr c23
    have c23b1 : ((t166.length : Int) != (l0_1.length : Int)) = true := bne_iff_ne.mpr c23
    have c23b2 : (t166.length == l0_1.length) = false := by first | simpa using c23 | (simp at c23 ⊢; omega)
    (first | rw [c23b0] | (simp only [i64_w, i32_w]; rw [c23b0]) | skip)
    have H' := Aside0.mk H
    clear H
    have hnb29 := NB169_160.out
    have hnc29 := NB160_169.out
    have hcz30_0 : w18.cell? ⟨gb169, 0, none⟩ = some (.slice none 0 0) := (blk_cell BK169.out 0).trans rfl
    have hcz30_1 : w18.cell? ⟨gb169, 1, none⟩ = some (.slice none 0 0) := (blk_cell BK169.out 1).trans rfl
    have hfz30_0 := blk_frozen BK169.out 0
    have hfz30_1 := blk_frozen BK169.out 1
    have hcz31_0 : w18.cell? ⟨gb160, 0, none⟩ = some (.slice A0_0 l0_0.length c0_0) := (blk_cell BK160.out 0).trans rfl
    have hcz31_1 : w18.cell? ⟨gb160, 1, none⟩ = some (.slice A0_1 l0_1.length c0_1) := (blk_cell BK160.out 1).trans rfl
    have hfz31_0 := blk_frozen BK160.out 0
    have hfz31_1 := blk_frozen BK160.out 1
    go_wp2
    repeat (go_quiet (fail); try go_wp2)
    go_meet
    case rel => exact ⟨_, (true), rf_, H', ⟨by have := HJ3.out; first | omega | exact Nat.le_refl _⟩, ⟨by (with_reducible repeat (first | apply Kd.R_alloc | apply Kd.R_drewN | apply Kd.R_drew)); exact Kd.R_mono (Kd.R_far (p := ⟨gb169, 1, none⟩) (Kd.R_far (p := ⟨gb169, 0, none⟩) (Kd.R_types HO165.out BK169.out (by decide)) (fun _ hk => hk.2) (.slice Ao19 t163.length co19)) (fun _ hk => hk.2) (.slice Ao22 t166.length co22)) (fun _ hk => trivial)⟩, ⟨by (with_reducible repeat (first | apply Kd.S_alloc | apply Kd.S_drewN | apply Kd.S_drew)); exact Kd.S_mono (Kd.S_far (p := ⟨gb169, 1, none⟩) (Kd.S_far (p := ⟨gb169, 0, none⟩) (Kd.S_types HO168.out BK169.out (by decide)) (fun _ hk => hk.2) (.slice Ao19 t163.length co19)) (fun _ hk => hk.2) (.slice Ao22 t166.length co22)) (fun _ hk => trivial)⟩, ⟨by (with_reducible repeat (first | refine blk_drewN ?_ _ | refine blk_drew ?_ | refine blk_alloc ?_ _)); refine blk_far ?_ NB160_169.out _; (with_reducible repeat (first | refine blk_drewN ?_ _ | refine blk_drew ?_ | refine blk_alloc ?_ _)); refine blk_far ?_ NB160_169.out _; (with_reducible repeat (first | refine blk_drewN ?_ _ | refine blk_drew ?_ | refine blk_alloc ?_ _)); exact BK160.out⟩, ⟨by (with_reducible repeat (first | refine blk_drewN ?_ _ | refine blk_drew ?_ | refine blk_alloc ?_ _)); refine blk_put (cs := #[.slice Ao19 t163.length co19, .slice none 0 0]) ?_ 1 _ rfl; (with_reducible repeat (first | refine blk_drewN ?_ _ | refine blk_drew ?_ | refine blk_alloc ?_ _)); refine blk_put (cs := #[.slice none 0 0, .slice none 0 0]) ?_ 0 _ rfl; (with_reducible repeat (first | refine blk_drewN ?_ _ | refine blk_drew ?_ | refine blk_alloc ?_ _)); exact BK169.out⟩, ⟨hb_ HB.out⟩⟩
   rw [if_pos c23] at H
   have c23b0 : ((t166.length : Int) == (l0_1.length : Int)) = true := beq_iff_eq.mpr c23
   have c23b1 : ((t166.length : Int) != (l0_1.length : Int)) = false := bne_eq_false_iff_eq.mpr c23
   have c23b2 : (t166.length == l0_1.length) = true := by first | simpa using c23 | (simp at c23 ⊢; omega)
   clear c23
   (first | rw [c23b0] | (simp only [i64_w, i32_w]; rw [c23b0]) | skip)
   replace H := Option.bind_eq_some_iff.mp H
   obtain ⟨t170, A240, H⟩ := H
   replace H : (fencepostlaw08_SlotsLands.j1 kj3 l1 t161 (!t170) l0_0 l0_1 t163 t166) = some r := H
   have A24 := Aside0.mk A240
   clear A240
   have H' := Aside0.mk H
   clear H
   have hnb25 := NB169_160.out
   have hnc25 := NB160_169.out
   have hcz26_0 : w18.cell? ⟨gb169, 0, none⟩ = some (.slice none 0 0) := (blk_cell BK169.out 0).trans rfl
   have hcz26_1 : w18.cell? ⟨gb169, 1, none⟩ = some (.slice none 0 0) := (blk_cell BK169.out 1).trans rfl
   have hfz26_0 := blk_frozen BK169.out 0
   have hfz26_1 := blk_frozen BK169.out 1
   have hcz27_0 : w18.cell? ⟨gb160, 0, none⟩ = some (.slice A0_0 l0_0.length c0_0) := (blk_cell BK160.out 0).trans rfl
   have hcz27_1 : w18.cell? ⟨gb160, 1, none⟩ = some (.slice A0_1 l0_1.length c0_1) := (blk_cell BK160.out 1).trans rfl
   have hfz27_0 := blk_frozen BK160.out 0
   have hfz27_1 := blk_frozen BK160.out 1
   go_wp2_with (first | (go_at_call 21; (refine (fencepostref07_Same.calls kj3 _ _ t163 _ _ ([] : List (List (S53))) _ _ l0_0 _ _ ([] : List (List (S53))) t170 _ ?side1 ?side2 ?side3 ?side4 ?side5 ?side6 ?side7 ?side8 A24.out).mono ?_); (case side1 => refine (Kd.R_reads' (e := 3) (base := w.heap.size) (ok := fun k_ => True) (n := t163.length) (c := co19) ?_).2.2; exact (by (with_reducible repeat (first | apply Kd.R_alloc | apply Kd.R_drewN | apply Kd.R_drew)); exact (Kd.R_mono (Kd.R_far (p := ⟨gb169, 1, none⟩) (Kd.R_far (p := ⟨gb169, 0, none⟩) (Kd.R_types HO165.out BK169.out (by decide)) (fun _ hk => hk.2) (.slice Ao19 t163.length co19)) (fun _ hk => hk.2) (.slice Ao22 t166.length co22)) (fun _ h_ => h_.1)))); (case side2 => exact (Kd.R_reads' HO165.out).2.1); (case side3 => exact Kd.C_nil _ _); (case side4 => exact Nat.le_refl _); (case side5 => exact Kd.C_below HR0_0.out (hb_ HB.out)); (case side6 => exact HC0_0.out); (case side7 => exact Kd.C_nil _ _); (case side8 => exact Nat.le_refl _); rintro e w28 ⟨rfl, hb⟩; have n0_ := Aside0.mk (Kd.R_below (by (with_reducible repeat (first | apply Kd.R_alloc | apply Kd.R_drewN | apply Kd.R_drew)); exact (Kd.R_mono (Kd.R_far (p := ⟨gb169, 1, none⟩) (Kd.R_far (p := ⟨gb169, 0, none⟩) (Kd.R_types HO165.out BK169.out (by decide)) (fun _ hk => hk.2) (.slice Ao19 t163.length co19)) (fun _ hk => hk.2) (.slice Ao22 t166.length co22)) (fun _ h_ => h_.1))) hb); have n1_ := Aside0.mk (Kd.S_below (by (with_reducible repeat (first | apply Kd.S_alloc | apply Kd.S_drewN | apply Kd.S_drew)); exact (Kd.S_mono (Kd.S_far (p := ⟨gb169, 1, none⟩) (Kd.S_far (p := ⟨gb169, 0, none⟩) (Kd.S_types HO168.out BK169.out (by decide)) (fun _ hk => hk.2) (.slice Ao19 t163.length co19)) (fun _ hk => hk.2) (.slice Ao22 t166.length co22)) (fun _ h_ => h_.1))) hb); have n2_ := Aside0.mk (blk_below (g := gb160) (o := .cells #[.slice A0_0 l0_0.length c0_0, .slice A0_1 l0_1.length c0_1] 25 (0, 0)) (by (with_reducible repeat (first | refine blk_drewN ?_ _ | refine blk_drew ?_ | refine blk_alloc ?_ _)); refine blk_far ?_ NB160_169.out _; (with_reducible repeat (first | refine blk_drewN ?_ _ | refine blk_drew ?_ | refine blk_alloc ?_ _)); refine blk_far ?_ NB160_169.out _; (with_reducible repeat (first | refine blk_drewN ?_ _ | refine blk_drew ?_ | refine blk_alloc ?_ _)); exact BK160.out) hb); have n3_ := Aside0.mk (blk_below (g := gb169) (o := .cells #[.slice Ao19 t163.length co19, .slice Ao22 t166.length co22] 25 (0, 0)) (by (with_reducible repeat (first | refine blk_drewN ?_ _ | refine blk_drew ?_ | refine blk_alloc ?_ _)); refine blk_put (cs := #[.slice Ao19 t163.length co19, .slice none 0 0]) ?_ 1 _ rfl; (with_reducible repeat (first | refine blk_drewN ?_ _ | refine blk_drew ?_ | refine blk_alloc ?_ _)); refine blk_put (cs := #[.slice none 0 0, .slice none 0 0]) ?_ 0 _ rfl; (with_reducible repeat (first | refine blk_drewN ?_ _ | refine blk_drew ?_ | refine blk_alloc ?_ _)); exact BK169.out) hb); have n4_ := Aside0.mk (below_step (hb_ HB.out) hb); clear HO165; clear HO168; clear BK160; clear BK169; clear HB; have HO165 := n0_; have HO168 := n1_; have BK160 := n2_; have BK169 := n3_; have HB := n4_; clear n0_ n1_ n2_ n3_ n4_; (try clear hb); (try clear hb2); (try clear hk); (try clear hi)))
   repeat (go_quiet (first | (go_at_call 21; (refine (fencepostref07_Same.calls kj3 _ _ t163 _ _ ([] : List (List (S53))) _ _ l0_0 _ _ ([] : List (List (S53))) t170 _ ?side1 ?side2 ?side3 ?side4 ?side5 ?side6 ?side7 ?side8 A24.out).mono ?_); (case side1 => refine (Kd.R_reads' (e := 3) (base := w.heap.size) (ok := fun k_ => True) (n := t163.length) (c := co19) ?_).2.2; exact (by (with_reducible repeat (first | apply Kd.R_alloc | apply Kd.R_drewN | apply Kd.R_drew)); exact (Kd.R_mono (Kd.R_far (p := ⟨gb169, 1, none⟩) (Kd.R_far (p := ⟨gb169, 0, none⟩) (Kd.R_types HO165.out BK169.out (by decide)) (fun _ hk => hk.2) (.slice Ao19 t163.length co19)) (fun _ hk => hk.2) (.slice Ao22 t166.length co22)) (fun _ h_ => h_.1)))); (case side2 => exact (Kd.R_reads' HO165.out).2.1); (case side3 => exact Kd.C_nil _ _); (case side4 => exact Nat.le_refl _); (case side5 => exact Kd.C_below HR0_0.out (hb_ HB.out)); (case side6 => exact HC0_0.out); (case side7 => exact Kd.C_nil _ _); (case side8 => exact Nat.le_refl _); rintro e w28 ⟨rfl, hb⟩; have n0_ := Aside0.mk (Kd.R_below (by (with_reducible repeat (first | apply Kd.R_alloc | apply Kd.R_drewN | apply Kd.R_drew)); exact (Kd.R_mono (Kd.R_far (p := ⟨gb169, 1, none⟩) (Kd.R_far (p := ⟨gb169, 0, none⟩) (Kd.R_types HO165.out BK169.out (by decide)) (fun _ hk => hk.2) (.slice Ao19 t163.length co19)) (fun _ hk => hk.2) (.slice Ao22 t166.length co22)) (fun _ h_ => h_.1))) hb); have n1_ := Aside0.mk (Kd.S_below (by (with_reducible repeat (first | apply Kd.S_alloc | apply Kd.S_drewN | apply Kd.S_drew)); exact (Kd.S_mono (Kd.S_far (p := ⟨gb169, 1, none⟩) (Kd.S_far (p := ⟨gb169, 0, none⟩) (Kd.S_types HO168.out BK169.out (by decide)) (fun _ hk => hk.2) (.slice Ao19 t163.length co19)) (fun _ hk => hk.2) (.slice Ao22 t166.length co22)) (fun _ h_ => h_.1))) hb); have n2_ := Aside0.mk (blk_below (g := gb160) (o := .cells #[.slice A0_0 l0_0.length c0_0, .slice A0_1 l0_1.length c0_1] 25 (0, 0)) (by (with_reducible repeat (first | refine blk_drewN ?_ _ | refine blk_drew ?_ | refine blk_alloc ?_ _)); refine blk_far ?_ NB160_169.out _; (with_reducible repeat (first | refine blk_drewN ?_ _ | refine blk_drew ?_ | refine blk_alloc ?_ _)); refine blk_far ?_ NB160_169.out _; (with_reducible repeat (first | refine blk_drewN ?_ _ | refine blk_drew ?_ | refine blk_alloc ?_ _)); exact BK160.out) hb); have n3_ := Aside0.mk (blk_below (g := gb169) (o := .cells #[.slice Ao19 t163.length co19, .slice Ao22 t166.length co22] 25 (0, 0)) (by (with_reducible repeat (first | refine blk_drewN ?_ _ | refine blk_drew ?_ | refine blk_alloc ?_ _)); refine blk_put (cs := #[.slice Ao19 t163.length co19, .slice none 0 0]) ?_ 1 _ rfl; (with_reducible repeat (first | refine blk_drewN ?_ _ | refine blk_drew ?_ | refine blk_alloc ?_ _)); refine blk_put (cs := #[.slice none 0 0, .slice none 0 0]) ?_ 0 _ rfl; (with_reducible repeat (first | refine blk_drewN ?_ _ | refine blk_drew ?_ | refine blk_alloc ?_ _)); exact BK169.out) hb); have n4_ := Aside0.mk (below_step (hb_ HB.out) hb); clear HO165; clear HO168; clear BK160; clear BK169; clear HB; have HO165 := n0_; have HO168 := n1_; have BK160 := n2_; have BK169 := n3_; have HB := n4_; clear n0_ n1_ n2_ n3_ n4_; (try clear hb); (try clear hb2); (try clear hk); (try clear hi))); try go_wp2_with (first | (go_at_call 21; (refine (fencepostref07_Same.calls kj3 _ _ t163 _ _ ([] : List (List (S53))) _ _ l0_0 _ _ ([] : List (List (S53))) t170 _ ?side1 ?side2 ?side3 ?side4 ?side5 ?side6 ?side7 ?side8 A24.out).mono ?_); (case side1 => refine (Kd.R_reads' (e := 3) (base := w.heap.size) (ok := fun k_ => True) (n := t163.length) (c := co19) ?_).2.2; exact (by (with_reducible repeat (first | apply Kd.R_alloc | apply Kd.R_drewN | apply Kd.R_drew)); exact (Kd.R_mono (Kd.R_far (p := ⟨gb169, 1, none⟩) (Kd.R_far (p := ⟨gb169, 0, none⟩) (Kd.R_types HO165.out BK169.out (by decide)) (fun _ hk => hk.2) (.slice Ao19 t163.length co19)) (fun _ hk => hk.2) (.slice Ao22 t166.length co22)) (fun _ h_ => h_.1)))); (case side2 => exact (Kd.R_reads' HO165.out).2.1); (case side3 => exact Kd.C_nil _ _); (case side4 => exact Nat.le_refl _); (case side5 => exact Kd.C_below HR0_0.out (hb_ HB.out)); (case side6 => exact HC0_0.out); (case side7 => exact Kd.C_nil _ _); (case side8 => exact Nat.le_refl _); rintro e w28 ⟨rfl, hb⟩; have n0_ := Aside0.mk (Kd.R_below (by (with_reducible repeat (first | apply Kd.R_alloc | apply Kd.R_drewN | apply Kd.R_drew)); exact (Kd.R_mono (Kd.R_far (p := ⟨gb169, 1, none⟩) (Kd.R_far (p := ⟨gb169, 0, none⟩) (Kd.R_types HO165.out BK169.out (by decide)) (fun _ hk => hk.2) (.slice Ao19 t163.length co19)) (fun _ hk => hk.2) (.slice Ao22 t166.length co22)) (fun _ h_ => h_.1))) hb); have n1_ := Aside0.mk (Kd.S_below (by (with_reducible repeat (first | apply Kd.S_alloc | apply Kd.S_drewN | apply Kd.S_drew)); exact (Kd.S_mono (Kd.S_far (p := ⟨gb169, 1, none⟩) (Kd.S_far (p := ⟨gb169, 0, none⟩) (Kd.S_types HO168.out BK169.out (by decide)) (fun _ hk => hk.2) (.slice Ao19 t163.length co19)) (fun _ hk => hk.2) (.slice Ao22 t166.length co22)) (fun _ h_ => h_.1))) hb); have n2_ := Aside0.mk (blk_below (g := gb160) (o := .cells #[.slice A0_0 l0_0.length c0_0, .slice A0_1 l0_1.length c0_1] 25 (0, 0)) (by (with_reducible repeat (first | refine blk_drewN ?_ _ | refine blk_drew ?_ | refine blk_alloc ?_ _)); refine blk_far ?_ NB160_169.out _; (with_reducible repeat (first | refine blk_drewN ?_ _ | refine blk_drew ?_ | refine blk_alloc ?_ _)); refine blk_far ?_ NB160_169.out _; (with_reducible repeat (first | refine blk_drewN ?_ _ | refine blk_drew ?_ | refine blk_alloc ?_ _)); exact BK160.out) hb); have n3_ := Aside0.mk (blk_below (g := gb169) (o := .cells #[.slice Ao19 t163.length co19, .slice Ao22 t166.length co22] 25 (0, 0)) (by (with_reducible repeat (first | refine blk_drewN ?_ _ | refine blk_drew ?_ | refine blk_alloc ?_ _)); refine blk_put (cs := #[.slice Ao19 t163.length co19, .slice none 0 0]) ?_ 1 _ rfl; (with_reducible repeat (first | refine blk_drewN ?_ _ | refine blk_drew ?_ | refine blk_alloc ?_ _)); refine blk_put (cs := #[.slice none 0 0, .slice none 0 0]) ?_ 0 _ rfl; (with_reducible repeat (first | refine blk_drewN ?_ _ | refine blk_drew ?_ | refine blk_alloc ?_ _)); exact BK169.out) hb); have n4_ := Aside0.mk (below_step (hb_ HB.out) hb); clear HO165; clear HO168; clear BK160; clear BK169; clear HB; have HO165 := n0_; have HO168 := n1_; have BK160 := n2_; have BK169 := n3_; have HB := n4_; clear n0_ n1_ n2_ n3_ n4_; (try clear hb); (try clear hb2); (try clear hk); (try clear hi))))
   go_meet
   case rel => exact ⟨_, (!t170), rf_, H', ⟨by have := HJ3.out; first | omega | exact Nat.le_refl _⟩, ⟨rd_ HO165.out⟩, ⟨sd_ HO168.out⟩, ⟨bd_ BK160.out⟩, ⟨bd_ BK169.out⟩, ⟨hb_ HB.out⟩⟩
  case rest =>
   clear HC15
   try clear c1
   try clear c13
   try clear hcz16_0
   try clear hcz16_1
   try clear hcz21_0
   try clear hcz21_1
   try clear hfz16_0
   try clear hfz16_1
   try clear hfz21_0
   try clear hfz21_1
   obtain ⟨kq, x45_14, rfl, HA, HJ14, HO_170000, HO_170001, BK160, BK169, HB⟩ := hcut
   have HRQ := Aside0.mk (Kd.S_reads' HO_170001.out).2.2
   have HLQ := Aside0.mk (Kd.R_lt HO_170000.out)
   replace HR0_0 := Aside0.mk (Kd.C_below HR0_0.out HB.out)
   replace HR0_1 := Aside0.mk (Kd.C_below HR0_1.out HB.out)
   replace HR1 := Aside0.mk (Kd.C_below HR1.out HB.out)
   have HB0 := HB
   clear HO_170000 HO_170001 HB
   obtain ⟨w, hw_⟩ : ∃ z : World, z = wc := ⟨wc, rfl⟩
   subst hw_
   have HO_170000 : Aside0 True := ⟨trivial⟩
   have HO_170001 : Aside0 True := ⟨trivial⟩
   have HB : Aside0 (Below w.heap.size w w) := ⟨Below.refl _ _⟩
   cases kq with
   | zero => exact absurd HA.out (by simp [fencepostlaw08_SlotsLands.j1])
   | succ kj14 => ?_
   have H := HA.out
   clear HA
   simp only [fencepostlaw08_SlotsLands.j1] at H
   by_cases c32 : x45_14 = true
   ·subst c32
    have H1 : (some false) = some r := by rw [if_pos rfl] at H; exact H
    clear H
    have H := H1
    clear H1
    exact absurd ((Option.some.inj H).trans HT.out) (by simp)
   replace c32 := Bool.eq_false_iff.mpr c32
   subst c32
   have H1 : (fencepostlaw08_SlotsLands.l0 kj14 l1 t161 0 0 l0_0 l0_1 t163 t166) = some r := by rw [if_neg (show ¬ (false = true) by decide)] at H; exact H
   clear H
   have H := H1
   clear H1
   have H' := Aside0.mk H
   clear H
   go_wp2
   repeat (go_quiet (fail); try go_wp2)
   go_loopg [7, 8] kj14 (fun kq v7 v8 w' => ∃ (x7_3 : Int) (x8_3 : Int), v7 = .int .i64 x7_3 ∧ v8 = .int .i64 x8_3 ∧ Aside0 (fencepostlaw08_SlotsLands.l0 kq l1 t161 x7_3 x8_3 l0_0 l0_1 t163 t166 = some r) ∧ Aside0 (kq ≤ kj14) ∧ Aside0 True ∧ Aside0 True ∧ Aside0 (w'.heap[gb160]? = some (.cells #[(.slice A0_0 l0_0.length c0_0), (.slice A0_1 l0_1.length c0_1)] 25 (0, 0))) ∧ Aside0 (w'.heap[gb169]? = some (.cells #[(.slice Ao19 t163.length co19), (.slice Ao22 t166.length co22)] 25 (0, 0))) ∧ Aside0 (Below w.heap.size w w'))
   case atStart => exact ⟨(0), (0), rf_, rf_, H', ⟨Nat.le_refl _⟩, ⟨trivial⟩, ⟨trivial⟩, ⟨bd_ BK160.out⟩, ⟨bd_ BK169.out⟩, ⟨hb_ HB.out⟩⟩
   case round =>
    clear H'
    try clear c1
    try clear c13
    try clear c32
    try clear hcz16_0
    try clear hcz16_1
    try clear hcz21_0
    try clear hcz21_1
    try clear hfz16_0
    try clear hfz16_1
    try clear hfz21_0
    try clear hfz21_1
    obtain ⟨x7_3, x8_3, rfl, rfl, HA, HK3, HO_170000, HO_170001, BK160, BK169, HB⟩ := hrel
    cases gk with
    | zero => exact absurd HA.out (by simp [fencepostlaw08_SlotsLands.l0])
    | succ k3 => ?_
    have H := HA.out
    clear HA
    simp only [fencepostlaw08_SlotsLands.l0] at H
    by_cases c33 : x8_3 < (l0_1.length : Int)
    rotate_left
    ·rw [if_neg c33] at H
     have c33b0 : decide (x8_3 < (l0_1.length : Int)) = false := decide_eq_false c33
     clear c33
     obtain rfl := Option.some.inj H
     have hnb114 := NB160_169.out
     have hnc114 := NB169_160.out
     have hcz115_0 : wr.cell? ⟨gb160, 0, none⟩ = some (.slice A0_0 l0_0.length c0_0) := (blk_cell BK160.out 0).trans rfl
     have hcz115_1 : wr.cell? ⟨gb160, 1, none⟩ = some (.slice A0_1 l0_1.length c0_1) := (blk_cell BK160.out 1).trans rfl
     have hfz115_0 := blk_frozen BK160.out 0
     have hfz115_1 := blk_frozen BK160.out 1
     go_wp2
     repeat (go_quiet (fail); try go_wp2)
     go_ret
     exact ⟨by first | rfl | (simp [errW_none, errW_some] <;> rfl) | (simp [*, errW_none, errW_some] <;> rfl), below_step HB0.out (hb_ HB.out)⟩
    rw [if_pos c33] at H
    have c33b0 : decide (x8_3 < (l0_1.length : Int)) = true := decide_eq_true c33
    clear c33
    by_cases c34 : 0 ≤ x8_3
    rotate_left
    ·rw [if_neg c34] at H
     exact absurd H (by simp)
    rw [if_pos c34] at H
    have c34b0 : decide (0 ≤ x8_3) = true := decide_eq_true c34
    clear c34
    by_cases c35 : x8_3 < (t166.length : Int)
    rotate_left
    ·rw [if_neg c35] at H
     exact absurd H (by simp)
    rw [if_pos c35] at H
    have c35b0 : decide (x8_3 < (t166.length : Int)) = true := decide_eq_true c35
    clear c35
    have H' := Aside0.mk H
    clear H
    have hnb36 := NB160_169.out
    have hnc36 := NB169_160.out
    have hcz37_0 : wr.cell? ⟨gb160, 0, none⟩ = some (.slice A0_0 l0_0.length c0_0) := (blk_cell BK160.out 0).trans rfl
    have hcz37_1 : wr.cell? ⟨gb160, 1, none⟩ = some (.slice A0_1 l0_1.length c0_1) := (blk_cell BK160.out 1).trans rfl
    have hfz37_0 := blk_frozen BK160.out 0
    have hfz37_1 := blk_frozen BK160.out 1
    have hcz38_0 : wr.cell? ⟨gb169, 0, none⟩ = some (.slice Ao19 t163.length co19) := (blk_cell BK169.out 0).trans rfl
    have hcz38_1 : wr.cell? ⟨gb169, 1, none⟩ = some (.slice Ao22 t166.length co22) := (blk_cell BK169.out 1).trans rfl
    have hfz38_0 := blk_frozen BK169.out 0
    have hfz38_1 := blk_frozen BK169.out 1
    have p171 : 0 ≤ (x8_3 : Int) := of_decide_eq_true as_
    have q171 : x8_3 < (t166.length : Int) := of_decide_eq_true as_
    obtain ⟨ad171, A171_0, c171_0, e171, hx171_0, hl171_0, hi171_0⟩ := at_L3 HRQ.out x8_3 p171 q171
    cases e171
    replace hx171_0 := cl_ HB.out hx171_0
    have HR171_0 := Aside0.mk hi171_0
    have HC171_0 := Aside0.mk hl171_0
    clear hi171_0 hl171_0
    replace p171 := eq_true p171
    replace q171 := eq_true q171
    go_wp2
    repeat (go_quiet (fail); try go_wp2)
    go_loopg [7, 10, 11, 12] k3 (fun kq v7 v10 v11 v12 w' => ∃ (x7_4 : Int) (x10_4 : List Int) (x11_4 : Int) (x12_4 : Int), v7 = .int .i64 x7_4 ∧ v11 = .int .i64 x11_4 ∧ v12 = .int .i64 x12_4 ∧ Aside0 (fencepostlaw08_SlotsLands.l1 kq l1 t161 x7_4 x8_3 (rd_L3 t166 x8_3) x10_4 x11_4 x12_4 l0_0 l0_1 t163 t166 = some r) ∧ Aside0 (kq ≤ k3) ∧ Aside0 (Kd.R (Kd.int .i64) 3 w' w.heap.size (fun k_ => some k_ ≠ ((.slice Ao19 t163.length co19) : Value).ownBlock) v10 x10_4) ∧ Aside0 True ∧ Aside0 True ∧ Aside0 (w'.heap[gb160]? = some (.cells #[(.slice A0_0 l0_0.length c0_0), (.slice A0_1 l0_1.length c0_1)] 25 (0, 0))) ∧ Aside0 (w'.heap[gb169]? = some (.cells #[(.slice Ao19 t163.length co19), (.slice (some ad171) t166.length co22)] 25 (0, 0))) ∧ Aside0 (Below w.heap.size w w'))
    case atStart => exact ⟨(x7_3), (([] : List Int)), (0), (0), rf_, rf_, rf_, H', ⟨Nat.le_refl _⟩, ⟨by first | exact Kd.R_nil _ _ _ _ _ | exact Kd.N_nil _ _ _ _ _ | exact Kd.V_nil _ _ _ _ _ | exact Kd.Q_nil _ _ _ _ _ | exact Kd.S_nil _ _ _ _ _⟩, ⟨trivial⟩, ⟨trivial⟩, ⟨bd_ BK160.out⟩, ⟨bd_ BK169.out⟩, ⟨hb_ HB.out⟩⟩
    case round =>
     clear H'
     try clear c1
     try clear c13
     try clear c32
     try clear c33
     try clear c33b0
     try clear c34
     try clear c34b0
     try clear c35
     try clear c35b0
     try clear hcz16_0
     try clear hcz16_1
     try clear hcz21_0
     try clear hcz21_1
     try clear hcz37_0
     try clear hcz37_1
     try clear hcz38_0
     try clear hcz38_1
     try clear hfz16_0
     try clear hfz16_1
     try clear hfz21_0
     try clear hfz21_1
     try clear hfz37_0
     try clear hfz37_1
     try clear hfz38_0
     try clear hfz38_1
     try clear hx171_0
     try clear p171
     try clear q171
     obtain ⟨x7_4, x10_4, x11_4, x12_4, rfl, rfl, rfl, HA, HK4, HO_10, HO_170000, HO_170001, BK160, BK169, HB⟩ := hrel
     cases gk with
     | zero => exact absurd HA.out (by simp [fencepostlaw08_SlotsLands.l1])
     | succ k4 => ?_
     have H := HA.out
     clear HA
     simp only [fencepostlaw08_SlotsLands.l1] at H
     by_cases c39 : 0 ≤ x8_3
     rotate_left
     ·rw [if_neg c39] at H
      exact absurd H (by simp)
     rw [if_pos c39] at H
     have c39b0 : decide (0 ≤ x8_3) = true := decide_eq_true c39
     clear c39
     by_cases c40 : x8_3 < (l0_1.length : Int)
     rotate_left
     ·rw [if_neg c40] at H
      exact absurd H (by simp)
     rw [if_pos c40] at H
     have c40b0 : decide (x8_3 < (l0_1.length : Int)) = true := decide_eq_true c40
     clear c40
     by_cases c41 : x12_4 < ((rd_L3 l0_1 x8_3).length : Int)
     rotate_left
     ·rw [if_neg c41] at H
      have c41b0 : decide (x12_4 < ((rd_L3 l0_1 x8_3).length : Int)) = false := decide_eq_false c41
      clear c41
      by_cases c79 : x10_4.length < 17592186044416
      rotate_left
      ·rw [if_neg c79] at H
       exact absurd H (by simp)
      rw [if_pos c79] at H
      have LMc79 := Aside0.mk c79
      clear c79
      obtain ⟨y186, hy186⟩ : ∃ y_ : List Int, y_ = (x10_4 ++ [x11_4]) := ⟨_, rfl⟩
      replace H : (if x11_4 = ((rd_L3 t166 x8_3).length : Int) then (fencepostlaw08_SlotsLands.l2 k4 l1 t161 x7_4 x8_3 (rd_L3 t166 x8_3) y186 0 l0_0 l0_1 t163 t166) else (some false)) = some r := by first | (rw [hy186]; with_reducible exact H) | (have H2_ := (Option.bind_some _ _).symm.trans H; rw [hy186]; with_reducible exact H2_) | (have H2_ := (Option.bind_some _ _).symm.trans H; with_reducible exact H2_) | with_reducible exact H | (rw [hy186]; exact H) | exact H
      have Ny186 := Aside0.mk hy186
      clear hy186
      by_cases c80 : x11_4 = ((rd_L3 t166 x8_3).length : Int)
      rotate_left
      ·rw [if_neg c80] at H
       have c80b0 : (x11_4 == ((rd_L3 t166 x8_3).length : Int)) = false := beq_eq_false_iff_ne.mpr c80
       have c80b1 : (x11_4 != ((rd_L3 t166 x8_3).length : Int)) = true := bne_iff_ne.mpr c80
       exact absurd ((Option.some.inj H).trans HT.out) (by simp)
      rw [if_pos c80] at H
      have c80b0 : (x11_4 == ((rd_L3 t166 x8_3).length : Int)) = true := beq_iff_eq.mpr c80
      have c80b1 : (x11_4 != ((rd_L3 t166 x8_3).length : Int)) = false := bne_eq_false_iff_eq.mpr c80
      clear c80
      have H' := Aside0.mk H
      clear H
      have hnb81 := NB160_169.out
      have hnc81 := NB169_160.out
      have hcz82_0 : wr.cell? ⟨gb160, 0, none⟩ = some (.slice A0_0 l0_0.length c0_0) := (blk_cell BK160.out 0).trans rfl
      have hcz82_1 : wr.cell? ⟨gb160, 1, none⟩ = some (.slice A0_1 l0_1.length c0_1) := (blk_cell BK160.out 1).trans rfl
      have hfz82_0 := blk_frozen BK160.out 0
      have hfz82_1 := blk_frozen BK160.out 1
      have p172 : 0 ≤ (x8_3 : Int) := of_decide_eq_true as_
      have q172 : x8_3 < (l0_1.length : Int) := of_decide_eq_true as_
      obtain ⟨ad172, A172_0, c172_0, e172, hx172_0, hl172_0, hi172_0⟩ := at_L3 HR0_1.out x8_3 p172 q172
      cases e172
      replace hx172_0 := cl_ HB.out hx172_0
      have HR172_0 := Aside0.mk hi172_0
      have HC172_0 := Aside0.mk hl172_0
      clear hi172_0 hl172_0
      replace p172 := eq_true p172
      replace q172 := eq_true q172
      go_wp2_with (first | ((with_reducible refine gate_builtin (b := .append) (xs := #[.tmp 124, .tmp 126]) rfl ?_); (try (refine gate_guard (by rfl) ?_; dsimp only)); at_builtin; refine Kd.R_append (Kd.int .i64) (w0 := w) w.heap.size rfl (.tmp 124) (.tmp 126) 22 3 (.int .i64 0) 8 rfl Try.underlying22 info3 rfl (by decide) (by omega) u10 x10_4 x11_4 [.int .i64 x11_4] (fun k_ => some k_ ≠ (.slice Ao19 t163.length co19 : Value).ownBlock) (fun _ => False) rfl rfl ?aP (fun _ hk => hk.elim) ?aF ?aO ?aB ?aS ?aL ?_; (case aP => exact rfl); (case aB => exact (hb_ HB.out)); (case aF => exact (fun k_ hk => Kd.fresh' (fun k h_ => Nat.lt_of_lt_of_le (HLQ.out k h_) (below_size (hb_ HB.out))) k_ hk)); (case aO => exact (rd_ HO_10.out)); (case aS => exact (below_size (hb_ HB.out))); (case aL => have := LMc79.out; omega); intro v187 w83 ho hb hg hat; rw [← Ny186.out] at ho; have n0_ : Aside0 True := ⟨trivial⟩; have n1_ : Aside0 True := ⟨trivial⟩; have n2_ := Aside0.mk (blk_grown (g := gb160) (o := .cells #[.slice A0_0 l0_0.length c0_0, .slice (some ad172) l0_1.length c0_1] 25 (0, 0)) (bd_ BK160.out) hg (Kd.R_ne HO_10.out BK160.out (by decide))); have n3_ := Aside0.mk (blk_grown (g := gb169) (o := .cells #[.slice Ao19 t163.length co19, .slice (some ad171) t166.length co22] 25 (0, 0)) (bd_ BK169.out) hg (Kd.R_ne HO_10.out BK169.out (by decide))); have n4_ := Aside0.mk (hb); have n5_ := Aside0.mk (ho); clear HO_170000; clear HO_170001; clear BK160; clear BK169; clear HB; clear HO_10; have HO_170000 := n0_; have HO_170001 := n1_; have BK160 := n2_; have BK169 := n3_; have HB := n4_; have HO188 := n5_; clear n0_ n1_ n2_ n3_ n4_ n5_; clear ho hb hg hat))
      repeat (go_quiet (first | ((with_reducible refine gate_builtin (b := .append) (xs := #[.tmp 124, .tmp 126]) rfl ?_); (try (refine gate_guard (by rfl) ?_; dsimp only)); at_builtin; refine Kd.R_append (Kd.int .i64) (w0 := w) w.heap.size rfl (.tmp 124) (.tmp 126) 22 3 (.int .i64 0) 8 rfl Try.underlying22 info3 rfl (by decide) (by omega) u10 x10_4 x11_4 [.int .i64 x11_4] (fun k_ => some k_ ≠ (.slice Ao19 t163.length co19 : Value).ownBlock) (fun _ => False) rfl rfl ?aP (fun _ hk => hk.elim) ?aF ?aO ?aB ?aS ?aL ?_; (case aP => exact rfl); (case aB => exact (hb_ HB.out)); (case aF => exact (fun k_ hk => Kd.fresh' (fun k h_ => Nat.lt_of_lt_of_le (HLQ.out k h_) (below_size (hb_ HB.out))) k_ hk)); (case aO => exact (rd_ HO_10.out)); (case aS => exact (below_size (hb_ HB.out))); (case aL => have := LMc79.out; omega); intro v187 w83 ho hb hg hat; rw [← Ny186.out] at ho; have n0_ : Aside0 True := ⟨trivial⟩; have n1_ : Aside0 True := ⟨trivial⟩; have n2_ := Aside0.mk (blk_grown (g := gb160) (o := .cells #[.slice A0_0 l0_0.length c0_0, .slice (some ad172) l0_1.length c0_1] 25 (0, 0)) (bd_ BK160.out) hg (Kd.R_ne HO_10.out BK160.out (by decide))); have n3_ := Aside0.mk (blk_grown (g := gb169) (o := .cells #[.slice Ao19 t163.length co19, .slice (some ad171) t166.length co22] 25 (0, 0)) (bd_ BK169.out) hg (Kd.R_ne HO_10.out BK169.out (by decide))); have n4_ := Aside0.mk (hb); have n5_ := Aside0.mk (ho); clear HO_170000; clear HO_170001; clear BK160; clear BK169; clear HB; clear HO_10; have HO_170000 := n0_; have HO_170001 := n1_; have BK160 := n2_; have BK169 := n3_; have HB := n4_; have HO188 := n5_; clear n0_ n1_ n2_ n3_ n4_ n5_; clear ho hb hg hat)); try go_wp2_with (first | ((with_reducible refine gate_builtin (b := .append) (xs := #[.tmp 124, .tmp 126]) rfl ?_); (try (refine gate_guard (by rfl) ?_; dsimp only)); at_builtin; refine Kd.R_append (Kd.int .i64) (w0 := w) w.heap.size rfl (.tmp 124) (.tmp 126) 22 3 (.int .i64 0) 8 rfl Try.underlying22 info3 rfl (by decide) (by omega) u10 x10_4 x11_4 [.int .i64 x11_4] (fun k_ => some k_ ≠ (.slice Ao19 t163.length co19 : Value).ownBlock) (fun _ => False) rfl rfl ?aP (fun _ hk => hk.elim) ?aF ?aO ?aB ?aS ?aL ?_; (case aP => exact rfl); (case aB => exact (hb_ HB.out)); (case aF => exact (fun k_ hk => Kd.fresh' (fun k h_ => Nat.lt_of_lt_of_le (HLQ.out k h_) (below_size (hb_ HB.out))) k_ hk)); (case aO => exact (rd_ HO_10.out)); (case aS => exact (below_size (hb_ HB.out))); (case aL => have := LMc79.out; omega); intro v187 w83 ho hb hg hat; rw [← Ny186.out] at ho; have n0_ : Aside0 True := ⟨trivial⟩; have n1_ : Aside0 True := ⟨trivial⟩; have n2_ := Aside0.mk (blk_grown (g := gb160) (o := .cells #[.slice A0_0 l0_0.length c0_0, .slice (some ad172) l0_1.length c0_1] 25 (0, 0)) (bd_ BK160.out) hg (Kd.R_ne HO_10.out BK160.out (by decide))); have n3_ := Aside0.mk (blk_grown (g := gb169) (o := .cells #[.slice Ao19 t163.length co19, .slice (some ad171) t166.length co22] 25 (0, 0)) (bd_ BK169.out) hg (Kd.R_ne HO_10.out BK169.out (by decide))); have n4_ := Aside0.mk (hb); have n5_ := Aside0.mk (ho); clear HO_170000; clear HO_170001; clear BK160; clear BK169; clear HB; clear HO_10; have HO_170000 := n0_; have HO_170001 := n1_; have BK160 := n2_; have BK169 := n3_; have HB := n4_; have HO188 := n5_; clear n0_ n1_ n2_ n3_ n4_ n5_; clear ho hb hg hat)))
      go_loopg [14] k4 (fun kq v14 w' => ∃ (x14_5 : Int), v14 = .int .i64 x14_5 ∧ Aside0 (fencepostlaw08_SlotsLands.l2 kq l1 t161 x7_4 x8_3 (rd_L3 t166 x8_3) y186 x14_5 l0_0 l0_1 t163 t166 = some r) ∧ Aside0 (kq ≤ k4) ∧ Aside0 (Kd.R (Kd.int .i64) 3 w' w.heap.size (fun k_ => some k_ ≠ ((.slice Ao19 t163.length co19) : Value).ownBlock) v187 y186) ∧ Aside0 True ∧ Aside0 True ∧ Aside0 (w'.heap[gb160]? = some (.cells #[(.slice A0_0 l0_0.length c0_0), (.slice (some ad172) l0_1.length c0_1)] 25 (0, 0))) ∧ Aside0 (w'.heap[gb169]? = some (.cells #[(.slice Ao19 t163.length co19), (.slice (some ad171) t166.length co22)] 25 (0, 0))) ∧ Aside0 (Below w.heap.size w w'))
      case atStart => exact ⟨(0), rf_, H', ⟨Nat.le_refl _⟩, ⟨rd_ HO188.out⟩, ⟨trivial⟩, ⟨trivial⟩, ⟨bd_ BK160.out⟩, ⟨bd_ BK169.out⟩, ⟨hb_ HB.out⟩⟩
      case round =>
       clear H'
       try clear c1
       try clear c13
       try clear c32
       try clear c33
       try clear c33b0
       try clear c34
       try clear c34b0
       try clear c35
       try clear c35b0
       try clear c39
       try clear c39b0
       try clear c40
       try clear c40b0
       try clear c41
       try clear c41b0
       try clear c79
       try clear c80
       try clear c80b0
       try clear c80b1
       try clear hcz16_0
       try clear hcz16_1
       try clear hcz21_0
       try clear hcz21_1
       try clear hcz37_0
       try clear hcz37_1
       try clear hcz38_0
       try clear hcz38_1
       try clear hcz82_0
       try clear hcz82_1
       try clear hfz16_0
       try clear hfz16_1
       try clear hfz21_0
       try clear hfz21_1
       try clear hfz37_0
       try clear hfz37_1
       try clear hfz38_0
       try clear hfz38_1
       try clear hfz82_0
       try clear hfz82_1
       try clear hx171_0
       try clear hx172_0
       try clear p171
       try clear p172
       try clear q171
       try clear q172
       obtain ⟨x14_5, rfl, HA, HK5, HO_10, HO_170000, HO_170001, BK160, BK169, HB⟩ := hrel
       cases gk with
       | zero => exact absurd HA.out (by simp [fencepostlaw08_SlotsLands.l2])
       | succ k5 => ?_
       have H := HA.out
       clear HA
       simp only [fencepostlaw08_SlotsLands.l2] at H
       by_cases c84 : 0 ≤ x8_3
       rotate_left
       ·rw [if_neg c84] at H
        exact absurd H (by simp)
       rw [if_pos c84] at H
       have c84b0 : decide (0 ≤ x8_3) = true := decide_eq_true c84
       clear c84
       by_cases c85 : x8_3 < (l0_1.length : Int)
       rotate_left
       ·rw [if_neg c85] at H
        exact absurd H (by simp)
       rw [if_pos c85] at H
       have c85b0 : decide (x8_3 < (l0_1.length : Int)) = true := decide_eq_true c85
       clear c85
       by_cases c86 : x14_5 < ((rd_L3 l0_1 x8_3).length : Int)
       rotate_left
       ·rw [if_neg c86] at H
        have c86b0 : decide (x14_5 < ((rd_L3 l0_1 x8_3).length : Int)) = false := decide_eq_false c86
        clear c86
        have H' := Aside0.mk H
        clear H
        have hnb112 := NB160_169.out
        have hnc112 := NB169_160.out
        have hcz113_0 : wr.cell? ⟨gb160, 0, none⟩ = some (.slice A0_0 l0_0.length c0_0) := (blk_cell BK160.out 0).trans rfl
        have hcz113_1 : wr.cell? ⟨gb160, 1, none⟩ = some (.slice (some ad172) l0_1.length c0_1) := (blk_cell BK160.out 1).trans rfl
        have hfz113_0 := blk_frozen BK160.out 0
        have hfz113_1 := blk_frozen BK160.out 1
        have p189 : 0 ≤ (x8_3 : Int) := of_decide_eq_true as_
        have q189 : x8_3 < (l0_1.length : Int) := of_decide_eq_true as_
        obtain ⟨ad189, A189_0, c189_0, e189, hx189_0, hl189_0, hi189_0⟩ := at_L3 HR0_1.out x8_3 p189 q189
        obtain rfl : ad172 = ad189 := (by injection e189)
        replace hx189_0 := cl_ HB.out hx189_0
        have HR189_0 := Aside0.mk hi189_0
        have HC189_0 := Aside0.mk hl189_0
        clear hi189_0 hl189_0
        replace p189 := eq_true p189
        replace q189 := eq_true q189
        go_wp2
        repeat (go_quiet (fail); try go_wp2)
        go_roundg k5
        case measure => have := HJ3.out; have := HJ14.out; have := HK3.out; have := HK4.out; have := HK5.out; omega
        case rel => exact ⟨(x7_4), (wrap64 (x8_3 + 1)), rf_, rf_, H', ⟨by have := HJ3.out; have := HJ14.out; have := HK3.out; have := HK4.out; have := HK5.out; omega⟩, ⟨trivial⟩, ⟨trivial⟩, ⟨bd_ BK160.out⟩, ⟨bd_ BK169.out⟩, ⟨hb_ HB.out⟩⟩
       rw [if_pos c86] at H
       have c86b0 : decide (x14_5 < ((rd_L3 l0_1 x8_3).length : Int)) = true := decide_eq_true c86
       clear c86
       by_cases c87 : 0 ≤ x14_5
       rotate_left
       ·rw [if_neg c87] at H
        exact absurd H (by simp)
       rw [if_pos c87] at H
       have c87b0 : decide (0 ≤ x14_5) = true := decide_eq_true c87
       clear c87
       obtain ⟨ji88, hji88⟩ : ∃ j_ : Int, (wrap64 (x14_5 + 1)) = j_ := ⟨_, rfl⟩
       replace H : (if 0 ≤ (ji88) then (if (ji88) < (y186.length : Int) then (if ((rd_T53 (rd_L3 l0_1 x8_3) x14_5).f0) ≥ 8 then (if 0 ≤ (wrap64 ((rd y186 (ji88)) - 1)) then (if (wrap64 ((rd y186 (ji88)) - 1)) < ((rd_L3 t166 x8_3).length : Int) then (if 0 ≤ ((rd_T53 (rd_L3 l0_1 x8_3) x14_5).f4) then (if ((rd_T53 (rd_L3 l0_1 x8_3) x14_5).f4) < (y186.length : Int) then (if ((rd_T53 (rd_L3 t166 x8_3) (wrap64 ((rd y186 (ji88)) - 1))).f4) = (rd y186 ((rd_T53 (rd_L3 l0_1 x8_3) x14_5).f4)) then (fencepostlaw08_SlotsLands.l2 k5 l1 t161 x7_4 x8_3 (rd_L3 t166 x8_3) y186 ji88 l0_0 l0_1 t163 t166) else (some false)) else (none)) else (none)) else (none)) else (none)) else (fencepostlaw08_SlotsLands.l2 k5 l1 t161 x7_4 x8_3 (rd_L3 t166 x8_3) y186 ji88 l0_0 l0_1 t163 t166)) else (none)) else (none)) = some r := by first | (rw [hji88] at H; exact H) | (simp only [hji88] at H ⊢; exact H)
       have hji88w : (IntKind.i64.wrap (x14_5 + 1)) = ji88 := (i64_w _).trans hji88
       by_cases c89 : 0 ≤ (ji88)
       rotate_left
       ·rw [if_neg c89] at H
        exact absurd H (by simp)
       rw [if_pos c89] at H
       have c89b0 : decide (0 ≤ (ji88)) = true := decide_eq_true c89
       clear c89
       by_cases c90 : (ji88) < (y186.length : Int)
       rotate_left
       ·rw [if_neg c90] at H
        exact absurd H (by simp)
       rw [if_pos c90] at H
       have c90b0 : decide ((ji88) < (y186.length : Int)) = true := decide_eq_true c90
       clear c90
       by_cases c91 : ((rd_T53 (rd_L3 l0_1 x8_3) x14_5).f0) ≥ 8
       rotate_left
       ·rw [if_neg c91] at H
        have c91b0 : decide (8 ≤ ((rd_T53 (rd_L3 l0_1 x8_3) x14_5).f0)) = false := decide_eq_false c91
        clear c91
        have H' := Aside0.mk H
        clear H
        have hnb105 := NB160_169.out
        have hnc105 := NB169_160.out
        have hcz106_0 : wr.cell? ⟨gb160, 0, none⟩ = some (.slice A0_0 l0_0.length c0_0) := (blk_cell BK160.out 0).trans rfl
        have hcz106_1 : wr.cell? ⟨gb160, 1, none⟩ = some (.slice (some ad172) l0_1.length c0_1) := (blk_cell BK160.out 1).trans rfl
        have hfz106_0 := blk_frozen BK160.out 0
        have hfz106_1 := blk_frozen BK160.out 1
        have p189 : 0 ≤ (x8_3 : Int) := of_decide_eq_true as_
        have q189 : x8_3 < (l0_1.length : Int) := of_decide_eq_true as_
        obtain ⟨ad189, A189_0, c189_0, e189, hx189_0, hl189_0, hi189_0⟩ := at_L3 HR0_1.out x8_3 p189 q189
        obtain rfl : ad172 = ad189 := (by injection e189)
        replace hx189_0 := cl_ HB.out hx189_0
        have HR189_0 := Aside0.mk hi189_0
        have HC189_0 := Aside0.mk hl189_0
        clear hi189_0 hl189_0
        replace p189 := eq_true p189
        replace q189 := eq_true q189
        have p190 : 0 ≤ (x8_3 : Int) := of_decide_eq_true as_
        have q190 : x8_3 < (l0_1.length : Int) := of_decide_eq_true as_
        obtain ⟨ad190, A190_0, c190_0, e190, hx190_0, hl190_0, hi190_0⟩ := at_L3 HR0_1.out x8_3 p190 q190
        obtain rfl : ad172 = ad190 := (by injection e190)
        replace hx190_0 := cl_ HB.out hx190_0
        have HR190_0 := Aside0.mk hi190_0
        have HC190_0 := Aside0.mk hl190_0
        clear hi190_0 hl190_0
        replace p190 := eq_true p190
        replace q190 := eq_true q190
        have ea_ := Option.some.inj (hx189_0.symm.trans hx190_0)
        injection ea_ with ea_ en_ ec_
        subst ea_
        subst ec_
        clear en_
        have p191 : 0 ≤ (x14_5 : Int) := of_decide_eq_true as_
        have q191 : x14_5 < ((rd_L3 l0_1 x8_3).length : Int) := of_decide_eq_true as_
        obtain ⟨ad191, e191, hx191_0, hx191_1, hx191_2, hx191_3, hx191_4⟩ := at_T53 HR190_0.out x14_5 p191 q191
        cases e191
        replace hx191_0 := cl_ HB.out hx191_0
        replace hx191_1 := cl_ HB.out hx191_1
        replace hx191_2 := cl_ HB.out hx191_2
        replace hx191_3 := cl_ HB.out hx191_3
        replace hx191_4 := cl_ HB.out hx191_4
        replace p191 := eq_true p191
        replace q191 := eq_true q191
        go_wp2_with (first | ((with_reducible refine gate_dst (N := 15) rfl ?_); (try (refine gate_guard (by rfl) ?_; dsimp only)); refine box_event ?hg (N := 15) ?hd (cs := #[.int .i64 0, .int .i64 0, .int .i64 0, .int .i64 0, .int .i64 0]) (t := 53) ?hr ?_; (case hd => rfl); (case hg => rfl); (case hr => first | (go_simp; done) | (go_simp; rfl)); intro gb192 hg w107 hbox hb; have n0_ := Aside0.mk (Kd.R_below (rd_ HO_10.out) hb); have n1_ : Aside0 True := ⟨trivial⟩; have n2_ : Aside0 True := ⟨trivial⟩; have n3_ := Aside0.mk (bb_ BK160.out hb); have n4_ := Aside0.mk (bb_ BK169.out hb); have n5_ := Aside0.mk (below_step (hb_ HB.out) hb); have n6_ := Aside0.mk (hbox); have n7_ := Aside0.mk (gs_ hg (hb_ HB.out)); have n8_ := Aside0.mk (gs_ hg (hb_ HB.out)); have n9_ := Aside0.mk (gn_ hg BK160.out); have n10_ := Aside0.mk (gn_ hg BK160.out).symm; have n11_ := Aside0.mk (gn_ hg BK169.out); have n12_ := Aside0.mk (gn_ hg BK169.out).symm; clear HO_10; clear HO_170000; clear HO_170001; clear BK160; clear BK169; clear HB; have HO_10 := n0_; have HO_170000 := n1_; have HO_170001 := n2_; have BK160 := n3_; have BK169 := n4_; have HB := n5_; have BK192 := n6_; have GW192 := n7_; have GE192 := n8_; have NB160_192 := n9_; have NB192_160 := n10_; have NB169_192 := n11_; have NB192_169 := n12_; clear n0_ n1_ n2_ n3_ n4_ n5_ n6_ n7_ n8_ n9_ n10_ n11_ n12_; clear hb hbox hg; have hnb108 := NB192_160.out; have hnc108 := NB160_192.out; have hnb109 := NB192_169.out; have hnc109 := NB169_192.out; have hcz110_0 : w107.cell? ⟨gb192, 0, none⟩ = some (.int .i64 0) := (blk_cell BK192.out 0).trans rfl; have hcz110_1 : w107.cell? ⟨gb192, 1, none⟩ = some (.int .i64 0) := (blk_cell BK192.out 1).trans rfl; have hcz110_2 : w107.cell? ⟨gb192, 2, none⟩ = some (.int .i64 0) := (blk_cell BK192.out 2).trans rfl; have hcz110_3 : w107.cell? ⟨gb192, 3, none⟩ = some (.int .i64 0) := (blk_cell BK192.out 3).trans rfl; have hcz110_4 : w107.cell? ⟨gb192, 4, none⟩ = some (.int .i64 0) := (blk_cell BK192.out 4).trans rfl; have hfz110_0 := blk_frozen BK192.out 0; have hfz110_1 := blk_frozen BK192.out 1; have hfz110_2 := blk_frozen BK192.out 2; have hfz110_3 := blk_frozen BK192.out 3; have hfz110_4 := blk_frozen BK192.out 4; obtain ⟨Ao111, co111, eo111⟩ := Kd.R_slice HO_10.out; subst eo111; have p193 : 0 ≤ ((ji88) : Int) := of_decide_eq_true as_; have q193 : (ji88) < (y186.length : Int) := of_decide_eq_true as_; obtain ⟨ad193, e193, hx193_0⟩ := Kd.at_int (Kd.R_reads' HO_10.out).2.2 (ji88) p193 q193; cases e193; have hn193_0 : ad193.block ≠ gb192 := Kd.own_blk (Kd.R_ne HO_10.out BK192.out (by decide)); have hn193_1 : ad193.block ≠ gb192 := Kd.own_blk (Kd.R_ne HO_10.out BK192.out (by decide)); have hn193_2 : ad193.block ≠ gb192 := Kd.own_blk (Kd.R_ne HO_10.out BK192.out (by decide)); have hn193_3 : ad193.block ≠ gb192 := Kd.own_blk (Kd.R_ne HO_10.out BK192.out (by decide)); have hn193_4 : ad193.block ≠ gb192 := Kd.own_blk (Kd.R_ne HO_10.out BK192.out (by decide)); replace hx193_0 := (cell_far (p := ⟨gb192, 0, none⟩) (ne_ hn193_0) (.int .i64 ((rd_T53 (rd_L3 l0_1 x8_3) x14_5).f0))).trans hx193_0; replace hx193_0 := (cell_far (p := ⟨gb192, 1, none⟩) (ne_ hn193_1) (.int .i64 ((rd_T53 (rd_L3 l0_1 x8_3) x14_5).f1))).trans hx193_0; replace hx193_0 := (cell_far (p := ⟨gb192, 2, none⟩) (ne_ hn193_2) (.int .i64 ((rd_T53 (rd_L3 l0_1 x8_3) x14_5).f2))).trans hx193_0; replace hx193_0 := (cell_far (p := ⟨gb192, 3, none⟩) (ne_ hn193_3) (.int .i64 ((rd_T53 (rd_L3 l0_1 x8_3) x14_5).f3))).trans hx193_0; replace hx193_0 := (cell_far (p := ⟨gb192, 4, none⟩) (ne_ hn193_4) (.int .i64 ((rd_T53 (rd_L3 l0_1 x8_3) x14_5).f4))).trans hx193_0; (try have hy193_0 := hy5_ hx193_0); clear hn193_0; clear hn193_1; clear hn193_2; clear hn193_3; clear hn193_4; replace p193 := eq_true p193; replace q193 := eq_true q193))
        repeat ((refine wp_region_quiet_lit (by decide +kernel) (by decide +kernel) ?_); (repeat (first | go_big_quiet_skip | (go_big_quiet_want; go_big_quiet_op; go_big_quiet_on))); refine wpQuiet_nil ?_; intro _ hw'; obtain ⟨nq, hw''⟩ := hw'; subst hw''; try go_wp2_with (first | ((with_reducible refine gate_dst (N := 15) rfl ?_); (try (refine gate_guard (by rfl) ?_; dsimp only)); refine box_event ?hg (N := 15) ?hd (cs := #[.int .i64 0, .int .i64 0, .int .i64 0, .int .i64 0, .int .i64 0]) (t := 53) ?hr ?_; (case hd => rfl); (case hg => rfl); (case hr => first | (go_simp; done) | (go_simp; rfl)); intro gb192 hg w107 hbox hb; have n0_ := Aside0.mk (Kd.R_below (rd_ HO_10.out) hb); have n1_ : Aside0 True := ⟨trivial⟩; have n2_ : Aside0 True := ⟨trivial⟩; have n3_ := Aside0.mk (bb_ BK160.out hb); have n4_ := Aside0.mk (bb_ BK169.out hb); have n5_ := Aside0.mk (below_step (hb_ HB.out) hb); have n6_ := Aside0.mk (hbox); have n7_ := Aside0.mk (gs_ hg (hb_ HB.out)); have n8_ := Aside0.mk (gs_ hg (hb_ HB.out)); have n9_ := Aside0.mk (gn_ hg BK160.out); have n10_ := Aside0.mk (gn_ hg BK160.out).symm; have n11_ := Aside0.mk (gn_ hg BK169.out); have n12_ := Aside0.mk (gn_ hg BK169.out).symm; clear HO_10; clear HO_170000; clear HO_170001; clear BK160; clear BK169; clear HB; have HO_10 := n0_; have HO_170000 := n1_; have HO_170001 := n2_; have BK160 := n3_; have BK169 := n4_; have HB := n5_; have BK192 := n6_; have GW192 := n7_; have GE192 := n8_; have NB160_192 := n9_; have NB192_160 := n10_; have NB169_192 := n11_; have NB192_169 := n12_; clear n0_ n1_ n2_ n3_ n4_ n5_ n6_ n7_ n8_ n9_ n10_ n11_ n12_; clear hb hbox hg; have hnb108 := NB192_160.out; have hnc108 := NB160_192.out; have hnb109 := NB192_169.out; have hnc109 := NB169_192.out; have hcz110_0 : w107.cell? ⟨gb192, 0, none⟩ = some (.int .i64 0) := (blk_cell BK192.out 0).trans rfl; have hcz110_1 : w107.cell? ⟨gb192, 1, none⟩ = some (.int .i64 0) := (blk_cell BK192.out 1).trans rfl; have hcz110_2 : w107.cell? ⟨gb192, 2, none⟩ = some (.int .i64 0) := (blk_cell BK192.out 2).trans rfl; have hcz110_3 : w107.cell? ⟨gb192, 3, none⟩ = some (.int .i64 0) := (blk_cell BK192.out 3).trans rfl; have hcz110_4 : w107.cell? ⟨gb192, 4, none⟩ = some (.int .i64 0) := (blk_cell BK192.out 4).trans rfl; have hfz110_0 := blk_frozen BK192.out 0; have hfz110_1 := blk_frozen BK192.out 1; have hfz110_2 := blk_frozen BK192.out 2; have hfz110_3 := blk_frozen BK192.out 3; have hfz110_4 := blk_frozen BK192.out 4; obtain ⟨Ao111, co111, eo111⟩ := Kd.R_slice HO_10.out; subst eo111; have p193 : 0 ≤ ((ji88) : Int) := of_decide_eq_true as_; have q193 : (ji88) < (y186.length : Int) := of_decide_eq_true as_; obtain ⟨ad193, e193, hx193_0⟩ := Kd.at_int (Kd.R_reads' HO_10.out).2.2 (ji88) p193 q193; cases e193; have hn193_0 : ad193.block ≠ gb192 := Kd.own_blk (Kd.R_ne HO_10.out BK192.out (by decide)); have hn193_1 : ad193.block ≠ gb192 := Kd.own_blk (Kd.R_ne HO_10.out BK192.out (by decide)); have hn193_2 : ad193.block ≠ gb192 := Kd.own_blk (Kd.R_ne HO_10.out BK192.out (by decide)); have hn193_3 : ad193.block ≠ gb192 := Kd.own_blk (Kd.R_ne HO_10.out BK192.out (by decide)); have hn193_4 : ad193.block ≠ gb192 := Kd.own_blk (Kd.R_ne HO_10.out BK192.out (by decide)); replace hx193_0 := (cell_far (p := ⟨gb192, 0, none⟩) (ne_ hn193_0) (.int .i64 ((rd_T53 (rd_L3 l0_1 x8_3) x14_5).f0))).trans hx193_0; replace hx193_0 := (cell_far (p := ⟨gb192, 1, none⟩) (ne_ hn193_1) (.int .i64 ((rd_T53 (rd_L3 l0_1 x8_3) x14_5).f1))).trans hx193_0; replace hx193_0 := (cell_far (p := ⟨gb192, 2, none⟩) (ne_ hn193_2) (.int .i64 ((rd_T53 (rd_L3 l0_1 x8_3) x14_5).f2))).trans hx193_0; replace hx193_0 := (cell_far (p := ⟨gb192, 3, none⟩) (ne_ hn193_3) (.int .i64 ((rd_T53 (rd_L3 l0_1 x8_3) x14_5).f3))).trans hx193_0; replace hx193_0 := (cell_far (p := ⟨gb192, 4, none⟩) (ne_ hn193_4) (.int .i64 ((rd_T53 (rd_L3 l0_1 x8_3) x14_5).f4))).trans hx193_0; (try have hy193_0 := hy5_ hx193_0); clear hn193_0; clear hn193_1; clear hn193_2; clear hn193_3; clear hn193_4; replace p193 := eq_true p193; replace q193 := eq_true q193)))
        go_roundg k5
        case measure => have := HJ3.out; have := HJ14.out; have := HK3.out; have := HK4.out; have := HK5.out; omega
        case rel => exact ⟨(ji88), (by first | rfl | (simp; done) | (simp only [← hji88] <;> (first | rfl | simp)) | (simp [*]; done)), H', ⟨by have := HJ3.out; have := HJ14.out; have := HK3.out; have := HK4.out; have := HK5.out; omega⟩, ⟨by (with_reducible repeat (first | apply Kd.R_alloc | apply Kd.R_drewN | apply Kd.R_drew)); exact Kd.R_mono (Kd.R_far (p := ⟨gb192, 4, none⟩) (Kd.R_far (p := ⟨gb192, 3, none⟩) (Kd.R_far (p := ⟨gb192, 2, none⟩) (Kd.R_far (p := ⟨gb192, 1, none⟩) (Kd.R_far (p := ⟨gb192, 0, none⟩) (Kd.R_types HO_10.out BK192.out (by decide)) (fun _ hk => hk.2) (.int .i64 ((rd_T53 (rd_L3 l0_1 x8_3) x14_5).f0))) (fun _ hk => hk.2) (.int .i64 ((rd_T53 (rd_L3 l0_1 x8_3) x14_5).f1))) (fun _ hk => hk.2) (.int .i64 ((rd_T53 (rd_L3 l0_1 x8_3) x14_5).f2))) (fun _ hk => hk.2) (.int .i64 ((rd_T53 (rd_L3 l0_1 x8_3) x14_5).f3))) (fun _ hk => hk.2) (.int .i64 ((rd_T53 (rd_L3 l0_1 x8_3) x14_5).f4))) (fun _ hk => hk.1)⟩, ⟨trivial⟩, ⟨trivial⟩, ⟨by exact bf5_ BK160.out NB160_192.out⟩, ⟨by exact bf5_ BK169.out NB169_192.out⟩, ⟨hb_ HB.out⟩⟩
       rw [if_pos c91] at H
       have c91b0 : decide (8 ≤ ((rd_T53 (rd_L3 l0_1 x8_3) x14_5).f0)) = true := decide_eq_true c91
       clear c91
       obtain ⟨ji92, hji92⟩ : ∃ j_ : Int, (wrap64 ((rd y186 (ji88)) - 1)) = j_ := ⟨_, rfl⟩
       replace H : (if 0 ≤ (ji92) then (if (ji92) < ((rd_L3 t166 x8_3).length : Int) then (if 0 ≤ ((rd_T53 (rd_L3 l0_1 x8_3) x14_5).f4) then (if ((rd_T53 (rd_L3 l0_1 x8_3) x14_5).f4) < (y186.length : Int) then (if ((rd_T53 (rd_L3 t166 x8_3) (ji92)).f4) = (rd y186 ((rd_T53 (rd_L3 l0_1 x8_3) x14_5).f4)) then (fencepostlaw08_SlotsLands.l2 k5 l1 t161 x7_4 x8_3 (rd_L3 t166 x8_3) y186 ji88 l0_0 l0_1 t163 t166) else (some false)) else (none)) else (none)) else (none)) else (none)) = some r := by first | (rw [hji92] at H; exact H) | (simp only [hji92] at H ⊢; exact H)
       have hji92w : (IntKind.i64.wrap ((rd y186 (ji88)) - 1)) = ji92 := (i64_w _).trans hji92
       by_cases c93 : 0 ≤ (ji92)
       rotate_left
       ·rw [if_neg c93] at H
        exact absurd H (by simp)
       rw [if_pos c93] at H
       have c93b0 : decide (0 ≤ (ji92)) = true := decide_eq_true c93
       clear c93
       by_cases c94 : (ji92) < ((rd_L3 t166 x8_3).length : Int)
       rotate_left
       ·rw [if_neg c94] at H
        exact absurd H (by simp)
       rw [if_pos c94] at H
       have c94b0 : decide ((ji92) < ((rd_L3 t166 x8_3).length : Int)) = true := decide_eq_true c94
       clear c94
       by_cases c95 : 0 ≤ ((rd_T53 (rd_L3 l0_1 x8_3) x14_5).f4)
       rotate_left
       ·rw [if_neg c95] at H
        exact absurd H (by simp)
       rw [if_pos c95] at H
       have c95b0 : decide (0 ≤ ((rd_T53 (rd_L3 l0_1 x8_3) x14_5).f4)) = true := decide_eq_true c95
       clear c95
       by_cases c96 : ((rd_T53 (rd_L3 l0_1 x8_3) x14_5).f4) < (y186.length : Int)
       rotate_left
       ·rw [if_neg c96] at H
        exact absurd H (by simp)
       rw [if_pos c96] at H
       have c96b0 : decide (((rd_T53 (rd_L3 l0_1 x8_3) x14_5).f4) < (y186.length : Int)) = true := decide_eq_true c96
       clear c96
       by_cases c97 : ((rd_T53 (rd_L3 t166 x8_3) (ji92)).f4) = (rd y186 ((rd_T53 (rd_L3 l0_1 x8_3) x14_5).f4))
       rotate_left
       ·rw [if_neg c97] at H
        have c97b0 : (((rd_T53 (rd_L3 t166 x8_3) (ji92)).f4) == (rd y186 ((rd_T53 (rd_L3 l0_1 x8_3) x14_5).f4))) = false := beq_eq_false_iff_ne.mpr c97
        have c97b1 : (((rd_T53 (rd_L3 t166 x8_3) (ji92)).f4) != (rd y186 ((rd_T53 (rd_L3 l0_1 x8_3) x14_5).f4))) = true := bne_iff_ne.mpr c97
        exact absurd ((Option.some.inj H).trans HT.out) (by simp)
       rw [if_pos c97] at H
       have c97b0 : (((rd_T53 (rd_L3 t166 x8_3) (ji92)).f4) == (rd y186 ((rd_T53 (rd_L3 l0_1 x8_3) x14_5).f4))) = true := beq_iff_eq.mpr c97
       have c97b1 : (((rd_T53 (rd_L3 t166 x8_3) (ji92)).f4) != (rd y186 ((rd_T53 (rd_L3 l0_1 x8_3) x14_5).f4))) = false := bne_eq_false_iff_eq.mpr c97
       clear c97
       have H' := Aside0.mk H
       clear H
       have hnb98 := NB160_169.out
       have hnc98 := NB169_160.out
       have hcz99_0 : wr.cell? ⟨gb160, 0, none⟩ = some (.slice A0_0 l0_0.length c0_0) := (blk_cell BK160.out 0).trans rfl
       have hcz99_1 : wr.cell? ⟨gb160, 1, none⟩ = some (.slice (some ad172) l0_1.length c0_1) := (blk_cell BK160.out 1).trans rfl
       have hfz99_0 := blk_frozen BK160.out 0
       have hfz99_1 := blk_frozen BK160.out 1
       have p189 : 0 ≤ (x8_3 : Int) := of_decide_eq_true as_
       have q189 : x8_3 < (l0_1.length : Int) := of_decide_eq_true as_
       obtain ⟨ad189, A189_0, c189_0, e189, hx189_0, hl189_0, hi189_0⟩ := at_L3 HR0_1.out x8_3 p189 q189
       obtain rfl : ad172 = ad189 := (by injection e189)
       replace hx189_0 := cl_ HB.out hx189_0
       have HR189_0 := Aside0.mk hi189_0
       have HC189_0 := Aside0.mk hl189_0
       clear hi189_0 hl189_0
       replace p189 := eq_true p189
       replace q189 := eq_true q189
       have p190 : 0 ≤ (x8_3 : Int) := of_decide_eq_true as_
       have q190 : x8_3 < (l0_1.length : Int) := of_decide_eq_true as_
       obtain ⟨ad190, A190_0, c190_0, e190, hx190_0, hl190_0, hi190_0⟩ := at_L3 HR0_1.out x8_3 p190 q190
       obtain rfl : ad172 = ad190 := (by injection e190)
       replace hx190_0 := cl_ HB.out hx190_0
       have HR190_0 := Aside0.mk hi190_0
       have HC190_0 := Aside0.mk hl190_0
       clear hi190_0 hl190_0
       replace p190 := eq_true p190
       replace q190 := eq_true q190
       have ea_ := Option.some.inj (hx189_0.symm.trans hx190_0)
       injection ea_ with ea_ en_ ec_
       subst ea_
       subst ec_
       clear en_
       have p191 : 0 ≤ (x14_5 : Int) := of_decide_eq_true as_
       have q191 : x14_5 < ((rd_L3 l0_1 x8_3).length : Int) := of_decide_eq_true as_
       obtain ⟨ad191, e191, hx191_0, hx191_1, hx191_2, hx191_3, hx191_4⟩ := at_T53 HR190_0.out x14_5 p191 q191
       cases e191
       replace hx191_0 := cl_ HB.out hx191_0
       replace hx191_1 := cl_ HB.out hx191_1
       replace hx191_2 := cl_ HB.out hx191_2
       replace hx191_3 := cl_ HB.out hx191_3
       replace hx191_4 := cl_ HB.out hx191_4
       replace p191 := eq_true p191
       replace q191 := eq_true q191
       go_wp2_with (first | ((with_reducible refine gate_dst (N := 15) rfl ?_); (try (refine gate_guard (by rfl) ?_; dsimp only)); refine box_event ?hg (N := 15) ?hd (cs := #[.int .i64 0, .int .i64 0, .int .i64 0, .int .i64 0, .int .i64 0]) (t := 53) ?hr ?_; (case hd => rfl); (case hg => rfl); (case hr => first | (go_simp; done) | (go_simp; rfl)); intro gb192 hg w100 hbox hb; have n0_ := Aside0.mk (Kd.R_below (rd_ HO_10.out) hb); have n1_ : Aside0 True := ⟨trivial⟩; have n2_ : Aside0 True := ⟨trivial⟩; have n3_ := Aside0.mk (bb_ BK160.out hb); have n4_ := Aside0.mk (bb_ BK169.out hb); have n5_ := Aside0.mk (below_step (hb_ HB.out) hb); have n6_ := Aside0.mk (hbox); have n7_ := Aside0.mk (gs_ hg (hb_ HB.out)); have n8_ := Aside0.mk (gs_ hg (hb_ HB.out)); have n9_ := Aside0.mk (gn_ hg BK160.out); have n10_ := Aside0.mk (gn_ hg BK160.out).symm; have n11_ := Aside0.mk (gn_ hg BK169.out); have n12_ := Aside0.mk (gn_ hg BK169.out).symm; clear HO_10; clear HO_170000; clear HO_170001; clear BK160; clear BK169; clear HB; have HO_10 := n0_; have HO_170000 := n1_; have HO_170001 := n2_; have BK160 := n3_; have BK169 := n4_; have HB := n5_; have BK192 := n6_; have GW192 := n7_; have GE192 := n8_; have NB160_192 := n9_; have NB192_160 := n10_; have NB169_192 := n11_; have NB192_169 := n12_; clear n0_ n1_ n2_ n3_ n4_ n5_ n6_ n7_ n8_ n9_ n10_ n11_ n12_; clear hb hbox hg; have hnb101 := NB192_160.out; have hnc101 := NB160_192.out; have hnb102 := NB192_169.out; have hnc102 := NB169_192.out; have hcz103_0 : w100.cell? ⟨gb192, 0, none⟩ = some (.int .i64 0) := (blk_cell BK192.out 0).trans rfl; have hcz103_1 : w100.cell? ⟨gb192, 1, none⟩ = some (.int .i64 0) := (blk_cell BK192.out 1).trans rfl; have hcz103_2 : w100.cell? ⟨gb192, 2, none⟩ = some (.int .i64 0) := (blk_cell BK192.out 2).trans rfl; have hcz103_3 : w100.cell? ⟨gb192, 3, none⟩ = some (.int .i64 0) := (blk_cell BK192.out 3).trans rfl; have hcz103_4 : w100.cell? ⟨gb192, 4, none⟩ = some (.int .i64 0) := (blk_cell BK192.out 4).trans rfl; have hfz103_0 := blk_frozen BK192.out 0; have hfz103_1 := blk_frozen BK192.out 1; have hfz103_2 := blk_frozen BK192.out 2; have hfz103_3 := blk_frozen BK192.out 3; have hfz103_4 := blk_frozen BK192.out 4; obtain ⟨Ao104, co104, eo104⟩ := Kd.R_slice HO_10.out; subst eo104; have p193 : 0 ≤ ((ji88) : Int) := of_decide_eq_true as_; have q193 : (ji88) < (y186.length : Int) := of_decide_eq_true as_; obtain ⟨ad193, e193, hx193_0⟩ := Kd.at_int (Kd.R_reads' HO_10.out).2.2 (ji88) p193 q193; cases e193; have hn193_0 : ad193.block ≠ gb192 := Kd.own_blk (Kd.R_ne HO_10.out BK192.out (by decide)); have hn193_1 : ad193.block ≠ gb192 := Kd.own_blk (Kd.R_ne HO_10.out BK192.out (by decide)); have hn193_2 : ad193.block ≠ gb192 := Kd.own_blk (Kd.R_ne HO_10.out BK192.out (by decide)); have hn193_3 : ad193.block ≠ gb192 := Kd.own_blk (Kd.R_ne HO_10.out BK192.out (by decide)); have hn193_4 : ad193.block ≠ gb192 := Kd.own_blk (Kd.R_ne HO_10.out BK192.out (by decide)); replace hx193_0 := (cell_far (p := ⟨gb192, 0, none⟩) (ne_ hn193_0) (.int .i64 ((rd_T53 (rd_L3 l0_1 x8_3) x14_5).f0))).trans hx193_0; replace hx193_0 := (cell_far (p := ⟨gb192, 1, none⟩) (ne_ hn193_1) (.int .i64 ((rd_T53 (rd_L3 l0_1 x8_3) x14_5).f1))).trans hx193_0; replace hx193_0 := (cell_far (p := ⟨gb192, 2, none⟩) (ne_ hn193_2) (.int .i64 ((rd_T53 (rd_L3 l0_1 x8_3) x14_5).f2))).trans hx193_0; replace hx193_0 := (cell_far (p := ⟨gb192, 3, none⟩) (ne_ hn193_3) (.int .i64 ((rd_T53 (rd_L3 l0_1 x8_3) x14_5).f3))).trans hx193_0; replace hx193_0 := (cell_far (p := ⟨gb192, 4, none⟩) (ne_ hn193_4) (.int .i64 ((rd_T53 (rd_L3 l0_1 x8_3) x14_5).f4))).trans hx193_0; (try have hy193_0 := hy5_ hx193_0); clear hn193_0; clear hn193_1; clear hn193_2; clear hn193_3; clear hn193_4; replace p193 := eq_true p193; replace q193 := eq_true q193; have p194 : 0 ≤ ((ji92) : Int) := of_decide_eq_true as_; have q194 : (ji92) < ((rd_L3 t166 x8_3).length : Int) := of_decide_eq_true as_; obtain ⟨ad194, e194, hx194_0, hx194_1, hx194_2, hx194_3, hx194_4⟩ := at_T53 HR171_0.out (ji92) p194 q194; cases e194; have hn194_0 : ad194.block ≠ gb192 := Nat.ne_of_lt (bk_ hx194_0 GW192.out); have hn194_1 : ad194.block ≠ gb192 := Nat.ne_of_lt (bk_ hx194_0 GW192.out); have hn194_2 : ad194.block ≠ gb192 := Nat.ne_of_lt (bk_ hx194_0 GW192.out); have hn194_3 : ad194.block ≠ gb192 := Nat.ne_of_lt (bk_ hx194_0 GW192.out); have hn194_4 : ad194.block ≠ gb192 := Nat.ne_of_lt (bk_ hx194_0 GW192.out); replace hx194_0 := cl_ HB.out hx194_0; replace hx194_1 := cl_ HB.out hx194_1; replace hx194_2 := cl_ HB.out hx194_2; replace hx194_3 := cl_ HB.out hx194_3; replace hx194_4 := cl_ HB.out hx194_4; replace hx194_0 := (cell_far (p := ⟨gb192, 0, none⟩) (ne_ hn194_0) (.int .i64 ((rd_T53 (rd_L3 l0_1 x8_3) x14_5).f0))).trans hx194_0; replace hx194_1 := (cell_far (p := ⟨gb192, 0, none⟩) (ne_ hn194_0) (.int .i64 ((rd_T53 (rd_L3 l0_1 x8_3) x14_5).f0))).trans hx194_1; replace hx194_2 := (cell_far (p := ⟨gb192, 0, none⟩) (ne_ hn194_0) (.int .i64 ((rd_T53 (rd_L3 l0_1 x8_3) x14_5).f0))).trans hx194_2; replace hx194_3 := (cell_far (p := ⟨gb192, 0, none⟩) (ne_ hn194_0) (.int .i64 ((rd_T53 (rd_L3 l0_1 x8_3) x14_5).f0))).trans hx194_3; replace hx194_4 := (cell_far (p := ⟨gb192, 0, none⟩) (ne_ hn194_0) (.int .i64 ((rd_T53 (rd_L3 l0_1 x8_3) x14_5).f0))).trans hx194_4; replace hx194_0 := (cell_far (p := ⟨gb192, 1, none⟩) (ne_ hn194_1) (.int .i64 ((rd_T53 (rd_L3 l0_1 x8_3) x14_5).f1))).trans hx194_0; replace hx194_1 := (cell_far (p := ⟨gb192, 1, none⟩) (ne_ hn194_1) (.int .i64 ((rd_T53 (rd_L3 l0_1 x8_3) x14_5).f1))).trans hx194_1; replace hx194_2 := (cell_far (p := ⟨gb192, 1, none⟩) (ne_ hn194_1) (.int .i64 ((rd_T53 (rd_L3 l0_1 x8_3) x14_5).f1))).trans hx194_2; replace hx194_3 := (cell_far (p := ⟨gb192, 1, none⟩) (ne_ hn194_1) (.int .i64 ((rd_T53 (rd_L3 l0_1 x8_3) x14_5).f1))).trans hx194_3; replace hx194_4 := (cell_far (p := ⟨gb192, 1, none⟩) (ne_ hn194_1) (.int .i64 ((rd_T53 (rd_L3 l0_1 x8_3) x14_5).f1))).trans hx194_4; replace hx194_0 := (cell_far (p := ⟨gb192, 2, none⟩) (ne_ hn194_2) (.int .i64 ((rd_T53 (rd_L3 l0_1 x8_3) x14_5).f2))).trans hx194_0; replace hx194_1 := (cell_far (p := ⟨gb192, 2, none⟩) (ne_ hn194_2) (.int .i64 ((rd_T53 (rd_L3 l0_1 x8_3) x14_5).f2))).trans hx194_1; replace hx194_2 := (cell_far (p := ⟨gb192, 2, none⟩) (ne_ hn194_2) (.int .i64 ((rd_T53 (rd_L3 l0_1 x8_3) x14_5).f2))).trans hx194_2; replace hx194_3 := (cell_far (p := ⟨gb192, 2, none⟩) (ne_ hn194_2) (.int .i64 ((rd_T53 (rd_L3 l0_1 x8_3) x14_5).f2))).trans hx194_3; replace hx194_4 := (cell_far (p := ⟨gb192, 2, none⟩) (ne_ hn194_2) (.int .i64 ((rd_T53 (rd_L3 l0_1 x8_3) x14_5).f2))).trans hx194_4; replace hx194_0 := (cell_far (p := ⟨gb192, 3, none⟩) (ne_ hn194_3) (.int .i64 ((rd_T53 (rd_L3 l0_1 x8_3) x14_5).f3))).trans hx194_0; replace hx194_1 := (cell_far (p := ⟨gb192, 3, none⟩) (ne_ hn194_3) (.int .i64 ((rd_T53 (rd_L3 l0_1 x8_3) x14_5).f3))).trans hx194_1; replace hx194_2 := (cell_far (p := ⟨gb192, 3, none⟩) (ne_ hn194_3) (.int .i64 ((rd_T53 (rd_L3 l0_1 x8_3) x14_5).f3))).trans hx194_2; replace hx194_3 := (cell_far (p := ⟨gb192, 3, none⟩) (ne_ hn194_3) (.int .i64 ((rd_T53 (rd_L3 l0_1 x8_3) x14_5).f3))).trans hx194_3; replace hx194_4 := (cell_far (p := ⟨gb192, 3, none⟩) (ne_ hn194_3) (.int .i64 ((rd_T53 (rd_L3 l0_1 x8_3) x14_5).f3))).trans hx194_4; replace hx194_0 := (cell_far (p := ⟨gb192, 4, none⟩) (ne_ hn194_4) (.int .i64 ((rd_T53 (rd_L3 l0_1 x8_3) x14_5).f4))).trans hx194_0; replace hx194_1 := (cell_far (p := ⟨gb192, 4, none⟩) (ne_ hn194_4) (.int .i64 ((rd_T53 (rd_L3 l0_1 x8_3) x14_5).f4))).trans hx194_1; replace hx194_2 := (cell_far (p := ⟨gb192, 4, none⟩) (ne_ hn194_4) (.int .i64 ((rd_T53 (rd_L3 l0_1 x8_3) x14_5).f4))).trans hx194_2; replace hx194_3 := (cell_far (p := ⟨gb192, 4, none⟩) (ne_ hn194_4) (.int .i64 ((rd_T53 (rd_L3 l0_1 x8_3) x14_5).f4))).trans hx194_3; replace hx194_4 := (cell_far (p := ⟨gb192, 4, none⟩) (ne_ hn194_4) (.int .i64 ((rd_T53 (rd_L3 l0_1 x8_3) x14_5).f4))).trans hx194_4; (try have hy194_0 := hy5_ hx194_0); (try have hy194_1 := hy5_ hx194_1); (try have hy194_2 := hy5_ hx194_2); (try have hy194_3 := hy5_ hx194_3); (try have hy194_4 := hy5_ hx194_4); clear hn194_0; clear hn194_1; clear hn194_2; clear hn194_3; clear hn194_4; replace p194 := eq_true p194; replace q194 := eq_true q194; have p195 : 0 ≤ (((rd_T53 (rd_L3 l0_1 x8_3) x14_5).f4) : Int) := of_decide_eq_true as_; have q195 : ((rd_T53 (rd_L3 l0_1 x8_3) x14_5).f4) < (y186.length : Int) := of_decide_eq_true as_; obtain ⟨ad195, e195, hx195_0⟩ := Kd.at_int (Kd.R_reads' HO_10.out).2.2 ((rd_T53 (rd_L3 l0_1 x8_3) x14_5).f4) p195 q195; obtain rfl : ad193 = ad195 := (by injection e195); have hn195_0 : ad193.block ≠ gb192 := Kd.own_blk (Kd.R_ne HO_10.out BK192.out (by decide)); have hn195_1 : ad193.block ≠ gb192 := Kd.own_blk (Kd.R_ne HO_10.out BK192.out (by decide)); have hn195_2 : ad193.block ≠ gb192 := Kd.own_blk (Kd.R_ne HO_10.out BK192.out (by decide)); have hn195_3 : ad193.block ≠ gb192 := Kd.own_blk (Kd.R_ne HO_10.out BK192.out (by decide)); have hn195_4 : ad193.block ≠ gb192 := Kd.own_blk (Kd.R_ne HO_10.out BK192.out (by decide)); replace hx195_0 := (cell_far (p := ⟨gb192, 0, none⟩) (ne_ hn195_0) (.int .i64 ((rd_T53 (rd_L3 l0_1 x8_3) x14_5).f0))).trans hx195_0; replace hx195_0 := (cell_far (p := ⟨gb192, 1, none⟩) (ne_ hn195_1) (.int .i64 ((rd_T53 (rd_L3 l0_1 x8_3) x14_5).f1))).trans hx195_0; replace hx195_0 := (cell_far (p := ⟨gb192, 2, none⟩) (ne_ hn195_2) (.int .i64 ((rd_T53 (rd_L3 l0_1 x8_3) x14_5).f2))).trans hx195_0; replace hx195_0 := (cell_far (p := ⟨gb192, 3, none⟩) (ne_ hn195_3) (.int .i64 ((rd_T53 (rd_L3 l0_1 x8_3) x14_5).f3))).trans hx195_0; replace hx195_0 := (cell_far (p := ⟨gb192, 4, none⟩) (ne_ hn195_4) (.int .i64 ((rd_T53 (rd_L3 l0_1 x8_3) x14_5).f4))).trans hx195_0; (try have hy195_0 := hy5_ hx195_0); clear hn195_0; clear hn195_1; clear hn195_2; clear hn195_3; clear hn195_4; replace p195 := eq_true p195; replace q195 := eq_true q195))
       repeat ((refine wp_region_quiet_lit (by decide +kernel) (by decide +kernel) ?_); (repeat (first | go_big_quiet_skip | (go_big_quiet_want; go_big_quiet_op; go_big_quiet_on))); refine wpQuiet_nil ?_; intro _ hw'; obtain ⟨nq, hw''⟩ := hw'; subst hw''; try go_wp2_with (first | ((with_reducible refine gate_dst (N := 15) rfl ?_); (try (refine gate_guard (by rfl) ?_; dsimp only)); refine box_event ?hg (N := 15) ?hd (cs := #[.int .i64 0, .int .i64 0, .int .i64 0, .int .i64 0, .int .i64 0]) (t := 53) ?hr ?_; (case hd => rfl); (case hg => rfl); (case hr => first | (go_simp; done) | (go_simp; rfl)); intro gb192 hg w100 hbox hb; have n0_ := Aside0.mk (Kd.R_below (rd_ HO_10.out) hb); have n1_ : Aside0 True := ⟨trivial⟩; have n2_ : Aside0 True := ⟨trivial⟩; have n3_ := Aside0.mk (bb_ BK160.out hb); have n4_ := Aside0.mk (bb_ BK169.out hb); have n5_ := Aside0.mk (below_step (hb_ HB.out) hb); have n6_ := Aside0.mk (hbox); have n7_ := Aside0.mk (gs_ hg (hb_ HB.out)); have n8_ := Aside0.mk (gs_ hg (hb_ HB.out)); have n9_ := Aside0.mk (gn_ hg BK160.out); have n10_ := Aside0.mk (gn_ hg BK160.out).symm; have n11_ := Aside0.mk (gn_ hg BK169.out); have n12_ := Aside0.mk (gn_ hg BK169.out).symm; clear HO_10; clear HO_170000; clear HO_170001; clear BK160; clear BK169; clear HB; have HO_10 := n0_; have HO_170000 := n1_; have HO_170001 := n2_; have BK160 := n3_; have BK169 := n4_; have HB := n5_; have BK192 := n6_; have GW192 := n7_; have GE192 := n8_; have NB160_192 := n9_; have NB192_160 := n10_; have NB169_192 := n11_; have NB192_169 := n12_; clear n0_ n1_ n2_ n3_ n4_ n5_ n6_ n7_ n8_ n9_ n10_ n11_ n12_; clear hb hbox hg; have hnb101 := NB192_160.out; have hnc101 := NB160_192.out; have hnb102 := NB192_169.out; have hnc102 := NB169_192.out; have hcz103_0 : w100.cell? ⟨gb192, 0, none⟩ = some (.int .i64 0) := (blk_cell BK192.out 0).trans rfl; have hcz103_1 : w100.cell? ⟨gb192, 1, none⟩ = some (.int .i64 0) := (blk_cell BK192.out 1).trans rfl; have hcz103_2 : w100.cell? ⟨gb192, 2, none⟩ = some (.int .i64 0) := (blk_cell BK192.out 2).trans rfl; have hcz103_3 : w100.cell? ⟨gb192, 3, none⟩ = some (.int .i64 0) := (blk_cell BK192.out 3).trans rfl; have hcz103_4 : w100.cell? ⟨gb192, 4, none⟩ = some (.int .i64 0) := (blk_cell BK192.out 4).trans rfl; have hfz103_0 := blk_frozen BK192.out 0; have hfz103_1 := blk_frozen BK192.out 1; have hfz103_2 := blk_frozen BK192.out 2; have hfz103_3 := blk_frozen BK192.out 3; have hfz103_4 := blk_frozen BK192.out 4; obtain ⟨Ao104, co104, eo104⟩ := Kd.R_slice HO_10.out; subst eo104; have p193 : 0 ≤ ((ji88) : Int) := of_decide_eq_true as_; have q193 : (ji88) < (y186.length : Int) := of_decide_eq_true as_; obtain ⟨ad193, e193, hx193_0⟩ := Kd.at_int (Kd.R_reads' HO_10.out).2.2 (ji88) p193 q193; cases e193; have hn193_0 : ad193.block ≠ gb192 := Kd.own_blk (Kd.R_ne HO_10.out BK192.out (by decide)); have hn193_1 : ad193.block ≠ gb192 := Kd.own_blk (Kd.R_ne HO_10.out BK192.out (by decide)); have hn193_2 : ad193.block ≠ gb192 := Kd.own_blk (Kd.R_ne HO_10.out BK192.out (by decide)); have hn193_3 : ad193.block ≠ gb192 := Kd.own_blk (Kd.R_ne HO_10.out BK192.out (by decide)); have hn193_4 : ad193.block ≠ gb192 := Kd.own_blk (Kd.R_ne HO_10.out BK192.out (by decide)); replace hx193_0 := (cell_far (p := ⟨gb192, 0, none⟩) (ne_ hn193_0) (.int .i64 ((rd_T53 (rd_L3 l0_1 x8_3) x14_5).f0))).trans hx193_0; replace hx193_0 := (cell_far (p := ⟨gb192, 1, none⟩) (ne_ hn193_1) (.int .i64 ((rd_T53 (rd_L3 l0_1 x8_3) x14_5).f1))).trans hx193_0; replace hx193_0 := (cell_far (p := ⟨gb192, 2, none⟩) (ne_ hn193_2) (.int .i64 ((rd_T53 (rd_L3 l0_1 x8_3) x14_5).f2))).trans hx193_0; replace hx193_0 := (cell_far (p := ⟨gb192, 3, none⟩) (ne_ hn193_3) (.int .i64 ((rd_T53 (rd_L3 l0_1 x8_3) x14_5).f3))).trans hx193_0; replace hx193_0 := (cell_far (p := ⟨gb192, 4, none⟩) (ne_ hn193_4) (.int .i64 ((rd_T53 (rd_L3 l0_1 x8_3) x14_5).f4))).trans hx193_0; (try have hy193_0 := hy5_ hx193_0); clear hn193_0; clear hn193_1; clear hn193_2; clear hn193_3; clear hn193_4; replace p193 := eq_true p193; replace q193 := eq_true q193; have p194 : 0 ≤ ((ji92) : Int) := of_decide_eq_true as_; have q194 : (ji92) < ((rd_L3 t166 x8_3).length : Int) := of_decide_eq_true as_; obtain ⟨ad194, e194, hx194_0, hx194_1, hx194_2, hx194_3, hx194_4⟩ := at_T53 HR171_0.out (ji92) p194 q194; cases e194; have hn194_0 : ad194.block ≠ gb192 := Nat.ne_of_lt (bk_ hx194_0 GW192.out); have hn194_1 : ad194.block ≠ gb192 := Nat.ne_of_lt (bk_ hx194_0 GW192.out); have hn194_2 : ad194.block ≠ gb192 := Nat.ne_of_lt (bk_ hx194_0 GW192.out); have hn194_3 : ad194.block ≠ gb192 := Nat.ne_of_lt (bk_ hx194_0 GW192.out); have hn194_4 : ad194.block ≠ gb192 := Nat.ne_of_lt (bk_ hx194_0 GW192.out); replace hx194_0 := cl_ HB.out hx194_0; replace hx194_1 := cl_ HB.out hx194_1; replace hx194_2 := cl_ HB.out hx194_2; replace hx194_3 := cl_ HB.out hx194_3; replace hx194_4 := cl_ HB.out hx194_4; replace hx194_0 := (cell_far (p := ⟨gb192, 0, none⟩) (ne_ hn194_0) (.int .i64 ((rd_T53 (rd_L3 l0_1 x8_3) x14_5).f0))).trans hx194_0; replace hx194_1 := (cell_far (p := ⟨gb192, 0, none⟩) (ne_ hn194_0) (.int .i64 ((rd_T53 (rd_L3 l0_1 x8_3) x14_5).f0))).trans hx194_1; replace hx194_2 := (cell_far (p := ⟨gb192, 0, none⟩) (ne_ hn194_0) (.int .i64 ((rd_T53 (rd_L3 l0_1 x8_3) x14_5).f0))).trans hx194_2; replace hx194_3 := (cell_far (p := ⟨gb192, 0, none⟩) (ne_ hn194_0) (.int .i64 ((rd_T53 (rd_L3 l0_1 x8_3) x14_5).f0))).trans hx194_3; replace hx194_4 := (cell_far (p := ⟨gb192, 0, none⟩) (ne_ hn194_0) (.int .i64 ((rd_T53 (rd_L3 l0_1 x8_3) x14_5).f0))).trans hx194_4; replace hx194_0 := (cell_far (p := ⟨gb192, 1, none⟩) (ne_ hn194_1) (.int .i64 ((rd_T53 (rd_L3 l0_1 x8_3) x14_5).f1))).trans hx194_0; replace hx194_1 := (cell_far (p := ⟨gb192, 1, none⟩) (ne_ hn194_1) (.int .i64 ((rd_T53 (rd_L3 l0_1 x8_3) x14_5).f1))).trans hx194_1; replace hx194_2 := (cell_far (p := ⟨gb192, 1, none⟩) (ne_ hn194_1) (.int .i64 ((rd_T53 (rd_L3 l0_1 x8_3) x14_5).f1))).trans hx194_2; replace hx194_3 := (cell_far (p := ⟨gb192, 1, none⟩) (ne_ hn194_1) (.int .i64 ((rd_T53 (rd_L3 l0_1 x8_3) x14_5).f1))).trans hx194_3; replace hx194_4 := (cell_far (p := ⟨gb192, 1, none⟩) (ne_ hn194_1) (.int .i64 ((rd_T53 (rd_L3 l0_1 x8_3) x14_5).f1))).trans hx194_4; replace hx194_0 := (cell_far (p := ⟨gb192, 2, none⟩) (ne_ hn194_2) (.int .i64 ((rd_T53 (rd_L3 l0_1 x8_3) x14_5).f2))).trans hx194_0; replace hx194_1 := (cell_far (p := ⟨gb192, 2, none⟩) (ne_ hn194_2) (.int .i64 ((rd_T53 (rd_L3 l0_1 x8_3) x14_5).f2))).trans hx194_1; replace hx194_2 := (cell_far (p := ⟨gb192, 2, none⟩) (ne_ hn194_2) (.int .i64 ((rd_T53 (rd_L3 l0_1 x8_3) x14_5).f2))).trans hx194_2; replace hx194_3 := (cell_far (p := ⟨gb192, 2, none⟩) (ne_ hn194_2) (.int .i64 ((rd_T53 (rd_L3 l0_1 x8_3) x14_5).f2))).trans hx194_3; replace hx194_4 := (cell_far (p := ⟨gb192, 2, none⟩) (ne_ hn194_2) (.int .i64 ((rd_T53 (rd_L3 l0_1 x8_3) x14_5).f2))).trans hx194_4; replace hx194_0 := (cell_far (p := ⟨gb192, 3, none⟩) (ne_ hn194_3) (.int .i64 ((rd_T53 (rd_L3 l0_1 x8_3) x14_5).f3))).trans hx194_0; replace hx194_1 := (cell_far (p := ⟨gb192, 3, none⟩) (ne_ hn194_3) (.int .i64 ((rd_T53 (rd_L3 l0_1 x8_3) x14_5).f3))).trans hx194_1; replace hx194_2 := (cell_far (p := ⟨gb192, 3, none⟩) (ne_ hn194_3) (.int .i64 ((rd_T53 (rd_L3 l0_1 x8_3) x14_5).f3))).trans hx194_2; replace hx194_3 := (cell_far (p := ⟨gb192, 3, none⟩) (ne_ hn194_3) (.int .i64 ((rd_T53 (rd_L3 l0_1 x8_3) x14_5).f3))).trans hx194_3; replace hx194_4 := (cell_far (p := ⟨gb192, 3, none⟩) (ne_ hn194_3) (.int .i64 ((rd_T53 (rd_L3 l0_1 x8_3) x14_5).f3))).trans hx194_4; replace hx194_0 := (cell_far (p := ⟨gb192, 4, none⟩) (ne_ hn194_4) (.int .i64 ((rd_T53 (rd_L3 l0_1 x8_3) x14_5).f4))).trans hx194_0; replace hx194_1 := (cell_far (p := ⟨gb192, 4, none⟩) (ne_ hn194_4) (.int .i64 ((rd_T53 (rd_L3 l0_1 x8_3) x14_5).f4))).trans hx194_1; replace hx194_2 := (cell_far (p := ⟨gb192, 4, none⟩) (ne_ hn194_4) (.int .i64 ((rd_T53 (rd_L3 l0_1 x8_3) x14_5).f4))).trans hx194_2; replace hx194_3 := (cell_far (p := ⟨gb192, 4, none⟩) (ne_ hn194_4) (.int .i64 ((rd_T53 (rd_L3 l0_1 x8_3) x14_5).f4))).trans hx194_3; replace hx194_4 := (cell_far (p := ⟨gb192, 4, none⟩) (ne_ hn194_4) (.int .i64 ((rd_T53 (rd_L3 l0_1 x8_3) x14_5).f4))).trans hx194_4; (try have hy194_0 := hy5_ hx194_0); (try have hy194_1 := hy5_ hx194_1); (try have hy194_2 := hy5_ hx194_2); (try have hy194_3 := hy5_ hx194_3); (try have hy194_4 := hy5_ hx194_4); clear hn194_0; clear hn194_1; clear hn194_2; clear hn194_3; clear hn194_4; replace p194 := eq_true p194; replace q194 := eq_true q194; have p195 : 0 ≤ (((rd_T53 (rd_L3 l0_1 x8_3) x14_5).f4) : Int) := of_decide_eq_true as_; have q195 : ((rd_T53 (rd_L3 l0_1 x8_3) x14_5).f4) < (y186.length : Int) := of_decide_eq_true as_; obtain ⟨ad195, e195, hx195_0⟩ := Kd.at_int (Kd.R_reads' HO_10.out).2.2 ((rd_T53 (rd_L3 l0_1 x8_3) x14_5).f4) p195 q195; obtain rfl : ad193 = ad195 := (by injection e195); have hn195_0 : ad193.block ≠ gb192 := Kd.own_blk (Kd.R_ne HO_10.out BK192.out (by decide)); have hn195_1 : ad193.block ≠ gb192 := Kd.own_blk (Kd.R_ne HO_10.out BK192.out (by decide)); have hn195_2 : ad193.block ≠ gb192 := Kd.own_blk (Kd.R_ne HO_10.out BK192.out (by decide)); have hn195_3 : ad193.block ≠ gb192 := Kd.own_blk (Kd.R_ne HO_10.out BK192.out (by decide)); have hn195_4 : ad193.block ≠ gb192 := Kd.own_blk (Kd.R_ne HO_10.out BK192.out (by decide)); replace hx195_0 := (cell_far (p := ⟨gb192, 0, none⟩) (ne_ hn195_0) (.int .i64 ((rd_T53 (rd_L3 l0_1 x8_3) x14_5).f0))).trans hx195_0; replace hx195_0 := (cell_far (p := ⟨gb192, 1, none⟩) (ne_ hn195_1) (.int .i64 ((rd_T53 (rd_L3 l0_1 x8_3) x14_5).f1))).trans hx195_0; replace hx195_0 := (cell_far (p := ⟨gb192, 2, none⟩) (ne_ hn195_2) (.int .i64 ((rd_T53 (rd_L3 l0_1 x8_3) x14_5).f2))).trans hx195_0; replace hx195_0 := (cell_far (p := ⟨gb192, 3, none⟩) (ne_ hn195_3) (.int .i64 ((rd_T53 (rd_L3 l0_1 x8_3) x14_5).f3))).trans hx195_0; replace hx195_0 := (cell_far (p := ⟨gb192, 4, none⟩) (ne_ hn195_4) (.int .i64 ((rd_T53 (rd_L3 l0_1 x8_3) x14_5).f4))).trans hx195_0; (try have hy195_0 := hy5_ hx195_0); clear hn195_0; clear hn195_1; clear hn195_2; clear hn195_3; clear hn195_4; replace p195 := eq_true p195; replace q195 := eq_true q195)))
       go_roundg k5
       case measure => have := HJ3.out; have := HJ14.out; have := HK3.out; have := HK4.out; have := HK5.out; omega
       case rel => exact ⟨(ji88), (by first | rfl | (simp; done) | (simp only [← hji88] <;> (first | rfl | simp)) | (simp [*]; done)), H', ⟨by have := HJ3.out; have := HJ14.out; have := HK3.out; have := HK4.out; have := HK5.out; omega⟩, ⟨by (with_reducible repeat (first | apply Kd.R_alloc | apply Kd.R_drewN | apply Kd.R_drew)); exact Kd.R_mono (Kd.R_far (p := ⟨gb192, 4, none⟩) (Kd.R_far (p := ⟨gb192, 3, none⟩) (Kd.R_far (p := ⟨gb192, 2, none⟩) (Kd.R_far (p := ⟨gb192, 1, none⟩) (Kd.R_far (p := ⟨gb192, 0, none⟩) (Kd.R_types HO_10.out BK192.out (by decide)) (fun _ hk => hk.2) (.int .i64 ((rd_T53 (rd_L3 l0_1 x8_3) x14_5).f0))) (fun _ hk => hk.2) (.int .i64 ((rd_T53 (rd_L3 l0_1 x8_3) x14_5).f1))) (fun _ hk => hk.2) (.int .i64 ((rd_T53 (rd_L3 l0_1 x8_3) x14_5).f2))) (fun _ hk => hk.2) (.int .i64 ((rd_T53 (rd_L3 l0_1 x8_3) x14_5).f3))) (fun _ hk => hk.2) (.int .i64 ((rd_T53 (rd_L3 l0_1 x8_3) x14_5).f4))) (fun _ hk => hk.1)⟩, ⟨trivial⟩, ⟨trivial⟩, ⟨by exact bf5_ BK160.out NB160_192.out⟩, ⟨by exact bf5_ BK169.out NB169_192.out⟩, ⟨hb_ HB.out⟩⟩
     rw [if_pos c41] at H
     have c41b0 : decide (x12_4 < ((rd_L3 l0_1 x8_3).length : Int)) = true := decide_eq_true c41
     clear c41
     by_cases c42 : x10_4.length < 17592186044416
     rotate_left
     ·rw [if_neg c42] at H
      exact absurd H (by simp)
     rw [if_pos c42] at H
     have LMc42 := Aside0.mk c42
     clear c42
     obtain ⟨y173, hy173⟩ : ∃ y_ : List Int, y_ = (x10_4 ++ [x11_4]) := ⟨_, rfl⟩
     replace H : ((fencepostref08_Has.f k4 l1 x7_4).bind fun t176 => (if t176 = true then (if x11_4 ≥ ((rd_L3 t166 x8_3).length : Int) then (some false) else (if 0 ≤ x11_4 then (if x11_4 < ((rd_L3 t166 x8_3).length : Int) then (if (!(((rd_T53 (rd_L3 t166 x8_3) x11_4).f0) == 6) || (!(((rd_T53 (rd_L3 t166 x8_3) x11_4).f1) == 0) || (!(((rd_T53 (rd_L3 t166 x8_3) x11_4).f2) == 0) || (!(((rd_T53 (rd_L3 t166 x8_3) x11_4).f3) == 0) || (!(((rd_T53 (rd_L3 t166 x8_3) x11_4).f4) == 0)))))) = true then (some false) else (fencepostlaw08_SlotsLands.j4 k4 l1 t161 x7_4 x8_3 (rd_L3 t166 x8_3) y173 (wrap64 (x11_4 + 1)) x12_4 l0_0 l0_1 t163 t166)) else (none)) else (none))) else (fencepostlaw08_SlotsLands.j4 k4 l1 t161 x7_4 x8_3 (rd_L3 t166 x8_3) y173 x11_4 x12_4 l0_0 l0_1 t163 t166))) = some r := by first | (rw [hy173]; with_reducible exact H) | (have H2_ := (Option.bind_some _ _).symm.trans H; rw [hy173]; with_reducible exact H2_) | (have H2_ := (Option.bind_some _ _).symm.trans H; with_reducible exact H2_) | with_reducible exact H | (rw [hy173]; exact H) | exact H
     have Ny173 := Aside0.mk hy173
     clear hy173
     replace H := Option.bind_eq_some_iff.mp H
     obtain ⟨t176, A430, H⟩ := H
     replace H : (if t176 = true then (if x11_4 ≥ ((rd_L3 t166 x8_3).length : Int) then (some false) else (if 0 ≤ x11_4 then (if x11_4 < ((rd_L3 t166 x8_3).length : Int) then (if (!(((rd_T53 (rd_L3 t166 x8_3) x11_4).f0) == 6) || (!(((rd_T53 (rd_L3 t166 x8_3) x11_4).f1) == 0) || (!(((rd_T53 (rd_L3 t166 x8_3) x11_4).f2) == 0) || (!(((rd_T53 (rd_L3 t166 x8_3) x11_4).f3) == 0) || (!(((rd_T53 (rd_L3 t166 x8_3) x11_4).f4) == 0)))))) = true then (some false) else (fencepostlaw08_SlotsLands.j4 k4 l1 t161 x7_4 x8_3 (rd_L3 t166 x8_3) y173 (wrap64 (x11_4 + 1)) x12_4 l0_0 l0_1 t163 t166)) else (none)) else (none))) else (fencepostlaw08_SlotsLands.j4 k4 l1 t161 x7_4 x8_3 (rd_L3 t166 x8_3) y173 x11_4 x12_4 l0_0 l0_1 t163 t166)) = some r := H
     have A43 := Aside0.mk A430
     clear A430
     have HC44 := Aside0.mk H
     clear H
     have hnb45 := NB160_169.out
     have hnc45 := NB169_160.out
     have hcz46_0 : wr.cell? ⟨gb160, 0, none⟩ = some (.slice A0_0 l0_0.length c0_0) := (blk_cell BK160.out 0).trans rfl
     have hcz46_1 : wr.cell? ⟨gb160, 1, none⟩ = some (.slice A0_1 l0_1.length c0_1) := (blk_cell BK160.out 1).trans rfl
     have hfz46_0 := blk_frozen BK160.out 0
     have hfz46_1 := blk_frozen BK160.out 1
     have p172 : 0 ≤ (x8_3 : Int) := of_decide_eq_true as_
     have q172 : x8_3 < (l0_1.length : Int) := of_decide_eq_true as_
     obtain ⟨ad172, A172_0, c172_0, e172, hx172_0, hl172_0, hi172_0⟩ := at_L3 HR0_1.out x8_3 p172 q172
     cases e172
     replace hx172_0 := cl_ HB.out hx172_0
     have HR172_0 := Aside0.mk hi172_0
     have HC172_0 := Aside0.mk hl172_0
     clear hi172_0 hl172_0
     replace p172 := eq_true p172
     replace q172 := eq_true q172
     go_upto_if 74 with (first | ((with_reducible refine gate_builtin (b := .append) (xs := #[.tmp 68, .tmp 70]) rfl ?_); (try (refine gate_guard (by rfl) ?_; dsimp only)); at_builtin; refine Kd.R_append (Kd.int .i64) (w0 := w) w.heap.size rfl (.tmp 68) (.tmp 70) 22 3 (.int .i64 0) 8 rfl Try.underlying22 info3 rfl (by decide) (by omega) u10 x10_4 x11_4 [.int .i64 x11_4] (fun k_ => some k_ ≠ (.slice Ao19 t163.length co19 : Value).ownBlock) (fun _ => False) rfl rfl ?aP (fun _ hk => hk.elim) ?aF ?aO ?aB ?aS ?aL ?_; (case aP => exact rfl); (case aB => exact (hb_ HB.out)); (case aF => exact (fun k_ hk => Kd.fresh' (fun k h_ => Nat.lt_of_lt_of_le (HLQ.out k h_) (below_size (hb_ HB.out))) k_ hk)); (case aO => exact (rd_ HO_10.out)); (case aS => exact (below_size (hb_ HB.out))); (case aL => have := LMc42.out; omega); intro v174 w47 ho hb hg hat; rw [← Ny173.out] at ho; have n0_ : Aside0 True := ⟨trivial⟩; have n1_ : Aside0 True := ⟨trivial⟩; have n2_ := Aside0.mk (blk_grown (g := gb160) (o := .cells #[.slice A0_0 l0_0.length c0_0, .slice (some ad172) l0_1.length c0_1] 25 (0, 0)) (bd_ BK160.out) hg (Kd.R_ne HO_10.out BK160.out (by decide))); have n3_ := Aside0.mk (blk_grown (g := gb169) (o := .cells #[.slice Ao19 t163.length co19, .slice (some ad171) t166.length co22] 25 (0, 0)) (bd_ BK169.out) hg (Kd.R_ne HO_10.out BK169.out (by decide))); have n4_ := Aside0.mk (hb); have n5_ := Aside0.mk (ho); clear HO_170000; clear HO_170001; clear BK160; clear BK169; clear HB; clear HO_10; have HO_170000 := n0_; have HO_170001 := n1_; have BK160 := n2_; have BK169 := n3_; have HB := n4_; have HO175 := n5_; clear n0_ n1_ n2_ n3_ n4_ n5_; clear ho hb hg hat) | (go_at_call 29; (with_reducible refine (fencepostref08_Has.calls k4 _ _ l1 x7_4 t176 _ ?side1 ?side2 A43.out).mono ?_); (case side1 => exact cd_ (Kd.C_below HR1.out HB.out)); (case side2 => exact HC1.out); rintro e w' ⟨rfl, ⟨nd, rfl⟩⟩; (try first | exact ⟨rfl, _, World.drewN_drewN _ _ _⟩ | exact ⟨rfl, _, Eq.trans (World.drewN_drewN _ _ _) (congrArg (World.drewN _) (Nat.add_assoc _ _ _))⟩)))
     repeat (go_quiet (first | ((with_reducible refine gate_builtin (b := .append) (xs := #[.tmp 68, .tmp 70]) rfl ?_); (try (refine gate_guard (by rfl) ?_; dsimp only)); at_builtin; refine Kd.R_append (Kd.int .i64) (w0 := w) w.heap.size rfl (.tmp 68) (.tmp 70) 22 3 (.int .i64 0) 8 rfl Try.underlying22 info3 rfl (by decide) (by omega) u10 x10_4 x11_4 [.int .i64 x11_4] (fun k_ => some k_ ≠ (.slice Ao19 t163.length co19 : Value).ownBlock) (fun _ => False) rfl rfl ?aP (fun _ hk => hk.elim) ?aF ?aO ?aB ?aS ?aL ?_; (case aP => exact rfl); (case aB => exact (hb_ HB.out)); (case aF => exact (fun k_ hk => Kd.fresh' (fun k h_ => Nat.lt_of_lt_of_le (HLQ.out k h_) (below_size (hb_ HB.out))) k_ hk)); (case aO => exact (rd_ HO_10.out)); (case aS => exact (below_size (hb_ HB.out))); (case aL => have := LMc42.out; omega); intro v174 w47 ho hb hg hat; rw [← Ny173.out] at ho; have n0_ : Aside0 True := ⟨trivial⟩; have n1_ : Aside0 True := ⟨trivial⟩; have n2_ := Aside0.mk (blk_grown (g := gb160) (o := .cells #[.slice A0_0 l0_0.length c0_0, .slice (some ad172) l0_1.length c0_1] 25 (0, 0)) (bd_ BK160.out) hg (Kd.R_ne HO_10.out BK160.out (by decide))); have n3_ := Aside0.mk (blk_grown (g := gb169) (o := .cells #[.slice Ao19 t163.length co19, .slice (some ad171) t166.length co22] 25 (0, 0)) (bd_ BK169.out) hg (Kd.R_ne HO_10.out BK169.out (by decide))); have n4_ := Aside0.mk (hb); have n5_ := Aside0.mk (ho); clear HO_170000; clear HO_170001; clear BK160; clear BK169; clear HB; clear HO_10; have HO_170000 := n0_; have HO_170001 := n1_; have BK160 := n2_; have BK169 := n3_; have HB := n4_; have HO175 := n5_; clear n0_ n1_ n2_ n3_ n4_ n5_; clear ho hb hg hat) | (go_at_call 29; (with_reducible refine (fencepostref08_Has.calls k4 _ _ l1 x7_4 t176 _ ?side1 ?side2 A43.out).mono ?_); (case side1 => exact cd_ (Kd.C_below HR1.out HB.out)); (case side2 => exact HC1.out); rintro e w' ⟨rfl, ⟨nd, rfl⟩⟩; (try first | exact ⟨rfl, _, World.drewN_drewN _ _ _⟩ | exact ⟨rfl, _, Eq.trans (World.drewN_drewN _ _ _) (congrArg (World.drewN _) (Nat.add_assoc _ _ _))⟩))); go_upto_if 74 with (first | ((with_reducible refine gate_builtin (b := .append) (xs := #[.tmp 68, .tmp 70]) rfl ?_); (try (refine gate_guard (by rfl) ?_; dsimp only)); at_builtin; refine Kd.R_append (Kd.int .i64) (w0 := w) w.heap.size rfl (.tmp 68) (.tmp 70) 22 3 (.int .i64 0) 8 rfl Try.underlying22 info3 rfl (by decide) (by omega) u10 x10_4 x11_4 [.int .i64 x11_4] (fun k_ => some k_ ≠ (.slice Ao19 t163.length co19 : Value).ownBlock) (fun _ => False) rfl rfl ?aP (fun _ hk => hk.elim) ?aF ?aO ?aB ?aS ?aL ?_; (case aP => exact rfl); (case aB => exact (hb_ HB.out)); (case aF => exact (fun k_ hk => Kd.fresh' (fun k h_ => Nat.lt_of_lt_of_le (HLQ.out k h_) (below_size (hb_ HB.out))) k_ hk)); (case aO => exact (rd_ HO_10.out)); (case aS => exact (below_size (hb_ HB.out))); (case aL => have := LMc42.out; omega); intro v174 w47 ho hb hg hat; rw [← Ny173.out] at ho; have n0_ : Aside0 True := ⟨trivial⟩; have n1_ : Aside0 True := ⟨trivial⟩; have n2_ := Aside0.mk (blk_grown (g := gb160) (o := .cells #[.slice A0_0 l0_0.length c0_0, .slice (some ad172) l0_1.length c0_1] 25 (0, 0)) (bd_ BK160.out) hg (Kd.R_ne HO_10.out BK160.out (by decide))); have n3_ := Aside0.mk (blk_grown (g := gb169) (o := .cells #[.slice Ao19 t163.length co19, .slice (some ad171) t166.length co22] 25 (0, 0)) (bd_ BK169.out) hg (Kd.R_ne HO_10.out BK169.out (by decide))); have n4_ := Aside0.mk (hb); have n5_ := Aside0.mk (ho); clear HO_170000; clear HO_170001; clear BK160; clear BK169; clear HB; clear HO_10; have HO_170000 := n0_; have HO_170001 := n1_; have BK160 := n2_; have BK169 := n3_; have HB := n4_; have HO175 := n5_; clear n0_ n1_ n2_ n3_ n4_ n5_; clear ho hb hg hat) | (go_at_call 29; (with_reducible refine (fencepostref08_Has.calls k4 _ _ l1 x7_4 t176 _ ?side1 ?side2 A43.out).mono ?_); (case side1 => exact cd_ (Kd.C_below HR1.out HB.out)); (case side2 => exact HC1.out); rintro e w' ⟨rfl, ⟨nd, rfl⟩⟩; (try first | exact ⟨rfl, _, World.drewN_drewN _ _ _⟩ | exact ⟨rfl, _, Eq.trans (World.drewN_drewN _ _ _) (congrArg (World.drewN _) (Nat.add_assoc _ _ _))⟩))))
     (try simp only [Act.put, List.setIfInBounds_toArray, List.set_cons_zero, List.set_cons_succ])
     go_cut [11] (fun v11 wc => ∃ (kq : Nat) (x11_43 : Int), v11 = .int .i64 x11_43 ∧ Aside0 (fencepostlaw08_SlotsLands.j4 kq l1 t161 x7_4 x8_3 (rd_L3 t166 x8_3) y173 x11_43 x12_4 l0_0 l0_1 t163 t166 = some r) ∧ Aside0 (kq ≤ k4) ∧ Aside0 (Kd.R (Kd.int .i64) 3 wc w.heap.size (fun k_ => some k_ ≠ ((.slice Ao19 t163.length co19) : Value).ownBlock) v174 y173) ∧ Aside0 True ∧ Aside0 True ∧ Aside0 (wc.heap[gb160]? = some (.cells #[(.slice A0_0 l0_0.length c0_0), (.slice (some ad172) l0_1.length c0_1)] 25 (0, 0))) ∧ Aside0 (wc.heap[gb169]? = some (.cells #[(.slice Ao19 t163.length co19), (.slice (some ad171) t166.length co22)] 25 (0, 0))) ∧ Aside0 (Below w.heap.size w wc))
     case first =>
      have H := HC44.out
      clear HC44
      by_cases c48 : t176 = true
      rotate_left
      ·replace c48 := Bool.eq_false_iff.mpr c48
       subst c48
       have H1 : (fencepostlaw08_SlotsLands.j4 k4 l1 t161 x7_4 x8_3 (rd_L3 t166 x8_3) y173 x11_4 x12_4 l0_0 l0_1 t163 t166) = some r := by rw [if_neg (show ¬ (false = true) by decide)] at H; exact H
       clear H
       have H := H1
       clear H1
       have H' := Aside0.mk H
       clear H
       go_wp2
       repeat (go_quiet (fail); try go_wp2)
       go_meet
       case rel => exact ⟨_, (x11_4), rf_, H', ⟨by have := HJ3.out; have := HJ14.out; have := HK3.out; have := HK4.out; first | omega | exact Nat.le_refl _⟩, ⟨rd_ HO175.out⟩, ⟨trivial⟩, ⟨trivial⟩, ⟨bd_ BK160.out⟩, ⟨bd_ BK169.out⟩, ⟨hb_ HB.out⟩⟩
      subst c48
      have H1 : (if x11_4 ≥ ((rd_L3 t166 x8_3).length : Int) then (some false) else (if 0 ≤ x11_4 then (if x11_4 < ((rd_L3 t166 x8_3).length : Int) then (if (!(((rd_T53 (rd_L3 t166 x8_3) x11_4).f0) == 6) || (!(((rd_T53 (rd_L3 t166 x8_3) x11_4).f1) == 0) || (!(((rd_T53 (rd_L3 t166 x8_3) x11_4).f2) == 0) || (!(((rd_T53 (rd_L3 t166 x8_3) x11_4).f3) == 0) || (!(((rd_T53 (rd_L3 t166 x8_3) x11_4).f4) == 0)))))) = true then (some false) else (fencepostlaw08_SlotsLands.j4 k4 l1 t161 x7_4 x8_3 (rd_L3 t166 x8_3) y173 (wrap64 (x11_4 + 1)) x12_4 l0_0 l0_1 t163 t166)) else (none)) else (none))) = some r := by rw [if_pos rfl] at H; exact H
      clear H
      have H := H1
      clear H1
      by_cases c49 : x11_4 ≥ ((rd_L3 t166 x8_3).length : Int)
      ·rw [if_pos c49] at H
       have c49b0 : decide (((rd_L3 t166 x8_3).length : Int) ≤ x11_4) = true := decide_eq_true c49
       clear c49
       (first | rw [c49b0] | (simp only [i64_w, i32_w]; rw [c49b0]) | skip)
       exact absurd ((Option.some.inj H).trans HT.out) (by simp)
      rw [if_neg c49] at H
      have c49b0 : decide (((rd_L3 t166 x8_3).length : Int) ≤ x11_4) = false := decide_eq_false c49
      clear c49
      (first | rw [c49b0] | (simp only [i64_w, i32_w]; rw [c49b0]) | skip)
      by_cases c50 : 0 ≤ x11_4
      rotate_left
      ·rw [if_neg c50] at H
       exact absurd H (by simp)
      rw [if_pos c50] at H
      have c50b0 : decide (0 ≤ x11_4) = true := decide_eq_true c50
      clear c50
      by_cases c51 : x11_4 < ((rd_L3 t166 x8_3).length : Int)
      rotate_left
      ·rw [if_neg c51] at H
       exact absurd H (by simp)
      rw [if_pos c51] at H
      have c51b0 : decide (x11_4 < ((rd_L3 t166 x8_3).length : Int)) = true := decide_eq_true c51
      clear c51
      by_cases c52 : (!(((rd_T53 (rd_L3 t166 x8_3) x11_4).f0) == 6) || (!(((rd_T53 (rd_L3 t166 x8_3) x11_4).f1) == 0) || (!(((rd_T53 (rd_L3 t166 x8_3) x11_4).f2) == 0) || (!(((rd_T53 (rd_L3 t166 x8_3) x11_4).f3) == 0) || (!(((rd_T53 (rd_L3 t166 x8_3) x11_4).f4) == 0)))))) = true
      ·rw [if_pos c52] at H
       have c52b0 : (!(((rd_T53 (rd_L3 t166 x8_3) x11_4).f0) == 6) || (!(((rd_T53 (rd_L3 t166 x8_3) x11_4).f1) == 0) || (!(((rd_T53 (rd_L3 t166 x8_3) x11_4).f2) == 0) || (!(((rd_T53 (rd_L3 t166 x8_3) x11_4).f3) == 0) || (!(((rd_T53 (rd_L3 t166 x8_3) x11_4).f4) == 0)))))) = true := c52
       clear c52
       exact absurd ((Option.some.inj H).trans HT.out) (by simp)
      rw [if_neg c52] at H
      have c52b0 : (!(((rd_T53 (rd_L3 t166 x8_3) x11_4).f0) == 6) || (!(((rd_T53 (rd_L3 t166 x8_3) x11_4).f1) == 0) || (!(((rd_T53 (rd_L3 t166 x8_3) x11_4).f2) == 0) || (!(((rd_T53 (rd_L3 t166 x8_3) x11_4).f3) == 0) || (!(((rd_T53 (rd_L3 t166 x8_3) x11_4).f4) == 0)))))) = false := by simpa using c52
      clear c52
      have H' := Aside0.mk H
      clear H
      have p177 : 0 ≤ (x11_4 : Int) := of_decide_eq_true as_
      have q177 : x11_4 < ((rd_L3 t166 x8_3).length : Int) := of_decide_eq_true as_
      obtain ⟨ad177, e177, hx177_0, hx177_1, hx177_2, hx177_3, hx177_4⟩ := at_T53 HR171_0.out x11_4 p177 q177
      cases e177
      replace hx177_0 := cl_ HB.out hx177_0
      replace hx177_1 := cl_ HB.out hx177_1
      replace hx177_2 := cl_ HB.out hx177_2
      replace hx177_3 := cl_ HB.out hx177_3
      replace hx177_4 := cl_ HB.out hx177_4
      replace p177 := eq_true p177
      replace q177 := eq_true q177
      go_wp2
      repeat (go_quiet (fail); try go_wp2)
      go_meet
      case rel => exact ⟨_, (wrap64 (x11_4 + 1)), rf_, H', ⟨by have := HJ3.out; have := HJ14.out; have := HK3.out; have := HK4.out; first | omega | exact Nat.le_refl _⟩, ⟨rd_ HO175.out⟩, ⟨trivial⟩, ⟨trivial⟩, ⟨bd_ BK160.out⟩, ⟨bd_ BK169.out⟩, ⟨hb_ HB.out⟩⟩
     case rest =>
      clear HC44
      try clear c1
      try clear c13
      try clear c32
      try clear c33
      try clear c33b0
      try clear c34
      try clear c34b0
      try clear c35
      try clear c35b0
      try clear c39
      try clear c39b0
      try clear c40
      try clear c40b0
      try clear c41
      try clear c41b0
      try clear c42
      try clear hcz16_0
      try clear hcz16_1
      try clear hcz21_0
      try clear hcz21_1
      try clear hcz37_0
      try clear hcz37_1
      try clear hcz38_0
      try clear hcz38_1
      try clear hcz46_0
      try clear hcz46_1
      try clear hfz16_0
      try clear hfz16_1
      try clear hfz21_0
      try clear hfz21_1
      try clear hfz37_0
      try clear hfz37_1
      try clear hfz38_0
      try clear hfz38_1
      try clear hfz46_0
      try clear hfz46_1
      try clear hx171_0
      try clear hx172_0
      try clear p171
      try clear p172
      try clear q171
      try clear q172
      obtain ⟨kq, x11_43, rfl, HA, HJ43, HO_10, HO_170000, HO_170001, BK160, BK169, HB⟩ := hcut
      cases kq with
      | zero => exact absurd HA.out (by simp [fencepostlaw08_SlotsLands.j4])
      | succ kj43 => ?_
      have H := HA.out
      clear HA
      simp only [fencepostlaw08_SlotsLands.j4] at H
      by_cases c53 : x11_43 ≥ ((rd_L3 t166 x8_3).length : Int)
      ·rw [if_pos c53] at H
       have c53b0 : decide (((rd_L3 t166 x8_3).length : Int) ≤ x11_43) = true := decide_eq_true c53
       clear c53
       exact absurd ((Option.some.inj H).trans HT.out) (by simp)
      rw [if_neg c53] at H
      have c53b0 : decide (((rd_L3 t166 x8_3).length : Int) ≤ x11_43) = false := decide_eq_false c53
      clear c53
      by_cases c54 : 0 ≤ x11_43
      rotate_left
      ·rw [if_neg c54] at H
       exact absurd H (by simp)
      rw [if_pos c54] at H
      have c54b0 : decide (0 ≤ x11_43) = true := decide_eq_true c54
      clear c54
      by_cases c55 : x11_43 < ((rd_L3 t166 x8_3).length : Int)
      rotate_left
      ·rw [if_neg c55] at H
       exact absurd H (by simp)
      rw [if_pos c55] at H
      have c55b0 : decide (x11_43 < ((rd_L3 t166 x8_3).length : Int)) = true := decide_eq_true c55
      clear c55
      by_cases c56 : ((rd_T53 (rd_L3 t166 x8_3) x11_43).f0) ≥ 8
      rotate_left
      ·rw [if_neg c56] at H
       have c56b0 : decide (8 ≤ ((rd_T53 (rd_L3 t166 x8_3) x11_43).f0)) = false := decide_eq_false c56
       clear c56
       by_cases c68 : 0 ≤ x8_3
       rotate_left
       ·rw [if_neg c68] at H
        exact absurd H (by simp)
       rw [if_pos c68] at H
       have c68b0 : decide (0 ≤ x8_3) = true := decide_eq_true c68
       clear c68
       by_cases c69 : x8_3 < (l0_1.length : Int)
       rotate_left
       ·rw [if_neg c69] at H
        exact absurd H (by simp)
       rw [if_pos c69] at H
       have c69b0 : decide (x8_3 < (l0_1.length : Int)) = true := decide_eq_true c69
       clear c69
       by_cases c70 : 0 ≤ x12_4
       rotate_left
       ·rw [if_neg c70] at H
        exact absurd H (by simp)
       rw [if_pos c70] at H
       have c70b0 : decide (0 ≤ x12_4) = true := decide_eq_true c70
       clear c70
       by_cases c71 : x12_4 < ((rd_L3 l0_1 x8_3).length : Int)
       rotate_left
       ·rw [if_neg c71] at H
        exact absurd H (by simp)
       rw [if_pos c71] at H
       have c71b0 : decide (x12_4 < ((rd_L3 l0_1 x8_3).length : Int)) = true := decide_eq_true c71
       clear c71
       by_cases c72 : (!(((rd_T53 (rd_L3 t166 x8_3) x11_43).f0) == ((rd_T53 (rd_L3 l0_1 x8_3) x12_4).f0)) || (!(((rd_T53 (rd_L3 t166 x8_3) x11_43).f1) == ((rd_T53 (rd_L3 l0_1 x8_3) x12_4).f1)) || (!(((rd_T53 (rd_L3 t166 x8_3) x11_43).f2) == ((rd_T53 (rd_L3 l0_1 x8_3) x12_4).f2)) || (!(((rd_T53 (rd_L3 t166 x8_3) x11_43).f3) == ((rd_T53 (rd_L3 l0_1 x8_3) x12_4).f3)) || (!(((rd_T53 (rd_L3 t166 x8_3) x11_43).f4) == ((rd_T53 (rd_L3 l0_1 x8_3) x12_4).f4))))))) = true
       ·rw [if_pos c72] at H
        have c72b0 : (!(((rd_T53 (rd_L3 t166 x8_3) x11_43).f0) == ((rd_T53 (rd_L3 l0_1 x8_3) x12_4).f0)) || (!(((rd_T53 (rd_L3 t166 x8_3) x11_43).f1) == ((rd_T53 (rd_L3 l0_1 x8_3) x12_4).f1)) || (!(((rd_T53 (rd_L3 t166 x8_3) x11_43).f2) == ((rd_T53 (rd_L3 l0_1 x8_3) x12_4).f2)) || (!(((rd_T53 (rd_L3 t166 x8_3) x11_43).f3) == ((rd_T53 (rd_L3 l0_1 x8_3) x12_4).f3)) || (!(((rd_T53 (rd_L3 t166 x8_3) x11_43).f4) == ((rd_T53 (rd_L3 l0_1 x8_3) x12_4).f4))))))) = true := c72
        clear c72
        exact absurd ((Option.some.inj H).trans HT.out) (by simp)
       rw [if_neg c72] at H
       have c72b0 : (!(((rd_T53 (rd_L3 t166 x8_3) x11_43).f0) == ((rd_T53 (rd_L3 l0_1 x8_3) x12_4).f0)) || (!(((rd_T53 (rd_L3 t166 x8_3) x11_43).f1) == ((rd_T53 (rd_L3 l0_1 x8_3) x12_4).f1)) || (!(((rd_T53 (rd_L3 t166 x8_3) x11_43).f2) == ((rd_T53 (rd_L3 l0_1 x8_3) x12_4).f2)) || (!(((rd_T53 (rd_L3 t166 x8_3) x11_43).f3) == ((rd_T53 (rd_L3 l0_1 x8_3) x12_4).f3)) || (!(((rd_T53 (rd_L3 t166 x8_3) x11_43).f4) == ((rd_T53 (rd_L3 l0_1 x8_3) x12_4).f4))))))) = false := by simpa using c72
       clear c72
       have H' := Aside0.mk H
       clear H
       have p178 : 0 ≤ (x11_43 : Int) := of_decide_eq_true as_
       have q178 : x11_43 < ((rd_L3 t166 x8_3).length : Int) := of_decide_eq_true as_
       obtain ⟨ad178, e178, hx178_0, hx178_1, hx178_2, hx178_3, hx178_4⟩ := at_T53 HR171_0.out x11_43 p178 q178
       cases e178
       replace hx178_0 := cl_ HB.out hx178_0
       replace hx178_1 := cl_ HB.out hx178_1
       replace hx178_2 := cl_ HB.out hx178_2
       replace hx178_3 := cl_ HB.out hx178_3
       replace hx178_4 := cl_ HB.out hx178_4
       replace p178 := eq_true p178
       replace q178 := eq_true q178
       go_wp2_with (first | ((with_reducible refine gate_dst (N := 13) rfl ?_); (try (refine gate_guard (by rfl) ?_; dsimp only)); refine box_event ?hg (N := 13) ?hd (cs := #[.int .i64 0, .int .i64 0, .int .i64 0, .int .i64 0, .int .i64 0]) (t := 53) ?hr ?_; (case hd => rfl); (case hg => rfl); (case hr => first | (go_simp; done) | (go_simp; rfl)); intro gb179 hg w73 hbox hb; have n0_ := Aside0.mk (Kd.R_below (rd_ HO_10.out) hb); have n1_ : Aside0 True := ⟨trivial⟩; have n2_ : Aside0 True := ⟨trivial⟩; have n3_ := Aside0.mk (bb_ BK160.out hb); have n4_ := Aside0.mk (bb_ BK169.out hb); have n5_ := Aside0.mk (below_step (hb_ HB.out) hb); have n6_ := Aside0.mk (hbox); have n7_ := Aside0.mk (gs_ hg (hb_ HB.out)); have n8_ := Aside0.mk (gs_ hg (hb_ HB.out)); have n9_ := Aside0.mk (gn_ hg BK160.out); have n10_ := Aside0.mk (gn_ hg BK160.out).symm; have n11_ := Aside0.mk (gn_ hg BK169.out); have n12_ := Aside0.mk (gn_ hg BK169.out).symm; clear HO_10; clear HO_170000; clear HO_170001; clear BK160; clear BK169; clear HB; have HO_10 := n0_; have HO_170000 := n1_; have HO_170001 := n2_; have BK160 := n3_; have BK169 := n4_; have HB := n5_; have BK179 := n6_; have GW179 := n7_; have GE179 := n8_; have NB160_179 := n9_; have NB179_160 := n10_; have NB169_179 := n11_; have NB179_169 := n12_; clear n0_ n1_ n2_ n3_ n4_ n5_ n6_ n7_ n8_ n9_ n10_ n11_ n12_; clear hb hbox hg; have hnb74 := NB179_160.out; have hnc74 := NB160_179.out; have hnb75 := NB179_169.out; have hnc75 := NB169_179.out; have hcz76_0 : w73.cell? ⟨gb179, 0, none⟩ = some (.int .i64 0) := (blk_cell BK179.out 0).trans rfl; have hcz76_1 : w73.cell? ⟨gb179, 1, none⟩ = some (.int .i64 0) := (blk_cell BK179.out 1).trans rfl; have hcz76_2 : w73.cell? ⟨gb179, 2, none⟩ = some (.int .i64 0) := (blk_cell BK179.out 2).trans rfl; have hcz76_3 : w73.cell? ⟨gb179, 3, none⟩ = some (.int .i64 0) := (blk_cell BK179.out 3).trans rfl; have hcz76_4 : w73.cell? ⟨gb179, 4, none⟩ = some (.int .i64 0) := (blk_cell BK179.out 4).trans rfl; have hfz76_0 := blk_frozen BK179.out 0; have hfz76_1 := blk_frozen BK179.out 1; have hfz76_2 := blk_frozen BK179.out 2; have hfz76_3 := blk_frozen BK179.out 3; have hfz76_4 := blk_frozen BK179.out 4; have hnb77 := NB160_169.out; have hnc77 := NB169_160.out; have hcz78_0 : w73.cell? ⟨gb160, 0, none⟩ = some (.slice A0_0 l0_0.length c0_0) := (blk_cell BK160.out 0).trans rfl; have hcz78_1 : w73.cell? ⟨gb160, 1, none⟩ = some (.slice (some ad172) l0_1.length c0_1) := (blk_cell BK160.out 1).trans rfl; have hfz78_0 := blk_frozen BK160.out 0; have hfz78_1 := blk_frozen BK160.out 1; have p184 : 0 ≤ (x8_3 : Int) := of_decide_eq_true as_; have q184 : x8_3 < (l0_1.length : Int) := of_decide_eq_true as_; obtain ⟨ad184, A184_0, c184_0, e184, hx184_0, hl184_0, hi184_0⟩ := at_L3 HR0_1.out x8_3 p184 q184; obtain rfl : ad172 = ad184 := (by injection e184); have hn184_0 : ad172.block ≠ gb179 := Nat.ne_of_lt (bk_ hx184_0 GW179.out); have hn184_1 : ad172.block ≠ gb179 := Nat.ne_of_lt (bk_ hx184_0 GW179.out); have hn184_2 : ad172.block ≠ gb179 := Nat.ne_of_lt (bk_ hx184_0 GW179.out); have hn184_3 : ad172.block ≠ gb179 := Nat.ne_of_lt (bk_ hx184_0 GW179.out); have hn184_4 : ad172.block ≠ gb179 := Nat.ne_of_lt (bk_ hx184_0 GW179.out); replace hx184_0 := cl_ HB.out hx184_0; have HR184_0 := Aside0.mk hi184_0; have HC184_0 := Aside0.mk hl184_0; clear hi184_0 hl184_0; replace hx184_0 := (cell_far (p := ⟨gb179, 0, none⟩) (ne_ hn184_0) (.int .i64 ((rd_T53 (rd_L3 t166 x8_3) x11_43).f0))).trans hx184_0; replace hx184_0 := (cell_far (p := ⟨gb179, 1, none⟩) (ne_ hn184_1) (.int .i64 ((rd_T53 (rd_L3 t166 x8_3) x11_43).f1))).trans hx184_0; replace hx184_0 := (cell_far (p := ⟨gb179, 2, none⟩) (ne_ hn184_2) (.int .i64 ((rd_T53 (rd_L3 t166 x8_3) x11_43).f2))).trans hx184_0; replace hx184_0 := (cell_far (p := ⟨gb179, 3, none⟩) (ne_ hn184_3) (.int .i64 ((rd_T53 (rd_L3 t166 x8_3) x11_43).f3))).trans hx184_0; replace hx184_0 := (cell_far (p := ⟨gb179, 4, none⟩) (ne_ hn184_4) (.int .i64 ((rd_T53 (rd_L3 t166 x8_3) x11_43).f4))).trans hx184_0; (try have hy184_0 := hy5_ hx184_0); clear hn184_0; clear hn184_1; clear hn184_2; clear hn184_3; clear hn184_4; replace p184 := eq_true p184; replace q184 := eq_true q184; have p185 : 0 ≤ (x12_4 : Int) := of_decide_eq_true as_; have q185 : x12_4 < ((rd_L3 l0_1 x8_3).length : Int) := of_decide_eq_true as_; obtain ⟨ad185, e185, hx185_0, hx185_1, hx185_2, hx185_3, hx185_4⟩ := at_T53 HR184_0.out x12_4 p185 q185; cases e185; have hn185_0 : ad185.block ≠ gb179 := Nat.ne_of_lt (bk_ hx185_0 GW179.out); have hn185_1 : ad185.block ≠ gb179 := Nat.ne_of_lt (bk_ hx185_0 GW179.out); have hn185_2 : ad185.block ≠ gb179 := Nat.ne_of_lt (bk_ hx185_0 GW179.out); have hn185_3 : ad185.block ≠ gb179 := Nat.ne_of_lt (bk_ hx185_0 GW179.out); have hn185_4 : ad185.block ≠ gb179 := Nat.ne_of_lt (bk_ hx185_0 GW179.out); replace hx185_0 := cl_ HB.out hx185_0; replace hx185_1 := cl_ HB.out hx185_1; replace hx185_2 := cl_ HB.out hx185_2; replace hx185_3 := cl_ HB.out hx185_3; replace hx185_4 := cl_ HB.out hx185_4; replace hx185_0 := (cell_far (p := ⟨gb179, 0, none⟩) (ne_ hn185_0) (.int .i64 ((rd_T53 (rd_L3 t166 x8_3) x11_43).f0))).trans hx185_0; replace hx185_1 := (cell_far (p := ⟨gb179, 0, none⟩) (ne_ hn185_0) (.int .i64 ((rd_T53 (rd_L3 t166 x8_3) x11_43).f0))).trans hx185_1; replace hx185_2 := (cell_far (p := ⟨gb179, 0, none⟩) (ne_ hn185_0) (.int .i64 ((rd_T53 (rd_L3 t166 x8_3) x11_43).f0))).trans hx185_2; replace hx185_3 := (cell_far (p := ⟨gb179, 0, none⟩) (ne_ hn185_0) (.int .i64 ((rd_T53 (rd_L3 t166 x8_3) x11_43).f0))).trans hx185_3; replace hx185_4 := (cell_far (p := ⟨gb179, 0, none⟩) (ne_ hn185_0) (.int .i64 ((rd_T53 (rd_L3 t166 x8_3) x11_43).f0))).trans hx185_4; replace hx185_0 := (cell_far (p := ⟨gb179, 1, none⟩) (ne_ hn185_1) (.int .i64 ((rd_T53 (rd_L3 t166 x8_3) x11_43).f1))).trans hx185_0; replace hx185_1 := (cell_far (p := ⟨gb179, 1, none⟩) (ne_ hn185_1) (.int .i64 ((rd_T53 (rd_L3 t166 x8_3) x11_43).f1))).trans hx185_1; replace hx185_2 := (cell_far (p := ⟨gb179, 1, none⟩) (ne_ hn185_1) (.int .i64 ((rd_T53 (rd_L3 t166 x8_3) x11_43).f1))).trans hx185_2; replace hx185_3 := (cell_far (p := ⟨gb179, 1, none⟩) (ne_ hn185_1) (.int .i64 ((rd_T53 (rd_L3 t166 x8_3) x11_43).f1))).trans hx185_3; replace hx185_4 := (cell_far (p := ⟨gb179, 1, none⟩) (ne_ hn185_1) (.int .i64 ((rd_T53 (rd_L3 t166 x8_3) x11_43).f1))).trans hx185_4; replace hx185_0 := (cell_far (p := ⟨gb179, 2, none⟩) (ne_ hn185_2) (.int .i64 ((rd_T53 (rd_L3 t166 x8_3) x11_43).f2))).trans hx185_0; replace hx185_1 := (cell_far (p := ⟨gb179, 2, none⟩) (ne_ hn185_2) (.int .i64 ((rd_T53 (rd_L3 t166 x8_3) x11_43).f2))).trans hx185_1; replace hx185_2 := (cell_far (p := ⟨gb179, 2, none⟩) (ne_ hn185_2) (.int .i64 ((rd_T53 (rd_L3 t166 x8_3) x11_43).f2))).trans hx185_2; replace hx185_3 := (cell_far (p := ⟨gb179, 2, none⟩) (ne_ hn185_2) (.int .i64 ((rd_T53 (rd_L3 t166 x8_3) x11_43).f2))).trans hx185_3; replace hx185_4 := (cell_far (p := ⟨gb179, 2, none⟩) (ne_ hn185_2) (.int .i64 ((rd_T53 (rd_L3 t166 x8_3) x11_43).f2))).trans hx185_4; replace hx185_0 := (cell_far (p := ⟨gb179, 3, none⟩) (ne_ hn185_3) (.int .i64 ((rd_T53 (rd_L3 t166 x8_3) x11_43).f3))).trans hx185_0; replace hx185_1 := (cell_far (p := ⟨gb179, 3, none⟩) (ne_ hn185_3) (.int .i64 ((rd_T53 (rd_L3 t166 x8_3) x11_43).f3))).trans hx185_1; replace hx185_2 := (cell_far (p := ⟨gb179, 3, none⟩) (ne_ hn185_3) (.int .i64 ((rd_T53 (rd_L3 t166 x8_3) x11_43).f3))).trans hx185_2; replace hx185_3 := (cell_far (p := ⟨gb179, 3, none⟩) (ne_ hn185_3) (.int .i64 ((rd_T53 (rd_L3 t166 x8_3) x11_43).f3))).trans hx185_3; replace hx185_4 := (cell_far (p := ⟨gb179, 3, none⟩) (ne_ hn185_3) (.int .i64 ((rd_T53 (rd_L3 t166 x8_3) x11_43).f3))).trans hx185_4; replace hx185_0 := (cell_far (p := ⟨gb179, 4, none⟩) (ne_ hn185_4) (.int .i64 ((rd_T53 (rd_L3 t166 x8_3) x11_43).f4))).trans hx185_0; replace hx185_1 := (cell_far (p := ⟨gb179, 4, none⟩) (ne_ hn185_4) (.int .i64 ((rd_T53 (rd_L3 t166 x8_3) x11_43).f4))).trans hx185_1; replace hx185_2 := (cell_far (p := ⟨gb179, 4, none⟩) (ne_ hn185_4) (.int .i64 ((rd_T53 (rd_L3 t166 x8_3) x11_43).f4))).trans hx185_2; replace hx185_3 := (cell_far (p := ⟨gb179, 4, none⟩) (ne_ hn185_4) (.int .i64 ((rd_T53 (rd_L3 t166 x8_3) x11_43).f4))).trans hx185_3; replace hx185_4 := (cell_far (p := ⟨gb179, 4, none⟩) (ne_ hn185_4) (.int .i64 ((rd_T53 (rd_L3 t166 x8_3) x11_43).f4))).trans hx185_4; (try have hy185_0 := hy5_ hx185_0); (try have hy185_1 := hy5_ hx185_1); (try have hy185_2 := hy5_ hx185_2); (try have hy185_3 := hy5_ hx185_3); (try have hy185_4 := hy5_ hx185_4); clear hn185_0; clear hn185_1; clear hn185_2; clear hn185_3; clear hn185_4; replace p185 := eq_true p185; replace q185 := eq_true q185))
       repeat ((refine wp_region_quiet_lit (by decide +kernel) (by decide +kernel) ?_); (repeat (first | go_big_quiet_skip | (go_big_quiet_want; go_big_quiet_op; go_big_quiet_on))); refine wpQuiet_nil ?_; intro _ hw'; obtain ⟨nq, hw''⟩ := hw'; subst hw''; try go_wp2_with (first | ((with_reducible refine gate_dst (N := 13) rfl ?_); (try (refine gate_guard (by rfl) ?_; dsimp only)); refine box_event ?hg (N := 13) ?hd (cs := #[.int .i64 0, .int .i64 0, .int .i64 0, .int .i64 0, .int .i64 0]) (t := 53) ?hr ?_; (case hd => rfl); (case hg => rfl); (case hr => first | (go_simp; done) | (go_simp; rfl)); intro gb179 hg w73 hbox hb; have n0_ := Aside0.mk (Kd.R_below (rd_ HO_10.out) hb); have n1_ : Aside0 True := ⟨trivial⟩; have n2_ : Aside0 True := ⟨trivial⟩; have n3_ := Aside0.mk (bb_ BK160.out hb); have n4_ := Aside0.mk (bb_ BK169.out hb); have n5_ := Aside0.mk (below_step (hb_ HB.out) hb); have n6_ := Aside0.mk (hbox); have n7_ := Aside0.mk (gs_ hg (hb_ HB.out)); have n8_ := Aside0.mk (gs_ hg (hb_ HB.out)); have n9_ := Aside0.mk (gn_ hg BK160.out); have n10_ := Aside0.mk (gn_ hg BK160.out).symm; have n11_ := Aside0.mk (gn_ hg BK169.out); have n12_ := Aside0.mk (gn_ hg BK169.out).symm; clear HO_10; clear HO_170000; clear HO_170001; clear BK160; clear BK169; clear HB; have HO_10 := n0_; have HO_170000 := n1_; have HO_170001 := n2_; have BK160 := n3_; have BK169 := n4_; have HB := n5_; have BK179 := n6_; have GW179 := n7_; have GE179 := n8_; have NB160_179 := n9_; have NB179_160 := n10_; have NB169_179 := n11_; have NB179_169 := n12_; clear n0_ n1_ n2_ n3_ n4_ n5_ n6_ n7_ n8_ n9_ n10_ n11_ n12_; clear hb hbox hg; have hnb74 := NB179_160.out; have hnc74 := NB160_179.out; have hnb75 := NB179_169.out; have hnc75 := NB169_179.out; have hcz76_0 : w73.cell? ⟨gb179, 0, none⟩ = some (.int .i64 0) := (blk_cell BK179.out 0).trans rfl; have hcz76_1 : w73.cell? ⟨gb179, 1, none⟩ = some (.int .i64 0) := (blk_cell BK179.out 1).trans rfl; have hcz76_2 : w73.cell? ⟨gb179, 2, none⟩ = some (.int .i64 0) := (blk_cell BK179.out 2).trans rfl; have hcz76_3 : w73.cell? ⟨gb179, 3, none⟩ = some (.int .i64 0) := (blk_cell BK179.out 3).trans rfl; have hcz76_4 : w73.cell? ⟨gb179, 4, none⟩ = some (.int .i64 0) := (blk_cell BK179.out 4).trans rfl; have hfz76_0 := blk_frozen BK179.out 0; have hfz76_1 := blk_frozen BK179.out 1; have hfz76_2 := blk_frozen BK179.out 2; have hfz76_3 := blk_frozen BK179.out 3; have hfz76_4 := blk_frozen BK179.out 4; have hnb77 := NB160_169.out; have hnc77 := NB169_160.out; have hcz78_0 : w73.cell? ⟨gb160, 0, none⟩ = some (.slice A0_0 l0_0.length c0_0) := (blk_cell BK160.out 0).trans rfl; have hcz78_1 : w73.cell? ⟨gb160, 1, none⟩ = some (.slice (some ad172) l0_1.length c0_1) := (blk_cell BK160.out 1).trans rfl; have hfz78_0 := blk_frozen BK160.out 0; have hfz78_1 := blk_frozen BK160.out 1; have p184 : 0 ≤ (x8_3 : Int) := of_decide_eq_true as_; have q184 : x8_3 < (l0_1.length : Int) := of_decide_eq_true as_; obtain ⟨ad184, A184_0, c184_0, e184, hx184_0, hl184_0, hi184_0⟩ := at_L3 HR0_1.out x8_3 p184 q184; obtain rfl : ad172 = ad184 := (by injection e184); have hn184_0 : ad172.block ≠ gb179 := Nat.ne_of_lt (bk_ hx184_0 GW179.out); have hn184_1 : ad172.block ≠ gb179 := Nat.ne_of_lt (bk_ hx184_0 GW179.out); have hn184_2 : ad172.block ≠ gb179 := Nat.ne_of_lt (bk_ hx184_0 GW179.out); have hn184_3 : ad172.block ≠ gb179 := Nat.ne_of_lt (bk_ hx184_0 GW179.out); have hn184_4 : ad172.block ≠ gb179 := Nat.ne_of_lt (bk_ hx184_0 GW179.out); replace hx184_0 := cl_ HB.out hx184_0; have HR184_0 := Aside0.mk hi184_0; have HC184_0 := Aside0.mk hl184_0; clear hi184_0 hl184_0; replace hx184_0 := (cell_far (p := ⟨gb179, 0, none⟩) (ne_ hn184_0) (.int .i64 ((rd_T53 (rd_L3 t166 x8_3) x11_43).f0))).trans hx184_0; replace hx184_0 := (cell_far (p := ⟨gb179, 1, none⟩) (ne_ hn184_1) (.int .i64 ((rd_T53 (rd_L3 t166 x8_3) x11_43).f1))).trans hx184_0; replace hx184_0 := (cell_far (p := ⟨gb179, 2, none⟩) (ne_ hn184_2) (.int .i64 ((rd_T53 (rd_L3 t166 x8_3) x11_43).f2))).trans hx184_0; replace hx184_0 := (cell_far (p := ⟨gb179, 3, none⟩) (ne_ hn184_3) (.int .i64 ((rd_T53 (rd_L3 t166 x8_3) x11_43).f3))).trans hx184_0; replace hx184_0 := (cell_far (p := ⟨gb179, 4, none⟩) (ne_ hn184_4) (.int .i64 ((rd_T53 (rd_L3 t166 x8_3) x11_43).f4))).trans hx184_0; (try have hy184_0 := hy5_ hx184_0); clear hn184_0; clear hn184_1; clear hn184_2; clear hn184_3; clear hn184_4; replace p184 := eq_true p184; replace q184 := eq_true q184; have p185 : 0 ≤ (x12_4 : Int) := of_decide_eq_true as_; have q185 : x12_4 < ((rd_L3 l0_1 x8_3).length : Int) := of_decide_eq_true as_; obtain ⟨ad185, e185, hx185_0, hx185_1, hx185_2, hx185_3, hx185_4⟩ := at_T53 HR184_0.out x12_4 p185 q185; cases e185; have hn185_0 : ad185.block ≠ gb179 := Nat.ne_of_lt (bk_ hx185_0 GW179.out); have hn185_1 : ad185.block ≠ gb179 := Nat.ne_of_lt (bk_ hx185_0 GW179.out); have hn185_2 : ad185.block ≠ gb179 := Nat.ne_of_lt (bk_ hx185_0 GW179.out); have hn185_3 : ad185.block ≠ gb179 := Nat.ne_of_lt (bk_ hx185_0 GW179.out); have hn185_4 : ad185.block ≠ gb179 := Nat.ne_of_lt (bk_ hx185_0 GW179.out); replace hx185_0 := cl_ HB.out hx185_0; replace hx185_1 := cl_ HB.out hx185_1; replace hx185_2 := cl_ HB.out hx185_2; replace hx185_3 := cl_ HB.out hx185_3; replace hx185_4 := cl_ HB.out hx185_4; replace hx185_0 := (cell_far (p := ⟨gb179, 0, none⟩) (ne_ hn185_0) (.int .i64 ((rd_T53 (rd_L3 t166 x8_3) x11_43).f0))).trans hx185_0; replace hx185_1 := (cell_far (p := ⟨gb179, 0, none⟩) (ne_ hn185_0) (.int .i64 ((rd_T53 (rd_L3 t166 x8_3) x11_43).f0))).trans hx185_1; replace hx185_2 := (cell_far (p := ⟨gb179, 0, none⟩) (ne_ hn185_0) (.int .i64 ((rd_T53 (rd_L3 t166 x8_3) x11_43).f0))).trans hx185_2; replace hx185_3 := (cell_far (p := ⟨gb179, 0, none⟩) (ne_ hn185_0) (.int .i64 ((rd_T53 (rd_L3 t166 x8_3) x11_43).f0))).trans hx185_3; replace hx185_4 := (cell_far (p := ⟨gb179, 0, none⟩) (ne_ hn185_0) (.int .i64 ((rd_T53 (rd_L3 t166 x8_3) x11_43).f0))).trans hx185_4; replace hx185_0 := (cell_far (p := ⟨gb179, 1, none⟩) (ne_ hn185_1) (.int .i64 ((rd_T53 (rd_L3 t166 x8_3) x11_43).f1))).trans hx185_0; replace hx185_1 := (cell_far (p := ⟨gb179, 1, none⟩) (ne_ hn185_1) (.int .i64 ((rd_T53 (rd_L3 t166 x8_3) x11_43).f1))).trans hx185_1; replace hx185_2 := (cell_far (p := ⟨gb179, 1, none⟩) (ne_ hn185_1) (.int .i64 ((rd_T53 (rd_L3 t166 x8_3) x11_43).f1))).trans hx185_2; replace hx185_3 := (cell_far (p := ⟨gb179, 1, none⟩) (ne_ hn185_1) (.int .i64 ((rd_T53 (rd_L3 t166 x8_3) x11_43).f1))).trans hx185_3; replace hx185_4 := (cell_far (p := ⟨gb179, 1, none⟩) (ne_ hn185_1) (.int .i64 ((rd_T53 (rd_L3 t166 x8_3) x11_43).f1))).trans hx185_4; replace hx185_0 := (cell_far (p := ⟨gb179, 2, none⟩) (ne_ hn185_2) (.int .i64 ((rd_T53 (rd_L3 t166 x8_3) x11_43).f2))).trans hx185_0; replace hx185_1 := (cell_far (p := ⟨gb179, 2, none⟩) (ne_ hn185_2) (.int .i64 ((rd_T53 (rd_L3 t166 x8_3) x11_43).f2))).trans hx185_1; replace hx185_2 := (cell_far (p := ⟨gb179, 2, none⟩) (ne_ hn185_2) (.int .i64 ((rd_T53 (rd_L3 t166 x8_3) x11_43).f2))).trans hx185_2; replace hx185_3 := (cell_far (p := ⟨gb179, 2, none⟩) (ne_ hn185_2) (.int .i64 ((rd_T53 (rd_L3 t166 x8_3) x11_43).f2))).trans hx185_3; replace hx185_4 := (cell_far (p := ⟨gb179, 2, none⟩) (ne_ hn185_2) (.int .i64 ((rd_T53 (rd_L3 t166 x8_3) x11_43).f2))).trans hx185_4; replace hx185_0 := (cell_far (p := ⟨gb179, 3, none⟩) (ne_ hn185_3) (.int .i64 ((rd_T53 (rd_L3 t166 x8_3) x11_43).f3))).trans hx185_0; replace hx185_1 := (cell_far (p := ⟨gb179, 3, none⟩) (ne_ hn185_3) (.int .i64 ((rd_T53 (rd_L3 t166 x8_3) x11_43).f3))).trans hx185_1; replace hx185_2 := (cell_far (p := ⟨gb179, 3, none⟩) (ne_ hn185_3) (.int .i64 ((rd_T53 (rd_L3 t166 x8_3) x11_43).f3))).trans hx185_2; replace hx185_3 := (cell_far (p := ⟨gb179, 3, none⟩) (ne_ hn185_3) (.int .i64 ((rd_T53 (rd_L3 t166 x8_3) x11_43).f3))).trans hx185_3; replace hx185_4 := (cell_far (p := ⟨gb179, 3, none⟩) (ne_ hn185_3) (.int .i64 ((rd_T53 (rd_L3 t166 x8_3) x11_43).f3))).trans hx185_4; replace hx185_0 := (cell_far (p := ⟨gb179, 4, none⟩) (ne_ hn185_4) (.int .i64 ((rd_T53 (rd_L3 t166 x8_3) x11_43).f4))).trans hx185_0; replace hx185_1 := (cell_far (p := ⟨gb179, 4, none⟩) (ne_ hn185_4) (.int .i64 ((rd_T53 (rd_L3 t166 x8_3) x11_43).f4))).trans hx185_1; replace hx185_2 := (cell_far (p := ⟨gb179, 4, none⟩) (ne_ hn185_4) (.int .i64 ((rd_T53 (rd_L3 t166 x8_3) x11_43).f4))).trans hx185_2; replace hx185_3 := (cell_far (p := ⟨gb179, 4, none⟩) (ne_ hn185_4) (.int .i64 ((rd_T53 (rd_L3 t166 x8_3) x11_43).f4))).trans hx185_3; replace hx185_4 := (cell_far (p := ⟨gb179, 4, none⟩) (ne_ hn185_4) (.int .i64 ((rd_T53 (rd_L3 t166 x8_3) x11_43).f4))).trans hx185_4; (try have hy185_0 := hy5_ hx185_0); (try have hy185_1 := hy5_ hx185_1); (try have hy185_2 := hy5_ hx185_2); (try have hy185_3 := hy5_ hx185_3); (try have hy185_4 := hy5_ hx185_4); clear hn185_0; clear hn185_1; clear hn185_2; clear hn185_3; clear hn185_4; replace p185 := eq_true p185; replace q185 := eq_true q185)))
       go_roundg kj43
       case measure => have := HJ3.out; have := HJ14.out; have := HK3.out; have := HK4.out; have := HJ43.out; omega
       case rel => exact ⟨(wrap64 (x7_4 + 1)), (y173), (wrap64 (x11_43 + 1)), (wrap64 (x12_4 + 1)), rf_, rf_, rf_, H', ⟨by have := HJ3.out; have := HJ14.out; have := HK3.out; have := HK4.out; have := HJ43.out; omega⟩, ⟨by (with_reducible repeat (first | apply Kd.R_alloc | apply Kd.R_drewN | apply Kd.R_drew)); exact Kd.R_mono (Kd.R_far (p := ⟨gb179, 4, none⟩) (Kd.R_far (p := ⟨gb179, 3, none⟩) (Kd.R_far (p := ⟨gb179, 2, none⟩) (Kd.R_far (p := ⟨gb179, 1, none⟩) (Kd.R_far (p := ⟨gb179, 0, none⟩) (Kd.R_types HO_10.out BK179.out (by decide)) (fun _ hk => hk.2) (.int .i64 ((rd_T53 (rd_L3 t166 x8_3) x11_43).f0))) (fun _ hk => hk.2) (.int .i64 ((rd_T53 (rd_L3 t166 x8_3) x11_43).f1))) (fun _ hk => hk.2) (.int .i64 ((rd_T53 (rd_L3 t166 x8_3) x11_43).f2))) (fun _ hk => hk.2) (.int .i64 ((rd_T53 (rd_L3 t166 x8_3) x11_43).f3))) (fun _ hk => hk.2) (.int .i64 ((rd_T53 (rd_L3 t166 x8_3) x11_43).f4))) (fun _ hk => hk.1)⟩, ⟨trivial⟩, ⟨trivial⟩, ⟨by exact bf5_ BK160.out NB160_179.out⟩, ⟨by exact bf5_ BK169.out NB169_179.out⟩, ⟨hb_ HB.out⟩⟩
      rw [if_pos c56] at H
      have c56b0 : decide (8 ≤ ((rd_T53 (rd_L3 t166 x8_3) x11_43).f0)) = true := decide_eq_true c56
      clear c56
      by_cases c57 : 0 ≤ x8_3
      rotate_left
      ·rw [if_neg c57] at H
       exact absurd H (by simp)
      rw [if_pos c57] at H
      have c57b0 : decide (0 ≤ x8_3) = true := decide_eq_true c57
      clear c57
      by_cases c58 : x8_3 < (l0_1.length : Int)
      rotate_left
      ·rw [if_neg c58] at H
       exact absurd H (by simp)
      rw [if_pos c58] at H
      have c58b0 : decide (x8_3 < (l0_1.length : Int)) = true := decide_eq_true c58
      clear c58
      by_cases c59 : 0 ≤ x12_4
      rotate_left
      ·rw [if_neg c59] at H
       exact absurd H (by simp)
      rw [if_pos c59] at H
      have c59b0 : decide (0 ≤ x12_4) = true := decide_eq_true c59
      clear c59
      by_cases c60 : x12_4 < ((rd_L3 l0_1 x8_3).length : Int)
      rotate_left
      ·rw [if_neg c60] at H
       exact absurd H (by simp)
      rw [if_pos c60] at H
      have c60b0 : decide (x12_4 < ((rd_L3 l0_1 x8_3).length : Int)) = true := decide_eq_true c60
      clear c60
      by_cases c61 : (!(((rd_T53 (rd_L3 t166 x8_3) x11_43).f0) == ((rd_T53 (rd_L3 l0_1 x8_3) x12_4).f0)) || (!(((rd_T53 (rd_L3 t166 x8_3) x11_43).f1) == ((rd_T53 (rd_L3 l0_1 x8_3) x12_4).f1)) || (!(((rd_T53 (rd_L3 t166 x8_3) x11_43).f2) == ((rd_T53 (rd_L3 l0_1 x8_3) x12_4).f2)) || (!(((rd_T53 (rd_L3 t166 x8_3) x11_43).f3) == ((rd_T53 (rd_L3 l0_1 x8_3) x12_4).f3)))))) = true
      ·rw [if_pos c61] at H
       have c61b0 : (!(((rd_T53 (rd_L3 t166 x8_3) x11_43).f0) == ((rd_T53 (rd_L3 l0_1 x8_3) x12_4).f0)) || (!(((rd_T53 (rd_L3 t166 x8_3) x11_43).f1) == ((rd_T53 (rd_L3 l0_1 x8_3) x12_4).f1)) || (!(((rd_T53 (rd_L3 t166 x8_3) x11_43).f2) == ((rd_T53 (rd_L3 l0_1 x8_3) x12_4).f2)) || (!(((rd_T53 (rd_L3 t166 x8_3) x11_43).f3) == ((rd_T53 (rd_L3 l0_1 x8_3) x12_4).f3)))))) = true := c61
       clear c61
       exact absurd ((Option.some.inj H).trans HT.out) (by simp)
      rw [if_neg c61] at H
      have c61b0 : (!(((rd_T53 (rd_L3 t166 x8_3) x11_43).f0) == ((rd_T53 (rd_L3 l0_1 x8_3) x12_4).f0)) || (!(((rd_T53 (rd_L3 t166 x8_3) x11_43).f1) == ((rd_T53 (rd_L3 l0_1 x8_3) x12_4).f1)) || (!(((rd_T53 (rd_L3 t166 x8_3) x11_43).f2) == ((rd_T53 (rd_L3 l0_1 x8_3) x12_4).f2)) || (!(((rd_T53 (rd_L3 t166 x8_3) x11_43).f3) == ((rd_T53 (rd_L3 l0_1 x8_3) x12_4).f3)))))) = false := by simpa using c61
      clear c61
      have H' := Aside0.mk H
      clear H
      have p178 : 0 ≤ (x11_43 : Int) := of_decide_eq_true as_
      have q178 : x11_43 < ((rd_L3 t166 x8_3).length : Int) := of_decide_eq_true as_
      obtain ⟨ad178, e178, hx178_0, hx178_1, hx178_2, hx178_3, hx178_4⟩ := at_T53 HR171_0.out x11_43 p178 q178
      cases e178
      replace hx178_0 := cl_ HB.out hx178_0
      replace hx178_1 := cl_ HB.out hx178_1
      replace hx178_2 := cl_ HB.out hx178_2
      replace hx178_3 := cl_ HB.out hx178_3
      replace hx178_4 := cl_ HB.out hx178_4
      replace p178 := eq_true p178
      replace q178 := eq_true q178
      go_wp2_with (first | ((with_reducible refine gate_dst (N := 13) rfl ?_); (try (refine gate_guard (by rfl) ?_; dsimp only)); refine box_event ?hg (N := 13) ?hd (cs := #[.int .i64 0, .int .i64 0, .int .i64 0, .int .i64 0, .int .i64 0]) (t := 53) ?hr ?_; (case hd => rfl); (case hg => rfl); (case hr => first | (go_simp; done) | (go_simp; rfl)); intro gb179 hg w62 hbox hb; have n0_ := Aside0.mk (Kd.R_below (rd_ HO_10.out) hb); have n1_ : Aside0 True := ⟨trivial⟩; have n2_ : Aside0 True := ⟨trivial⟩; have n3_ := Aside0.mk (bb_ BK160.out hb); have n4_ := Aside0.mk (bb_ BK169.out hb); have n5_ := Aside0.mk (below_step (hb_ HB.out) hb); have n6_ := Aside0.mk (hbox); have n7_ := Aside0.mk (gs_ hg (hb_ HB.out)); have n8_ := Aside0.mk (gs_ hg (hb_ HB.out)); have n9_ := Aside0.mk (gn_ hg BK160.out); have n10_ := Aside0.mk (gn_ hg BK160.out).symm; have n11_ := Aside0.mk (gn_ hg BK169.out); have n12_ := Aside0.mk (gn_ hg BK169.out).symm; clear HO_10; clear HO_170000; clear HO_170001; clear BK160; clear BK169; clear HB; have HO_10 := n0_; have HO_170000 := n1_; have HO_170001 := n2_; have BK160 := n3_; have BK169 := n4_; have HB := n5_; have BK179 := n6_; have GW179 := n7_; have GE179 := n8_; have NB160_179 := n9_; have NB179_160 := n10_; have NB169_179 := n11_; have NB179_169 := n12_; clear n0_ n1_ n2_ n3_ n4_ n5_ n6_ n7_ n8_ n9_ n10_ n11_ n12_; clear hb hbox hg; have hnb63 := NB179_160.out; have hnc63 := NB160_179.out; have hnb64 := NB179_169.out; have hnc64 := NB169_179.out; have hcz65_0 : w62.cell? ⟨gb179, 0, none⟩ = some (.int .i64 0) := (blk_cell BK179.out 0).trans rfl; have hcz65_1 : w62.cell? ⟨gb179, 1, none⟩ = some (.int .i64 0) := (blk_cell BK179.out 1).trans rfl; have hcz65_2 : w62.cell? ⟨gb179, 2, none⟩ = some (.int .i64 0) := (blk_cell BK179.out 2).trans rfl; have hcz65_3 : w62.cell? ⟨gb179, 3, none⟩ = some (.int .i64 0) := (blk_cell BK179.out 3).trans rfl; have hcz65_4 : w62.cell? ⟨gb179, 4, none⟩ = some (.int .i64 0) := (blk_cell BK179.out 4).trans rfl; have hfz65_0 := blk_frozen BK179.out 0; have hfz65_1 := blk_frozen BK179.out 1; have hfz65_2 := blk_frozen BK179.out 2; have hfz65_3 := blk_frozen BK179.out 3; have hfz65_4 := blk_frozen BK179.out 4; have hnb66 := NB160_169.out; have hnc66 := NB169_160.out; have hcz67_0 : w62.cell? ⟨gb160, 0, none⟩ = some (.slice A0_0 l0_0.length c0_0) := (blk_cell BK160.out 0).trans rfl; have hcz67_1 : w62.cell? ⟨gb160, 1, none⟩ = some (.slice (some ad172) l0_1.length c0_1) := (blk_cell BK160.out 1).trans rfl; have hfz67_0 := blk_frozen BK160.out 0; have hfz67_1 := blk_frozen BK160.out 1; have p180 : 0 ≤ (x8_3 : Int) := of_decide_eq_true as_; have q180 : x8_3 < (l0_1.length : Int) := of_decide_eq_true as_; obtain ⟨ad180, A180_0, c180_0, e180, hx180_0, hl180_0, hi180_0⟩ := at_L3 HR0_1.out x8_3 p180 q180; obtain rfl : ad172 = ad180 := (by injection e180); have hn180_0 : ad172.block ≠ gb179 := Nat.ne_of_lt (bk_ hx180_0 GW179.out); have hn180_1 : ad172.block ≠ gb179 := Nat.ne_of_lt (bk_ hx180_0 GW179.out); have hn180_2 : ad172.block ≠ gb179 := Nat.ne_of_lt (bk_ hx180_0 GW179.out); have hn180_3 : ad172.block ≠ gb179 := Nat.ne_of_lt (bk_ hx180_0 GW179.out); have hn180_4 : ad172.block ≠ gb179 := Nat.ne_of_lt (bk_ hx180_0 GW179.out); replace hx180_0 := cl_ HB.out hx180_0; have HR180_0 := Aside0.mk hi180_0; have HC180_0 := Aside0.mk hl180_0; clear hi180_0 hl180_0; replace hx180_0 := (cell_far (p := ⟨gb179, 0, none⟩) (ne_ hn180_0) (.int .i64 ((rd_T53 (rd_L3 t166 x8_3) x11_43).f0))).trans hx180_0; replace hx180_0 := (cell_far (p := ⟨gb179, 1, none⟩) (ne_ hn180_1) (.int .i64 ((rd_T53 (rd_L3 t166 x8_3) x11_43).f1))).trans hx180_0; replace hx180_0 := (cell_far (p := ⟨gb179, 2, none⟩) (ne_ hn180_2) (.int .i64 ((rd_T53 (rd_L3 t166 x8_3) x11_43).f2))).trans hx180_0; replace hx180_0 := (cell_far (p := ⟨gb179, 3, none⟩) (ne_ hn180_3) (.int .i64 ((rd_T53 (rd_L3 t166 x8_3) x11_43).f3))).trans hx180_0; replace hx180_0 := (cell_far (p := ⟨gb179, 4, none⟩) (ne_ hn180_4) (.int .i64 ((rd_T53 (rd_L3 t166 x8_3) x11_43).f4))).trans hx180_0; (try have hy180_0 := hy5_ hx180_0); clear hn180_0; clear hn180_1; clear hn180_2; clear hn180_3; clear hn180_4; replace p180 := eq_true p180; replace q180 := eq_true q180; have p181 : 0 ≤ (x12_4 : Int) := of_decide_eq_true as_; have q181 : x12_4 < ((rd_L3 l0_1 x8_3).length : Int) := of_decide_eq_true as_; obtain ⟨ad181, e181, hx181_0, hx181_1, hx181_2, hx181_3, hx181_4⟩ := at_T53 HR180_0.out x12_4 p181 q181; cases e181; have hn181_0 : ad181.block ≠ gb179 := Nat.ne_of_lt (bk_ hx181_0 GW179.out); have hn181_1 : ad181.block ≠ gb179 := Nat.ne_of_lt (bk_ hx181_0 GW179.out); have hn181_2 : ad181.block ≠ gb179 := Nat.ne_of_lt (bk_ hx181_0 GW179.out); have hn181_3 : ad181.block ≠ gb179 := Nat.ne_of_lt (bk_ hx181_0 GW179.out); have hn181_4 : ad181.block ≠ gb179 := Nat.ne_of_lt (bk_ hx181_0 GW179.out); replace hx181_0 := cl_ HB.out hx181_0; replace hx181_1 := cl_ HB.out hx181_1; replace hx181_2 := cl_ HB.out hx181_2; replace hx181_3 := cl_ HB.out hx181_3; replace hx181_4 := cl_ HB.out hx181_4; replace hx181_0 := (cell_far (p := ⟨gb179, 0, none⟩) (ne_ hn181_0) (.int .i64 ((rd_T53 (rd_L3 t166 x8_3) x11_43).f0))).trans hx181_0; replace hx181_1 := (cell_far (p := ⟨gb179, 0, none⟩) (ne_ hn181_0) (.int .i64 ((rd_T53 (rd_L3 t166 x8_3) x11_43).f0))).trans hx181_1; replace hx181_2 := (cell_far (p := ⟨gb179, 0, none⟩) (ne_ hn181_0) (.int .i64 ((rd_T53 (rd_L3 t166 x8_3) x11_43).f0))).trans hx181_2; replace hx181_3 := (cell_far (p := ⟨gb179, 0, none⟩) (ne_ hn181_0) (.int .i64 ((rd_T53 (rd_L3 t166 x8_3) x11_43).f0))).trans hx181_3; replace hx181_4 := (cell_far (p := ⟨gb179, 0, none⟩) (ne_ hn181_0) (.int .i64 ((rd_T53 (rd_L3 t166 x8_3) x11_43).f0))).trans hx181_4; replace hx181_0 := (cell_far (p := ⟨gb179, 1, none⟩) (ne_ hn181_1) (.int .i64 ((rd_T53 (rd_L3 t166 x8_3) x11_43).f1))).trans hx181_0; replace hx181_1 := (cell_far (p := ⟨gb179, 1, none⟩) (ne_ hn181_1) (.int .i64 ((rd_T53 (rd_L3 t166 x8_3) x11_43).f1))).trans hx181_1; replace hx181_2 := (cell_far (p := ⟨gb179, 1, none⟩) (ne_ hn181_1) (.int .i64 ((rd_T53 (rd_L3 t166 x8_3) x11_43).f1))).trans hx181_2; replace hx181_3 := (cell_far (p := ⟨gb179, 1, none⟩) (ne_ hn181_1) (.int .i64 ((rd_T53 (rd_L3 t166 x8_3) x11_43).f1))).trans hx181_3; replace hx181_4 := (cell_far (p := ⟨gb179, 1, none⟩) (ne_ hn181_1) (.int .i64 ((rd_T53 (rd_L3 t166 x8_3) x11_43).f1))).trans hx181_4; replace hx181_0 := (cell_far (p := ⟨gb179, 2, none⟩) (ne_ hn181_2) (.int .i64 ((rd_T53 (rd_L3 t166 x8_3) x11_43).f2))).trans hx181_0; replace hx181_1 := (cell_far (p := ⟨gb179, 2, none⟩) (ne_ hn181_2) (.int .i64 ((rd_T53 (rd_L3 t166 x8_3) x11_43).f2))).trans hx181_1; replace hx181_2 := (cell_far (p := ⟨gb179, 2, none⟩) (ne_ hn181_2) (.int .i64 ((rd_T53 (rd_L3 t166 x8_3) x11_43).f2))).trans hx181_2; replace hx181_3 := (cell_far (p := ⟨gb179, 2, none⟩) (ne_ hn181_2) (.int .i64 ((rd_T53 (rd_L3 t166 x8_3) x11_43).f2))).trans hx181_3; replace hx181_4 := (cell_far (p := ⟨gb179, 2, none⟩) (ne_ hn181_2) (.int .i64 ((rd_T53 (rd_L3 t166 x8_3) x11_43).f2))).trans hx181_4; replace hx181_0 := (cell_far (p := ⟨gb179, 3, none⟩) (ne_ hn181_3) (.int .i64 ((rd_T53 (rd_L3 t166 x8_3) x11_43).f3))).trans hx181_0; replace hx181_1 := (cell_far (p := ⟨gb179, 3, none⟩) (ne_ hn181_3) (.int .i64 ((rd_T53 (rd_L3 t166 x8_3) x11_43).f3))).trans hx181_1; replace hx181_2 := (cell_far (p := ⟨gb179, 3, none⟩) (ne_ hn181_3) (.int .i64 ((rd_T53 (rd_L3 t166 x8_3) x11_43).f3))).trans hx181_2; replace hx181_3 := (cell_far (p := ⟨gb179, 3, none⟩) (ne_ hn181_3) (.int .i64 ((rd_T53 (rd_L3 t166 x8_3) x11_43).f3))).trans hx181_3; replace hx181_4 := (cell_far (p := ⟨gb179, 3, none⟩) (ne_ hn181_3) (.int .i64 ((rd_T53 (rd_L3 t166 x8_3) x11_43).f3))).trans hx181_4; replace hx181_0 := (cell_far (p := ⟨gb179, 4, none⟩) (ne_ hn181_4) (.int .i64 ((rd_T53 (rd_L3 t166 x8_3) x11_43).f4))).trans hx181_0; replace hx181_1 := (cell_far (p := ⟨gb179, 4, none⟩) (ne_ hn181_4) (.int .i64 ((rd_T53 (rd_L3 t166 x8_3) x11_43).f4))).trans hx181_1; replace hx181_2 := (cell_far (p := ⟨gb179, 4, none⟩) (ne_ hn181_4) (.int .i64 ((rd_T53 (rd_L3 t166 x8_3) x11_43).f4))).trans hx181_2; replace hx181_3 := (cell_far (p := ⟨gb179, 4, none⟩) (ne_ hn181_4) (.int .i64 ((rd_T53 (rd_L3 t166 x8_3) x11_43).f4))).trans hx181_3; replace hx181_4 := (cell_far (p := ⟨gb179, 4, none⟩) (ne_ hn181_4) (.int .i64 ((rd_T53 (rd_L3 t166 x8_3) x11_43).f4))).trans hx181_4; (try have hy181_0 := hy5_ hx181_0); (try have hy181_1 := hy5_ hx181_1); (try have hy181_2 := hy5_ hx181_2); (try have hy181_3 := hy5_ hx181_3); (try have hy181_4 := hy5_ hx181_4); clear hn181_0; clear hn181_1; clear hn181_2; clear hn181_3; clear hn181_4; replace p181 := eq_true p181; replace q181 := eq_true q181; have p182 : 0 ≤ (x8_3 : Int) := of_decide_eq_true as_; have q182 : x8_3 < (l0_1.length : Int) := of_decide_eq_true as_; obtain ⟨ad182, A182_0, c182_0, e182, hx182_0, hl182_0, hi182_0⟩ := at_L3 HR0_1.out x8_3 p182 q182; obtain rfl : ad172 = ad182 := (by injection e182); have hn182_0 : ad172.block ≠ gb179 := Nat.ne_of_lt (bk_ hx182_0 GW179.out); have hn182_1 : ad172.block ≠ gb179 := Nat.ne_of_lt (bk_ hx182_0 GW179.out); have hn182_2 : ad172.block ≠ gb179 := Nat.ne_of_lt (bk_ hx182_0 GW179.out); have hn182_3 : ad172.block ≠ gb179 := Nat.ne_of_lt (bk_ hx182_0 GW179.out); have hn182_4 : ad172.block ≠ gb179 := Nat.ne_of_lt (bk_ hx182_0 GW179.out); have hn182_5 : ad172.block ≠ gb179 := Nat.ne_of_lt (bk_ hx182_0 GW179.out); replace hx182_0 := cl_ HB.out hx182_0; have HR182_0 := Aside0.mk hi182_0; have HC182_0 := Aside0.mk hl182_0; clear hi182_0 hl182_0; replace hx182_0 := (cell_far (p := ⟨gb179, 0, none⟩) (ne_ hn182_0) (.int .i64 ((rd_T53 (rd_L3 t166 x8_3) x11_43).f0))).trans hx182_0; replace hx182_0 := (cell_far (p := ⟨gb179, 1, none⟩) (ne_ hn182_1) (.int .i64 ((rd_T53 (rd_L3 t166 x8_3) x11_43).f1))).trans hx182_0; replace hx182_0 := (cell_far (p := ⟨gb179, 2, none⟩) (ne_ hn182_2) (.int .i64 ((rd_T53 (rd_L3 t166 x8_3) x11_43).f2))).trans hx182_0; replace hx182_0 := (cell_far (p := ⟨gb179, 3, none⟩) (ne_ hn182_3) (.int .i64 ((rd_T53 (rd_L3 t166 x8_3) x11_43).f3))).trans hx182_0; replace hx182_0 := (cell_far (p := ⟨gb179, 4, none⟩) (ne_ hn182_4) (.int .i64 ((rd_T53 (rd_L3 t166 x8_3) x11_43).f4))).trans hx182_0; replace hx182_0 := (cell_far (p := ⟨gb179, 4, none⟩) (ne_ hn182_5) (.int .i64 ((rd_T53 (rd_L3 l0_1 x8_3) x12_4).f4))).trans hx182_0; (try have hy182_0 := hy6_ hx182_0); clear hn182_0; clear hn182_1; clear hn182_2; clear hn182_3; clear hn182_4; clear hn182_5; replace p182 := eq_true p182; replace q182 := eq_true q182; have p183 : 0 ≤ (x12_4 : Int) := of_decide_eq_true as_; have q183 : x12_4 < ((rd_L3 l0_1 x8_3).length : Int) := of_decide_eq_true as_; obtain ⟨ad183, e183, hx183_0, hx183_1, hx183_2, hx183_3, hx183_4⟩ := at_T53 HR182_0.out x12_4 p183 q183; cases e183; have hn183_0 : ad183.block ≠ gb179 := Nat.ne_of_lt (bk_ hx183_0 GW179.out); have hn183_1 : ad183.block ≠ gb179 := Nat.ne_of_lt (bk_ hx183_0 GW179.out); have hn183_2 : ad183.block ≠ gb179 := Nat.ne_of_lt (bk_ hx183_0 GW179.out); have hn183_3 : ad183.block ≠ gb179 := Nat.ne_of_lt (bk_ hx183_0 GW179.out); have hn183_4 : ad183.block ≠ gb179 := Nat.ne_of_lt (bk_ hx183_0 GW179.out); have hn183_5 : ad183.block ≠ gb179 := Nat.ne_of_lt (bk_ hx183_0 GW179.out); replace hx183_0 := cl_ HB.out hx183_0; replace hx183_1 := cl_ HB.out hx183_1; replace hx183_2 := cl_ HB.out hx183_2; replace hx183_3 := cl_ HB.out hx183_3; replace hx183_4 := cl_ HB.out hx183_4; replace hx183_0 := (cell_far (p := ⟨gb179, 0, none⟩) (ne_ hn183_0) (.int .i64 ((rd_T53 (rd_L3 t166 x8_3) x11_43).f0))).trans hx183_0; replace hx183_1 := (cell_far (p := ⟨gb179, 0, none⟩) (ne_ hn183_0) (.int .i64 ((rd_T53 (rd_L3 t166 x8_3) x11_43).f0))).trans hx183_1; replace hx183_2 := (cell_far (p := ⟨gb179, 0, none⟩) (ne_ hn183_0) (.int .i64 ((rd_T53 (rd_L3 t166 x8_3) x11_43).f0))).trans hx183_2; replace hx183_3 := (cell_far (p := ⟨gb179, 0, none⟩) (ne_ hn183_0) (.int .i64 ((rd_T53 (rd_L3 t166 x8_3) x11_43).f0))).trans hx183_3; replace hx183_4 := (cell_far (p := ⟨gb179, 0, none⟩) (ne_ hn183_0) (.int .i64 ((rd_T53 (rd_L3 t166 x8_3) x11_43).f0))).trans hx183_4; replace hx183_0 := (cell_far (p := ⟨gb179, 1, none⟩) (ne_ hn183_1) (.int .i64 ((rd_T53 (rd_L3 t166 x8_3) x11_43).f1))).trans hx183_0; replace hx183_1 := (cell_far (p := ⟨gb179, 1, none⟩) (ne_ hn183_1) (.int .i64 ((rd_T53 (rd_L3 t166 x8_3) x11_43).f1))).trans hx183_1; replace hx183_2 := (cell_far (p := ⟨gb179, 1, none⟩) (ne_ hn183_1) (.int .i64 ((rd_T53 (rd_L3 t166 x8_3) x11_43).f1))).trans hx183_2; replace hx183_3 := (cell_far (p := ⟨gb179, 1, none⟩) (ne_ hn183_1) (.int .i64 ((rd_T53 (rd_L3 t166 x8_3) x11_43).f1))).trans hx183_3; replace hx183_4 := (cell_far (p := ⟨gb179, 1, none⟩) (ne_ hn183_1) (.int .i64 ((rd_T53 (rd_L3 t166 x8_3) x11_43).f1))).trans hx183_4; replace hx183_0 := (cell_far (p := ⟨gb179, 2, none⟩) (ne_ hn183_2) (.int .i64 ((rd_T53 (rd_L3 t166 x8_3) x11_43).f2))).trans hx183_0; replace hx183_1 := (cell_far (p := ⟨gb179, 2, none⟩) (ne_ hn183_2) (.int .i64 ((rd_T53 (rd_L3 t166 x8_3) x11_43).f2))).trans hx183_1; replace hx183_2 := (cell_far (p := ⟨gb179, 2, none⟩) (ne_ hn183_2) (.int .i64 ((rd_T53 (rd_L3 t166 x8_3) x11_43).f2))).trans hx183_2; replace hx183_3 := (cell_far (p := ⟨gb179, 2, none⟩) (ne_ hn183_2) (.int .i64 ((rd_T53 (rd_L3 t166 x8_3) x11_43).f2))).trans hx183_3; replace hx183_4 := (cell_far (p := ⟨gb179, 2, none⟩) (ne_ hn183_2) (.int .i64 ((rd_T53 (rd_L3 t166 x8_3) x11_43).f2))).trans hx183_4; replace hx183_0 := (cell_far (p := ⟨gb179, 3, none⟩) (ne_ hn183_3) (.int .i64 ((rd_T53 (rd_L3 t166 x8_3) x11_43).f3))).trans hx183_0; replace hx183_1 := (cell_far (p := ⟨gb179, 3, none⟩) (ne_ hn183_3) (.int .i64 ((rd_T53 (rd_L3 t166 x8_3) x11_43).f3))).trans hx183_1; replace hx183_2 := (cell_far (p := ⟨gb179, 3, none⟩) (ne_ hn183_3) (.int .i64 ((rd_T53 (rd_L3 t166 x8_3) x11_43).f3))).trans hx183_2; replace hx183_3 := (cell_far (p := ⟨gb179, 3, none⟩) (ne_ hn183_3) (.int .i64 ((rd_T53 (rd_L3 t166 x8_3) x11_43).f3))).trans hx183_3; replace hx183_4 := (cell_far (p := ⟨gb179, 3, none⟩) (ne_ hn183_3) (.int .i64 ((rd_T53 (rd_L3 t166 x8_3) x11_43).f3))).trans hx183_4; replace hx183_0 := (cell_far (p := ⟨gb179, 4, none⟩) (ne_ hn183_4) (.int .i64 ((rd_T53 (rd_L3 t166 x8_3) x11_43).f4))).trans hx183_0; replace hx183_1 := (cell_far (p := ⟨gb179, 4, none⟩) (ne_ hn183_4) (.int .i64 ((rd_T53 (rd_L3 t166 x8_3) x11_43).f4))).trans hx183_1; replace hx183_2 := (cell_far (p := ⟨gb179, 4, none⟩) (ne_ hn183_4) (.int .i64 ((rd_T53 (rd_L3 t166 x8_3) x11_43).f4))).trans hx183_2; replace hx183_3 := (cell_far (p := ⟨gb179, 4, none⟩) (ne_ hn183_4) (.int .i64 ((rd_T53 (rd_L3 t166 x8_3) x11_43).f4))).trans hx183_3; replace hx183_4 := (cell_far (p := ⟨gb179, 4, none⟩) (ne_ hn183_4) (.int .i64 ((rd_T53 (rd_L3 t166 x8_3) x11_43).f4))).trans hx183_4; replace hx183_0 := (cell_far (p := ⟨gb179, 4, none⟩) (ne_ hn183_5) (.int .i64 ((rd_T53 (rd_L3 l0_1 x8_3) x12_4).f4))).trans hx183_0; replace hx183_1 := (cell_far (p := ⟨gb179, 4, none⟩) (ne_ hn183_5) (.int .i64 ((rd_T53 (rd_L3 l0_1 x8_3) x12_4).f4))).trans hx183_1; replace hx183_2 := (cell_far (p := ⟨gb179, 4, none⟩) (ne_ hn183_5) (.int .i64 ((rd_T53 (rd_L3 l0_1 x8_3) x12_4).f4))).trans hx183_2; replace hx183_3 := (cell_far (p := ⟨gb179, 4, none⟩) (ne_ hn183_5) (.int .i64 ((rd_T53 (rd_L3 l0_1 x8_3) x12_4).f4))).trans hx183_3; replace hx183_4 := (cell_far (p := ⟨gb179, 4, none⟩) (ne_ hn183_5) (.int .i64 ((rd_T53 (rd_L3 l0_1 x8_3) x12_4).f4))).trans hx183_4; (try have hy183_0 := hy6_ hx183_0); (try have hy183_1 := hy6_ hx183_1); (try have hy183_2 := hy6_ hx183_2); (try have hy183_3 := hy6_ hx183_3); (try have hy183_4 := hy6_ hx183_4); have hz_ := hz5_ (x0 := (.int .i64 ((rd_T53 (rd_L3 t166 x8_3) x11_43).f0))) (x1 := (.int .i64 ((rd_T53 (rd_L3 t166 x8_3) x11_43).f1))) (x2 := (.int .i64 ((rd_T53 (rd_L3 t166 x8_3) x11_43).f2))) (x3 := (.int .i64 ((rd_T53 (rd_L3 t166 x8_3) x11_43).f3))) (x4 := (.int .i64 ((rd_T53 (rd_L3 t166 x8_3) x11_43).f4))) (x5 := (.int .i64 ((rd_T53 (rd_L3 l0_1 x8_3) x12_4).f4))) hcz65_4; clear hn183_0; clear hn183_1; clear hn183_2; clear hn183_3; clear hn183_4; clear hn183_5; replace p183 := eq_true p183; replace q183 := eq_true q183))
      repeat ((refine wp_region_quiet_lit (by decide +kernel) (by decide +kernel) ?_); (repeat (first | go_big_quiet_skip | (go_big_quiet_want; go_big_quiet_op; go_big_quiet_on))); refine wpQuiet_nil ?_; intro _ hw'; obtain ⟨nq, hw''⟩ := hw'; subst hw''; try go_wp2_with (first | ((with_reducible refine gate_dst (N := 13) rfl ?_); (try (refine gate_guard (by rfl) ?_; dsimp only)); refine box_event ?hg (N := 13) ?hd (cs := #[.int .i64 0, .int .i64 0, .int .i64 0, .int .i64 0, .int .i64 0]) (t := 53) ?hr ?_; (case hd => rfl); (case hg => rfl); (case hr => first | (go_simp; done) | (go_simp; rfl)); intro gb179 hg w62 hbox hb; have n0_ := Aside0.mk (Kd.R_below (rd_ HO_10.out) hb); have n1_ : Aside0 True := ⟨trivial⟩; have n2_ : Aside0 True := ⟨trivial⟩; have n3_ := Aside0.mk (bb_ BK160.out hb); have n4_ := Aside0.mk (bb_ BK169.out hb); have n5_ := Aside0.mk (below_step (hb_ HB.out) hb); have n6_ := Aside0.mk (hbox); have n7_ := Aside0.mk (gs_ hg (hb_ HB.out)); have n8_ := Aside0.mk (gs_ hg (hb_ HB.out)); have n9_ := Aside0.mk (gn_ hg BK160.out); have n10_ := Aside0.mk (gn_ hg BK160.out).symm; have n11_ := Aside0.mk (gn_ hg BK169.out); have n12_ := Aside0.mk (gn_ hg BK169.out).symm; clear HO_10; clear HO_170000; clear HO_170001; clear BK160; clear BK169; clear HB; have HO_10 := n0_; have HO_170000 := n1_; have HO_170001 := n2_; have BK160 := n3_; have BK169 := n4_; have HB := n5_; have BK179 := n6_; have GW179 := n7_; have GE179 := n8_; have NB160_179 := n9_; have NB179_160 := n10_; have NB169_179 := n11_; have NB179_169 := n12_; clear n0_ n1_ n2_ n3_ n4_ n5_ n6_ n7_ n8_ n9_ n10_ n11_ n12_; clear hb hbox hg; have hnb63 := NB179_160.out; have hnc63 := NB160_179.out; have hnb64 := NB179_169.out; have hnc64 := NB169_179.out; have hcz65_0 : w62.cell? ⟨gb179, 0, none⟩ = some (.int .i64 0) := (blk_cell BK179.out 0).trans rfl; have hcz65_1 : w62.cell? ⟨gb179, 1, none⟩ = some (.int .i64 0) := (blk_cell BK179.out 1).trans rfl; have hcz65_2 : w62.cell? ⟨gb179, 2, none⟩ = some (.int .i64 0) := (blk_cell BK179.out 2).trans rfl; have hcz65_3 : w62.cell? ⟨gb179, 3, none⟩ = some (.int .i64 0) := (blk_cell BK179.out 3).trans rfl; have hcz65_4 : w62.cell? ⟨gb179, 4, none⟩ = some (.int .i64 0) := (blk_cell BK179.out 4).trans rfl; have hfz65_0 := blk_frozen BK179.out 0; have hfz65_1 := blk_frozen BK179.out 1; have hfz65_2 := blk_frozen BK179.out 2; have hfz65_3 := blk_frozen BK179.out 3; have hfz65_4 := blk_frozen BK179.out 4; have hnb66 := NB160_169.out; have hnc66 := NB169_160.out; have hcz67_0 : w62.cell? ⟨gb160, 0, none⟩ = some (.slice A0_0 l0_0.length c0_0) := (blk_cell BK160.out 0).trans rfl; have hcz67_1 : w62.cell? ⟨gb160, 1, none⟩ = some (.slice (some ad172) l0_1.length c0_1) := (blk_cell BK160.out 1).trans rfl; have hfz67_0 := blk_frozen BK160.out 0; have hfz67_1 := blk_frozen BK160.out 1; have p180 : 0 ≤ (x8_3 : Int) := of_decide_eq_true as_; have q180 : x8_3 < (l0_1.length : Int) := of_decide_eq_true as_; obtain ⟨ad180, A180_0, c180_0, e180, hx180_0, hl180_0, hi180_0⟩ := at_L3 HR0_1.out x8_3 p180 q180; obtain rfl : ad172 = ad180 := (by injection e180); have hn180_0 : ad172.block ≠ gb179 := Nat.ne_of_lt (bk_ hx180_0 GW179.out); have hn180_1 : ad172.block ≠ gb179 := Nat.ne_of_lt (bk_ hx180_0 GW179.out); have hn180_2 : ad172.block ≠ gb179 := Nat.ne_of_lt (bk_ hx180_0 GW179.out); have hn180_3 : ad172.block ≠ gb179 := Nat.ne_of_lt (bk_ hx180_0 GW179.out); have hn180_4 : ad172.block ≠ gb179 := Nat.ne_of_lt (bk_ hx180_0 GW179.out); replace hx180_0 := cl_ HB.out hx180_0; have HR180_0 := Aside0.mk hi180_0; have HC180_0 := Aside0.mk hl180_0; clear hi180_0 hl180_0; replace hx180_0 := (cell_far (p := ⟨gb179, 0, none⟩) (ne_ hn180_0) (.int .i64 ((rd_T53 (rd_L3 t166 x8_3) x11_43).f0))).trans hx180_0; replace hx180_0 := (cell_far (p := ⟨gb179, 1, none⟩) (ne_ hn180_1) (.int .i64 ((rd_T53 (rd_L3 t166 x8_3) x11_43).f1))).trans hx180_0; replace hx180_0 := (cell_far (p := ⟨gb179, 2, none⟩) (ne_ hn180_2) (.int .i64 ((rd_T53 (rd_L3 t166 x8_3) x11_43).f2))).trans hx180_0; replace hx180_0 := (cell_far (p := ⟨gb179, 3, none⟩) (ne_ hn180_3) (.int .i64 ((rd_T53 (rd_L3 t166 x8_3) x11_43).f3))).trans hx180_0; replace hx180_0 := (cell_far (p := ⟨gb179, 4, none⟩) (ne_ hn180_4) (.int .i64 ((rd_T53 (rd_L3 t166 x8_3) x11_43).f4))).trans hx180_0; (try have hy180_0 := hy5_ hx180_0); clear hn180_0; clear hn180_1; clear hn180_2; clear hn180_3; clear hn180_4; replace p180 := eq_true p180; replace q180 := eq_true q180; have p181 : 0 ≤ (x12_4 : Int) := of_decide_eq_true as_; have q181 : x12_4 < ((rd_L3 l0_1 x8_3).length : Int) := of_decide_eq_true as_; obtain ⟨ad181, e181, hx181_0, hx181_1, hx181_2, hx181_3, hx181_4⟩ := at_T53 HR180_0.out x12_4 p181 q181; cases e181; have hn181_0 : ad181.block ≠ gb179 := Nat.ne_of_lt (bk_ hx181_0 GW179.out); have hn181_1 : ad181.block ≠ gb179 := Nat.ne_of_lt (bk_ hx181_0 GW179.out); have hn181_2 : ad181.block ≠ gb179 := Nat.ne_of_lt (bk_ hx181_0 GW179.out); have hn181_3 : ad181.block ≠ gb179 := Nat.ne_of_lt (bk_ hx181_0 GW179.out); have hn181_4 : ad181.block ≠ gb179 := Nat.ne_of_lt (bk_ hx181_0 GW179.out); replace hx181_0 := cl_ HB.out hx181_0; replace hx181_1 := cl_ HB.out hx181_1; replace hx181_2 := cl_ HB.out hx181_2; replace hx181_3 := cl_ HB.out hx181_3; replace hx181_4 := cl_ HB.out hx181_4; replace hx181_0 := (cell_far (p := ⟨gb179, 0, none⟩) (ne_ hn181_0) (.int .i64 ((rd_T53 (rd_L3 t166 x8_3) x11_43).f0))).trans hx181_0; replace hx181_1 := (cell_far (p := ⟨gb179, 0, none⟩) (ne_ hn181_0) (.int .i64 ((rd_T53 (rd_L3 t166 x8_3) x11_43).f0))).trans hx181_1; replace hx181_2 := (cell_far (p := ⟨gb179, 0, none⟩) (ne_ hn181_0) (.int .i64 ((rd_T53 (rd_L3 t166 x8_3) x11_43).f0))).trans hx181_2; replace hx181_3 := (cell_far (p := ⟨gb179, 0, none⟩) (ne_ hn181_0) (.int .i64 ((rd_T53 (rd_L3 t166 x8_3) x11_43).f0))).trans hx181_3; replace hx181_4 := (cell_far (p := ⟨gb179, 0, none⟩) (ne_ hn181_0) (.int .i64 ((rd_T53 (rd_L3 t166 x8_3) x11_43).f0))).trans hx181_4; replace hx181_0 := (cell_far (p := ⟨gb179, 1, none⟩) (ne_ hn181_1) (.int .i64 ((rd_T53 (rd_L3 t166 x8_3) x11_43).f1))).trans hx181_0; replace hx181_1 := (cell_far (p := ⟨gb179, 1, none⟩) (ne_ hn181_1) (.int .i64 ((rd_T53 (rd_L3 t166 x8_3) x11_43).f1))).trans hx181_1; replace hx181_2 := (cell_far (p := ⟨gb179, 1, none⟩) (ne_ hn181_1) (.int .i64 ((rd_T53 (rd_L3 t166 x8_3) x11_43).f1))).trans hx181_2; replace hx181_3 := (cell_far (p := ⟨gb179, 1, none⟩) (ne_ hn181_1) (.int .i64 ((rd_T53 (rd_L3 t166 x8_3) x11_43).f1))).trans hx181_3; replace hx181_4 := (cell_far (p := ⟨gb179, 1, none⟩) (ne_ hn181_1) (.int .i64 ((rd_T53 (rd_L3 t166 x8_3) x11_43).f1))).trans hx181_4; replace hx181_0 := (cell_far (p := ⟨gb179, 2, none⟩) (ne_ hn181_2) (.int .i64 ((rd_T53 (rd_L3 t166 x8_3) x11_43).f2))).trans hx181_0; replace hx181_1 := (cell_far (p := ⟨gb179, 2, none⟩) (ne_ hn181_2) (.int .i64 ((rd_T53 (rd_L3 t166 x8_3) x11_43).f2))).trans hx181_1; replace hx181_2 := (cell_far (p := ⟨gb179, 2, none⟩) (ne_ hn181_2) (.int .i64 ((rd_T53 (rd_L3 t166 x8_3) x11_43).f2))).trans hx181_2; replace hx181_3 := (cell_far (p := ⟨gb179, 2, none⟩) (ne_ hn181_2) (.int .i64 ((rd_T53 (rd_L3 t166 x8_3) x11_43).f2))).trans hx181_3; replace hx181_4 := (cell_far (p := ⟨gb179, 2, none⟩) (ne_ hn181_2) (.int .i64 ((rd_T53 (rd_L3 t166 x8_3) x11_43).f2))).trans hx181_4; replace hx181_0 := (cell_far (p := ⟨gb179, 3, none⟩) (ne_ hn181_3) (.int .i64 ((rd_T53 (rd_L3 t166 x8_3) x11_43).f3))).trans hx181_0; replace hx181_1 := (cell_far (p := ⟨gb179, 3, none⟩) (ne_ hn181_3) (.int .i64 ((rd_T53 (rd_L3 t166 x8_3) x11_43).f3))).trans hx181_1; replace hx181_2 := (cell_far (p := ⟨gb179, 3, none⟩) (ne_ hn181_3) (.int .i64 ((rd_T53 (rd_L3 t166 x8_3) x11_43).f3))).trans hx181_2; replace hx181_3 := (cell_far (p := ⟨gb179, 3, none⟩) (ne_ hn181_3) (.int .i64 ((rd_T53 (rd_L3 t166 x8_3) x11_43).f3))).trans hx181_3; replace hx181_4 := (cell_far (p := ⟨gb179, 3, none⟩) (ne_ hn181_3) (.int .i64 ((rd_T53 (rd_L3 t166 x8_3) x11_43).f3))).trans hx181_4; replace hx181_0 := (cell_far (p := ⟨gb179, 4, none⟩) (ne_ hn181_4) (.int .i64 ((rd_T53 (rd_L3 t166 x8_3) x11_43).f4))).trans hx181_0; replace hx181_1 := (cell_far (p := ⟨gb179, 4, none⟩) (ne_ hn181_4) (.int .i64 ((rd_T53 (rd_L3 t166 x8_3) x11_43).f4))).trans hx181_1; replace hx181_2 := (cell_far (p := ⟨gb179, 4, none⟩) (ne_ hn181_4) (.int .i64 ((rd_T53 (rd_L3 t166 x8_3) x11_43).f4))).trans hx181_2; replace hx181_3 := (cell_far (p := ⟨gb179, 4, none⟩) (ne_ hn181_4) (.int .i64 ((rd_T53 (rd_L3 t166 x8_3) x11_43).f4))).trans hx181_3; replace hx181_4 := (cell_far (p := ⟨gb179, 4, none⟩) (ne_ hn181_4) (.int .i64 ((rd_T53 (rd_L3 t166 x8_3) x11_43).f4))).trans hx181_4; (try have hy181_0 := hy5_ hx181_0); (try have hy181_1 := hy5_ hx181_1); (try have hy181_2 := hy5_ hx181_2); (try have hy181_3 := hy5_ hx181_3); (try have hy181_4 := hy5_ hx181_4); clear hn181_0; clear hn181_1; clear hn181_2; clear hn181_3; clear hn181_4; replace p181 := eq_true p181; replace q181 := eq_true q181; have p182 : 0 ≤ (x8_3 : Int) := of_decide_eq_true as_; have q182 : x8_3 < (l0_1.length : Int) := of_decide_eq_true as_; obtain ⟨ad182, A182_0, c182_0, e182, hx182_0, hl182_0, hi182_0⟩ := at_L3 HR0_1.out x8_3 p182 q182; obtain rfl : ad172 = ad182 := (by injection e182); have hn182_0 : ad172.block ≠ gb179 := Nat.ne_of_lt (bk_ hx182_0 GW179.out); have hn182_1 : ad172.block ≠ gb179 := Nat.ne_of_lt (bk_ hx182_0 GW179.out); have hn182_2 : ad172.block ≠ gb179 := Nat.ne_of_lt (bk_ hx182_0 GW179.out); have hn182_3 : ad172.block ≠ gb179 := Nat.ne_of_lt (bk_ hx182_0 GW179.out); have hn182_4 : ad172.block ≠ gb179 := Nat.ne_of_lt (bk_ hx182_0 GW179.out); have hn182_5 : ad172.block ≠ gb179 := Nat.ne_of_lt (bk_ hx182_0 GW179.out); replace hx182_0 := cl_ HB.out hx182_0; have HR182_0 := Aside0.mk hi182_0; have HC182_0 := Aside0.mk hl182_0; clear hi182_0 hl182_0; replace hx182_0 := (cell_far (p := ⟨gb179, 0, none⟩) (ne_ hn182_0) (.int .i64 ((rd_T53 (rd_L3 t166 x8_3) x11_43).f0))).trans hx182_0; replace hx182_0 := (cell_far (p := ⟨gb179, 1, none⟩) (ne_ hn182_1) (.int .i64 ((rd_T53 (rd_L3 t166 x8_3) x11_43).f1))).trans hx182_0; replace hx182_0 := (cell_far (p := ⟨gb179, 2, none⟩) (ne_ hn182_2) (.int .i64 ((rd_T53 (rd_L3 t166 x8_3) x11_43).f2))).trans hx182_0; replace hx182_0 := (cell_far (p := ⟨gb179, 3, none⟩) (ne_ hn182_3) (.int .i64 ((rd_T53 (rd_L3 t166 x8_3) x11_43).f3))).trans hx182_0; replace hx182_0 := (cell_far (p := ⟨gb179, 4, none⟩) (ne_ hn182_4) (.int .i64 ((rd_T53 (rd_L3 t166 x8_3) x11_43).f4))).trans hx182_0; replace hx182_0 := (cell_far (p := ⟨gb179, 4, none⟩) (ne_ hn182_5) (.int .i64 ((rd_T53 (rd_L3 l0_1 x8_3) x12_4).f4))).trans hx182_0; (try have hy182_0 := hy6_ hx182_0); clear hn182_0; clear hn182_1; clear hn182_2; clear hn182_3; clear hn182_4; clear hn182_5; replace p182 := eq_true p182; replace q182 := eq_true q182; have p183 : 0 ≤ (x12_4 : Int) := of_decide_eq_true as_; have q183 : x12_4 < ((rd_L3 l0_1 x8_3).length : Int) := of_decide_eq_true as_; obtain ⟨ad183, e183, hx183_0, hx183_1, hx183_2, hx183_3, hx183_4⟩ := at_T53 HR182_0.out x12_4 p183 q183; cases e183; have hn183_0 : ad183.block ≠ gb179 := Nat.ne_of_lt (bk_ hx183_0 GW179.out); have hn183_1 : ad183.block ≠ gb179 := Nat.ne_of_lt (bk_ hx183_0 GW179.out); have hn183_2 : ad183.block ≠ gb179 := Nat.ne_of_lt (bk_ hx183_0 GW179.out); have hn183_3 : ad183.block ≠ gb179 := Nat.ne_of_lt (bk_ hx183_0 GW179.out); have hn183_4 : ad183.block ≠ gb179 := Nat.ne_of_lt (bk_ hx183_0 GW179.out); have hn183_5 : ad183.block ≠ gb179 := Nat.ne_of_lt (bk_ hx183_0 GW179.out); replace hx183_0 := cl_ HB.out hx183_0; replace hx183_1 := cl_ HB.out hx183_1; replace hx183_2 := cl_ HB.out hx183_2; replace hx183_3 := cl_ HB.out hx183_3; replace hx183_4 := cl_ HB.out hx183_4; replace hx183_0 := (cell_far (p := ⟨gb179, 0, none⟩) (ne_ hn183_0) (.int .i64 ((rd_T53 (rd_L3 t166 x8_3) x11_43).f0))).trans hx183_0; replace hx183_1 := (cell_far (p := ⟨gb179, 0, none⟩) (ne_ hn183_0) (.int .i64 ((rd_T53 (rd_L3 t166 x8_3) x11_43).f0))).trans hx183_1; replace hx183_2 := (cell_far (p := ⟨gb179, 0, none⟩) (ne_ hn183_0) (.int .i64 ((rd_T53 (rd_L3 t166 x8_3) x11_43).f0))).trans hx183_2; replace hx183_3 := (cell_far (p := ⟨gb179, 0, none⟩) (ne_ hn183_0) (.int .i64 ((rd_T53 (rd_L3 t166 x8_3) x11_43).f0))).trans hx183_3; replace hx183_4 := (cell_far (p := ⟨gb179, 0, none⟩) (ne_ hn183_0) (.int .i64 ((rd_T53 (rd_L3 t166 x8_3) x11_43).f0))).trans hx183_4; replace hx183_0 := (cell_far (p := ⟨gb179, 1, none⟩) (ne_ hn183_1) (.int .i64 ((rd_T53 (rd_L3 t166 x8_3) x11_43).f1))).trans hx183_0; replace hx183_1 := (cell_far (p := ⟨gb179, 1, none⟩) (ne_ hn183_1) (.int .i64 ((rd_T53 (rd_L3 t166 x8_3) x11_43).f1))).trans hx183_1; replace hx183_2 := (cell_far (p := ⟨gb179, 1, none⟩) (ne_ hn183_1) (.int .i64 ((rd_T53 (rd_L3 t166 x8_3) x11_43).f1))).trans hx183_2; replace hx183_3 := (cell_far (p := ⟨gb179, 1, none⟩) (ne_ hn183_1) (.int .i64 ((rd_T53 (rd_L3 t166 x8_3) x11_43).f1))).trans hx183_3; replace hx183_4 := (cell_far (p := ⟨gb179, 1, none⟩) (ne_ hn183_1) (.int .i64 ((rd_T53 (rd_L3 t166 x8_3) x11_43).f1))).trans hx183_4; replace hx183_0 := (cell_far (p := ⟨gb179, 2, none⟩) (ne_ hn183_2) (.int .i64 ((rd_T53 (rd_L3 t166 x8_3) x11_43).f2))).trans hx183_0; replace hx183_1 := (cell_far (p := ⟨gb179, 2, none⟩) (ne_ hn183_2) (.int .i64 ((rd_T53 (rd_L3 t166 x8_3) x11_43).f2))).trans hx183_1; replace hx183_2 := (cell_far (p := ⟨gb179, 2, none⟩) (ne_ hn183_2) (.int .i64 ((rd_T53 (rd_L3 t166 x8_3) x11_43).f2))).trans hx183_2; replace hx183_3 := (cell_far (p := ⟨gb179, 2, none⟩) (ne_ hn183_2) (.int .i64 ((rd_T53 (rd_L3 t166 x8_3) x11_43).f2))).trans hx183_3; replace hx183_4 := (cell_far (p := ⟨gb179, 2, none⟩) (ne_ hn183_2) (.int .i64 ((rd_T53 (rd_L3 t166 x8_3) x11_43).f2))).trans hx183_4; replace hx183_0 := (cell_far (p := ⟨gb179, 3, none⟩) (ne_ hn183_3) (.int .i64 ((rd_T53 (rd_L3 t166 x8_3) x11_43).f3))).trans hx183_0; replace hx183_1 := (cell_far (p := ⟨gb179, 3, none⟩) (ne_ hn183_3) (.int .i64 ((rd_T53 (rd_L3 t166 x8_3) x11_43).f3))).trans hx183_1; replace hx183_2 := (cell_far (p := ⟨gb179, 3, none⟩) (ne_ hn183_3) (.int .i64 ((rd_T53 (rd_L3 t166 x8_3) x11_43).f3))).trans hx183_2; replace hx183_3 := (cell_far (p := ⟨gb179, 3, none⟩) (ne_ hn183_3) (.int .i64 ((rd_T53 (rd_L3 t166 x8_3) x11_43).f3))).trans hx183_3; replace hx183_4 := (cell_far (p := ⟨gb179, 3, none⟩) (ne_ hn183_3) (.int .i64 ((rd_T53 (rd_L3 t166 x8_3) x11_43).f3))).trans hx183_4; replace hx183_0 := (cell_far (p := ⟨gb179, 4, none⟩) (ne_ hn183_4) (.int .i64 ((rd_T53 (rd_L3 t166 x8_3) x11_43).f4))).trans hx183_0; replace hx183_1 := (cell_far (p := ⟨gb179, 4, none⟩) (ne_ hn183_4) (.int .i64 ((rd_T53 (rd_L3 t166 x8_3) x11_43).f4))).trans hx183_1; replace hx183_2 := (cell_far (p := ⟨gb179, 4, none⟩) (ne_ hn183_4) (.int .i64 ((rd_T53 (rd_L3 t166 x8_3) x11_43).f4))).trans hx183_2; replace hx183_3 := (cell_far (p := ⟨gb179, 4, none⟩) (ne_ hn183_4) (.int .i64 ((rd_T53 (rd_L3 t166 x8_3) x11_43).f4))).trans hx183_3; replace hx183_4 := (cell_far (p := ⟨gb179, 4, none⟩) (ne_ hn183_4) (.int .i64 ((rd_T53 (rd_L3 t166 x8_3) x11_43).f4))).trans hx183_4; replace hx183_0 := (cell_far (p := ⟨gb179, 4, none⟩) (ne_ hn183_5) (.int .i64 ((rd_T53 (rd_L3 l0_1 x8_3) x12_4).f4))).trans hx183_0; replace hx183_1 := (cell_far (p := ⟨gb179, 4, none⟩) (ne_ hn183_5) (.int .i64 ((rd_T53 (rd_L3 l0_1 x8_3) x12_4).f4))).trans hx183_1; replace hx183_2 := (cell_far (p := ⟨gb179, 4, none⟩) (ne_ hn183_5) (.int .i64 ((rd_T53 (rd_L3 l0_1 x8_3) x12_4).f4))).trans hx183_2; replace hx183_3 := (cell_far (p := ⟨gb179, 4, none⟩) (ne_ hn183_5) (.int .i64 ((rd_T53 (rd_L3 l0_1 x8_3) x12_4).f4))).trans hx183_3; replace hx183_4 := (cell_far (p := ⟨gb179, 4, none⟩) (ne_ hn183_5) (.int .i64 ((rd_T53 (rd_L3 l0_1 x8_3) x12_4).f4))).trans hx183_4; (try have hy183_0 := hy6_ hx183_0); (try have hy183_1 := hy6_ hx183_1); (try have hy183_2 := hy6_ hx183_2); (try have hy183_3 := hy6_ hx183_3); (try have hy183_4 := hy6_ hx183_4); have hz_ := hz5_ (x0 := (.int .i64 ((rd_T53 (rd_L3 t166 x8_3) x11_43).f0))) (x1 := (.int .i64 ((rd_T53 (rd_L3 t166 x8_3) x11_43).f1))) (x2 := (.int .i64 ((rd_T53 (rd_L3 t166 x8_3) x11_43).f2))) (x3 := (.int .i64 ((rd_T53 (rd_L3 t166 x8_3) x11_43).f3))) (x4 := (.int .i64 ((rd_T53 (rd_L3 t166 x8_3) x11_43).f4))) (x5 := (.int .i64 ((rd_T53 (rd_L3 l0_1 x8_3) x12_4).f4))) hcz65_4; clear hn183_0; clear hn183_1; clear hn183_2; clear hn183_3; clear hn183_4; clear hn183_5; replace p183 := eq_true p183; replace q183 := eq_true q183)))
      go_roundg kj43
      case measure => have := HJ3.out; have := HJ14.out; have := HK3.out; have := HK4.out; have := HJ43.out; omega
      case rel => exact ⟨(wrap64 (x7_4 + 1)), (y173), (wrap64 (x11_43 + 1)), (wrap64 (x12_4 + 1)), rf_, rf_, rf_, H', ⟨by have := HJ3.out; have := HJ14.out; have := HK3.out; have := HK4.out; have := HJ43.out; omega⟩, ⟨by (with_reducible repeat (first | apply Kd.R_alloc | apply Kd.R_drewN | apply Kd.R_drew)); exact Kd.R_mono (Kd.R_far (p := ⟨gb179, 4, none⟩) (Kd.R_far (p := ⟨gb179, 4, none⟩) (Kd.R_far (p := ⟨gb179, 3, none⟩) (Kd.R_far (p := ⟨gb179, 2, none⟩) (Kd.R_far (p := ⟨gb179, 1, none⟩) (Kd.R_far (p := ⟨gb179, 0, none⟩) (Kd.R_types HO_10.out BK179.out (by decide)) (fun _ hk => hk.2) (.int .i64 ((rd_T53 (rd_L3 t166 x8_3) x11_43).f0))) (fun _ hk => hk.2) (.int .i64 ((rd_T53 (rd_L3 t166 x8_3) x11_43).f1))) (fun _ hk => hk.2) (.int .i64 ((rd_T53 (rd_L3 t166 x8_3) x11_43).f2))) (fun _ hk => hk.2) (.int .i64 ((rd_T53 (rd_L3 t166 x8_3) x11_43).f3))) (fun _ hk => hk.2) (.int .i64 ((rd_T53 (rd_L3 t166 x8_3) x11_43).f4))) (fun _ hk => hk.2) (.int .i64 ((rd_T53 (rd_L3 l0_1 x8_3) x12_4).f4))) (fun _ hk => hk.1)⟩, ⟨trivial⟩, ⟨trivial⟩, ⟨by (with_reducible repeat (first | refine blk_drewN ?_ _ | refine blk_drew ?_ | refine blk_alloc ?_ _)); refine blk_far ?_ NB160_179.out _; (with_reducible repeat (first | refine blk_drewN ?_ _ | refine blk_drew ?_ | refine blk_alloc ?_ _)); refine blk_far ?_ NB160_179.out _; (with_reducible repeat (first | refine blk_drewN ?_ _ | refine blk_drew ?_ | refine blk_alloc ?_ _)); refine blk_far ?_ NB160_179.out _; (with_reducible repeat (first | refine blk_drewN ?_ _ | refine blk_drew ?_ | refine blk_alloc ?_ _)); refine blk_far ?_ NB160_179.out _; (with_reducible repeat (first | refine blk_drewN ?_ _ | refine blk_drew ?_ | refine blk_alloc ?_ _)); refine blk_far ?_ NB160_179.out _; (with_reducible repeat (first | refine blk_drewN ?_ _ | refine blk_drew ?_ | refine blk_alloc ?_ _)); refine blk_far ?_ NB160_179.out _; (with_reducible repeat (first | refine blk_drewN ?_ _ | refine blk_drew ?_ | refine blk_alloc ?_ _)); exact BK160.out⟩, ⟨by (with_reducible repeat (first | refine blk_drewN ?_ _ | refine blk_drew ?_ | refine blk_alloc ?_ _)); refine blk_far ?_ NB169_179.out _; (with_reducible repeat (first | refine blk_drewN ?_ _ | refine blk_drew ?_ | refine blk_alloc ?_ _)); refine blk_far ?_ NB169_179.out _; (with_reducible repeat (first | refine blk_drewN ?_ _ | refine blk_drew ?_ | refine blk_alloc ?_ _)); refine blk_far ?_ NB169_179.out _; (with_reducible repeat (first | refine blk_drewN ?_ _ | refine blk_drew ?_ | refine blk_alloc ?_ _)); refine blk_far ?_ NB169_179.out _; (with_reducible repeat (first | refine blk_drewN ?_ _ | refine blk_drew ?_ | refine blk_alloc ?_ _)); refine blk_far ?_ NB169_179.out _; (with_reducible repeat (first | refine blk_drewN ?_ _ | refine blk_drew ?_ | refine blk_alloc ?_ _)); refine blk_far ?_ NB169_179.out _; (with_reducible repeat (first | refine blk_drewN ?_ _ | refine blk_drew ?_ | refine blk_alloc ?_ _)); exact BK169.out⟩, ⟨hb_ HB.out⟩⟩
end Go.Proofs.Ytijpfonbeepmfaa.Print
