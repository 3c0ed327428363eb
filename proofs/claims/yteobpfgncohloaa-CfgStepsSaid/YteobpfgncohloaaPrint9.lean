-- Written by ownprint.py (this session's) with the kit's print.py: functions, contracts, rows; Lean checks it.
import Derived.Test.YteobpfgncohloaaPrint0
import Derived.Test.YteobpfgncohloaaPrint1
import Derived.Test.YteobpfgncohloaaPrint5
import Derived.Test.YteobpfgncohloaaHSq
import Derived.Test.YteobpfgncohloaaPrint8
import Derived.Test.YteobpfgncohloaaHRun
namespace Go.Proofs.Yteobpfgncohloaa.Print
open Go.RowKit Go.Proofs.YteobpfgncohloaaW.PrintWords Go.Proofs.YteobpfgncohloaaW.PrintLast Go.Proofs.YteobpfgncohloaaW.PrintMore
attribute [local go_sem] max2_int min2_int max_two min_two max_three min_three max_four min_four   -- for this text's walks alone
set_option linter.unusedVariables false
set_option linter.unusedSimpArgs false
def fencepostlaw18_CfgSteps.l0 : Nat → Bool → Int → List Int → List (List (S42)) → List Int → List (S39) → Option (Bool)
 | 0, _, _, _, _, _, _ => none
 | k + 1, x7, x11, x329000, x329001, x340000, x340001 => if x11 < (x340001.length : Int) then (if 0 ≤ x11 then (if x11 < (x329001.length : Int) then ((cfg_Met.f k (rd_L2 x329001 x11)).bind fun t341 => (if (t341.length : Int) = (wrap64 (((rd_L2 x329001 x11).length : Int) + 1)) then (if 0 ≤ ((rd_T39 x340001 x11).f0) then (if ((rd_T39 x340001 x11).f0) < (t341.length : Int) then (if (rdOf false t341 ((rd_T39 x340001 x11).f0) = true) then (fencepostlaw18_CfgSteps.l0 k x7 (wrap64 (x11 + 1)) x329000 x329001 x340000 x340001) else (some false)) else (none)) else (none)) else (some false))) else (none)) else (none)) else (some x7)
def fencepostlaw18_CfgSteps.f (k : Nat) (l0_0 : List Int) (l0_1 : List (List (S42))) (l1 : List (S51)) (a2 : Bool) : Option (Bool) := (fencepostlaw18_head.f k).bind fun t329 => ((fencepostlaw13_Great.f k l0_0 l0_1 l1).bind fun t330 => (if t330 = true then (some t329) else ((fencepostref13_Run.f l0_0 l0_1 l1 a2).bind fun bt331 => (fencepostlaw18_CfgSteps.l0 k t329 0 l0_0 l0_1 bt331.1 bt331.2.1))))
set_option maxHeartbeats 8000000 in
set_option maxRecDepth 100000 in
theorem fencepostlaw18_CfgSteps.calls (k : Nat) (A0_0 : Option Addr) (c0_0 : Nat) (l0_0 : List Int) (A0_1 : Option Addr) (c0_1 : Nat) (l0_1 : List (List (S42))) (A1 : Option Addr) (c1 : Nat) (l1 : List (S51)) (a2 : Bool) (r : Bool) (w : World) (hr0_0 : Kd.C (Kd.int .i64) w A0_0 l0_0.length l0_0) (hc0_0 : l0_0.length ≤ c0_0) (hr0_1 : Kd.C (Kd.slice 42 k42) w A0_1 l0_1.length l0_1) (hc0_1 : l0_1.length ≤ c0_1) (hr1 : Kd.C k51 w A1 l1.length l1) (hc1 : l1.length ≤ c1) (ht_ : r = true) (h : fencepostlaw18_CfgSteps.f k l0_0 l0_1 l1 a2 = some r) :
 Calls Try.prog 3 #[.agg #[.slice A0_0 l0_0.length c0_0, .slice A0_1 l0_1.length c0_1], .slice A1 l1.length c1, .bool a2] w fun e w' => e = .returned (.bool r) ∧ Below w.heap.size w w' := by
 have hu25 := Try.underlying25
 have hu31 := Try.underlying31
 have HR0_0 := Aside0.mk hr0_0
 have HC0_0 := Aside0.mk hc0_0
 clear hr0_0 hc0_0
 have HR0_1 := Aside0.mk hr0_1
 have HC0_1 := Aside0.mk hc0_1
 clear hr0_1 hc0_1
 have HR1 := Aside0.mk hr1
 have HC1 := Aside0.mk hc1
 clear hr1 hc1
 have HB := Aside0.mk (Below.refl w.heap.size w)
 have HT := Aside0.mk ht_
 clear ht_
 have H : ((fencepostlaw18_head.f k).bind fun t329 => ((fencepostlaw13_Great.f k l0_0 l0_1 l1).bind fun t330 => (if t330 = true then (some t329) else ((fencepostref13_Run.f l0_0 l0_1 l1 a2).bind fun bt331 => (fencepostlaw18_CfgSteps.l0 k t329 0 l0_0 l0_1 bt331.1 bt331.2.1))))) = some r := h
 clear h
 replace H := Option.bind_eq_some_iff.mp H
 obtain ⟨t329, A40, H⟩ := H
 replace H : ((fencepostlaw13_Great.f k l0_0 l0_1 l1).bind fun t330 => (if t330 = true then (some t329) else ((fencepostref13_Run.f l0_0 l0_1 l1 a2).bind fun bt331 => (fencepostlaw18_CfgSteps.l0 k t329 0 l0_0 l0_1 bt331.1 bt331.2.1)))) = some r := H
 have A4 := Aside0.mk A40
 clear A40
 replace H := Option.bind_eq_some_iff.mp H
 obtain ⟨t330, A50, H⟩ := H
 replace H : (if t330 = true then (some t329) else ((fencepostref13_Run.f l0_0 l0_1 l1 a2).bind fun bt331 => (fencepostlaw18_CfgSteps.l0 k t329 0 l0_0 l0_1 bt331.1 bt331.2.1))) = some r := H
 have A5 := Aside0.mk A50
 clear A50
 by_cases c6 : t330 = true
 ·subst c6
  have H1 : (some t329) = some r := by rw [if_pos rfl] at H; exact H
  clear H
  have H := H1
  clear H1
  obtain rfl := Option.some.inj H
  go_enter Try.func3, Try.ntmps3
  go_wp2_with (first | ((with_reducible refine gate_dst (N := 3) rfl ?_); refine box_event ?hg (N := 3) ?hd (cs := #[.slice A0_0 l0_0.length c0_0, .slice A0_1 l0_1.length c0_1]) (t := 25) ?hr ?_; (case hd => rfl); (case hg => rfl); (case hr => first | (go_simp; done) | (go_simp; rfl)); intro gb328 hg w7 hbox hb; have n0_ := Aside0.mk (below_step (hb_ HB.out) hb); have n1_ := Aside0.mk (hbox); have n2_ := Aside0.mk (gs_ hg (hb_ HB.out)); have n3_ := Aside0.mk (gs_ hg (hb_ HB.out)); clear HB; have HB := n0_; have BK328 := n1_; have GW328 := n2_; have GE328 := n3_; clear n0_ n1_ n2_ n3_; clear hb hbox hg) | ((with_reducible refine gate_callee (f := 4) rfl ?_); refine goesL_ (some 13) rfl rfl Try.func4 (by kernel_rfl) rfl #[] rfl ar_ ?_; (with_reducible refine (fencepostlaw18_head.calls k  t329 _ A4.out).mono ?_); rintro e w8 ⟨rfl, hb⟩; refine ⟨_, rfl, ?_⟩; have n0_ := Aside0.mk (bb_ BK328.out hb); have n1_ := Aside0.mk (below_step (hb_ HB.out) hb); clear BK328; clear HB; have BK328 := n0_; have HB := n1_; clear n0_ n1_; (try clear hb); (try clear hb2); (try clear hk); (try clear hi); have hcz9_0 : w8.cell? ⟨gb328, 0, none⟩ = some (.slice A0_0 l0_0.length c0_0) := (blk_cell BK328.out 0).trans rfl; have hcz9_1 : w8.cell? ⟨gb328, 1, none⟩ = some (.slice A0_1 l0_1.length c0_1) := (blk_cell BK328.out 1).trans rfl; have hfz9_0 := blk_frozen BK328.out 0; have hfz9_1 := blk_frozen BK328.out 1) | ((with_reducible refine gate_callee (f := 5) rfl ?_); refine goesL_ (some 16) rfl rfl Try.func5 (by kernel_rfl) rfl #[.agg #[.slice A0_0 l0_0.length c0_0, .slice A0_1 l0_1.length c0_1], .slice A1 l1.length c1] rfl ar_ ?_; (with_reducible refine (fencepostlaw13_Great.calls k _ _ l0_0 _ _ l0_1 _ _ l1 true _ ?side1 ?side2 ?side3 ?side4 ?side5 ?side6 A5.out).mono ?_); (case side1 => exact cd_ (Kd.C_below HR0_0.out HB.out)); (case side2 => exact HC0_0.out); (case side3 => exact cd_ (Kd.C_below HR0_1.out HB.out)); (case side4 => exact HC0_1.out); (case side5 => exact cd_ (Kd.C_below HR1.out HB.out)); (case side6 => exact HC1.out); rintro e w10 ⟨rfl, hb⟩; refine ⟨_, rfl, ?_⟩; have n0_ := Aside0.mk (bb_ BK328.out hb); have n1_ := Aside0.mk (below_step (hb_ HB.out) hb); clear BK328; clear HB; have BK328 := n0_; have HB := n1_; clear n0_ n1_; (try clear hb); (try clear hb2); (try clear hk); (try clear hi)))
  go_ret
  exact ⟨by first | rfl | (simp [errW_none, errW_some] <;> rfl) | (simp [*, errW_none, errW_some] <;> rfl), hb_ HB.out⟩
 replace c6 := Bool.eq_false_iff.mpr c6
 subst c6
 have H1 : ((fencepostref13_Run.f l0_0 l0_1 l1 a2).bind fun bt331 => (fencepostlaw18_CfgSteps.l0 k t329 0 l0_0 l0_1 bt331.1 bt331.2.1)) = some r := by rw [if_neg (show ¬ (false = true) by decide)] at H; exact H
 clear H
 have H := H1
 clear H1
 replace H := Option.bind_eq_some_iff.mp H
 obtain ⟨⟨t331, t334, t337, t338⟩, A110, H⟩ := H
 replace H : (fencepostlaw18_CfgSteps.l0 k t329 0 l0_0 l0_1 t331 t334) = some r := H
 have A11 := Aside0.mk A110
 clear A110
 have H' := Aside0.mk H
 clear H
 go_enter Try.func3, Try.ntmps3
 go_wp2_with (first | ((with_reducible refine gate_dst (N := 3) rfl ?_); refine box_event ?hg (N := 3) ?hd (cs := #[.slice A0_0 l0_0.length c0_0, .slice A0_1 l0_1.length c0_1]) (t := 25) ?hr ?_; (case hd => rfl); (case hg => rfl); (case hr => first | (go_simp; done) | (go_simp; rfl)); intro gb328 hg w12 hbox hb; have n0_ := Aside0.mk (below_step (hb_ HB.out) hb); have n1_ := Aside0.mk (hbox); have n2_ := Aside0.mk (gs_ hg (hb_ HB.out)); have n3_ := Aside0.mk (gs_ hg (hb_ HB.out)); clear HB; have HB := n0_; have BK328 := n1_; have GW328 := n2_; have GE328 := n3_; clear n0_ n1_ n2_ n3_; clear hb hbox hg) | ((with_reducible refine gate_callee (f := 4) rfl ?_); refine goesL_ (some 13) rfl rfl Try.func4 (by kernel_rfl) rfl #[] rfl ar_ ?_; (with_reducible refine (fencepostlaw18_head.calls k  t329 _ A4.out).mono ?_); rintro e w13 ⟨rfl, hb⟩; refine ⟨_, rfl, ?_⟩; have n0_ := Aside0.mk (bb_ BK328.out hb); have n1_ := Aside0.mk (below_step (hb_ HB.out) hb); clear BK328; clear HB; have BK328 := n0_; have HB := n1_; clear n0_ n1_; (try clear hb); (try clear hb2); (try clear hk); (try clear hi); have hcz14_0 : w13.cell? ⟨gb328, 0, none⟩ = some (.slice A0_0 l0_0.length c0_0) := (blk_cell BK328.out 0).trans rfl; have hcz14_1 : w13.cell? ⟨gb328, 1, none⟩ = some (.slice A0_1 l0_1.length c0_1) := (blk_cell BK328.out 1).trans rfl; have hfz14_0 := blk_frozen BK328.out 0; have hfz14_1 := blk_frozen BK328.out 1) | ((with_reducible refine gate_callee (f := 5) rfl ?_); refine goesL_ (some 16) rfl rfl Try.func5 (by kernel_rfl) rfl #[.agg #[.slice A0_0 l0_0.length c0_0, .slice A0_1 l0_1.length c0_1], .slice A1 l1.length c1] rfl ar_ ?_; (with_reducible refine (fencepostlaw13_Great.calls k _ _ l0_0 _ _ l0_1 _ _ l1 false _ ?side1 ?side2 ?side3 ?side4 ?side5 ?side6 A5.out).mono ?_); (case side1 => exact cd_ (Kd.C_below HR0_0.out HB.out)); (case side2 => exact HC0_0.out); (case side3 => exact cd_ (Kd.C_below HR0_1.out HB.out)); (case side4 => exact HC0_1.out); (case side5 => exact cd_ (Kd.C_below HR1.out HB.out)); (case side6 => exact HC1.out); rintro e w15 ⟨rfl, hb⟩; refine ⟨_, rfl, ?_⟩; have n0_ := Aside0.mk (bb_ BK328.out hb); have n1_ := Aside0.mk (below_step (hb_ HB.out) hb); clear BK328; clear HB; have BK328 := n0_; have HB := n1_; clear n0_ n1_; (try clear hb); (try clear hb2); (try clear hk); (try clear hi); have hcz16_0 : w15.cell? ⟨gb328, 0, none⟩ = some (.slice A0_0 l0_0.length c0_0) := (blk_cell BK328.out 0).trans rfl; have hcz16_1 : w15.cell? ⟨gb328, 1, none⟩ = some (.slice A0_1 l0_1.length c0_1) := (blk_cell BK328.out 1).trans rfl; have hfz16_0 := blk_frozen BK328.out 0; have hfz16_1 := blk_frozen BK328.out 1) | ((with_reducible refine gate_callee (f := 6) rfl ?_); refine goesL_ (some 22) rfl rfl Try.func6 (by kernel_rfl) rfl #[.agg #[.slice A0_0 l0_0.length c0_0, .slice A0_1 l0_1.length c0_1], .slice A1 l1.length c1, .bool a2] rfl ar_ ?_; (with_reducible refine (fencepostref13_Run.calls _ _ l0_0 _ _ l0_1 _ _ l1 a2 t331 t334 t337 t338 _ ?side1 ?side2 ?side3 ?side4 ?side5 ?side6 A11.out).mono ?_); (case side1 => exact cd_ (Kd.C_below HR0_0.out HB.out)); (case side2 => exact HC0_0.out); (case side3 => exact cd_ (Kd.C_below HR0_1.out HB.out)); (case side4 => exact HC0_1.out); (case side5 => exact cd_ (Kd.C_below HR1.out HB.out)); (case side6 => exact HC1.out); rintro e w17 ⟨v332, v335, rfl, ho0, ho1, hb⟩; refine ⟨_, rfl, ?_⟩; have n0_ := Aside0.mk (Kd.V_lower (Kd.V_mono (ok' := fun k_ => k_ ≠ gb328) ho0 (fun k_ hk_ => (Kd.freshB (g := gb328) (o := .cells #[.slice A0_0 l0_0.length c0_0, .slice A0_1 l0_1.length c0_1] 25 (0, 0)) (bd_ BK328.out) k_ hk_))) (below_size (hb_ HB.out))); have n1_ := Aside0.mk (Kd.V_lower (Kd.V_mono (ok' := fun k_ => k_ ≠ gb328) ho1 (fun k_ hk_ => (Kd.freshB (g := gb328) (o := .cells #[.slice A0_0 l0_0.length c0_0, .slice A0_1 l0_1.length c0_1] 25 (0, 0)) (bd_ BK328.out) k_ hk_))) (below_size (hb_ HB.out))); have n2_ := Aside0.mk (bb_ BK328.out hb); have n3_ := Aside0.mk (below_step (hb_ HB.out) hb); clear BK328; clear HB; have HO333 := n0_; have HO336 := n1_; have BK328 := n2_; have HB := n3_; clear n0_ n1_ n2_ n3_; (try clear hb); (try clear hb2); (try clear hk); (try clear hi); (try clear ho0); (try clear ho1)) | ((with_reducible refine gate_dst (N := 8) rfl ?_); refine box_event ?hg (N := 8) ?hd (cs := #[.slice none 0 0, .slice none 0 0]) (t := 31) ?hr ?_; (case hd => rfl); (case hg => rfl); (case hr => first | (go_simp; done) | (go_simp; rfl)); intro gb339 hg w18 hbox hb; have n0_ := Aside0.mk (Kd.V_below (Kd.V_elderB (vd_ HO333.out) gb339 (Nat.le_of_eq hg.symm)) hb); have n1_ := Aside0.mk (Kd.V_below (Kd.V_elderB (vd_ HO336.out) gb339 (Nat.le_of_eq hg.symm)) hb); have n2_ := Aside0.mk (bb_ BK328.out hb); have n3_ := Aside0.mk (below_step (hb_ HB.out) hb); have n4_ := Aside0.mk (hbox); have n5_ := Aside0.mk (gs_ hg (hb_ HB.out)); have n6_ := Aside0.mk (gs_ hg (hb_ HB.out)); have n7_ := Aside0.mk (gn_ hg BK328.out); have n8_ := Aside0.mk (gn_ hg BK328.out).symm; clear HO333; clear HO336; clear BK328; clear HB; have HO333 := n0_; have HO336 := n1_; have BK328 := n2_; have HB := n3_; have BK339 := n4_; have GW339 := n5_; have GE339 := n6_; have NB328_339 := n7_; have NB339_328 := n8_; clear n0_ n1_ n2_ n3_ n4_ n5_ n6_ n7_ n8_; clear hb hbox hg; obtain ⟨Ao19, co19, eo19⟩ := Kd.V_slice HO333.out; subst eo19; have hnb20 := NB339_328.out; have hnc20 := NB328_339.out; have hcz21_0 : w18.cell? ⟨gb339, 0, none⟩ = some (.slice none 0 0) := (blk_cell BK339.out 0).trans rfl; have hcz21_1 : w18.cell? ⟨gb339, 1, none⟩ = some (.slice none 0 0) := (blk_cell BK339.out 1).trans rfl; have hfz21_0 := blk_frozen BK339.out 0; have hfz21_1 := blk_frozen BK339.out 1; obtain ⟨Ao22, co22, eo22⟩ := Kd.V_slice HO336.out; subst eo22))
 go_loopg [11] k (fun kq v11 w' => ∃ (x11_1 : Int), v11 = .int .i64 x11_1 ∧ Aside0 (fencepostlaw18_CfgSteps.l0 kq t329 x11_1 l0_0 l0_1 t331 t334 = some r) ∧ Aside0 (kq ≤ k) ∧ Aside0 (Kd.V (Kd.int .i64) 3 w' w.heap.size (fun k_ => k_ ≠ gb328 ∧ k_ ≠ gb339) (.slice Ao19 t331.length co19) t331) ∧ Aside0 (Kd.V k39 39 w' w.heap.size (fun k_ => k_ ≠ gb328 ∧ k_ ≠ gb339) (.slice Ao22 t334.length co22) t334) ∧ Aside0 (w'.heap[gb328]? = some (.cells #[(.slice A0_0 l0_0.length c0_0), (.slice A0_1 l0_1.length c0_1)] 25 (0, 0))) ∧ Aside0 (w'.heap[gb339]? = some (.cells #[(.slice Ao19 t331.length co19), (.slice Ao22 t334.length co22)] 31 (0, 0))) ∧ Aside0 (Below w.heap.size w w'))
 case atStart => exact ⟨(0), rf_, H', ⟨Nat.le_refl _⟩, ⟨by (with_reducible repeat (first | apply Kd.V_alloc | apply Kd.V_drewN | apply Kd.V_drew)); exact Kd.V_mono (Kd.V_far (p := ⟨gb339, 1, none⟩) (Kd.V_far (p := ⟨gb339, 0, none⟩) (Kd.V_mono HO333.out (fun k_ hk => (⟨hk, hk.2⟩ : _ ∧ k_ ≠ gb339))) (fun _ hk => hk.2) (.slice Ao19 t331.length co19)) (fun _ hk => hk.2) (.slice Ao22 t334.length co22)) (fun _ hk => ⟨hk.1.1, hk.1.2⟩)⟩, ⟨by (with_reducible repeat (first | apply Kd.V_alloc | apply Kd.V_drewN | apply Kd.V_drew)); exact Kd.V_mono (Kd.V_far (p := ⟨gb339, 1, none⟩) (Kd.V_far (p := ⟨gb339, 0, none⟩) (Kd.V_mono HO336.out (fun k_ hk => (⟨hk, hk.2⟩ : _ ∧ k_ ≠ gb339))) (fun _ hk => hk.2) (.slice Ao19 t331.length co19)) (fun _ hk => hk.2) (.slice Ao22 t334.length co22)) (fun _ hk => ⟨hk.1.1, hk.1.2⟩)⟩, ⟨by (with_reducible repeat (first | refine blk_drewN ?_ _ | refine blk_drew ?_ | refine blk_alloc ?_ _)); refine blk_far ?_ NB328_339.out _; (with_reducible repeat (first | refine blk_drewN ?_ _ | refine blk_drew ?_ | refine blk_alloc ?_ _)); refine blk_far ?_ NB328_339.out _; (with_reducible repeat (first | refine blk_drewN ?_ _ | refine blk_drew ?_ | refine blk_alloc ?_ _)); exact BK328.out⟩, ⟨by (with_reducible repeat (first | refine blk_drewN ?_ _ | refine blk_drew ?_ | refine blk_alloc ?_ _)); refine blk_put (cs := #[.slice Ao19 t331.length co19, .slice none 0 0]) ?_ 1 _ rfl; (with_reducible repeat (first | refine blk_drewN ?_ _ | refine blk_drew ?_ | refine blk_alloc ?_ _)); refine blk_put (cs := #[.slice none 0 0, .slice none 0 0]) ?_ 0 _ rfl; (with_reducible repeat (first | refine blk_drewN ?_ _ | refine blk_drew ?_ | refine blk_alloc ?_ _)); exact BK339.out⟩, ⟨hb_ HB.out⟩⟩
 clear H'
 try clear c1
 try clear c6
 try clear hcz14_0
 try clear hcz14_1
 try clear hcz16_0
 try clear hcz16_1
 try clear hcz21_0
 try clear hcz21_1
 try clear hfz14_0
 try clear hfz14_1
 try clear hfz16_0
 try clear hfz16_1
 try clear hfz21_0
 try clear hfz21_1
 obtain ⟨x11_1, rfl, HA, HK1, HO_340000, HO_340001, BK328, BK339, HB⟩ := hrel
 cases gk with
 | zero => exact absurd HA.out (by simp [fencepostlaw18_CfgSteps.l0])
 | succ k1 => ?_
 have H := HA.out
 clear HA
 simp only [fencepostlaw18_CfgSteps.l0] at H
 by_cases c23 : x11_1 < (t334.length : Int)
 rotate_left
 ·rw [if_neg c23] at H
  have c23b0 : decide (x11_1 < (t334.length : Int)) = false := decide_eq_false c23
  clear c23
  obtain rfl := Option.some.inj H
  have hnb39 := NB339_328.out
  have hnc39 := NB328_339.out
  have hcz40_0 : wr.cell? ⟨gb339, 0, none⟩ = some (.slice Ao19 t331.length co19) := (blk_cell BK339.out 0).trans rfl
  have hcz40_1 : wr.cell? ⟨gb339, 1, none⟩ = some (.slice Ao22 t334.length co22) := (blk_cell BK339.out 1).trans rfl
  have hfz40_0 := blk_frozen BK339.out 0
  have hfz40_1 := blk_frozen BK339.out 1
  go_wp2
  go_ret
  exact ⟨by first | rfl | (simp [errW_none, errW_some] <;> rfl) | (simp [*, errW_none, errW_some] <;> rfl), hb_ HB.out⟩
 rw [if_pos c23] at H
 have c23b0 : decide (x11_1 < (t334.length : Int)) = true := decide_eq_true c23
 clear c23
 by_cases c24 : 0 ≤ x11_1
 rotate_left
 ·rw [if_neg c24] at H
  exact absurd H (by simp)
 rw [if_pos c24] at H
 have c24b0 : decide (0 ≤ x11_1) = true := decide_eq_true c24
 clear c24
 by_cases c25 : x11_1 < (l0_1.length : Int)
 rotate_left
 ·rw [if_neg c25] at H
  exact absurd H (by simp)
 rw [if_pos c25] at H
 have c25b0 : decide (x11_1 < (l0_1.length : Int)) = true := decide_eq_true c25
 clear c25
 replace H := Option.bind_eq_some_iff.mp H
 obtain ⟨t341, A260, H⟩ := H
 replace H : (if (t341.length : Int) = (wrap64 (((rd_L2 l0_1 x11_1).length : Int) + 1)) then (if 0 ≤ ((rd_T39 t334 x11_1).f0) then (if ((rd_T39 t334 x11_1).f0) < (t341.length : Int) then (if (rdOf false t341 ((rd_T39 t334 x11_1).f0) = true) then (fencepostlaw18_CfgSteps.l0 k1 t329 (wrap64 (x11_1 + 1)) l0_0 l0_1 t331 t334) else (some false)) else (none)) else (none)) else (some false)) = some r := H
 have A26 := Aside0.mk A260
 clear A260
 by_cases c27 : (t341.length : Int) = (wrap64 (((rd_L2 l0_1 x11_1).length : Int) + 1))
 rotate_left
 ·rw [if_neg c27] at H
  have c27b0 : ((t341.length : Int) == (wrap64 (((rd_L2 l0_1 x11_1).length : Int) + 1))) = false := beq_eq_false_iff_ne.mpr c27
  have c27b1 : ((t341.length : Int) != (wrap64 (((rd_L2 l0_1 x11_1).length : Int) + 1))) = true := bne_iff_ne.mpr c27
  exact absurd ((Option.some.inj H).trans HT.out) (by simp)
 rw [if_pos c27] at H
 have c27b0 : ((t341.length : Int) == (wrap64 (((rd_L2 l0_1 x11_1).length : Int) + 1))) = true := beq_iff_eq.mpr c27
 have c27b1 : ((t341.length : Int) != (wrap64 (((rd_L2 l0_1 x11_1).length : Int) + 1))) = false := bne_eq_false_iff_eq.mpr c27
 clear c27
 by_cases c28 : 0 ≤ ((rd_T39 t334 x11_1).f0)
 rotate_left
 ·rw [if_neg c28] at H
  exact absurd H (by simp)
 rw [if_pos c28] at H
 have c28b0 : decide (0 ≤ ((rd_T39 t334 x11_1).f0)) = true := decide_eq_true c28
 clear c28
 by_cases c29 : ((rd_T39 t334 x11_1).f0) < (t341.length : Int)
 rotate_left
 ·rw [if_neg c29] at H
  exact absurd H (by simp)
 rw [if_pos c29] at H
 have c29b0 : decide (((rd_T39 t334 x11_1).f0) < (t341.length : Int)) = true := decide_eq_true c29
 clear c29
 obtain ⟨bq30, hbq30⟩ : ∃ b_ : Bool, b_ = (rdOf false t341 ((rd_T39 t334 x11_1).f0)) := ⟨_, rfl⟩
 replace H : (if (bq30 = true) then (fencepostlaw18_CfgSteps.l0 k1 t329 (wrap64 (x11_1 + 1)) l0_0 l0_1 t331 t334) else (some false)) = some r := by rw [← hbq30] at H; exact H
 have Nbq30 := Aside0.mk hbq30
 clear hbq30
 by_cases c31 : (bq30 = true)
 rotate_left
 ·replace c31 := Bool.eq_false_iff.mpr c31
  subst c31
  have H1 : (some false) = some r := by rw [if_neg (show ¬ (false = true) by decide)] at H; exact H
  clear H
  have H := H1
  clear H1
  exact absurd ((Option.some.inj H).trans HT.out) (by simp)
 subst c31
 have H1 : (fencepostlaw18_CfgSteps.l0 k1 t329 (wrap64 (x11_1 + 1)) l0_0 l0_1 t331 t334) = some r := by rw [if_pos rfl] at H; exact H
 clear H
 have H := H1
 clear H1
 have H' := Aside0.mk H
 clear H
 have hnb32 := NB339_328.out
 have hnc32 := NB328_339.out
 have hcz33_0 : wr.cell? ⟨gb339, 0, none⟩ = some (.slice Ao19 t331.length co19) := (blk_cell BK339.out 0).trans rfl
 have hcz33_1 : wr.cell? ⟨gb339, 1, none⟩ = some (.slice Ao22 t334.length co22) := (blk_cell BK339.out 1).trans rfl
 have hfz33_0 := blk_frozen BK339.out 0
 have hfz33_1 := blk_frozen BK339.out 1
 have hcz34_0 : wr.cell? ⟨gb328, 0, none⟩ = some (.slice A0_0 l0_0.length c0_0) := (blk_cell BK328.out 0).trans rfl
 have hcz34_1 : wr.cell? ⟨gb328, 1, none⟩ = some (.slice A0_1 l0_1.length c0_1) := (blk_cell BK328.out 1).trans rfl
 have hfz34_0 := blk_frozen BK328.out 0
 have hfz34_1 := blk_frozen BK328.out 1
 have p340 : 0 ≤ (x11_1 : Int) := of_decide_eq_true as_
 have q340 : x11_1 < (l0_1.length : Int) := of_decide_eq_true as_
 obtain ⟨ad340, A340_0, c340_0, e340, hx340_0, hl340_0, hi340_0⟩ := at_L2 HR0_1.out x11_1 p340 q340
 cases e340
 replace hx340_0 := cl_ HB.out hx340_0
 have HR340_0 := Aside0.mk hi340_0
 have HC340_0 := Aside0.mk hl340_0
 clear hi340_0 hl340_0
 replace p340 := eq_true p340
 replace q340 := eq_true q340
 go_wp2_with (first | ((with_reducible refine gate_callee (f := 7) rfl ?_); refine goesL_ (some 38) rfl rfl Try.func7 (by kernel_rfl) rfl #[.slice A340_0 (rd_L2 l0_1 x11_1).length c340_0] rfl ar_ ?_; (with_reducible refine (cfg_Met.calls k1 _ _ (rd_L2 l0_1 x11_1) t341 _ ?side1 ?side2 A26.out).mono ?_); (case side1 => exact cd_ (Kd.C_below HR340_0.out HB.out)); (case side2 => exact HC340_0.out); rintro e w35 ⟨v342, rfl, ho0, hb⟩; refine ⟨_, rfl, ?_⟩; have n0_ := Aside0.mk (Kd.V_elder' (vd_ HO_340000.out) (Kd.R_base ho0) hb); have n1_ := Aside0.mk (Kd.V_elder' (vd_ HO_340001.out) (Kd.R_base ho0) hb); have n2_ := Aside0.mk (Kd.R_lower ho0 (below_size (hb_ HB.out))); have n3_ := Aside0.mk (bb_ BK328.out hb); have n4_ := Aside0.mk (bb_ BK339.out hb); have n5_ := Aside0.mk (below_step (hb_ HB.out) hb); clear HO_340000; clear HO_340001; clear BK328; clear BK339; clear HB; have HO_340000 := n0_; have HO_340001 := n1_; have HO343 := n2_; have BK328 := n3_; have BK339 := n4_; have HB := n5_; clear n0_ n1_ n2_ n3_ n4_ n5_; (try clear hb); (try clear hb2); (try clear hk); (try clear hi); (try clear ho0); obtain ⟨Ao36, co36, eo36⟩ := Kd.R_slice HO343.out; subst eo36; have hcz37_0 : w35.cell? ⟨gb328, 0, none⟩ = some (.slice A0_0 l0_0.length c0_0) := (blk_cell BK328.out 0).trans rfl; have hcz37_1 : w35.cell? ⟨gb328, 1, none⟩ = some (.slice (some ad340) l0_1.length c0_1) := (blk_cell BK328.out 1).trans rfl; have hfz37_0 := blk_frozen BK328.out 0; have hfz37_1 := blk_frozen BK328.out 1; have p344 : 0 ≤ (x11_1 : Int) := of_decide_eq_true as_; have q344 : x11_1 < (l0_1.length : Int) := of_decide_eq_true as_; obtain ⟨ad344, A344_0, c344_0, e344, hx344_0, hl344_0, hi344_0⟩ := at_L2 HR0_1.out x11_1 p344 q344; obtain rfl : ad340 = ad344 := (by injection e344); replace hx344_0 := cl_ HB.out hx344_0; have HR344_0 := Aside0.mk hi344_0; have HC344_0 := Aside0.mk hl344_0; clear hi344_0 hl344_0; replace p344 := eq_true p344; replace q344 := eq_true q344; have hcz38_0 : w35.cell? ⟨gb339, 0, none⟩ = some (.slice Ao19 t331.length co19) := (blk_cell BK339.out 0).trans rfl; have hcz38_1 : w35.cell? ⟨gb339, 1, none⟩ = some (.slice Ao22 t334.length co22) := (blk_cell BK339.out 1).trans rfl; have hfz38_0 := blk_frozen BK339.out 0; have hfz38_1 := blk_frozen BK339.out 1; have p345 : 0 ≤ (x11_1 : Int) := of_decide_eq_true as_; have q345 : x11_1 < (t334.length : Int) := of_decide_eq_true as_; obtain ⟨ad345, A345_1, c345_1, A345_3, c345_3, e345, hx345_0, hx345_1, hx345_2, hx345_3, hl345_1, hi345_1, hl345_3, hi345_3⟩ := at_T39 (Kd.V_reads' HO_340001.out).2.2 x11_1 p345 q345; (try rw [← Nbq30.out] at hx345_2); cases e345; obtain ⟨ce345, hce345, hMe345, hcc345⟩ := Kd.V_get HO_340001.out z39 x11_1 p345 (by first | exact q345 | exact of_decide_eq_true as_ | (have e_ := (Kd.V_reads' HO_340001.out).1; omega)); obtain ⟨ua345_1, uc345_1, ua345_3, uc345_3, rfl, ul345_1, ge345_1, ul345_3, ge345_3⟩ := k39_openF hMe345; have hv345_1 := hcc345 1 _ rfl; rw [add_field _ _ 1 (by omega)] at hv345_1; replace hv345_1 := Option.some.inj (hv345_1.symm.trans hx345_1); injection hv345_1 with hva_ hvn_ hvc_; rw [hva_] at ge345_1; rw [hvc_] at ul345_1; have HL345_1 := Aside0.mk (show Kd.V (Kd.int .i64) 3 _ w.heap.size _ _ ((rd_T39 t334 x11_1).f1) from Kd.V_mk ul345_1 ge345_1); clear hva_ hvn_ hvc_ ge345_1 ul345_1; have hv345_3 := hcc345 3 _ rfl; rw [add_field _ _ 3 (by omega)] at hv345_3; replace hv345_3 := Option.some.inj (hv345_3.symm.trans hx345_3); injection hv345_3 with hva_ hvn_ hvc_; rw [hva_] at ge345_3; rw [hvc_] at ul345_3; have HL345_3 := Aside0.mk (show Kd.V k69 69 _ w.heap.size _ _ ((rd_T39 t334 x11_1).f3) from Kd.V_mk ul345_3 ge345_3); clear hva_ hvn_ hvc_ ge345_3 ul345_3; clear hcc345 hce345; have HR345_1 := Aside0.mk hi345_1; have HC345_1 := Aside0.mk hl345_1; clear hi345_1 hl345_1; have HR345_3 := Aside0.mk hi345_3; have HC345_3 := Aside0.mk hl345_3; clear hi345_3 hl345_3; replace p345 := eq_true p345; replace q345 := eq_true q345; have p346 : 0 ≤ (((rd_T39 t334 x11_1).f0) : Int) := of_decide_eq_true as_; have q346 : ((rd_T39 t334 x11_1).f0) < (t341.length : Int) := of_decide_eq_true as_; obtain ⟨ad346, e346, hx346_0⟩ := Kd.at_bool (Kd.R_reads' HO343.out).2.2 ((rd_T39 t334 x11_1).f0) p346 q346; (try rw [← Nbq30.out] at hx346_0); cases e346; replace p346 := eq_true p346; replace q346 := eq_true q346))
 go_roundg k1
 case measure => have := HK1.out; omega
 case rel => exact ⟨(wrap64 (x11_1 + 1)), rf_, H', ⟨by have := HK1.out; omega⟩, ⟨by (with_reducible repeat (first | apply Kd.V_alloc | apply Kd.V_drewN | apply Kd.V_drew)); exact Kd.V_mono HO_340000.out (fun _ hk => ⟨hk.1.1, hk.1.2⟩)⟩, ⟨by (with_reducible repeat (first | apply Kd.V_alloc | apply Kd.V_drewN | apply Kd.V_drew)); exact Kd.V_mono HO_340001.out (fun _ hk => ⟨hk.1.1, hk.1.2⟩)⟩, ⟨bd_ BK328.out⟩, ⟨bd_ BK339.out⟩, ⟨hb_ HB.out⟩⟩
end Go.Proofs.Yteobpfgncohloaa.Print
