-- Written by ownprint.py (this session's) with the kit's print.py: functions, contracts, rows; Lean checks it.
import Derived.Test.YtphklaajolpieaaPrint0
import Derived.Test.YtphklaajolpieaaPrint1
import Derived.Test.YtphklaajolpieaaPrint4
import Derived.Test.YtphklaajolpieaaHSq
import Derived.Test.YtphklaajolpieaaHAdm
import Derived.Test.YtphklaajolpieaaPrint8
import Derived.Test.YtphklaajolpieaaHCross
namespace Go.Proofs.Ytphklaajolpieaa.Print
open Go.RowKit Go.Proofs.YtphklaajolpieaaW.PrintWords Go.Proofs.YtphklaajolpieaaW.PrintLast Go.Proofs.YtphklaajolpieaaW.PrintMore
attribute [local go_sem] max2_int min2_int max_two min_two max_three min_three max_four min_four   -- for this text's walks alone
set_option linter.unusedVariables false
set_option linter.unusedSimpArgs false
def fencepostlaw19_AdmCrossed.j0 : Nat → List (S46) → Bool → Bool → List Int → List (List (S36)) → Option (Bool)
 | 0, _, _, _, _, _ => none
 | k + 1, x1, x5, x15, x306000, x306001 => if x15 = true then (some x5) else ((fencepostref14_Cross.f x306000 x306001 x1).bind fun bt308 => (if x5 = true then ((adm_Keep.f x306000 x306001 bt308.1).bind fun t312 => ((fencepostref07_SameInts.f k t312 bt308.1).bind fun t315 => (some t315))) else (some false)))
def fencepostlaw19_AdmCrossed.f (k : Nat) (l0_0 : List Int) (l0_1 : List (List (S36))) (l1 : List (S46)) : Option (Bool) := (fencepostlaw19_head.f k).bind fun t306 => ((fencepostlaw08_Great.f k l0_0 l0_1).bind fun t307 => (if t307 = true then (fencepostlaw19_AdmCrossed.j0 k l1 t306 true l0_0 l0_1) else (fencepostlaw19_AdmCrossed.j0 k l1 t306 (decide ((l1.length : Int) > 120)) l0_0 l0_1)))
set_option maxHeartbeats 8000000 in
set_option maxRecDepth 100000 in
theorem fencepostlaw19_AdmCrossed.calls (k : Nat) (A0_0 : Option Addr) (c0_0 : Nat) (l0_0 : List Int) (A0_1 : Option Addr) (c0_1 : Nat) (l0_1 : List (List (S36))) (A1 : Option Addr) (c1 : Nat) (l1 : List (S46)) (r : Bool) (w : World) (hr0_0 : Kd.C (Kd.int .i64) w A0_0 l0_0.length l0_0) (hc0_0 : l0_0.length ≤ c0_0) (hr0_1 : Kd.C (Kd.slice 36 k36) w A0_1 l0_1.length l0_1) (hc0_1 : l0_1.length ≤ c0_1) (hr1 : Kd.C k46 w A1 l1.length l1) (hc1 : l1.length ≤ c1) (ht_ : r = true) (h : fencepostlaw19_AdmCrossed.f k l0_0 l0_1 l1 = some r) :
 Calls Try.prog 3 #[.agg #[.slice A0_0 l0_0.length c0_0, .slice A0_1 l0_1.length c0_1], .slice A1 l1.length c1] w fun e w' => e = .returned (.bool r) ∧ Below w.heap.size w w' := by
 have hu25 := Try.underlying25
 have HR0_0 := Aside0.mk hr0_0
 have HC0_0 := Aside0.mk hc0_0
 clear hr0_0 hc0_0
 have HR0_1 := Aside0.mk hr0_1
 have HC0_1 := Aside0.mk hc0_1
 clear hr0_1 hc0_1
 have HR1 := Aside0.mk hr1
 have HC1 := Aside0.mk hc1
 clear hr1 hc1
 have HB := Aside0.mk (Below.refl w.heap.size w)
 have HT := Aside0.mk ht_
 clear ht_
 have H : ((fencepostlaw19_head.f k).bind fun t306 => ((fencepostlaw08_Great.f k l0_0 l0_1).bind fun t307 => (if t307 = true then (fencepostlaw19_AdmCrossed.j0 k l1 t306 true l0_0 l0_1) else (fencepostlaw19_AdmCrossed.j0 k l1 t306 (decide ((l1.length : Int) > 120)) l0_0 l0_1)))) = some r := h
 clear h
 replace H := Option.bind_eq_some_iff.mp H
 obtain ⟨t306, A30, H⟩ := H
 replace H : ((fencepostlaw08_Great.f k l0_0 l0_1).bind fun t307 => (if t307 = true then (fencepostlaw19_AdmCrossed.j0 k l1 t306 true l0_0 l0_1) else (fencepostlaw19_AdmCrossed.j0 k l1 t306 (decide ((l1.length : Int) > 120)) l0_0 l0_1))) = some r := H
 have A3 := Aside0.mk A30
 clear A30
 have HC4 := Aside0.mk H
 clear H
 go_enter Try.func3, Try.ntmps3
 go_upto_region 2 with (first | ((with_reducible refine gate_dst (N := 2) rfl ?_); (try (refine gate_guard (by rfl) ?_; dsimp only)); refine box_event ?hg (N := 2) ?hd (cs := #[.slice A0_0 l0_0.length c0_0, .slice A0_1 l0_1.length c0_1]) (t := 25) ?hr ?_; (case hd => rfl); (case hg => rfl); (case hr => first | (go_simp; done) | (go_simp; rfl)); intro gb305 hg w5 hbox hb; have n0_ := Aside0.mk (below_step (hb_ HB.out) hb); have n1_ := Aside0.mk (hbox); have n2_ := Aside0.mk (gs_ hg (hb_ HB.out)); have n3_ := Aside0.mk (gs_ hg (hb_ HB.out)); clear HB; have HB := n0_; have BK305 := n1_; have GW305 := n2_; have GE305 := n3_; clear n0_ n1_ n2_ n3_; clear hb hbox hg) | ((with_reducible refine gate_callee (f := 4) rfl ?_); refine goesL_ (some 8) rfl rfl Try.func4 (by kernel_rfl) rfl #[] rfl ar_ ?_; (with_reducible refine (fencepostlaw19_head.calls k  t306 _ A3.out).mono ?_); rintro e w6 ⟨rfl, hb⟩; refine ⟨_, rfl, ?_⟩; have n0_ := Aside0.mk (bb_ BK305.out hb); have n1_ := Aside0.mk (below_step (hb_ HB.out) hb); clear BK305; clear HB; have BK305 := n0_; have HB := n1_; clear n0_ n1_; (try clear hb); (try clear hb2); (try clear hk); (try clear hi)))
 (try simp only [Act.put, List.setIfInBounds_toArray, List.set_cons_zero, List.set_cons_succ])
 go_cut [15] (fun v15 wc => ∃ (kq : Nat) (x15_3 : Bool), v15 = .bool x15_3 ∧ Aside0 (fencepostlaw19_AdmCrossed.j0 kq l1 t306 x15_3 l0_0 l0_1 = some r) ∧ Aside0 (kq ≤ k) ∧ Aside0 (wc.heap[gb305]? = some (.cells #[(.slice A0_0 l0_0.length c0_0), (.slice A0_1 l0_1.length c0_1)] 25 (0, 0))) ∧ Aside0 (Below w.heap.size w wc))
 case first =>
  have H := HC4.out
  clear HC4
  replace H := Option.bind_eq_some_iff.mp H
  obtain ⟨t307, A70, H⟩ := H
  replace H : (if t307 = true then (fencepostlaw19_AdmCrossed.j0 k l1 t306 true l0_0 l0_1) else (fencepostlaw19_AdmCrossed.j0 k l1 t306 (decide ((l1.length : Int) > 120)) l0_0 l0_1)) = some r := H
  have A7 := Aside0.mk A70
  clear A70
  by_cases c8 : t307 = true
  ·subst c8
   have H1 : (fencepostlaw19_AdmCrossed.j0 k l1 t306 true l0_0 l0_1) = some r := by rw [if_pos rfl] at H; exact H
   clear H
   have H := H1
   clear H1
   have H' := Aside0.mk H
   clear H
   have hcz9_0 : w6.cell? ⟨gb305, 0, none⟩ = some (.slice A0_0 l0_0.length c0_0) := (blk_cell BK305.out 0).trans rfl
   have hcz9_1 : w6.cell? ⟨gb305, 1, none⟩ = some (.slice A0_1 l0_1.length c0_1) := (blk_cell BK305.out 1).trans rfl
   have hfz9_0 := blk_frozen BK305.out 0
   have hfz9_1 := blk_frozen BK305.out 1
   go_wp2_with (first | ((with_reducible refine gate_callee (f := 5) rfl ?_); refine goesL_ (some 10) rfl rfl Try.func5 (by kernel_rfl) rfl #[.agg #[.slice A0_0 l0_0.length c0_0, .slice A0_1 l0_1.length c0_1]] rfl ar_ ?_; (with_reducible refine (fencepostlaw08_Great.calls k _ _ l0_0 _ _ l0_1 true _ ?side1 ?side2 ?side3 ?side4 A7.out).mono ?_); (case side1 => exact cd_ (Kd.C_below HR0_0.out HB.out)); (case side2 => exact HC0_0.out); (case side3 => exact cd_ (Kd.C_below HR0_1.out HB.out)); (case side4 => exact HC0_1.out); rintro e w10 ⟨rfl, hb⟩; refine ⟨_, rfl, ?_⟩; have n0_ := Aside0.mk (bb_ BK305.out hb); have n1_ := Aside0.mk (below_step (hb_ HB.out) hb); clear BK305; clear HB; have BK305 := n0_; have HB := n1_; clear n0_ n1_; (try clear hb); (try clear hb2); (try clear hk); (try clear hi)))
   go_meet
   case rel => exact ⟨_, (true), rf_, H', ⟨by first | omega | exact Nat.le_refl _⟩, ⟨bd_ BK305.out⟩, ⟨hb_ HB.out⟩⟩
  replace c8 := Bool.eq_false_iff.mpr c8
  subst c8
  have H1 : (fencepostlaw19_AdmCrossed.j0 k l1 t306 (decide ((l1.length : Int) > 120)) l0_0 l0_1) = some r := by rw [if_neg (show ¬ (false = true) by decide)] at H; exact H
  clear H
  have H := H1
  clear H1
  have H' := Aside0.mk H
  clear H
  have hcz11_0 : w6.cell? ⟨gb305, 0, none⟩ = some (.slice A0_0 l0_0.length c0_0) := (blk_cell BK305.out 0).trans rfl
  have hcz11_1 : w6.cell? ⟨gb305, 1, none⟩ = some (.slice A0_1 l0_1.length c0_1) := (blk_cell BK305.out 1).trans rfl
  have hfz11_0 := blk_frozen BK305.out 0
  have hfz11_1 := blk_frozen BK305.out 1
  go_wp2_with (first | ((with_reducible refine gate_callee (f := 5) rfl ?_); refine goesL_ (some 10) rfl rfl Try.func5 (by kernel_rfl) rfl #[.agg #[.slice A0_0 l0_0.length c0_0, .slice A0_1 l0_1.length c0_1]] rfl ar_ ?_; (with_reducible refine (fencepostlaw08_Great.calls k _ _ l0_0 _ _ l0_1 false _ ?side1 ?side2 ?side3 ?side4 A7.out).mono ?_); (case side1 => exact cd_ (Kd.C_below HR0_0.out HB.out)); (case side2 => exact HC0_0.out); (case side3 => exact cd_ (Kd.C_below HR0_1.out HB.out)); (case side4 => exact HC0_1.out); rintro e w12 ⟨rfl, hb⟩; refine ⟨_, rfl, ?_⟩; have n0_ := Aside0.mk (bb_ BK305.out hb); have n1_ := Aside0.mk (below_step (hb_ HB.out) hb); clear BK305; clear HB; have BK305 := n0_; have HB := n1_; clear n0_ n1_; (try clear hb); (try clear hb2); (try clear hk); (try clear hi)))
  go_meet
  case rel => exact ⟨_, (decide ((l1.length : Int) > 120)), rf_, H', ⟨by first | omega | exact Nat.le_refl _⟩, ⟨bd_ BK305.out⟩, ⟨hb_ HB.out⟩⟩
 clear HC4
 try clear c1
 obtain ⟨kq, x15_3, rfl, HA, HJ3, BK305, HB⟩ := hcut
 cases kq with
 | zero => exact absurd HA.out (by simp [fencepostlaw19_AdmCrossed.j0])
 | succ kj3 => ?_
 have H := HA.out
 clear HA
 simp only [fencepostlaw19_AdmCrossed.j0] at H
 by_cases c13 : x15_3 = true
 ·subst c13
  have H1 : (some t306) = some r := by rw [if_pos rfl] at H; exact H
  clear H
  have H := H1
  clear H1
  obtain rfl := Option.some.inj H
  go_wp2
  go_ret
  exact ⟨by first | rfl | (simp [errW_none, errW_some] <;> rfl) | (simp [*, errW_none, errW_some] <;> rfl), hb_ HB.out⟩
 replace c13 := Bool.eq_false_iff.mpr c13
 subst c13
 have H1 : ((fencepostref14_Cross.f l0_0 l0_1 l1).bind fun bt308 => (if t306 = true then ((adm_Keep.f l0_0 l0_1 bt308.1).bind fun t312 => ((fencepostref07_SameInts.f kj3 t312 bt308.1).bind fun t315 => (some t315))) else (some false))) = some r := by rw [if_neg (show ¬ (false = true) by decide)] at H; exact H
 clear H
 have H := H1
 clear H1
 replace H := Option.bind_eq_some_iff.mp H
 obtain ⟨⟨t308, t311⟩, A140, H⟩ := H
 replace H : (if t306 = true then ((adm_Keep.f l0_0 l0_1 t308).bind fun t312 => ((fencepostref07_SameInts.f kj3 t312 t308).bind fun t315 => (some t315))) else (some false)) = some r := H
 have A14 := Aside0.mk A140
 clear A140
 by_cases c15 : t306 = true
 rotate_left
 ·replace c15 := Bool.eq_false_iff.mpr c15
  subst c15
  have H1 : (some false) = some r := by rw [if_neg (show ¬ (false = true) by decide)] at H; exact H
  clear H
  have H := H1
  clear H1
  exact absurd ((Option.some.inj H).trans HT.out) (by simp)
 subst c15
 have H1 : ((adm_Keep.f l0_0 l0_1 t308).bind fun t312 => ((fencepostref07_SameInts.f kj3 t312 t308).bind fun t315 => (some t315))) = some r := by rw [if_pos rfl] at H; exact H
 clear H
 have H := H1
 clear H1
 replace H := Option.bind_eq_some_iff.mp H
 obtain ⟨t312, A160, H⟩ := H
 replace H : ((fencepostref07_SameInts.f kj3 t312 t308).bind fun t315 => (some t315)) = some r := H
 have A16 := Aside0.mk A160
 clear A160
 replace H := Option.bind_eq_some_iff.mp H
 obtain ⟨t315, A170, H⟩ := H
 replace H : (some t315) = some r := H
 have A17 := Aside0.mk A170
 clear A170
 obtain rfl := Option.some.inj H
 have hcz18_0 : wc.cell? ⟨gb305, 0, none⟩ = some (.slice A0_0 l0_0.length c0_0) := (blk_cell BK305.out 0).trans rfl
 have hcz18_1 : wc.cell? ⟨gb305, 1, none⟩ = some (.slice A0_1 l0_1.length c0_1) := (blk_cell BK305.out 1).trans rfl
 have hfz18_0 := blk_frozen BK305.out 0
 have hfz18_1 := blk_frozen BK305.out 1
 go_wp2_with (first | ((with_reducible refine gate_callee (f := 6) rfl ?_); refine goesL_ (some 20) rfl rfl Try.func6 (by kernel_rfl) rfl #[.agg #[.slice A0_0 l0_0.length c0_0, .slice A0_1 l0_1.length c0_1], .slice A1 l1.length c1] rfl ar_ ?_; (with_reducible refine (fencepostref14_Cross.calls _ _ l0_0 _ _ l0_1 _ _ l1 t308 t311 _ ?side1 ?side2 ?side3 ?side4 ?side5 ?side6 A14.out).mono ?_); (case side1 => exact cd_ (Kd.C_below HR0_0.out HB.out)); (case side2 => exact HC0_0.out); (case side3 => exact cd_ (Kd.C_below HR0_1.out HB.out)); (case side4 => exact HC0_1.out); (case side5 => exact cd_ (Kd.C_below HR1.out HB.out)); (case side6 => exact HC1.out); rintro e w19 ⟨v309, rfl, ho0, hb⟩; refine ⟨_, rfl, ?_⟩; have n0_ := Aside0.mk (Kd.R_lower ho0 (below_size (hb_ HB.out))); have n1_ := Aside0.mk (bb_ BK305.out hb); have n2_ := Aside0.mk (below_step (hb_ HB.out) hb); clear BK305; clear HB; have HO310 := n0_; have BK305 := n1_; have HB := n2_; clear n0_ n1_ n2_; (try clear hb); (try clear hb2); (try clear hk); (try clear hi); (try clear ho0); have hcz20_0 : w19.cell? ⟨gb305, 0, none⟩ = some (.slice A0_0 l0_0.length c0_0) := (blk_cell BK305.out 0).trans rfl; have hcz20_1 : w19.cell? ⟨gb305, 1, none⟩ = some (.slice A0_1 l0_1.length c0_1) := (blk_cell BK305.out 1).trans rfl; have hfz20_0 := blk_frozen BK305.out 0; have hfz20_1 := blk_frozen BK305.out 1; obtain ⟨Ao21, co21, eo21⟩ := Kd.R_slice HO310.out; subst eo21) | (go_at_call 8; (with_reducible refine (adm_Keep.calls _ _ l0_0 _ _ l0_1 _ _ t308 t312 _ ?side1 ?side2 ?side3 ?side4 ?side5 ?side6 A16.out).mono ?_); (case side1 => exact cd_ (Kd.C_below HR0_0.out HB.out)); (case side2 => exact HC0_0.out); (case side3 => exact cd_ (Kd.C_below HR0_1.out HB.out)); (case side4 => exact HC0_1.out); (case side5 => repeat (first | exact (Kd.R_reads' HO310.out).2.2 | (with_reducible refine Kd.C_alloc ?_ _) | (with_reducible refine Kd.C_drewN ?_ _) | (with_reducible refine Kd.C_drew ?_))); (case side6 => exact (Kd.R_reads' HO310.out).2.1); rintro e w22 ⟨v313, rfl, ho0, hb⟩; have n0_ := Aside0.mk (Kd.R_elder' (rd_ HO310.out) (Kd.R_base ho0) hb); have n1_ := Aside0.mk (Kd.R_lower (Kd.R_new' ho0 (Kd.R_lt (rd_ HO310.out))) (below_size (hb_ HB.out))); have n2_ := Aside0.mk (bb_ BK305.out hb); have n3_ := Aside0.mk (below_step (hb_ HB.out) hb); clear HO310; clear BK305; clear HB; have HO310 := n0_; have HO314 := n1_; have BK305 := n2_; have HB := n3_; clear n0_ n1_ n2_ n3_; (try clear hb); (try clear hb2); (try clear hk); (try clear hi); (try clear ho0); obtain ⟨Ao23, co23, eo23⟩ := Kd.R_slice HO314.out; subst eo23) | (go_at_call 7; (with_reducible refine (fencepostref07_SameInts.calls kj3 _ _ t312 _ _ t308 t315 _ ?side1 ?side2 ?side3 ?side4 A17.out).mono ?_); (case side1 => repeat (first | exact (Kd.R_reads' HO314.out).2.2 | (with_reducible refine Kd.C_alloc ?_ _) | (with_reducible refine Kd.C_drewN ?_ _) | (with_reducible refine Kd.C_drew ?_))); (case side2 => exact (Kd.R_reads' HO314.out).2.1); (case side3 => repeat (first | exact (Kd.R_reads' HO310.out).2.2 | (with_reducible refine Kd.C_alloc ?_ _) | (with_reducible refine Kd.C_drewN ?_ _) | (with_reducible refine Kd.C_drew ?_))); (case side4 => exact (Kd.R_reads' HO310.out).2.1); rintro e w' ⟨rfl, ⟨nd, rfl⟩⟩))
 go_ret
 exact ⟨by first | rfl | (simp [errW_none, errW_some] <;> rfl) | (simp [*, errW_none, errW_some] <;> rfl), hb_ HB.out⟩
end Go.Proofs.Ytphklaajolpieaa.Print
