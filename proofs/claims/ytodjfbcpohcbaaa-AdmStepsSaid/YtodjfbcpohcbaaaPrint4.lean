-- Written by ownprint.py (this session's) with the kit's print.py: functions, contracts, rows; Lean checks it.
import Derived.Test.YtodjfbcpohcbaaaPrint0
import Derived.Test.YtodjfbcpohcbaaaPrint1
import Derived.Test.YtodjfbcpohcbaaaPrint3
namespace Go.Proofs.Ytodjfbcpohcbaaa.Print
open Go.RowKit Go.Proofs.YtodjfbcpohcbaaaW.PrintWords Go.Proofs.YtodjfbcpohcbaaaW.PrintLast Go.Proofs.YtodjfbcpohcbaaaW.PrintMore
attribute [local go_sem] max2_int min2_int max_two min_two max_three min_three max_four min_four   -- for this text's walks alone
set_option linter.unusedVariables false
set_option linter.unusedSimpArgs false

/-! ### fencepostlaw08_Great: function 10 -/
mutual
def fencepostlaw08_Great.j0 : Nat → Bool → List Int → List (List (S49)) → Option (Bool)
  | 0, _, _, _ => none
  | k + 1, x10, x172000, x172001 => if x10 = true then (some true) else (fencepostlaw08_Great.l0 k 0 x172000 x172001)
def fencepostlaw08_Great.l0 : Nat → Int → List Int → List (List (S49)) → Option (Bool)
  | 0, _, _, _ => none
  | k + 1, x3, x172000, x172001 => if x3 < (x172001.length : Int) then (if 0 ≤ x3 then (if ((rd_L2 x172001 x3).length : Int) > 40 then (some true) else (fencepostlaw08_Great.l0 k (wrap64 (x3 + 1)) x172000 x172001)) else (none)) else (some false)
end
def fencepostlaw08_Great.f (k : Nat) (l0_0 : List Int) (l0_1 : List (List (S49))) : Option (Bool) := (fencepostlaw07_Great.f k l0_0 l0_1).bind fun t172 => (if t172 = true then (fencepostlaw08_Great.j0 k true l0_0 l0_1) else ((fencepostref07_Right.f k l0_0 l0_1).bind fun t173 => (fencepostlaw08_Great.j0 k (!t173) l0_0 l0_1)))
theorem fencepostlaw08_Great.mono_l : ∀ k, (∀ y0 y1 y2, LeO (fencepostlaw08_Great.j0 k y0 y1 y2) (fencepostlaw08_Great.j0 (k + 1) y0 y1 y2)) ∧ (∀ y0 y1 y2, LeO (fencepostlaw08_Great.l0 k y0 y1 y2) (fencepostlaw08_Great.l0 (k + 1) y0 y1 y2))
  | 0 => ⟨fun _ _ _ r h => by simp [fencepostlaw08_Great.j0] at h, fun _ _ _ r h => by simp [fencepostlaw08_Great.l0] at h⟩
  | k + 1 => by
    obtain ⟨ih0, ih1⟩ := fencepostlaw08_Great.mono_l k
    refine ⟨?_, ?_⟩
    · intro y0 y1 y2
      unfold fencepostlaw08_Great.j0
      repeat' first
      | (with_reducible exact ih0 _ _ _)
      | (with_reducible exact ih1 _ _ _)
      | (with_reducible exact fencepostlaw07_Great.mono _ _ _)
      | (with_reducible exact fencepostref07_Right.mono _ _ _)
      | (with_reducible exact LeO.refl _)
      | (with_reducible exact LeO.none _)
      | (with_reducible refine LeO.ite ?_ ?_)
      | (with_reducible refine LeO.bind ?_ (fun _ => ?_))
      | exact ih0 _ _ _
      | exact ih1 _ _ _
      | exact fencepostlaw07_Great.mono _ _ _
      | exact fencepostref07_Right.mono _ _ _
      | exact LeO.none _
      | refine LeO.ite ?_ ?_
      | refine LeO.bind ?_ (fun _ => ?_)
    · intro y0 y1 y2
      unfold fencepostlaw08_Great.l0
      repeat' first
      | (with_reducible exact ih0 _ _ _)
      | (with_reducible exact ih1 _ _ _)
      | (with_reducible exact fencepostlaw07_Great.mono _ _ _)
      | (with_reducible exact fencepostref07_Right.mono _ _ _)
      | (with_reducible exact LeO.refl _)
      | (with_reducible exact LeO.none _)
      | (with_reducible refine LeO.ite ?_ ?_)
      | (with_reducible refine LeO.bind ?_ (fun _ => ?_))
      | exact ih0 _ _ _
      | exact ih1 _ _ _
      | exact fencepostlaw07_Great.mono _ _ _
      | exact fencepostref07_Right.mono _ _ _
      | exact LeO.none _
      | refine LeO.ite ?_ ?_
      | refine LeO.bind ?_ (fun _ => ?_)
theorem fencepostlaw08_Great.mono : ∀ a0 a1 k, LeO (fencepostlaw08_Great.f k a0 a1) (fencepostlaw08_Great.f (k + 1) a0 a1) := by
  intro a0 a1 k
  obtain ⟨ih0, ih1⟩ := fencepostlaw08_Great.mono_l k
  unfold fencepostlaw08_Great.f
  repeat' first
      | (with_reducible exact ih0 _ _ _)
      | (with_reducible exact ih1 _ _ _)
      | (with_reducible exact fencepostlaw07_Great.mono _ _ _)
      | (with_reducible exact fencepostref07_Right.mono _ _ _)
      | (with_reducible exact LeO.refl _)
      | (with_reducible exact LeO.none _)
      | (with_reducible refine LeO.ite ?_ ?_)
      | (with_reducible refine LeO.bind ?_ (fun _ => ?_))
      | exact ih0 _ _ _
      | exact ih1 _ _ _
      | exact fencepostlaw07_Great.mono _ _ _
      | exact fencepostref07_Right.mono _ _ _
      | exact LeO.none _
      | refine LeO.ite ?_ ?_
      | refine LeO.bind ?_ (fun _ => ?_)
set_option maxHeartbeats 8000000 in
set_option maxRecDepth 100000 in
theorem fencepostlaw08_Great.calls (k : Nat) (A0_0 : Option Addr) (c0_0 : Nat) (l0_0 : List Int) (A0_1 : Option Addr) (c0_1 : Nat) (l0_1 : List (List (S49))) (r : Bool) (w : World) (hr0_0 : Kd.C (Kd.int .i64) w A0_0 l0_0.length l0_0) (hc0_0 : l0_0.length ≤ c0_0) (hr0_1 : Kd.C (Kd.slice 49 k49) w A0_1 l0_1.length l0_1) (hc0_1 : l0_1.length ≤ c0_1) (h : fencepostlaw08_Great.f k l0_0 l0_1 = some r) :
    Calls Try.prog 10 #[.agg #[.slice A0_0 l0_0.length c0_0, .slice A0_1 l0_1.length c0_1]] w fun e w' => e = .returned (.bool r) ∧ Below w.heap.size w w' := by
  have hu25 := Try.underlying25
  have HR0_0 := Aside0.mk hr0_0
  have HC0_0 := Aside0.mk hc0_0
  clear hr0_0 hc0_0
  have HR0_1 := Aside0.mk hr0_1
  have HC0_1 := Aside0.mk hc0_1
  clear hr0_1 hc0_1
  have HB := Aside0.mk (Below.refl w.heap.size w)
  have H : ((fencepostlaw07_Great.f k l0_0 l0_1).bind fun t172 => (if t172 = true then (fencepostlaw08_Great.j0 k true l0_0 l0_1) else ((fencepostref07_Right.f k l0_0 l0_1).bind fun t173 => (fencepostlaw08_Great.j0 k (!t173) l0_0 l0_1)))) = some r := h
  clear h
  have HC2 := Aside0.mk H
  clear H
  go_enter Try.func10, Try.ntmps10
  go_upto_region 1 with (first | ((with_reducible refine gate_dst (N := 1) rfl ?_); refine box_event ?hg (N := 1) ?hd (cs := #[.slice A0_0 l0_0.length c0_0, .slice A0_1 l0_1.length c0_1]) (t := 25) ?hr ?_; (case hd => rfl); (case hg => rfl); (case hr => first | (go_simp; done) | (go_simp; rfl)); intro gb171 hg w3 hbox hb; have n0_ := Aside0.mk (below_step (by repeat (first | (with_reducible first | exact HB.out | apply below_alloc | apply pw_below_drewN | apply below_drew1) | exact HB.out)) hb); have n1_ := Aside0.mk (hbox); have n2_ := Aside0.mk ((by rw [hg]; exact (below_size (by repeat (first | (with_reducible first | exact HB.out | apply below_alloc | apply pw_below_drewN | apply below_drew1) | exact HB.out))) : w.heap.size ≤ gb171)); have n3_ := Aside0.mk ((by rw [hg]; exact (below_size (by repeat (first | (with_reducible first | exact HB.out | apply below_alloc | apply pw_below_drewN | apply below_drew1) | exact HB.out))) : w.heap.size ≤ gb171)); clear HB; have HB := n0_; have BK171 := n1_; have GW171 := n2_; have GE171 := n3_; clear n0_ n1_ n2_ n3_; clear hb hbox hg))
  (try simp only [Act.put, List.setIfInBounds_toArray, List.set_cons_zero, List.set_cons_succ])
  go_cut [10] (fun v10 wc => ∃ (kq : Nat) (x10_1 : Bool), v10 = .bool x10_1 ∧ Aside0 (fencepostlaw08_Great.j0 kq x10_1 l0_0 l0_1 = some r) ∧ Aside0 (kq ≤ k) ∧ Aside0 (wc.heap[gb171]? = some (.cells #[(.slice A0_0 l0_0.length c0_0), (.slice A0_1 l0_1.length c0_1)] 25 (0, 0))) ∧ Aside0 (Below w.heap.size w wc))
  case first =>
    have H := HC2.out
    clear HC2
    replace H := Option.bind_eq_some_iff.mp H
    obtain ⟨t172, A40, H⟩ := H
    replace H : (if t172 = true then (fencepostlaw08_Great.j0 k true l0_0 l0_1) else ((fencepostref07_Right.f k l0_0 l0_1).bind fun t173 => (fencepostlaw08_Great.j0 k (!t173) l0_0 l0_1))) = some r := H
    have A4 := Aside0.mk A40
    clear A40
    by_cases c5 : t172 = true
    · subst c5
      have H1 : (fencepostlaw08_Great.j0 k true l0_0 l0_1) = some r := by rw [if_pos rfl] at H; exact H
      clear H
      have H := H1
      clear H1
      have H' := Aside0.mk H
      clear H
      have hcz6_0 : w3.cell? ⟨gb171, 0, none⟩ = some (.slice A0_0 l0_0.length c0_0) := (blk_cell BK171.out 0).trans rfl
      have hcz6_1 : w3.cell? ⟨gb171, 1, none⟩ = some (.slice A0_1 l0_1.length c0_1) := (blk_cell BK171.out 1).trans rfl
      have hfz6_0 := blk_frozen BK171.out 0
      have hfz6_1 := blk_frozen BK171.out 1
      go_wp2_with (first | ((with_reducible refine gate_callee (f := 27) rfl ?_); refine goesL_ (some 5) rfl rfl Try.func27 (by kernel_rfl) rfl #[.agg #[.slice A0_0 l0_0.length c0_0, .slice A0_1 l0_1.length c0_1]] rfl (by (try simp only [List.map_toArray, List.map_cons, List.map_nil]); first | done | rfl | (simp only [List.length_drop, List.length_take]; rfl)) ?_; (with_reducible refine (fencepostlaw07_Great.calls k _ _ l0_0 _ _ l0_1 true _ ?side1 ?side2 ?side3 ?side4 A4.out).mono ?_); (case side1 => repeat (first | exact (Kd.C_below HR0_0.out HB.out) | (with_reducible refine Kd.C_alloc ?_ _) | (with_reducible refine Kd.C_drewN ?_ _) | (with_reducible refine Kd.C_drew ?_))); (case side2 => exact HC0_0.out); (case side3 => repeat (first | exact (Kd.C_below HR0_1.out HB.out) | (with_reducible refine Kd.C_alloc ?_ _) | (with_reducible refine Kd.C_drewN ?_ _) | (with_reducible refine Kd.C_drew ?_))); (case side4 => exact HC0_1.out); rintro e w7 ⟨rfl, hb⟩; refine ⟨_, rfl, ?_⟩; have n0_ := Aside0.mk (blk_below (g := gb171) (o := .cells #[.slice A0_0 l0_0.length c0_0, .slice A0_1 l0_1.length c0_1] 25 (0, 0)) (by (with_reducible repeat (first | refine blk_drewN ?_ _ | refine blk_drew ?_ | refine blk_alloc ?_ _)); exact BK171.out) hb); have n1_ := Aside0.mk (below_step (by repeat (first | (with_reducible first | exact HB.out | apply below_alloc | apply pw_below_drewN | apply below_drew1 | refine below_set ?_ GE171.out) | exact HB.out)) hb); clear BK171; clear HB; have BK171 := n0_; have HB := n1_; clear n0_ n1_; (try clear hb); (try clear hb2); (try clear hk); (try clear hi)))
      go_meet
      case rel => exact ⟨_, (true), (by first | rfl | (simp; done) | (simp [*]; done)), H', ⟨by first | omega | exact Nat.le_refl _⟩, ⟨by (with_reducible repeat (first | refine blk_drewN ?_ _ | refine blk_drew ?_ | refine blk_alloc ?_ _)); exact BK171.out⟩, ⟨by repeat (first | (with_reducible first | exact HB.out | apply below_alloc | apply pw_below_drewN | apply below_drew1 | refine below_set ?_ GE171.out) | exact HB.out)⟩⟩
    · replace c5 := Bool.eq_false_iff.mpr c5
      subst c5
      have H1 : ((fencepostref07_Right.f k l0_0 l0_1).bind fun t173 => (fencepostlaw08_Great.j0 k (!t173) l0_0 l0_1)) = some r := by rw [if_neg (show ¬ (false = true) by decide)] at H; exact H
      clear H
      have H := H1
      clear H1
      replace H := Option.bind_eq_some_iff.mp H
      obtain ⟨t173, A80, H⟩ := H
      replace H : (fencepostlaw08_Great.j0 k (!t173) l0_0 l0_1) = some r := H
      have A8 := Aside0.mk A80
      clear A80
      have H' := Aside0.mk H
      clear H
      have hcz9_0 : w3.cell? ⟨gb171, 0, none⟩ = some (.slice A0_0 l0_0.length c0_0) := (blk_cell BK171.out 0).trans rfl
      have hcz9_1 : w3.cell? ⟨gb171, 1, none⟩ = some (.slice A0_1 l0_1.length c0_1) := (blk_cell BK171.out 1).trans rfl
      have hfz9_0 := blk_frozen BK171.out 0
      have hfz9_1 := blk_frozen BK171.out 1
      go_wp2_with (first | ((with_reducible refine gate_callee (f := 27) rfl ?_); refine goesL_ (some 5) rfl rfl Try.func27 (by kernel_rfl) rfl #[.agg #[.slice A0_0 l0_0.length c0_0, .slice A0_1 l0_1.length c0_1]] rfl (by (try simp only [List.map_toArray, List.map_cons, List.map_nil]); first | done | rfl | (simp only [List.length_drop, List.length_take]; rfl)) ?_; (with_reducible refine (fencepostlaw07_Great.calls k _ _ l0_0 _ _ l0_1 false _ ?side1 ?side2 ?side3 ?side4 A4.out).mono ?_); (case side1 => repeat (first | exact (Kd.C_below HR0_0.out HB.out) | (with_reducible refine Kd.C_alloc ?_ _) | (with_reducible refine Kd.C_drewN ?_ _) | (with_reducible refine Kd.C_drew ?_))); (case side2 => exact HC0_0.out); (case side3 => repeat (first | exact (Kd.C_below HR0_1.out HB.out) | (with_reducible refine Kd.C_alloc ?_ _) | (with_reducible refine Kd.C_drewN ?_ _) | (with_reducible refine Kd.C_drew ?_))); (case side4 => exact HC0_1.out); rintro e w10 ⟨rfl, hb⟩; refine ⟨_, rfl, ?_⟩; have n0_ := Aside0.mk (blk_below (g := gb171) (o := .cells #[.slice A0_0 l0_0.length c0_0, .slice A0_1 l0_1.length c0_1] 25 (0, 0)) (by (with_reducible repeat (first | refine blk_drewN ?_ _ | refine blk_drew ?_ | refine blk_alloc ?_ _)); exact BK171.out) hb); have n1_ := Aside0.mk (below_step (by repeat (first | (with_reducible first | exact HB.out | apply below_alloc | apply pw_below_drewN | apply below_drew1 | refine below_set ?_ GE171.out) | exact HB.out)) hb); clear BK171; clear HB; have BK171 := n0_; have HB := n1_; clear n0_ n1_; (try clear hb); (try clear hb2); (try clear hk); (try clear hi); have hcz11_0 : w10.cell? ⟨gb171, 0, none⟩ = some (.slice A0_0 l0_0.length c0_0) := (blk_cell BK171.out 0).trans rfl; have hcz11_1 : w10.cell? ⟨gb171, 1, none⟩ = some (.slice A0_1 l0_1.length c0_1) := (blk_cell BK171.out 1).trans rfl; have hfz11_0 := blk_frozen BK171.out 0; have hfz11_1 := blk_frozen BK171.out 1) | (go_at_call 28; (with_reducible refine (fencepostref07_Right.calls k _ _ l0_0 _ _ l0_1 t173 _ ?side1 ?side2 ?side3 ?side4 A8.out).mono ?_); (case side1 => repeat (first | exact (Kd.C_below HR0_0.out HB.out) | (with_reducible refine Kd.C_alloc ?_ _) | (with_reducible refine Kd.C_drewN ?_ _) | (with_reducible refine Kd.C_drew ?_))); (case side2 => exact HC0_0.out); (case side3 => repeat (first | exact (Kd.C_below HR0_1.out HB.out) | (with_reducible refine Kd.C_alloc ?_ _) | (with_reducible refine Kd.C_drewN ?_ _) | (with_reducible refine Kd.C_drew ?_))); (case side4 => exact HC0_1.out); rintro e w12 ⟨rfl, hb⟩; have n0_ := Aside0.mk (blk_below (g := gb171) (o := .cells #[.slice A0_0 l0_0.length c0_0, .slice A0_1 l0_1.length c0_1] 25 (0, 0)) (by (with_reducible repeat (first | refine blk_drewN ?_ _ | refine blk_drew ?_ | refine blk_alloc ?_ _)); exact BK171.out) hb); have n1_ := Aside0.mk (below_step (by repeat (first | (with_reducible first | exact HB.out | apply below_alloc | apply pw_below_drewN | apply below_drew1 | refine below_set ?_ GE171.out) | exact HB.out)) hb); clear BK171; clear HB; have BK171 := n0_; have HB := n1_; clear n0_ n1_; (try clear hb); (try clear hb2); (try clear hk); (try clear hi)))
      go_meet
      case rel => exact ⟨_, (!t173), (by first | rfl | (simp; done) | (simp [*]; done)), H', ⟨by first | omega | exact Nat.le_refl _⟩, ⟨by (with_reducible repeat (first | refine blk_drewN ?_ _ | refine blk_drew ?_ | refine blk_alloc ?_ _)); exact BK171.out⟩, ⟨by repeat (first | (with_reducible first | exact HB.out | apply below_alloc | apply pw_below_drewN | apply below_drew1 | refine below_set ?_ GE171.out) | exact HB.out)⟩⟩
  case rest =>
    clear HC2
    try clear c1
    try clear c2
    try clear p2
    try clear c5
    try clear c10
    try clear hcz11_0
    try clear hcz11_1
    try clear hcz6_0
    try clear hcz6_1
    try clear hcz9_0
    try clear hcz9_1
    try clear hfz11_0
    try clear hfz11_1
    try clear hfz6_0
    try clear hfz6_1
    try clear hfz9_0
    try clear hfz9_1
    obtain ⟨kq, x10_1, rfl, HA, HJ1, BK171, HB⟩ := hcut
    cases kq with
    | zero => exact absurd HA.out (by simp [fencepostlaw08_Great.j0])
    | succ kj1 =>
      have H := HA.out
      clear HA
      simp only [fencepostlaw08_Great.j0] at H
      by_cases c13 : x10_1 = true
      · subst c13
        have H1 : (some true) = some r := by rw [if_pos rfl] at H; exact H
        clear H
        have H := H1
        clear H1
        obtain rfl := Option.some.inj H
        go_wp2
        go_ret
        exact ⟨by first | rfl | (simp [errW_none, errW_some] <;> rfl) | (simp [*, errW_none, errW_some] <;> rfl), by repeat (first | (with_reducible first | exact HB.out | apply below_alloc | apply pw_below_drewN | apply below_drew1 | refine below_set ?_ GE171.out) | exact HB.out)⟩
      · replace c13 := Bool.eq_false_iff.mpr c13
        subst c13
        have H1 : (fencepostlaw08_Great.l0 kj1 0 l0_0 l0_1) = some r := by rw [if_neg (show ¬ (false = true) by decide)] at H; exact H
        clear H
        have H := H1
        clear H1
        have H' := Aside0.mk H
        clear H
        go_wp2
        go_loopg [3] kj1 (fun kq v3 w' => ∃ (x3_2 : Int), v3 = .int .i64 x3_2 ∧ Aside0 (fencepostlaw08_Great.l0 kq x3_2 l0_0 l0_1 = some r) ∧ Aside0 (kq ≤ kj1) ∧ Aside0 (w'.heap[gb171]? = some (.cells #[(.slice A0_0 l0_0.length c0_0), (.slice A0_1 l0_1.length c0_1)] 25 (0, 0))) ∧ Aside0 (Below w.heap.size w w'))
        case atStart => exact ⟨(0), (by first | rfl | (simp; done) | (simp [*]; done)), H', ⟨Nat.le_refl _⟩, ⟨by (with_reducible repeat (first | refine blk_drewN ?_ _ | refine blk_drew ?_ | refine blk_alloc ?_ _)); exact BK171.out⟩, ⟨by repeat (first | (with_reducible first | exact HB.out | apply below_alloc | apply pw_below_drewN | apply below_drew1 | refine below_set ?_ GE171.out) | exact HB.out)⟩⟩
        case round =>
          clear H'
          try clear c1
          try clear c2
          try clear p2
          try clear c5
          try clear c10
          try clear c13
          try clear hcz11_0
          try clear hcz11_1
          try clear hcz6_0
          try clear hcz6_1
          try clear hcz9_0
          try clear hcz9_1
          try clear hfz11_0
          try clear hfz11_1
          try clear hfz6_0
          try clear hfz6_1
          try clear hfz9_0
          try clear hfz9_1
          try clear p2
          obtain ⟨x3_2, rfl, HA, HK2, BK171, HB⟩ := hrel
          cases gk with
          | zero => exact absurd HA.out (by simp [fencepostlaw08_Great.l0])
          | succ k2 =>
            have H := HA.out
            clear HA
            simp only [fencepostlaw08_Great.l0] at H
            by_cases c14 : x3_2 < (l0_1.length : Int)
            · rw [if_pos c14] at H
              have c14b0 : decide (x3_2 < (l0_1.length : Int)) = true := decide_eq_true c14
              clear c14
              by_cases c15 : 0 ≤ x3_2
              · rw [if_pos c15] at H
                have c15b0 : decide (0 ≤ x3_2) = true := decide_eq_true c15
                clear c15
                by_cases c16 : ((rd_L2 l0_1 x3_2).length : Int) > 40
                · rw [if_pos c16] at H
                  have c16b0 : decide (40 < ((rd_L2 l0_1 x3_2).length : Int)) = true := decide_eq_true c16
                  have c16b1 : decide (40 < (rd_L2 l0_1 x3_2).length) = true := decide_eq_true (by omega)
                  clear c16
                  obtain rfl := Option.some.inj H
                  have hcz17_0 : wr.cell? ⟨gb171, 0, none⟩ = some (.slice A0_0 l0_0.length c0_0) := (blk_cell BK171.out 0).trans rfl
                  have hcz17_1 : wr.cell? ⟨gb171, 1, none⟩ = some (.slice A0_1 l0_1.length c0_1) := (blk_cell BK171.out 1).trans rfl
                  have hfz17_0 := blk_frozen BK171.out 0
                  have hfz17_1 := blk_frozen BK171.out 1
                  have p174 : 0 ≤ (x3_2 : Int) := of_decide_eq_true (by first | (with_reducible assumption) | assumption)
                  have q174 : x3_2 < (l0_1.length : Int) := of_decide_eq_true (by first | (with_reducible assumption) | assumption)
                  obtain ⟨ad174, A174_0, c174_0, e174, hx174_0, hl174_0, hi174_0⟩ := at_L2 HR0_1.out x3_2 p174 q174
                  cases e174
                  replace hx174_0 := (HB.out.cell (World.block_lt_of_cell? w _ hx174_0)).trans hx174_0
                  have HR174_0 := Aside0.mk hi174_0
                  have HC174_0 := Aside0.mk hl174_0
                  clear hi174_0 hl174_0
                  replace p174 := eq_true p174
                  replace q174 := eq_true q174
                  go_wp2
                  go_ret
                  exact ⟨by first | rfl | (simp [errW_none, errW_some] <;> rfl) | (simp [*, errW_none, errW_some] <;> rfl), by repeat (first | (with_reducible first | exact HB.out | apply below_alloc | apply pw_below_drewN | apply below_drew1 | refine below_set ?_ GE171.out) | exact HB.out)⟩
                · rw [if_neg c16] at H
                  have c16b0 : decide (40 < ((rd_L2 l0_1 x3_2).length : Int)) = false := decide_eq_false c16
                  have c16b1 : decide (40 < (rd_L2 l0_1 x3_2).length) = false := decide_eq_false (by omega)
                  clear c16
                  have H' := Aside0.mk H
                  clear H
                  have hcz18_0 : wr.cell? ⟨gb171, 0, none⟩ = some (.slice A0_0 l0_0.length c0_0) := (blk_cell BK171.out 0).trans rfl
                  have hcz18_1 : wr.cell? ⟨gb171, 1, none⟩ = some (.slice A0_1 l0_1.length c0_1) := (blk_cell BK171.out 1).trans rfl
                  have hfz18_0 := blk_frozen BK171.out 0
                  have hfz18_1 := blk_frozen BK171.out 1
                  have p174 : 0 ≤ (x3_2 : Int) := of_decide_eq_true (by first | (with_reducible assumption) | assumption)
                  have q174 : x3_2 < (l0_1.length : Int) := of_decide_eq_true (by first | (with_reducible assumption) | assumption)
                  obtain ⟨ad174, A174_0, c174_0, e174, hx174_0, hl174_0, hi174_0⟩ := at_L2 HR0_1.out x3_2 p174 q174
                  cases e174
                  replace hx174_0 := (HB.out.cell (World.block_lt_of_cell? w _ hx174_0)).trans hx174_0
                  have HR174_0 := Aside0.mk hi174_0
                  have HC174_0 := Aside0.mk hl174_0
                  clear hi174_0 hl174_0
                  replace p174 := eq_true p174
                  replace q174 := eq_true q174
                  go_wp2
                  go_roundg k2
                  case measure => have := HJ1.out; have := HK2.out; omega
                  case rel => exact ⟨(wrap64 (x3_2 + 1)), (by first | rfl | (simp; done) | (simp [*]; done)), H', ⟨by have := HJ1.out; have := HK2.out; omega⟩, ⟨by (with_reducible repeat (first | refine blk_drewN ?_ _ | refine blk_drew ?_ | refine blk_alloc ?_ _)); exact BK171.out⟩, ⟨by repeat (first | (with_reducible first | exact HB.out | apply below_alloc | apply pw_below_drewN | apply below_drew1 | refine below_set ?_ GE171.out) | exact HB.out)⟩⟩
              · rw [if_neg c15] at H
                exact absurd H (by simp)
            · rw [if_neg c14] at H
              have c14b0 : decide (x3_2 < (l0_1.length : Int)) = false := decide_eq_false c14
              clear c14
              obtain rfl := Option.some.inj H
              have hcz19_0 : wr.cell? ⟨gb171, 0, none⟩ = some (.slice A0_0 l0_0.length c0_0) := (blk_cell BK171.out 0).trans rfl
              have hcz19_1 : wr.cell? ⟨gb171, 1, none⟩ = some (.slice A0_1 l0_1.length c0_1) := (blk_cell BK171.out 1).trans rfl
              have hfz19_0 := blk_frozen BK171.out 0
              have hfz19_1 := blk_frozen BK171.out 1
              go_wp2
              go_ret
              exact ⟨by first | rfl | (simp [errW_none, errW_some] <;> rfl) | (simp [*, errW_none, errW_some] <;> rfl), by repeat (first | (with_reducible first | exact HB.out | apply below_alloc | apply pw_below_drewN | apply below_drew1 | refine below_set ?_ GE171.out) | exact HB.out)⟩

/-! ### fencepostref08_Of: function 23 -/
def fencepostref08_Of.l0 : Nat → Int → Int → Int → List Int → List (List (S49)) → Option (Int × Int × Bool)
  | 0, _, _, _, _, _ => none
  | k + 1, x1, x7, x8, x176000, x176001 => if x8 < (x176001.length : Int) then (if x1 ≥ x7 then (if 0 ≤ x8 then (if (wrap64 (x1 - x7)) < ((rd_L2 x176001 x8).length : Int) then (some (x8, wrap64 (x1 - x7), true)) else (fencepostref08_Of.l0 k x1 (wrap64 (x7 + ((rd_L2 x176001 x8).length : Int))) (wrap64 (x8 + 1)) x176000 x176001)) else (none)) else (if 0 ≤ x8 then (fencepostref08_Of.l0 k x1 (wrap64 (x7 + ((rd_L2 x176001 x8).length : Int))) (wrap64 (x8 + 1)) x176000 x176001) else (none))) else (some (0, 0, false))
def fencepostref08_Of.f (k : Nat) (l0_0 : List Int) (l0_1 : List (List (S49))) (a1 : Int) : Option (Int × Int × Bool) := fencepostref08_Of.l0 k a1 0 0 l0_0 l0_1
theorem fencepostref08_Of.mono_l : ∀ k, (∀ y0 y1 y2 y3 y4, LeO (fencepostref08_Of.l0 k y0 y1 y2 y3 y4) (fencepostref08_Of.l0 (k + 1) y0 y1 y2 y3 y4))
  | 0 => fun _ _ _ _ _ r h => by simp [fencepostref08_Of.l0] at h
  | k + 1 => by
    have ih0 := fencepostref08_Of.mono_l k
    · intro y0 y1 y2 y3 y4
      unfold fencepostref08_Of.l0
      repeat' first
      | (with_reducible exact ih0 _ _ _ _ _)
      | (with_reducible exact LeO.refl _)
      | (with_reducible exact LeO.none _)
      | (with_reducible refine LeO.ite ?_ ?_)
      | (with_reducible refine LeO.bind ?_ (fun _ => ?_))
      | exact ih0 _ _ _ _ _
      | exact LeO.none _
      | refine LeO.ite ?_ ?_
      | refine LeO.bind ?_ (fun _ => ?_)
theorem fencepostref08_Of.mono : ∀ a0 a1 a2 k, LeO (fencepostref08_Of.f k a0 a1 a2) (fencepostref08_Of.f (k + 1) a0 a1 a2) := by
  intro a0 a1 a2 k
  have ih0 := fencepostref08_Of.mono_l k
  unfold fencepostref08_Of.f
  repeat' first
      | (with_reducible exact ih0 _ _ _ _ _)
      | (with_reducible exact LeO.refl _)
      | (with_reducible exact LeO.none _)
      | (with_reducible refine LeO.ite ?_ ?_)
      | (with_reducible refine LeO.bind ?_ (fun _ => ?_))
      | exact ih0 _ _ _ _ _
      | exact LeO.none _
      | refine LeO.ite ?_ ?_
      | refine LeO.bind ?_ (fun _ => ?_)
set_option maxHeartbeats 8000000 in
set_option maxRecDepth 100000 in
theorem fencepostref08_Of.calls (k : Nat) (A0_0 : Option Addr) (c0_0 : Nat) (l0_0 : List Int) (A0_1 : Option Addr) (c0_1 : Nat) (l0_1 : List (List (S49))) (a1 : Int) (r1 : Int) (r2 : Int) (r3 : Bool) (w : World) (hr0_0 : Kd.C (Kd.int .i64) w A0_0 l0_0.length l0_0) (hc0_0 : l0_0.length ≤ c0_0) (hr0_1 : Kd.C (Kd.slice 49 k49) w A0_1 l0_1.length l0_1) (hc0_1 : l0_1.length ≤ c0_1) (h : fencepostref08_Of.f k l0_0 l0_1 a1 = some (r1, r2, r3)) :
    Calls Try.prog 23 #[.agg #[.slice A0_0 l0_0.length c0_0, .slice A0_1 l0_1.length c0_1], .int .i64 a1] w fun e w' => e = .returned (.tuple #[.int .i64 r1, .int .i64 r2, .bool r3]) ∧ Below w.heap.size w w' := by
  have hu25 := Try.underlying25
  have HR0_0 := Aside0.mk hr0_0
  have HC0_0 := Aside0.mk hc0_0
  clear hr0_0 hc0_0
  have HR0_1 := Aside0.mk hr0_1
  have HC0_1 := Aside0.mk hc0_1
  clear hr0_1 hc0_1
  have HB := Aside0.mk (Below.refl w.heap.size w)
  have H : (fencepostref08_Of.l0 k a1 0 0 l0_0 l0_1) = some (r1, r2, r3) := h
  clear h
  have H' := Aside0.mk H
  clear H
  go_enter Try.func23, Try.ntmps23
  go_wp2_with (first | ((with_reducible refine gate_dst (N := 2) rfl ?_); (try (refine gate_guard (by rfl) ?_; dsimp only)); refine box_event ?hg (N := 2) ?hd (cs := #[.slice A0_0 l0_0.length c0_0, .slice A0_1 l0_1.length c0_1]) (t := 25) ?hr ?_; (case hd => rfl); (case hg => rfl); (case hr => first | (go_simp; done) | (go_simp; rfl)); intro gb175 hg w3 hbox hb; have n0_ := Aside0.mk (below_step (by repeat (first | (with_reducible first | exact HB.out | apply below_alloc | apply pw_below_drewN | apply below_drew1) | exact HB.out)) hb); have n1_ := Aside0.mk (hbox); have n2_ := Aside0.mk ((by rw [hg]; exact (below_size (by repeat (first | (with_reducible first | exact HB.out | apply below_alloc | apply pw_below_drewN | apply below_drew1) | exact HB.out))) : w.heap.size ≤ gb175)); have n3_ := Aside0.mk ((by rw [hg]; exact (below_size (by repeat (first | (with_reducible first | exact HB.out | apply below_alloc | apply pw_below_drewN | apply below_drew1) | exact HB.out))) : w.heap.size ≤ gb175)); clear HB; have HB := n0_; have BK175 := n1_; have GW175 := n2_; have GE175 := n3_; clear n0_ n1_ n2_ n3_; clear hb hbox hg))
  go_loopg [7, 8] k (fun kq v7 v8 w' => ∃ (x7_1 : Int) (x8_1 : Int), v7 = .int .i64 x7_1 ∧ v8 = .int .i64 x8_1 ∧ Aside0 (fencepostref08_Of.l0 kq a1 x7_1 x8_1 l0_0 l0_1 = some (r1, r2, r3)) ∧ Aside0 (kq ≤ k) ∧ Aside0 (w'.heap[gb175]? = some (.cells #[(.slice A0_0 l0_0.length c0_0), (.slice A0_1 l0_1.length c0_1)] 25 (0, 0))) ∧ Aside0 (Below w.heap.size w w'))
  case atStart => exact ⟨(0), (0), (by first | rfl | (simp; done) | (simp [*]; done)), (by first | rfl | (simp; done) | (simp [*]; done)), H', ⟨Nat.le_refl _⟩, ⟨by (with_reducible repeat (first | refine blk_drewN ?_ _ | refine blk_drew ?_ | refine blk_alloc ?_ _)); exact BK175.out⟩, ⟨by repeat (first | (with_reducible first | exact HB.out | apply below_alloc | apply pw_below_drewN | apply below_drew1 | refine below_set ?_ GE175.out) | exact HB.out)⟩⟩
  case round =>
    clear H'
    try clear c2
    try clear p2
    obtain ⟨x7_1, x8_1, rfl, rfl, HA, HK1, BK175, HB⟩ := hrel
    cases gk with
    | zero => exact absurd HA.out (by simp [fencepostref08_Of.l0])
    | succ k1 =>
      have H := HA.out
      clear HA
      simp only [fencepostref08_Of.l0] at H
      by_cases c4 : x8_1 < (l0_1.length : Int)
      · rw [if_pos c4] at H
        have c4b0 : decide (x8_1 < (l0_1.length : Int)) = true := decide_eq_true c4
        clear c4
        by_cases c5 : a1 ≥ x7_1
        · rw [if_pos c5] at H
          have c5b0 : decide (x7_1 ≤ a1) = true := decide_eq_true c5
          clear c5
          by_cases c6 : 0 ≤ x8_1
          · rw [if_pos c6] at H
            have c6b0 : decide (0 ≤ x8_1) = true := decide_eq_true c6
            clear c6
            by_cases c7 : (wrap64 (a1 - x7_1)) < ((rd_L2 l0_1 x8_1).length : Int)
            · rw [if_pos c7] at H
              have c7b0 : decide ((wrap64 (a1 - x7_1)) < ((rd_L2 l0_1 x8_1).length : Int)) = true := decide_eq_true c7
              clear c7
              simp only [Option.some.injEq, Prod.mk.injEq] at H
              obtain ⟨rfl, rfl, rfl⟩ := H
              have hcz8_0 : wr.cell? ⟨gb175, 0, none⟩ = some (.slice A0_0 l0_0.length c0_0) := (blk_cell BK175.out 0).trans rfl
              have hcz8_1 : wr.cell? ⟨gb175, 1, none⟩ = some (.slice A0_1 l0_1.length c0_1) := (blk_cell BK175.out 1).trans rfl
              have hfz8_0 := blk_frozen BK175.out 0
              have hfz8_1 := blk_frozen BK175.out 1
              have p176 : 0 ≤ (x8_1 : Int) := of_decide_eq_true (by first | (with_reducible assumption) | assumption)
              have q176 : x8_1 < (l0_1.length : Int) := of_decide_eq_true (by first | (with_reducible assumption) | assumption)
              obtain ⟨ad176, A176_0, c176_0, e176, hx176_0, hl176_0, hi176_0⟩ := at_L2 HR0_1.out x8_1 p176 q176
              cases e176
              replace hx176_0 := (HB.out.cell (World.block_lt_of_cell? w _ hx176_0)).trans hx176_0
              have HR176_0 := Aside0.mk hi176_0
              have HC176_0 := Aside0.mk hl176_0
              clear hi176_0 hl176_0
              replace p176 := eq_true p176
              replace q176 := eq_true q176
              go_wp2
              go_ret3
              exact ⟨by first | rfl | (simp [errW_none, errW_some] <;> rfl) | (simp [*, errW_none, errW_some] <;> rfl), by repeat (first | (with_reducible first | exact HB.out | apply below_alloc | apply pw_below_drewN | apply below_drew1 | refine below_set ?_ GE175.out) | exact HB.out)⟩
            · rw [if_neg c7] at H
              have c7b0 : decide ((wrap64 (a1 - x7_1)) < ((rd_L2 l0_1 x8_1).length : Int)) = false := decide_eq_false c7
              clear c7
              have H' := Aside0.mk H
              clear H
              have hcz9_0 : wr.cell? ⟨gb175, 0, none⟩ = some (.slice A0_0 l0_0.length c0_0) := (blk_cell BK175.out 0).trans rfl
              have hcz9_1 : wr.cell? ⟨gb175, 1, none⟩ = some (.slice A0_1 l0_1.length c0_1) := (blk_cell BK175.out 1).trans rfl
              have hfz9_0 := blk_frozen BK175.out 0
              have hfz9_1 := blk_frozen BK175.out 1
              have p176 : 0 ≤ (x8_1 : Int) := of_decide_eq_true (by first | (with_reducible assumption) | assumption)
              have q176 : x8_1 < (l0_1.length : Int) := of_decide_eq_true (by first | (with_reducible assumption) | assumption)
              obtain ⟨ad176, A176_0, c176_0, e176, hx176_0, hl176_0, hi176_0⟩ := at_L2 HR0_1.out x8_1 p176 q176
              cases e176
              replace hx176_0 := (HB.out.cell (World.block_lt_of_cell? w _ hx176_0)).trans hx176_0
              have HR176_0 := Aside0.mk hi176_0
              have HC176_0 := Aside0.mk hl176_0
              clear hi176_0 hl176_0
              replace p176 := eq_true p176
              replace q176 := eq_true q176
              have p177 : 0 ≤ (x8_1 : Int) := of_decide_eq_true (by first | (with_reducible assumption) | assumption)
              have q177 : x8_1 < (l0_1.length : Int) := of_decide_eq_true (by first | (with_reducible assumption) | assumption)
              obtain ⟨ad177, A177_0, c177_0, e177, hx177_0, hl177_0, hi177_0⟩ := at_L2 HR0_1.out x8_1 p177 q177
              obtain rfl : ad176 = ad177 := (by injection e177)
              replace hx177_0 := (HB.out.cell (World.block_lt_of_cell? w _ hx177_0)).trans hx177_0
              have HR177_0 := Aside0.mk hi177_0
              have HC177_0 := Aside0.mk hl177_0
              clear hi177_0 hl177_0
              replace p177 := eq_true p177
              replace q177 := eq_true q177
              have ea_ := Option.some.inj (hx176_0.symm.trans hx177_0)
              injection ea_ with ea_ en_ ec_
              subst ea_
              subst ec_
              clear en_
              go_wp2
              go_roundg k1
              case measure => have := HK1.out; omega
              case rel => exact ⟨(wrap64 (x7_1 + ((rd_L2 l0_1 x8_1).length : Int))), (wrap64 (x8_1 + 1)), (by first | rfl | (simp; done) | (simp [*]; done)), (by first | rfl | (simp; done) | (simp [*]; done)), H', ⟨by have := HK1.out; omega⟩, ⟨by (with_reducible repeat (first | refine blk_drewN ?_ _ | refine blk_drew ?_ | refine blk_alloc ?_ _)); exact BK175.out⟩, ⟨by repeat (first | (with_reducible first | exact HB.out | apply below_alloc | apply pw_below_drewN | apply below_drew1 | refine below_set ?_ GE175.out) | exact HB.out)⟩⟩
          · rw [if_neg c6] at H
            exact absurd H (by simp)
        · rw [if_neg c5] at H
          have c5b0 : decide (x7_1 ≤ a1) = false := decide_eq_false c5
          clear c5
          by_cases c10 : 0 ≤ x8_1
          · rw [if_pos c10] at H
            have c10b0 : decide (0 ≤ x8_1) = true := decide_eq_true c10
            clear c10
            have H' := Aside0.mk H
            clear H
            have hcz11_0 : wr.cell? ⟨gb175, 0, none⟩ = some (.slice A0_0 l0_0.length c0_0) := (blk_cell BK175.out 0).trans rfl
            have hcz11_1 : wr.cell? ⟨gb175, 1, none⟩ = some (.slice A0_1 l0_1.length c0_1) := (blk_cell BK175.out 1).trans rfl
            have hfz11_0 := blk_frozen BK175.out 0
            have hfz11_1 := blk_frozen BK175.out 1
            have p178 : 0 ≤ (x8_1 : Int) := of_decide_eq_true (by first | (with_reducible assumption) | assumption)
            have q178 : x8_1 < (l0_1.length : Int) := of_decide_eq_true (by first | (with_reducible assumption) | assumption)
            obtain ⟨ad178, A178_0, c178_0, e178, hx178_0, hl178_0, hi178_0⟩ := at_L2 HR0_1.out x8_1 p178 q178
            cases e178
            replace hx178_0 := (HB.out.cell (World.block_lt_of_cell? w _ hx178_0)).trans hx178_0
            have HR178_0 := Aside0.mk hi178_0
            have HC178_0 := Aside0.mk hl178_0
            clear hi178_0 hl178_0
            replace p178 := eq_true p178
            replace q178 := eq_true q178
            go_wp2
            go_roundg k1
            case measure => have := HK1.out; omega
            case rel => exact ⟨(wrap64 (x7_1 + ((rd_L2 l0_1 x8_1).length : Int))), (wrap64 (x8_1 + 1)), (by first | rfl | (simp; done) | (simp [*]; done)), (by first | rfl | (simp; done) | (simp [*]; done)), H', ⟨by have := HK1.out; omega⟩, ⟨by (with_reducible repeat (first | refine blk_drewN ?_ _ | refine blk_drew ?_ | refine blk_alloc ?_ _)); exact BK175.out⟩, ⟨by repeat (first | (with_reducible first | exact HB.out | apply below_alloc | apply pw_below_drewN | apply below_drew1 | refine below_set ?_ GE175.out) | exact HB.out)⟩⟩
          · rw [if_neg c10] at H
            exact absurd H (by simp)
      · rw [if_neg c4] at H
        have c4b0 : decide (x8_1 < (l0_1.length : Int)) = false := decide_eq_false c4
        clear c4
        simp only [Option.some.injEq, Prod.mk.injEq] at H
        obtain ⟨rfl, rfl, rfl⟩ := H
        have hcz12_0 : wr.cell? ⟨gb175, 0, none⟩ = some (.slice A0_0 l0_0.length c0_0) := (blk_cell BK175.out 0).trans rfl
        have hcz12_1 : wr.cell? ⟨gb175, 1, none⟩ = some (.slice A0_1 l0_1.length c0_1) := (blk_cell BK175.out 1).trans rfl
        have hfz12_0 := blk_frozen BK175.out 0
        have hfz12_1 := blk_frozen BK175.out 1
        go_wp2
        go_ret3
        exact ⟨by first | rfl | (simp [errW_none, errW_some] <;> rfl) | (simp [*, errW_none, errW_some] <;> rfl), by repeat (first | (with_reducible first | exact HB.out | apply below_alloc | apply pw_below_drewN | apply below_drew1 | refine below_set ?_ GE175.out) | exact HB.out)⟩

/-! ### fencepostref19_Writes: function 24 -/
def fencepostref19_Writes.f (a0_0 : Int) (a0_1 : Int) (a0_2 : Int) (a0_3 : Int) (a0_4 : Int) : Option (Bool) := if a0_0 = 3 then (some true) else (some (a0_0 == 4))
set_option maxHeartbeats 8000000 in
set_option maxRecDepth 100000 in
theorem fencepostref19_Writes.calls (a0_0 : Int) (a0_1 : Int) (a0_2 : Int) (a0_3 : Int) (a0_4 : Int) (r : Bool) (w : World) (h : fencepostref19_Writes.f a0_0 a0_1 a0_2 a0_3 a0_4 = some r) :
    Calls Try.prog 24 #[.agg #[.int .i64 a0_0, .int .i64 a0_1, .int .i64 a0_2, .int .i64 a0_3, .int .i64 a0_4]] w fun e w' => e = .returned (.bool r) ∧ Below w.heap.size w w' := by
  have hu49 := Try.underlying49
  have HB := Aside0.mk (Below.refl w.heap.size w)
  have H : (if a0_0 = 3 then (some true) else (some (a0_0 == 4))) = some r := h
  clear h
  by_cases c2 : a0_0 = 3
  · rw [if_pos c2] at H
    have c2b0 : (a0_0 == 3) = true := beq_iff_eq.mpr c2
    have c2b1 : (a0_0 != 3) = false := bne_eq_false_iff_eq.mpr c2
    clear c2
    obtain rfl := Option.some.inj H
    go_enter Try.func24, Try.ntmps24
    go_wp2_with (first | ((with_reducible refine gate_dst (N := 1) rfl ?_); refine box_event ?hg (N := 1) ?hd (cs := #[.int .i64 a0_0, .int .i64 a0_1, .int .i64 a0_2, .int .i64 a0_3, .int .i64 a0_4]) (t := 49) ?hr ?_; (case hd => rfl); (case hg => rfl); (case hr => first | (go_simp; done) | (go_simp; rfl)); intro gb179 hg w3 hbox hb; have n0_ := Aside0.mk (below_step (by repeat (first | (with_reducible first | exact HB.out | apply below_alloc | apply pw_below_drewN | apply below_drew1) | exact HB.out)) hb); have n1_ := Aside0.mk (hbox); have n2_ := Aside0.mk ((by rw [hg]; exact (below_size (by repeat (first | (with_reducible first | exact HB.out | apply below_alloc | apply pw_below_drewN | apply below_drew1) | exact HB.out))) : w.heap.size ≤ gb179)); have n3_ := Aside0.mk ((by rw [hg]; exact (below_size (by repeat (first | (with_reducible first | exact HB.out | apply below_alloc | apply pw_below_drewN | apply below_drew1) | exact HB.out))) : w.heap.size ≤ gb179)); clear HB; have HB := n0_; have BK179 := n1_; have GW179 := n2_; have GE179 := n3_; clear n0_ n1_ n2_ n3_; clear hb hbox hg; have hcz4_0 : w3.cell? ⟨gb179, 0, none⟩ = some (.int .i64 a0_0) := (blk_cell BK179.out 0).trans rfl; have hcz4_1 : w3.cell? ⟨gb179, 1, none⟩ = some (.int .i64 a0_1) := (blk_cell BK179.out 1).trans rfl; have hcz4_2 : w3.cell? ⟨gb179, 2, none⟩ = some (.int .i64 a0_2) := (blk_cell BK179.out 2).trans rfl; have hcz4_3 : w3.cell? ⟨gb179, 3, none⟩ = some (.int .i64 a0_3) := (blk_cell BK179.out 3).trans rfl; have hcz4_4 : w3.cell? ⟨gb179, 4, none⟩ = some (.int .i64 a0_4) := (blk_cell BK179.out 4).trans rfl; have hfz4_0 := blk_frozen BK179.out 0; have hfz4_1 := blk_frozen BK179.out 1; have hfz4_2 := blk_frozen BK179.out 2; have hfz4_3 := blk_frozen BK179.out 3; have hfz4_4 := blk_frozen BK179.out 4))
    go_ret
    exact ⟨by first | rfl | (simp [errW_none, errW_some] <;> rfl) | (simp [*, errW_none, errW_some] <;> rfl), by repeat (first | (with_reducible first | exact HB.out | apply below_alloc | apply pw_below_drewN | apply below_drew1 | refine below_set ?_ GE179.out) | exact HB.out)⟩
  · rw [if_neg c2] at H
    have c2b0 : (a0_0 == 3) = false := beq_eq_false_iff_ne.mpr c2
    have c2b1 : (a0_0 != 3) = true := bne_iff_ne.mpr c2
    obtain rfl := Option.some.inj H
    go_enter Try.func24, Try.ntmps24
    go_wp2_with (first | ((with_reducible refine gate_dst (N := 1) rfl ?_); refine box_event ?hg (N := 1) ?hd (cs := #[.int .i64 a0_0, .int .i64 a0_1, .int .i64 a0_2, .int .i64 a0_3, .int .i64 a0_4]) (t := 49) ?hr ?_; (case hd => rfl); (case hg => rfl); (case hr => first | (go_simp; done) | (go_simp; rfl)); intro gb179 hg w5 hbox hb; have n0_ := Aside0.mk (below_step (by repeat (first | (with_reducible first | exact HB.out | apply below_alloc | apply pw_below_drewN | apply below_drew1) | exact HB.out)) hb); have n1_ := Aside0.mk (hbox); have n2_ := Aside0.mk ((by rw [hg]; exact (below_size (by repeat (first | (with_reducible first | exact HB.out | apply below_alloc | apply pw_below_drewN | apply below_drew1) | exact HB.out))) : w.heap.size ≤ gb179)); have n3_ := Aside0.mk ((by rw [hg]; exact (below_size (by repeat (first | (with_reducible first | exact HB.out | apply below_alloc | apply pw_below_drewN | apply below_drew1) | exact HB.out))) : w.heap.size ≤ gb179)); clear HB; have HB := n0_; have BK179 := n1_; have GW179 := n2_; have GE179 := n3_; clear n0_ n1_ n2_ n3_; clear hb hbox hg; have hcz6_0 : w5.cell? ⟨gb179, 0, none⟩ = some (.int .i64 a0_0) := (blk_cell BK179.out 0).trans rfl; have hcz6_1 : w5.cell? ⟨gb179, 1, none⟩ = some (.int .i64 a0_1) := (blk_cell BK179.out 1).trans rfl; have hcz6_2 : w5.cell? ⟨gb179, 2, none⟩ = some (.int .i64 a0_2) := (blk_cell BK179.out 2).trans rfl; have hcz6_3 : w5.cell? ⟨gb179, 3, none⟩ = some (.int .i64 a0_3) := (blk_cell BK179.out 3).trans rfl; have hcz6_4 : w5.cell? ⟨gb179, 4, none⟩ = some (.int .i64 a0_4) := (blk_cell BK179.out 4).trans rfl; have hfz6_0 := blk_frozen BK179.out 0; have hfz6_1 := blk_frozen BK179.out 1; have hfz6_2 := blk_frozen BK179.out 2; have hfz6_3 := blk_frozen BK179.out 3; have hfz6_4 := blk_frozen BK179.out 4))
    go_ret
    exact ⟨by first | rfl | (simp [errW_none, errW_some] <;> rfl) | (simp [*, errW_none, errW_some] <;> rfl), by repeat (first | (with_reducible first | exact HB.out | apply below_alloc | apply pw_below_drewN | apply below_drew1 | refine below_set ?_ GE179.out) | exact HB.out)⟩

end Go.Proofs.Ytodjfbcpohcbaaa.Print
