-- Written by ownprint.py (this session's) with the kit's print.py: functions, contracts, rows; Lean checks it.
import Derived.Test.YtpaifpnnjflnfaaPrint0
import Derived.Test.YtpaifpnnjflnfaaPrint2
import Derived.Test.YtpaifpnnjflnfaaPrint15
import Derived.Test.YtpaifpnnjflnfaaPrint16
import Derived.Test.YtpaifpnnjflnfaaHLast
import Derived.Test.YtpaifpnnjflnfaaHPush
namespace Go.Proofs.Ytpaifpnnjflnfaa.Print
open Go.RowKit Go.Proofs.YtpaifpnnjflnfaaW.PrintWords Go.Proofs.YtpaifpnnjflnfaaW.PrintLast Go.Proofs.YtpaifpnnjflnfaaW.PrintMore
attribute [local go_sem] max2_int min2_int max_two min_two max_three min_three max_four min_four   -- for this text's walks alone
set_option linter.unusedVariables false
set_option linter.unusedSimpArgs false

/-! ### fencepostlaw09_BufView: function 10 -/
def fencepostlaw09_BufView.l0 : Nat → List (S51) → List Int → Int → Bool → Int → Option (Bool)
  | 0, _, _, _, _, _ => none
  | k + 1, x0, x1, x2, x7, x8 => if x8 < (x0.length : Int) then (if 0 ≤ x8 then (if ((rd_T51 x0 x8).f0) < 0 then (some x7) else (if ((rd_T51 x0 x8).f0) ≥ (x1.length : Int) then (some x7) else (fencepostlaw09_BufView.l0 k x0 x1 x2 x7 (wrap64 (x8 + 1))))) else (none)) else ((buf_All.f k x0 x1).bind fun t665 => ((buf_View.f x0 x1 x2).bind fun bt668 => (if x2 ≥ 0 then (if (bt668.2 != (decide (x2 < (x1.length : Int)))) = true then (some false) else (if (t665.length : Int) = (x1.length : Int) then (if x7 = true then (if bt668.2 = true then (if 0 ≤ x2 then (if x2 < (t665.length : Int) then (some ((rd t665 x2) == bt668.1)) else (none)) else (none)) else (some true)) else (some false)) else (some false))) else (if (bt668.2 != false) = true then (some false) else (if (t665.length : Int) = (x1.length : Int) then (if x7 = true then (if bt668.2 = true then (if 0 ≤ x2 then (if x2 < (t665.length : Int) then (some ((rd t665 x2) == bt668.1)) else (none)) else (none)) else (some true)) else (some false)) else (some false))))))
def fencepostlaw09_BufView.f (k : Nat) (l0 : List (S51)) (l1 : List Int) (a2 : Int) : Option (Bool) := (fencepostlaw09_head.f k).bind fun t661 => ((fencepostlaw09_great.f l0 l1).bind fun t662 => (if t662 = true then (some t661) else (fencepostlaw09_BufView.l0 k l0 l1 a2 t661 0)))
theorem fencepostlaw09_BufView.mono_l : ∀ k, (∀ y0 y1 y2 y3 y4, LeO (fencepostlaw09_BufView.l0 k y0 y1 y2 y3 y4) (fencepostlaw09_BufView.l0 (k + 1) y0 y1 y2 y3 y4))
  | 0 => fun _ _ _ _ _ r h => by simp [fencepostlaw09_BufView.l0] at h
  | k + 1 => by
    have ih0 := fencepostlaw09_BufView.mono_l k
    · intro y0 y1 y2 y3 y4
      unfold fencepostlaw09_BufView.l0
      repeat' first
      | (with_reducible exact ih0 _ _ _ _ _)
      | (with_reducible exact buf_All.mono _ _ _)
      | (with_reducible exact fencepostlaw09_head.mono _)
      | (with_reducible exact LeO.refl _)
      | (with_reducible exact LeO.none _)
      | (with_reducible refine LeO.ite ?_ ?_)
      | (with_reducible refine LeO.bind ?_ (fun _ => ?_))
      | exact ih0 _ _ _ _ _
      | exact buf_All.mono _ _ _
      | exact fencepostlaw09_head.mono _
      | exact LeO.none _
      | refine LeO.ite ?_ ?_
      | refine LeO.bind ?_ (fun _ => ?_)
theorem fencepostlaw09_BufView.mono : ∀ a0 a1 a2 k, LeO (fencepostlaw09_BufView.f k a0 a1 a2) (fencepostlaw09_BufView.f (k + 1) a0 a1 a2) := by
  intro a0 a1 a2 k
  have ih0 := fencepostlaw09_BufView.mono_l k
  unfold fencepostlaw09_BufView.f
  repeat' first
      | (with_reducible exact ih0 _ _ _ _ _)
      | (with_reducible exact buf_All.mono _ _ _)
      | (with_reducible exact fencepostlaw09_head.mono _)
      | (with_reducible exact LeO.refl _)
      | (with_reducible exact LeO.none _)
      | (with_reducible refine LeO.ite ?_ ?_)
      | (with_reducible refine LeO.bind ?_ (fun _ => ?_))
      | exact ih0 _ _ _ _ _
      | exact buf_All.mono _ _ _
      | exact fencepostlaw09_head.mono _
      | exact LeO.none _
      | refine LeO.ite ?_ ?_
      | refine LeO.bind ?_ (fun _ => ?_)
set_option maxHeartbeats 8000000 in
set_option maxRecDepth 100000 in
theorem fencepostlaw09_BufView.calls (k : Nat) (A0 : Option Addr) (c0 : Nat) (l0 : List (S51)) (A1 : Option Addr) (c1 : Nat) (l1 : List Int) (a2 : Int) (r : Bool) (w : World) (hr0 : Kd.C k51 w A0 l0.length l0) (hc0 : l0.length ≤ c0) (hr1 : Kd.C (Kd.int .i64) w A1 l1.length l1) (hc1 : l1.length ≤ c1) (ht_ : r = true) (h : fencepostlaw09_BufView.f k l0 l1 a2 = some r) :
    Calls Try.prog 10 #[.slice A0 l0.length c0, .slice A1 l1.length c1, .int .i64 a2] w fun e w' => e = .returned (.bool r) ∧ Below w.heap.size w w' := by
  have HR0 := Aside0.mk hr0
  have HC0 := Aside0.mk hc0
  clear hr0 hc0
  have HR1 := Aside0.mk hr1
  have HC1 := Aside0.mk hc1
  clear hr1 hc1
  have HB := Aside0.mk (Below.refl w.heap.size w)
  have HT := Aside0.mk ht_
  clear ht_
  have H : ((fencepostlaw09_head.f k).bind fun t661 => ((fencepostlaw09_great.f l0 l1).bind fun t662 => (if t662 = true then (some t661) else (fencepostlaw09_BufView.l0 k l0 l1 a2 t661 0)))) = some r := h
  clear h
  replace H := Option.bind_eq_some_iff.mp H
  obtain ⟨t661, A40, H⟩ := H
  replace H : ((fencepostlaw09_great.f l0 l1).bind fun t662 => (if t662 = true then (some t661) else (fencepostlaw09_BufView.l0 k l0 l1 a2 t661 0))) = some r := H
  have A4 := Aside0.mk A40
  clear A40
  replace H := Option.bind_eq_some_iff.mp H
  obtain ⟨t662, A50, H⟩ := H
  replace H : (if t662 = true then (some t661) else (fencepostlaw09_BufView.l0 k l0 l1 a2 t661 0)) = some r := H
  have A5 := Aside0.mk A50
  clear A50
  by_cases c6 : t662 = true
  · subst c6
    have H1 : (some t661) = some r := by rw [if_pos rfl] at H; exact H
    clear H
    have H := H1
    clear H1
    obtain rfl := Option.some.inj H
    go_enter Try.func10, Try.ntmps10
    (try simp only [List.append_eq, List.cons_append, List.nil_append])
    go_wp2_with (first | ((with_reducible refine gate_callee (f := 29) rfl ?_); refine goesL_ (some 12) rfl rfl Try.func29 (by kernel_rfl) rfl #[] rfl (by (try simp only [List.map_toArray, List.map_cons, List.map_nil]); first | done | rfl | (simp only [List.length_drop, List.length_take]; rfl)) ?_; (with_reducible refine (fencepostlaw09_head.calls k  t661 _ A4.out).mono ?_); rintro e w7 ⟨rfl, hb⟩; refine ⟨_, rfl, ?_⟩; have n0_ := Aside0.mk (below_step (by repeat (first | (with_reducible first | exact HB.out | apply below_alloc | apply pw_below_drewN | apply below_drew1) | exact HB.out)) hb); clear HB; have HB := n0_; clear n0_; (try clear hb); (try clear hb2); (try clear hk); (try clear hi)) | ((with_reducible refine gate_callee (f := 30) rfl ?_); refine goesL_ (some 15) rfl rfl Try.func30 (by kernel_rfl) rfl #[.slice A0 l0.length c0, .slice A1 l1.length c1] rfl (by (try simp only [List.map_toArray, List.map_cons, List.map_nil]); first | done | rfl | (simp only [List.length_drop, List.length_take]; rfl)) ?_; (with_reducible refine (fencepostlaw09_great.calls _ _ l0 _ _ l1 true _ ?side1 ?side2 ?side3 ?side4 A5.out).mono ?_); (case side1 => repeat (first | exact (Kd.C_below HR0.out HB.out) | (with_reducible refine Kd.C_alloc ?_ _) | (with_reducible refine Kd.C_drewN ?_ _) | (with_reducible refine Kd.C_drew ?_))); (case side2 => exact HC0.out); (case side3 => repeat (first | exact (Kd.C_below HR1.out HB.out) | (with_reducible refine Kd.C_alloc ?_ _) | (with_reducible refine Kd.C_drewN ?_ _) | (with_reducible refine Kd.C_drew ?_))); (case side4 => exact HC1.out); rintro e w' ⟨rfl, ⟨nd, rfl⟩⟩; refine ⟨_, rfl, ?_⟩))
    all_goals go_ret
    all_goals exact ⟨by first | rfl | (simp [errW_none, errW_some] <;> rfl) | (simp [*, errW_none, errW_some] <;> rfl), by repeat (first | (with_reducible first | exact HB.out | apply below_alloc | apply pw_below_drewN | apply below_drew1) | exact HB.out)⟩
  · replace c6 := Bool.eq_false_iff.mpr c6
    subst c6
    have H1 : (fencepostlaw09_BufView.l0 k l0 l1 a2 t661 0) = some r := by rw [if_neg (show ¬ (false = true) by decide)] at H; exact H
    clear H
    have H := H1
    clear H1
    have H' := Aside0.mk H
    clear H
    go_enter Try.func10, Try.ntmps10
    (try simp only [List.append_eq, List.cons_append, List.nil_append])
    go_wp2_with (first | ((with_reducible refine gate_callee (f := 29) rfl ?_); refine goesL_ (some 12) rfl rfl Try.func29 (by kernel_rfl) rfl #[] rfl (by (try simp only [List.map_toArray, List.map_cons, List.map_nil]); first | done | rfl | (simp only [List.length_drop, List.length_take]; rfl)) ?_; (with_reducible refine (fencepostlaw09_head.calls k  t661 _ A4.out).mono ?_); rintro e w8 ⟨rfl, hb⟩; refine ⟨_, rfl, ?_⟩; have n0_ := Aside0.mk (below_step (by repeat (first | (with_reducible first | exact HB.out | apply below_alloc | apply pw_below_drewN | apply below_drew1) | exact HB.out)) hb); clear HB; have HB := n0_; clear n0_; (try clear hb); (try clear hb2); (try clear hk); (try clear hi)) | ((with_reducible refine gate_callee (f := 30) rfl ?_); refine goesL_ (some 15) rfl rfl Try.func30 (by kernel_rfl) rfl #[.slice A0 l0.length c0, .slice A1 l1.length c1] rfl (by (try simp only [List.map_toArray, List.map_cons, List.map_nil]); first | done | rfl | (simp only [List.length_drop, List.length_take]; rfl)) ?_; (with_reducible refine (fencepostlaw09_great.calls _ _ l0 _ _ l1 false _ ?side1 ?side2 ?side3 ?side4 A5.out).mono ?_); (case side1 => repeat (first | exact (Kd.C_below HR0.out HB.out) | (with_reducible refine Kd.C_alloc ?_ _) | (with_reducible refine Kd.C_drewN ?_ _) | (with_reducible refine Kd.C_drew ?_))); (case side2 => exact HC0.out); (case side3 => repeat (first | exact (Kd.C_below HR1.out HB.out) | (with_reducible refine Kd.C_alloc ?_ _) | (with_reducible refine Kd.C_drewN ?_ _) | (with_reducible refine Kd.C_drew ?_))); (case side4 => exact HC1.out); rintro e w' ⟨rfl, ⟨nd, rfl⟩⟩; refine ⟨_, rfl, ?_⟩))
    go_loopg [8] k (fun kq v8 w' => ∃ (x8_1 : Int), v8 = .int .i64 x8_1 ∧ Aside0 (fencepostlaw09_BufView.l0 kq l0 l1 a2 t661 x8_1 = some r) ∧ Aside0 (kq ≤ k) ∧ Aside0 (Below w.heap.size w w'))
    case atStart => exact ⟨(0), (by first | rfl | (simp; done) | (simp [*]; done)), H', ⟨Nat.le_refl _⟩, ⟨by repeat (first | (with_reducible first | exact HB.out | apply below_alloc | apply pw_below_drewN | apply below_drew1) | exact HB.out)⟩⟩
    case round =>
      clear H'
      try clear c1
      try clear c2
      try clear p2
      try clear c3
      try clear c6
      obtain ⟨x8_1, rfl, HA, HK1, HB⟩ := hrel
      cases gk with
      | zero => exact absurd HA.out (by simp [fencepostlaw09_BufView.l0])
      | succ k1 =>
        have H := HA.out
        clear HA
        simp only [fencepostlaw09_BufView.l0] at H
        by_cases c9 : x8_1 < (l0.length : Int)
        · rw [if_pos c9] at H
          have c9b0 : decide (x8_1 < (l0.length : Int)) = true := decide_eq_true c9
          clear c9
          by_cases c10 : 0 ≤ x8_1
          · rw [if_pos c10] at H
            have c10b0 : decide (0 ≤ x8_1) = true := decide_eq_true c10
            clear c10
            by_cases c11 : ((rd_T51 l0 x8_1).f0) < 0
            · rw [if_pos c11] at H
              have c11b0 : decide (((rd_T51 l0 x8_1).f0) < 0) = true := decide_eq_true c11
              clear c11
              obtain rfl := Option.some.inj H
              have p663 : 0 ≤ (x8_1 : Int) := of_decide_eq_true (by first | (with_reducible assumption) | assumption)
              have q663 : x8_1 < (l0.length : Int) := of_decide_eq_true (by first | (with_reducible assumption) | assumption)
              obtain ⟨ad663, e663, hx663_0, hx663_1⟩ := at_T51 HR0.out x8_1 p663 q663
              cases e663
              replace hx663_0 := (HB.out.cell (World.block_lt_of_cell? w _ hx663_0)).trans hx663_0
              replace hx663_1 := (HB.out.cell (World.block_lt_of_cell? w _ hx663_1)).trans hx663_1
              replace p663 := eq_true p663
              replace q663 := eq_true q663
              go_wp2
              all_goals go_ret
              all_goals exact ⟨by first | rfl | (simp [errW_none, errW_some] <;> rfl) | (simp [*, errW_none, errW_some] <;> rfl), by repeat (first | (with_reducible first | exact HB.out | apply below_alloc | apply pw_below_drewN | apply below_drew1) | exact HB.out)⟩
            · rw [if_neg c11] at H
              have c11b0 : decide (((rd_T51 l0 x8_1).f0) < 0) = false := decide_eq_false c11
              clear c11
              by_cases c12 : ((rd_T51 l0 x8_1).f0) ≥ (l1.length : Int)
              · rw [if_pos c12] at H
                have c12b0 : decide ((l1.length : Int) ≤ ((rd_T51 l0 x8_1).f0)) = true := decide_eq_true c12
                clear c12
                obtain rfl := Option.some.inj H
                have p663 : 0 ≤ (x8_1 : Int) := of_decide_eq_true (by first | (with_reducible assumption) | assumption)
                have q663 : x8_1 < (l0.length : Int) := of_decide_eq_true (by first | (with_reducible assumption) | assumption)
                obtain ⟨ad663, e663, hx663_0, hx663_1⟩ := at_T51 HR0.out x8_1 p663 q663
                cases e663
                replace hx663_0 := (HB.out.cell (World.block_lt_of_cell? w _ hx663_0)).trans hx663_0
                replace hx663_1 := (HB.out.cell (World.block_lt_of_cell? w _ hx663_1)).trans hx663_1
                replace p663 := eq_true p663
                replace q663 := eq_true q663
                have p664 : 0 ≤ (x8_1 : Int) := of_decide_eq_true (by first | (with_reducible assumption) | assumption)
                have q664 : x8_1 < (l0.length : Int) := of_decide_eq_true (by first | (with_reducible assumption) | assumption)
                obtain ⟨ad664, e664, hx664_0, hx664_1⟩ := at_T51 HR0.out x8_1 p664 q664
                obtain rfl : ad663 = ad664 := (by injection e664)
                replace hx664_0 := (HB.out.cell (World.block_lt_of_cell? w _ hx664_0)).trans hx664_0
                replace hx664_1 := (HB.out.cell (World.block_lt_of_cell? w _ hx664_1)).trans hx664_1
                replace p664 := eq_true p664
                replace q664 := eq_true q664
                go_wp2
                all_goals go_ret
                all_goals exact ⟨by first | rfl | (simp [errW_none, errW_some] <;> rfl) | (simp [*, errW_none, errW_some] <;> rfl), by repeat (first | (with_reducible first | exact HB.out | apply below_alloc | apply pw_below_drewN | apply below_drew1) | exact HB.out)⟩
              · rw [if_neg c12] at H
                have c12b0 : decide ((l1.length : Int) ≤ ((rd_T51 l0 x8_1).f0)) = false := decide_eq_false c12
                clear c12
                have H' := Aside0.mk H
                clear H
                have p663 : 0 ≤ (x8_1 : Int) := of_decide_eq_true (by first | (with_reducible assumption) | assumption)
                have q663 : x8_1 < (l0.length : Int) := of_decide_eq_true (by first | (with_reducible assumption) | assumption)
                obtain ⟨ad663, e663, hx663_0, hx663_1⟩ := at_T51 HR0.out x8_1 p663 q663
                cases e663
                replace hx663_0 := (HB.out.cell (World.block_lt_of_cell? w _ hx663_0)).trans hx663_0
                replace hx663_1 := (HB.out.cell (World.block_lt_of_cell? w _ hx663_1)).trans hx663_1
                replace p663 := eq_true p663
                replace q663 := eq_true q663
                have p664 : 0 ≤ (x8_1 : Int) := of_decide_eq_true (by first | (with_reducible assumption) | assumption)
                have q664 : x8_1 < (l0.length : Int) := of_decide_eq_true (by first | (with_reducible assumption) | assumption)
                obtain ⟨ad664, e664, hx664_0, hx664_1⟩ := at_T51 HR0.out x8_1 p664 q664
                obtain rfl : ad663 = ad664 := (by injection e664)
                replace hx664_0 := (HB.out.cell (World.block_lt_of_cell? w _ hx664_0)).trans hx664_0
                replace hx664_1 := (HB.out.cell (World.block_lt_of_cell? w _ hx664_1)).trans hx664_1
                replace p664 := eq_true p664
                replace q664 := eq_true q664
                go_wp2
                go_roundg k1
                case measure => have := HK1.out; omega
                case rel => exact ⟨(wrap64 (x8_1 + 1)), (by first | rfl | (simp; done) | (simp [*]; done)), H', ⟨by have := HK1.out; omega⟩, ⟨by repeat (first | (with_reducible first | exact HB.out | apply below_alloc | apply pw_below_drewN | apply below_drew1) | exact HB.out)⟩⟩
          · rw [if_neg c10] at H
            exact absurd H (by simp)
        · rw [if_neg c9] at H
          have c9b0 : decide (x8_1 < (l0.length : Int)) = false := decide_eq_false c9
          clear c9
          replace H := Option.bind_eq_some_iff.mp H
          obtain ⟨t665, A130, H⟩ := H
          replace H : ((buf_View.f l0 l1 a2).bind fun bt668 => (if a2 ≥ 0 then (if (bt668.2 != (decide (a2 < (l1.length : Int)))) = true then (some false) else (if (t665.length : Int) = (l1.length : Int) then (if t661 = true then (if bt668.2 = true then (if 0 ≤ a2 then (if a2 < (t665.length : Int) then (some ((rd t665 a2) == bt668.1)) else (none)) else (none)) else (some true)) else (some false)) else (some false))) else (if (bt668.2 != false) = true then (some false) else (if (t665.length : Int) = (l1.length : Int) then (if t661 = true then (if bt668.2 = true then (if 0 ≤ a2 then (if a2 < (t665.length : Int) then (some ((rd t665 a2) == bt668.1)) else (none)) else (none)) else (some true)) else (some false)) else (some false))))) = some r := H
          have A13 := Aside0.mk A130
          clear A130
          replace H := Option.bind_eq_some_iff.mp H
          obtain ⟨⟨t668, t669⟩, A140, H⟩ := H
          replace H : (if a2 ≥ 0 then (if (t669 != (decide (a2 < (l1.length : Int)))) = true then (some false) else (if (t665.length : Int) = (l1.length : Int) then (if t661 = true then (if t669 = true then (if 0 ≤ a2 then (if a2 < (t665.length : Int) then (some ((rd t665 a2) == t668)) else (none)) else (none)) else (some true)) else (some false)) else (some false))) else (if (t669 != false) = true then (some false) else (if (t665.length : Int) = (l1.length : Int) then (if t661 = true then (if t669 = true then (if 0 ≤ a2 then (if a2 < (t665.length : Int) then (some ((rd t665 a2) == t668)) else (none)) else (none)) else (some true)) else (some false)) else (some false)))) = some r := H
          have A14 := Aside0.mk A140
          clear A140
          by_cases c15 : a2 ≥ 0
          · rw [if_pos c15] at H
            have c15b0 : decide (0 ≤ a2) = true := decide_eq_true c15
            clear c15
            by_cases c16 : (t669 != (decide (a2 < (l1.length : Int)))) = true
            · rw [if_pos c16] at H
              have c16b0 : (t669 != (decide (a2 < (l1.length : Int)))) = true := c16
              (try (have c16b1 : decide (t669 = (decide (a2 < (l1.length : Int)))) = false := by simpa using c16))
              (try (have c16b2 : (t669 == (decide (a2 < (l1.length : Int)))) = false := by simpa using c16))
              (try (have c16b3 : ¬ (t669 = (decide (a2 < (l1.length : Int)))) := by simpa using c16))
              clear c16
              exact absurd ((Option.some.inj H).trans HT.out) (by simp)
            · rw [if_neg c16] at H
              have c16b0 : (t669 != (decide (a2 < (l1.length : Int)))) = false := by simpa using c16
              (try (have c16b1 : decide (t669 = (decide (a2 < (l1.length : Int)))) = true := by simpa using c16))
              (try (have c16b2 : (t669 == (decide (a2 < (l1.length : Int)))) = true := by simpa using c16))
              clear c16
              by_cases c17 : (t665.length : Int) = (l1.length : Int)
              · rw [if_pos c17] at H
                have c17b0 : ((t665.length : Int) == (l1.length : Int)) = true := beq_iff_eq.mpr c17
                have c17b1 : ((t665.length : Int) != (l1.length : Int)) = false := bne_eq_false_iff_eq.mpr c17
                have c17b2 : (t665.length == l1.length) = true := by first | simpa using c17 | (simp at c17 ⊢; omega)
                clear c17
                by_cases c18 : t661 = true
                · subst c18
                  have H1 : (if t669 = true then (if 0 ≤ a2 then (if a2 < (t665.length : Int) then (some ((rd t665 a2) == t668)) else (none)) else (none)) else (some true)) = some r := by rw [if_pos rfl] at H; exact H
                  clear H
                  have H := H1
                  clear H1
                  by_cases c19 : t669 = true
                  · subst c19
                    have H1 : (if 0 ≤ a2 then (if a2 < (t665.length : Int) then (some ((rd t665 a2) == t668)) else (none)) else (none)) = some r := by rw [if_pos rfl] at H; exact H
                    clear H
                    have H := H1
                    clear H1
                    by_cases c20 : 0 ≤ a2
                    · rw [if_pos c20] at H
                      have c20b0 : decide (0 ≤ a2) = true := decide_eq_true c20
                      clear c20
                      by_cases c21 : a2 < (t665.length : Int)
                      · rw [if_pos c21] at H
                        have c21b0 : decide (a2 < (t665.length : Int)) = true := decide_eq_true c21
                        clear c21
                        obtain rfl := Option.some.inj H
                        go_wp2_with (first | ((with_reducible refine gate_callee (f := 40) rfl ?_); refine goesL_ (some 42) rfl rfl Try.func40 (by kernel_rfl) rfl #[.slice A0 l0.length c0, .slice A1 l1.length c1] rfl (by (try simp only [List.map_toArray, List.map_cons, List.map_nil]); first | done | rfl | (simp only [List.length_drop, List.length_take]; rfl)) ?_; (with_reducible refine (buf_All.calls k1 (fun k_ => k_ < w.heap.size) _ _ l0 _ _ l1 t665 _ ?side1 ?side2 ?side3 A13.out).mono ?_); (case side1 => exact Kd.V_mk HC0.out (Kd.F_below (Kd.C_F k51_heap HR0.out) (by repeat (first | (with_reducible first | exact HB.out | apply below_alloc | apply pw_below_drewN | apply below_drew1) | exact HB.out)))); (case side2 => repeat (first | exact (Kd.C_below HR1.out HB.out) | (with_reducible refine Kd.C_alloc ?_ _) | (with_reducible refine Kd.C_drewN ?_ _) | (with_reducible refine Kd.C_drew ?_))); (case side3 => exact HC1.out); rintro e w22 ⟨v666, rfl, ho0, hb⟩; refine ⟨_, rfl, ?_⟩; have n0_ := Aside0.mk (Kd.R_lower (Kd.R_mono (ok' := fun k_ => True) ho0 (fun _ hk_ => trivial)) (below_size (by repeat (first | (with_reducible first | exact HB.out | apply below_alloc | apply pw_below_drewN | apply below_drew1) | exact HB.out)))); have n1_ := Aside0.mk (below_step (by repeat (first | (with_reducible first | exact HB.out | apply below_alloc | apply pw_below_drewN | apply below_drew1) | exact HB.out)) hb); clear HB; have HO667 := n0_; have HB := n1_; clear n0_ n1_; (try clear hb); (try clear hb2); (try clear hk); (try clear hi); (try clear ho0)) | ((with_reducible refine gate_callee (f := 33) rfl ?_); refine goesL_ (some 47) rfl rfl Try.func33 (by kernel_rfl) rfl #[.slice A0 l0.length c0, .slice A1 l1.length c1, .int .i64 a2] rfl (by (try simp only [List.map_toArray, List.map_cons, List.map_nil]); first | done | rfl | (simp only [List.length_drop, List.length_take]; rfl)) ?_; (with_reducible refine (buf_View.calls _ _ l0 _ _ l1 a2 t668 true _ ?side1 ?side2 ?side3 ?side4 A14.out).mono ?_); (case side1 => repeat (first | exact (Kd.C_below HR0.out HB.out) | (with_reducible refine Kd.C_alloc ?_ _) | (with_reducible refine Kd.C_drewN ?_ _) | (with_reducible refine Kd.C_drew ?_))); (case side2 => exact HC0.out); (case side3 => repeat (first | exact (Kd.C_below HR1.out HB.out) | (with_reducible refine Kd.C_alloc ?_ _) | (with_reducible refine Kd.C_drewN ?_ _) | (with_reducible refine Kd.C_drew ?_))); (case side4 => exact HC1.out); rintro e w23 ⟨rfl, hb⟩; refine ⟨_, rfl, ?_⟩; have n0_ := Aside0.mk (Kd.R_below (by (with_reducible repeat (first | apply Kd.R_alloc | apply Kd.R_drewN | apply Kd.R_drew)); exact HO667.out) hb); have n1_ := Aside0.mk (below_step (by repeat (first | (with_reducible first | exact HB.out | apply below_alloc | apply pw_below_drewN | apply below_drew1) | exact HB.out)) hb); clear HO667; clear HB; have HO667 := n0_; have HB := n1_; clear n0_ n1_; (try clear hb); (try clear hb2); (try clear hk); (try clear hi); obtain ⟨Ao24, co24, eo24⟩ := Kd.R_slice HO667.out; subst eo24; have p670 : 0 ≤ (a2 : Int) := of_decide_eq_true (by first | (with_reducible assumption) | assumption); have q670 : a2 < (t665.length : Int) := of_decide_eq_true (by first | (with_reducible assumption) | assumption); obtain ⟨ad670, e670, hx670_0⟩ := Kd.at_int (Kd.R_reads' HO667.out).2.2 a2 p670 q670; cases e670; replace p670 := eq_true p670; replace q670 := eq_true q670))
                        all_goals go_ret
                        all_goals exact ⟨by first | rfl | (simp [errW_none, errW_some] <;> rfl) | (simp [*, errW_none, errW_some] <;> rfl), by repeat (first | (with_reducible first | exact HB.out | apply below_alloc | apply pw_below_drewN | apply below_drew1) | exact HB.out)⟩
                      · rw [if_neg c21] at H
                        exact absurd H (by simp)
                    · rw [if_neg c20] at H
                      exact absurd H (by simp)
                  · replace c19 := Bool.eq_false_iff.mpr c19
                    subst c19
                    have H1 : (some true) = some r := by rw [if_neg (show ¬ (false = true) by decide)] at H; exact H
                    clear H
                    have H := H1
                    clear H1
                    obtain rfl := Option.some.inj H
                    go_wp2_with (first | ((with_reducible refine gate_callee (f := 40) rfl ?_); refine goesL_ (some 42) rfl rfl Try.func40 (by kernel_rfl) rfl #[.slice A0 l0.length c0, .slice A1 l1.length c1] rfl (by (try simp only [List.map_toArray, List.map_cons, List.map_nil]); first | done | rfl | (simp only [List.length_drop, List.length_take]; rfl)) ?_; (with_reducible refine (buf_All.calls k1 (fun k_ => k_ < w.heap.size) _ _ l0 _ _ l1 t665 _ ?side1 ?side2 ?side3 A13.out).mono ?_); (case side1 => exact Kd.V_mk HC0.out (Kd.F_below (Kd.C_F k51_heap HR0.out) (by repeat (first | (with_reducible first | exact HB.out | apply below_alloc | apply pw_below_drewN | apply below_drew1) | exact HB.out)))); (case side2 => repeat (first | exact (Kd.C_below HR1.out HB.out) | (with_reducible refine Kd.C_alloc ?_ _) | (with_reducible refine Kd.C_drewN ?_ _) | (with_reducible refine Kd.C_drew ?_))); (case side3 => exact HC1.out); rintro e w25 ⟨v666, rfl, ho0, hb⟩; refine ⟨_, rfl, ?_⟩; have n0_ := Aside0.mk (Kd.R_lower (Kd.R_mono (ok' := fun k_ => True) ho0 (fun _ hk_ => trivial)) (below_size (by repeat (first | (with_reducible first | exact HB.out | apply below_alloc | apply pw_below_drewN | apply below_drew1) | exact HB.out)))); have n1_ := Aside0.mk (below_step (by repeat (first | (with_reducible first | exact HB.out | apply below_alloc | apply pw_below_drewN | apply below_drew1) | exact HB.out)) hb); clear HB; have HO667 := n0_; have HB := n1_; clear n0_ n1_; (try clear hb); (try clear hb2); (try clear hk); (try clear hi); (try clear ho0)) | ((with_reducible refine gate_callee (f := 33) rfl ?_); refine goesL_ (some 47) rfl rfl Try.func33 (by kernel_rfl) rfl #[.slice A0 l0.length c0, .slice A1 l1.length c1, .int .i64 a2] rfl (by (try simp only [List.map_toArray, List.map_cons, List.map_nil]); first | done | rfl | (simp only [List.length_drop, List.length_take]; rfl)) ?_; (with_reducible refine (buf_View.calls _ _ l0 _ _ l1 a2 t668 false _ ?side1 ?side2 ?side3 ?side4 A14.out).mono ?_); (case side1 => repeat (first | exact (Kd.C_below HR0.out HB.out) | (with_reducible refine Kd.C_alloc ?_ _) | (with_reducible refine Kd.C_drewN ?_ _) | (with_reducible refine Kd.C_drew ?_))); (case side2 => exact HC0.out); (case side3 => repeat (first | exact (Kd.C_below HR1.out HB.out) | (with_reducible refine Kd.C_alloc ?_ _) | (with_reducible refine Kd.C_drewN ?_ _) | (with_reducible refine Kd.C_drew ?_))); (case side4 => exact HC1.out); rintro e w26 ⟨rfl, hb⟩; refine ⟨_, rfl, ?_⟩; have n0_ := Aside0.mk (Kd.R_below (by (with_reducible repeat (first | apply Kd.R_alloc | apply Kd.R_drewN | apply Kd.R_drew)); exact HO667.out) hb); have n1_ := Aside0.mk (below_step (by repeat (first | (with_reducible first | exact HB.out | apply below_alloc | apply pw_below_drewN | apply below_drew1) | exact HB.out)) hb); clear HO667; clear HB; have HO667 := n0_; have HB := n1_; clear n0_ n1_; (try clear hb); (try clear hb2); (try clear hk); (try clear hi); obtain ⟨Ao27, co27, eo27⟩ := Kd.R_slice HO667.out; subst eo27))
                    all_goals go_ret
                    all_goals exact ⟨by first | rfl | (simp [errW_none, errW_some] <;> rfl) | (simp [*, errW_none, errW_some] <;> rfl), by repeat (first | (with_reducible first | exact HB.out | apply below_alloc | apply pw_below_drewN | apply below_drew1) | exact HB.out)⟩
                · replace c18 := Bool.eq_false_iff.mpr c18
                  subst c18
                  have H1 : (some false) = some r := by rw [if_neg (show ¬ (false = true) by decide)] at H; exact H
                  clear H
                  have H := H1
                  clear H1
                  exact absurd ((Option.some.inj H).trans HT.out) (by simp)
              · rw [if_neg c17] at H
                have c17b0 : ((t665.length : Int) == (l1.length : Int)) = false := beq_eq_false_iff_ne.mpr c17
                have c17b1 : ((t665.length : Int) != (l1.length : Int)) = true := bne_iff_ne.mpr c17
                have c17b2 : (t665.length == l1.length) = false := by first | simpa using c17 | (simp at c17 ⊢; omega)
                exact absurd ((Option.some.inj H).trans HT.out) (by simp)
          · rw [if_neg c15] at H
            have c15b0 : decide (0 ≤ a2) = false := decide_eq_false c15
            clear c15
            by_cases c28 : (t669 != false) = true
            · rw [if_pos c28] at H
              have c28b0 : (t669 != false) = true := c28
              (try (have c28b1 : decide (t669 = false) = false := by simpa using c28))
              (try (have c28b2 : (t669 == false) = false := by simpa using c28))
              (try (have c28b3 : ¬ (t669 = false) := by simpa using c28))
              clear c28
              exact absurd ((Option.some.inj H).trans HT.out) (by simp)
            · rw [if_neg c28] at H
              have c28b0 : (t669 != false) = false := by simpa using c28
              (try (have c28b1 : decide (t669 = false) = true := by simpa using c28))
              (try (have c28b2 : (t669 == false) = true := by simpa using c28))
              clear c28
              by_cases c29 : (t665.length : Int) = (l1.length : Int)
              · rw [if_pos c29] at H
                have c29b0 : ((t665.length : Int) == (l1.length : Int)) = true := beq_iff_eq.mpr c29
                have c29b1 : ((t665.length : Int) != (l1.length : Int)) = false := bne_eq_false_iff_eq.mpr c29
                have c29b2 : (t665.length == l1.length) = true := by first | simpa using c29 | (simp at c29 ⊢; omega)
                clear c29
                by_cases c30 : t661 = true
                · subst c30
                  have H1 : (if t669 = true then (if 0 ≤ a2 then (if a2 < (t665.length : Int) then (some ((rd t665 a2) == t668)) else (none)) else (none)) else (some true)) = some r := by rw [if_pos rfl] at H; exact H
                  clear H
                  have H := H1
                  clear H1
                  by_cases c31 : t669 = true
                  · subst c31
                    have H1 : (if 0 ≤ a2 then (if a2 < (t665.length : Int) then (some ((rd t665 a2) == t668)) else (none)) else (none)) = some r := by rw [if_pos rfl] at H; exact H
                    clear H
                    have H := H1
                    clear H1
                    by_cases c32 : 0 ≤ a2
                    · rw [if_pos c32] at H
                      have c32b0 : decide (0 ≤ a2) = true := decide_eq_true c32
                      clear c32
                      by_cases c33 : a2 < (t665.length : Int)
                      · rw [if_pos c33] at H
                        have c33b0 : decide (a2 < (t665.length : Int)) = true := decide_eq_true c33
                        clear c33
                        obtain rfl := Option.some.inj H
                        go_wp2_with (first | ((with_reducible refine gate_callee (f := 40) rfl ?_); refine goesL_ (some 42) rfl rfl Try.func40 (by kernel_rfl) rfl #[.slice A0 l0.length c0, .slice A1 l1.length c1] rfl (by (try simp only [List.map_toArray, List.map_cons, List.map_nil]); first | done | rfl | (simp only [List.length_drop, List.length_take]; rfl)) ?_; (with_reducible refine (buf_All.calls k1 (fun k_ => k_ < w.heap.size) _ _ l0 _ _ l1 t665 _ ?side1 ?side2 ?side3 A13.out).mono ?_); (case side1 => exact Kd.V_mk HC0.out (Kd.F_below (Kd.C_F k51_heap HR0.out) (by repeat (first | (with_reducible first | exact HB.out | apply below_alloc | apply pw_below_drewN | apply below_drew1) | exact HB.out)))); (case side2 => repeat (first | exact (Kd.C_below HR1.out HB.out) | (with_reducible refine Kd.C_alloc ?_ _) | (with_reducible refine Kd.C_drewN ?_ _) | (with_reducible refine Kd.C_drew ?_))); (case side3 => exact HC1.out); rintro e w34 ⟨v666, rfl, ho0, hb⟩; refine ⟨_, rfl, ?_⟩; have n0_ := Aside0.mk (Kd.R_lower (Kd.R_mono (ok' := fun k_ => True) ho0 (fun _ hk_ => trivial)) (below_size (by repeat (first | (with_reducible first | exact HB.out | apply below_alloc | apply pw_below_drewN | apply below_drew1) | exact HB.out)))); have n1_ := Aside0.mk (below_step (by repeat (first | (with_reducible first | exact HB.out | apply below_alloc | apply pw_below_drewN | apply below_drew1) | exact HB.out)) hb); clear HB; have HO667 := n0_; have HB := n1_; clear n0_ n1_; (try clear hb); (try clear hb2); (try clear hk); (try clear hi); (try clear ho0)) | ((with_reducible refine gate_callee (f := 33) rfl ?_); refine goesL_ (some 47) rfl rfl Try.func33 (by kernel_rfl) rfl #[.slice A0 l0.length c0, .slice A1 l1.length c1, .int .i64 a2] rfl (by (try simp only [List.map_toArray, List.map_cons, List.map_nil]); first | done | rfl | (simp only [List.length_drop, List.length_take]; rfl)) ?_; (with_reducible refine (buf_View.calls _ _ l0 _ _ l1 a2 t668 true _ ?side1 ?side2 ?side3 ?side4 A14.out).mono ?_); (case side1 => repeat (first | exact (Kd.C_below HR0.out HB.out) | (with_reducible refine Kd.C_alloc ?_ _) | (with_reducible refine Kd.C_drewN ?_ _) | (with_reducible refine Kd.C_drew ?_))); (case side2 => exact HC0.out); (case side3 => repeat (first | exact (Kd.C_below HR1.out HB.out) | (with_reducible refine Kd.C_alloc ?_ _) | (with_reducible refine Kd.C_drewN ?_ _) | (with_reducible refine Kd.C_drew ?_))); (case side4 => exact HC1.out); rintro e w35 ⟨rfl, hb⟩; refine ⟨_, rfl, ?_⟩; have n0_ := Aside0.mk (Kd.R_below (by (with_reducible repeat (first | apply Kd.R_alloc | apply Kd.R_drewN | apply Kd.R_drew)); exact HO667.out) hb); have n1_ := Aside0.mk (below_step (by repeat (first | (with_reducible first | exact HB.out | apply below_alloc | apply pw_below_drewN | apply below_drew1) | exact HB.out)) hb); clear HO667; clear HB; have HO667 := n0_; have HB := n1_; clear n0_ n1_; (try clear hb); (try clear hb2); (try clear hk); (try clear hi); obtain ⟨Ao36, co36, eo36⟩ := Kd.R_slice HO667.out; subst eo36; have p671 : 0 ≤ (a2 : Int) := of_decide_eq_true (by first | (with_reducible assumption) | assumption); have q671 : a2 < (t665.length : Int) := of_decide_eq_true (by first | (with_reducible assumption) | assumption); obtain ⟨ad671, e671, hx671_0⟩ := Kd.at_int (Kd.R_reads' HO667.out).2.2 a2 p671 q671; cases e671; replace p671 := eq_true p671; replace q671 := eq_true q671))
                        all_goals go_ret
                        all_goals exact ⟨by first | rfl | (simp [errW_none, errW_some] <;> rfl) | (simp [*, errW_none, errW_some] <;> rfl), by repeat (first | (with_reducible first | exact HB.out | apply below_alloc | apply pw_below_drewN | apply below_drew1) | exact HB.out)⟩
                      · rw [if_neg c33] at H
                        exact absurd H (by simp)
                    · rw [if_neg c32] at H
                      exact absurd H (by simp)
                  · replace c31 := Bool.eq_false_iff.mpr c31
                    subst c31
                    have H1 : (some true) = some r := by rw [if_neg (show ¬ (false = true) by decide)] at H; exact H
                    clear H
                    have H := H1
                    clear H1
                    obtain rfl := Option.some.inj H
                    go_wp2_with (first | ((with_reducible refine gate_callee (f := 40) rfl ?_); refine goesL_ (some 42) rfl rfl Try.func40 (by kernel_rfl) rfl #[.slice A0 l0.length c0, .slice A1 l1.length c1] rfl (by (try simp only [List.map_toArray, List.map_cons, List.map_nil]); first | done | rfl | (simp only [List.length_drop, List.length_take]; rfl)) ?_; (with_reducible refine (buf_All.calls k1 (fun k_ => k_ < w.heap.size) _ _ l0 _ _ l1 t665 _ ?side1 ?side2 ?side3 A13.out).mono ?_); (case side1 => exact Kd.V_mk HC0.out (Kd.F_below (Kd.C_F k51_heap HR0.out) (by repeat (first | (with_reducible first | exact HB.out | apply below_alloc | apply pw_below_drewN | apply below_drew1) | exact HB.out)))); (case side2 => repeat (first | exact (Kd.C_below HR1.out HB.out) | (with_reducible refine Kd.C_alloc ?_ _) | (with_reducible refine Kd.C_drewN ?_ _) | (with_reducible refine Kd.C_drew ?_))); (case side3 => exact HC1.out); rintro e w37 ⟨v666, rfl, ho0, hb⟩; refine ⟨_, rfl, ?_⟩; have n0_ := Aside0.mk (Kd.R_lower (Kd.R_mono (ok' := fun k_ => True) ho0 (fun _ hk_ => trivial)) (below_size (by repeat (first | (with_reducible first | exact HB.out | apply below_alloc | apply pw_below_drewN | apply below_drew1) | exact HB.out)))); have n1_ := Aside0.mk (below_step (by repeat (first | (with_reducible first | exact HB.out | apply below_alloc | apply pw_below_drewN | apply below_drew1) | exact HB.out)) hb); clear HB; have HO667 := n0_; have HB := n1_; clear n0_ n1_; (try clear hb); (try clear hb2); (try clear hk); (try clear hi); (try clear ho0)) | ((with_reducible refine gate_callee (f := 33) rfl ?_); refine goesL_ (some 47) rfl rfl Try.func33 (by kernel_rfl) rfl #[.slice A0 l0.length c0, .slice A1 l1.length c1, .int .i64 a2] rfl (by (try simp only [List.map_toArray, List.map_cons, List.map_nil]); first | done | rfl | (simp only [List.length_drop, List.length_take]; rfl)) ?_; (with_reducible refine (buf_View.calls _ _ l0 _ _ l1 a2 t668 false _ ?side1 ?side2 ?side3 ?side4 A14.out).mono ?_); (case side1 => repeat (first | exact (Kd.C_below HR0.out HB.out) | (with_reducible refine Kd.C_alloc ?_ _) | (with_reducible refine Kd.C_drewN ?_ _) | (with_reducible refine Kd.C_drew ?_))); (case side2 => exact HC0.out); (case side3 => repeat (first | exact (Kd.C_below HR1.out HB.out) | (with_reducible refine Kd.C_alloc ?_ _) | (with_reducible refine Kd.C_drewN ?_ _) | (with_reducible refine Kd.C_drew ?_))); (case side4 => exact HC1.out); rintro e w38 ⟨rfl, hb⟩; refine ⟨_, rfl, ?_⟩; have n0_ := Aside0.mk (Kd.R_below (by (with_reducible repeat (first | apply Kd.R_alloc | apply Kd.R_drewN | apply Kd.R_drew)); exact HO667.out) hb); have n1_ := Aside0.mk (below_step (by repeat (first | (with_reducible first | exact HB.out | apply below_alloc | apply pw_below_drewN | apply below_drew1) | exact HB.out)) hb); clear HO667; clear HB; have HO667 := n0_; have HB := n1_; clear n0_ n1_; (try clear hb); (try clear hb2); (try clear hk); (try clear hi); obtain ⟨Ao39, co39, eo39⟩ := Kd.R_slice HO667.out; subst eo39))
                    all_goals go_ret
                    all_goals exact ⟨by first | rfl | (simp [errW_none, errW_some] <;> rfl) | (simp [*, errW_none, errW_some] <;> rfl), by repeat (first | (with_reducible first | exact HB.out | apply below_alloc | apply pw_below_drewN | apply below_drew1) | exact HB.out)⟩
                · replace c30 := Bool.eq_false_iff.mpr c30
                  subst c30
                  have H1 : (some false) = some r := by rw [if_neg (show ¬ (false = true) by decide)] at H; exact H
                  clear H
                  have H := H1
                  clear H1
                  exact absurd ((Option.some.inj H).trans HT.out) (by simp)
              · rw [if_neg c29] at H
                have c29b0 : ((t665.length : Int) == (l1.length : Int)) = false := beq_eq_false_iff_ne.mpr c29
                have c29b1 : ((t665.length : Int) != (l1.length : Int)) = true := bne_iff_ne.mpr c29
                have c29b2 : (t665.length == l1.length) = false := by first | simpa using c29 | (simp at c29 ⊢; omega)
                exact absurd ((Option.some.inj H).trans HT.out) (by simp)

/-! ### fencepostlaw09_BufOne: function 11 -/
def fencepostlaw09_BufOne.f (k : Nat) (l0 : List (S51)) (a1_0 : Int) (a1_1 : Int) (l2 : List Int) (a3 : Int) : Option (Bool) := (fencepostlaw09_head.f k).bind fun t673 => ((fencepostlaw09_great.f l0 l2).bind fun t674 => (if t674 = true then (some t673) else ((buf_Push.f l0 a1_0 a1_1).bind fun t675 => ((buf_Last.f t675 a1_0).bind fun bt678 => ((buf_View.f l0 l2 a3).bind fun bt680 => ((buf_View.f t675 l2 a3).bind fun bt682 => (if t673 = true then (if (t675.length : Int) = (wrap64 ((l0.length : Int) + 1)) then (if 0 ≤ (l0.length : Int) then (if (l0.length : Int) ≤ (t675.length : Int) then ((fencepostref09_Same.f k (t675.take ((l0.length : Int) : Int).toNat) l0).bind fun t688 => (if t688 = true then (if bt678.2 = true then (if bt678.1 = a1_1 then (if a3 = a1_0 then (some true) else (if bt680.1 = bt682.1 then (some (bt680.2 == bt682.2)) else (some false))) else (some false)) else (some false)) else (some false))) else (none)) else (none)) else (some false)) else (some false))))))))
theorem fencepostlaw09_BufOne.mono : ∀ a0 a1 a2 a3 a4 k, LeO (fencepostlaw09_BufOne.f k a0 a1 a2 a3 a4) (fencepostlaw09_BufOne.f (k + 1) a0 a1 a2 a3 a4) := by
  intro a0 a1 a2 a3 a4 k
  unfold fencepostlaw09_BufOne.f
  repeat' first
      | (with_reducible exact fencepostlaw09_head.mono _)
      | (with_reducible exact fencepostref09_Same.mono _ _ _)
      | (with_reducible exact LeO.refl _)
      | (with_reducible exact LeO.none _)
      | (with_reducible refine LeO.ite ?_ ?_)
      | (with_reducible refine LeO.bind ?_ (fun _ => ?_))
      | exact fencepostlaw09_head.mono _
      | exact fencepostref09_Same.mono _ _ _
      | exact LeO.none _
      | refine LeO.ite ?_ ?_
      | refine LeO.bind ?_ (fun _ => ?_)
set_option maxHeartbeats 8000000 in
set_option maxRecDepth 100000 in
theorem fencepostlaw09_BufOne.calls (k : Nat) (A0 : Option Addr) (c0 : Nat) (l0 : List (S51)) (a1_0 : Int) (a1_1 : Int) (A2 : Option Addr) (c2 : Nat) (l2 : List Int) (a3 : Int) (r : Bool) (w : World) (hr0 : Kd.C k51 w A0 l0.length l0) (hc0 : l0.length ≤ c0) (hr2 : Kd.C (Kd.int .i64) w A2 l2.length l2) (hc2 : l2.length ≤ c2) (ht_ : r = true) (h : fencepostlaw09_BufOne.f k l0 a1_0 a1_1 l2 a3 = some r) :
    Calls Try.prog 11 #[.slice A0 l0.length c0, .agg #[.int .i64 a1_0, .int .i64 a1_1], .slice A2 l2.length c2, .int .i64 a3] w fun e w' => e = .returned (.bool r) ∧ Below w.heap.size w w' := by
  have hu51 := Try.underlying51
  have HR0 := Aside0.mk hr0
  have HC0 := Aside0.mk hc0
  clear hr0 hc0
  have HR2 := Aside0.mk hr2
  have HC2 := Aside0.mk hc2
  clear hr2 hc2
  have HB := Aside0.mk (Below.refl w.heap.size w)
  have HT := Aside0.mk ht_
  clear ht_
  have H : ((fencepostlaw09_head.f k).bind fun t673 => ((fencepostlaw09_great.f l0 l2).bind fun t674 => (if t674 = true then (some t673) else ((buf_Push.f l0 a1_0 a1_1).bind fun t675 => ((buf_Last.f t675 a1_0).bind fun bt678 => ((buf_View.f l0 l2 a3).bind fun bt680 => ((buf_View.f t675 l2 a3).bind fun bt682 => (if t673 = true then (if (t675.length : Int) = (wrap64 ((l0.length : Int) + 1)) then (if 0 ≤ (l0.length : Int) then (if (l0.length : Int) ≤ (t675.length : Int) then ((fencepostref09_Same.f k (t675.take ((l0.length : Int) : Int).toNat) l0).bind fun t688 => (if t688 = true then (if bt678.2 = true then (if bt678.1 = a1_1 then (if a3 = a1_0 then (some true) else (if bt680.1 = bt682.1 then (some (bt680.2 == bt682.2)) else (some false))) else (some false)) else (some false)) else (some false))) else (none)) else (none)) else (some false)) else (some false))))))))) = some r := h
  clear h
  replace H := Option.bind_eq_some_iff.mp H
  obtain ⟨t673, A50, H⟩ := H
  replace H : ((fencepostlaw09_great.f l0 l2).bind fun t674 => (if t674 = true then (some t673) else ((buf_Push.f l0 a1_0 a1_1).bind fun t675 => ((buf_Last.f t675 a1_0).bind fun bt678 => ((buf_View.f l0 l2 a3).bind fun bt680 => ((buf_View.f t675 l2 a3).bind fun bt682 => (if t673 = true then (if (t675.length : Int) = (wrap64 ((l0.length : Int) + 1)) then (if 0 ≤ (l0.length : Int) then (if (l0.length : Int) ≤ (t675.length : Int) then ((fencepostref09_Same.f k (t675.take ((l0.length : Int) : Int).toNat) l0).bind fun t688 => (if t688 = true then (if bt678.2 = true then (if bt678.1 = a1_1 then (if a3 = a1_0 then (some true) else (if bt680.1 = bt682.1 then (some (bt680.2 == bt682.2)) else (some false))) else (some false)) else (some false)) else (some false))) else (none)) else (none)) else (some false)) else (some false)))))))) = some r := H
  have A5 := Aside0.mk A50
  clear A50
  replace H := Option.bind_eq_some_iff.mp H
  obtain ⟨t674, A60, H⟩ := H
  replace H : (if t674 = true then (some t673) else ((buf_Push.f l0 a1_0 a1_1).bind fun t675 => ((buf_Last.f t675 a1_0).bind fun bt678 => ((buf_View.f l0 l2 a3).bind fun bt680 => ((buf_View.f t675 l2 a3).bind fun bt682 => (if t673 = true then (if (t675.length : Int) = (wrap64 ((l0.length : Int) + 1)) then (if 0 ≤ (l0.length : Int) then (if (l0.length : Int) ≤ (t675.length : Int) then ((fencepostref09_Same.f k (t675.take ((l0.length : Int) : Int).toNat) l0).bind fun t688 => (if t688 = true then (if bt678.2 = true then (if bt678.1 = a1_1 then (if a3 = a1_0 then (some true) else (if bt680.1 = bt682.1 then (some (bt680.2 == bt682.2)) else (some false))) else (some false)) else (some false)) else (some false))) else (none)) else (none)) else (some false)) else (some false))))))) = some r := H
  have A6 := Aside0.mk A60
  clear A60
  by_cases c7 : t674 = true
  · subst c7
    have H1 : (some t673) = some r := by rw [if_pos rfl] at H; exact H
    clear H
    have H := H1
    clear H1
    obtain rfl := Option.some.inj H
    go_enter Try.func11, Try.ntmps11
    (try simp only [List.append_eq, List.cons_append, List.nil_append])
    go_wp2_with (first | ((with_reducible refine gate_dst (N := 5) rfl ?_); (try (refine gate_guard (by rfl) ?_; dsimp only)); refine box_event ?hg (N := 5) ?hd (cs := #[.int .i64 a1_0, .int .i64 a1_1]) (t := 51) ?hr ?_; (case hd => rfl); (case hg => rfl); (case hr => first | (go_simp; done) | (go_simp; rfl)); intro gb672 hg w8 hbox hb; have n0_ := Aside0.mk (below_step (by repeat (first | (with_reducible first | exact HB.out | apply below_alloc | apply pw_below_drewN | apply below_drew1) | exact HB.out)) hb); have n1_ := Aside0.mk (hbox); have n2_ := Aside0.mk ((by rw [hg]; exact (below_size (by repeat (first | (with_reducible first | exact HB.out | apply below_alloc | apply pw_below_drewN | apply below_drew1) | exact HB.out))) : w.heap.size ≤ gb672)); have n3_ := Aside0.mk ((by rw [hg]; exact (below_size (by repeat (first | (with_reducible first | exact HB.out | apply below_alloc | apply pw_below_drewN | apply below_drew1) | exact HB.out))) : w.heap.size ≤ gb672)); clear HB; have HB := n0_; have BK672 := n1_; have GW672 := n2_; have GE672 := n3_; clear n0_ n1_ n2_ n3_; clear hb hbox hg) | ((with_reducible refine gate_callee (f := 29) rfl ?_); refine goesL_ (some 17) rfl rfl Try.func29 (by kernel_rfl) rfl #[] rfl (by (try simp only [List.map_toArray, List.map_cons, List.map_nil]); first | done | rfl | (simp only [List.length_drop, List.length_take]; rfl)) ?_; (with_reducible refine (fencepostlaw09_head.calls k  t673 _ A5.out).mono ?_); rintro e w9 ⟨rfl, hb⟩; refine ⟨_, rfl, ?_⟩; have n0_ := Aside0.mk (blk_below (g := gb672) (o := .cells #[.int .i64 a1_0, .int .i64 a1_1] 51 (0, 0)) (by (with_reducible repeat (first | refine blk_drewN ?_ _ | refine blk_drew ?_ | refine blk_alloc ?_ _)); exact BK672.out) hb); have n1_ := Aside0.mk (below_step (by repeat (first | (with_reducible first | exact HB.out | apply below_alloc | apply pw_below_drewN | apply below_drew1 | refine below_set ?_ GE672.out) | exact HB.out)) hb); clear BK672; clear HB; have BK672 := n0_; have HB := n1_; clear n0_ n1_; (try clear hb); (try clear hb2); (try clear hk); (try clear hi)) | ((with_reducible refine gate_callee (f := 30) rfl ?_); refine goesL_ (some 20) rfl rfl Try.func30 (by kernel_rfl) rfl #[.slice A0 l0.length c0, .slice A2 l2.length c2] rfl (by (try simp only [List.map_toArray, List.map_cons, List.map_nil]); first | done | rfl | (simp only [List.length_drop, List.length_take]; rfl)) ?_; (with_reducible refine (fencepostlaw09_great.calls _ _ l0 _ _ l2 true _ ?side1 ?side2 ?side3 ?side4 A6.out).mono ?_); (case side1 => repeat (first | exact (Kd.C_below HR0.out HB.out) | (with_reducible refine Kd.C_alloc ?_ _) | (with_reducible refine Kd.C_drewN ?_ _) | (with_reducible refine Kd.C_drew ?_))); (case side2 => exact HC0.out); (case side3 => repeat (first | exact (Kd.C_below HR2.out HB.out) | (with_reducible refine Kd.C_alloc ?_ _) | (with_reducible refine Kd.C_drewN ?_ _) | (with_reducible refine Kd.C_drew ?_))); (case side4 => exact HC2.out); rintro e w' ⟨rfl, ⟨nd, rfl⟩⟩; refine ⟨_, rfl, ?_⟩))
    all_goals go_ret
    all_goals exact ⟨by first | rfl | (simp [errW_none, errW_some] <;> rfl) | (simp [*, errW_none, errW_some] <;> rfl), by repeat (first | (with_reducible first | exact HB.out | apply below_alloc | apply pw_below_drewN | apply below_drew1 | refine below_set ?_ GE672.out) | exact HB.out)⟩
  · replace c7 := Bool.eq_false_iff.mpr c7
    subst c7
    have H1 : ((buf_Push.f l0 a1_0 a1_1).bind fun t675 => ((buf_Last.f t675 a1_0).bind fun bt678 => ((buf_View.f l0 l2 a3).bind fun bt680 => ((buf_View.f t675 l2 a3).bind fun bt682 => (if t673 = true then (if (t675.length : Int) = (wrap64 ((l0.length : Int) + 1)) then (if 0 ≤ (l0.length : Int) then (if (l0.length : Int) ≤ (t675.length : Int) then ((fencepostref09_Same.f k (t675.take ((l0.length : Int) : Int).toNat) l0).bind fun t688 => (if t688 = true then (if bt678.2 = true then (if bt678.1 = a1_1 then (if a3 = a1_0 then (some true) else (if bt680.1 = bt682.1 then (some (bt680.2 == bt682.2)) else (some false))) else (some false)) else (some false)) else (some false))) else (none)) else (none)) else (some false)) else (some false)))))) = some r := by rw [if_neg (show ¬ (false = true) by decide)] at H; exact H
    clear H
    have H := H1
    clear H1
    replace H := Option.bind_eq_some_iff.mp H
    obtain ⟨t675, A100, H⟩ := H
    replace H : ((buf_Last.f t675 a1_0).bind fun bt678 => ((buf_View.f l0 l2 a3).bind fun bt680 => ((buf_View.f t675 l2 a3).bind fun bt682 => (if t673 = true then (if (t675.length : Int) = (wrap64 ((l0.length : Int) + 1)) then (if 0 ≤ (l0.length : Int) then (if (l0.length : Int) ≤ (t675.length : Int) then ((fencepostref09_Same.f k (t675.take ((l0.length : Int) : Int).toNat) l0).bind fun t688 => (if t688 = true then (if bt678.2 = true then (if bt678.1 = a1_1 then (if a3 = a1_0 then (some true) else (if bt680.1 = bt682.1 then (some (bt680.2 == bt682.2)) else (some false))) else (some false)) else (some false)) else (some false))) else (none)) else (none)) else (some false)) else (some false))))) = some r := H
    have A10 := Aside0.mk A100
    clear A100
    replace H := Option.bind_eq_some_iff.mp H
    obtain ⟨⟨t678, t679⟩, A110, H⟩ := H
    replace H : ((buf_View.f l0 l2 a3).bind fun bt680 => ((buf_View.f t675 l2 a3).bind fun bt682 => (if t673 = true then (if (t675.length : Int) = (wrap64 ((l0.length : Int) + 1)) then (if 0 ≤ (l0.length : Int) then (if (l0.length : Int) ≤ (t675.length : Int) then ((fencepostref09_Same.f k (t675.take ((l0.length : Int) : Int).toNat) l0).bind fun t688 => (if t688 = true then (if t679 = true then (if t678 = a1_1 then (if a3 = a1_0 then (some true) else (if bt680.1 = bt682.1 then (some (bt680.2 == bt682.2)) else (some false))) else (some false)) else (some false)) else (some false))) else (none)) else (none)) else (some false)) else (some false)))) = some r := H
    have A11 := Aside0.mk A110
    clear A110
    replace H := Option.bind_eq_some_iff.mp H
    obtain ⟨⟨t680, t681⟩, A120, H⟩ := H
    replace H : ((buf_View.f t675 l2 a3).bind fun bt682 => (if t673 = true then (if (t675.length : Int) = (wrap64 ((l0.length : Int) + 1)) then (if 0 ≤ (l0.length : Int) then (if (l0.length : Int) ≤ (t675.length : Int) then ((fencepostref09_Same.f k (t675.take ((l0.length : Int) : Int).toNat) l0).bind fun t688 => (if t688 = true then (if t679 = true then (if t678 = a1_1 then (if a3 = a1_0 then (some true) else (if t680 = bt682.1 then (some (t681 == bt682.2)) else (some false))) else (some false)) else (some false)) else (some false))) else (none)) else (none)) else (some false)) else (some false))) = some r := H
    have A12 := Aside0.mk A120
    clear A120
    replace H := Option.bind_eq_some_iff.mp H
    obtain ⟨⟨t682, t683⟩, A130, H⟩ := H
    replace H : (if t673 = true then (if (t675.length : Int) = (wrap64 ((l0.length : Int) + 1)) then (if 0 ≤ (l0.length : Int) then (if (l0.length : Int) ≤ (t675.length : Int) then ((fencepostref09_Same.f k (t675.take ((l0.length : Int) : Int).toNat) l0).bind fun t688 => (if t688 = true then (if t679 = true then (if t678 = a1_1 then (if a3 = a1_0 then (some true) else (if t680 = t682 then (some (t681 == t683)) else (some false))) else (some false)) else (some false)) else (some false))) else (none)) else (none)) else (some false)) else (some false)) = some r := H
    have A13 := Aside0.mk A130
    clear A130
    by_cases c14 : t673 = true
    · subst c14
      have H1 : (if (t675.length : Int) = (wrap64 ((l0.length : Int) + 1)) then (if 0 ≤ (l0.length : Int) then (if (l0.length : Int) ≤ (t675.length : Int) then ((fencepostref09_Same.f k (t675.take ((l0.length : Int) : Int).toNat) l0).bind fun t688 => (if t688 = true then (if t679 = true then (if t678 = a1_1 then (if a3 = a1_0 then (some true) else (if t680 = t682 then (some (t681 == t683)) else (some false))) else (some false)) else (some false)) else (some false))) else (none)) else (none)) else (some false)) = some r := by rw [if_pos rfl] at H; exact H
      clear H
      have H := H1
      clear H1
      by_cases c15 : (t675.length : Int) = (wrap64 ((l0.length : Int) + 1))
      · rw [if_pos c15] at H
        have c15b0 : ((t675.length : Int) == (wrap64 ((l0.length : Int) + 1))) = true := beq_iff_eq.mpr c15
        have c15b1 : ((t675.length : Int) != (wrap64 ((l0.length : Int) + 1))) = false := bne_eq_false_iff_eq.mpr c15
        clear c15
        by_cases c16 : 0 ≤ (l0.length : Int)
        · rw [if_pos c16] at H
          have c16b0 := eq_true c16
          have c16b1 : decide (0 ≤ (l0.length : Int)) = true := decide_eq_true c16
          clear c16
          by_cases c17 : (l0.length : Int) ≤ (t675.length : Int)
          · rw [if_pos c17] at H
            have c17b0 := eq_true c17
            have c17b1 : decide ((l0.length : Int) ≤ (t675.length : Int)) = true := decide_eq_true c17
            clear c17
            obtain ⟨y684, hy684⟩ : ∃ y_ : List (S51), y_ = (t675.take ((l0.length : Int) : Int).toNat) := ⟨_, rfl⟩
            replace H : ((fencepostref09_Same.f k y684 l0).bind fun t688 => (if t688 = true then (if t679 = true then (if t678 = a1_1 then (if a3 = a1_0 then (some true) else (if t680 = t682 then (some (t681 == t683)) else (some false))) else (some false)) else (some false)) else (some false))) = some r := by first | (rw [hy684]; with_reducible exact H) | (have H2_ := (Option.bind_some _ _).symm.trans H; rw [hy684]; with_reducible exact H2_) | (have H2_ := (Option.bind_some _ _).symm.trans H; with_reducible exact H2_) | with_reducible exact H | (rw [hy684]; exact H) | exact H
            have Ny684 := Aside0.mk hy684
            clear hy684
            replace H := Option.bind_eq_some_iff.mp H
            obtain ⟨t688, A180, H⟩ := H
            replace H : (if t688 = true then (if t679 = true then (if t678 = a1_1 then (if a3 = a1_0 then (some true) else (if t680 = t682 then (some (t681 == t683)) else (some false))) else (some false)) else (some false)) else (some false)) = some r := H
            have A18 := Aside0.mk A180
            clear A180
            by_cases c19 : t688 = true
            · subst c19
              have H1 : (if t679 = true then (if t678 = a1_1 then (if a3 = a1_0 then (some true) else (if t680 = t682 then (some (t681 == t683)) else (some false))) else (some false)) else (some false)) = some r := by rw [if_pos rfl] at H; exact H
              clear H
              have H := H1
              clear H1
              by_cases c20 : t679 = true
              · subst c20
                have H1 : (if t678 = a1_1 then (if a3 = a1_0 then (some true) else (if t680 = t682 then (some (t681 == t683)) else (some false))) else (some false)) = some r := by rw [if_pos rfl] at H; exact H
                clear H
                have H := H1
                clear H1
                by_cases c21 : t678 = a1_1
                · rw [if_pos c21] at H
                  have c21b0 : (t678 == a1_1) = true := beq_iff_eq.mpr c21
                  have c21b1 : (t678 != a1_1) = false := bne_eq_false_iff_eq.mpr c21
                  clear c21
                  by_cases c22 : a3 = a1_0
                  · rw [if_pos c22] at H
                    have c22b0 : (a3 == a1_0) = true := beq_iff_eq.mpr c22
                    have c22b1 : (a3 != a1_0) = false := bne_eq_false_iff_eq.mpr c22
                    clear c22
                    obtain rfl := Option.some.inj H
                    go_enter Try.func11, Try.ntmps11
                    (try simp only [List.append_eq, List.cons_append, List.nil_append])
                    go_wp2_with (first | ((with_reducible refine gate_dst (N := 5) rfl ?_); (try (refine gate_guard (by rfl) ?_; dsimp only)); refine box_event ?hg (N := 5) ?hd (cs := #[.int .i64 a1_0, .int .i64 a1_1]) (t := 51) ?hr ?_; (case hd => rfl); (case hg => rfl); (case hr => first | (go_simp; done) | (go_simp; rfl)); intro gb672 hg w23 hbox hb; have n0_ := Aside0.mk (below_step (by repeat (first | (with_reducible first | exact HB.out | apply below_alloc | apply pw_below_drewN | apply below_drew1) | exact HB.out)) hb); have n1_ := Aside0.mk (hbox); have n2_ := Aside0.mk ((by rw [hg]; exact (below_size (by repeat (first | (with_reducible first | exact HB.out | apply below_alloc | apply pw_below_drewN | apply below_drew1) | exact HB.out))) : w.heap.size ≤ gb672)); have n3_ := Aside0.mk ((by rw [hg]; exact (below_size (by repeat (first | (with_reducible first | exact HB.out | apply below_alloc | apply pw_below_drewN | apply below_drew1) | exact HB.out))) : w.heap.size ≤ gb672)); clear HB; have HB := n0_; have BK672 := n1_; have GW672 := n2_; have GE672 := n3_; clear n0_ n1_ n2_ n3_; clear hb hbox hg) | ((with_reducible refine gate_callee (f := 29) rfl ?_); refine goesL_ (some 17) rfl rfl Try.func29 (by kernel_rfl) rfl #[] rfl (by (try simp only [List.map_toArray, List.map_cons, List.map_nil]); first | done | rfl | (simp only [List.length_drop, List.length_take]; rfl)) ?_; (with_reducible refine (fencepostlaw09_head.calls k  true _ A5.out).mono ?_); rintro e w24 ⟨rfl, hb⟩; refine ⟨_, rfl, ?_⟩; have n0_ := Aside0.mk (blk_below (g := gb672) (o := .cells #[.int .i64 a1_0, .int .i64 a1_1] 51 (0, 0)) (by (with_reducible repeat (first | refine blk_drewN ?_ _ | refine blk_drew ?_ | refine blk_alloc ?_ _)); exact BK672.out) hb); have n1_ := Aside0.mk (below_step (by repeat (first | (with_reducible first | exact HB.out | apply below_alloc | apply pw_below_drewN | apply below_drew1 | refine below_set ?_ GE672.out) | exact HB.out)) hb); clear BK672; clear HB; have BK672 := n0_; have HB := n1_; clear n0_ n1_; (try clear hb); (try clear hb2); (try clear hk); (try clear hi)) | ((with_reducible refine gate_callee (f := 30) rfl ?_); refine goesL_ (some 20) rfl rfl Try.func30 (by kernel_rfl) rfl #[.slice A0 l0.length c0, .slice A2 l2.length c2] rfl (by (try simp only [List.map_toArray, List.map_cons, List.map_nil]); first | done | rfl | (simp only [List.length_drop, List.length_take]; rfl)) ?_; (with_reducible refine (fencepostlaw09_great.calls _ _ l0 _ _ l2 false _ ?side1 ?side2 ?side3 ?side4 A6.out).mono ?_); (case side1 => repeat (first | exact (Kd.C_below HR0.out HB.out) | (with_reducible refine Kd.C_alloc ?_ _) | (with_reducible refine Kd.C_drewN ?_ _) | (with_reducible refine Kd.C_drew ?_))); (case side2 => exact HC0.out); (case side3 => repeat (first | exact (Kd.C_below HR2.out HB.out) | (with_reducible refine Kd.C_alloc ?_ _) | (with_reducible refine Kd.C_drewN ?_ _) | (with_reducible refine Kd.C_drew ?_))); (case side4 => exact HC2.out); rintro e w' ⟨rfl, ⟨nd, rfl⟩⟩; refine ⟨_, rfl, ?_⟩; have hcz25_0 : w24.cell? ⟨gb672, 0, none⟩ = some (.int .i64 a1_0) := (blk_cell BK672.out 0).trans rfl; have hcz25_1 : w24.cell? ⟨gb672, 1, none⟩ = some (.int .i64 a1_1) := (blk_cell BK672.out 1).trans rfl; have hfz25_0 := blk_frozen BK672.out 0; have hfz25_1 := blk_frozen BK672.out 1) | ((with_reducible refine gate_callee (f := 38) rfl ?_); refine goesL_ (some 24) rfl rfl Try.func38 (by kernel_rfl) rfl #[.slice A0 l0.length c0, .agg #[.int .i64 a1_0, .int .i64 a1_1]] rfl (by (try simp only [List.map_toArray, List.map_cons, List.map_nil]); first | done | rfl | (simp only [List.length_drop, List.length_take]; rfl)) ?_; (with_reducible refine (buf_Push.calls _ _ l0 a1_0 a1_1 t675 _ ?side1 ?side2 A10.out).mono ?_); (case side1 => repeat (first | exact (Kd.C_below HR0.out (by repeat (first | (with_reducible first | exact HB.out | apply below_alloc | apply pw_below_drewN | apply below_drew1 | refine below_set ?_ GE672.out) | exact HB.out))) | (with_reducible refine Kd.C_alloc ?_ _) | (with_reducible refine Kd.C_drewN ?_ _) | (with_reducible refine Kd.C_drew ?_))); (case side2 => exact HC0.out); rintro e w26 ⟨v676, rfl, ho0, hb⟩; refine ⟨_, rfl, ?_⟩; have n0_ := Aside0.mk (Kd.R_lower (Kd.R_newB ho0 (g := gb672) (o := .cells #[.int .i64 a1_0, .int .i64 a1_1] 51 (0, 0)) (by (with_reducible repeat (first | refine blk_drewN ?_ _ | refine blk_drew ?_ | refine blk_alloc ?_ _)); exact BK672.out)) (below_size (by repeat (first | (with_reducible first | exact HB.out | apply below_alloc | apply pw_below_drewN | apply below_drew1 | refine below_set ?_ GE672.out) | exact HB.out)))); have n1_ := Aside0.mk (blk_below (g := gb672) (o := .cells #[.int .i64 a1_0, .int .i64 a1_1] 51 (0, 0)) (by (with_reducible repeat (first | refine blk_drewN ?_ _ | refine blk_drew ?_ | refine blk_alloc ?_ _)); exact BK672.out) hb); have n2_ := Aside0.mk (below_step (by repeat (first | (with_reducible first | exact HB.out | apply below_alloc | apply pw_below_drewN | apply below_drew1 | refine below_set ?_ GE672.out) | exact HB.out)) hb); clear BK672; clear HB; have HO677 := n0_; have BK672 := n1_; have HB := n2_; clear n0_ n1_ n2_; (try clear hb); (try clear hb2); (try clear hk); (try clear hi); (try clear ho0); have hcz27_0 : w26.cell? ⟨gb672, 0, none⟩ = some (.int .i64 a1_0) := (blk_cell BK672.out 0).trans rfl; have hcz27_1 : w26.cell? ⟨gb672, 1, none⟩ = some (.int .i64 a1_1) := (blk_cell BK672.out 1).trans rfl; have hfz27_0 := blk_frozen BK672.out 0; have hfz27_1 := blk_frozen BK672.out 1; obtain ⟨Ao28, co28, eo28⟩ := Kd.R_slice HO677.out; subst eo28) | ((with_reducible refine gate_callee (f := 31) rfl ?_); refine goesL_ (some 29) rfl rfl Try.func31 (by kernel_rfl) rfl #[.slice Ao28 t675.length co28, .int .i64 a1_0] rfl (by (try simp only [List.map_toArray, List.map_cons, List.map_nil]); first | done | rfl | (simp only [List.length_drop, List.length_take]; rfl)) ?_; (with_reducible refine (buf_Last.calls _ _ t675 a1_0 t678 true _ ?side1 ?side2 A11.out).mono ?_); (case side1 => repeat (first | exact (Kd.R_reads' HO677.out).2.2 | (with_reducible refine Kd.C_alloc ?_ _) | (with_reducible refine Kd.C_drewN ?_ _) | (with_reducible refine Kd.C_drew ?_))); (case side2 => exact (Kd.R_reads' HO677.out).2.1); rintro e w29 ⟨rfl, hb⟩; refine ⟨_, rfl, ?_⟩; have n0_ := Aside0.mk (Kd.R_below (by (with_reducible repeat (first | apply Kd.R_alloc | apply Kd.R_drewN | apply Kd.R_drew)); exact HO677.out) hb); have n1_ := Aside0.mk (blk_below (g := gb672) (o := .cells #[.int .i64 a1_0, .int .i64 a1_1] 51 (0, 0)) (by (with_reducible repeat (first | refine blk_drewN ?_ _ | refine blk_drew ?_ | refine blk_alloc ?_ _)); exact BK672.out) hb); have n2_ := Aside0.mk (below_step (by repeat (first | (with_reducible first | exact HB.out | apply below_alloc | apply pw_below_drewN | apply below_drew1 | refine below_set ?_ GE672.out) | exact HB.out)) hb); clear HO677; clear BK672; clear HB; have HO677 := n0_; have BK672 := n1_; have HB := n2_; clear n0_ n1_ n2_; (try clear hb); (try clear hb2); (try clear hk); (try clear hi)) | ((with_reducible refine gate_callee (f := 33) rfl ?_); refine goesL_ (some 36) rfl rfl Try.func33 (by kernel_rfl) rfl #[.slice A0 l0.length c0, .slice A2 l2.length c2, .int .i64 a3] rfl (by (try simp only [List.map_toArray, List.map_cons, List.map_nil]); first | done | rfl | (simp only [List.length_drop, List.length_take]; rfl)) ?_; (with_reducible refine (buf_View.calls _ _ l0 _ _ l2 a3 t680 t681 _ ?side1 ?side2 ?side3 ?side4 A12.out).mono ?_); (case side1 => repeat (first | exact (Kd.C_below HR0.out HB.out) | (with_reducible refine Kd.C_alloc ?_ _) | (with_reducible refine Kd.C_drewN ?_ _) | (with_reducible refine Kd.C_drew ?_))); (case side2 => exact HC0.out); (case side3 => repeat (first | exact (Kd.C_below HR2.out HB.out) | (with_reducible refine Kd.C_alloc ?_ _) | (with_reducible refine Kd.C_drewN ?_ _) | (with_reducible refine Kd.C_drew ?_))); (case side4 => exact HC2.out); rintro e w30 ⟨rfl, hb⟩; refine ⟨_, rfl, ?_⟩; have n0_ := Aside0.mk (Kd.R_below (by (with_reducible repeat (first | apply Kd.R_alloc | apply Kd.R_drewN | apply Kd.R_drew)); exact HO677.out) hb); have n1_ := Aside0.mk (blk_below (g := gb672) (o := .cells #[.int .i64 a1_0, .int .i64 a1_1] 51 (0, 0)) (by (with_reducible repeat (first | refine blk_drewN ?_ _ | refine blk_drew ?_ | refine blk_alloc ?_ _)); exact BK672.out) hb); have n2_ := Aside0.mk (below_step (by repeat (first | (with_reducible first | exact HB.out | apply below_alloc | apply pw_below_drewN | apply below_drew1 | refine below_set ?_ GE672.out) | exact HB.out)) hb); clear HO677; clear BK672; clear HB; have HO677 := n0_; have BK672 := n1_; have HB := n2_; clear n0_ n1_ n2_; (try clear hb); (try clear hb2); (try clear hk); (try clear hi)) | ((with_reducible refine gate_callee (f := 33) rfl ?_); refine goesL_ (some 43) rfl rfl Try.func33 (by kernel_rfl) rfl #[.slice Ao28 t675.length co28, .slice A2 l2.length c2, .int .i64 a3] rfl (by (try simp only [List.map_toArray, List.map_cons, List.map_nil]); first | done | rfl | (simp only [List.length_drop, List.length_take]; rfl)) ?_; (with_reducible refine (buf_View.calls _ _ t675 _ _ l2 a3 t682 t683 _ ?side1 ?side2 ?side3 ?side4 A13.out).mono ?_); (case side1 => repeat (first | exact (Kd.R_reads' HO677.out).2.2 | (with_reducible refine Kd.C_alloc ?_ _) | (with_reducible refine Kd.C_drewN ?_ _) | (with_reducible refine Kd.C_drew ?_))); (case side2 => exact (Kd.R_reads' HO677.out).2.1); (case side3 => repeat (first | exact (Kd.C_below HR2.out HB.out) | (with_reducible refine Kd.C_alloc ?_ _) | (with_reducible refine Kd.C_drewN ?_ _) | (with_reducible refine Kd.C_drew ?_))); (case side4 => exact HC2.out); rintro e w31 ⟨rfl, hb⟩; refine ⟨_, rfl, ?_⟩; have n0_ := Aside0.mk (Kd.R_below (by (with_reducible repeat (first | apply Kd.R_alloc | apply Kd.R_drewN | apply Kd.R_drew)); exact HO677.out) hb); have n1_ := Aside0.mk (blk_below (g := gb672) (o := .cells #[.int .i64 a1_0, .int .i64 a1_1] 51 (0, 0)) (by (with_reducible repeat (first | refine blk_drewN ?_ _ | refine blk_drew ?_ | refine blk_alloc ?_ _)); exact BK672.out) hb); have n2_ := Aside0.mk (below_step (by repeat (first | (with_reducible first | exact HB.out | apply below_alloc | apply pw_below_drewN | apply below_drew1 | refine below_set ?_ GE672.out) | exact HB.out)) hb); clear HO677; clear BK672; clear HB; have HO677 := n0_; have BK672 := n1_; have HB := n2_; clear n0_ n1_ n2_; (try clear hb); (try clear hb2); (try clear hk); (try clear hi); have q32 : ((l0.length : Int) : Int) ≤ ((t675.length : Int) : Int) := of_decide_eq_true (by first | (with_reducible assumption) | assumption); obtain ⟨i032, hi032, _, hsz32, _⟩ := info_parts info51; have hroom32 : t675.length ≤ co28 := (Kd.R_reads' HO677.out).2.1; have hC32 : Kd.C k51 _ Ao28 t675.length t675 := (Kd.R_reads' HO677.out).2.2; have hcut32 := cut_to (P := Try.prog) 46 51 .i64 Try.underlying46 hi032 Ao28 t675.length co28 (l0.length : Int) (of_decide_eq_true (by first | (with_reducible assumption) | assumption)) q32 hroom32; have hr32 := Kd.C_take (m := ((l0.length : Int) : Int).toNat) hC32 (by omega); have hy32 : y684.length = ((l0.length : Int) : Int).toNat := (by rw [Ny684.out, List.length_take]; omega); rw [← Ny684.out] at hr32; rw [← hy32] at hcut32; have HR687 := Aside0.mk hr32; have HC687 := Aside0.mk (show y684.length ≤ co28 from by omega); clear hr32 hC32 hroom32 hi032 hsz32; have KY32 := Aside0.mk hy32; clear hy32; have KL32 := Aside0.mk (show ((l0.length : Int) : Int).toNat ≤ t675.length from by omega); replace q32 := eq_true q32) | (go_at_call 37; (with_reducible refine (fencepostref09_Same.calls k _ _ y684 _ _ l0 true _ ?side1 ?side2 ?side3 ?side4 A18.out).mono ?_); (case side1 => repeat (first | exact (by repeat (first | (with_reducible exact HR687.out) | (with_reducible refine Kd.C_alloc ?_ _) | (with_reducible refine Kd.C_drewN ?_ _) | (with_reducible refine Kd.C_drew ?_) | exact HR687.out)) | (with_reducible refine Kd.C_alloc ?_ _) | (with_reducible refine Kd.C_drewN ?_ _) | (with_reducible refine Kd.C_drew ?_))); (case side2 => exact HC687.out); (case side3 => repeat (first | exact (Kd.C_below HR0.out HB.out) | (with_reducible refine Kd.C_alloc ?_ _) | (with_reducible refine Kd.C_drewN ?_ _) | (with_reducible refine Kd.C_drew ?_))); (case side4 => exact HC0.out); rintro e w' ⟨rfl, ⟨nd, rfl⟩⟩; have hcz33_0 : w31.cell? ⟨gb672, 0, none⟩ = some (.int .i64 a1_0) := (blk_cell BK672.out 0).trans rfl; have hcz33_1 : w31.cell? ⟨gb672, 1, none⟩ = some (.int .i64 a1_1) := (blk_cell BK672.out 1).trans rfl; have hfz33_0 := blk_frozen BK672.out 0; have hfz33_1 := blk_frozen BK672.out 1))
                    all_goals go_ret
                    all_goals exact ⟨by first | rfl | (simp [errW_none, errW_some] <;> rfl) | (simp [*, errW_none, errW_some] <;> rfl), by repeat (first | (with_reducible first | exact HB.out | apply below_alloc | apply pw_below_drewN | apply below_drew1 | refine below_set ?_ GE672.out) | exact HB.out)⟩
                  · rw [if_neg c22] at H
                    have c22b0 : (a3 == a1_0) = false := beq_eq_false_iff_ne.mpr c22
                    have c22b1 : (a3 != a1_0) = true := bne_iff_ne.mpr c22
                    by_cases c34 : t680 = t682
                    · rw [if_pos c34] at H
                      have c34b0 : (t680 == t682) = true := beq_iff_eq.mpr c34
                      have c34b1 : (t680 != t682) = false := bne_eq_false_iff_eq.mpr c34
                      clear c34
                      obtain rfl := Option.some.inj H
                      go_enter Try.func11, Try.ntmps11
                      (try simp only [List.append_eq, List.cons_append, List.nil_append])
                      go_wp2_with (first | ((with_reducible refine gate_dst (N := 5) rfl ?_); (try (refine gate_guard (by rfl) ?_; dsimp only)); refine box_event ?hg (N := 5) ?hd (cs := #[.int .i64 a1_0, .int .i64 a1_1]) (t := 51) ?hr ?_; (case hd => rfl); (case hg => rfl); (case hr => first | (go_simp; done) | (go_simp; rfl)); intro gb672 hg w35 hbox hb; have n0_ := Aside0.mk (below_step (by repeat (first | (with_reducible first | exact HB.out | apply below_alloc | apply pw_below_drewN | apply below_drew1) | exact HB.out)) hb); have n1_ := Aside0.mk (hbox); have n2_ := Aside0.mk ((by rw [hg]; exact (below_size (by repeat (first | (with_reducible first | exact HB.out | apply below_alloc | apply pw_below_drewN | apply below_drew1) | exact HB.out))) : w.heap.size ≤ gb672)); have n3_ := Aside0.mk ((by rw [hg]; exact (below_size (by repeat (first | (with_reducible first | exact HB.out | apply below_alloc | apply pw_below_drewN | apply below_drew1) | exact HB.out))) : w.heap.size ≤ gb672)); clear HB; have HB := n0_; have BK672 := n1_; have GW672 := n2_; have GE672 := n3_; clear n0_ n1_ n2_ n3_; clear hb hbox hg) | ((with_reducible refine gate_callee (f := 29) rfl ?_); refine goesL_ (some 17) rfl rfl Try.func29 (by kernel_rfl) rfl #[] rfl (by (try simp only [List.map_toArray, List.map_cons, List.map_nil]); first | done | rfl | (simp only [List.length_drop, List.length_take]; rfl)) ?_; (with_reducible refine (fencepostlaw09_head.calls k  true _ A5.out).mono ?_); rintro e w36 ⟨rfl, hb⟩; refine ⟨_, rfl, ?_⟩; have n0_ := Aside0.mk (blk_below (g := gb672) (o := .cells #[.int .i64 a1_0, .int .i64 a1_1] 51 (0, 0)) (by (with_reducible repeat (first | refine blk_drewN ?_ _ | refine blk_drew ?_ | refine blk_alloc ?_ _)); exact BK672.out) hb); have n1_ := Aside0.mk (below_step (by repeat (first | (with_reducible first | exact HB.out | apply below_alloc | apply pw_below_drewN | apply below_drew1 | refine below_set ?_ GE672.out) | exact HB.out)) hb); clear BK672; clear HB; have BK672 := n0_; have HB := n1_; clear n0_ n1_; (try clear hb); (try clear hb2); (try clear hk); (try clear hi)) | ((with_reducible refine gate_callee (f := 30) rfl ?_); refine goesL_ (some 20) rfl rfl Try.func30 (by kernel_rfl) rfl #[.slice A0 l0.length c0, .slice A2 l2.length c2] rfl (by (try simp only [List.map_toArray, List.map_cons, List.map_nil]); first | done | rfl | (simp only [List.length_drop, List.length_take]; rfl)) ?_; (with_reducible refine (fencepostlaw09_great.calls _ _ l0 _ _ l2 false _ ?side1 ?side2 ?side3 ?side4 A6.out).mono ?_); (case side1 => repeat (first | exact (Kd.C_below HR0.out HB.out) | (with_reducible refine Kd.C_alloc ?_ _) | (with_reducible refine Kd.C_drewN ?_ _) | (with_reducible refine Kd.C_drew ?_))); (case side2 => exact HC0.out); (case side3 => repeat (first | exact (Kd.C_below HR2.out HB.out) | (with_reducible refine Kd.C_alloc ?_ _) | (with_reducible refine Kd.C_drewN ?_ _) | (with_reducible refine Kd.C_drew ?_))); (case side4 => exact HC2.out); rintro e w' ⟨rfl, ⟨nd, rfl⟩⟩; refine ⟨_, rfl, ?_⟩; have hcz37_0 : w36.cell? ⟨gb672, 0, none⟩ = some (.int .i64 a1_0) := (blk_cell BK672.out 0).trans rfl; have hcz37_1 : w36.cell? ⟨gb672, 1, none⟩ = some (.int .i64 a1_1) := (blk_cell BK672.out 1).trans rfl; have hfz37_0 := blk_frozen BK672.out 0; have hfz37_1 := blk_frozen BK672.out 1) | ((with_reducible refine gate_callee (f := 38) rfl ?_); refine goesL_ (some 24) rfl rfl Try.func38 (by kernel_rfl) rfl #[.slice A0 l0.length c0, .agg #[.int .i64 a1_0, .int .i64 a1_1]] rfl (by (try simp only [List.map_toArray, List.map_cons, List.map_nil]); first | done | rfl | (simp only [List.length_drop, List.length_take]; rfl)) ?_; (with_reducible refine (buf_Push.calls _ _ l0 a1_0 a1_1 t675 _ ?side1 ?side2 A10.out).mono ?_); (case side1 => repeat (first | exact (Kd.C_below HR0.out (by repeat (first | (with_reducible first | exact HB.out | apply below_alloc | apply pw_below_drewN | apply below_drew1 | refine below_set ?_ GE672.out) | exact HB.out))) | (with_reducible refine Kd.C_alloc ?_ _) | (with_reducible refine Kd.C_drewN ?_ _) | (with_reducible refine Kd.C_drew ?_))); (case side2 => exact HC0.out); rintro e w38 ⟨v676, rfl, ho0, hb⟩; refine ⟨_, rfl, ?_⟩; have n0_ := Aside0.mk (Kd.R_lower (Kd.R_newB ho0 (g := gb672) (o := .cells #[.int .i64 a1_0, .int .i64 a1_1] 51 (0, 0)) (by (with_reducible repeat (first | refine blk_drewN ?_ _ | refine blk_drew ?_ | refine blk_alloc ?_ _)); exact BK672.out)) (below_size (by repeat (first | (with_reducible first | exact HB.out | apply below_alloc | apply pw_below_drewN | apply below_drew1 | refine below_set ?_ GE672.out) | exact HB.out)))); have n1_ := Aside0.mk (blk_below (g := gb672) (o := .cells #[.int .i64 a1_0, .int .i64 a1_1] 51 (0, 0)) (by (with_reducible repeat (first | refine blk_drewN ?_ _ | refine blk_drew ?_ | refine blk_alloc ?_ _)); exact BK672.out) hb); have n2_ := Aside0.mk (below_step (by repeat (first | (with_reducible first | exact HB.out | apply below_alloc | apply pw_below_drewN | apply below_drew1 | refine below_set ?_ GE672.out) | exact HB.out)) hb); clear BK672; clear HB; have HO677 := n0_; have BK672 := n1_; have HB := n2_; clear n0_ n1_ n2_; (try clear hb); (try clear hb2); (try clear hk); (try clear hi); (try clear ho0); have hcz39_0 : w38.cell? ⟨gb672, 0, none⟩ = some (.int .i64 a1_0) := (blk_cell BK672.out 0).trans rfl; have hcz39_1 : w38.cell? ⟨gb672, 1, none⟩ = some (.int .i64 a1_1) := (blk_cell BK672.out 1).trans rfl; have hfz39_0 := blk_frozen BK672.out 0; have hfz39_1 := blk_frozen BK672.out 1; obtain ⟨Ao40, co40, eo40⟩ := Kd.R_slice HO677.out; subst eo40) | ((with_reducible refine gate_callee (f := 31) rfl ?_); refine goesL_ (some 29) rfl rfl Try.func31 (by kernel_rfl) rfl #[.slice Ao40 t675.length co40, .int .i64 a1_0] rfl (by (try simp only [List.map_toArray, List.map_cons, List.map_nil]); first | done | rfl | (simp only [List.length_drop, List.length_take]; rfl)) ?_; (with_reducible refine (buf_Last.calls _ _ t675 a1_0 t678 true _ ?side1 ?side2 A11.out).mono ?_); (case side1 => repeat (first | exact (Kd.R_reads' HO677.out).2.2 | (with_reducible refine Kd.C_alloc ?_ _) | (with_reducible refine Kd.C_drewN ?_ _) | (with_reducible refine Kd.C_drew ?_))); (case side2 => exact (Kd.R_reads' HO677.out).2.1); rintro e w41 ⟨rfl, hb⟩; refine ⟨_, rfl, ?_⟩; have n0_ := Aside0.mk (Kd.R_below (by (with_reducible repeat (first | apply Kd.R_alloc | apply Kd.R_drewN | apply Kd.R_drew)); exact HO677.out) hb); have n1_ := Aside0.mk (blk_below (g := gb672) (o := .cells #[.int .i64 a1_0, .int .i64 a1_1] 51 (0, 0)) (by (with_reducible repeat (first | refine blk_drewN ?_ _ | refine blk_drew ?_ | refine blk_alloc ?_ _)); exact BK672.out) hb); have n2_ := Aside0.mk (below_step (by repeat (first | (with_reducible first | exact HB.out | apply below_alloc | apply pw_below_drewN | apply below_drew1 | refine below_set ?_ GE672.out) | exact HB.out)) hb); clear HO677; clear BK672; clear HB; have HO677 := n0_; have BK672 := n1_; have HB := n2_; clear n0_ n1_ n2_; (try clear hb); (try clear hb2); (try clear hk); (try clear hi)) | ((with_reducible refine gate_callee (f := 33) rfl ?_); refine goesL_ (some 36) rfl rfl Try.func33 (by kernel_rfl) rfl #[.slice A0 l0.length c0, .slice A2 l2.length c2, .int .i64 a3] rfl (by (try simp only [List.map_toArray, List.map_cons, List.map_nil]); first | done | rfl | (simp only [List.length_drop, List.length_take]; rfl)) ?_; (with_reducible refine (buf_View.calls _ _ l0 _ _ l2 a3 t680 t681 _ ?side1 ?side2 ?side3 ?side4 A12.out).mono ?_); (case side1 => repeat (first | exact (Kd.C_below HR0.out HB.out) | (with_reducible refine Kd.C_alloc ?_ _) | (with_reducible refine Kd.C_drewN ?_ _) | (with_reducible refine Kd.C_drew ?_))); (case side2 => exact HC0.out); (case side3 => repeat (first | exact (Kd.C_below HR2.out HB.out) | (with_reducible refine Kd.C_alloc ?_ _) | (with_reducible refine Kd.C_drewN ?_ _) | (with_reducible refine Kd.C_drew ?_))); (case side4 => exact HC2.out); rintro e w42 ⟨rfl, hb⟩; refine ⟨_, rfl, ?_⟩; have n0_ := Aside0.mk (Kd.R_below (by (with_reducible repeat (first | apply Kd.R_alloc | apply Kd.R_drewN | apply Kd.R_drew)); exact HO677.out) hb); have n1_ := Aside0.mk (blk_below (g := gb672) (o := .cells #[.int .i64 a1_0, .int .i64 a1_1] 51 (0, 0)) (by (with_reducible repeat (first | refine blk_drewN ?_ _ | refine blk_drew ?_ | refine blk_alloc ?_ _)); exact BK672.out) hb); have n2_ := Aside0.mk (below_step (by repeat (first | (with_reducible first | exact HB.out | apply below_alloc | apply pw_below_drewN | apply below_drew1 | refine below_set ?_ GE672.out) | exact HB.out)) hb); clear HO677; clear BK672; clear HB; have HO677 := n0_; have BK672 := n1_; have HB := n2_; clear n0_ n1_ n2_; (try clear hb); (try clear hb2); (try clear hk); (try clear hi)) | ((with_reducible refine gate_callee (f := 33) rfl ?_); refine goesL_ (some 43) rfl rfl Try.func33 (by kernel_rfl) rfl #[.slice Ao40 t675.length co40, .slice A2 l2.length c2, .int .i64 a3] rfl (by (try simp only [List.map_toArray, List.map_cons, List.map_nil]); first | done | rfl | (simp only [List.length_drop, List.length_take]; rfl)) ?_; (with_reducible refine (buf_View.calls _ _ t675 _ _ l2 a3 t682 t683 _ ?side1 ?side2 ?side3 ?side4 A13.out).mono ?_); (case side1 => repeat (first | exact (Kd.R_reads' HO677.out).2.2 | (with_reducible refine Kd.C_alloc ?_ _) | (with_reducible refine Kd.C_drewN ?_ _) | (with_reducible refine Kd.C_drew ?_))); (case side2 => exact (Kd.R_reads' HO677.out).2.1); (case side3 => repeat (first | exact (Kd.C_below HR2.out HB.out) | (with_reducible refine Kd.C_alloc ?_ _) | (with_reducible refine Kd.C_drewN ?_ _) | (with_reducible refine Kd.C_drew ?_))); (case side4 => exact HC2.out); rintro e w43 ⟨rfl, hb⟩; refine ⟨_, rfl, ?_⟩; have n0_ := Aside0.mk (Kd.R_below (by (with_reducible repeat (first | apply Kd.R_alloc | apply Kd.R_drewN | apply Kd.R_drew)); exact HO677.out) hb); have n1_ := Aside0.mk (blk_below (g := gb672) (o := .cells #[.int .i64 a1_0, .int .i64 a1_1] 51 (0, 0)) (by (with_reducible repeat (first | refine blk_drewN ?_ _ | refine blk_drew ?_ | refine blk_alloc ?_ _)); exact BK672.out) hb); have n2_ := Aside0.mk (below_step (by repeat (first | (with_reducible first | exact HB.out | apply below_alloc | apply pw_below_drewN | apply below_drew1 | refine below_set ?_ GE672.out) | exact HB.out)) hb); clear HO677; clear BK672; clear HB; have HO677 := n0_; have BK672 := n1_; have HB := n2_; clear n0_ n1_ n2_; (try clear hb); (try clear hb2); (try clear hk); (try clear hi); have q44 : ((l0.length : Int) : Int) ≤ ((t675.length : Int) : Int) := of_decide_eq_true (by first | (with_reducible assumption) | assumption); obtain ⟨i044, hi044, _, hsz44, _⟩ := info_parts info51; have hroom44 : t675.length ≤ co40 := (Kd.R_reads' HO677.out).2.1; have hC44 : Kd.C k51 _ Ao40 t675.length t675 := (Kd.R_reads' HO677.out).2.2; have hcut44 := cut_to (P := Try.prog) 46 51 .i64 Try.underlying46 hi044 Ao40 t675.length co40 (l0.length : Int) (of_decide_eq_true (by first | (with_reducible assumption) | assumption)) q44 hroom44; have hr44 := Kd.C_take (m := ((l0.length : Int) : Int).toNat) hC44 (by omega); have hy44 : y684.length = ((l0.length : Int) : Int).toNat := (by rw [Ny684.out, List.length_take]; omega); rw [← Ny684.out] at hr44; rw [← hy44] at hcut44; have HR687 := Aside0.mk hr44; have HC687 := Aside0.mk (show y684.length ≤ co40 from by omega); clear hr44 hC44 hroom44 hi044 hsz44; have KY44 := Aside0.mk hy44; clear hy44; have KL44 := Aside0.mk (show ((l0.length : Int) : Int).toNat ≤ t675.length from by omega); replace q44 := eq_true q44) | (go_at_call 37; (with_reducible refine (fencepostref09_Same.calls k _ _ y684 _ _ l0 true _ ?side1 ?side2 ?side3 ?side4 A18.out).mono ?_); (case side1 => repeat (first | exact (by repeat (first | (with_reducible exact HR687.out) | (with_reducible refine Kd.C_alloc ?_ _) | (with_reducible refine Kd.C_drewN ?_ _) | (with_reducible refine Kd.C_drew ?_) | exact HR687.out)) | (with_reducible refine Kd.C_alloc ?_ _) | (with_reducible refine Kd.C_drewN ?_ _) | (with_reducible refine Kd.C_drew ?_))); (case side2 => exact HC687.out); (case side3 => repeat (first | exact (Kd.C_below HR0.out HB.out) | (with_reducible refine Kd.C_alloc ?_ _) | (with_reducible refine Kd.C_drewN ?_ _) | (with_reducible refine Kd.C_drew ?_))); (case side4 => exact HC0.out); rintro e w' ⟨rfl, ⟨nd, rfl⟩⟩; have hcz45_0 : w43.cell? ⟨gb672, 0, none⟩ = some (.int .i64 a1_0) := (blk_cell BK672.out 0).trans rfl; have hcz45_1 : w43.cell? ⟨gb672, 1, none⟩ = some (.int .i64 a1_1) := (blk_cell BK672.out 1).trans rfl; have hfz45_0 := blk_frozen BK672.out 0; have hfz45_1 := blk_frozen BK672.out 1))
                      all_goals go_ret
                      all_goals exact ⟨by first | rfl | (simp [errW_none, errW_some] <;> rfl) | (simp [*, errW_none, errW_some] <;> rfl), by repeat (first | (with_reducible first | exact HB.out | apply below_alloc | apply pw_below_drewN | apply below_drew1 | refine below_set ?_ GE672.out) | exact HB.out)⟩
                    · rw [if_neg c34] at H
                      have c34b0 : (t680 == t682) = false := beq_eq_false_iff_ne.mpr c34
                      have c34b1 : (t680 != t682) = true := bne_iff_ne.mpr c34
                      exact absurd ((Option.some.inj H).trans HT.out) (by simp)
                · rw [if_neg c21] at H
                  have c21b0 : (t678 == a1_1) = false := beq_eq_false_iff_ne.mpr c21
                  have c21b1 : (t678 != a1_1) = true := bne_iff_ne.mpr c21
                  exact absurd ((Option.some.inj H).trans HT.out) (by simp)
              · replace c20 := Bool.eq_false_iff.mpr c20
                subst c20
                have H1 : (some false) = some r := by rw [if_neg (show ¬ (false = true) by decide)] at H; exact H
                clear H
                have H := H1
                clear H1
                exact absurd ((Option.some.inj H).trans HT.out) (by simp)
            · replace c19 := Bool.eq_false_iff.mpr c19
              subst c19
              have H1 : (some false) = some r := by rw [if_neg (show ¬ (false = true) by decide)] at H; exact H
              clear H
              have H := H1
              clear H1
              exact absurd ((Option.some.inj H).trans HT.out) (by simp)
          · rw [if_neg c17] at H
            exact absurd H (by simp)
        · rw [if_neg c16] at H
          exact absurd H (by simp)
      · rw [if_neg c15] at H
        have c15b0 : ((t675.length : Int) == (wrap64 ((l0.length : Int) + 1))) = false := beq_eq_false_iff_ne.mpr c15
        have c15b1 : ((t675.length : Int) != (wrap64 ((l0.length : Int) + 1))) = true := bne_iff_ne.mpr c15
        exact absurd ((Option.some.inj H).trans HT.out) (by simp)
    · replace c14 := Bool.eq_false_iff.mpr c14
      subst c14
      have H1 : (some false) = some r := by rw [if_neg (show ¬ (false = true) by decide)] at H; exact H
      clear H
      have H := H1
      clear H1
      exact absurd ((Option.some.inj H).trans HT.out) (by simp)

/-! ### fencepostlaw09_BufSteps: function 12 -/
def fencepostlaw09_BufSteps.l0 : Nat → List (S51) → Bool → List Int → List (S51) → List Int → Int → Option (Bool)
  | 0, _, _, _, _, _, _ => none
  | k + 1, x0, x5, x6, x7, x8, x9 => if x9 ≤ (x0.length : Int) then ((buf_Drain.f k x7 x8).bind fun bt695 => (if bt695.2.2 = true then (if (bt695.1.length : Int) = (wrap64 ((x7.length : Int) - 1)) then ((buf_All.f k bt695.1 bt695.2.1).bind fun t705 => ((fencepostref07_SameInts.f k t705 x6).bind fun t708 => (if t708 = true then (if 1 ≤ (x7.length : Int) then ((fencepostref09_Same.f k bt695.1 (x7.drop 1)).bind fun t714 => (if t714 = true then (fencepostlaw09_BufSteps.l0 k x0 x5 x6 bt695.1 bt695.2.1 (wrap64 (x9 + 1))) else (some false))) else (none)) else (some false)))) else (some false)) else ((fencepostref09_Same.f k x7 bt695.1).bind fun t702 => (if t702 = true then ((fencepostref07_SameInts.f k x8 bt695.2.1).bind fun t703 => (if t703 = true then (if x5 = true then ((fencepostref07_SameInts.f k x8 x6).bind fun t704 => (some t704)) else (some false)) else (some false))) else (some false))))) else (if x5 = true then ((fencepostref07_SameInts.f k x8 x6).bind fun t694 => (some t694)) else (some false))
def fencepostlaw09_BufSteps.f (k : Nat) (l0 : List (S51)) (l1 : List Int) : Option (Bool) := (fencepostlaw09_head.f k).bind fun t689 => ((fencepostlaw09_great.f l0 l1).bind fun t690 => (if t690 = true then (some t689) else ((buf_All.f k l0 l1).bind fun t691 => (fencepostlaw09_BufSteps.l0 k l0 t689 t691 l0 l1 0))))
theorem fencepostlaw09_BufSteps.mono_l : ∀ k, (∀ y0 y1 y2 y3 y4 y5, LeO (fencepostlaw09_BufSteps.l0 k y0 y1 y2 y3 y4 y5) (fencepostlaw09_BufSteps.l0 (k + 1) y0 y1 y2 y3 y4 y5))
  | 0 => fun _ _ _ _ _ _ r h => by simp [fencepostlaw09_BufSteps.l0] at h
  | k + 1 => by
    have ih0 := fencepostlaw09_BufSteps.mono_l k
    · intro y0 y1 y2 y3 y4 y5
      unfold fencepostlaw09_BufSteps.l0
      repeat' first
      | (with_reducible exact ih0 _ _ _ _ _ _)
      | (with_reducible exact buf_All.mono _ _ _)
      | (with_reducible exact buf_Drain.mono _ _ _)
      | (with_reducible exact fencepostlaw09_head.mono _)
      | (with_reducible exact fencepostref07_SameInts.mono _ _ _)
      | (with_reducible exact fencepostref09_Same.mono _ _ _)
      | (with_reducible exact LeO.refl _)
      | (with_reducible exact LeO.none _)
      | (with_reducible refine LeO.ite ?_ ?_)
      | (with_reducible refine LeO.bind ?_ (fun _ => ?_))
      | exact ih0 _ _ _ _ _ _
      | exact buf_All.mono _ _ _
      | exact buf_Drain.mono _ _ _
      | exact fencepostlaw09_head.mono _
      | exact fencepostref07_SameInts.mono _ _ _
      | exact fencepostref09_Same.mono _ _ _
      | exact LeO.none _
      | refine LeO.ite ?_ ?_
      | refine LeO.bind ?_ (fun _ => ?_)
theorem fencepostlaw09_BufSteps.mono : ∀ a0 a1 k, LeO (fencepostlaw09_BufSteps.f k a0 a1) (fencepostlaw09_BufSteps.f (k + 1) a0 a1) := by
  intro a0 a1 k
  have ih0 := fencepostlaw09_BufSteps.mono_l k
  unfold fencepostlaw09_BufSteps.f
  repeat' first
      | (with_reducible exact ih0 _ _ _ _ _ _)
      | (with_reducible exact buf_All.mono _ _ _)
      | (with_reducible exact buf_Drain.mono _ _ _)
      | (with_reducible exact fencepostlaw09_head.mono _)
      | (with_reducible exact fencepostref07_SameInts.mono _ _ _)
      | (with_reducible exact fencepostref09_Same.mono _ _ _)
      | (with_reducible exact LeO.refl _)
      | (with_reducible exact LeO.none _)
      | (with_reducible refine LeO.ite ?_ ?_)
      | (with_reducible refine LeO.bind ?_ (fun _ => ?_))
      | exact ih0 _ _ _ _ _ _
      | exact buf_All.mono _ _ _
      | exact buf_Drain.mono _ _ _
      | exact fencepostlaw09_head.mono _
      | exact fencepostref07_SameInts.mono _ _ _
      | exact fencepostref09_Same.mono _ _ _
      | exact LeO.none _
      | refine LeO.ite ?_ ?_
      | refine LeO.bind ?_ (fun _ => ?_)
set_option maxHeartbeats 8000000 in
set_option maxRecDepth 100000 in
theorem fencepostlaw09_BufSteps.calls (k : Nat) (P0_ : Nat → Prop) (A0 : Option Addr) (c0 : Nat) (l0 : List (S51)) (P1_ : Nat → Prop) (A1 : Option Addr) (c1 : Nat) (l1 : List Int) (r : Bool) (w : World) (hs0 : Kd.V k51 51 w w.heap.size (fun k_ => P0_ k_) (.slice A0 l0.length c0) l0) (hs1 : Kd.V (Kd.int .i64) 3 w w.heap.size (fun k_ => P1_ k_) (.slice A1 l1.length c1) l1) (ht_ : r = true) (h : fencepostlaw09_BufSteps.f k l0 l1 = some r) :
    Calls Try.prog 12 #[.slice A0 l0.length c0, .slice A1 l1.length c1] w fun e w' => e = .returned (.bool r) ∧ Below w.heap.size w w' := by
  have HO0 := Aside0.mk (show Kd.V k51 51 w w.heap.size (fun k_ => ((P0_ k_ ∨ P1_ k_) ∨ w.heap.size ≤ k_)) (.slice A0 l0.length c0) l0 from Kd.V_mono hs0 (fun k_ hk => .inl (.inl hk)))
  have HO1 := Aside0.mk (show Kd.V (Kd.int .i64) 3 w w.heap.size (fun k_ => ((P0_ k_ ∨ P1_ k_) ∨ w.heap.size ≤ k_)) (.slice A1 l1.length c1) l1 from Kd.V_mono hs1 (fun k_ hk => .inl (.inr hk)))
  have HB := Aside0.mk (Below.refl w.heap.size w)
  have HT := Aside0.mk ht_
  clear ht_
  have H : ((fencepostlaw09_head.f k).bind fun t689 => ((fencepostlaw09_great.f l0 l1).bind fun t690 => (if t690 = true then (some t689) else ((buf_All.f k l0 l1).bind fun t691 => (fencepostlaw09_BufSteps.l0 k l0 t689 t691 l0 l1 0))))) = some r := h
  clear h
  replace H := Option.bind_eq_some_iff.mp H
  obtain ⟨t689, A30, H⟩ := H
  replace H : ((fencepostlaw09_great.f l0 l1).bind fun t690 => (if t690 = true then (some t689) else ((buf_All.f k l0 l1).bind fun t691 => (fencepostlaw09_BufSteps.l0 k l0 t689 t691 l0 l1 0)))) = some r := H
  have A3 := Aside0.mk A30
  clear A30
  replace H := Option.bind_eq_some_iff.mp H
  obtain ⟨t690, A40, H⟩ := H
  replace H : (if t690 = true then (some t689) else ((buf_All.f k l0 l1).bind fun t691 => (fencepostlaw09_BufSteps.l0 k l0 t689 t691 l0 l1 0))) = some r := H
  have A4 := Aside0.mk A40
  clear A40
  by_cases c5 : t690 = true
  · subst c5
    have H1 : (some t689) = some r := by rw [if_pos rfl] at H; exact H
    clear H
    have H := H1
    clear H1
    obtain rfl := Option.some.inj H
    go_enter Try.func12, Try.ntmps12
    (try simp only [List.append_eq, List.cons_append, List.nil_append])
    go_wp2_with (first | ((with_reducible refine gate_callee (f := 29) rfl ?_); refine goesL_ (some 13) rfl rfl Try.func29 (by kernel_rfl) rfl #[] rfl (by (try simp only [List.map_toArray, List.map_cons, List.map_nil]); first | done | rfl | (simp only [List.length_drop, List.length_take]; rfl)) ?_; (with_reducible refine (fencepostlaw09_head.calls k  t689 _ A3.out).mono ?_); rintro e w6 ⟨rfl, hb⟩; refine ⟨_, rfl, ?_⟩; have n0_ := Aside0.mk (Kd.V_below (by (with_reducible repeat (first | apply Kd.V_alloc | apply Kd.V_drewN | apply Kd.V_drew)); exact HO0.out) hb); have n1_ := Aside0.mk (Kd.V_below (by (with_reducible repeat (first | apply Kd.V_alloc | apply Kd.V_drewN | apply Kd.V_drew)); exact HO1.out) hb); have n2_ := Aside0.mk (below_step (by repeat (first | (with_reducible first | exact HB.out | apply below_alloc | apply pw_below_drewN | apply below_drew1) | exact HB.out)) hb); clear HO0; clear HO1; clear HB; have HO0 := n0_; have HO1 := n1_; have HB := n2_; clear n0_ n1_ n2_; (try clear hb); (try clear hb2); (try clear hk); (try clear hi)) | ((with_reducible refine gate_callee (f := 30) rfl ?_); refine goesL_ (some 16) rfl rfl Try.func30 (by kernel_rfl) rfl #[.slice A0 l0.length c0, .slice A1 l1.length c1] rfl (by (try simp only [List.map_toArray, List.map_cons, List.map_nil]); first | done | rfl | (simp only [List.length_drop, List.length_take]; rfl)) ?_; (with_reducible refine (fencepostlaw09_great.calls _ _ l0 _ _ l1 true _ ?side1 ?side2 ?side3 ?side4 A4.out).mono ?_); (case side1 => repeat (first | exact (Kd.V_reads' HO0.out).2.2 | (with_reducible refine Kd.C_alloc ?_ _) | (with_reducible refine Kd.C_drewN ?_ _) | (with_reducible refine Kd.C_drew ?_))); (case side2 => exact (Kd.V_reads' HO0.out).2.1); (case side3 => repeat (first | exact (Kd.V_reads' HO1.out).2.2 | (with_reducible refine Kd.C_alloc ?_ _) | (with_reducible refine Kd.C_drewN ?_ _) | (with_reducible refine Kd.C_drew ?_))); (case side4 => exact (Kd.V_reads' HO1.out).2.1); rintro e w' ⟨rfl, ⟨nd, rfl⟩⟩; refine ⟨_, rfl, ?_⟩))
    all_goals go_ret
    all_goals exact ⟨by first | rfl | (simp [errW_none, errW_some] <;> rfl) | (simp [*, errW_none, errW_some] <;> rfl), by repeat (first | (with_reducible first | exact HB.out | apply below_alloc | apply pw_below_drewN | apply below_drew1) | exact HB.out)⟩
  · replace c5 := Bool.eq_false_iff.mpr c5
    subst c5
    have H1 : ((buf_All.f k l0 l1).bind fun t691 => (fencepostlaw09_BufSteps.l0 k l0 t689 t691 l0 l1 0)) = some r := by rw [if_neg (show ¬ (false = true) by decide)] at H; exact H
    clear H
    have H := H1
    clear H1
    replace H := Option.bind_eq_some_iff.mp H
    obtain ⟨t691, A70, H⟩ := H
    replace H : (fencepostlaw09_BufSteps.l0 k l0 t689 t691 l0 l1 0) = some r := H
    have A7 := Aside0.mk A70
    clear A70
    have H' := Aside0.mk H
    clear H
    go_enter Try.func12, Try.ntmps12
    (try simp only [List.append_eq, List.cons_append, List.nil_append])
    go_wp2_with (first | ((with_reducible refine gate_callee (f := 29) rfl ?_); refine goesL_ (some 13) rfl rfl Try.func29 (by kernel_rfl) rfl #[] rfl (by (try simp only [List.map_toArray, List.map_cons, List.map_nil]); first | done | rfl | (simp only [List.length_drop, List.length_take]; rfl)) ?_; (with_reducible refine (fencepostlaw09_head.calls k  t689 _ A3.out).mono ?_); rintro e w8 ⟨rfl, hb⟩; refine ⟨_, rfl, ?_⟩; have n0_ := Aside0.mk (Kd.V_below (by (with_reducible repeat (first | apply Kd.V_alloc | apply Kd.V_drewN | apply Kd.V_drew)); exact HO0.out) hb); have n1_ := Aside0.mk (Kd.V_below (by (with_reducible repeat (first | apply Kd.V_alloc | apply Kd.V_drewN | apply Kd.V_drew)); exact HO1.out) hb); have n2_ := Aside0.mk (below_step (by repeat (first | (with_reducible first | exact HB.out | apply below_alloc | apply pw_below_drewN | apply below_drew1) | exact HB.out)) hb); clear HO0; clear HO1; clear HB; have HO0 := n0_; have HO1 := n1_; have HB := n2_; clear n0_ n1_ n2_; (try clear hb); (try clear hb2); (try clear hk); (try clear hi)) | ((with_reducible refine gate_callee (f := 30) rfl ?_); refine goesL_ (some 16) rfl rfl Try.func30 (by kernel_rfl) rfl #[.slice A0 l0.length c0, .slice A1 l1.length c1] rfl (by (try simp only [List.map_toArray, List.map_cons, List.map_nil]); first | done | rfl | (simp only [List.length_drop, List.length_take]; rfl)) ?_; (with_reducible refine (fencepostlaw09_great.calls _ _ l0 _ _ l1 false _ ?side1 ?side2 ?side3 ?side4 A4.out).mono ?_); (case side1 => repeat (first | exact (Kd.V_reads' HO0.out).2.2 | (with_reducible refine Kd.C_alloc ?_ _) | (with_reducible refine Kd.C_drewN ?_ _) | (with_reducible refine Kd.C_drew ?_))); (case side2 => exact (Kd.V_reads' HO0.out).2.1); (case side3 => repeat (first | exact (Kd.V_reads' HO1.out).2.2 | (with_reducible refine Kd.C_alloc ?_ _) | (with_reducible refine Kd.C_drewN ?_ _) | (with_reducible refine Kd.C_drew ?_))); (case side4 => exact (Kd.V_reads' HO1.out).2.1); rintro e w' ⟨rfl, ⟨nd, rfl⟩⟩; refine ⟨_, rfl, ?_⟩) | ((with_reducible refine gate_callee (f := 40) rfl ?_); refine goesL_ (some 20) rfl rfl Try.func40 (by kernel_rfl) rfl #[.slice A0 l0.length c0, .slice A1 l1.length c1] rfl (by (try simp only [List.map_toArray, List.map_cons, List.map_nil]); first | done | rfl | (simp only [List.length_drop, List.length_take]; rfl)) ?_; (with_reducible refine (buf_All.calls k (fun k_ => ((P0_ k_ ∨ P1_ k_) ∨ w.heap.size ≤ k_)) _ _ l0 _ _ l1 t691 _ ?side1 ?side2 ?side3 A7.out).mono ?_); (case side1 => exact HO0.out); (case side2 => repeat (first | exact (Kd.V_reads' HO1.out).2.2 | (with_reducible refine Kd.C_alloc ?_ _) | (with_reducible refine Kd.C_drewN ?_ _) | (with_reducible refine Kd.C_drew ?_))); (case side3 => exact (Kd.V_reads' HO1.out).2.1); rintro e w9 ⟨v692, rfl, ho0, hb⟩; refine ⟨_, rfl, ?_⟩; have n0_ := Aside0.mk (Kd.V_elder' (by (with_reducible repeat (first | apply Kd.V_alloc | apply Kd.V_drewN | apply Kd.V_drew)); exact HO0.out) (Kd.R_base ho0) hb); have n1_ := Aside0.mk (Kd.V_elder' (by (with_reducible repeat (first | apply Kd.V_alloc | apply Kd.V_drewN | apply Kd.V_drew)); exact HO1.out) (Kd.R_base ho0) hb); have n2_ := Aside0.mk (Kd.R_lower (Kd.R_newM (M := fun k_ => (w.heap.size ≤ k_)) (Kd.R_mono (ok' := fun k_ => True) ho0 (fun _ hk_ => trivial)) (below_size (by repeat (first | (with_reducible first | exact HB.out | apply below_alloc | apply pw_below_drewN | apply below_drew1) | exact HB.out))) (fun k_ h_ => h_)) (below_size (by repeat (first | (with_reducible first | exact HB.out | apply below_alloc | apply pw_below_drewN | apply below_drew1) | exact HB.out)))); have n3_ := Aside0.mk (below_step (by repeat (first | (with_reducible first | exact HB.out | apply below_alloc | apply pw_below_drewN | apply below_drew1) | exact HB.out)) hb); clear HO0; clear HO1; clear HB; have HO0 := n0_; have HO1 := n1_; have HO693 := n2_; have HB := n3_; clear n0_ n1_ n2_ n3_; (try clear hb); (try clear hb2); (try clear hk); (try clear hi); (try clear ho0)))
    go_loopg [7, 8, 9] k (fun kq v7 v8 v9 w' => ∃ (x7_1 : List (S51)) (x8_1 : List Int) (x9_1 : Int), v9 = .int .i64 x9_1 ∧ Aside0 (fencepostlaw09_BufSteps.l0 kq l0 t689 t691 x7_1 x8_1 x9_1 = some r) ∧ Aside0 (kq ≤ k) ∧ Aside0 (Kd.V k51 51 w' w.heap.size (fun k_ => ((P0_ k_ ∨ P1_ k_) ∨ w.heap.size ≤ k_) ∧ some k_ ≠ (v692 : Value).ownBlock) (.slice A0 l0.length c0) l0) ∧ Aside0 (Kd.R (Kd.int .i64) 3 w' w.heap.size (fun k_ => (w.heap.size ≤ k_)) v692 t691) ∧ Aside0 (Kd.V k51 51 w' w.heap.size (fun k_ => ((P0_ k_ ∨ P1_ k_) ∨ w.heap.size ≤ k_) ∧ some k_ ≠ (v692 : Value).ownBlock) v7 x7_1) ∧ Aside0 (Kd.V (Kd.int .i64) 3 w' w.heap.size (fun k_ => ((P0_ k_ ∨ P1_ k_) ∨ w.heap.size ≤ k_) ∧ some k_ ≠ (v692 : Value).ownBlock) v8 x8_1) ∧ Aside0 (Below w.heap.size w w'))
    case atStart => exact ⟨(l0), (l1), (0), (by first | rfl | (simp; done) | (simp [*]; done)), H', ⟨Nat.le_refl _⟩, ⟨by (with_reducible repeat (first | apply Kd.V_alloc | apply Kd.V_drewN | apply Kd.V_drew)); exact HO0.out⟩, ⟨by (with_reducible repeat (first | apply Kd.R_alloc | apply Kd.R_drewN | apply Kd.R_drew)); exact Kd.R_mono HO693.out (fun _ hk => hk.1)⟩, ⟨by (with_reducible repeat (first | apply Kd.V_alloc | apply Kd.V_drewN | apply Kd.V_drew)); exact HO0.out⟩, ⟨by (with_reducible repeat (first | apply Kd.V_alloc | apply Kd.V_drewN | apply Kd.V_drew)); exact HO1.out⟩, ⟨by repeat (first | (with_reducible first | exact HB.out | apply below_alloc | apply pw_below_drewN | apply below_drew1) | exact HB.out)⟩⟩
    case round =>
      clear H'
      try clear c1
      try clear c2
      try clear p2
      try clear c3
      try clear c4
      try clear c5
      obtain ⟨x7_1, x8_1, x9_1, rfl, HA, HK1, HO_0, HO_6, HO_7, HO_8, HB⟩ := hrel
      cases gk with
      | zero => exact absurd HA.out (by simp [fencepostlaw09_BufSteps.l0])
      | succ k1 =>
        have H := HA.out
        clear HA
        simp only [fencepostlaw09_BufSteps.l0] at H
        by_cases c10 : x9_1 ≤ (l0.length : Int)
        · rw [if_pos c10] at H
          have c10b0 : decide (x9_1 ≤ (l0.length : Int)) = true := decide_eq_true c10
          clear c10
          replace H := Option.bind_eq_some_iff.mp H
          obtain ⟨⟨t695, t696, t697⟩, A110, H⟩ := H
          replace H : (if t697 = true then (if (t695.length : Int) = (wrap64 ((x7_1.length : Int) - 1)) then ((buf_All.f k1 t695 t696).bind fun t705 => ((fencepostref07_SameInts.f k1 t705 t691).bind fun t708 => (if t708 = true then (if 1 ≤ (x7_1.length : Int) then ((fencepostref09_Same.f k1 t695 (x7_1.drop 1)).bind fun t714 => (if t714 = true then (fencepostlaw09_BufSteps.l0 k1 l0 t689 t691 t695 t696 (wrap64 (x9_1 + 1))) else (some false))) else (none)) else (some false)))) else (some false)) else ((fencepostref09_Same.f k1 x7_1 t695).bind fun t702 => (if t702 = true then ((fencepostref07_SameInts.f k1 x8_1 t696).bind fun t703 => (if t703 = true then (if t689 = true then ((fencepostref07_SameInts.f k1 x8_1 t691).bind fun t704 => (some t704)) else (some false)) else (some false))) else (some false)))) = some r := H
          have A11 := Aside0.mk A110
          clear A110
          by_cases c12 : t697 = true
          · subst c12
            have H1 : (if (t695.length : Int) = (wrap64 ((x7_1.length : Int) - 1)) then ((buf_All.f k1 t695 t696).bind fun t705 => ((fencepostref07_SameInts.f k1 t705 t691).bind fun t708 => (if t708 = true then (if 1 ≤ (x7_1.length : Int) then ((fencepostref09_Same.f k1 t695 (x7_1.drop 1)).bind fun t714 => (if t714 = true then (fencepostlaw09_BufSteps.l0 k1 l0 t689 t691 t695 t696 (wrap64 (x9_1 + 1))) else (some false))) else (none)) else (some false)))) else (some false)) = some r := by rw [if_pos rfl] at H; exact H
            clear H
            have H := H1
            clear H1
            by_cases c13 : (t695.length : Int) = (wrap64 ((x7_1.length : Int) - 1))
            · rw [if_pos c13] at H
              have c13b0 : ((t695.length : Int) == (wrap64 ((x7_1.length : Int) - 1))) = true := beq_iff_eq.mpr c13
              have c13b1 : ((t695.length : Int) != (wrap64 ((x7_1.length : Int) - 1))) = false := bne_eq_false_iff_eq.mpr c13
              clear c13
              replace H := Option.bind_eq_some_iff.mp H
              obtain ⟨t705, A140, H⟩ := H
              replace H : ((fencepostref07_SameInts.f k1 t705 t691).bind fun t708 => (if t708 = true then (if 1 ≤ (x7_1.length : Int) then ((fencepostref09_Same.f k1 t695 (x7_1.drop 1)).bind fun t714 => (if t714 = true then (fencepostlaw09_BufSteps.l0 k1 l0 t689 t691 t695 t696 (wrap64 (x9_1 + 1))) else (some false))) else (none)) else (some false))) = some r := H
              have A14 := Aside0.mk A140
              clear A140
              replace H := Option.bind_eq_some_iff.mp H
              obtain ⟨t708, A150, H⟩ := H
              replace H : (if t708 = true then (if 1 ≤ (x7_1.length : Int) then ((fencepostref09_Same.f k1 t695 (x7_1.drop 1)).bind fun t714 => (if t714 = true then (fencepostlaw09_BufSteps.l0 k1 l0 t689 t691 t695 t696 (wrap64 (x9_1 + 1))) else (some false))) else (none)) else (some false)) = some r := H
              have A15 := Aside0.mk A150
              clear A150
              by_cases c16 : t708 = true
              · subst c16
                have H1 : (if 1 ≤ (x7_1.length : Int) then ((fencepostref09_Same.f k1 t695 (x7_1.drop 1)).bind fun t714 => (if t714 = true then (fencepostlaw09_BufSteps.l0 k1 l0 t689 t691 t695 t696 (wrap64 (x9_1 + 1))) else (some false))) else (none)) = some r := by rw [if_pos rfl] at H; exact H
                clear H
                have H := H1
                clear H1
                by_cases c17 : 1 ≤ (x7_1.length : Int)
                · rw [if_pos c17] at H
                  have c17b0 := eq_true c17
                  have c17b1 : decide (1 ≤ (x7_1.length : Int)) = true := decide_eq_true c17
                  clear c17
                  obtain ⟨y709, hy709⟩ : ∃ y_ : List (S51), y_ = (x7_1.drop 1) := ⟨_, rfl⟩
                  replace H : ((fencepostref09_Same.f k1 t695 y709).bind fun t714 => (if t714 = true then (fencepostlaw09_BufSteps.l0 k1 l0 t689 t691 t695 t696 (wrap64 (x9_1 + 1))) else (some false))) = some r := by first | (rw [hy709]; with_reducible exact H) | (have H2_ := (Option.bind_some _ _).symm.trans H; rw [hy709]; with_reducible exact H2_) | (have H2_ := (Option.bind_some _ _).symm.trans H; with_reducible exact H2_) | with_reducible exact H | (rw [hy709]; exact H) | exact H
                  have Ny709 := Aside0.mk hy709
                  clear hy709
                  replace H := Option.bind_eq_some_iff.mp H
                  obtain ⟨t714, A180, H⟩ := H
                  replace H : (if t714 = true then (fencepostlaw09_BufSteps.l0 k1 l0 t689 t691 t695 t696 (wrap64 (x9_1 + 1))) else (some false)) = some r := H
                  have A18 := Aside0.mk A180
                  clear A180
                  by_cases c19 : t714 = true
                  · subst c19
                    have H1 : (fencepostlaw09_BufSteps.l0 k1 l0 t689 t691 t695 t696 (wrap64 (x9_1 + 1))) = some r := by rw [if_pos rfl] at H; exact H
                    clear H
                    have H := H1
                    clear H1
                    have H' := Aside0.mk H
                    clear H
                    obtain ⟨Ao20, co20, eo20⟩ := Kd.V_slice HO_7.out
                    subst eo20
                    obtain ⟨Ao21, co21, eo21⟩ := Kd.V_slice HO_8.out
                    subst eo21
                    go_wp2_with (first | ((with_reducible refine gate_callee (f := 35) rfl ?_); refine goesL_ (some 32) rfl rfl Try.func35 (by kernel_rfl) rfl #[.slice Ao20 x7_1.length co20, .slice Ao21 x8_1.length co21] rfl (by (try simp only [List.map_toArray, List.map_cons, List.map_nil]); first | done | rfl | (simp only [List.length_drop, List.length_take]; rfl)) ?_; (with_reducible refine (buf_Drain.calls k1 _ _ x7_1 _ _ x8_1 t695 t696 true _ ?side1 ?side2 ?side3 ?side4 A11.out).mono ?_); (case side1 => repeat (first | exact (Kd.V_reads' HO_7.out).2.2 | (with_reducible refine Kd.C_alloc ?_ _) | (with_reducible refine Kd.C_drewN ?_ _) | (with_reducible refine Kd.C_drew ?_))); (case side2 => exact (Kd.V_reads' HO_7.out).2.1); (case side3 => repeat (first | exact (Kd.V_reads' HO_8.out).2.2 | (with_reducible refine Kd.C_alloc ?_ _) | (with_reducible refine Kd.C_drewN ?_ _) | (with_reducible refine Kd.C_drew ?_))); (case side4 => exact (Kd.V_reads' HO_8.out).2.1); rintro e w22 ⟨v698, v700, rfl, ho0, ho1, hb⟩; refine ⟨_, rfl, ?_⟩; have n0_ := Aside0.mk (Kd.V_mono (Kd.V_told (Kd.V_told (Kd.V_old (by (with_reducible repeat (first | apply Kd.V_alloc | apply Kd.V_drewN | apply Kd.V_drew)); exact HO_0.out) hb) (Kd.R_base ho0)) (Kd.R_base ho1)) (fun _ h_ => h_.1)); have n1_ := Aside0.mk (Kd.R_elder' (by (with_reducible repeat (first | apply Kd.R_alloc | apply Kd.R_drewN | apply Kd.R_drew)); exact HO_6.out) (Kd.R_base ho1) hb); have n2_ := Aside0.mk (Kd.V_mono (Kd.V_told (Kd.V_told (Kd.V_old (by (with_reducible repeat (first | apply Kd.V_alloc | apply Kd.V_drewN | apply Kd.V_drew)); exact HO_7.out) hb) (Kd.R_base ho0)) (Kd.R_base ho1)) (fun _ h_ => h_.1)); have n3_ := Aside0.mk (Kd.V_mono (Kd.V_told (Kd.V_told (Kd.V_old (by (with_reducible repeat (first | apply Kd.V_alloc | apply Kd.V_drewN | apply Kd.V_drew)); exact HO_8.out) hb) (Kd.R_base ho0)) (Kd.R_base ho1)) (fun _ h_ => h_.1)); have n4_ := Aside0.mk (Kd.R_lower (Kd.R_newM (M := fun k_ => (w.heap.size ≤ k_)) ho0 (below_size (by repeat (first | (with_reducible first | exact HB.out | apply below_alloc | apply pw_below_drewN | apply below_drew1) | exact HB.out))) (fun k_ h_ => h_)) (below_size (by repeat (first | (with_reducible first | exact HB.out | apply below_alloc | apply pw_below_drewN | apply below_drew1) | exact HB.out)))); have n5_ := Aside0.mk (Kd.R_lower (Kd.R_new' (Kd.R_newM (M := fun k_ => (w.heap.size ≤ k_)) ho1 (below_size (by repeat (first | (with_reducible first | exact HB.out | apply below_alloc | apply pw_below_drewN | apply below_drew1) | exact HB.out))) (fun k_ h_ => h_)) (Kd.R_lt (by (with_reducible repeat (first | apply Kd.R_alloc | apply Kd.R_drewN | apply Kd.R_drew)); exact HO_6.out))) (below_size (by repeat (first | (with_reducible first | exact HB.out | apply below_alloc | apply pw_below_drewN | apply below_drew1) | exact HB.out)))); have n6_ := Aside0.mk (below_step (by repeat (first | (with_reducible first | exact HB.out | apply below_alloc | apply pw_below_drewN | apply below_drew1) | exact HB.out)) hb); clear HO_0; clear HO_6; clear HO_7; clear HO_8; clear HB; have HO_0 := n0_; have HO_6 := n1_; have HO_7 := n2_; have HO_8 := n3_; have HO699 := n4_; have HO701 := n5_; have HB := n6_; clear n0_ n1_ n2_ n3_ n4_ n5_ n6_; (try clear hb); (try clear hb2); (try clear hk); (try clear hi); (try clear ho0); (try clear ho1); obtain ⟨Ao23, co23, eo23⟩ := Kd.R_slice HO699.out; subst eo23; obtain ⟨Ao24, co24, eo24⟩ := Kd.R_slice HO701.out; subst eo24) | (go_at_call 40; (with_reducible refine (buf_All.calls k1 (fun k_ => some k_ = (.slice Ao23 t695.length co23 : Value).ownBlock) _ _ t695 _ _ t696 t705 _ ?side1 ?side2 ?side3 A14.out).mono ?_); (case side1 => exact Kd.R_V (Kd.R_tight rfl (Kd.R_apart' (Kd.R_apart' (HO699.out) (Kd.R_typed HO_6.out) (by decide)) (Kd.R_typed HO701.out) (by decide)))); (case side2 => repeat (first | exact (Kd.R_reads' HO701.out).2.2 | (with_reducible refine Kd.C_alloc ?_ _) | (with_reducible refine Kd.C_drewN ?_ _) | (with_reducible refine Kd.C_drew ?_))); (case side3 => exact (Kd.R_reads' HO701.out).2.1); rintro e w25 ⟨v706, rfl, ho0, hb⟩; have n0_ := Aside0.mk (Kd.V_elder' (by (with_reducible repeat (first | apply Kd.V_alloc | apply Kd.V_drewN | apply Kd.V_drew)); exact HO_0.out) (Kd.R_base ho0) hb); have n1_ := Aside0.mk (Kd.R_elder' (by (with_reducible repeat (first | apply Kd.R_alloc | apply Kd.R_drewN | apply Kd.R_drew)); exact HO_6.out) (Kd.R_base ho0) hb); have n2_ := Aside0.mk (Kd.V_elder' (by (with_reducible repeat (first | apply Kd.V_alloc | apply Kd.V_drewN | apply Kd.V_drew)); exact HO_7.out) (Kd.R_base ho0) hb); have n3_ := Aside0.mk (Kd.V_elder' (by (with_reducible repeat (first | apply Kd.V_alloc | apply Kd.V_drewN | apply Kd.V_drew)); exact HO_8.out) (Kd.R_base ho0) hb); have n4_ := Aside0.mk (Kd.R_below (by (with_reducible repeat (first | apply Kd.R_alloc | apply Kd.R_drewN | apply Kd.R_drew)); exact HO699.out) hb); have n5_ := Aside0.mk (Kd.R_elder' (by (with_reducible repeat (first | apply Kd.R_alloc | apply Kd.R_drewN | apply Kd.R_drew)); exact HO701.out) (Kd.R_base ho0) hb); have n6_ := Aside0.mk (Kd.R_lower (Kd.R_new' (Kd.R_new' (Kd.R_newM (M := fun k_ => (w.heap.size ≤ k_)) (Kd.R_mono (ok' := fun k_ => True) ho0 (fun _ hk_ => trivial)) (below_size (by repeat (first | (with_reducible first | exact HB.out | apply below_alloc | apply pw_below_drewN | apply below_drew1) | exact HB.out))) (fun k_ h_ => h_)) (Kd.R_lt (by (with_reducible repeat (first | apply Kd.R_alloc | apply Kd.R_drewN | apply Kd.R_drew)); exact HO_6.out))) (Kd.R_lt (by (with_reducible repeat (first | apply Kd.R_alloc | apply Kd.R_drewN | apply Kd.R_drew)); exact HO701.out))) (below_size (by repeat (first | (with_reducible first | exact HB.out | apply below_alloc | apply pw_below_drewN | apply below_drew1) | exact HB.out)))); have n7_ := Aside0.mk (below_step (by repeat (first | (with_reducible first | exact HB.out | apply below_alloc | apply pw_below_drewN | apply below_drew1) | exact HB.out)) hb); clear HO_0; clear HO_6; clear HO_7; clear HO_8; clear HO699; clear HO701; clear HB; have HO_0 := n0_; have HO_6 := n1_; have HO_7 := n2_; have HO_8 := n3_; have HO699 := n4_; have HO701 := n5_; have HO707 := n6_; have HB := n7_; clear n0_ n1_ n2_ n3_ n4_ n5_ n6_ n7_; (try clear hb); (try clear hb2); (try clear hk); (try clear hi); (try clear ho0); obtain ⟨Ao26, co26, eo26⟩ := Kd.R_slice HO707.out; subst eo26; obtain ⟨Ao27, co27, eo27⟩ := Kd.R_slice HO_6.out; subst eo27) | (go_at_call 19; (with_reducible refine (fencepostref07_SameInts.calls k1 _ _ t705 _ _ t691 true _ ?side1 ?side2 ?side3 ?side4 A15.out).mono ?_); (case side1 => repeat (first | exact (Kd.R_reads' HO707.out).2.2 | (with_reducible refine Kd.C_alloc ?_ _) | (with_reducible refine Kd.C_drewN ?_ _) | (with_reducible refine Kd.C_drew ?_))); (case side2 => exact (Kd.R_reads' HO707.out).2.1); (case side3 => repeat (first | exact (Kd.R_reads' HO_6.out).2.2 | (with_reducible refine Kd.C_alloc ?_ _) | (with_reducible refine Kd.C_drewN ?_ _) | (with_reducible refine Kd.C_drew ?_))); (case side4 => exact (Kd.R_reads' HO_6.out).2.1); rintro e w' ⟨rfl, ⟨nd, rfl⟩⟩; have q28 : (1 : Int) ≤ ((x7_1.length : Int) : Int) := of_decide_eq_true (by first | (with_reducible assumption) | assumption); obtain ⟨i028, hi028, _, hsz28, _⟩ := info_parts info51; have hroom28 : x7_1.length ≤ co20 := (Kd.V_reads' HO_7.out).2.1; have hC28 : Kd.F k51 _ _ Ao20 x7_1.length x7_1 := (Kd.V_at (base := w.heap.size) HO_7.out).2.2; have hcut28 := cut_from (P := Try.prog) 46 51 .i64 Try.underlying46 hi028 2 hsz28 Ao20 x7_1.length co20 1 (by omega) q28; have hr28 := Kd.F_cut (m := (1 : Int).toNat) (c := co20) hC28 (by omega) hroom28; obtain ⟨A28, hA28⟩ : ∃ A1, A1 = (if co20 = (1 : Int).toNat then Ao20 else (Ao20 : Option Addr).map (·.add ((1 : Int).toNat * 2))) := ⟨_, rfl⟩; obtain ⟨c28, hc28⟩ : ∃ c1, c1 = co20 - (1 : Int).toNat := ⟨_, rfl⟩; have hy28 : y709.length = x7_1.length - (1 : Int).toNat := (by rw [Ny709.out, List.length_drop] <;> omega); rw [show (x7_1).drop (1 : Int).toNat = y709 from Ny709.out.symm] at hr28; replace hr28 : Kd.F k51 _ _ A28 y709.length y709 := (by rw [hA28]; exact hr28); rw [← hy28, ← hA28, ← hc28] at hcut28; have HO713 := Aside0.mk (show Kd.V k51 51 _ w.heap.size _ (.slice A28 y709.length c28) y709 from Kd.V_mk (by rw [hy28, hc28]; exact Nat.sub_le_sub_right hroom28 _) hr28); have HC713 := Aside0.mk (show y709.length ≤ c28 from by rw [hy28, hc28]; exact Nat.sub_le_sub_right hroom28 _); clear hr28 hC28 hroom28 hi028 hsz28 hc28; have KY28 := Aside0.mk hy28; have KA28 := Aside0.mk hA28; clear hy28 hA28; replace q28 := eq_true q28) | (go_at_call 37; (with_reducible refine (fencepostref09_Same.calls k1 _ _ t695 _ _ y709 true _ ?side1 ?side2 ?side3 ?side4 A18.out).mono ?_); (case side1 => repeat (first | exact (Kd.R_reads' HO699.out).2.2 | (with_reducible refine Kd.C_alloc ?_ _) | (with_reducible refine Kd.C_drewN ?_ _) | (with_reducible refine Kd.C_drew ?_))); (case side2 => exact (Kd.R_reads' HO699.out).2.1); (case side3 => repeat (first | exact (Kd.V_reads' HO713.out).2.2 | (with_reducible refine Kd.C_alloc ?_ _) | (with_reducible refine Kd.C_drewN ?_ _) | (with_reducible refine Kd.C_drew ?_))); (case side4 => exact (Kd.V_reads' HO713.out).2.1); rintro e w' ⟨rfl, ⟨nd, rfl⟩⟩))
                    go_roundg k1
                    case measure => have := HK1.out; omega
                    case rel => exact ⟨(t695), (t696), (wrap64 (x9_1 + 1)), (by first | rfl | (simp; done) | (simp [*]; done)), H', ⟨by have := HK1.out; omega⟩, ⟨by (with_reducible repeat (first | apply Kd.V_alloc | apply Kd.V_drewN | apply Kd.V_drew)); exact Kd.V_mono HO_0.out (fun _ hk => ⟨hk.1.1.1.1, hk.1.1.1.2⟩)⟩, ⟨by (with_reducible repeat (first | apply Kd.R_alloc | apply Kd.R_drewN | apply Kd.R_drew)); exact Kd.R_mono HO_6.out (fun _ hk => hk.1.1)⟩, ⟨Kd.V_mono (Kd.R_V (by (with_reducible repeat (first | apply Kd.R_alloc | apply Kd.R_drewN | apply Kd.R_drew)); exact Kd.R_mono (ok' := fun k_ => w.heap.size ≤ k_ ∧ some k_ ≠ Value.ownBlock _) (Kd.R_apart' HO699.out (Kd.R_typed HO_6.out) (by decide)) (fun _ hk => ⟨hk.1.1, hk.2⟩))) (fun k_ hk => by first | exact ⟨(.inr (hk.1)), hk.2⟩ | exact (.inr (hk)))⟩, ⟨Kd.V_mono (Kd.R_V (by (with_reducible repeat (first | apply Kd.R_alloc | apply Kd.R_drewN | apply Kd.R_drew)); exact Kd.R_mono (ok' := fun k_ => w.heap.size ≤ k_ ∧ some k_ ≠ Value.ownBlock _) HO701.out (fun _ hk => ⟨hk.1.1.1, hk.1.2⟩))) (fun k_ hk => by first | exact ⟨(.inr (hk.1)), hk.2⟩ | exact (.inr (hk)))⟩, ⟨by repeat (first | (with_reducible first | exact HB.out | apply below_alloc | apply pw_below_drewN | apply below_drew1) | exact HB.out)⟩⟩
                  · replace c19 := Bool.eq_false_iff.mpr c19
                    subst c19
                    have H1 : (some false) = some r := by rw [if_neg (show ¬ (false = true) by decide)] at H; exact H
                    clear H
                    have H := H1
                    clear H1
                    exact absurd ((Option.some.inj H).trans HT.out) (by simp)
                · rw [if_neg c17] at H
                  exact absurd H (by simp)
              · replace c16 := Bool.eq_false_iff.mpr c16
                subst c16
                have H1 : (some false) = some r := by rw [if_neg (show ¬ (false = true) by decide)] at H; exact H
                clear H
                have H := H1
                clear H1
                exact absurd ((Option.some.inj H).trans HT.out) (by simp)
            · rw [if_neg c13] at H
              have c13b0 : ((t695.length : Int) == (wrap64 ((x7_1.length : Int) - 1))) = false := beq_eq_false_iff_ne.mpr c13
              have c13b1 : ((t695.length : Int) != (wrap64 ((x7_1.length : Int) - 1))) = true := bne_iff_ne.mpr c13
              exact absurd ((Option.some.inj H).trans HT.out) (by simp)
          · replace c12 := Bool.eq_false_iff.mpr c12
            subst c12
            have H1 : ((fencepostref09_Same.f k1 x7_1 t695).bind fun t702 => (if t702 = true then ((fencepostref07_SameInts.f k1 x8_1 t696).bind fun t703 => (if t703 = true then (if t689 = true then ((fencepostref07_SameInts.f k1 x8_1 t691).bind fun t704 => (some t704)) else (some false)) else (some false))) else (some false))) = some r := by rw [if_neg (show ¬ (false = true) by decide)] at H; exact H
            clear H
            have H := H1
            clear H1
            replace H := Option.bind_eq_some_iff.mp H
            obtain ⟨t702, A290, H⟩ := H
            replace H : (if t702 = true then ((fencepostref07_SameInts.f k1 x8_1 t696).bind fun t703 => (if t703 = true then (if t689 = true then ((fencepostref07_SameInts.f k1 x8_1 t691).bind fun t704 => (some t704)) else (some false)) else (some false))) else (some false)) = some r := H
            have A29 := Aside0.mk A290
            clear A290
            by_cases c30 : t702 = true
            · subst c30
              have H1 : ((fencepostref07_SameInts.f k1 x8_1 t696).bind fun t703 => (if t703 = true then (if t689 = true then ((fencepostref07_SameInts.f k1 x8_1 t691).bind fun t704 => (some t704)) else (some false)) else (some false))) = some r := by rw [if_pos rfl] at H; exact H
              clear H
              have H := H1
              clear H1
              replace H := Option.bind_eq_some_iff.mp H
              obtain ⟨t703, A310, H⟩ := H
              replace H : (if t703 = true then (if t689 = true then ((fencepostref07_SameInts.f k1 x8_1 t691).bind fun t704 => (some t704)) else (some false)) else (some false)) = some r := H
              have A31 := Aside0.mk A310
              clear A310
              by_cases c32 : t703 = true
              · subst c32
                have H1 : (if t689 = true then ((fencepostref07_SameInts.f k1 x8_1 t691).bind fun t704 => (some t704)) else (some false)) = some r := by rw [if_pos rfl] at H; exact H
                clear H
                have H := H1
                clear H1
                by_cases c33 : t689 = true
                · subst c33
                  have H1 : ((fencepostref07_SameInts.f k1 x8_1 t691).bind fun t704 => (some t704)) = some r := by rw [if_pos rfl] at H; exact H
                  clear H
                  have H := H1
                  clear H1
                  replace H := Option.bind_eq_some_iff.mp H
                  obtain ⟨t704, A340, H⟩ := H
                  replace H : (some t704) = some r := H
                  have A34 := Aside0.mk A340
                  clear A340
                  obtain rfl := Option.some.inj H
                  obtain ⟨Ao35, co35, eo35⟩ := Kd.V_slice HO_7.out
                  subst eo35
                  obtain ⟨Ao36, co36, eo36⟩ := Kd.V_slice HO_8.out
                  subst eo36
                  go_wp2_with (first | ((with_reducible refine gate_callee (f := 35) rfl ?_); refine goesL_ (some 32) rfl rfl Try.func35 (by kernel_rfl) rfl #[.slice Ao35 x7_1.length co35, .slice Ao36 x8_1.length co36] rfl (by (try simp only [List.map_toArray, List.map_cons, List.map_nil]); first | done | rfl | (simp only [List.length_drop, List.length_take]; rfl)) ?_; (with_reducible refine (buf_Drain.calls k1 _ _ x7_1 _ _ x8_1 t695 t696 false _ ?side1 ?side2 ?side3 ?side4 A11.out).mono ?_); (case side1 => repeat (first | exact (Kd.V_reads' HO_7.out).2.2 | (with_reducible refine Kd.C_alloc ?_ _) | (with_reducible refine Kd.C_drewN ?_ _) | (with_reducible refine Kd.C_drew ?_))); (case side2 => exact (Kd.V_reads' HO_7.out).2.1); (case side3 => repeat (first | exact (Kd.V_reads' HO_8.out).2.2 | (with_reducible refine Kd.C_alloc ?_ _) | (with_reducible refine Kd.C_drewN ?_ _) | (with_reducible refine Kd.C_drew ?_))); (case side4 => exact (Kd.V_reads' HO_8.out).2.1); rintro e w37 ⟨v698, v700, rfl, ho0, ho1, hb⟩; refine ⟨_, rfl, ?_⟩; have n0_ := Aside0.mk (Kd.V_mono (Kd.V_told (Kd.V_told (Kd.V_old (by (with_reducible repeat (first | apply Kd.V_alloc | apply Kd.V_drewN | apply Kd.V_drew)); exact HO_0.out) hb) (Kd.R_base ho0)) (Kd.R_base ho1)) (fun _ h_ => h_.1)); have n1_ := Aside0.mk (Kd.R_elder' (by (with_reducible repeat (first | apply Kd.R_alloc | apply Kd.R_drewN | apply Kd.R_drew)); exact HO_6.out) (Kd.R_base ho1) hb); have n2_ := Aside0.mk (Kd.V_mono (Kd.V_told (Kd.V_told (Kd.V_old (by (with_reducible repeat (first | apply Kd.V_alloc | apply Kd.V_drewN | apply Kd.V_drew)); exact HO_7.out) hb) (Kd.R_base ho0)) (Kd.R_base ho1)) (fun _ h_ => h_.1)); have n3_ := Aside0.mk (Kd.V_mono (Kd.V_told (Kd.V_told (Kd.V_old (by (with_reducible repeat (first | apply Kd.V_alloc | apply Kd.V_drewN | apply Kd.V_drew)); exact HO_8.out) hb) (Kd.R_base ho0)) (Kd.R_base ho1)) (fun _ h_ => h_.1)); have n4_ := Aside0.mk (Kd.R_lower (Kd.R_newM (M := fun k_ => (w.heap.size ≤ k_)) ho0 (below_size (by repeat (first | (with_reducible first | exact HB.out | apply below_alloc | apply pw_below_drewN | apply below_drew1) | exact HB.out))) (fun k_ h_ => h_)) (below_size (by repeat (first | (with_reducible first | exact HB.out | apply below_alloc | apply pw_below_drewN | apply below_drew1) | exact HB.out)))); have n5_ := Aside0.mk (Kd.R_lower (Kd.R_new' (Kd.R_newM (M := fun k_ => (w.heap.size ≤ k_)) ho1 (below_size (by repeat (first | (with_reducible first | exact HB.out | apply below_alloc | apply pw_below_drewN | apply below_drew1) | exact HB.out))) (fun k_ h_ => h_)) (Kd.R_lt (by (with_reducible repeat (first | apply Kd.R_alloc | apply Kd.R_drewN | apply Kd.R_drew)); exact HO_6.out))) (below_size (by repeat (first | (with_reducible first | exact HB.out | apply below_alloc | apply pw_below_drewN | apply below_drew1) | exact HB.out)))); have n6_ := Aside0.mk (below_step (by repeat (first | (with_reducible first | exact HB.out | apply below_alloc | apply pw_below_drewN | apply below_drew1) | exact HB.out)) hb); clear HO_0; clear HO_6; clear HO_7; clear HO_8; clear HB; have HO_0 := n0_; have HO_6 := n1_; have HO_7 := n2_; have HO_8 := n3_; have HO699 := n4_; have HO701 := n5_; have HB := n6_; clear n0_ n1_ n2_ n3_ n4_ n5_ n6_; (try clear hb); (try clear hb2); (try clear hk); (try clear hi); (try clear ho0); (try clear ho1); obtain ⟨Ao38, co38, eo38⟩ := Kd.R_slice HO699.out; subst eo38) | ((with_reducible refine gate_callee (f := 37) rfl ?_); refine goesL_ (some 40) rfl rfl Try.func37 (by kernel_rfl) rfl #[.slice Ao35 x7_1.length co35, .slice Ao38 t695.length co38] rfl (by (try simp only [List.map_toArray, List.map_cons, List.map_nil]); first | done | rfl | (simp only [List.length_drop, List.length_take]; rfl)) ?_; (with_reducible refine (fencepostref09_Same.calls k1 _ _ x7_1 _ _ t695 true _ ?side1 ?side2 ?side3 ?side4 A29.out).mono ?_); (case side1 => repeat (first | exact (Kd.V_reads' HO_7.out).2.2 | (with_reducible refine Kd.C_alloc ?_ _) | (with_reducible refine Kd.C_drewN ?_ _) | (with_reducible refine Kd.C_drew ?_))); (case side2 => exact (Kd.V_reads' HO_7.out).2.1); (case side3 => repeat (first | exact (Kd.R_reads' HO699.out).2.2 | (with_reducible refine Kd.C_alloc ?_ _) | (with_reducible refine Kd.C_drewN ?_ _) | (with_reducible refine Kd.C_drew ?_))); (case side4 => exact (Kd.R_reads' HO699.out).2.1); rintro e w' ⟨rfl, ⟨nd, rfl⟩⟩; refine ⟨_, rfl, ?_⟩; obtain ⟨Ao39, co39, eo39⟩ := Kd.R_slice HO701.out; subst eo39) | (go_at_call 19; (with_reducible refine (fencepostref07_SameInts.calls k1 _ _ x8_1 _ _ t696 true _ ?side1 ?side2 ?side3 ?side4 A31.out).mono ?_); (case side1 => repeat (first | exact (Kd.V_reads' HO_8.out).2.2 | (with_reducible refine Kd.C_alloc ?_ _) | (with_reducible refine Kd.C_drewN ?_ _) | (with_reducible refine Kd.C_drew ?_))); (case side2 => exact (Kd.V_reads' HO_8.out).2.1); (case side3 => repeat (first | exact (Kd.R_reads' HO701.out).2.2 | (with_reducible refine Kd.C_alloc ?_ _) | (with_reducible refine Kd.C_drewN ?_ _) | (with_reducible refine Kd.C_drew ?_))); (case side4 => exact (Kd.R_reads' HO701.out).2.1); rintro e w' ⟨rfl, ⟨nd, rfl⟩⟩; obtain ⟨Ao40, co40, eo40⟩ := Kd.R_slice HO_6.out; subst eo40) | (go_at_call 19; (with_reducible refine (fencepostref07_SameInts.calls k1 _ _ x8_1 _ _ t691 t704 _ ?side1 ?side2 ?side3 ?side4 A34.out).mono ?_); (case side1 => repeat (first | exact (Kd.V_reads' HO_8.out).2.2 | (with_reducible refine Kd.C_alloc ?_ _) | (with_reducible refine Kd.C_drewN ?_ _) | (with_reducible refine Kd.C_drew ?_))); (case side2 => exact (Kd.V_reads' HO_8.out).2.1); (case side3 => repeat (first | exact (Kd.R_reads' HO_6.out).2.2 | (with_reducible refine Kd.C_alloc ?_ _) | (with_reducible refine Kd.C_drewN ?_ _) | (with_reducible refine Kd.C_drew ?_))); (case side4 => exact (Kd.R_reads' HO_6.out).2.1); rintro e w' ⟨rfl, ⟨nd, rfl⟩⟩))
                  all_goals go_ret
                  all_goals exact ⟨by first | rfl | (simp [errW_none, errW_some] <;> rfl) | (simp [*, errW_none, errW_some] <;> rfl), by repeat (first | (with_reducible first | exact HB.out | apply below_alloc | apply pw_below_drewN | apply below_drew1) | exact HB.out)⟩
                · replace c33 := Bool.eq_false_iff.mpr c33
                  subst c33
                  have H1 : (some false) = some r := by rw [if_neg (show ¬ (false = true) by decide)] at H; exact H
                  clear H
                  have H := H1
                  clear H1
                  exact absurd ((Option.some.inj H).trans HT.out) (by simp)
              · replace c32 := Bool.eq_false_iff.mpr c32
                subst c32
                have H1 : (some false) = some r := by rw [if_neg (show ¬ (false = true) by decide)] at H; exact H
                clear H
                have H := H1
                clear H1
                exact absurd ((Option.some.inj H).trans HT.out) (by simp)
            · replace c30 := Bool.eq_false_iff.mpr c30
              subst c30
              have H1 : (some false) = some r := by rw [if_neg (show ¬ (false = true) by decide)] at H; exact H
              clear H
              have H := H1
              clear H1
              exact absurd ((Option.some.inj H).trans HT.out) (by simp)
        · rw [if_neg c10] at H
          have c10b0 : decide (x9_1 ≤ (l0.length : Int)) = false := decide_eq_false c10
          clear c10
          by_cases c41 : t689 = true
          · subst c41
            have H1 : ((fencepostref07_SameInts.f k1 x8_1 t691).bind fun t694 => (some t694)) = some r := by rw [if_pos rfl] at H; exact H
            clear H
            have H := H1
            clear H1
            replace H := Option.bind_eq_some_iff.mp H
            obtain ⟨t694, A420, H⟩ := H
            replace H : (some t694) = some r := H
            have A42 := Aside0.mk A420
            clear A420
            obtain rfl := Option.some.inj H
            obtain ⟨Ao43, co43, eo43⟩ := Kd.V_slice HO_8.out
            subst eo43
            obtain ⟨Ao44, co44, eo44⟩ := Kd.R_slice HO_6.out
            subst eo44
            go_wp2_with (first | (go_at_call 19; (with_reducible refine (fencepostref07_SameInts.calls k1 _ _ x8_1 _ _ t691 t694 _ ?side1 ?side2 ?side3 ?side4 A42.out).mono ?_); (case side1 => repeat (first | exact (Kd.V_reads' HO_8.out).2.2 | (with_reducible refine Kd.C_alloc ?_ _) | (with_reducible refine Kd.C_drewN ?_ _) | (with_reducible refine Kd.C_drew ?_))); (case side2 => exact (Kd.V_reads' HO_8.out).2.1); (case side3 => repeat (first | exact (Kd.R_reads' HO_6.out).2.2 | (with_reducible refine Kd.C_alloc ?_ _) | (with_reducible refine Kd.C_drewN ?_ _) | (with_reducible refine Kd.C_drew ?_))); (case side4 => exact (Kd.R_reads' HO_6.out).2.1); rintro e w' ⟨rfl, ⟨nd, rfl⟩⟩))
            all_goals go_ret
            all_goals exact ⟨by first | rfl | (simp [errW_none, errW_some] <;> rfl) | (simp [*, errW_none, errW_some] <;> rfl), by repeat (first | (with_reducible first | exact HB.out | apply below_alloc | apply pw_below_drewN | apply below_drew1) | exact HB.out)⟩
          · replace c41 := Bool.eq_false_iff.mpr c41
            subst c41
            have H1 : (some false) = some r := by rw [if_neg (show ¬ (false = true) by decide)] at H; exact H
            clear H
            have H := H1
            clear H1
            exact absurd ((Option.some.inj H).trans HT.out) (by simp)

end Go.Proofs.Ytpaifpnnjflnfaa.Print
