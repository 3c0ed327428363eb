-- Written by ownprint.py (this session's) with the kit's print.py: functions, contracts, rows; Lean checks it.
import Derived.Test.YtpaifpnnjflnfaaPrint0
import Derived.Test.YtpaifpnnjflnfaaPrint2
import Derived.Test.YtpaifpnnjflnfaaPrint15
import Derived.Test.YtpaifpnnjflnfaaPrint16
namespace Go.Proofs.Ytpaifpnnjflnfaa.Print
open Go.RowKit Go.Proofs.YtpaifpnnjflnfaaW.PrintWords Go.Proofs.YtpaifpnnjflnfaaW.PrintLast Go.Proofs.YtpaifpnnjflnfaaW.PrintMore
attribute [local go_sem] max2_int min2_int max_two min_two max_three min_three max_four min_four   -- for this text's walks alone
set_option linter.unusedVariables false
set_option linter.unusedSimpArgs false

/-! ### fencepostlaw09_BufParts: function 13 -/
mutual
def fencepostlaw09_BufParts.j0 : Nat → List (S51) → List (S51) → List Int → Bool → Bool → Option (Bool)
  | 0, _, _, _, _, _ => none
  | k + 1, x0, x1, x2, x7, x17 => if x17 = true then (some x7) else ((some (([] : List (S51)) : List (S51))).bind fun y718 => (if y718.length + x0.length < 8796093022208 then ((some (y718 ++ x0 : List (S51))).bind fun y721 => (if y721.length + x1.length < 8796093022208 then (fencepostlaw09_BufParts.l0 k x0 x1 x2 x7 (y721 ++ x1) 0) else (none))) else (none)))
def fencepostlaw09_BufParts.l0 : Nat → List (S51) → List (S51) → List Int → Bool → List (S51) → Int → Option (Bool)
  | 0, _, _, _, _, _, _ => none
  | k + 1, x0, x1, x2, x7, x8, x9 => if x9 < (x8.length : Int) then (if 0 ≤ x9 then (if ((rd_T51 x8 x9).f0) < 0 then (some x7) else (if ((rd_T51 x8 x9).f0) ≥ (x2.length : Int) then (some x7) else (fencepostlaw09_BufParts.l0 k x0 x1 x2 x7 x8 (wrap64 (x9 + 1))))) else (none)) else (if x7 = true then ((buf_All.f k x8 x2).bind fun t729 => ((buf_All.f k x0 x2).bind fun t732 => ((buf_All.f k x1 t732).bind fun t735 => ((fencepostref07_SameInts.f k t729 t735).bind fun t738 => (some t738))))) else (some false))
end
def fencepostlaw09_BufParts.f (k : Nat) (l0 : List (S51)) (l1 : List (S51)) (l2 : List Int) : Option (Bool) := (fencepostlaw09_head.f k).bind fun t715 => ((fencepostlaw09_great.f l0 l2).bind fun t716 => (if t716 = true then (fencepostlaw09_BufParts.j0 k l0 l1 l2 t715 true) else ((fencepostlaw09_great.f l1 ([] : List Int)).bind fun t717 => (fencepostlaw09_BufParts.j0 k l0 l1 l2 t715 t717))))
theorem fencepostlaw09_BufParts.mono_l : ∀ k, (∀ y0 y1 y2 y3 y4, LeO (fencepostlaw09_BufParts.j0 k y0 y1 y2 y3 y4) (fencepostlaw09_BufParts.j0 (k + 1) y0 y1 y2 y3 y4)) ∧ (∀ y0 y1 y2 y3 y4 y5, LeO (fencepostlaw09_BufParts.l0 k y0 y1 y2 y3 y4 y5) (fencepostlaw09_BufParts.l0 (k + 1) y0 y1 y2 y3 y4 y5))
  | 0 => ⟨fun _ _ _ _ _ r h => by simp [fencepostlaw09_BufParts.j0] at h, fun _ _ _ _ _ _ r h => by simp [fencepostlaw09_BufParts.l0] at h⟩
  | k + 1 => by
    obtain ⟨ih0, ih1⟩ := fencepostlaw09_BufParts.mono_l k
    refine ⟨?_, ?_⟩
    · intro y0 y1 y2 y3 y4
      unfold fencepostlaw09_BufParts.j0
      repeat' first
      | (with_reducible exact ih0 _ _ _ _ _)
      | (with_reducible exact ih1 _ _ _ _ _ _)
      | (with_reducible exact buf_All.mono _ _ _)
      | (with_reducible exact fencepostlaw09_head.mono _)
      | (with_reducible exact fencepostref07_SameInts.mono _ _ _)
      | (with_reducible exact LeO.refl _)
      | (with_reducible exact LeO.none _)
      | (with_reducible refine LeO.ite ?_ ?_)
      | (with_reducible refine LeO.bind ?_ (fun _ => ?_))
      | exact ih0 _ _ _ _ _
      | exact ih1 _ _ _ _ _ _
      | exact buf_All.mono _ _ _
      | exact fencepostlaw09_head.mono _
      | exact fencepostref07_SameInts.mono _ _ _
      | exact LeO.none _
      | refine LeO.ite ?_ ?_
      | refine LeO.bind ?_ (fun _ => ?_)
    · intro y0 y1 y2 y3 y4 y5
      unfold fencepostlaw09_BufParts.l0
      repeat' first
      | (with_reducible exact ih0 _ _ _ _ _)
      | (with_reducible exact ih1 _ _ _ _ _ _)
      | (with_reducible exact buf_All.mono _ _ _)
      | (with_reducible exact fencepostlaw09_head.mono _)
      | (with_reducible exact fencepostref07_SameInts.mono _ _ _)
      | (with_reducible exact LeO.refl _)
      | (with_reducible exact LeO.none _)
      | (with_reducible refine LeO.ite ?_ ?_)
      | (with_reducible refine LeO.bind ?_ (fun _ => ?_))
      | exact ih0 _ _ _ _ _
      | exact ih1 _ _ _ _ _ _
      | exact buf_All.mono _ _ _
      | exact fencepostlaw09_head.mono _
      | exact fencepostref07_SameInts.mono _ _ _
      | exact LeO.none _
      | refine LeO.ite ?_ ?_
      | refine LeO.bind ?_ (fun _ => ?_)
theorem fencepostlaw09_BufParts.mono : ∀ a0 a1 a2 k, LeO (fencepostlaw09_BufParts.f k a0 a1 a2) (fencepostlaw09_BufParts.f (k + 1) a0 a1 a2) := by
  intro a0 a1 a2 k
  obtain ⟨ih0, ih1⟩ := fencepostlaw09_BufParts.mono_l k
  unfold fencepostlaw09_BufParts.f
  repeat' first
      | (with_reducible exact ih0 _ _ _ _ _)
      | (with_reducible exact ih1 _ _ _ _ _ _)
      | (with_reducible exact buf_All.mono _ _ _)
      | (with_reducible exact fencepostlaw09_head.mono _)
      | (with_reducible exact fencepostref07_SameInts.mono _ _ _)
      | (with_reducible exact LeO.refl _)
      | (with_reducible exact LeO.none _)
      | (with_reducible refine LeO.ite ?_ ?_)
      | (with_reducible refine LeO.bind ?_ (fun _ => ?_))
      | exact ih0 _ _ _ _ _
      | exact ih1 _ _ _ _ _ _
      | exact buf_All.mono _ _ _
      | exact fencepostlaw09_head.mono _
      | exact fencepostref07_SameInts.mono _ _ _
      | exact LeO.none _
      | refine LeO.ite ?_ ?_
      | refine LeO.bind ?_ (fun _ => ?_)
set_option maxHeartbeats 8000000 in
set_option maxRecDepth 100000 in
theorem fencepostlaw09_BufParts.calls (k : Nat) (A0 : Option Addr) (c0 : Nat) (l0 : List (S51)) (A1 : Option Addr) (c1 : Nat) (l1 : List (S51)) (A2 : Option Addr) (c2 : Nat) (l2 : List Int) (r : Bool) (w : World) (hr0 : Kd.C k51 w A0 l0.length l0) (hc0 : l0.length ≤ c0) (hr1 : Kd.C k51 w A1 l1.length l1) (hc1 : l1.length ≤ c1) (hr2 : Kd.C (Kd.int .i64) w A2 l2.length l2) (hc2 : l2.length ≤ c2) (ht_ : r = true) (h : fencepostlaw09_BufParts.f k l0 l1 l2 = some r) :
    Calls Try.prog 13 #[.slice A0 l0.length c0, .slice A1 l1.length c1, .slice A2 l2.length c2] w fun e w' => e = .returned (.bool r) ∧ Below w.heap.size w w' := by
  have HR0 := Aside0.mk hr0
  have HC0 := Aside0.mk hc0
  clear hr0 hc0
  have HR1 := Aside0.mk hr1
  have HC1 := Aside0.mk hc1
  clear hr1 hc1
  have HR2 := Aside0.mk hr2
  have HC2 := Aside0.mk hc2
  clear hr2 hc2
  have HB := Aside0.mk (Below.refl w.heap.size w)
  have HT := Aside0.mk ht_
  clear ht_
  have H : ((fencepostlaw09_head.f k).bind fun t715 => ((fencepostlaw09_great.f l0 l2).bind fun t716 => (if t716 = true then (fencepostlaw09_BufParts.j0 k l0 l1 l2 t715 true) else ((fencepostlaw09_great.f l1 ([] : List Int)).bind fun t717 => (fencepostlaw09_BufParts.j0 k l0 l1 l2 t715 t717))))) = some r := h
  clear h
  replace H := Option.bind_eq_some_iff.mp H
  obtain ⟨t715, A40, H⟩ := H
  replace H : ((fencepostlaw09_great.f l0 l2).bind fun t716 => (if t716 = true then (fencepostlaw09_BufParts.j0 k l0 l1 l2 t715 true) else ((fencepostlaw09_great.f l1 ([] : List Int)).bind fun t717 => (fencepostlaw09_BufParts.j0 k l0 l1 l2 t715 t717)))) = some r := H
  have A4 := Aside0.mk A40
  clear A40
  have HC5 := Aside0.mk H
  clear H
  go_enter Try.func13, Try.ntmps13
  go_upto_region 2 with (first | ((with_reducible refine gate_callee (f := 29) rfl ?_); refine goesL_ (some 10) rfl rfl Try.func29 (by kernel_rfl) rfl #[] rfl (by (try simp only [List.map_toArray, List.map_cons, List.map_nil]); first | done | rfl | (simp only [List.length_drop, List.length_take]; rfl)) ?_; (with_reducible refine (fencepostlaw09_head.calls k  t715 _ A4.out).mono ?_); rintro e w6 ⟨rfl, hb⟩; refine ⟨_, rfl, ?_⟩; have n0_ := Aside0.mk (below_step (by repeat (first | (with_reducible first | exact HB.out | apply below_alloc | apply pw_below_drewN | apply below_drew1) | exact HB.out)) hb); clear HB; have HB := n0_; clear n0_; (try clear hb); (try clear hb2); (try clear hk); (try clear hi)))
  (try simp only [Act.put, List.setIfInBounds_toArray, List.set_cons_zero, List.set_cons_succ])
  go_cut [17] (fun v17 wc => ∃ (kq : Nat) (x17_4 : Bool), v17 = .bool x17_4 ∧ Aside0 (fencepostlaw09_BufParts.j0 kq l0 l1 l2 t715 x17_4 = some r) ∧ Aside0 (kq ≤ k) ∧ Aside0 (Below w.heap.size w wc))
  case first =>
    have H := HC5.out
    clear HC5
    replace H := Option.bind_eq_some_iff.mp H
    obtain ⟨t716, A70, H⟩ := H
    replace H : (if t716 = true then (fencepostlaw09_BufParts.j0 k l0 l1 l2 t715 true) else ((fencepostlaw09_great.f l1 ([] : List Int)).bind fun t717 => (fencepostlaw09_BufParts.j0 k l0 l1 l2 t715 t717))) = some r := H
    have A7 := Aside0.mk A70
    clear A70
    by_cases c8 : t716 = true
    · subst c8
      have H1 : (fencepostlaw09_BufParts.j0 k l0 l1 l2 t715 true) = some r := by rw [if_pos rfl] at H; exact H
      clear H
      have H := H1
      clear H1
      have H' := Aside0.mk H
      clear H
      go_wp2_with (first | ((with_reducible refine gate_callee (f := 30) rfl ?_); refine goesL_ (some 13) rfl rfl Try.func30 (by kernel_rfl) rfl #[.slice A0 l0.length c0, .slice A2 l2.length c2] rfl (by (try simp only [List.map_toArray, List.map_cons, List.map_nil]); first | done | rfl | (simp only [List.length_drop, List.length_take]; rfl)) ?_; (with_reducible refine (fencepostlaw09_great.calls _ _ l0 _ _ l2 true _ ?side1 ?side2 ?side3 ?side4 A7.out).mono ?_); (case side1 => repeat (first | exact (Kd.C_below HR0.out HB.out) | (with_reducible refine Kd.C_alloc ?_ _) | (with_reducible refine Kd.C_drewN ?_ _) | (with_reducible refine Kd.C_drew ?_))); (case side2 => exact HC0.out); (case side3 => repeat (first | exact (Kd.C_below HR2.out HB.out) | (with_reducible refine Kd.C_alloc ?_ _) | (with_reducible refine Kd.C_drewN ?_ _) | (with_reducible refine Kd.C_drew ?_))); (case side4 => exact HC2.out); rintro e w' ⟨rfl, ⟨nd, rfl⟩⟩; refine ⟨_, rfl, ?_⟩))
      go_meet
      case rel => exact ⟨_, (true), (by first | rfl | (simp; done) | (simp [*]; done)), H', ⟨by first | omega | exact Nat.le_refl _⟩, ⟨by repeat (first | (with_reducible first | exact HB.out | apply below_alloc | apply pw_below_drewN | apply below_drew1) | exact HB.out)⟩⟩
    · replace c8 := Bool.eq_false_iff.mpr c8
      subst c8
      have H1 : ((fencepostlaw09_great.f l1 ([] : List Int)).bind fun t717 => (fencepostlaw09_BufParts.j0 k l0 l1 l2 t715 t717)) = some r := by rw [if_neg (show ¬ (false = true) by decide)] at H; exact H
      clear H
      have H := H1
      clear H1
      replace H := Option.bind_eq_some_iff.mp H
      obtain ⟨t717, A90, H⟩ := H
      replace H : (fencepostlaw09_BufParts.j0 k l0 l1 l2 t715 t717) = some r := H
      have A9 := Aside0.mk A90
      clear A90
      have H' := Aside0.mk H
      clear H
      go_wp2_with (first | ((with_reducible refine gate_callee (f := 30) rfl ?_); refine goesL_ (some 13) rfl rfl Try.func30 (by kernel_rfl) rfl #[.slice A0 l0.length c0, .slice A2 l2.length c2] rfl (by (try simp only [List.map_toArray, List.map_cons, List.map_nil]); first | done | rfl | (simp only [List.length_drop, List.length_take]; rfl)) ?_; (with_reducible refine (fencepostlaw09_great.calls _ _ l0 _ _ l2 false _ ?side1 ?side2 ?side3 ?side4 A7.out).mono ?_); (case side1 => repeat (first | exact (Kd.C_below HR0.out HB.out) | (with_reducible refine Kd.C_alloc ?_ _) | (with_reducible refine Kd.C_drewN ?_ _) | (with_reducible refine Kd.C_drew ?_))); (case side2 => exact HC0.out); (case side3 => repeat (first | exact (Kd.C_below HR2.out HB.out) | (with_reducible refine Kd.C_alloc ?_ _) | (with_reducible refine Kd.C_drewN ?_ _) | (with_reducible refine Kd.C_drew ?_))); (case side4 => exact HC2.out); rintro e w' ⟨rfl, ⟨nd, rfl⟩⟩; refine ⟨_, rfl, ?_⟩) | (go_at_call 30; (refine (fencepostlaw09_great.calls _ _ l1 _ _ ([] : List Int) t717 _ ?side1 ?side2 ?side3 ?side4 A9.out).mono ?_); (case side1 => repeat (first | exact (Kd.C_below HR1.out (by repeat (first | (with_reducible first | exact HB.out | apply below_alloc | apply pw_below_drewN | apply below_drew1) | exact HB.out))) | (with_reducible refine Kd.C_alloc ?_ _) | (with_reducible refine Kd.C_drewN ?_ _) | (with_reducible refine Kd.C_drew ?_))); (case side2 => exact HC1.out); (case side3 => exact Kd.C_nil _ _); (case side4 => exact Nat.le_refl _); rintro e w' ⟨rfl, ⟨nd, rfl⟩⟩))
      go_meet
      case rel => exact ⟨_, (t717), (by first | rfl | (simp; done) | (simp [*]; done)), H', ⟨by first | omega | exact Nat.le_refl _⟩, ⟨by repeat (first | (with_reducible first | exact HB.out | apply below_alloc | apply pw_below_drewN | apply below_drew1) | exact HB.out)⟩⟩
  case rest =>
    clear HC5
    try clear c1
    try clear c2
    try clear p2
    try clear c3
    try clear c8
    obtain ⟨kq, x17_4, rfl, HA, HJ4, HB⟩ := hcut
    cases kq with
    | zero => exact absurd HA.out (by simp [fencepostlaw09_BufParts.j0])
    | succ kj4 =>
      have H := HA.out
      clear HA
      simp only [fencepostlaw09_BufParts.j0] at H
      by_cases c10 : x17_4 = true
      · subst c10
        have H1 : (some t715) = some r := by rw [if_pos rfl] at H; exact H
        clear H
        have H := H1
        clear H1
        obtain rfl := Option.some.inj H
        go_wp2
        go_ret
        exact ⟨by first | rfl | (simp [errW_none, errW_some] <;> rfl) | (simp [*, errW_none, errW_some] <;> rfl), by repeat (first | (with_reducible first | exact HB.out | apply below_alloc | apply pw_below_drewN | apply below_drew1) | exact HB.out)⟩
      · replace c10 := Bool.eq_false_iff.mpr c10
        subst c10
        have H1 : ((some (([] : List (S51)) : List (S51))).bind fun y718 => (if y718.length + l0.length < 8796093022208 then ((some (y718 ++ l0 : List (S51))).bind fun y721 => (if y721.length + l1.length < 8796093022208 then (fencepostlaw09_BufParts.l0 kj4 l0 l1 l2 t715 (y721 ++ l1) 0) else (none))) else (none))) = some r := by rw [if_neg (show ¬ (false = true) by decide)] at H; exact H
        clear H
        have H := H1
        clear H1
        obtain ⟨y718, hy718⟩ : ∃ y_ : List (S51), y_ = (([] : List (S51))) := ⟨_, rfl⟩
        replace H : (if y718.length + l0.length < 8796093022208 then ((some (y718 ++ l0 : List (S51))).bind fun y721 => (if y721.length + l1.length < 8796093022208 then (fencepostlaw09_BufParts.l0 kj4 l0 l1 l2 t715 (y721 ++ l1) 0) else (none))) else (none)) = some r := by first | (rw [hy718]; with_reducible exact H) | (have H2_ := (Option.bind_some _ _).symm.trans H; rw [hy718]; with_reducible exact H2_) | (have H2_ := (Option.bind_some _ _).symm.trans H; with_reducible exact H2_) | with_reducible exact H | (rw [hy718]; exact H) | exact H
        have Ny718 := Aside0.mk hy718
        clear hy718
        by_cases c11 : y718.length + l0.length < 8796093022208
        · rw [if_pos c11] at H
          have LMc11 := Aside0.mk c11
          clear c11
          obtain ⟨y721, hy721⟩ : ∃ y_ : List (S51), y_ = (y718 ++ l0) := ⟨_, rfl⟩
          replace H : (if y721.length + l1.length < 8796093022208 then (fencepostlaw09_BufParts.l0 kj4 l0 l1 l2 t715 (y721 ++ l1) 0) else (none)) = some r := by first | (rw [hy721]; with_reducible exact H) | (have H2_ := (Option.bind_some _ _).symm.trans H; rw [hy721]; with_reducible exact H2_) | (have H2_ := (Option.bind_some _ _).symm.trans H; with_reducible exact H2_) | with_reducible exact H | (rw [hy721]; exact H) | exact H
          have Ny721 := Aside0.mk hy721
          clear hy721
          by_cases c12 : y721.length + l1.length < 8796093022208
          · rw [if_pos c12] at H
            have LMc12 := Aside0.mk c12
            clear c12
            obtain ⟨y724, hy724⟩ : ∃ y_ : List (S51), y_ = (y721 ++ l1) := ⟨_, rfl⟩
            replace H : (fencepostlaw09_BufParts.l0 kj4 l0 l1 l2 t715 y724 0) = some r := by first | (rw [hy724]; with_reducible exact H) | (have H2_ := (Option.bind_some _ _).symm.trans H; rw [hy724]; with_reducible exact H2_) | (have H2_ := (Option.bind_some _ _).symm.trans H; with_reducible exact H2_) | with_reducible exact H | (rw [hy724]; exact H) | exact H
            have Ny724 := Aside0.mk hy724
            clear hy724
            have H' := Aside0.mk H
            clear H
            go_wp2_with (first | ((with_reducible refine gate_dst (N := 19) rfl ?_); (try (refine gate_guard (by rfl) ?_; dsimp only)); refine Kd.R_lit k51 _ 51 ?hg (N := 19) ?hd (xs := ([] : List (S51))) (inner := []) (ok := fun _ => True) (okp := fun _ => True) ?hr ?hp (fun _ hk => hk) trivial (Below.refl _ _) (Nat.le_refl _) (by simp) ?_; (case hd => rfl); (case hg => rfl); (case hr => first | (go_simp; done) | (go_simp; rfl)); (case hp => exact (Reps.none _ _)); intro v719 w13 ho14 hb hg_ hnew_; clear hg_ hnew_; (first | rw [← Ny718.out] at ho14 | (simp only [Int.reduceToNat] at ho14; rw [← Ny718.out] at ho14)); have n0_ := Aside0.mk (Kd.R_lower ho14 (below_size (by repeat (first | (with_reducible first | exact HB.out | apply below_alloc | apply pw_below_drewN | apply below_drew1) | exact HB.out)))); have n1_ := Aside0.mk (below_step (by repeat (first | (with_reducible first | exact HB.out | apply below_alloc | apply pw_below_drewN | apply below_drew1) | exact HB.out)) hb); clear HB; have HO720 := n0_; have HB := n1_; clear n0_ n1_; clear hb ho14) | ((with_reducible refine gate_builtin (b := .append) (xs := #[.tmp 19, .tmp 20]) rfl ?_); (try (refine gate_guard (by rfl) ?_; dsimp only)); at_builtin; refine Kd.R_append_rows k51 (w0 := w) w.heap.size rfl (.tmp 19) (.tmp 20) 46 51 (.agg #[(.int .i64 0), (.int .i64 0)]) 16 rfl Try.underlying46 info51 rfl (by decide) (by omega) v719 y718 l0 _ _ _ (fun _ => True) (fun _ => False) rfl rfl ?aO ?aR (fun _ _ h => h) (fun _ h => h.elim) ?aF ?aB ?aS ?aL ?_; (case aR => repeat (first | exact (Kd.C_below HR0.out HB.out) | (with_reducible refine Kd.C_alloc ?_ _) | (with_reducible refine Kd.C_drewN ?_ _) | (with_reducible refine Kd.C_drew ?_))); (case aB => exact (by repeat (first | (with_reducible first | exact HB.out | apply below_alloc | apply pw_below_drewN | apply below_drew1) | exact HB.out))); (case aF => exact (fun _ _ => trivial)); (case aO => exact (by (with_reducible repeat (first | apply Kd.R_alloc | apply Kd.R_drewN | apply Kd.R_drew)); exact HO720.out)); (case aS => exact (below_size (by repeat (first | (with_reducible first | exact HB.out | apply below_alloc | apply pw_below_drewN | apply below_drew1) | exact HB.out)))); (case aL => have := LMc11.out; omega); intro v722 w15 ho hb hg hat; rw [← Ny721.out] at ho; have n0_ := Aside0.mk (hb); have n1_ := Aside0.mk (ho); clear HB; clear HO720; have HB := n0_; have HO723 := n1_; clear n0_ n1_; clear ho hb hg hat) | ((with_reducible refine gate_builtin (b := .append) (xs := #[.tmp 21, .tmp 22]) rfl ?_); (try (refine gate_guard (by rfl) ?_; dsimp only)); at_builtin; refine Kd.R_append_rows k51 (w0 := w) w.heap.size rfl (.tmp 21) (.tmp 22) 46 51 (.agg #[(.int .i64 0), (.int .i64 0)]) 16 rfl Try.underlying46 info51 rfl (by decide) (by omega) v722 y721 l1 _ _ _ (fun _ => True) (fun _ => False) rfl rfl ?aO ?aR (fun _ _ h => h) (fun _ h => h.elim) ?aF ?aB ?aS ?aL ?_; (case aR => repeat (first | exact (Kd.C_below HR1.out HB.out) | (with_reducible refine Kd.C_alloc ?_ _) | (with_reducible refine Kd.C_drewN ?_ _) | (with_reducible refine Kd.C_drew ?_))); (case aB => exact (by repeat (first | (with_reducible first | exact HB.out | apply below_alloc | apply pw_below_drewN | apply below_drew1) | exact HB.out))); (case aF => exact (fun _ _ => trivial)); (case aO => exact (by (with_reducible repeat (first | apply Kd.R_alloc | apply Kd.R_drewN | apply Kd.R_drew)); exact HO723.out)); (case aS => exact (below_size (by repeat (first | (with_reducible first | exact HB.out | apply below_alloc | apply pw_below_drewN | apply below_drew1) | exact HB.out)))); (case aL => have := LMc12.out; omega); intro v725 w16 ho hb hg hat; rw [← Ny724.out] at ho; have n0_ := Aside0.mk (hb); have n1_ := Aside0.mk (ho); clear HB; clear HO723; have HB := n0_; have HO726 := n1_; clear n0_ n1_; clear ho hb hg hat))
            go_loopg [9] kj4 (fun kq v9 w' => ∃ (x9_2 : Int), v9 = .int .i64 x9_2 ∧ Aside0 (fencepostlaw09_BufParts.l0 kq l0 l1 l2 t715 y724 x9_2 = some r) ∧ Aside0 (kq ≤ kj4) ∧ Aside0 (Kd.R k51 51 w' w.heap.size (fun _ => True) v725 y724) ∧ Aside0 (Below w.heap.size w w'))
            case atStart => exact ⟨(0), (by first | rfl | (simp; done) | (simp [*]; done)), H', ⟨Nat.le_refl _⟩, ⟨by (with_reducible repeat (first | apply Kd.R_alloc | apply Kd.R_drewN | apply Kd.R_drew)); exact HO726.out⟩, ⟨by repeat (first | (with_reducible first | exact HB.out | apply below_alloc | apply pw_below_drewN | apply below_drew1) | exact HB.out)⟩⟩
            case round =>
              clear H'
              try clear c1
              try clear c2
              try clear p2
              try clear c3
              try clear c8
              try clear c10
              try clear c11
              try clear c12
              try clear c13
              try clear p2
              obtain ⟨x9_2, rfl, HA, HK2, HO_8, HB⟩ := hrel
              cases gk with
              | zero => exact absurd HA.out (by simp [fencepostlaw09_BufParts.l0])
              | succ k2 =>
                have H := HA.out
                clear HA
                simp only [fencepostlaw09_BufParts.l0] at H
                by_cases c17 : x9_2 < (y724.length : Int)
                · rw [if_pos c17] at H
                  have c17b0 : decide (x9_2 < (y724.length : Int)) = true := decide_eq_true c17
                  clear c17
                  by_cases c18 : 0 ≤ x9_2
                  · rw [if_pos c18] at H
                    have c18b0 : decide (0 ≤ x9_2) = true := decide_eq_true c18
                    clear c18
                    by_cases c19 : ((rd_T51 y724 x9_2).f0) < 0
                    · rw [if_pos c19] at H
                      have c19b0 : decide (((rd_T51 y724 x9_2).f0) < 0) = true := decide_eq_true c19
                      clear c19
                      obtain rfl := Option.some.inj H
                      obtain ⟨Ao20, co20, eo20⟩ := Kd.R_slice HO_8.out
                      subst eo20
                      have p727 : 0 ≤ (x9_2 : Int) := of_decide_eq_true (by first | (with_reducible assumption) | assumption)
                      have q727 : x9_2 < (y724.length : Int) := of_decide_eq_true (by first | (with_reducible assumption) | assumption)
                      obtain ⟨ad727, e727, hx727_0, hx727_1⟩ := at_T51 (Kd.R_reads' HO_8.out).2.2 x9_2 p727 q727
                      cases e727
                      replace p727 := eq_true p727
                      replace q727 := eq_true q727
                      go_wp2
                      go_ret
                      exact ⟨by first | rfl | (simp [errW_none, errW_some] <;> rfl) | (simp [*, errW_none, errW_some] <;> rfl), by repeat (first | (with_reducible first | exact HB.out | apply below_alloc | apply pw_below_drewN | apply below_drew1) | exact HB.out)⟩
                    · rw [if_neg c19] at H
                      have c19b0 : decide (((rd_T51 y724 x9_2).f0) < 0) = false := decide_eq_false c19
                      clear c19
                      by_cases c21 : ((rd_T51 y724 x9_2).f0) ≥ (l2.length : Int)
                      · rw [if_pos c21] at H
                        have c21b0 : decide ((l2.length : Int) ≤ ((rd_T51 y724 x9_2).f0)) = true := decide_eq_true c21
                        clear c21
                        obtain rfl := Option.some.inj H
                        obtain ⟨Ao22, co22, eo22⟩ := Kd.R_slice HO_8.out
                        subst eo22
                        have p727 : 0 ≤ (x9_2 : Int) := of_decide_eq_true (by first | (with_reducible assumption) | assumption)
                        have q727 : x9_2 < (y724.length : Int) := of_decide_eq_true (by first | (with_reducible assumption) | assumption)
                        obtain ⟨ad727, e727, hx727_0, hx727_1⟩ := at_T51 (Kd.R_reads' HO_8.out).2.2 x9_2 p727 q727
                        cases e727
                        replace p727 := eq_true p727
                        replace q727 := eq_true q727
                        have p728 : 0 ≤ (x9_2 : Int) := of_decide_eq_true (by first | (with_reducible assumption) | assumption)
                        have q728 : x9_2 < (y724.length : Int) := of_decide_eq_true (by first | (with_reducible assumption) | assumption)
                        obtain ⟨ad728, e728, hx728_0, hx728_1⟩ := at_T51 (Kd.R_reads' HO_8.out).2.2 x9_2 p728 q728
                        obtain rfl : ad727 = ad728 := (by injection e728)
                        replace p728 := eq_true p728
                        replace q728 := eq_true q728
                        go_wp2
                        go_ret
                        exact ⟨by first | rfl | (simp [errW_none, errW_some] <;> rfl) | (simp [*, errW_none, errW_some] <;> rfl), by repeat (first | (with_reducible first | exact HB.out | apply below_alloc | apply pw_below_drewN | apply below_drew1) | exact HB.out)⟩
                      · rw [if_neg c21] at H
                        have c21b0 : decide ((l2.length : Int) ≤ ((rd_T51 y724 x9_2).f0)) = false := decide_eq_false c21
                        clear c21
                        have H' := Aside0.mk H
                        clear H
                        obtain ⟨Ao23, co23, eo23⟩ := Kd.R_slice HO_8.out
                        subst eo23
                        have p727 : 0 ≤ (x9_2 : Int) := of_decide_eq_true (by first | (with_reducible assumption) | assumption)
                        have q727 : x9_2 < (y724.length : Int) := of_decide_eq_true (by first | (with_reducible assumption) | assumption)
                        obtain ⟨ad727, e727, hx727_0, hx727_1⟩ := at_T51 (Kd.R_reads' HO_8.out).2.2 x9_2 p727 q727
                        cases e727
                        replace p727 := eq_true p727
                        replace q727 := eq_true q727
                        have p728 : 0 ≤ (x9_2 : Int) := of_decide_eq_true (by first | (with_reducible assumption) | assumption)
                        have q728 : x9_2 < (y724.length : Int) := of_decide_eq_true (by first | (with_reducible assumption) | assumption)
                        obtain ⟨ad728, e728, hx728_0, hx728_1⟩ := at_T51 (Kd.R_reads' HO_8.out).2.2 x9_2 p728 q728
                        obtain rfl : ad727 = ad728 := (by injection e728)
                        replace p728 := eq_true p728
                        replace q728 := eq_true q728
                        go_wp2
                        go_roundg k2
                        case measure => have := HJ4.out; have := HK2.out; omega
                        case rel => exact ⟨(wrap64 (x9_2 + 1)), (by first | rfl | (simp; done) | (simp [*]; done)), H', ⟨by have := HJ4.out; have := HK2.out; omega⟩, ⟨by (with_reducible repeat (first | apply Kd.R_alloc | apply Kd.R_drewN | apply Kd.R_drew)); exact HO_8.out⟩, ⟨by repeat (first | (with_reducible first | exact HB.out | apply below_alloc | apply pw_below_drewN | apply below_drew1) | exact HB.out)⟩⟩
                  · rw [if_neg c18] at H
                    exact absurd H (by simp)
                · rw [if_neg c17] at H
                  have c17b0 : decide (x9_2 < (y724.length : Int)) = false := decide_eq_false c17
                  clear c17
                  by_cases c24 : t715 = true
                  · subst c24
                    have H1 : ((buf_All.f k2 y724 l2).bind fun t729 => ((buf_All.f k2 l0 l2).bind fun t732 => ((buf_All.f k2 l1 t732).bind fun t735 => ((fencepostref07_SameInts.f k2 t729 t735).bind fun t738 => (some t738))))) = some r := by rw [if_pos rfl] at H; exact H
                    clear H
                    have H := H1
                    clear H1
                    replace H := Option.bind_eq_some_iff.mp H
                    obtain ⟨t729, A250, H⟩ := H
                    replace H : ((buf_All.f k2 l0 l2).bind fun t732 => ((buf_All.f k2 l1 t732).bind fun t735 => ((fencepostref07_SameInts.f k2 t729 t735).bind fun t738 => (some t738)))) = some r := H
                    have A25 := Aside0.mk A250
                    clear A250
                    replace H := Option.bind_eq_some_iff.mp H
                    obtain ⟨t732, A260, H⟩ := H
                    replace H : ((buf_All.f k2 l1 t732).bind fun t735 => ((fencepostref07_SameInts.f k2 t729 t735).bind fun t738 => (some t738))) = some r := H
                    have A26 := Aside0.mk A260
                    clear A260
                    replace H := Option.bind_eq_some_iff.mp H
                    obtain ⟨t735, A270, H⟩ := H
                    replace H : ((fencepostref07_SameInts.f k2 t729 t735).bind fun t738 => (some t738)) = some r := H
                    have A27 := Aside0.mk A270
                    clear A270
                    replace H := Option.bind_eq_some_iff.mp H
                    obtain ⟨t738, A280, H⟩ := H
                    replace H : (some t738) = some r := H
                    have A28 := Aside0.mk A280
                    clear A280
                    obtain rfl := Option.some.inj H
                    obtain ⟨Ao29, co29, eo29⟩ := Kd.R_slice HO_8.out
                    subst eo29
                    go_wp2_with (first | (go_at_call 40; (with_reducible refine (buf_All.calls k2 (fun k_ => some k_ = (.slice Ao29 y724.length co29 : Value).ownBlock) _ _ y724 _ _ l2 t729 _ ?side1 ?side2 ?side3 A25.out).mono ?_); (case side1 => exact Kd.R_V (Kd.R_tight rfl (HO_8.out))); (case side2 => repeat (first | exact (Kd.C_below HR2.out HB.out) | (with_reducible refine Kd.C_alloc ?_ _) | (with_reducible refine Kd.C_drewN ?_ _) | (with_reducible refine Kd.C_drew ?_))); (case side3 => exact HC2.out); rintro e w30 ⟨v730, rfl, ho0, hb⟩; have n0_ := Aside0.mk (Kd.R_below (by (with_reducible repeat (first | apply Kd.R_alloc | apply Kd.R_drewN | apply Kd.R_drew)); exact HO_8.out) hb); have n1_ := Aside0.mk (Kd.R_lower (Kd.R_mono (ok' := fun k_ => True) ho0 (fun _ hk_ => trivial)) (below_size (by repeat (first | (with_reducible first | exact HB.out | apply below_alloc | apply pw_below_drewN | apply below_drew1) | exact HB.out)))); have n2_ := Aside0.mk (below_step (by repeat (first | (with_reducible first | exact HB.out | apply below_alloc | apply pw_below_drewN | apply below_drew1) | exact HB.out)) hb); clear HO_8; clear HB; have HO_8 := n0_; have HO731 := n1_; have HB := n2_; clear n0_ n1_ n2_; (try clear hb); (try clear hb2); (try clear hk); (try clear hi); (try clear ho0)) | (go_at_call 40; (with_reducible refine (buf_All.calls k2 (fun k_ => k_ < w.heap.size) _ _ l0 _ _ l2 t732 _ ?side1 ?side2 ?side3 A26.out).mono ?_); (case side1 => exact Kd.V_mk HC0.out (Kd.F_below (Kd.C_F k51_heap HR0.out) (by repeat (first | (with_reducible first | exact HB.out | apply below_alloc | apply pw_below_drewN | apply below_drew1) | exact HB.out)))); (case side2 => repeat (first | exact (Kd.C_below HR2.out HB.out) | (with_reducible refine Kd.C_alloc ?_ _) | (with_reducible refine Kd.C_drewN ?_ _) | (with_reducible refine Kd.C_drew ?_))); (case side3 => exact HC2.out); rintro e w31 ⟨v733, rfl, ho0, hb⟩; have n0_ := Aside0.mk (Kd.R_below (by (with_reducible repeat (first | apply Kd.R_alloc | apply Kd.R_drewN | apply Kd.R_drew)); exact HO_8.out) hb); have n1_ := Aside0.mk (Kd.R_elder' (by (with_reducible repeat (first | apply Kd.R_alloc | apply Kd.R_drewN | apply Kd.R_drew)); exact HO731.out) (Kd.R_base ho0) hb); have n2_ := Aside0.mk (Kd.R_lower (Kd.R_new' (Kd.R_mono (ok' := fun k_ => True) ho0 (fun _ hk_ => trivial)) (Kd.R_lt (by (with_reducible repeat (first | apply Kd.R_alloc | apply Kd.R_drewN | apply Kd.R_drew)); exact HO731.out))) (below_size (by repeat (first | (with_reducible first | exact HB.out | apply below_alloc | apply pw_below_drewN | apply below_drew1) | exact HB.out)))); have n3_ := Aside0.mk (below_step (by repeat (first | (with_reducible first | exact HB.out | apply below_alloc | apply pw_below_drewN | apply below_drew1) | exact HB.out)) hb); clear HO_8; clear HO731; clear HB; have HO_8 := n0_; have HO731 := n1_; have HO734 := n2_; have HB := n3_; clear n0_ n1_ n2_ n3_; (try clear hb); (try clear hb2); (try clear hk); (try clear hi); (try clear ho0); obtain ⟨Ao32, co32, eo32⟩ := Kd.R_slice HO734.out; subst eo32) | (go_at_call 40; (with_reducible refine (buf_All.calls k2 (fun k_ => k_ < w.heap.size) _ _ l1 _ _ t732 t735 _ ?side1 ?side2 ?side3 A27.out).mono ?_); (case side1 => exact Kd.V_mk HC1.out (Kd.F_below (Kd.C_F k51_heap HR1.out) (by repeat (first | (with_reducible first | exact HB.out | apply below_alloc | apply pw_below_drewN | apply below_drew1) | exact HB.out)))); (case side2 => repeat (first | exact (Kd.R_reads' HO734.out).2.2 | (with_reducible refine Kd.C_alloc ?_ _) | (with_reducible refine Kd.C_drewN ?_ _) | (with_reducible refine Kd.C_drew ?_))); (case side3 => exact (Kd.R_reads' HO734.out).2.1); rintro e w33 ⟨v736, rfl, ho0, hb⟩; have n0_ := Aside0.mk (Kd.R_below (by (with_reducible repeat (first | apply Kd.R_alloc | apply Kd.R_drewN | apply Kd.R_drew)); exact HO_8.out) hb); have n1_ := Aside0.mk (Kd.R_elder' (by (with_reducible repeat (first | apply Kd.R_alloc | apply Kd.R_drewN | apply Kd.R_drew)); exact HO731.out) (Kd.R_base ho0) hb); have n2_ := Aside0.mk (Kd.R_elder' (by (with_reducible repeat (first | apply Kd.R_alloc | apply Kd.R_drewN | apply Kd.R_drew)); exact HO734.out) (Kd.R_base ho0) hb); have n3_ := Aside0.mk (Kd.R_lower (Kd.R_new' (Kd.R_new' (Kd.R_mono (ok' := fun k_ => True) ho0 (fun _ hk_ => trivial)) (Kd.R_lt (by (with_reducible repeat (first | apply Kd.R_alloc | apply Kd.R_drewN | apply Kd.R_drew)); exact HO731.out))) (Kd.R_lt (by (with_reducible repeat (first | apply Kd.R_alloc | apply Kd.R_drewN | apply Kd.R_drew)); exact HO734.out))) (below_size (by repeat (first | (with_reducible first | exact HB.out | apply below_alloc | apply pw_below_drewN | apply below_drew1) | exact HB.out)))); have n4_ := Aside0.mk (below_step (by repeat (first | (with_reducible first | exact HB.out | apply below_alloc | apply pw_below_drewN | apply below_drew1) | exact HB.out)) hb); clear HO_8; clear HO731; clear HO734; clear HB; have HO_8 := n0_; have HO731 := n1_; have HO734 := n2_; have HO737 := n3_; have HB := n4_; clear n0_ n1_ n2_ n3_ n4_; (try clear hb); (try clear hb2); (try clear hk); (try clear hi); (try clear ho0); obtain ⟨Ao34, co34, eo34⟩ := Kd.R_slice HO731.out; subst eo34; obtain ⟨Ao35, co35, eo35⟩ := Kd.R_slice HO737.out; subst eo35) | (go_at_call 19; (with_reducible refine (fencepostref07_SameInts.calls k2 _ _ t729 _ _ t735 t738 _ ?side1 ?side2 ?side3 ?side4 A28.out).mono ?_); (case side1 => repeat (first | exact (Kd.R_reads' HO731.out).2.2 | (with_reducible refine Kd.C_alloc ?_ _) | (with_reducible refine Kd.C_drewN ?_ _) | (with_reducible refine Kd.C_drew ?_))); (case side2 => exact (Kd.R_reads' HO731.out).2.1); (case side3 => repeat (first | exact (Kd.R_reads' HO737.out).2.2 | (with_reducible refine Kd.C_alloc ?_ _) | (with_reducible refine Kd.C_drewN ?_ _) | (with_reducible refine Kd.C_drew ?_))); (case side4 => exact (Kd.R_reads' HO737.out).2.1); rintro e w' ⟨rfl, ⟨nd, rfl⟩⟩))
                    go_ret
                    exact ⟨by first | rfl | (simp [errW_none, errW_some] <;> rfl) | (simp [*, errW_none, errW_some] <;> rfl), by repeat (first | (with_reducible first | exact HB.out | apply below_alloc | apply pw_below_drewN | apply below_drew1) | exact HB.out)⟩
                  · replace c24 := Bool.eq_false_iff.mpr c24
                    subst c24
                    have H1 : (some false) = some r := by rw [if_neg (show ¬ (false = true) by decide)] at H; exact H
                    clear H
                    have H := H1
                    clear H1
                    exact absurd ((Option.some.inj H).trans HT.out) (by simp)
          · rw [if_neg c12] at H
            exact absurd H (by simp)
        · rw [if_neg c11] at H
          exact absurd H (by simp)

end Go.Proofs.Ytpaifpnnjflnfaa.Print
