-- Written by ownprint.py (this session's) with the kit's print.py: functions, contracts, rows; Lean checks it.
import Derived.Test.YtpaifpnnjflnfaaPrint0
import Derived.Test.YtpaifpnnjflnfaaPrint2
import Derived.Test.YtpaifpnnjflnfaaPrint5
import Derived.Test.YtpaifpnnjflnfaaHCfg
namespace Go.Proofs.Ytpaifpnnjflnfaa.Print
open Go.RowKit Go.Proofs.YtpaifpnnjflnfaaW.PrintWords Go.Proofs.YtpaifpnnjflnfaaW.PrintLast Go.Proofs.YtpaifpnnjflnfaaW.PrintMore
attribute [local go_sem] max2_int min2_int max_two min_two max_three min_three max_four min_four   -- for this text's walks alone
set_option linter.unusedVariables false
set_option linter.unusedSimpArgs false

/-! ### fencepostlaw18_CfgFences: function 8 -/
mutual
def fencepostlaw18_CfgFences.j0 : Nat → List (S33) → Int → Int → Int → Bool → Bool → Option (Bool)
  | 0, _, _, _, _, _, _ => none
  | k + 1, x0, x1, x2, x3, x9, x25 => if x25 = true then (some x9) else (if (x0.length : Int) = 0 then (none) else (if (wrap64 ((x0.length : Int) + 1)) = 0 then (none) else (fencepostlaw18_CfgFences.l0 k x0 x9 (Int.tmod (wrap64 (x2)) (x0.length : Int)) (Int.tmod (wrap64 (x3)) (wrap64 ((x0.length : Int) + 1))) (Int.tmod (wrap64 (x1)) (x0.length : Int)) false false 0)))
def fencepostlaw18_CfgFences.l0 : Nat → List (S33) → Bool → Int → Int → Int → Bool → Bool → Int → Option (Bool)
  | 0, _, _, _, _, _, _, _, _ => none
  | k + 1, x0, x9, x10, x11, x12, x13, x14, x15 => if x15 < (x0.length : Int) then (if x13 = true then (if x14 = true then (fencepostlaw18_CfgFences.l0 k x0 x9 x10 x11 x12 true true (wrap64 (x15 + 1))) else (if 0 ≤ x15 then (fencepostlaw18_CfgFences.l0 k x0 x9 x10 x11 x12 true (decide (((rd_T33 x0 x15).f0) ≥ 8)) (wrap64 (x15 + 1))) else (none))) else (if 0 ≤ x15 then ((fencepostref18_Drains.f ((rd_T33 x0 x15).f0) ((rd_T33 x0 x15).f1) ((rd_T33 x0 x15).f2) ((rd_T33 x0 x15).f3) ((rd_T33 x0 x15).f4)).bind fun t489 => (if x14 = true then (fencepostlaw18_CfgFences.l0 k x0 x9 x10 x11 x12 t489 true (wrap64 (x15 + 1))) else (fencepostlaw18_CfgFences.l0 k x0 x9 x10 x11 x12 t489 (decide (((rd_T33 x0 x15).f0) ≥ 8)) (wrap64 (x15 + 1))))) else (none))) else (if x13 = true then (fencepostlaw18_CfgFences.j2 k x0 x9 x10 x11 x12 x14 false) else ((cfg_Free.f x0 x10 x11).bind fun t491 => ((cfg_Reach.f x0 x10 x11).bind fun t492 => (fencepostlaw18_CfgFences.j2 k x0 x9 x10 x11 x12 x14 (t491 != t492)))))
def fencepostlaw18_CfgFences.j2 : Nat → List (S33) → Bool → Int → Int → Int → Bool → Bool → Option (Bool)
  | 0, _, _, _, _, _, _, _ => none
  | k + 1, x0, x9, x10, x11, x12, x14, x78 => if x78 = true then (some false) else (if x14 = true then (some x9) else ((some (([] : List (S33)) : List (S33))).bind fun y493 => (if 0 ≤ x12 then (if x12 ≤ (x0.length : Int) then ((some (x0.take (x12 : Int).toNat : List (S33))).bind fun y496 => (if y493.length + y496.length < 3518437208883 then ((some (y493 ++ y496 : List (S33))).bind fun y500 => ((some (([(⟨6, 0, 0, 0, 0⟩ : S33)] : List (S33)) : List (S33))).bind fun y503 => (if y500.length + y503.length < 3518437208883 then ((some (y500 ++ y503 : List (S33))).bind fun y506 => (if 0 ≤ (wrap64 (x12 + 1)) then (if (wrap64 (x12 + 1)) ≤ (x0.length : Int) then ((some (x0.drop ((wrap64 (x12 + 1)) : Int).toNat : List (S33))).bind fun y509 => (if y506.length + y509.length < 3518437208883 then ((some (y506 ++ y509 : List (S33))).bind fun y513 => (if x9 = true then ((cfg_Reach.f y513 x10 x11).bind fun t516 => (if (t516 == (decide (x10 < x11))) = true then (if x10 ≥ x12 then (some true) else (if x12 ≥ x11 then (some true) else ((cfg_Free.f y513 x10 x11).bind fun t517 => (some (!t517))))) else (some false))) else (some false))) else (none))) else (none)) else (none))) else (none)))) else (none))) else (none)) else (none))))
end
def fencepostlaw18_CfgFences.f (k : Nat) (l0 : List (S33)) (a1 : Int) (a2 : Int) (a3 : Int) : Option (Bool) := (fencepostlaw18_head.f k).bind fun t485 => ((fencepostlaw18_Good.f k l0).bind fun t486 => (if t486 = true then (fencepostlaw18_CfgFences.j0 k l0 a1 a2 a3 t485 ((l0.length : Int) == 0)) else (fencepostlaw18_CfgFences.j0 k l0 a1 a2 a3 t485 true)))
theorem fencepostlaw18_CfgFences.mono_l : ∀ k, (∀ y0 y1 y2 y3 y4 y5, LeO (fencepostlaw18_CfgFences.j0 k y0 y1 y2 y3 y4 y5) (fencepostlaw18_CfgFences.j0 (k + 1) y0 y1 y2 y3 y4 y5)) ∧ (∀ y0 y1 y2 y3 y4 y5 y6 y7, LeO (fencepostlaw18_CfgFences.l0 k y0 y1 y2 y3 y4 y5 y6 y7) (fencepostlaw18_CfgFences.l0 (k + 1) y0 y1 y2 y3 y4 y5 y6 y7)) ∧ (∀ y0 y1 y2 y3 y4 y5 y6, LeO (fencepostlaw18_CfgFences.j2 k y0 y1 y2 y3 y4 y5 y6) (fencepostlaw18_CfgFences.j2 (k + 1) y0 y1 y2 y3 y4 y5 y6))
  | 0 => ⟨fun _ _ _ _ _ _ r h => by simp [fencepostlaw18_CfgFences.j0] at h, fun _ _ _ _ _ _ _ _ r h => by simp [fencepostlaw18_CfgFences.l0] at h, fun _ _ _ _ _ _ _ r h => by simp [fencepostlaw18_CfgFences.j2] at h⟩
  | k + 1 => by
    obtain ⟨ih0, ih1, ih2⟩ := fencepostlaw18_CfgFences.mono_l k
    refine ⟨?_, ?_, ?_⟩
    · intro y0 y1 y2 y3 y4 y5
      unfold fencepostlaw18_CfgFences.j0
      repeat' first
      | (with_reducible exact ih0 _ _ _ _ _ _)
      | (with_reducible exact ih1 _ _ _ _ _ _ _ _)
      | (with_reducible exact ih2 _ _ _ _ _ _ _)
      | (with_reducible exact fencepostlaw18_Good.mono _ _)
      | (with_reducible exact fencepostlaw18_head.mono _)
      | (with_reducible exact LeO.refl _)
      | (with_reducible exact LeO.none _)
      | (with_reducible refine LeO.ite ?_ ?_)
      | (with_reducible refine LeO.bind ?_ (fun _ => ?_))
      | exact ih0 _ _ _ _ _ _
      | exact ih1 _ _ _ _ _ _ _ _
      | exact ih2 _ _ _ _ _ _ _
      | exact fencepostlaw18_Good.mono _ _
      | exact fencepostlaw18_head.mono _
      | exact LeO.none _
      | refine LeO.ite ?_ ?_
      | refine LeO.bind ?_ (fun _ => ?_)
    · intro y0 y1 y2 y3 y4 y5 y6 y7
      unfold fencepostlaw18_CfgFences.l0
      repeat' first
      | (with_reducible exact ih0 _ _ _ _ _ _)
      | (with_reducible exact ih1 _ _ _ _ _ _ _ _)
      | (with_reducible exact ih2 _ _ _ _ _ _ _)
      | (with_reducible exact fencepostlaw18_Good.mono _ _)
      | (with_reducible exact fencepostlaw18_head.mono _)
      | (with_reducible exact LeO.refl _)
      | (with_reducible exact LeO.none _)
      | (with_reducible refine LeO.ite ?_ ?_)
      | (with_reducible refine LeO.bind ?_ (fun _ => ?_))
      | exact ih0 _ _ _ _ _ _
      | exact ih1 _ _ _ _ _ _ _ _
      | exact ih2 _ _ _ _ _ _ _
      | exact fencepostlaw18_Good.mono _ _
      | exact fencepostlaw18_head.mono _
      | exact LeO.none _
      | refine LeO.ite ?_ ?_
      | refine LeO.bind ?_ (fun _ => ?_)
    · intro y0 y1 y2 y3 y4 y5 y6
      unfold fencepostlaw18_CfgFences.j2
      repeat' first
      | (with_reducible exact ih0 _ _ _ _ _ _)
      | (with_reducible exact ih1 _ _ _ _ _ _ _ _)
      | (with_reducible exact ih2 _ _ _ _ _ _ _)
      | (with_reducible exact fencepostlaw18_Good.mono _ _)
      | (with_reducible exact fencepostlaw18_head.mono _)
      | (with_reducible exact LeO.refl _)
      | (with_reducible exact LeO.none _)
      | (with_reducible refine LeO.ite ?_ ?_)
      | (with_reducible refine LeO.bind ?_ (fun _ => ?_))
      | exact ih0 _ _ _ _ _ _
      | exact ih1 _ _ _ _ _ _ _ _
      | exact ih2 _ _ _ _ _ _ _
      | exact fencepostlaw18_Good.mono _ _
      | exact fencepostlaw18_head.mono _
      | exact LeO.none _
      | refine LeO.ite ?_ ?_
      | refine LeO.bind ?_ (fun _ => ?_)
theorem fencepostlaw18_CfgFences.mono : ∀ a0 a1 a2 a3 k, LeO (fencepostlaw18_CfgFences.f k a0 a1 a2 a3) (fencepostlaw18_CfgFences.f (k + 1) a0 a1 a2 a3) := by
  intro a0 a1 a2 a3 k
  obtain ⟨ih0, ih1, ih2⟩ := fencepostlaw18_CfgFences.mono_l k
  unfold fencepostlaw18_CfgFences.f
  repeat' first
      | (with_reducible exact ih0 _ _ _ _ _ _)
      | (with_reducible exact ih1 _ _ _ _ _ _ _ _)
      | (with_reducible exact ih2 _ _ _ _ _ _ _)
      | (with_reducible exact fencepostlaw18_Good.mono _ _)
      | (with_reducible exact fencepostlaw18_head.mono _)
      | (with_reducible exact LeO.refl _)
      | (with_reducible exact LeO.none _)
      | (with_reducible refine LeO.ite ?_ ?_)
      | (with_reducible refine LeO.bind ?_ (fun _ => ?_))
      | exact ih0 _ _ _ _ _ _
      | exact ih1 _ _ _ _ _ _ _ _
      | exact ih2 _ _ _ _ _ _ _
      | exact fencepostlaw18_Good.mono _ _
      | exact fencepostlaw18_head.mono _
      | exact LeO.none _
      | refine LeO.ite ?_ ?_
      | refine LeO.bind ?_ (fun _ => ?_)
def fencepostlaw18_CfgFences.T18 : Bool × List (List Nat × List Nat) := (true, [([], []), ([], []), ([], []), ([1, 2], [1, 2]), ([0, 3], [0, 3]), ([], []), ([5], [5]), ([4, 6, 4], [4, 6]), ([], []), ([], []), ([9], [9]), ([8, 10], [8, 10]), ([7, 11, 7], [7, 11]), ([12, 12, 0, 1, 2, 3, 4, 5, 6, 7, 8, 9, 10, 11, 12], [12])])
def fencepostlaw18_CfgFences.B18 : List Nat := [0, 0, 0, 6, 15, 0, 32, 127, 0, 0, 512, 1792, 4095, 8191]
theorem fencepostlaw18_CfgFences.tab18 : rtab .any (opsOf Try.f8 18) = fencepostlaw18_CfgFences.T18 := by kernel_rfl
theorem fencepostlaw18_CfgFences.bits18 : waitsOk fencepostlaw18_CfgFences.T18.2 fencepostlaw18_CfgFences.B18 = true := by kernel_rfl
set_option maxHeartbeats 8000000 in
set_option maxRecDepth 100000 in
theorem fencepostlaw18_CfgFences.calls (k : Nat) (A0 : Option Addr) (c0 : Nat) (l0 : List (S33)) (a1 : Int) (a2 : Int) (a3 : Int) (r : Bool) (w : World) (hr0 : Kd.C k33 w A0 l0.length l0) (hc0 : l0.length ≤ c0) (ht_ : r = true) (h : fencepostlaw18_CfgFences.f k l0 a1 a2 a3 = some r) :
    Calls Try.prog 8 #[.slice A0 l0.length c0, .int .u8 a1, .int .u8 a2, .int .u8 a3] w fun e w' => e = .returned (.bool r) ∧ Below w.heap.size w w' := by
  have hu33 := Try.underlying33
  have HR0 := Aside0.mk hr0
  have HC0 := Aside0.mk hc0
  clear hr0 hc0
  have HB := Aside0.mk (Below.refl w.heap.size w)
  have HT := Aside0.mk ht_
  clear ht_
  have H : ((fencepostlaw18_head.f k).bind fun t485 => ((fencepostlaw18_Good.f k l0).bind fun t486 => (if t486 = true then (fencepostlaw18_CfgFences.j0 k l0 a1 a2 a3 t485 ((l0.length : Int) == 0)) else (fencepostlaw18_CfgFences.j0 k l0 a1 a2 a3 t485 true)))) = some r := h
  clear h
  replace H := Option.bind_eq_some_iff.mp H
  obtain ⟨t485, A50, H⟩ := H
  replace H : ((fencepostlaw18_Good.f k l0).bind fun t486 => (if t486 = true then (fencepostlaw18_CfgFences.j0 k l0 a1 a2 a3 t485 ((l0.length : Int) == 0)) else (fencepostlaw18_CfgFences.j0 k l0 a1 a2 a3 t485 true))) = some r := H
  have A5 := Aside0.mk A50
  clear A50
  have HC6 := Aside0.mk H
  clear H
  go_enter Try.func8, Try.ntmps8
  (try simp only [List.append_eq, List.cons_append, List.nil_append])
  go_upto_region 2 with (first | ((with_reducible refine gate_callee (f := 15) rfl ?_); refine goesL_ (some 17) rfl rfl Try.func15 (by kernel_rfl) rfl #[] rfl (by (try simp only [List.map_toArray, List.map_cons, List.map_nil]); first | done | rfl | (simp only [List.length_drop, List.length_take]; rfl)) ?_; (with_reducible refine (fencepostlaw18_head.calls k  t485 _ A5.out).mono ?_); rintro e w7 ⟨rfl, hb⟩; refine ⟨_, rfl, ?_⟩; have n0_ := Aside0.mk (below_step (by repeat (first | (with_reducible first | exact HB.out | apply below_alloc | apply pw_below_drewN | apply below_drew1) | exact HB.out)) hb); clear HB; have HB := n0_; clear n0_; (try clear hb); (try clear hb2); (try clear hk); (try clear hi)))
  (try simp only [Act.put, List.setIfInBounds_toArray, List.set_cons_zero, List.set_cons_succ])
  go_cut [25] (fun v25 wc => ∃ (kq : Nat) (x25_5 : Bool), v25 = .bool x25_5 ∧ Aside0 (fencepostlaw18_CfgFences.j0 kq l0 a1 a2 a3 t485 x25_5 = some r) ∧ Aside0 (kq ≤ k) ∧ Aside0 (Below w.heap.size w wc))
  case first =>
    have H := HC6.out
    clear HC6
    replace H := Option.bind_eq_some_iff.mp H
    obtain ⟨t486, A80, H⟩ := H
    replace H : (if t486 = true then (fencepostlaw18_CfgFences.j0 k l0 a1 a2 a3 t485 ((l0.length : Int) == 0)) else (fencepostlaw18_CfgFences.j0 k l0 a1 a2 a3 t485 true)) = some r := H
    have A8 := Aside0.mk A80
    clear A80
    by_cases c9 : t486 = true
    · subst c9
      have H1 : (fencepostlaw18_CfgFences.j0 k l0 a1 a2 a3 t485 ((l0.length : Int) == 0)) = some r := by rw [if_pos rfl] at H; exact H
      clear H
      have H := H1
      clear H1
      have H' := Aside0.mk H
      clear H
      go_wp2_with (first | ((with_reducible refine gate_callee (f := 16) rfl ?_); refine goesL_ (some 19) rfl rfl Try.func16 (by kernel_rfl) rfl #[.slice A0 l0.length c0] rfl (by (try simp only [List.map_toArray, List.map_cons, List.map_nil]); first | done | rfl | (simp only [List.length_drop, List.length_take]; rfl)) ?_; (with_reducible refine (fencepostlaw18_Good.calls k (fun k_ => k_ < w.heap.size) _ _ l0 true _ ?side1 A8.out).mono ?_); (case side1 => exact Kd.V_mk HC0.out (Kd.F_below (Kd.C_F k33_heap HR0.out) (by repeat (first | (with_reducible first | exact HB.out | apply below_alloc | apply pw_below_drewN | apply below_drew1) | exact HB.out)))); rintro e w10 ⟨rfl, hb⟩; refine ⟨_, rfl, ?_⟩; have n0_ := Aside0.mk (below_step (by repeat (first | (with_reducible first | exact HB.out | apply below_alloc | apply pw_below_drewN | apply below_drew1) | exact HB.out)) hb); clear HB; have HB := n0_; clear n0_; (try clear hb); (try clear hb2); (try clear hk); (try clear hi)))
      go_meet
      case rel => exact ⟨_, (((l0.length : Int) == 0)), (by first | rfl | (simp; done) | (simp [*]; done)), H', ⟨by first | omega | exact Nat.le_refl _⟩, ⟨by repeat (first | (with_reducible first | exact HB.out | apply below_alloc | apply pw_below_drewN | apply below_drew1) | exact HB.out)⟩⟩
    · replace c9 := Bool.eq_false_iff.mpr c9
      subst c9
      have H1 : (fencepostlaw18_CfgFences.j0 k l0 a1 a2 a3 t485 true) = some r := by rw [if_neg (show ¬ (false = true) by decide)] at H; exact H
      clear H
      have H := H1
      clear H1
      have H' := Aside0.mk H
      clear H
      go_wp2_with (first | ((with_reducible refine gate_callee (f := 16) rfl ?_); refine goesL_ (some 19) rfl rfl Try.func16 (by kernel_rfl) rfl #[.slice A0 l0.length c0] rfl (by (try simp only [List.map_toArray, List.map_cons, List.map_nil]); first | done | rfl | (simp only [List.length_drop, List.length_take]; rfl)) ?_; (with_reducible refine (fencepostlaw18_Good.calls k (fun k_ => k_ < w.heap.size) _ _ l0 false _ ?side1 A8.out).mono ?_); (case side1 => exact Kd.V_mk HC0.out (Kd.F_below (Kd.C_F k33_heap HR0.out) (by repeat (first | (with_reducible first | exact HB.out | apply below_alloc | apply pw_below_drewN | apply below_drew1) | exact HB.out)))); rintro e w11 ⟨rfl, hb⟩; refine ⟨_, rfl, ?_⟩; have n0_ := Aside0.mk (below_step (by repeat (first | (with_reducible first | exact HB.out | apply below_alloc | apply pw_below_drewN | apply below_drew1) | exact HB.out)) hb); clear HB; have HB := n0_; clear n0_; (try clear hb); (try clear hb2); (try clear hk); (try clear hi)))
      go_meet
      case rel => exact ⟨_, (true), (by first | rfl | (simp; done) | (simp [*]; done)), H', ⟨by first | omega | exact Nat.le_refl _⟩, ⟨by repeat (first | (with_reducible first | exact HB.out | apply below_alloc | apply pw_below_drewN | apply below_drew1) | exact HB.out)⟩⟩
  case rest =>
    clear HC6
    try clear c1
    try clear p2
    try clear c8
    try clear c9
    obtain ⟨kq, x25_5, rfl, HA, HJ5, HB⟩ := hcut
    cases kq with
    | zero => exact absurd HA.out (by simp [fencepostlaw18_CfgFences.j0])
    | succ kj5 =>
      have H := HA.out
      clear HA
      simp only [fencepostlaw18_CfgFences.j0] at H
      by_cases c12 : x25_5 = true
      · subst c12
        have H1 : (some t485) = some r := by rw [if_pos rfl] at H; exact H
        clear H
        have H := H1
        clear H1
        obtain rfl := Option.some.inj H
        go_wp2
        go_ret
        exact ⟨by first | rfl | (simp [errW_none, errW_some] <;> rfl) | (simp [*, errW_none, errW_some] <;> rfl), by repeat (first | (with_reducible first | exact HB.out | apply below_alloc | apply pw_below_drewN | apply below_drew1) | exact HB.out)⟩
      · replace c12 := Bool.eq_false_iff.mpr c12
        subst c12
        have H1 : (if (l0.length : Int) = 0 then (none) else (if (wrap64 ((l0.length : Int) + 1)) = 0 then (none) else (fencepostlaw18_CfgFences.l0 kj5 l0 t485 (Int.tmod (wrap64 (a2)) (l0.length : Int)) (Int.tmod (wrap64 (a3)) (wrap64 ((l0.length : Int) + 1))) (Int.tmod (wrap64 (a1)) (l0.length : Int)) false false 0))) = some r := by rw [if_neg (show ¬ (false = true) by decide)] at H; exact H
        clear H
        have H := H1
        clear H1
        by_cases c13 : (l0.length : Int) = 0
        · rw [if_pos c13] at H
          exact absurd H (by simp)
        · rw [if_neg c13] at H
          have c13b0 : ((l0.length : Int) == 0) = false := beq_eq_false_iff_ne.mpr c13
          have c13b1 : ((l0.length : Int) != 0) = true := bne_iff_ne.mpr c13
          have c13b2 : ¬ (l0 = []) := fun h_ => c13 (by rw [h_]; rfl)
          by_cases c14 : (wrap64 ((l0.length : Int) + 1)) = 0
          · rw [if_pos c14] at H
            exact absurd H (by simp)
          · rw [if_neg c14] at H
            have c14b0 : ((wrap64 ((l0.length : Int) + 1)) == 0) = false := beq_eq_false_iff_ne.mpr c14
            have c14b1 : ((wrap64 ((l0.length : Int) + 1)) != 0) = true := bne_iff_ne.mpr c14
            have H' := Aside0.mk H
            clear H
            go_wp2
            go_loopg [13, 14, 15] kj5 (fun kq v13 v14 v15 w' => ∃ (x13_2 : Bool) (x14_2 : Bool) (x15_2 : Int), v13 = .bool x13_2 ∧ v14 = .bool x14_2 ∧ v15 = .int .i64 x15_2 ∧ Aside0 (fencepostlaw18_CfgFences.l0 kq l0 t485 (Int.tmod (wrap64 (a2)) (l0.length : Int)) (Int.tmod (wrap64 (a3)) (wrap64 ((l0.length : Int) + 1))) (Int.tmod (wrap64 (a1)) (l0.length : Int)) x13_2 x14_2 x15_2 = some r) ∧ Aside0 (kq ≤ kj5) ∧ Aside0 (Below w.heap.size w w'))
            case atStart => exact ⟨(false), (false), (0), (by first | rfl | (simp; done) | (simp [*]; done)), (by first | rfl | (simp; done) | (simp [*]; done)), (by first | rfl | (simp; done) | (simp [*]; done)), H', ⟨Nat.le_refl _⟩, ⟨by repeat (first | (with_reducible first | exact HB.out | apply below_alloc | apply pw_below_drewN | apply below_drew1) | exact HB.out)⟩⟩
            case round =>
              clear H'
              try clear c1
              try clear p2
              try clear p6
              try clear c8
              try clear c9
              try clear c12
              try clear c13
              try clear c13b0
              try clear c13b1
              try clear c13b2
              try clear c14
              try clear c14b0
              try clear c14b1
              try clear p2
              obtain ⟨x13_2, x14_2, x15_2, rfl, rfl, rfl, HA, HK2, HB⟩ := hrel
              cases gk with
              | zero => exact absurd HA.out (by simp [fencepostlaw18_CfgFences.l0])
              | succ k2 =>
                have H := HA.out
                clear HA
                simp only [fencepostlaw18_CfgFences.l0] at H
                by_cases c15 : x15_2 < (l0.length : Int)
                · rw [if_pos c15] at H
                  have c15b0 : decide (x15_2 < (l0.length : Int)) = true := decide_eq_true c15
                  clear c15
                  by_cases c16 : x13_2 = true
                  · subst c16
                    have H1 : (if x14_2 = true then (fencepostlaw18_CfgFences.l0 k2 l0 t485 (Int.tmod (wrap64 (a2)) (l0.length : Int)) (Int.tmod (wrap64 (a3)) (wrap64 ((l0.length : Int) + 1))) (Int.tmod (wrap64 (a1)) (l0.length : Int)) true true (wrap64 (x15_2 + 1))) else (if 0 ≤ x15_2 then (fencepostlaw18_CfgFences.l0 k2 l0 t485 (Int.tmod (wrap64 (a2)) (l0.length : Int)) (Int.tmod (wrap64 (a3)) (wrap64 ((l0.length : Int) + 1))) (Int.tmod (wrap64 (a1)) (l0.length : Int)) true (decide (((rd_T33 l0 x15_2).f0) ≥ 8)) (wrap64 (x15_2 + 1))) else (none))) = some r := by rw [if_pos rfl] at H; exact H
                    clear H
                    have H := H1
                    clear H1
                    by_cases c17 : x14_2 = true
                    · subst c17
                      have H1 : (fencepostlaw18_CfgFences.l0 k2 l0 t485 (Int.tmod (wrap64 (a2)) (l0.length : Int)) (Int.tmod (wrap64 (a3)) (wrap64 ((l0.length : Int) + 1))) (Int.tmod (wrap64 (a1)) (l0.length : Int)) true true (wrap64 (x15_2 + 1))) = some r := by rw [if_pos rfl] at H; exact H
                      clear H
                      have H := H1
                      clear H1
                      have H' := Aside0.mk H
                      clear H
                      go_wp2
                      go_roundg k2
                      case measure => have := HJ5.out; have := HK2.out; omega
                      case rel => exact ⟨(true), (true), (wrap64 (x15_2 + 1)), (by first | rfl | (simp; done) | (simp [*]; done)), (by first | rfl | (simp; done) | (simp [*]; done)), (by first | rfl | (simp; done) | (simp [*]; done)), H', ⟨by have := HJ5.out; have := HK2.out; omega⟩, ⟨by repeat (first | (with_reducible first | exact HB.out | apply below_alloc | apply pw_below_drewN | apply below_drew1) | exact HB.out)⟩⟩
                    · replace c17 := Bool.eq_false_iff.mpr c17
                      subst c17
                      have H1 : (if 0 ≤ x15_2 then (fencepostlaw18_CfgFences.l0 k2 l0 t485 (Int.tmod (wrap64 (a2)) (l0.length : Int)) (Int.tmod (wrap64 (a3)) (wrap64 ((l0.length : Int) + 1))) (Int.tmod (wrap64 (a1)) (l0.length : Int)) true (decide (((rd_T33 l0 x15_2).f0) ≥ 8)) (wrap64 (x15_2 + 1))) else (none)) = some r := by rw [if_neg (show ¬ (false = true) by decide)] at H; exact H
                      clear H
                      have H := H1
                      clear H1
                      by_cases c18 : 0 ≤ x15_2
                      · rw [if_pos c18] at H
                        have c18b0 : decide (0 ≤ x15_2) = true := decide_eq_true c18
                        clear c18
                        have H' := Aside0.mk H
                        clear H
                        have p487 : 0 ≤ (x15_2 : Int) := of_decide_eq_true (by first | (with_reducible assumption) | assumption)
                        have q487 : x15_2 < (l0.length : Int) := of_decide_eq_true (by first | (with_reducible assumption) | assumption)
                        obtain ⟨ad487, e487, hx487_0, hx487_1, hx487_2, hx487_3, hx487_4⟩ := at_T33 HR0.out x15_2 p487 q487
                        cases e487
                        replace hx487_0 := (HB.out.cell (World.block_lt_of_cell? w _ hx487_0)).trans hx487_0
                        replace hx487_1 := (HB.out.cell (World.block_lt_of_cell? w _ hx487_1)).trans hx487_1
                        replace hx487_2 := (HB.out.cell (World.block_lt_of_cell? w _ hx487_2)).trans hx487_2
                        replace hx487_3 := (HB.out.cell (World.block_lt_of_cell? w _ hx487_3)).trans hx487_3
                        replace hx487_4 := (HB.out.cell (World.block_lt_of_cell? w _ hx487_4)).trans hx487_4
                        replace p487 := eq_true p487
                        replace q487 := eq_true q487
                        go_wp2
                        go_roundg k2
                        case measure => have := HJ5.out; have := HK2.out; omega
                        case rel => exact ⟨(true), (decide (((rd_T33 l0 x15_2).f0) ≥ 8)), (wrap64 (x15_2 + 1)), (by first | rfl | (simp; done) | (simp [*]; done)), (by first | rfl | (simp; done) | (simp [*]; done)), (by first | rfl | (simp; done) | (simp [*]; done)), H', ⟨by have := HJ5.out; have := HK2.out; omega⟩, ⟨by repeat (first | (with_reducible first | exact HB.out | apply below_alloc | apply pw_below_drewN | apply below_drew1) | exact HB.out)⟩⟩
                      · rw [if_neg c18] at H
                        exact absurd H (by simp)
                  · replace c16 := Bool.eq_false_iff.mpr c16
                    subst c16
                    have H1 : (if 0 ≤ x15_2 then ((fencepostref18_Drains.f ((rd_T33 l0 x15_2).f0) ((rd_T33 l0 x15_2).f1) ((rd_T33 l0 x15_2).f2) ((rd_T33 l0 x15_2).f3) ((rd_T33 l0 x15_2).f4)).bind fun t489 => (if x14_2 = true then (fencepostlaw18_CfgFences.l0 k2 l0 t485 (Int.tmod (wrap64 (a2)) (l0.length : Int)) (Int.tmod (wrap64 (a3)) (wrap64 ((l0.length : Int) + 1))) (Int.tmod (wrap64 (a1)) (l0.length : Int)) t489 true (wrap64 (x15_2 + 1))) else (fencepostlaw18_CfgFences.l0 k2 l0 t485 (Int.tmod (wrap64 (a2)) (l0.length : Int)) (Int.tmod (wrap64 (a3)) (wrap64 ((l0.length : Int) + 1))) (Int.tmod (wrap64 (a1)) (l0.length : Int)) t489 (decide (((rd_T33 l0 x15_2).f0) ≥ 8)) (wrap64 (x15_2 + 1))))) else (none)) = some r := by rw [if_neg (show ¬ (false = true) by decide)] at H; exact H
                    clear H
                    have H := H1
                    clear H1
                    by_cases c19 : 0 ≤ x15_2
                    · rw [if_pos c19] at H
                      have c19b0 : decide (0 ≤ x15_2) = true := decide_eq_true c19
                      clear c19
                      replace H := Option.bind_eq_some_iff.mp H
                      obtain ⟨t489, A200, H⟩ := H
                      replace H : (if x14_2 = true then (fencepostlaw18_CfgFences.l0 k2 l0 t485 (Int.tmod (wrap64 (a2)) (l0.length : Int)) (Int.tmod (wrap64 (a3)) (wrap64 ((l0.length : Int) + 1))) (Int.tmod (wrap64 (a1)) (l0.length : Int)) t489 true (wrap64 (x15_2 + 1))) else (fencepostlaw18_CfgFences.l0 k2 l0 t485 (Int.tmod (wrap64 (a2)) (l0.length : Int)) (Int.tmod (wrap64 (a3)) (wrap64 ((l0.length : Int) + 1))) (Int.tmod (wrap64 (a1)) (l0.length : Int)) t489 (decide (((rd_T33 l0 x15_2).f0) ≥ 8)) (wrap64 (x15_2 + 1)))) = some r := H
                      have A20 := Aside0.mk A200
                      clear A200
                      by_cases c21 : x14_2 = true
                      · subst c21
                        have H1 : (fencepostlaw18_CfgFences.l0 k2 l0 t485 (Int.tmod (wrap64 (a2)) (l0.length : Int)) (Int.tmod (wrap64 (a3)) (wrap64 ((l0.length : Int) + 1))) (Int.tmod (wrap64 (a1)) (l0.length : Int)) t489 true (wrap64 (x15_2 + 1))) = some r := by rw [if_pos rfl] at H; exact H
                        clear H
                        have H := H1
                        clear H1
                        have H' := Aside0.mk H
                        clear H
                        have p488 : 0 ≤ (x15_2 : Int) := of_decide_eq_true (by first | (with_reducible assumption) | assumption)
                        have q488 : x15_2 < (l0.length : Int) := of_decide_eq_true (by first | (with_reducible assumption) | assumption)
                        obtain ⟨ad488, e488, hx488_0, hx488_1, hx488_2, hx488_3, hx488_4⟩ := at_T33 HR0.out x15_2 p488 q488
                        cases e488
                        replace hx488_0 := (HB.out.cell (World.block_lt_of_cell? w _ hx488_0)).trans hx488_0
                        replace hx488_1 := (HB.out.cell (World.block_lt_of_cell? w _ hx488_1)).trans hx488_1
                        replace hx488_2 := (HB.out.cell (World.block_lt_of_cell? w _ hx488_2)).trans hx488_2
                        replace hx488_3 := (HB.out.cell (World.block_lt_of_cell? w _ hx488_3)).trans hx488_3
                        replace hx488_4 := (HB.out.cell (World.block_lt_of_cell? w _ hx488_4)).trans hx488_4
                        replace p488 := eq_true p488
                        replace q488 := eq_true q488
                        go_wp2_with (first | (go_at_call 26; (with_reducible refine (fencepostref18_Drains.calls ((rd_T33 l0 x15_2).f0) ((rd_T33 l0 x15_2).f1) ((rd_T33 l0 x15_2).f2) ((rd_T33 l0 x15_2).f3) ((rd_T33 l0 x15_2).f4) t489 _ A20.out).mono ?_); rintro e w22 ⟨rfl, hb⟩; have n0_ := Aside0.mk (below_step (by repeat (first | (with_reducible first | exact HB.out | apply below_alloc | apply pw_below_drewN | apply below_drew1) | exact HB.out)) hb); clear HB; have HB := n0_; clear n0_; (try clear hb); (try clear hb2); (try clear hk); (try clear hi)))
                        go_roundg k2
                        case measure => have := HJ5.out; have := HK2.out; omega
                        case rel => exact ⟨(t489), (true), (wrap64 (x15_2 + 1)), (by first | rfl | (simp; done) | (simp [*]; done)), (by first | rfl | (simp; done) | (simp [*]; done)), (by first | rfl | (simp; done) | (simp [*]; done)), H', ⟨by have := HJ5.out; have := HK2.out; omega⟩, ⟨by repeat (first | (with_reducible first | exact HB.out | apply below_alloc | apply pw_below_drewN | apply below_drew1) | exact HB.out)⟩⟩
                      · replace c21 := Bool.eq_false_iff.mpr c21
                        subst c21
                        have H1 : (fencepostlaw18_CfgFences.l0 k2 l0 t485 (Int.tmod (wrap64 (a2)) (l0.length : Int)) (Int.tmod (wrap64 (a3)) (wrap64 ((l0.length : Int) + 1))) (Int.tmod (wrap64 (a1)) (l0.length : Int)) t489 (decide (((rd_T33 l0 x15_2).f0) ≥ 8)) (wrap64 (x15_2 + 1))) = some r := by rw [if_neg (show ¬ (false = true) by decide)] at H; exact H
                        clear H
                        have H := H1
                        clear H1
                        have H' := Aside0.mk H
                        clear H
                        have p488 : 0 ≤ (x15_2 : Int) := of_decide_eq_true (by first | (with_reducible assumption) | assumption)
                        have q488 : x15_2 < (l0.length : Int) := of_decide_eq_true (by first | (with_reducible assumption) | assumption)
                        obtain ⟨ad488, e488, hx488_0, hx488_1, hx488_2, hx488_3, hx488_4⟩ := at_T33 HR0.out x15_2 p488 q488
                        cases e488
                        replace hx488_0 := (HB.out.cell (World.block_lt_of_cell? w _ hx488_0)).trans hx488_0
                        replace hx488_1 := (HB.out.cell (World.block_lt_of_cell? w _ hx488_1)).trans hx488_1
                        replace hx488_2 := (HB.out.cell (World.block_lt_of_cell? w _ hx488_2)).trans hx488_2
                        replace hx488_3 := (HB.out.cell (World.block_lt_of_cell? w _ hx488_3)).trans hx488_3
                        replace hx488_4 := (HB.out.cell (World.block_lt_of_cell? w _ hx488_4)).trans hx488_4
                        replace p488 := eq_true p488
                        replace q488 := eq_true q488
                        go_wp2_with (first | (go_at_call 26; (with_reducible refine (fencepostref18_Drains.calls ((rd_T33 l0 x15_2).f0) ((rd_T33 l0 x15_2).f1) ((rd_T33 l0 x15_2).f2) ((rd_T33 l0 x15_2).f3) ((rd_T33 l0 x15_2).f4) t489 _ A20.out).mono ?_); rintro e w23 ⟨rfl, hb⟩; have n0_ := Aside0.mk (below_step (by repeat (first | (with_reducible first | exact HB.out | apply below_alloc | apply pw_below_drewN | apply below_drew1) | exact HB.out)) hb); clear HB; have HB := n0_; clear n0_; (try clear hb); (try clear hb2); (try clear hk); (try clear hi); have p490 : 0 ≤ (x15_2 : Int) := of_decide_eq_true (by first | (with_reducible assumption) | assumption); have q490 : x15_2 < (l0.length : Int) := of_decide_eq_true (by first | (with_reducible assumption) | assumption); obtain ⟨ad490, e490, hx490_0, hx490_1, hx490_2, hx490_3, hx490_4⟩ := at_T33 HR0.out x15_2 p490 q490; obtain rfl : ad488 = ad490 := (by injection e490); replace hx490_0 := (HB.out.cell (World.block_lt_of_cell? w _ hx490_0)).trans hx490_0; replace hx490_1 := (HB.out.cell (World.block_lt_of_cell? w _ hx490_1)).trans hx490_1; replace hx490_2 := (HB.out.cell (World.block_lt_of_cell? w _ hx490_2)).trans hx490_2; replace hx490_3 := (HB.out.cell (World.block_lt_of_cell? w _ hx490_3)).trans hx490_3; replace hx490_4 := (HB.out.cell (World.block_lt_of_cell? w _ hx490_4)).trans hx490_4; replace p490 := eq_true p490; replace q490 := eq_true q490))
                        go_roundg k2
                        case measure => have := HJ5.out; have := HK2.out; omega
                        case rel => exact ⟨(t489), (decide (((rd_T33 l0 x15_2).f0) ≥ 8)), (wrap64 (x15_2 + 1)), (by first | rfl | (simp; done) | (simp [*]; done)), (by first | rfl | (simp; done) | (simp [*]; done)), (by first | rfl | (simp; done) | (simp [*]; done)), H', ⟨by have := HJ5.out; have := HK2.out; omega⟩, ⟨by repeat (first | (with_reducible first | exact HB.out | apply below_alloc | apply pw_below_drewN | apply below_drew1) | exact HB.out)⟩⟩
                    · rw [if_neg c19] at H
                      exact absurd H (by simp)
                · rw [if_neg c15] at H
                  have c15b0 : decide (x15_2 < (l0.length : Int)) = false := decide_eq_false c15
                  clear c15
                  have HC24 := Aside0.mk H
                  clear H
                  go_upto_region 14 with (fail)
                  go_cut [78] (fun v78 wc => ∃ (kq : Nat) (x78_23 : Bool), v78 = .bool x78_23 ∧ Aside0 (fencepostlaw18_CfgFences.j2 kq l0 t485 (Int.tmod (wrap64 (a2)) (l0.length : Int)) (Int.tmod (wrap64 (a3)) (wrap64 ((l0.length : Int) + 1))) (Int.tmod (wrap64 (a1)) (l0.length : Int)) x14_2 x78_23 = some r) ∧ Aside0 (kq ≤ k2) ∧ Aside0 (Below w.heap.size w wc))
                  case first =>
                    have H := HC24.out
                    clear HC24
                    by_cases c25 : x13_2 = true
                    · subst c25
                      have H1 : (fencepostlaw18_CfgFences.j2 k2 l0 t485 (Int.tmod (wrap64 (a2)) (l0.length : Int)) (Int.tmod (wrap64 (a3)) (wrap64 ((l0.length : Int) + 1))) (Int.tmod (wrap64 (a1)) (l0.length : Int)) x14_2 false) = some r := by rw [if_pos rfl] at H; exact H
                      clear H
                      have H := H1
                      clear H1
                      have H' := Aside0.mk H
                      clear H
                      go_wp2
                      go_meet
                      case rel => exact ⟨_, (false), (by first | rfl | (simp; done) | (simp [*]; done)), H', ⟨by have := HJ5.out; have := HK2.out; first | omega | exact Nat.le_refl _⟩, ⟨by repeat (first | (with_reducible first | exact HB.out | apply below_alloc | apply pw_below_drewN | apply below_drew1) | exact HB.out)⟩⟩
                    · replace c25 := Bool.eq_false_iff.mpr c25
                      subst c25
                      have H1 : ((cfg_Free.f l0 (Int.tmod (wrap64 (a2)) (l0.length : Int)) (Int.tmod (wrap64 (a3)) (wrap64 ((l0.length : Int) + 1)))).bind fun t491 => ((cfg_Reach.f l0 (Int.tmod (wrap64 (a2)) (l0.length : Int)) (Int.tmod (wrap64 (a3)) (wrap64 ((l0.length : Int) + 1)))).bind fun t492 => (fencepostlaw18_CfgFences.j2 k2 l0 t485 (Int.tmod (wrap64 (a2)) (l0.length : Int)) (Int.tmod (wrap64 (a3)) (wrap64 ((l0.length : Int) + 1))) (Int.tmod (wrap64 (a1)) (l0.length : Int)) x14_2 (t491 != t492)))) = some r := by rw [if_neg (show ¬ (false = true) by decide)] at H; exact H
                      clear H
                      have H := H1
                      clear H1
                      replace H := Option.bind_eq_some_iff.mp H
                      obtain ⟨t491, A260, H⟩ := H
                      replace H : ((cfg_Reach.f l0 (Int.tmod (wrap64 (a2)) (l0.length : Int)) (Int.tmod (wrap64 (a3)) (wrap64 ((l0.length : Int) + 1)))).bind fun t492 => (fencepostlaw18_CfgFences.j2 k2 l0 t485 (Int.tmod (wrap64 (a2)) (l0.length : Int)) (Int.tmod (wrap64 (a3)) (wrap64 ((l0.length : Int) + 1))) (Int.tmod (wrap64 (a1)) (l0.length : Int)) x14_2 (t491 != t492))) = some r := H
                      have A26 := Aside0.mk A260
                      clear A260
                      replace H := Option.bind_eq_some_iff.mp H
                      obtain ⟨t492, A270, H⟩ := H
                      replace H : (fencepostlaw18_CfgFences.j2 k2 l0 t485 (Int.tmod (wrap64 (a2)) (l0.length : Int)) (Int.tmod (wrap64 (a3)) (wrap64 ((l0.length : Int) + 1))) (Int.tmod (wrap64 (a1)) (l0.length : Int)) x14_2 (t491 != t492)) = some r := H
                      have A27 := Aside0.mk A270
                      clear A270
                      have H' := Aside0.mk H
                      clear H
                      go_wp2_with (first | (go_at_call 24; (with_reducible refine (cfg_Free.calls _ _ l0 (Int.tmod (wrap64 (a2)) (l0.length : Int)) (Int.tmod (wrap64 (a3)) (wrap64 ((l0.length : Int) + 1))) t491 _ ?side1 ?side2 A26.out).mono ?_); (case side1 => repeat (first | exact (Kd.C_below HR0.out HB.out) | (with_reducible refine Kd.C_alloc ?_ _) | (with_reducible refine Kd.C_drewN ?_ _) | (with_reducible refine Kd.C_drew ?_))); (case side2 => exact HC0.out); rintro e w28 ⟨rfl, hb⟩; have n0_ := Aside0.mk (below_step (by repeat (first | (with_reducible first | exact HB.out | apply below_alloc | apply pw_below_drewN | apply below_drew1) | exact HB.out)) hb); clear HB; have HB := n0_; clear n0_; (try clear hb); (try clear hb2); (try clear hk); (try clear hi)) | (go_at_call 22; (with_reducible refine (cfg_Reach.calls _ _ l0 (Int.tmod (wrap64 (a2)) (l0.length : Int)) (Int.tmod (wrap64 (a3)) (wrap64 ((l0.length : Int) + 1))) t492 _ ?side1 ?side2 A27.out).mono ?_); (case side1 => repeat (first | exact (Kd.C_below HR0.out HB.out) | (with_reducible refine Kd.C_alloc ?_ _) | (with_reducible refine Kd.C_drewN ?_ _) | (with_reducible refine Kd.C_drew ?_))); (case side2 => exact HC0.out); rintro e w29 ⟨rfl, hb⟩; have n0_ := Aside0.mk (below_step (by repeat (first | (with_reducible first | exact HB.out | apply below_alloc | apply pw_below_drewN | apply below_drew1) | exact HB.out)) hb); clear HB; have HB := n0_; clear n0_; (try clear hb); (try clear hb2); (try clear hk); (try clear hi)))
                      go_meet
                      case rel => exact ⟨_, ((t491 != t492)), (by first | rfl | (simp; done) | (simp [*]; done)), H', ⟨by have := HJ5.out; have := HK2.out; first | omega | exact Nat.le_refl _⟩, ⟨by repeat (first | (with_reducible first | exact HB.out | apply below_alloc | apply pw_below_drewN | apply below_drew1) | exact HB.out)⟩⟩
                  case rest =>
                    clear HC24
                    try clear c1
                    try clear c2
                    try clear p2
                    try clear p4
                    try clear q4
                    try clear hx4
                    try clear p6
                    try clear c8
                    try clear c9
                    try clear c12
                    try clear c13
                    try clear c13b0
                    try clear c13b1
                    try clear c13b2
                    try clear c14
                    try clear c14b0
                    try clear c14b1
                    try clear c15
                    try clear c15b0
                    try clear c16
                    try clear c17
                    try clear c18
                    try clear c18b0
                    try clear c19
                    try clear c19b0
                    try clear c21
                    try clear c25
                    try clear hx487_0
                    try clear hx487_1
                    try clear hx487_2
                    try clear hx487_3
                    try clear hx487_4
                    try clear hx488_0
                    try clear hx488_1
                    try clear hx488_2
                    try clear hx488_3
                    try clear hx488_4
                    try clear hx490_0
                    try clear hx490_1
                    try clear hx490_2
                    try clear hx490_3
                    try clear hx490_4
                    try clear p2
                    try clear p487
                    try clear p488
                    try clear p490
                    try clear p6
                    try clear q487
                    try clear q488
                    try clear q490
                    obtain ⟨kq, x78_23, rfl, HA, HJ23, HB⟩ := hcut
                    cases kq with
                    | zero => exact absurd HA.out (by simp [fencepostlaw18_CfgFences.j2])
                    | succ kj23 =>
                      have H := HA.out
                      clear HA
                      simp only [fencepostlaw18_CfgFences.j2] at H
                      by_cases c30 : x78_23 = true
                      · subst c30
                        have H1 : (some false) = some r := by rw [if_pos rfl] at H; exact H
                        clear H
                        have H := H1
                        clear H1
                        exact absurd ((Option.some.inj H).trans HT.out) (by simp)
                      · replace c30 := Bool.eq_false_iff.mpr c30
                        subst c30
                        have H1 : (if x14_2 = true then (some t485) else ((some (([] : List (S33)) : List (S33))).bind fun y493 => (if 0 ≤ (Int.tmod (wrap64 (a1)) (l0.length : Int)) then (if (Int.tmod (wrap64 (a1)) (l0.length : Int)) ≤ (l0.length : Int) then ((some (l0.take ((Int.tmod (wrap64 (a1)) (l0.length : Int)) : Int).toNat : List (S33))).bind fun y496 => (if y493.length + y496.length < 3518437208883 then ((some (y493 ++ y496 : List (S33))).bind fun y500 => ((some (([(⟨6, 0, 0, 0, 0⟩ : S33)] : List (S33)) : List (S33))).bind fun y503 => (if y500.length + y503.length < 3518437208883 then ((some (y500 ++ y503 : List (S33))).bind fun y506 => (if 0 ≤ (wrap64 ((Int.tmod (wrap64 (a1)) (l0.length : Int)) + 1)) then (if (wrap64 ((Int.tmod (wrap64 (a1)) (l0.length : Int)) + 1)) ≤ (l0.length : Int) then ((some (l0.drop ((wrap64 ((Int.tmod (wrap64 (a1)) (l0.length : Int)) + 1)) : Int).toNat : List (S33))).bind fun y509 => (if y506.length + y509.length < 3518437208883 then ((some (y506 ++ y509 : List (S33))).bind fun y513 => (if t485 = true then ((cfg_Reach.f y513 (Int.tmod (wrap64 (a2)) (l0.length : Int)) (Int.tmod (wrap64 (a3)) (wrap64 ((l0.length : Int) + 1)))).bind fun t516 => (if (t516 == (decide ((Int.tmod (wrap64 (a2)) (l0.length : Int)) < (Int.tmod (wrap64 (a3)) (wrap64 ((l0.length : Int) + 1)))))) = true then (if (Int.tmod (wrap64 (a2)) (l0.length : Int)) ≥ (Int.tmod (wrap64 (a1)) (l0.length : Int)) then (some true) else (if (Int.tmod (wrap64 (a1)) (l0.length : Int)) ≥ (Int.tmod (wrap64 (a3)) (wrap64 ((l0.length : Int) + 1))) then (some true) else ((cfg_Free.f y513 (Int.tmod (wrap64 (a2)) (l0.length : Int)) (Int.tmod (wrap64 (a3)) (wrap64 ((l0.length : Int) + 1)))).bind fun t517 => (some (!t517))))) else (some false))) else (some false))) else (none))) else (none)) else (none))) else (none)))) else (none))) else (none)) else (none)))) = some r := by rw [if_neg (show ¬ (false = true) by decide)] at H; exact H
                        clear H
                        have H := H1
                        clear H1
                        by_cases c31 : x14_2 = true
                        · subst c31
                          have H1 : (some t485) = some r := by rw [if_pos rfl] at H; exact H
                          clear H
                          have H := H1
                          clear H1
                          obtain rfl := Option.some.inj H
                          go_wp2
                          go_ret
                          exact ⟨by first | rfl | (simp [errW_none, errW_some] <;> rfl) | (simp [*, errW_none, errW_some] <;> rfl), by repeat (first | (with_reducible first | exact HB.out | apply below_alloc | apply pw_below_drewN | apply below_drew1) | exact HB.out)⟩
                        · replace c31 := Bool.eq_false_iff.mpr c31
                          subst c31
                          have H1 : ((some (([] : List (S33)) : List (S33))).bind fun y493 => (if 0 ≤ (Int.tmod (wrap64 (a1)) (l0.length : Int)) then (if (Int.tmod (wrap64 (a1)) (l0.length : Int)) ≤ (l0.length : Int) then ((some (l0.take ((Int.tmod (wrap64 (a1)) (l0.length : Int)) : Int).toNat : List (S33))).bind fun y496 => (if y493.length + y496.length < 3518437208883 then ((some (y493 ++ y496 : List (S33))).bind fun y500 => ((some (([(⟨6, 0, 0, 0, 0⟩ : S33)] : List (S33)) : List (S33))).bind fun y503 => (if y500.length + y503.length < 3518437208883 then ((some (y500 ++ y503 : List (S33))).bind fun y506 => (if 0 ≤ (wrap64 ((Int.tmod (wrap64 (a1)) (l0.length : Int)) + 1)) then (if (wrap64 ((Int.tmod (wrap64 (a1)) (l0.length : Int)) + 1)) ≤ (l0.length : Int) then ((some (l0.drop ((wrap64 ((Int.tmod (wrap64 (a1)) (l0.length : Int)) + 1)) : Int).toNat : List (S33))).bind fun y509 => (if y506.length + y509.length < 3518437208883 then ((some (y506 ++ y509 : List (S33))).bind fun y513 => (if t485 = true then ((cfg_Reach.f y513 (Int.tmod (wrap64 (a2)) (l0.length : Int)) (Int.tmod (wrap64 (a3)) (wrap64 ((l0.length : Int) + 1)))).bind fun t516 => (if (t516 == (decide ((Int.tmod (wrap64 (a2)) (l0.length : Int)) < (Int.tmod (wrap64 (a3)) (wrap64 ((l0.length : Int) + 1)))))) = true then (if (Int.tmod (wrap64 (a2)) (l0.length : Int)) ≥ (Int.tmod (wrap64 (a1)) (l0.length : Int)) then (some true) else (if (Int.tmod (wrap64 (a1)) (l0.length : Int)) ≥ (Int.tmod (wrap64 (a3)) (wrap64 ((l0.length : Int) + 1))) then (some true) else ((cfg_Free.f y513 (Int.tmod (wrap64 (a2)) (l0.length : Int)) (Int.tmod (wrap64 (a3)) (wrap64 ((l0.length : Int) + 1)))).bind fun t517 => (some (!t517))))) else (some false))) else (some false))) else (none))) else (none)) else (none))) else (none)))) else (none))) else (none)) else (none))) = some r := by rw [if_neg (show ¬ (false = true) by decide)] at H; exact H
                          clear H
                          have H := H1
                          clear H1
                          obtain ⟨y493, hy493⟩ : ∃ y_ : List (S33), y_ = (([] : List (S33))) := ⟨_, rfl⟩
                          replace H : (if 0 ≤ (Int.tmod (wrap64 (a1)) (l0.length : Int)) then (if (Int.tmod (wrap64 (a1)) (l0.length : Int)) ≤ (l0.length : Int) then ((some (l0.take ((Int.tmod (wrap64 (a1)) (l0.length : Int)) : Int).toNat : List (S33))).bind fun y496 => (if y493.length + y496.length < 3518437208883 then ((some (y493 ++ y496 : List (S33))).bind fun y500 => ((some (([(⟨6, 0, 0, 0, 0⟩ : S33)] : List (S33)) : List (S33))).bind fun y503 => (if y500.length + y503.length < 3518437208883 then ((some (y500 ++ y503 : List (S33))).bind fun y506 => (if 0 ≤ (wrap64 ((Int.tmod (wrap64 (a1)) (l0.length : Int)) + 1)) then (if (wrap64 ((Int.tmod (wrap64 (a1)) (l0.length : Int)) + 1)) ≤ (l0.length : Int) then ((some (l0.drop ((wrap64 ((Int.tmod (wrap64 (a1)) (l0.length : Int)) + 1)) : Int).toNat : List (S33))).bind fun y509 => (if y506.length + y509.length < 3518437208883 then ((some (y506 ++ y509 : List (S33))).bind fun y513 => (if t485 = true then ((cfg_Reach.f y513 (Int.tmod (wrap64 (a2)) (l0.length : Int)) (Int.tmod (wrap64 (a3)) (wrap64 ((l0.length : Int) + 1)))).bind fun t516 => (if (t516 == (decide ((Int.tmod (wrap64 (a2)) (l0.length : Int)) < (Int.tmod (wrap64 (a3)) (wrap64 ((l0.length : Int) + 1)))))) = true then (if (Int.tmod (wrap64 (a2)) (l0.length : Int)) ≥ (Int.tmod (wrap64 (a1)) (l0.length : Int)) then (some true) else (if (Int.tmod (wrap64 (a1)) (l0.length : Int)) ≥ (Int.tmod (wrap64 (a3)) (wrap64 ((l0.length : Int) + 1))) then (some true) else ((cfg_Free.f y513 (Int.tmod (wrap64 (a2)) (l0.length : Int)) (Int.tmod (wrap64 (a3)) (wrap64 ((l0.length : Int) + 1)))).bind fun t517 => (some (!t517))))) else (some false))) else (some false))) else (none))) else (none)) else (none))) else (none)))) else (none))) else (none)) else (none)) = some r := by first | (rw [hy493]; with_reducible exact H) | (have H2_ := (Option.bind_some _ _).symm.trans H; rw [hy493]; with_reducible exact H2_) | (have H2_ := (Option.bind_some _ _).symm.trans H; with_reducible exact H2_) | with_reducible exact H | (rw [hy493]; exact H) | exact H
                          have Ny493 := Aside0.mk hy493
                          clear hy493
                          obtain ⟨ji32, hji32⟩ : ∃ j_ : Int, (Int.tmod (wrap64 (a1)) (l0.length : Int)) = j_ := ⟨_, rfl⟩
                          replace H : (if 0 ≤ (ji32) then (if (ji32) ≤ (l0.length : Int) then ((some (l0.take ((ji32) : Int).toNat : List (S33))).bind fun y496 => (if y493.length + y496.length < 3518437208883 then ((some (y493 ++ y496 : List (S33))).bind fun y500 => ((some (([(⟨6, 0, 0, 0, 0⟩ : S33)] : List (S33)) : List (S33))).bind fun y503 => (if y500.length + y503.length < 3518437208883 then ((some (y500 ++ y503 : List (S33))).bind fun y506 => (if 0 ≤ (wrap64 ((ji32) + 1)) then (if (wrap64 ((ji32) + 1)) ≤ (l0.length : Int) then ((some (l0.drop ((wrap64 ((ji32) + 1)) : Int).toNat : List (S33))).bind fun y509 => (if y506.length + y509.length < 3518437208883 then ((some (y506 ++ y509 : List (S33))).bind fun y513 => (if t485 = true then ((cfg_Reach.f y513 (Int.tmod (wrap64 (a2)) (l0.length : Int)) (Int.tmod (wrap64 (a3)) (wrap64 ((l0.length : Int) + 1)))).bind fun t516 => (if (t516 == (decide ((Int.tmod (wrap64 (a2)) (l0.length : Int)) < (Int.tmod (wrap64 (a3)) (wrap64 ((l0.length : Int) + 1)))))) = true then (if (Int.tmod (wrap64 (a2)) (l0.length : Int)) ≥ (ji32) then (some true) else (if (ji32) ≥ (Int.tmod (wrap64 (a3)) (wrap64 ((l0.length : Int) + 1))) then (some true) else ((cfg_Free.f y513 (Int.tmod (wrap64 (a2)) (l0.length : Int)) (Int.tmod (wrap64 (a3)) (wrap64 ((l0.length : Int) + 1)))).bind fun t517 => (some (!t517))))) else (some false))) else (some false))) else (none))) else (none)) else (none))) else (none)))) else (none))) else (none)) else (none)) = some r := by first | (rw [hji32] at H; exact H) | (simp only [hji32] at H ⊢; exact H)
                          by_cases c33 : 0 ≤ (ji32)
                          · rw [if_pos c33] at H
                            have c33b0 := eq_true c33
                            have c33b1 : decide (0 ≤ (ji32)) = true := decide_eq_true c33
                            clear c33
                            by_cases c34 : (ji32) ≤ (l0.length : Int)
                            · rw [if_pos c34] at H
                              have c34b0 := eq_true c34
                              have c34b1 : decide ((ji32) ≤ (l0.length : Int)) = true := decide_eq_true c34
                              clear c34
                              obtain ⟨y496, hy496⟩ : ∃ y_ : List (S33), y_ = (l0.take ((ji32) : Int).toNat) := ⟨_, rfl⟩
                              replace H : (if y493.length + y496.length < 3518437208883 then ((some (y493 ++ y496 : List (S33))).bind fun y500 => ((some (([(⟨6, 0, 0, 0, 0⟩ : S33)] : List (S33)) : List (S33))).bind fun y503 => (if y500.length + y503.length < 3518437208883 then ((some (y500 ++ y503 : List (S33))).bind fun y506 => (if 0 ≤ (wrap64 ((ji32) + 1)) then (if (wrap64 ((ji32) + 1)) ≤ (l0.length : Int) then ((some (l0.drop ((wrap64 ((ji32) + 1)) : Int).toNat : List (S33))).bind fun y509 => (if y506.length + y509.length < 3518437208883 then ((some (y506 ++ y509 : List (S33))).bind fun y513 => (if t485 = true then ((cfg_Reach.f y513 (Int.tmod (wrap64 (a2)) (l0.length : Int)) (Int.tmod (wrap64 (a3)) (wrap64 ((l0.length : Int) + 1)))).bind fun t516 => (if (t516 == (decide ((Int.tmod (wrap64 (a2)) (l0.length : Int)) < (Int.tmod (wrap64 (a3)) (wrap64 ((l0.length : Int) + 1)))))) = true then (if (Int.tmod (wrap64 (a2)) (l0.length : Int)) ≥ (ji32) then (some true) else (if (ji32) ≥ (Int.tmod (wrap64 (a3)) (wrap64 ((l0.length : Int) + 1))) then (some true) else ((cfg_Free.f y513 (Int.tmod (wrap64 (a2)) (l0.length : Int)) (Int.tmod (wrap64 (a3)) (wrap64 ((l0.length : Int) + 1)))).bind fun t517 => (some (!t517))))) else (some false))) else (some false))) else (none))) else (none)) else (none))) else (none)))) else (none)) = some r := by first | (rw [hy496]; with_reducible exact H) | (have H2_ := (Option.bind_some _ _).symm.trans H; rw [hy496]; with_reducible exact H2_) | (have H2_ := (Option.bind_some _ _).symm.trans H; with_reducible exact H2_) | with_reducible exact H | (rw [hy496]; exact H) | exact H
                              have Ny496 := Aside0.mk hy496
                              clear hy496
                              by_cases c35 : y493.length + y496.length < 3518437208883
                              · rw [if_pos c35] at H
                                have LMc35 := Aside0.mk c35
                                clear c35
                                obtain ⟨y500, hy500⟩ : ∃ y_ : List (S33), y_ = (y493 ++ y496) := ⟨_, rfl⟩
                                replace H : ((some (([(⟨6, 0, 0, 0, 0⟩ : S33)] : List (S33)) : List (S33))).bind fun y503 => (if y500.length + y503.length < 3518437208883 then ((some (y500 ++ y503 : List (S33))).bind fun y506 => (if 0 ≤ (wrap64 ((ji32) + 1)) then (if (wrap64 ((ji32) + 1)) ≤ (l0.length : Int) then ((some (l0.drop ((wrap64 ((ji32) + 1)) : Int).toNat : List (S33))).bind fun y509 => (if y506.length + y509.length < 3518437208883 then ((some (y506 ++ y509 : List (S33))).bind fun y513 => (if t485 = true then ((cfg_Reach.f y513 (Int.tmod (wrap64 (a2)) (l0.length : Int)) (Int.tmod (wrap64 (a3)) (wrap64 ((l0.length : Int) + 1)))).bind fun t516 => (if (t516 == (decide ((Int.tmod (wrap64 (a2)) (l0.length : Int)) < (Int.tmod (wrap64 (a3)) (wrap64 ((l0.length : Int) + 1)))))) = true then (if (Int.tmod (wrap64 (a2)) (l0.length : Int)) ≥ (ji32) then (some true) else (if (ji32) ≥ (Int.tmod (wrap64 (a3)) (wrap64 ((l0.length : Int) + 1))) then (some true) else ((cfg_Free.f y513 (Int.tmod (wrap64 (a2)) (l0.length : Int)) (Int.tmod (wrap64 (a3)) (wrap64 ((l0.length : Int) + 1)))).bind fun t517 => (some (!t517))))) else (some false))) else (some false))) else (none))) else (none)) else (none))) else (none))) = some r := by first | (rw [hy500]; with_reducible exact H) | (have H2_ := (Option.bind_some _ _).symm.trans H; rw [hy500]; with_reducible exact H2_) | (have H2_ := (Option.bind_some _ _).symm.trans H; with_reducible exact H2_) | with_reducible exact H | (rw [hy500]; exact H) | exact H
                                have Ny500 := Aside0.mk hy500
                                clear hy500
                                obtain ⟨y503, hy503⟩ : ∃ y_ : List (S33), y_ = (([(⟨6, 0, 0, 0, 0⟩ : S33)] : List (S33))) := ⟨_, rfl⟩
                                replace H : (if y500.length + y503.length < 3518437208883 then ((some (y500 ++ y503 : List (S33))).bind fun y506 => (if 0 ≤ (wrap64 ((ji32) + 1)) then (if (wrap64 ((ji32) + 1)) ≤ (l0.length : Int) then ((some (l0.drop ((wrap64 ((ji32) + 1)) : Int).toNat : List (S33))).bind fun y509 => (if y506.length + y509.length < 3518437208883 then ((some (y506 ++ y509 : List (S33))).bind fun y513 => (if t485 = true then ((cfg_Reach.f y513 (Int.tmod (wrap64 (a2)) (l0.length : Int)) (Int.tmod (wrap64 (a3)) (wrap64 ((l0.length : Int) + 1)))).bind fun t516 => (if (t516 == (decide ((Int.tmod (wrap64 (a2)) (l0.length : Int)) < (Int.tmod (wrap64 (a3)) (wrap64 ((l0.length : Int) + 1)))))) = true then (if (Int.tmod (wrap64 (a2)) (l0.length : Int)) ≥ (ji32) then (some true) else (if (ji32) ≥ (Int.tmod (wrap64 (a3)) (wrap64 ((l0.length : Int) + 1))) then (some true) else ((cfg_Free.f y513 (Int.tmod (wrap64 (a2)) (l0.length : Int)) (Int.tmod (wrap64 (a3)) (wrap64 ((l0.length : Int) + 1)))).bind fun t517 => (some (!t517))))) else (some false))) else (some false))) else (none))) else (none)) else (none))) else (none)) = some r := by first | (rw [hy503]; with_reducible exact H) | (have H2_ := (Option.bind_some _ _).symm.trans H; rw [hy503]; with_reducible exact H2_) | (have H2_ := (Option.bind_some _ _).symm.trans H; with_reducible exact H2_) | with_reducible exact H | (rw [hy503]; exact H) | exact H
                                have Ny503 := Aside0.mk hy503
                                clear hy503
                                by_cases c36 : y500.length + y503.length < 3518437208883
                                · rw [if_pos c36] at H
                                  have LMc36 := Aside0.mk c36
                                  clear c36
                                  obtain ⟨y506, hy506⟩ : ∃ y_ : List (S33), y_ = (y500 ++ y503) := ⟨_, rfl⟩
                                  replace H : (if 0 ≤ (wrap64 ((ji32) + 1)) then (if (wrap64 ((ji32) + 1)) ≤ (l0.length : Int) then ((some (l0.drop ((wrap64 ((ji32) + 1)) : Int).toNat : List (S33))).bind fun y509 => (if y506.length + y509.length < 3518437208883 then ((some (y506 ++ y509 : List (S33))).bind fun y513 => (if t485 = true then ((cfg_Reach.f y513 (Int.tmod (wrap64 (a2)) (l0.length : Int)) (Int.tmod (wrap64 (a3)) (wrap64 ((l0.length : Int) + 1)))).bind fun t516 => (if (t516 == (decide ((Int.tmod (wrap64 (a2)) (l0.length : Int)) < (Int.tmod (wrap64 (a3)) (wrap64 ((l0.length : Int) + 1)))))) = true then (if (Int.tmod (wrap64 (a2)) (l0.length : Int)) ≥ (ji32) then (some true) else (if (ji32) ≥ (Int.tmod (wrap64 (a3)) (wrap64 ((l0.length : Int) + 1))) then (some true) else ((cfg_Free.f y513 (Int.tmod (wrap64 (a2)) (l0.length : Int)) (Int.tmod (wrap64 (a3)) (wrap64 ((l0.length : Int) + 1)))).bind fun t517 => (some (!t517))))) else (some false))) else (some false))) else (none))) else (none)) else (none)) = some r := by first | (rw [hy506]; with_reducible exact H) | (have H2_ := (Option.bind_some _ _).symm.trans H; rw [hy506]; with_reducible exact H2_) | (have H2_ := (Option.bind_some _ _).symm.trans H; with_reducible exact H2_) | with_reducible exact H | (rw [hy506]; exact H) | exact H
                                  have Ny506 := Aside0.mk hy506
                                  clear hy506
                                  obtain ⟨ji37, hji37⟩ : ∃ j_ : Int, (wrap64 ((ji32) + 1)) = j_ := ⟨_, rfl⟩
                                  replace H : (if 0 ≤ (ji37) then (if (ji37) ≤ (l0.length : Int) then ((some (l0.drop ((ji37) : Int).toNat : List (S33))).bind fun y509 => (if y506.length + y509.length < 3518437208883 then ((some (y506 ++ y509 : List (S33))).bind fun y513 => (if t485 = true then ((cfg_Reach.f y513 (Int.tmod (wrap64 (a2)) (l0.length : Int)) (Int.tmod (wrap64 (a3)) (wrap64 ((l0.length : Int) + 1)))).bind fun t516 => (if (t516 == (decide ((Int.tmod (wrap64 (a2)) (l0.length : Int)) < (Int.tmod (wrap64 (a3)) (wrap64 ((l0.length : Int) + 1)))))) = true then (if (Int.tmod (wrap64 (a2)) (l0.length : Int)) ≥ (ji32) then (some true) else (if (ji32) ≥ (Int.tmod (wrap64 (a3)) (wrap64 ((l0.length : Int) + 1))) then (some true) else ((cfg_Free.f y513 (Int.tmod (wrap64 (a2)) (l0.length : Int)) (Int.tmod (wrap64 (a3)) (wrap64 ((l0.length : Int) + 1)))).bind fun t517 => (some (!t517))))) else (some false))) else (some false))) else (none))) else (none)) else (none)) = some r := by first | (rw [hji37] at H; exact H) | (simp only [hji37] at H ⊢; exact H)
                                  have hji37w : (IntKind.i64.wrap ((ji32) + 1)) = ji37 := (i64_w _).trans hji37
                                  by_cases c38 : 0 ≤ (ji37)
                                  · rw [if_pos c38] at H
                                    have c38b0 := eq_true c38
                                    have c38b1 : decide (0 ≤ (ji37)) = true := decide_eq_true c38
                                    clear c38
                                    by_cases c39 : (ji37) ≤ (l0.length : Int)
                                    · rw [if_pos c39] at H
                                      have c39b0 := eq_true c39
                                      have c39b1 : decide ((ji37) ≤ (l0.length : Int)) = true := decide_eq_true c39
                                      clear c39
                                      obtain ⟨y509, hy509⟩ : ∃ y_ : List (S33), y_ = (l0.drop ((ji37) : Int).toNat) := ⟨_, rfl⟩
                                      replace H : (if y506.length + y509.length < 3518437208883 then ((some (y506 ++ y509 : List (S33))).bind fun y513 => (if t485 = true then ((cfg_Reach.f y513 (Int.tmod (wrap64 (a2)) (l0.length : Int)) (Int.tmod (wrap64 (a3)) (wrap64 ((l0.length : Int) + 1)))).bind fun t516 => (if (t516 == (decide ((Int.tmod (wrap64 (a2)) (l0.length : Int)) < (Int.tmod (wrap64 (a3)) (wrap64 ((l0.length : Int) + 1)))))) = true then (if (Int.tmod (wrap64 (a2)) (l0.length : Int)) ≥ (ji32) then (some true) else (if (ji32) ≥ (Int.tmod (wrap64 (a3)) (wrap64 ((l0.length : Int) + 1))) then (some true) else ((cfg_Free.f y513 (Int.tmod (wrap64 (a2)) (l0.length : Int)) (Int.tmod (wrap64 (a3)) (wrap64 ((l0.length : Int) + 1)))).bind fun t517 => (some (!t517))))) else (some false))) else (some false))) else (none)) = some r := by first | (rw [hy509]; with_reducible exact H) | (have H2_ := (Option.bind_some _ _).symm.trans H; rw [hy509]; with_reducible exact H2_) | (have H2_ := (Option.bind_some _ _).symm.trans H; with_reducible exact H2_) | with_reducible exact H | (rw [hy509]; exact H) | exact H
                                      have Ny509 := Aside0.mk hy509
                                      clear hy509
                                      by_cases c40 : y506.length + y509.length < 3518437208883
                                      · rw [if_pos c40] at H
                                        have LMc40 := Aside0.mk c40
                                        clear c40
                                        obtain ⟨y513, hy513⟩ : ∃ y_ : List (S33), y_ = (y506 ++ y509) := ⟨_, rfl⟩
                                        replace H : (if t485 = true then ((cfg_Reach.f y513 (Int.tmod (wrap64 (a2)) (l0.length : Int)) (Int.tmod (wrap64 (a3)) (wrap64 ((l0.length : Int) + 1)))).bind fun t516 => (if (t516 == (decide ((Int.tmod (wrap64 (a2)) (l0.length : Int)) < (Int.tmod (wrap64 (a3)) (wrap64 ((l0.length : Int) + 1)))))) = true then (if (Int.tmod (wrap64 (a2)) (l0.length : Int)) ≥ (ji32) then (some true) else (if (ji32) ≥ (Int.tmod (wrap64 (a3)) (wrap64 ((l0.length : Int) + 1))) then (some true) else ((cfg_Free.f y513 (Int.tmod (wrap64 (a2)) (l0.length : Int)) (Int.tmod (wrap64 (a3)) (wrap64 ((l0.length : Int) + 1)))).bind fun t517 => (some (!t517))))) else (some false))) else (some false)) = some r := by first | (rw [hy513]; with_reducible exact H) | (have H2_ := (Option.bind_some _ _).symm.trans H; rw [hy513]; with_reducible exact H2_) | (have H2_ := (Option.bind_some _ _).symm.trans H; with_reducible exact H2_) | with_reducible exact H | (rw [hy513]; exact H) | exact H
                                        have Ny513 := Aside0.mk hy513
                                        clear hy513
                                        by_cases c41 : t485 = true
                                        · subst c41
                                          have H1 : ((cfg_Reach.f y513 (Int.tmod (wrap64 (a2)) (l0.length : Int)) (Int.tmod (wrap64 (a3)) (wrap64 ((l0.length : Int) + 1)))).bind fun t516 => (if (t516 == (decide ((Int.tmod (wrap64 (a2)) (l0.length : Int)) < (Int.tmod (wrap64 (a3)) (wrap64 ((l0.length : Int) + 1)))))) = true then (if (Int.tmod (wrap64 (a2)) (l0.length : Int)) ≥ (ji32) then (some true) else (if (ji32) ≥ (Int.tmod (wrap64 (a3)) (wrap64 ((l0.length : Int) + 1))) then (some true) else ((cfg_Free.f y513 (Int.tmod (wrap64 (a2)) (l0.length : Int)) (Int.tmod (wrap64 (a3)) (wrap64 ((l0.length : Int) + 1)))).bind fun t517 => (some (!t517))))) else (some false))) = some r := by rw [if_pos rfl] at H; exact H
                                          clear H
                                          have H := H1
                                          clear H1
                                          replace H := Option.bind_eq_some_iff.mp H
                                          obtain ⟨t516, A420, H⟩ := H
                                          replace H : (if (t516 == (decide ((Int.tmod (wrap64 (a2)) (l0.length : Int)) < (Int.tmod (wrap64 (a3)) (wrap64 ((l0.length : Int) + 1)))))) = true then (if (Int.tmod (wrap64 (a2)) (l0.length : Int)) ≥ (ji32) then (some true) else (if (ji32) ≥ (Int.tmod (wrap64 (a3)) (wrap64 ((l0.length : Int) + 1))) then (some true) else ((cfg_Free.f y513 (Int.tmod (wrap64 (a2)) (l0.length : Int)) (Int.tmod (wrap64 (a3)) (wrap64 ((l0.length : Int) + 1)))).bind fun t517 => (some (!t517))))) else (some false)) = some r := H
                                          have A42 := Aside0.mk A420
                                          clear A420
                                          by_cases c43 : (t516 == (decide ((Int.tmod (wrap64 (a2)) (l0.length : Int)) < (Int.tmod (wrap64 (a3)) (wrap64 ((l0.length : Int) + 1)))))) = true
                                          · rw [if_pos c43] at H
                                            have c43b0 : (t516 == (decide ((Int.tmod (wrap64 (a2)) (l0.length : Int)) < (Int.tmod (wrap64 (a3)) (wrap64 ((l0.length : Int) + 1)))))) = true := c43
                                            (try (have c43b1 : decide (t516 = (decide ((Int.tmod (wrap64 (a2)) (l0.length : Int)) < (Int.tmod (wrap64 (a3)) (wrap64 ((l0.length : Int) + 1)))))) = true := by simpa using c43))
                                            (try (have c43b2 : (t516 == (decide ((Int.tmod (wrap64 (a2)) (l0.length : Int)) < (Int.tmod (wrap64 (a3)) (wrap64 ((l0.length : Int) + 1)))))) = true := by simpa using c43))
                                            clear c43
                                            by_cases c44 : (Int.tmod (wrap64 (a2)) (l0.length : Int)) ≥ (ji32)
                                            · rw [if_pos c44] at H
                                              have c44b0 : decide ((ji32) ≤ (Int.tmod (wrap64 (a2)) (l0.length : Int))) = true := decide_eq_true c44
                                              clear c44
                                              obtain rfl := Option.some.inj H
                                              try go_wp2
                                              have n0_ := Aside0.mk (below_drew1 HB.out)
                                              clear HB
                                              have HB := n0_
                                              clear n0_
                                              have q46 : ((ji32) : Int) ≤ ((l0.length : Int) : Int) := of_decide_eq_true (by first | (with_reducible assumption) | assumption)
                                              obtain ⟨i046, hi046, _, hsz46, _⟩ := info_parts info33
                                              have hroom46 : l0.length ≤ c0 := HC0.out
                                              have hC46 : Kd.C k33 _ A0 l0.length l0 := HR0.out
                                              have hcut46 := cut_to (P := Try.prog) 22 33 .i64 Try.underlying22 hi046 A0 l0.length c0 (ji32) (of_decide_eq_true (by first | (with_reducible assumption) | assumption)) q46 hroom46
                                              have hr46 := Kd.C_take (m := ((ji32) : Int).toNat) hC46 (by omega)
                                              have hy46 : y496.length = ((ji32) : Int).toNat := (by rw [Ny496.out, List.length_take]; omega)
                                              rw [← Ny496.out] at hr46
                                              rw [← hy46] at hcut46
                                              have HR499 := Aside0.mk hr46
                                              have HC499 := Aside0.mk (show y496.length ≤ c0 from by omega)
                                              clear hr46 hC46 hroom46 hi046 hsz46
                                              have KY46 := Aside0.mk hy46
                                              clear hy46
                                              replace q46 := eq_true q46
                                              have q47 : ((ji37) : Int) ≤ ((l0.length : Int) : Int) := of_decide_eq_true (by first | (with_reducible assumption) | assumption)
                                              obtain ⟨i047, hi047, _, hsz47, _⟩ := info_parts info33
                                              have hroom47 : l0.length ≤ c0 := HC0.out
                                              have hC47 : Kd.C k33 _ A0 l0.length l0 := HR0.out
                                              have q047 : (0 : Int) ≤ ((ji37) : Int) := of_decide_eq_true (by first | (with_reducible assumption) | assumption)
                                              have hcut47 := cut_from (P := Try.prog) 22 33 .i64 Try.underlying22 hi047 5 hsz47 A0 l0.length c0 (ji37) q047 q47
                                              have hr47 := Kd.C_drop (m := ((ji37) : Int).toNat) (c := c0) hC47 (by omega) hroom47
                                              obtain ⟨A47, hA47⟩ : ∃ A1, A1 = (if c0 = ((ji37) : Int).toNat then A0 else (A0 : Option Addr).map (·.add (((ji37) : Int).toNat * 5))) := ⟨_, rfl⟩
                                              obtain ⟨c47, hc47⟩ : ∃ c1, c1 = c0 - ((ji37) : Int).toNat := ⟨_, rfl⟩
                                              have hy47 : y509.length = l0.length - ((ji37) : Int).toNat := (by rw [Ny509.out, List.length_drop] <;> omega)
                                              rw [show (l0).drop ((ji37) : Int).toNat = y509 from Ny509.out.symm] at hr47
                                              replace hr47 : Kd.C k33 _ A47 y509.length y509 := (by rw [hA47]; exact hr47)
                                              rw [← hy47, ← hA47, ← hc47] at hcut47
                                              have HR512 := Aside0.mk hr47
                                              have HC512 := Aside0.mk (show y509.length ≤ c47 from by rw [hy47, hc47]; exact Nat.sub_le_sub_right hroom47 _)
                                              clear hr47 hC47 hroom47 hi047 hsz47 hc47
                                              have KY47 := Aside0.mk hy47
                                              have KA47 := Aside0.mk hA47
                                              clear hy47 hA47
                                              replace q47 := eq_true q47
                                              refine start_ (n := 14) (S := fun w' => True) (ds := []) #[false, false, false, false, false, false, false, false, false, false, false, false, false, false] (by kernel_rfl) rfl rfl trivial (fun hHeld => ?_); refine with_tabW fencepostlaw18_CfgFences.tab18 fencepostlaw18_CfgFences.bits18 (fun HT_ HW_ => ?_)
                                              generalize wc.drew = w45 at HB HR499 HR512 hHeld ⊢
                                              refine pure_ (i := 1) (N := some 82) (v := ?_) (a' := ?_) #[false, true, false, false, false, false, false, false, false, false, false, false, false, false] rfl rfl (any_of HT_.out (by kernel_rfl)) (fun _ _ _ h => h) (Or.inl ⟨by rfl, ?_⟩) ?_ ?_
                                              rotate_left
                                              · intro w'
                                                go_simp
                                                with_reducible rfl
                                              rotate_left
                                              · simp only [Act.put, List.setIfInBounds_toArray, List.set_cons_zero, List.set_cons_succ, i64_w, i32_w]
                                                rfl
                                              refine pure_ (i := 2) (N := some 83) (v := ?_) (a' := ?_) #[false, true, true, false, false, false, false, false, false, false, false, false, false, false] rfl rfl (any_of HT_.out (by kernel_rfl)) (fun _ _ _ h => h) (Or.inl ⟨by rfl, ?_⟩) ?_ ?_
                                              rotate_left
                                              · intro w'
                                                go_simp
                                                with_reducible rfl
                                              rotate_left
                                              · simp only [Act.put, List.setIfInBounds_toArray, List.set_cons_zero, List.set_cons_succ, i64_w, i32_w]
                                                rfl
                                              refine pure_ (i := 3) (N := some 84) (v := ?_) (a' := ?_) #[false, true, true, true, false, false, false, false, false, false, false, false, false, false] rfl rfl (any_of HT_.out (by kernel_rfl)) (fun _ _ _ h => h) (Or.inl ⟨by rfl, ?_⟩) ?_ ?_
                                              rotate_left
                                              · intro w'
                                                go_simp
                                                with_reducible rfl
                                              rotate_left
                                              · simp only [Act.put, List.setIfInBounds_toArray, List.set_cons_zero, List.set_cons_succ, i64_w, i32_w]
                                                rfl
                                              refine pure_ (i := 5) (N := some 86) (v := ?_) (a' := ?_) #[false, true, true, true, false, true, false, false, false, false, false, false, false, false] rfl rfl (any_of HT_.out (by kernel_rfl)) (fun _ _ _ h => h) (Or.inl ⟨by rfl, ?_⟩) ?_ ?_
                                              rotate_left
                                              · intro w'
                                                go_simp
                                                with_reducible rfl
                                              rotate_left
                                              · simp only [Act.put, List.setIfInBounds_toArray, List.set_cons_zero, List.set_cons_succ, i64_w, i32_w]
                                                rfl
                                              refine pure_ (i := 8) (N := some 89) (v := ?_) (a' := ?_) #[false, true, true, true, false, true, false, false, true, false, false, false, false, false] rfl rfl (any_of HT_.out (by kernel_rfl)) (fun _ _ _ h => h) (Or.inl ⟨by rfl, ?_⟩) ?_ ?_
                                              rotate_left
                                              · intro w'
                                                go_simp
                                                with_reducible rfl
                                              rotate_left
                                              · simp only [Act.put, List.setIfInBounds_toArray, List.set_cons_zero, List.set_cons_succ, i64_w, i32_w]
                                                rfl
                                              refine pure_ (i := 9) (N := some 90) (v := ?_) (a' := ?_) #[false, true, true, true, false, true, false, false, true, true, false, false, false, false] rfl rfl (any_of HT_.out (by kernel_rfl)) (fun _ _ _ h => h) (Or.inl ⟨by rfl, ?_⟩) ?_ ?_
                                              rotate_left
                                              · intro w'
                                                go_simp
                                                with_reducible rfl
                                              rotate_left
                                              · simp only [Act.put, List.setIfInBounds_toArray, List.set_cons_zero, List.set_cons_succ, i64_w, i32_w]
                                                rfl
                                              refine pure_ (i := 10) (N := some 91) (v := ?_) (a' := ?_) #[false, true, true, true, false, true, false, false, true, true, true, false, false, false] rfl rfl (any_of HT_.out (by kernel_rfl)) (fun _ _ _ h => h) (Or.inl ⟨by rfl, ?_⟩) ?_ ?_
                                              rotate_left
                                              · intro w'
                                                go_simp
                                                with_reducible rfl
                                              rotate_left
                                              · simp only [Act.put, List.setIfInBounds_toArray, List.set_cons_zero, List.set_cons_succ, i64_w, i32_w]
                                                rfl
                                              refine pure_ (i := 11) (N := some 92) (v := ?_) (a' := ?_) #[false, true, true, true, false, true, false, false, true, true, true, true, false, false] rfl rfl (any_of HT_.out (by kernel_rfl)) (fun _ _ _ h => h) (Or.inl ⟨by rfl, ?_⟩) ?_ ?_
                                              rotate_left
                                              · intro w'
                                                go_simp
                                                with_reducible rfl
                                              rotate_left
                                              · simp only [Act.put, List.setIfInBounds_toArray, List.set_cons_zero, List.set_cons_succ, i64_w, i32_w]
                                                rfl
                                              refine join_ (σ := Value × Value × Value) 3 #[true, true, true, true, true, true, true, false, true, true, true, true, false, false] (fun s_ => [(81, s_.1), (85, s_.2.1), (87, s_.2.2)]) (fun s_ w' => (Kd.R k33 33 w' w.heap.size (fun k_ => some k_ ≠ (s_.2.2 : Value).ownBlock) s_.2.1 y500) ∧ (Kd.R k33 33 w' w.heap.size (fun k_ => some k_ ≠ (s_.2.1 : Value).ownBlock) s_.2.2 y503) ∧ (Below w.heap.size w w')) ?_ ?_
                                              rotate_left
                                              · intro hCont
                                                refine two_ (i := 0) (j := 6) (Ni := some 81) (Nj := some 87) #[true, true, true, true, false, true, false, false, true, true, true, true, false, false] #[false, true, true, true, false, true, true, false, true, true, true, true, false, false] rfl rfl rfl rfl (two_of HT_.out (by kernel_rfl)) (by decide) (by decide) (fun K hK => ?_) (fun K hK => ?_)
                                                · skip
                                                  refine Kd.R_lit_step k33 _ 33 ?hg (N := 81) ?hd (xs := ([] : List (S33))) (inner := []) (ok := fun _ => True) (okp := fun _ => True) ?hr ?hp (fun _ hk => hk) trivial (Below.refl _ _) (Nat.le_refl _) (by simp) ?_; (case hd => rfl); (case hg => rfl); (case hr => first | (go_simp; done) | (go_simp; rfl)); (case hp => exact (Reps.none _ _))
                                                  intro v494 w48 ho49 hb hg_ hnew_
                                                  clear hg_ hnew_
                                                  (first | rw [← Ny493.out] at ho49 | (simp only [Int.reduceToNat] at ho49; rw [← Ny493.out] at ho49))
                                                  have n0_ := Aside0.mk (Kd.R_lower ho49 (below_size (by repeat (first | (with_reducible first | exact HB.out | apply below_alloc | apply pw_below_drewN | apply below_drew1) | exact HB.out))))
                                                  have n1_ := Aside0.mk (below_step (by repeat (first | (with_reducible first | exact HB.out | apply below_alloc | apply pw_below_drewN | apply below_drew1) | exact HB.out)) hb)
                                                  clear HB
                                                  have HO495 := n0_
                                                  have HB := n1_
                                                  clear n0_ n1_
                                                  clear hb ho49
                                                  refine hK.out _ _ trivial (fun hHeld => ?_)
                                                  clear hK K
                                                  refine norm_ (a' := ?_) ?_ ?_
                                                  rotate_left
                                                  · show Act.put _ (some 81) _ = _
                                                    simp only [Act.put, List.setIfInBounds_toArray, List.set_cons_zero, List.set_cons_succ, i64_w, i32_w]
                                                    rfl
                                                  refine two_ (i := 4) (j := 6) (Ni := some 85) (Nj := some 87) #[true, true, true, true, true, true, false, false, true, true, true, true, false, false] #[true, true, true, true, false, true, true, false, true, true, true, true, false, false] rfl rfl rfl rfl (two_of HT_.out (by kernel_rfl)) (by decide) (by decide) (fun K hK => ?_) (fun K hK => ?_)
                                                  · skip
                                                    refine Kd.R_append_rows_step k33 (w0 := w) w.heap.size (by rfl) (.tmp 81) (.tmp 84) 22 33 (.agg #[(.int .i64 0), (.int .i64 0), (.int .i64 0), (.int .i64 0), (.int .i64 0)]) 40 rfl Try.underlying22 info33 rfl (by decide) (by omega) v494 y493 y496 _ _ _ (fun _ => True) (fun _ => False) rfl rfl ?aO ?aR (fun _ _ h => h) (fun _ h => h.elim) ?aF ?aB ?aS ?aL ?_
                                                    (case aR => repeat (first | exact (Kd.C_below HR499.out HB.out) | (with_reducible refine Kd.C_alloc ?_ _) | (with_reducible refine Kd.C_drewN ?_ _) | (with_reducible refine Kd.C_drew ?_)))
                                                    (case aB => exact (by repeat (first | (with_reducible first | exact HB.out | apply below_alloc | apply pw_below_drewN | apply below_drew1) | exact HB.out)))
                                                    (case aF => exact (fun _ _ => trivial))
                                                    (case aO => exact (by (with_reducible repeat (first | apply Kd.R_alloc | apply Kd.R_drewN | apply Kd.R_drew)); exact HO495.out))
                                                    (case aS => exact (below_size (by repeat (first | (with_reducible first | exact HB.out | apply below_alloc | apply pw_below_drewN | apply below_drew1) | exact HB.out))))
                                                    (case aL => have := LMc35.out; omega)
                                                    intro v501 w50 ho hb hg hat
                                                    rw [← Ny500.out] at ho
                                                    have n0_ := Aside0.mk (hb)
                                                    have n1_ := Aside0.mk (ho)
                                                    clear HB
                                                    clear HO495
                                                    have HB := n0_
                                                    have HO502 := n1_
                                                    clear n0_ n1_
                                                    clear ho hb hg hat
                                                    refine hK.out _ _ trivial (fun hHeld => ?_)
                                                    clear hK K
                                                    refine norm_ (a' := ?_) ?_ ?_
                                                    rotate_left
                                                    · show Act.put _ (some 85) _ = _
                                                      simp only [Act.put, List.setIfInBounds_toArray, List.set_cons_zero, List.set_cons_succ, i64_w, i32_w]
                                                      rfl
                                                    refine one_ (i := 6) (N := some 87) #[true, true, true, true, true, true, true, false, true, true, true, true, false, false] rfl rfl (one_of HT_.out (by kernel_rfl)) (by decide) (fun K hK => ?_)
                                                    refine Kd.R_lit_step k33 _ 33 ?hg (N := 87) ?hd (xs := ([(⟨6, 0, 0, 0, 0⟩ : S33)] : List (S33))) (inner := [.int .i64 6, .int .i64 0, .int .i64 0, .int .i64 0, .int .i64 0]) (ok := fun _ => True) (okp := fun _ => True) ?hr ?hp (fun _ hk => hk) trivial (Below.refl _ _) (Nat.le_refl _) (by simp) ?_; (case hd => rfl); (case hg => rfl); (case hr => first | (go_simp; done) | (go_simp; rfl)); (case hp => exact (Reps.c5 (show Kd.M k33 _ _ _ (⟨6, 0, 0, 0, 0⟩ : S33) [.int .i64 6, .int .i64 0, .int .i64 0, .int .i64 0, .int .i64 0] from (k33_mkM _ _ _ (⟨6, 0, 0, 0, 0⟩ : S33) )) (Reps.none _ _)))
                                                    intro v504 w51 ho52 hb hg_ hnew_
                                                    clear hg_ hnew_
                                                    (first | rw [← Ny503.out] at ho52 | (simp only [Int.reduceToNat] at ho52; rw [← Ny503.out] at ho52))
                                                    have n0_ := Aside0.mk (Kd.R_elder' (by (with_reducible repeat (first | apply Kd.R_alloc | apply Kd.R_drewN | apply Kd.R_drew)); exact HO502.out) (Kd.R_base ho52) hb)
                                                    have n1_ := Aside0.mk (Kd.R_lower (Kd.R_new' ho52 (Kd.R_lt (by (with_reducible repeat (first | apply Kd.R_alloc | apply Kd.R_drewN | apply Kd.R_drew)); exact HO502.out))) (below_size (by repeat (first | (with_reducible first | exact HB.out | apply below_alloc | apply pw_below_drewN | apply below_drew1) | exact HB.out))))
                                                    have n2_ := Aside0.mk (below_step (by repeat (first | (with_reducible first | exact HB.out | apply below_alloc | apply pw_below_drewN | apply below_drew1) | exact HB.out)) hb)
                                                    clear HO502
                                                    clear HB
                                                    have HO502 := n0_
                                                    have HO505 := n1_
                                                    have HB := n2_
                                                    clear n0_ n1_ n2_
                                                    clear hb ho52
                                                    refine hK.out _ _ trivial (fun hHeld => ?_)
                                                    clear hK K
                                                    refine norm_ (a' := ?_) ?_ ?_
                                                    rotate_left
                                                    · show Act.put _ (some 87) _ = _
                                                      simp only [Act.put, List.setIfInBounds_toArray, List.set_cons_zero, List.set_cons_succ, i64_w, i32_w]
                                                      rfl
                                                    exact norm_ (by simp only [putAll, Act.put, List.setIfInBounds_toArray, List.set_cons_zero, List.set_cons_succ]) (hCont (v494, v501, v504) _ ⟨(by (with_reducible repeat (first | apply Kd.R_alloc | apply Kd.R_drewN | apply Kd.R_drew)); exact Kd.R_mono HO502.out (fun _ hk => hk.2)), (by (with_reducible repeat (first | apply Kd.R_alloc | apply Kd.R_drewN | apply Kd.R_drew)); exact Kd.R_mono HO505.out (fun _ hk => hk.2)), (by repeat (first | (with_reducible first | exact HB.out | apply below_alloc | apply pw_below_drewN | apply below_drew1) | exact HB.out))⟩)
                                                  · skip
                                                    refine Kd.R_lit_step k33 _ 33 ?hg (N := 87) ?hd (xs := ([(⟨6, 0, 0, 0, 0⟩ : S33)] : List (S33))) (inner := [.int .i64 6, .int .i64 0, .int .i64 0, .int .i64 0, .int .i64 0]) (ok := fun _ => True) (okp := fun _ => True) ?hr ?hp (fun _ hk => hk) trivial (Below.refl _ _) (Nat.le_refl _) (by simp) ?_; (case hd => rfl); (case hg => rfl); (case hr => first | (go_simp; done) | (go_simp; rfl)); (case hp => exact (Reps.c5 (show Kd.M k33 _ _ _ (⟨6, 0, 0, 0, 0⟩ : S33) [.int .i64 6, .int .i64 0, .int .i64 0, .int .i64 0, .int .i64 0] from (k33_mkM _ _ _ (⟨6, 0, 0, 0, 0⟩ : S33) )) (Reps.none _ _)))
                                                    intro v504 w50 ho51 hb hg_ hnew_
                                                    clear hg_ hnew_
                                                    (first | rw [← Ny503.out] at ho51 | (simp only [Int.reduceToNat] at ho51; rw [← Ny503.out] at ho51))
                                                    have n0_ := Aside0.mk (Kd.R_elder' (by (with_reducible repeat (first | apply Kd.R_alloc | apply Kd.R_drewN | apply Kd.R_drew)); exact HO495.out) (Kd.R_base ho51) hb)
                                                    have n1_ := Aside0.mk (Kd.R_lower (Kd.R_new' ho51 (Kd.R_lt (by (with_reducible repeat (first | apply Kd.R_alloc | apply Kd.R_drewN | apply Kd.R_drew)); exact HO495.out))) (below_size (by repeat (first | (with_reducible first | exact HB.out | apply below_alloc | apply pw_below_drewN | apply below_drew1) | exact HB.out))))
                                                    have n2_ := Aside0.mk (below_step (by repeat (first | (with_reducible first | exact HB.out | apply below_alloc | apply pw_below_drewN | apply below_drew1) | exact HB.out)) hb)
                                                    clear HO495
                                                    clear HB
                                                    have HO495 := n0_
                                                    have HO505 := n1_
                                                    have HB := n2_
                                                    clear n0_ n1_ n2_
                                                    clear hb ho51
                                                    refine hK.out _ _ trivial (fun hHeld => ?_)
                                                    clear hK K
                                                    refine norm_ (a' := ?_) ?_ ?_
                                                    rotate_left
                                                    · show Act.put _ (some 87) _ = _
                                                      simp only [Act.put, List.setIfInBounds_toArray, List.set_cons_zero, List.set_cons_succ, i64_w, i32_w]
                                                      rfl
                                                    refine one_ (i := 4) (N := some 85) #[true, true, true, true, true, true, true, false, true, true, true, true, false, false] rfl rfl (one_of HT_.out (by kernel_rfl)) (by decide) (fun K hK => ?_)
                                                    refine Kd.R_append_rows_step k33 (w0 := w) w.heap.size (by rfl) (.tmp 81) (.tmp 84) 22 33 (.agg #[(.int .i64 0), (.int .i64 0), (.int .i64 0), (.int .i64 0), (.int .i64 0)]) 40 rfl Try.underlying22 info33 rfl (by decide) (by omega) v494 y493 y496 _ _ _ (fun k_ => some k_ ≠ (v504 : Value).ownBlock) (fun _ => False) rfl rfl ?aO ?aR (fun _ _ h => h) (fun _ h => h.elim) ?aF ?aB ?aS ?aL ?_
                                                    (case aR => repeat (first | exact (Kd.C_below HR499.out HB.out) | (with_reducible refine Kd.C_alloc ?_ _) | (with_reducible refine Kd.C_drewN ?_ _) | (with_reducible refine Kd.C_drew ?_)))
                                                    (case aB => exact (by repeat (first | (with_reducible first | exact HB.out | apply below_alloc | apply pw_below_drewN | apply below_drew1) | exact HB.out)))
                                                    (case aF => exact (fun k_ hk => Kd.fresh' (Kd.R_lt (by (with_reducible repeat (first | apply Kd.R_alloc | apply Kd.R_drewN | apply Kd.R_drew)); exact HO505.out)) k_ hk))
                                                    (case aO => exact (by (with_reducible repeat (first | apply Kd.R_alloc | apply Kd.R_drewN | apply Kd.R_drew)); exact Kd.R_mono HO495.out (fun _ hk => hk.2)))
                                                    (case aS => exact (below_size (by repeat (first | (with_reducible first | exact HB.out | apply below_alloc | apply pw_below_drewN | apply below_drew1) | exact HB.out))))
                                                    (case aL => have := LMc35.out; omega)
                                                    intro v501 w52 ho hb hg hat
                                                    rw [← Ny500.out] at ho
                                                    have n0_ := Aside0.mk (Kd.R_after (ok := (fun _ => True)) (by (with_reducible repeat (first | apply Kd.R_alloc | apply Kd.R_drewN | apply Kd.R_drew)); exact HO505.out) hg hat)
                                                    have n1_ := Aside0.mk (hb)
                                                    have n2_ := Aside0.mk (ho)
                                                    clear HO505
                                                    clear HB
                                                    clear HO495
                                                    have HO505 := n0_
                                                    have HB := n1_
                                                    have HO502 := n2_
                                                    clear n0_ n1_ n2_
                                                    clear ho hb hg hat
                                                    refine hK.out _ _ trivial (fun hHeld => ?_)
                                                    clear hK K
                                                    refine norm_ (a' := ?_) ?_ ?_
                                                    rotate_left
                                                    · show Act.put _ (some 85) _ = _
                                                      simp only [Act.put, List.setIfInBounds_toArray, List.set_cons_zero, List.set_cons_succ, i64_w, i32_w]
                                                      rfl
                                                    exact norm_ (by simp only [putAll, Act.put, List.setIfInBounds_toArray, List.set_cons_zero, List.set_cons_succ]) (hCont (v494, v501, v504) _ ⟨(by (with_reducible repeat (first | apply Kd.R_alloc | apply Kd.R_drewN | apply Kd.R_drew)); exact HO502.out), (by (with_reducible repeat (first | apply Kd.R_alloc | apply Kd.R_drewN | apply Kd.R_drew)); exact Kd.R_mono HO505.out (fun _ hk => hk.2)), (by repeat (first | (with_reducible first | exact HB.out | apply below_alloc | apply pw_below_drewN | apply below_drew1) | exact HB.out))⟩)
                                                · skip
                                                  refine Kd.R_lit_step k33 _ 33 ?hg (N := 87) ?hd (xs := ([(⟨6, 0, 0, 0, 0⟩ : S33)] : List (S33))) (inner := [.int .i64 6, .int .i64 0, .int .i64 0, .int .i64 0, .int .i64 0]) (ok := fun _ => True) (okp := fun _ => True) ?hr ?hp (fun _ hk => hk) trivial (Below.refl _ _) (Nat.le_refl _) (by simp) ?_; (case hd => rfl); (case hg => rfl); (case hr => first | (go_simp; done) | (go_simp; rfl)); (case hp => exact (Reps.c5 (show Kd.M k33 _ _ _ (⟨6, 0, 0, 0, 0⟩ : S33) [.int .i64 6, .int .i64 0, .int .i64 0, .int .i64 0, .int .i64 0] from (k33_mkM _ _ _ (⟨6, 0, 0, 0, 0⟩ : S33) )) (Reps.none _ _)))
                                                  intro v504 w48 ho49 hb hg_ hnew_
                                                  clear hg_ hnew_
                                                  (first | rw [← Ny503.out] at ho49 | (simp only [Int.reduceToNat] at ho49; rw [← Ny503.out] at ho49))
                                                  have n0_ := Aside0.mk (Kd.R_lower ho49 (below_size (by repeat (first | (with_reducible first | exact HB.out | apply below_alloc | apply pw_below_drewN | apply below_drew1) | exact HB.out))))
                                                  have n1_ := Aside0.mk (below_step (by repeat (first | (with_reducible first | exact HB.out | apply below_alloc | apply pw_below_drewN | apply below_drew1) | exact HB.out)) hb)
                                                  clear HB
                                                  have HO505 := n0_
                                                  have HB := n1_
                                                  clear n0_ n1_
                                                  clear hb ho49
                                                  refine hK.out _ _ trivial (fun hHeld => ?_)
                                                  clear hK K
                                                  refine norm_ (a' := ?_) ?_ ?_
                                                  rotate_left
                                                  · show Act.put _ (some 87) _ = _
                                                    simp only [Act.put, List.setIfInBounds_toArray, List.set_cons_zero, List.set_cons_succ, i64_w, i32_w]
                                                    rfl
                                                  refine one_ (i := 0) (N := some 81) #[true, true, true, true, false, true, true, false, true, true, true, true, false, false] rfl rfl (one_of HT_.out (by kernel_rfl)) (by decide) (fun K hK => ?_)
                                                  refine Kd.R_lit_step k33 _ 33 ?hg (N := 81) ?hd (xs := ([] : List (S33))) (inner := []) (ok := fun _ => True) (okp := fun _ => True) ?hr ?hp (fun _ hk => hk) trivial (Below.refl _ _) (Nat.le_refl _) (by simp) ?_; (case hd => rfl); (case hg => rfl); (case hr => first | (go_simp; done) | (go_simp; rfl)); (case hp => exact (Reps.none _ _))
                                                  intro v494 w50 ho51 hb hg_ hnew_
                                                  clear hg_ hnew_
                                                  (first | rw [← Ny493.out] at ho51 | (simp only [Int.reduceToNat] at ho51; rw [← Ny493.out] at ho51))
                                                  have n0_ := Aside0.mk (Kd.R_elder' (by (with_reducible repeat (first | apply Kd.R_alloc | apply Kd.R_drewN | apply Kd.R_drew)); exact HO505.out) (Kd.R_base ho51) hb)
                                                  have n1_ := Aside0.mk (Kd.R_lower (Kd.R_new' ho51 (Kd.R_lt (by (with_reducible repeat (first | apply Kd.R_alloc | apply Kd.R_drewN | apply Kd.R_drew)); exact HO505.out))) (below_size (by repeat (first | (with_reducible first | exact HB.out | apply below_alloc | apply pw_below_drewN | apply below_drew1) | exact HB.out))))
                                                  have n2_ := Aside0.mk (below_step (by repeat (first | (with_reducible first | exact HB.out | apply below_alloc | apply pw_below_drewN | apply below_drew1) | exact HB.out)) hb)
                                                  clear HO505
                                                  clear HB
                                                  have HO505 := n0_
                                                  have HO495 := n1_
                                                  have HB := n2_
                                                  clear n0_ n1_ n2_
                                                  clear hb ho51
                                                  refine hK.out _ _ trivial (fun hHeld => ?_)
                                                  clear hK K
                                                  refine norm_ (a' := ?_) ?_ ?_
                                                  rotate_left
                                                  · show Act.put _ (some 81) _ = _
                                                    simp only [Act.put, List.setIfInBounds_toArray, List.set_cons_zero, List.set_cons_succ, i64_w, i32_w]
                                                    rfl
                                                  refine one_ (i := 4) (N := some 85) #[true, true, true, true, true, true, true, false, true, true, true, true, false, false] rfl rfl (one_of HT_.out (by kernel_rfl)) (by decide) (fun K hK => ?_)
                                                  refine Kd.R_append_rows_step k33 (w0 := w) w.heap.size (by rfl) (.tmp 81) (.tmp 84) 22 33 (.agg #[(.int .i64 0), (.int .i64 0), (.int .i64 0), (.int .i64 0), (.int .i64 0)]) 40 rfl Try.underlying22 info33 rfl (by decide) (by omega) v494 y493 y496 _ _ _ (fun k_ => some k_ ≠ (v504 : Value).ownBlock) (fun _ => False) rfl rfl ?aO ?aR (fun _ _ h => h) (fun _ h => h.elim) ?aF ?aB ?aS ?aL ?_
                                                  (case aR => repeat (first | exact (Kd.C_below HR499.out HB.out) | (with_reducible refine Kd.C_alloc ?_ _) | (with_reducible refine Kd.C_drewN ?_ _) | (with_reducible refine Kd.C_drew ?_)))
                                                  (case aB => exact (by repeat (first | (with_reducible first | exact HB.out | apply below_alloc | apply pw_below_drewN | apply below_drew1) | exact HB.out)))
                                                  (case aF => exact (fun k_ hk => Kd.fresh' (Kd.R_lt (by (with_reducible repeat (first | apply Kd.R_alloc | apply Kd.R_drewN | apply Kd.R_drew)); exact HO505.out)) k_ hk))
                                                  (case aO => exact (by (with_reducible repeat (first | apply Kd.R_alloc | apply Kd.R_drewN | apply Kd.R_drew)); exact Kd.R_mono HO495.out (fun _ hk => hk.2)))
                                                  (case aS => exact (below_size (by repeat (first | (with_reducible first | exact HB.out | apply below_alloc | apply pw_below_drewN | apply below_drew1) | exact HB.out))))
                                                  (case aL => have := LMc35.out; omega)
                                                  intro v501 w52 ho hb hg hat
                                                  rw [← Ny500.out] at ho
                                                  have n0_ := Aside0.mk (Kd.R_after (ok := (fun _ => True)) (by (with_reducible repeat (first | apply Kd.R_alloc | apply Kd.R_drewN | apply Kd.R_drew)); exact HO505.out) hg hat)
                                                  have n1_ := Aside0.mk (hb)
                                                  have n2_ := Aside0.mk (ho)
                                                  clear HO505
                                                  clear HB
                                                  clear HO495
                                                  have HO505 := n0_
                                                  have HB := n1_
                                                  have HO502 := n2_
                                                  clear n0_ n1_ n2_
                                                  clear ho hb hg hat
                                                  refine hK.out _ _ trivial (fun hHeld => ?_)
                                                  clear hK K
                                                  refine norm_ (a' := ?_) ?_ ?_
                                                  rotate_left
                                                  · show Act.put _ (some 85) _ = _
                                                    simp only [Act.put, List.setIfInBounds_toArray, List.set_cons_zero, List.set_cons_succ, i64_w, i32_w]
                                                    rfl
                                                  exact norm_ (by simp only [putAll, Act.put, List.setIfInBounds_toArray, List.set_cons_zero, List.set_cons_succ]) (hCont (v494, v501, v504) _ ⟨(by (with_reducible repeat (first | apply Kd.R_alloc | apply Kd.R_drewN | apply Kd.R_drew)); exact HO502.out), (by (with_reducible repeat (first | apply Kd.R_alloc | apply Kd.R_drewN | apply Kd.R_drew)); exact Kd.R_mono HO505.out (fun _ hk => hk.2)), (by repeat (first | (with_reducible first | exact HB.out | apply below_alloc | apply pw_below_drewN | apply below_drew1) | exact HB.out))⟩)
                                              rintro ⟨v494, v501, v504⟩ w53 ⟨h0_, h1_, h2_⟩
                                              have n0_ : Aside0 (Kd.R k33 33 w53 w.heap.size (fun k_ => some k_ ≠ (v504 : Value).ownBlock) v501 y500) := ⟨h0_⟩
                                              have n1_ : Aside0 (Kd.R k33 33 w53 w.heap.size (fun k_ => some k_ ≠ (v501 : Value).ownBlock) v504 y503) := ⟨h1_⟩
                                              have n2_ : Aside0 (Below w.heap.size w w53) := ⟨h2_⟩
                                              clear HB
                                              clear h0_ h1_ h2_
                                              have HO502 := n0_
                                              have HO505 := n1_
                                              have HB := n2_
                                              clear n0_ n1_ n2_
                                              have hHeld := trivial
                                              obtain ⟨Ao55, co55, eo55⟩ := Kd.R_slice HO505.out
                                              (first | subst eo55 | (injection eo55 with f1_ f2_ f3_; have f4_ := f1_.symm; have f5_ := f3_.symm; clear f1_ f2_ f3_; subst f4_; subst f5_))
                                              refine norm_ (a' := ?_) ?_ ?_
                                              rotate_left
                                              · simp only [putAll, Act.put, List.setIfInBounds_toArray, List.set_cons_zero, List.set_cons_succ]
                                                rfl
                                              refine one_ (i := 7) (N := some 88) #[true, true, true, true, true, true, true, true, true, true, true, true, false, false] rfl rfl (one_of HT_.out (by kernel_rfl)) (by decide) (fun K hK => ?_)
                                              refine Kd.R_append_rows_step k33 (w0 := w) w.heap.size (by rfl) (.tmp 85) (.tmp 87) 22 33 (.agg #[(.int .i64 0), (.int .i64 0), (.int .i64 0), (.int .i64 0), (.int .i64 0)]) 40 rfl Try.underlying22 info33 rfl (by decide) (by omega) v501 y500 y503 _ _ _ (fun k_ => some k_ ≠ (.slice Ao55 y503.length co55 : Value).ownBlock) (fun _ => False) rfl rfl ?aO ?aR (fun _ _ h => h) (fun _ h => h.elim) ?aF ?aB ?aS ?aL ?_
                                              (case aR => repeat (first | exact (Kd.R_reads' HO505.out).2.2 | (with_reducible refine Kd.C_alloc ?_ _) | (with_reducible refine Kd.C_drewN ?_ _) | (with_reducible refine Kd.C_drew ?_)))
                                              (case aB => exact (by repeat (first | (with_reducible first | exact HB.out | apply below_alloc | apply pw_below_drewN | apply below_drew1) | exact HB.out)))
                                              (case aF => exact (fun k_ hk => Kd.fresh' (Kd.R_lt (by (with_reducible repeat (first | apply Kd.R_alloc | apply Kd.R_drewN | apply Kd.R_drew)); exact HO505.out)) k_ hk))
                                              (case aO => exact (by (with_reducible repeat (first | apply Kd.R_alloc | apply Kd.R_drewN | apply Kd.R_drew)); exact HO502.out))
                                              (case aS => exact (below_size (by repeat (first | (with_reducible first | exact HB.out | apply below_alloc | apply pw_below_drewN | apply below_drew1) | exact HB.out))))
                                              (case aL => have := LMc36.out; omega)
                                              intro v507 w54 ho hb hg hat
                                              rw [← Ny506.out] at ho
                                              have n0_ := Aside0.mk (Kd.R_after (ok := (fun _ => True)) (by (with_reducible repeat (first | apply Kd.R_alloc | apply Kd.R_drewN | apply Kd.R_drew)); exact Kd.R_mono HO505.out (fun _ hk => ⟨trivial, hk⟩)) hg hat)
                                              have n1_ := Aside0.mk (hb)
                                              have n2_ := Aside0.mk (ho)
                                              clear HO505
                                              clear HB
                                              clear HO502
                                              have HO505 := n0_
                                              have HB := n1_
                                              have HO508 := n2_
                                              clear n0_ n1_ n2_
                                              clear ho hb hg hat
                                              refine hK.out _ _ trivial (fun hHeld => ?_)
                                              clear hK K
                                              refine norm_ (a' := ?_) ?_ ?_
                                              rotate_left
                                              · show Act.put _ (some 88) _ = _
                                                simp only [Act.put, List.setIfInBounds_toArray, List.set_cons_zero, List.set_cons_succ, i64_w, i32_w]
                                                rfl
                                              refine one_ (i := 12) (N := some 93) #[true, true, true, true, true, true, true, true, true, true, true, true, true, false] rfl rfl (one_of HT_.out (by kernel_rfl)) (by decide) (fun K hK => ?_)
                                              refine Kd.R_append_rows_step k33 (w0 := w) w.heap.size (by rfl) (.tmp 88) (.tmp 92) 22 33 (.agg #[(.int .i64 0), (.int .i64 0), (.int .i64 0), (.int .i64 0), (.int .i64 0)]) 40 rfl Try.underlying22 info33 rfl (by decide) (by omega) v507 y506 y509 _ _ _ (fun k_ => some k_ ≠ (.slice Ao55 y503.length co55 : Value).ownBlock) (fun _ => False) rfl rfl ?aO ?aR (fun _ _ h => h) (fun _ h => h.elim) ?aF ?aB ?aS ?aL ?_
                                              (case aR => repeat (first | exact (Kd.C_below HR512.out HB.out) | (with_reducible refine Kd.C_alloc ?_ _) | (with_reducible refine Kd.C_drewN ?_ _) | (with_reducible refine Kd.C_drew ?_)))
                                              (case aB => exact (by repeat (first | (with_reducible first | exact HB.out | apply below_alloc | apply pw_below_drewN | apply below_drew1) | exact HB.out)))
                                              (case aF => exact (fun k_ hk => Kd.fresh' (Kd.R_lt (by (with_reducible repeat (first | apply Kd.R_alloc | apply Kd.R_drewN | apply Kd.R_drew)); exact HO505.out)) k_ hk))
                                              (case aO => exact (by (with_reducible repeat (first | apply Kd.R_alloc | apply Kd.R_drewN | apply Kd.R_drew)); exact HO508.out))
                                              (case aS => exact (below_size (by repeat (first | (with_reducible first | exact HB.out | apply below_alloc | apply pw_below_drewN | apply below_drew1) | exact HB.out))))
                                              (case aL => have := LMc40.out; omega)
                                              intro v514 w56 ho hb hg hat
                                              rw [← Ny513.out] at ho
                                              have n0_ := Aside0.mk (Kd.R_after (ok := (fun _ => True)) (by (with_reducible repeat (first | apply Kd.R_alloc | apply Kd.R_drewN | apply Kd.R_drew)); exact HO505.out) hg hat)
                                              have n1_ := Aside0.mk (hb)
                                              have n2_ := Aside0.mk (ho)
                                              clear HO505
                                              clear HB
                                              clear HO508
                                              have HO505 := n0_
                                              have HB := n1_
                                              have HO515 := n2_
                                              clear n0_ n1_ n2_
                                              clear ho hb hg hat
                                              refine hK.out _ _ trivial (fun hHeld => ?_)
                                              clear hK K
                                              refine norm_ (a' := ?_) ?_ ?_
                                              rotate_left
                                              · show Act.put _ (some 93) _ = _
                                                simp only [Act.put, List.setIfInBounds_toArray, List.set_cons_zero, List.set_cons_succ, i64_w, i32_w]
                                                rfl
                                              refine pure_ (i := 13) (N := some 16) (v := ?_) (a' := ?_) #[true, true, true, true, true, true, true, true, true, true, true, true, true, true] rfl rfl (any_of HT_.out (by kernel_rfl)) (fun _ _ _ h => h) (Or.inl ⟨by rfl, ?_⟩) ?_ ?_
                                              rotate_left
                                              · intro w'
                                                go_simp
                                                with_reducible rfl
                                              rotate_left
                                              · simp only [Act.put, List.setIfInBounds_toArray, List.set_cons_zero, List.set_cons_succ, i64_w, i32_w]
                                                rfl
                                              refine done_ (done_of HT_.out (by kernel_rfl)) ?_
                                              obtain ⟨Ao57, co57, eo57⟩ := Kd.R_slice HO515.out
                                              subst eo57
                                              try go_wp2_with (first | (go_at_call 22; (with_reducible refine (cfg_Reach.calls _ _ y513 (Int.tmod (wrap64 (a2)) (l0.length : Int)) (Int.tmod (wrap64 (a3)) (wrap64 ((l0.length : Int) + 1))) t516 _ ?side1 ?side2 A42.out).mono ?_); (case side1 => repeat (first | exact (Kd.R_reads' HO515.out).2.2 | (with_reducible refine Kd.C_alloc ?_ _) | (with_reducible refine Kd.C_drewN ?_ _) | (with_reducible refine Kd.C_drew ?_))); (case side2 => exact (Kd.R_reads' HO515.out).2.1); rintro e w58 ⟨rfl, hb⟩; have n0_ := Aside0.mk (Kd.R_below (by (with_reducible repeat (first | apply Kd.R_alloc | apply Kd.R_drewN | apply Kd.R_drew)); exact HO505.out) hb); have n1_ := Aside0.mk (Kd.R_below (by (with_reducible repeat (first | apply Kd.R_alloc | apply Kd.R_drewN | apply Kd.R_drew)); exact HO515.out) hb); have n2_ := Aside0.mk (below_step (by repeat (first | (with_reducible first | exact HB.out | apply below_alloc | apply pw_below_drewN | apply below_drew1) | exact HB.out)) hb); clear HO505; clear HO515; clear HB; have HO505 := n0_; have HO515 := n1_; have HB := n2_; clear n0_ n1_ n2_; (try clear hb); (try clear hb2); (try clear hk); (try clear hi)))
                                              go_ret
                                              exact ⟨by first | rfl | (simp [errW_none, errW_some] <;> rfl) | (simp only [← hji32, ← hji37]; first | rfl | (simp [errW_none, errW_some] <;> rfl)) | (simp [*, errW_none, errW_some] <;> rfl), by repeat (first | (with_reducible first | exact HB.out | apply below_alloc | apply pw_below_drewN | apply below_drew1) | exact HB.out)⟩
                                            · rw [if_neg c44] at H
                                              have c44b0 : decide ((ji32) ≤ (Int.tmod (wrap64 (a2)) (l0.length : Int))) = false := decide_eq_false c44
                                              clear c44
                                              by_cases c59 : (ji32) ≥ (Int.tmod (wrap64 (a3)) (wrap64 ((l0.length : Int) + 1)))
                                              · rw [if_pos c59] at H
                                                have c59b0 : decide ((Int.tmod (wrap64 (a3)) (wrap64 ((l0.length : Int) + 1))) ≤ (ji32)) = true := decide_eq_true c59
                                                clear c59
                                                obtain rfl := Option.some.inj H
                                                try go_wp2
                                                have n0_ := Aside0.mk (below_drew1 HB.out)
                                                clear HB
                                                have HB := n0_
                                                clear n0_
                                                have q61 : ((ji32) : Int) ≤ ((l0.length : Int) : Int) := of_decide_eq_true (by first | (with_reducible assumption) | assumption)
                                                obtain ⟨i061, hi061, _, hsz61, _⟩ := info_parts info33
                                                have hroom61 : l0.length ≤ c0 := HC0.out
                                                have hC61 : Kd.C k33 _ A0 l0.length l0 := HR0.out
                                                have hcut61 := cut_to (P := Try.prog) 22 33 .i64 Try.underlying22 hi061 A0 l0.length c0 (ji32) (of_decide_eq_true (by first | (with_reducible assumption) | assumption)) q61 hroom61
                                                have hr61 := Kd.C_take (m := ((ji32) : Int).toNat) hC61 (by omega)
                                                have hy61 : y496.length = ((ji32) : Int).toNat := (by rw [Ny496.out, List.length_take]; omega)
                                                rw [← Ny496.out] at hr61
                                                rw [← hy61] at hcut61
                                                have HR499 := Aside0.mk hr61
                                                have HC499 := Aside0.mk (show y496.length ≤ c0 from by omega)
                                                clear hr61 hC61 hroom61 hi061 hsz61
                                                have KY61 := Aside0.mk hy61
                                                clear hy61
                                                replace q61 := eq_true q61
                                                have q62 : ((ji37) : Int) ≤ ((l0.length : Int) : Int) := of_decide_eq_true (by first | (with_reducible assumption) | assumption)
                                                obtain ⟨i062, hi062, _, hsz62, _⟩ := info_parts info33
                                                have hroom62 : l0.length ≤ c0 := HC0.out
                                                have hC62 : Kd.C k33 _ A0 l0.length l0 := HR0.out
                                                have q062 : (0 : Int) ≤ ((ji37) : Int) := of_decide_eq_true (by first | (with_reducible assumption) | assumption)
                                                have hcut62 := cut_from (P := Try.prog) 22 33 .i64 Try.underlying22 hi062 5 hsz62 A0 l0.length c0 (ji37) q062 q62
                                                have hr62 := Kd.C_drop (m := ((ji37) : Int).toNat) (c := c0) hC62 (by omega) hroom62
                                                obtain ⟨A62, hA62⟩ : ∃ A1, A1 = (if c0 = ((ji37) : Int).toNat then A0 else (A0 : Option Addr).map (·.add (((ji37) : Int).toNat * 5))) := ⟨_, rfl⟩
                                                obtain ⟨c62, hc62⟩ : ∃ c1, c1 = c0 - ((ji37) : Int).toNat := ⟨_, rfl⟩
                                                have hy62 : y509.length = l0.length - ((ji37) : Int).toNat := (by rw [Ny509.out, List.length_drop] <;> omega)
                                                rw [show (l0).drop ((ji37) : Int).toNat = y509 from Ny509.out.symm] at hr62
                                                replace hr62 : Kd.C k33 _ A62 y509.length y509 := (by rw [hA62]; exact hr62)
                                                rw [← hy62, ← hA62, ← hc62] at hcut62
                                                have HR512 := Aside0.mk hr62
                                                have HC512 := Aside0.mk (show y509.length ≤ c62 from by rw [hy62, hc62]; exact Nat.sub_le_sub_right hroom62 _)
                                                clear hr62 hC62 hroom62 hi062 hsz62 hc62
                                                have KY62 := Aside0.mk hy62
                                                have KA62 := Aside0.mk hA62
                                                clear hy62 hA62
                                                replace q62 := eq_true q62
                                                refine start_ (n := 14) (S := fun w' => True) (ds := []) #[false, false, false, false, false, false, false, false, false, false, false, false, false, false] (by kernel_rfl) rfl rfl trivial (fun hHeld => ?_); refine with_tabW fencepostlaw18_CfgFences.tab18 fencepostlaw18_CfgFences.bits18 (fun HT_ HW_ => ?_)
                                                generalize wc.drew = w60 at HB HR499 HR512 hHeld ⊢
                                                refine pure_ (i := 1) (N := some 82) (v := ?_) (a' := ?_) #[false, true, false, false, false, false, false, false, false, false, false, false, false, false] rfl rfl (any_of HT_.out (by kernel_rfl)) (fun _ _ _ h => h) (Or.inl ⟨by rfl, ?_⟩) ?_ ?_
                                                rotate_left
                                                · intro w'
                                                  go_simp
                                                  with_reducible rfl
                                                rotate_left
                                                · simp only [Act.put, List.setIfInBounds_toArray, List.set_cons_zero, List.set_cons_succ, i64_w, i32_w]
                                                  rfl
                                                refine pure_ (i := 2) (N := some 83) (v := ?_) (a' := ?_) #[false, true, true, false, false, false, false, false, false, false, false, false, false, false] rfl rfl (any_of HT_.out (by kernel_rfl)) (fun _ _ _ h => h) (Or.inl ⟨by rfl, ?_⟩) ?_ ?_
                                                rotate_left
                                                · intro w'
                                                  go_simp
                                                  with_reducible rfl
                                                rotate_left
                                                · simp only [Act.put, List.setIfInBounds_toArray, List.set_cons_zero, List.set_cons_succ, i64_w, i32_w]
                                                  rfl
                                                refine pure_ (i := 3) (N := some 84) (v := ?_) (a' := ?_) #[false, true, true, true, false, false, false, false, false, false, false, false, false, false] rfl rfl (any_of HT_.out (by kernel_rfl)) (fun _ _ _ h => h) (Or.inl ⟨by rfl, ?_⟩) ?_ ?_
                                                rotate_left
                                                · intro w'
                                                  go_simp
                                                  with_reducible rfl
                                                rotate_left
                                                · simp only [Act.put, List.setIfInBounds_toArray, List.set_cons_zero, List.set_cons_succ, i64_w, i32_w]
                                                  rfl
                                                refine pure_ (i := 5) (N := some 86) (v := ?_) (a' := ?_) #[false, true, true, true, false, true, false, false, false, false, false, false, false, false] rfl rfl (any_of HT_.out (by kernel_rfl)) (fun _ _ _ h => h) (Or.inl ⟨by rfl, ?_⟩) ?_ ?_
                                                rotate_left
                                                · intro w'
                                                  go_simp
                                                  with_reducible rfl
                                                rotate_left
                                                · simp only [Act.put, List.setIfInBounds_toArray, List.set_cons_zero, List.set_cons_succ, i64_w, i32_w]
                                                  rfl
                                                refine pure_ (i := 8) (N := some 89) (v := ?_) (a' := ?_) #[false, true, true, true, false, true, false, false, true, false, false, false, false, false] rfl rfl (any_of HT_.out (by kernel_rfl)) (fun _ _ _ h => h) (Or.inl ⟨by rfl, ?_⟩) ?_ ?_
                                                rotate_left
                                                · intro w'
                                                  go_simp
                                                  with_reducible rfl
                                                rotate_left
                                                · simp only [Act.put, List.setIfInBounds_toArray, List.set_cons_zero, List.set_cons_succ, i64_w, i32_w]
                                                  rfl
                                                refine pure_ (i := 9) (N := some 90) (v := ?_) (a' := ?_) #[false, true, true, true, false, true, false, false, true, true, false, false, false, false] rfl rfl (any_of HT_.out (by kernel_rfl)) (fun _ _ _ h => h) (Or.inl ⟨by rfl, ?_⟩) ?_ ?_
                                                rotate_left
                                                · intro w'
                                                  go_simp
                                                  with_reducible rfl
                                                rotate_left
                                                · simp only [Act.put, List.setIfInBounds_toArray, List.set_cons_zero, List.set_cons_succ, i64_w, i32_w]
                                                  rfl
                                                refine pure_ (i := 10) (N := some 91) (v := ?_) (a' := ?_) #[false, true, true, true, false, true, false, false, true, true, true, false, false, false] rfl rfl (any_of HT_.out (by kernel_rfl)) (fun _ _ _ h => h) (Or.inl ⟨by rfl, ?_⟩) ?_ ?_
                                                rotate_left
                                                · intro w'
                                                  go_simp
                                                  with_reducible rfl
                                                rotate_left
                                                · simp only [Act.put, List.setIfInBounds_toArray, List.set_cons_zero, List.set_cons_succ, i64_w, i32_w]
                                                  rfl
                                                refine pure_ (i := 11) (N := some 92) (v := ?_) (a' := ?_) #[false, true, true, true, false, true, false, false, true, true, true, true, false, false] rfl rfl (any_of HT_.out (by kernel_rfl)) (fun _ _ _ h => h) (Or.inl ⟨by rfl, ?_⟩) ?_ ?_
                                                rotate_left
                                                · intro w'
                                                  go_simp
                                                  with_reducible rfl
                                                rotate_left
                                                · simp only [Act.put, List.setIfInBounds_toArray, List.set_cons_zero, List.set_cons_succ, i64_w, i32_w]
                                                  rfl
                                                refine join_ (σ := Value × Value × Value) 3 #[true, true, true, true, true, true, true, false, true, true, true, true, false, false] (fun s_ => [(81, s_.1), (85, s_.2.1), (87, s_.2.2)]) (fun s_ w' => (Kd.R k33 33 w' w.heap.size (fun k_ => some k_ ≠ (s_.2.2 : Value).ownBlock) s_.2.1 y500) ∧ (Kd.R k33 33 w' w.heap.size (fun k_ => some k_ ≠ (s_.2.1 : Value).ownBlock) s_.2.2 y503) ∧ (Below w.heap.size w w')) ?_ ?_
                                                rotate_left
                                                · intro hCont
                                                  refine two_ (i := 0) (j := 6) (Ni := some 81) (Nj := some 87) #[true, true, true, true, false, true, false, false, true, true, true, true, false, false] #[false, true, true, true, false, true, true, false, true, true, true, true, false, false] rfl rfl rfl rfl (two_of HT_.out (by kernel_rfl)) (by decide) (by decide) (fun K hK => ?_) (fun K hK => ?_)
                                                  · skip
                                                    refine Kd.R_lit_step k33 _ 33 ?hg (N := 81) ?hd (xs := ([] : List (S33))) (inner := []) (ok := fun _ => True) (okp := fun _ => True) ?hr ?hp (fun _ hk => hk) trivial (Below.refl _ _) (Nat.le_refl _) (by simp) ?_; (case hd => rfl); (case hg => rfl); (case hr => first | (go_simp; done) | (go_simp; rfl)); (case hp => exact (Reps.none _ _))
                                                    intro v494 w63 ho64 hb hg_ hnew_
                                                    clear hg_ hnew_
                                                    (first | rw [← Ny493.out] at ho64 | (simp only [Int.reduceToNat] at ho64; rw [← Ny493.out] at ho64))
                                                    have n0_ := Aside0.mk (Kd.R_lower ho64 (below_size (by repeat (first | (with_reducible first | exact HB.out | apply below_alloc | apply pw_below_drewN | apply below_drew1) | exact HB.out))))
                                                    have n1_ := Aside0.mk (below_step (by repeat (first | (with_reducible first | exact HB.out | apply below_alloc | apply pw_below_drewN | apply below_drew1) | exact HB.out)) hb)
                                                    clear HB
                                                    have HO495 := n0_
                                                    have HB := n1_
                                                    clear n0_ n1_
                                                    clear hb ho64
                                                    refine hK.out _ _ trivial (fun hHeld => ?_)
                                                    clear hK K
                                                    refine norm_ (a' := ?_) ?_ ?_
                                                    rotate_left
                                                    · show Act.put _ (some 81) _ = _
                                                      simp only [Act.put, List.setIfInBounds_toArray, List.set_cons_zero, List.set_cons_succ, i64_w, i32_w]
                                                      rfl
                                                    refine two_ (i := 4) (j := 6) (Ni := some 85) (Nj := some 87) #[true, true, true, true, true, true, false, false, true, true, true, true, false, false] #[true, true, true, true, false, true, true, false, true, true, true, true, false, false] rfl rfl rfl rfl (two_of HT_.out (by kernel_rfl)) (by decide) (by decide) (fun K hK => ?_) (fun K hK => ?_)
                                                    · skip
                                                      refine Kd.R_append_rows_step k33 (w0 := w) w.heap.size (by rfl) (.tmp 81) (.tmp 84) 22 33 (.agg #[(.int .i64 0), (.int .i64 0), (.int .i64 0), (.int .i64 0), (.int .i64 0)]) 40 rfl Try.underlying22 info33 rfl (by decide) (by omega) v494 y493 y496 _ _ _ (fun _ => True) (fun _ => False) rfl rfl ?aO ?aR (fun _ _ h => h) (fun _ h => h.elim) ?aF ?aB ?aS ?aL ?_
                                                      (case aR => repeat (first | exact (Kd.C_below HR499.out HB.out) | (with_reducible refine Kd.C_alloc ?_ _) | (with_reducible refine Kd.C_drewN ?_ _) | (with_reducible refine Kd.C_drew ?_)))
                                                      (case aB => exact (by repeat (first | (with_reducible first | exact HB.out | apply below_alloc | apply pw_below_drewN | apply below_drew1) | exact HB.out)))
                                                      (case aF => exact (fun _ _ => trivial))
                                                      (case aO => exact (by (with_reducible repeat (first | apply Kd.R_alloc | apply Kd.R_drewN | apply Kd.R_drew)); exact HO495.out))
                                                      (case aS => exact (below_size (by repeat (first | (with_reducible first | exact HB.out | apply below_alloc | apply pw_below_drewN | apply below_drew1) | exact HB.out))))
                                                      (case aL => have := LMc35.out; omega)
                                                      intro v501 w65 ho hb hg hat
                                                      rw [← Ny500.out] at ho
                                                      have n0_ := Aside0.mk (hb)
                                                      have n1_ := Aside0.mk (ho)
                                                      clear HB
                                                      clear HO495
                                                      have HB := n0_
                                                      have HO502 := n1_
                                                      clear n0_ n1_
                                                      clear ho hb hg hat
                                                      refine hK.out _ _ trivial (fun hHeld => ?_)
                                                      clear hK K
                                                      refine norm_ (a' := ?_) ?_ ?_
                                                      rotate_left
                                                      · show Act.put _ (some 85) _ = _
                                                        simp only [Act.put, List.setIfInBounds_toArray, List.set_cons_zero, List.set_cons_succ, i64_w, i32_w]
                                                        rfl
                                                      refine one_ (i := 6) (N := some 87) #[true, true, true, true, true, true, true, false, true, true, true, true, false, false] rfl rfl (one_of HT_.out (by kernel_rfl)) (by decide) (fun K hK => ?_)
                                                      refine Kd.R_lit_step k33 _ 33 ?hg (N := 87) ?hd (xs := ([(⟨6, 0, 0, 0, 0⟩ : S33)] : List (S33))) (inner := [.int .i64 6, .int .i64 0, .int .i64 0, .int .i64 0, .int .i64 0]) (ok := fun _ => True) (okp := fun _ => True) ?hr ?hp (fun _ hk => hk) trivial (Below.refl _ _) (Nat.le_refl _) (by simp) ?_; (case hd => rfl); (case hg => rfl); (case hr => first | (go_simp; done) | (go_simp; rfl)); (case hp => exact (Reps.c5 (show Kd.M k33 _ _ _ (⟨6, 0, 0, 0, 0⟩ : S33) [.int .i64 6, .int .i64 0, .int .i64 0, .int .i64 0, .int .i64 0] from (k33_mkM _ _ _ (⟨6, 0, 0, 0, 0⟩ : S33) )) (Reps.none _ _)))
                                                      intro v504 w66 ho67 hb hg_ hnew_
                                                      clear hg_ hnew_
                                                      (first | rw [← Ny503.out] at ho67 | (simp only [Int.reduceToNat] at ho67; rw [← Ny503.out] at ho67))
                                                      have n0_ := Aside0.mk (Kd.R_elder' (by (with_reducible repeat (first | apply Kd.R_alloc | apply Kd.R_drewN | apply Kd.R_drew)); exact HO502.out) (Kd.R_base ho67) hb)
                                                      have n1_ := Aside0.mk (Kd.R_lower (Kd.R_new' ho67 (Kd.R_lt (by (with_reducible repeat (first | apply Kd.R_alloc | apply Kd.R_drewN | apply Kd.R_drew)); exact HO502.out))) (below_size (by repeat (first | (with_reducible first | exact HB.out | apply below_alloc | apply pw_below_drewN | apply below_drew1) | exact HB.out))))
                                                      have n2_ := Aside0.mk (below_step (by repeat (first | (with_reducible first | exact HB.out | apply below_alloc | apply pw_below_drewN | apply below_drew1) | exact HB.out)) hb)
                                                      clear HO502
                                                      clear HB
                                                      have HO502 := n0_
                                                      have HO505 := n1_
                                                      have HB := n2_
                                                      clear n0_ n1_ n2_
                                                      clear hb ho67
                                                      refine hK.out _ _ trivial (fun hHeld => ?_)
                                                      clear hK K
                                                      refine norm_ (a' := ?_) ?_ ?_
                                                      rotate_left
                                                      · show Act.put _ (some 87) _ = _
                                                        simp only [Act.put, List.setIfInBounds_toArray, List.set_cons_zero, List.set_cons_succ, i64_w, i32_w]
                                                        rfl
                                                      exact norm_ (by simp only [putAll, Act.put, List.setIfInBounds_toArray, List.set_cons_zero, List.set_cons_succ]) (hCont (v494, v501, v504) _ ⟨(by (with_reducible repeat (first | apply Kd.R_alloc | apply Kd.R_drewN | apply Kd.R_drew)); exact Kd.R_mono HO502.out (fun _ hk => hk.2)), (by (with_reducible repeat (first | apply Kd.R_alloc | apply Kd.R_drewN | apply Kd.R_drew)); exact Kd.R_mono HO505.out (fun _ hk => hk.2)), (by repeat (first | (with_reducible first | exact HB.out | apply below_alloc | apply pw_below_drewN | apply below_drew1) | exact HB.out))⟩)
                                                    · skip
                                                      refine Kd.R_lit_step k33 _ 33 ?hg (N := 87) ?hd (xs := ([(⟨6, 0, 0, 0, 0⟩ : S33)] : List (S33))) (inner := [.int .i64 6, .int .i64 0, .int .i64 0, .int .i64 0, .int .i64 0]) (ok := fun _ => True) (okp := fun _ => True) ?hr ?hp (fun _ hk => hk) trivial (Below.refl _ _) (Nat.le_refl _) (by simp) ?_; (case hd => rfl); (case hg => rfl); (case hr => first | (go_simp; done) | (go_simp; rfl)); (case hp => exact (Reps.c5 (show Kd.M k33 _ _ _ (⟨6, 0, 0, 0, 0⟩ : S33) [.int .i64 6, .int .i64 0, .int .i64 0, .int .i64 0, .int .i64 0] from (k33_mkM _ _ _ (⟨6, 0, 0, 0, 0⟩ : S33) )) (Reps.none _ _)))
                                                      intro v504 w65 ho66 hb hg_ hnew_
                                                      clear hg_ hnew_
                                                      (first | rw [← Ny503.out] at ho66 | (simp only [Int.reduceToNat] at ho66; rw [← Ny503.out] at ho66))
                                                      have n0_ := Aside0.mk (Kd.R_elder' (by (with_reducible repeat (first | apply Kd.R_alloc | apply Kd.R_drewN | apply Kd.R_drew)); exact HO495.out) (Kd.R_base ho66) hb)
                                                      have n1_ := Aside0.mk (Kd.R_lower (Kd.R_new' ho66 (Kd.R_lt (by (with_reducible repeat (first | apply Kd.R_alloc | apply Kd.R_drewN | apply Kd.R_drew)); exact HO495.out))) (below_size (by repeat (first | (with_reducible first | exact HB.out | apply below_alloc | apply pw_below_drewN | apply below_drew1) | exact HB.out))))
                                                      have n2_ := Aside0.mk (below_step (by repeat (first | (with_reducible first | exact HB.out | apply below_alloc | apply pw_below_drewN | apply below_drew1) | exact HB.out)) hb)
                                                      clear HO495
                                                      clear HB
                                                      have HO495 := n0_
                                                      have HO505 := n1_
                                                      have HB := n2_
                                                      clear n0_ n1_ n2_
                                                      clear hb ho66
                                                      refine hK.out _ _ trivial (fun hHeld => ?_)
                                                      clear hK K
                                                      refine norm_ (a' := ?_) ?_ ?_
                                                      rotate_left
                                                      · show Act.put _ (some 87) _ = _
                                                        simp only [Act.put, List.setIfInBounds_toArray, List.set_cons_zero, List.set_cons_succ, i64_w, i32_w]
                                                        rfl
                                                      refine one_ (i := 4) (N := some 85) #[true, true, true, true, true, true, true, false, true, true, true, true, false, false] rfl rfl (one_of HT_.out (by kernel_rfl)) (by decide) (fun K hK => ?_)
                                                      refine Kd.R_append_rows_step k33 (w0 := w) w.heap.size (by rfl) (.tmp 81) (.tmp 84) 22 33 (.agg #[(.int .i64 0), (.int .i64 0), (.int .i64 0), (.int .i64 0), (.int .i64 0)]) 40 rfl Try.underlying22 info33 rfl (by decide) (by omega) v494 y493 y496 _ _ _ (fun k_ => some k_ ≠ (v504 : Value).ownBlock) (fun _ => False) rfl rfl ?aO ?aR (fun _ _ h => h) (fun _ h => h.elim) ?aF ?aB ?aS ?aL ?_
                                                      (case aR => repeat (first | exact (Kd.C_below HR499.out HB.out) | (with_reducible refine Kd.C_alloc ?_ _) | (with_reducible refine Kd.C_drewN ?_ _) | (with_reducible refine Kd.C_drew ?_)))
                                                      (case aB => exact (by repeat (first | (with_reducible first | exact HB.out | apply below_alloc | apply pw_below_drewN | apply below_drew1) | exact HB.out)))
                                                      (case aF => exact (fun k_ hk => Kd.fresh' (Kd.R_lt (by (with_reducible repeat (first | apply Kd.R_alloc | apply Kd.R_drewN | apply Kd.R_drew)); exact HO505.out)) k_ hk))
                                                      (case aO => exact (by (with_reducible repeat (first | apply Kd.R_alloc | apply Kd.R_drewN | apply Kd.R_drew)); exact Kd.R_mono HO495.out (fun _ hk => hk.2)))
                                                      (case aS => exact (below_size (by repeat (first | (with_reducible first | exact HB.out | apply below_alloc | apply pw_below_drewN | apply below_drew1) | exact HB.out))))
                                                      (case aL => have := LMc35.out; omega)
                                                      intro v501 w67 ho hb hg hat
                                                      rw [← Ny500.out] at ho
                                                      have n0_ := Aside0.mk (Kd.R_after (ok := (fun _ => True)) (by (with_reducible repeat (first | apply Kd.R_alloc | apply Kd.R_drewN | apply Kd.R_drew)); exact HO505.out) hg hat)
                                                      have n1_ := Aside0.mk (hb)
                                                      have n2_ := Aside0.mk (ho)
                                                      clear HO505
                                                      clear HB
                                                      clear HO495
                                                      have HO505 := n0_
                                                      have HB := n1_
                                                      have HO502 := n2_
                                                      clear n0_ n1_ n2_
                                                      clear ho hb hg hat
                                                      refine hK.out _ _ trivial (fun hHeld => ?_)
                                                      clear hK K
                                                      refine norm_ (a' := ?_) ?_ ?_
                                                      rotate_left
                                                      · show Act.put _ (some 85) _ = _
                                                        simp only [Act.put, List.setIfInBounds_toArray, List.set_cons_zero, List.set_cons_succ, i64_w, i32_w]
                                                        rfl
                                                      exact norm_ (by simp only [putAll, Act.put, List.setIfInBounds_toArray, List.set_cons_zero, List.set_cons_succ]) (hCont (v494, v501, v504) _ ⟨(by (with_reducible repeat (first | apply Kd.R_alloc | apply Kd.R_drewN | apply Kd.R_drew)); exact HO502.out), (by (with_reducible repeat (first | apply Kd.R_alloc | apply Kd.R_drewN | apply Kd.R_drew)); exact Kd.R_mono HO505.out (fun _ hk => hk.2)), (by repeat (first | (with_reducible first | exact HB.out | apply below_alloc | apply pw_below_drewN | apply below_drew1) | exact HB.out))⟩)
                                                  · skip
                                                    refine Kd.R_lit_step k33 _ 33 ?hg (N := 87) ?hd (xs := ([(⟨6, 0, 0, 0, 0⟩ : S33)] : List (S33))) (inner := [.int .i64 6, .int .i64 0, .int .i64 0, .int .i64 0, .int .i64 0]) (ok := fun _ => True) (okp := fun _ => True) ?hr ?hp (fun _ hk => hk) trivial (Below.refl _ _) (Nat.le_refl _) (by simp) ?_; (case hd => rfl); (case hg => rfl); (case hr => first | (go_simp; done) | (go_simp; rfl)); (case hp => exact (Reps.c5 (show Kd.M k33 _ _ _ (⟨6, 0, 0, 0, 0⟩ : S33) [.int .i64 6, .int .i64 0, .int .i64 0, .int .i64 0, .int .i64 0] from (k33_mkM _ _ _ (⟨6, 0, 0, 0, 0⟩ : S33) )) (Reps.none _ _)))
                                                    intro v504 w63 ho64 hb hg_ hnew_
                                                    clear hg_ hnew_
                                                    (first | rw [← Ny503.out] at ho64 | (simp only [Int.reduceToNat] at ho64; rw [← Ny503.out] at ho64))
                                                    have n0_ := Aside0.mk (Kd.R_lower ho64 (below_size (by repeat (first | (with_reducible first | exact HB.out | apply below_alloc | apply pw_below_drewN | apply below_drew1) | exact HB.out))))
                                                    have n1_ := Aside0.mk (below_step (by repeat (first | (with_reducible first | exact HB.out | apply below_alloc | apply pw_below_drewN | apply below_drew1) | exact HB.out)) hb)
                                                    clear HB
                                                    have HO505 := n0_
                                                    have HB := n1_
                                                    clear n0_ n1_
                                                    clear hb ho64
                                                    refine hK.out _ _ trivial (fun hHeld => ?_)
                                                    clear hK K
                                                    refine norm_ (a' := ?_) ?_ ?_
                                                    rotate_left
                                                    · show Act.put _ (some 87) _ = _
                                                      simp only [Act.put, List.setIfInBounds_toArray, List.set_cons_zero, List.set_cons_succ, i64_w, i32_w]
                                                      rfl
                                                    refine one_ (i := 0) (N := some 81) #[true, true, true, true, false, true, true, false, true, true, true, true, false, false] rfl rfl (one_of HT_.out (by kernel_rfl)) (by decide) (fun K hK => ?_)
                                                    refine Kd.R_lit_step k33 _ 33 ?hg (N := 81) ?hd (xs := ([] : List (S33))) (inner := []) (ok := fun _ => True) (okp := fun _ => True) ?hr ?hp (fun _ hk => hk) trivial (Below.refl _ _) (Nat.le_refl _) (by simp) ?_; (case hd => rfl); (case hg => rfl); (case hr => first | (go_simp; done) | (go_simp; rfl)); (case hp => exact (Reps.none _ _))
                                                    intro v494 w65 ho66 hb hg_ hnew_
                                                    clear hg_ hnew_
                                                    (first | rw [← Ny493.out] at ho66 | (simp only [Int.reduceToNat] at ho66; rw [← Ny493.out] at ho66))
                                                    have n0_ := Aside0.mk (Kd.R_elder' (by (with_reducible repeat (first | apply Kd.R_alloc | apply Kd.R_drewN | apply Kd.R_drew)); exact HO505.out) (Kd.R_base ho66) hb)
                                                    have n1_ := Aside0.mk (Kd.R_lower (Kd.R_new' ho66 (Kd.R_lt (by (with_reducible repeat (first | apply Kd.R_alloc | apply Kd.R_drewN | apply Kd.R_drew)); exact HO505.out))) (below_size (by repeat (first | (with_reducible first | exact HB.out | apply below_alloc | apply pw_below_drewN | apply below_drew1) | exact HB.out))))
                                                    have n2_ := Aside0.mk (below_step (by repeat (first | (with_reducible first | exact HB.out | apply below_alloc | apply pw_below_drewN | apply below_drew1) | exact HB.out)) hb)
                                                    clear HO505
                                                    clear HB
                                                    have HO505 := n0_
                                                    have HO495 := n1_
                                                    have HB := n2_
                                                    clear n0_ n1_ n2_
                                                    clear hb ho66
                                                    refine hK.out _ _ trivial (fun hHeld => ?_)
                                                    clear hK K
                                                    refine norm_ (a' := ?_) ?_ ?_
                                                    rotate_left
                                                    · show Act.put _ (some 81) _ = _
                                                      simp only [Act.put, List.setIfInBounds_toArray, List.set_cons_zero, List.set_cons_succ, i64_w, i32_w]
                                                      rfl
                                                    refine one_ (i := 4) (N := some 85) #[true, true, true, true, true, true, true, false, true, true, true, true, false, false] rfl rfl (one_of HT_.out (by kernel_rfl)) (by decide) (fun K hK => ?_)
                                                    refine Kd.R_append_rows_step k33 (w0 := w) w.heap.size (by rfl) (.tmp 81) (.tmp 84) 22 33 (.agg #[(.int .i64 0), (.int .i64 0), (.int .i64 0), (.int .i64 0), (.int .i64 0)]) 40 rfl Try.underlying22 info33 rfl (by decide) (by omega) v494 y493 y496 _ _ _ (fun k_ => some k_ ≠ (v504 : Value).ownBlock) (fun _ => False) rfl rfl ?aO ?aR (fun _ _ h => h) (fun _ h => h.elim) ?aF ?aB ?aS ?aL ?_
                                                    (case aR => repeat (first | exact (Kd.C_below HR499.out HB.out) | (with_reducible refine Kd.C_alloc ?_ _) | (with_reducible refine Kd.C_drewN ?_ _) | (with_reducible refine Kd.C_drew ?_)))
                                                    (case aB => exact (by repeat (first | (with_reducible first | exact HB.out | apply below_alloc | apply pw_below_drewN | apply below_drew1) | exact HB.out)))
                                                    (case aF => exact (fun k_ hk => Kd.fresh' (Kd.R_lt (by (with_reducible repeat (first | apply Kd.R_alloc | apply Kd.R_drewN | apply Kd.R_drew)); exact HO505.out)) k_ hk))
                                                    (case aO => exact (by (with_reducible repeat (first | apply Kd.R_alloc | apply Kd.R_drewN | apply Kd.R_drew)); exact Kd.R_mono HO495.out (fun _ hk => hk.2)))
                                                    (case aS => exact (below_size (by repeat (first | (with_reducible first | exact HB.out | apply below_alloc | apply pw_below_drewN | apply below_drew1) | exact HB.out))))
                                                    (case aL => have := LMc35.out; omega)
                                                    intro v501 w67 ho hb hg hat
                                                    rw [← Ny500.out] at ho
                                                    have n0_ := Aside0.mk (Kd.R_after (ok := (fun _ => True)) (by (with_reducible repeat (first | apply Kd.R_alloc | apply Kd.R_drewN | apply Kd.R_drew)); exact HO505.out) hg hat)
                                                    have n1_ := Aside0.mk (hb)
                                                    have n2_ := Aside0.mk (ho)
                                                    clear HO505
                                                    clear HB
                                                    clear HO495
                                                    have HO505 := n0_
                                                    have HB := n1_
                                                    have HO502 := n2_
                                                    clear n0_ n1_ n2_
                                                    clear ho hb hg hat
                                                    refine hK.out _ _ trivial (fun hHeld => ?_)
                                                    clear hK K
                                                    refine norm_ (a' := ?_) ?_ ?_
                                                    rotate_left
                                                    · show Act.put _ (some 85) _ = _
                                                      simp only [Act.put, List.setIfInBounds_toArray, List.set_cons_zero, List.set_cons_succ, i64_w, i32_w]
                                                      rfl
                                                    exact norm_ (by simp only [putAll, Act.put, List.setIfInBounds_toArray, List.set_cons_zero, List.set_cons_succ]) (hCont (v494, v501, v504) _ ⟨(by (with_reducible repeat (first | apply Kd.R_alloc | apply Kd.R_drewN | apply Kd.R_drew)); exact HO502.out), (by (with_reducible repeat (first | apply Kd.R_alloc | apply Kd.R_drewN | apply Kd.R_drew)); exact Kd.R_mono HO505.out (fun _ hk => hk.2)), (by repeat (first | (with_reducible first | exact HB.out | apply below_alloc | apply pw_below_drewN | apply below_drew1) | exact HB.out))⟩)
                                                rintro ⟨v494, v501, v504⟩ w68 ⟨h0_, h1_, h2_⟩
                                                have n0_ : Aside0 (Kd.R k33 33 w68 w.heap.size (fun k_ => some k_ ≠ (v504 : Value).ownBlock) v501 y500) := ⟨h0_⟩
                                                have n1_ : Aside0 (Kd.R k33 33 w68 w.heap.size (fun k_ => some k_ ≠ (v501 : Value).ownBlock) v504 y503) := ⟨h1_⟩
                                                have n2_ : Aside0 (Below w.heap.size w w68) := ⟨h2_⟩
                                                clear HB
                                                clear h0_ h1_ h2_
                                                have HO502 := n0_
                                                have HO505 := n1_
                                                have HB := n2_
                                                clear n0_ n1_ n2_
                                                have hHeld := trivial
                                                obtain ⟨Ao70, co70, eo70⟩ := Kd.R_slice HO505.out
                                                (first | subst eo70 | (injection eo70 with f1_ f2_ f3_; have f4_ := f1_.symm; have f5_ := f3_.symm; clear f1_ f2_ f3_; subst f4_; subst f5_))
                                                refine norm_ (a' := ?_) ?_ ?_
                                                rotate_left
                                                · simp only [putAll, Act.put, List.setIfInBounds_toArray, List.set_cons_zero, List.set_cons_succ]
                                                  rfl
                                                refine one_ (i := 7) (N := some 88) #[true, true, true, true, true, true, true, true, true, true, true, true, false, false] rfl rfl (one_of HT_.out (by kernel_rfl)) (by decide) (fun K hK => ?_)
                                                refine Kd.R_append_rows_step k33 (w0 := w) w.heap.size (by rfl) (.tmp 85) (.tmp 87) 22 33 (.agg #[(.int .i64 0), (.int .i64 0), (.int .i64 0), (.int .i64 0), (.int .i64 0)]) 40 rfl Try.underlying22 info33 rfl (by decide) (by omega) v501 y500 y503 _ _ _ (fun k_ => some k_ ≠ (.slice Ao70 y503.length co70 : Value).ownBlock) (fun _ => False) rfl rfl ?aO ?aR (fun _ _ h => h) (fun _ h => h.elim) ?aF ?aB ?aS ?aL ?_
                                                (case aR => repeat (first | exact (Kd.R_reads' HO505.out).2.2 | (with_reducible refine Kd.C_alloc ?_ _) | (with_reducible refine Kd.C_drewN ?_ _) | (with_reducible refine Kd.C_drew ?_)))
                                                (case aB => exact (by repeat (first | (with_reducible first | exact HB.out | apply below_alloc | apply pw_below_drewN | apply below_drew1) | exact HB.out)))
                                                (case aF => exact (fun k_ hk => Kd.fresh' (Kd.R_lt (by (with_reducible repeat (first | apply Kd.R_alloc | apply Kd.R_drewN | apply Kd.R_drew)); exact HO505.out)) k_ hk))
                                                (case aO => exact (by (with_reducible repeat (first | apply Kd.R_alloc | apply Kd.R_drewN | apply Kd.R_drew)); exact HO502.out))
                                                (case aS => exact (below_size (by repeat (first | (with_reducible first | exact HB.out | apply below_alloc | apply pw_below_drewN | apply below_drew1) | exact HB.out))))
                                                (case aL => have := LMc36.out; omega)
                                                intro v507 w69 ho hb hg hat
                                                rw [← Ny506.out] at ho
                                                have n0_ := Aside0.mk (Kd.R_after (ok := (fun _ => True)) (by (with_reducible repeat (first | apply Kd.R_alloc | apply Kd.R_drewN | apply Kd.R_drew)); exact Kd.R_mono HO505.out (fun _ hk => ⟨trivial, hk⟩)) hg hat)
                                                have n1_ := Aside0.mk (hb)
                                                have n2_ := Aside0.mk (ho)
                                                clear HO505
                                                clear HB
                                                clear HO502
                                                have HO505 := n0_
                                                have HB := n1_
                                                have HO508 := n2_
                                                clear n0_ n1_ n2_
                                                clear ho hb hg hat
                                                refine hK.out _ _ trivial (fun hHeld => ?_)
                                                clear hK K
                                                refine norm_ (a' := ?_) ?_ ?_
                                                rotate_left
                                                · show Act.put _ (some 88) _ = _
                                                  simp only [Act.put, List.setIfInBounds_toArray, List.set_cons_zero, List.set_cons_succ, i64_w, i32_w]
                                                  rfl
                                                refine one_ (i := 12) (N := some 93) #[true, true, true, true, true, true, true, true, true, true, true, true, true, false] rfl rfl (one_of HT_.out (by kernel_rfl)) (by decide) (fun K hK => ?_)
                                                refine Kd.R_append_rows_step k33 (w0 := w) w.heap.size (by rfl) (.tmp 88) (.tmp 92) 22 33 (.agg #[(.int .i64 0), (.int .i64 0), (.int .i64 0), (.int .i64 0), (.int .i64 0)]) 40 rfl Try.underlying22 info33 rfl (by decide) (by omega) v507 y506 y509 _ _ _ (fun k_ => some k_ ≠ (.slice Ao70 y503.length co70 : Value).ownBlock) (fun _ => False) rfl rfl ?aO ?aR (fun _ _ h => h) (fun _ h => h.elim) ?aF ?aB ?aS ?aL ?_
                                                (case aR => repeat (first | exact (Kd.C_below HR512.out HB.out) | (with_reducible refine Kd.C_alloc ?_ _) | (with_reducible refine Kd.C_drewN ?_ _) | (with_reducible refine Kd.C_drew ?_)))
                                                (case aB => exact (by repeat (first | (with_reducible first | exact HB.out | apply below_alloc | apply pw_below_drewN | apply below_drew1) | exact HB.out)))
                                                (case aF => exact (fun k_ hk => Kd.fresh' (Kd.R_lt (by (with_reducible repeat (first | apply Kd.R_alloc | apply Kd.R_drewN | apply Kd.R_drew)); exact HO505.out)) k_ hk))
                                                (case aO => exact (by (with_reducible repeat (first | apply Kd.R_alloc | apply Kd.R_drewN | apply Kd.R_drew)); exact HO508.out))
                                                (case aS => exact (below_size (by repeat (first | (with_reducible first | exact HB.out | apply below_alloc | apply pw_below_drewN | apply below_drew1) | exact HB.out))))
                                                (case aL => have := LMc40.out; omega)
                                                intro v514 w71 ho hb hg hat
                                                rw [← Ny513.out] at ho
                                                have n0_ := Aside0.mk (Kd.R_after (ok := (fun _ => True)) (by (with_reducible repeat (first | apply Kd.R_alloc | apply Kd.R_drewN | apply Kd.R_drew)); exact HO505.out) hg hat)
                                                have n1_ := Aside0.mk (hb)
                                                have n2_ := Aside0.mk (ho)
                                                clear HO505
                                                clear HB
                                                clear HO508
                                                have HO505 := n0_
                                                have HB := n1_
                                                have HO515 := n2_
                                                clear n0_ n1_ n2_
                                                clear ho hb hg hat
                                                refine hK.out _ _ trivial (fun hHeld => ?_)
                                                clear hK K
                                                refine norm_ (a' := ?_) ?_ ?_
                                                rotate_left
                                                · show Act.put _ (some 93) _ = _
                                                  simp only [Act.put, List.setIfInBounds_toArray, List.set_cons_zero, List.set_cons_succ, i64_w, i32_w]
                                                  rfl
                                                refine pure_ (i := 13) (N := some 16) (v := ?_) (a' := ?_) #[true, true, true, true, true, true, true, true, true, true, true, true, true, true] rfl rfl (any_of HT_.out (by kernel_rfl)) (fun _ _ _ h => h) (Or.inl ⟨by rfl, ?_⟩) ?_ ?_
                                                rotate_left
                                                · intro w'
                                                  go_simp
                                                  with_reducible rfl
                                                rotate_left
                                                · simp only [Act.put, List.setIfInBounds_toArray, List.set_cons_zero, List.set_cons_succ, i64_w, i32_w]
                                                  rfl
                                                refine done_ (done_of HT_.out (by kernel_rfl)) ?_
                                                obtain ⟨Ao72, co72, eo72⟩ := Kd.R_slice HO515.out
                                                subst eo72
                                                try go_wp2_with (first | (go_at_call 22; (with_reducible refine (cfg_Reach.calls _ _ y513 (Int.tmod (wrap64 (a2)) (l0.length : Int)) (Int.tmod (wrap64 (a3)) (wrap64 ((l0.length : Int) + 1))) t516 _ ?side1 ?side2 A42.out).mono ?_); (case side1 => repeat (first | exact (Kd.R_reads' HO515.out).2.2 | (with_reducible refine Kd.C_alloc ?_ _) | (with_reducible refine Kd.C_drewN ?_ _) | (with_reducible refine Kd.C_drew ?_))); (case side2 => exact (Kd.R_reads' HO515.out).2.1); rintro e w73 ⟨rfl, hb⟩; have n0_ := Aside0.mk (Kd.R_below (by (with_reducible repeat (first | apply Kd.R_alloc | apply Kd.R_drewN | apply Kd.R_drew)); exact HO505.out) hb); have n1_ := Aside0.mk (Kd.R_below (by (with_reducible repeat (first | apply Kd.R_alloc | apply Kd.R_drewN | apply Kd.R_drew)); exact HO515.out) hb); have n2_ := Aside0.mk (below_step (by repeat (first | (with_reducible first | exact HB.out | apply below_alloc | apply pw_below_drewN | apply below_drew1) | exact HB.out)) hb); clear HO505; clear HO515; clear HB; have HO505 := n0_; have HO515 := n1_; have HB := n2_; clear n0_ n1_ n2_; (try clear hb); (try clear hb2); (try clear hk); (try clear hi)))
                                                go_ret
                                                exact ⟨by first | rfl | (simp [errW_none, errW_some] <;> rfl) | (simp only [← hji32, ← hji37]; first | rfl | (simp [errW_none, errW_some] <;> rfl)) | (simp [*, errW_none, errW_some] <;> rfl), by repeat (first | (with_reducible first | exact HB.out | apply below_alloc | apply pw_below_drewN | apply below_drew1) | exact HB.out)⟩
                                              · rw [if_neg c59] at H
                                                have c59b0 : decide ((Int.tmod (wrap64 (a3)) (wrap64 ((l0.length : Int) + 1))) ≤ (ji32)) = false := decide_eq_false c59
                                                clear c59
                                                replace H := Option.bind_eq_some_iff.mp H
                                                obtain ⟨t517, A740, H⟩ := H
                                                replace H : (some (!t517)) = some r := H
                                                have A74 := Aside0.mk A740
                                                clear A740
                                                obtain rfl := Option.some.inj H
                                                try go_wp2
                                                have n0_ := Aside0.mk (below_drew1 HB.out)
                                                clear HB
                                                have HB := n0_
                                                clear n0_
                                                have q76 : ((ji32) : Int) ≤ ((l0.length : Int) : Int) := of_decide_eq_true (by first | (with_reducible assumption) | assumption)
                                                obtain ⟨i076, hi076, _, hsz76, _⟩ := info_parts info33
                                                have hroom76 : l0.length ≤ c0 := HC0.out
                                                have hC76 : Kd.C k33 _ A0 l0.length l0 := HR0.out
                                                have hcut76 := cut_to (P := Try.prog) 22 33 .i64 Try.underlying22 hi076 A0 l0.length c0 (ji32) (of_decide_eq_true (by first | (with_reducible assumption) | assumption)) q76 hroom76
                                                have hr76 := Kd.C_take (m := ((ji32) : Int).toNat) hC76 (by omega)
                                                have hy76 : y496.length = ((ji32) : Int).toNat := (by rw [Ny496.out, List.length_take]; omega)
                                                rw [← Ny496.out] at hr76
                                                rw [← hy76] at hcut76
                                                have HR499 := Aside0.mk hr76
                                                have HC499 := Aside0.mk (show y496.length ≤ c0 from by omega)
                                                clear hr76 hC76 hroom76 hi076 hsz76
                                                have KY76 := Aside0.mk hy76
                                                clear hy76
                                                replace q76 := eq_true q76
                                                have q77 : ((ji37) : Int) ≤ ((l0.length : Int) : Int) := of_decide_eq_true (by first | (with_reducible assumption) | assumption)
                                                obtain ⟨i077, hi077, _, hsz77, _⟩ := info_parts info33
                                                have hroom77 : l0.length ≤ c0 := HC0.out
                                                have hC77 : Kd.C k33 _ A0 l0.length l0 := HR0.out
                                                have q077 : (0 : Int) ≤ ((ji37) : Int) := of_decide_eq_true (by first | (with_reducible assumption) | assumption)
                                                have hcut77 := cut_from (P := Try.prog) 22 33 .i64 Try.underlying22 hi077 5 hsz77 A0 l0.length c0 (ji37) q077 q77
                                                have hr77 := Kd.C_drop (m := ((ji37) : Int).toNat) (c := c0) hC77 (by omega) hroom77
                                                obtain ⟨A77, hA77⟩ : ∃ A1, A1 = (if c0 = ((ji37) : Int).toNat then A0 else (A0 : Option Addr).map (·.add (((ji37) : Int).toNat * 5))) := ⟨_, rfl⟩
                                                obtain ⟨c77, hc77⟩ : ∃ c1, c1 = c0 - ((ji37) : Int).toNat := ⟨_, rfl⟩
                                                have hy77 : y509.length = l0.length - ((ji37) : Int).toNat := (by rw [Ny509.out, List.length_drop] <;> omega)
                                                rw [show (l0).drop ((ji37) : Int).toNat = y509 from Ny509.out.symm] at hr77
                                                replace hr77 : Kd.C k33 _ A77 y509.length y509 := (by rw [hA77]; exact hr77)
                                                rw [← hy77, ← hA77, ← hc77] at hcut77
                                                have HR512 := Aside0.mk hr77
                                                have HC512 := Aside0.mk (show y509.length ≤ c77 from by rw [hy77, hc77]; exact Nat.sub_le_sub_right hroom77 _)
                                                clear hr77 hC77 hroom77 hi077 hsz77 hc77
                                                have KY77 := Aside0.mk hy77
                                                have KA77 := Aside0.mk hA77
                                                clear hy77 hA77
                                                replace q77 := eq_true q77
                                                refine start_ (n := 14) (S := fun w' => True) (ds := []) #[false, false, false, false, false, false, false, false, false, false, false, false, false, false] (by kernel_rfl) rfl rfl trivial (fun hHeld => ?_); refine with_tabW fencepostlaw18_CfgFences.tab18 fencepostlaw18_CfgFences.bits18 (fun HT_ HW_ => ?_)
                                                generalize wc.drew = w75 at HB HR499 HR512 hHeld ⊢
                                                refine pure_ (i := 1) (N := some 82) (v := ?_) (a' := ?_) #[false, true, false, false, false, false, false, false, false, false, false, false, false, false] rfl rfl (any_of HT_.out (by kernel_rfl)) (fun _ _ _ h => h) (Or.inl ⟨by rfl, ?_⟩) ?_ ?_
                                                rotate_left
                                                · intro w'
                                                  go_simp
                                                  with_reducible rfl
                                                rotate_left
                                                · simp only [Act.put, List.setIfInBounds_toArray, List.set_cons_zero, List.set_cons_succ, i64_w, i32_w]
                                                  rfl
                                                refine pure_ (i := 2) (N := some 83) (v := ?_) (a' := ?_) #[false, true, true, false, false, false, false, false, false, false, false, false, false, false] rfl rfl (any_of HT_.out (by kernel_rfl)) (fun _ _ _ h => h) (Or.inl ⟨by rfl, ?_⟩) ?_ ?_
                                                rotate_left
                                                · intro w'
                                                  go_simp
                                                  with_reducible rfl
                                                rotate_left
                                                · simp only [Act.put, List.setIfInBounds_toArray, List.set_cons_zero, List.set_cons_succ, i64_w, i32_w]
                                                  rfl
                                                refine pure_ (i := 3) (N := some 84) (v := ?_) (a' := ?_) #[false, true, true, true, false, false, false, false, false, false, false, false, false, false] rfl rfl (any_of HT_.out (by kernel_rfl)) (fun _ _ _ h => h) (Or.inl ⟨by rfl, ?_⟩) ?_ ?_
                                                rotate_left
                                                · intro w'
                                                  go_simp
                                                  with_reducible rfl
                                                rotate_left
                                                · simp only [Act.put, List.setIfInBounds_toArray, List.set_cons_zero, List.set_cons_succ, i64_w, i32_w]
                                                  rfl
                                                refine pure_ (i := 5) (N := some 86) (v := ?_) (a' := ?_) #[false, true, true, true, false, true, false, false, false, false, false, false, false, false] rfl rfl (any_of HT_.out (by kernel_rfl)) (fun _ _ _ h => h) (Or.inl ⟨by rfl, ?_⟩) ?_ ?_
                                                rotate_left
                                                · intro w'
                                                  go_simp
                                                  with_reducible rfl
                                                rotate_left
                                                · simp only [Act.put, List.setIfInBounds_toArray, List.set_cons_zero, List.set_cons_succ, i64_w, i32_w]
                                                  rfl
                                                refine pure_ (i := 8) (N := some 89) (v := ?_) (a' := ?_) #[false, true, true, true, false, true, false, false, true, false, false, false, false, false] rfl rfl (any_of HT_.out (by kernel_rfl)) (fun _ _ _ h => h) (Or.inl ⟨by rfl, ?_⟩) ?_ ?_
                                                rotate_left
                                                · intro w'
                                                  go_simp
                                                  with_reducible rfl
                                                rotate_left
                                                · simp only [Act.put, List.setIfInBounds_toArray, List.set_cons_zero, List.set_cons_succ, i64_w, i32_w]
                                                  rfl
                                                refine pure_ (i := 9) (N := some 90) (v := ?_) (a' := ?_) #[false, true, true, true, false, true, false, false, true, true, false, false, false, false] rfl rfl (any_of HT_.out (by kernel_rfl)) (fun _ _ _ h => h) (Or.inl ⟨by rfl, ?_⟩) ?_ ?_
                                                rotate_left
                                                · intro w'
                                                  go_simp
                                                  with_reducible rfl
                                                rotate_left
                                                · simp only [Act.put, List.setIfInBounds_toArray, List.set_cons_zero, List.set_cons_succ, i64_w, i32_w]
                                                  rfl
                                                refine pure_ (i := 10) (N := some 91) (v := ?_) (a' := ?_) #[false, true, true, true, false, true, false, false, true, true, true, false, false, false] rfl rfl (any_of HT_.out (by kernel_rfl)) (fun _ _ _ h => h) (Or.inl ⟨by rfl, ?_⟩) ?_ ?_
                                                rotate_left
                                                · intro w'
                                                  go_simp
                                                  with_reducible rfl
                                                rotate_left
                                                · simp only [Act.put, List.setIfInBounds_toArray, List.set_cons_zero, List.set_cons_succ, i64_w, i32_w]
                                                  rfl
                                                refine pure_ (i := 11) (N := some 92) (v := ?_) (a' := ?_) #[false, true, true, true, false, true, false, false, true, true, true, true, false, false] rfl rfl (any_of HT_.out (by kernel_rfl)) (fun _ _ _ h => h) (Or.inl ⟨by rfl, ?_⟩) ?_ ?_
                                                rotate_left
                                                · intro w'
                                                  go_simp
                                                  with_reducible rfl
                                                rotate_left
                                                · simp only [Act.put, List.setIfInBounds_toArray, List.set_cons_zero, List.set_cons_succ, i64_w, i32_w]
                                                  rfl
                                                refine join_ (σ := Value × Value × Value) 3 #[true, true, true, true, true, true, true, false, true, true, true, true, false, false] (fun s_ => [(81, s_.1), (85, s_.2.1), (87, s_.2.2)]) (fun s_ w' => (Kd.R k33 33 w' w.heap.size (fun k_ => some k_ ≠ (s_.2.2 : Value).ownBlock) s_.2.1 y500) ∧ (Kd.R k33 33 w' w.heap.size (fun k_ => some k_ ≠ (s_.2.1 : Value).ownBlock) s_.2.2 y503) ∧ (Below w.heap.size w w')) ?_ ?_
                                                rotate_left
                                                · intro hCont
                                                  refine two_ (i := 0) (j := 6) (Ni := some 81) (Nj := some 87) #[true, true, true, true, false, true, false, false, true, true, true, true, false, false] #[false, true, true, true, false, true, true, false, true, true, true, true, false, false] rfl rfl rfl rfl (two_of HT_.out (by kernel_rfl)) (by decide) (by decide) (fun K hK => ?_) (fun K hK => ?_)
                                                  · skip
                                                    refine Kd.R_lit_step k33 _ 33 ?hg (N := 81) ?hd (xs := ([] : List (S33))) (inner := []) (ok := fun _ => True) (okp := fun _ => True) ?hr ?hp (fun _ hk => hk) trivial (Below.refl _ _) (Nat.le_refl _) (by simp) ?_; (case hd => rfl); (case hg => rfl); (case hr => first | (go_simp; done) | (go_simp; rfl)); (case hp => exact (Reps.none _ _))
                                                    intro v494 w78 ho79 hb hg_ hnew_
                                                    clear hg_ hnew_
                                                    (first | rw [← Ny493.out] at ho79 | (simp only [Int.reduceToNat] at ho79; rw [← Ny493.out] at ho79))
                                                    have n0_ := Aside0.mk (Kd.R_lower ho79 (below_size (by repeat (first | (with_reducible first | exact HB.out | apply below_alloc | apply pw_below_drewN | apply below_drew1) | exact HB.out))))
                                                    have n1_ := Aside0.mk (below_step (by repeat (first | (with_reducible first | exact HB.out | apply below_alloc | apply pw_below_drewN | apply below_drew1) | exact HB.out)) hb)
                                                    clear HB
                                                    have HO495 := n0_
                                                    have HB := n1_
                                                    clear n0_ n1_
                                                    clear hb ho79
                                                    refine hK.out _ _ trivial (fun hHeld => ?_)
                                                    clear hK K
                                                    refine norm_ (a' := ?_) ?_ ?_
                                                    rotate_left
                                                    · show Act.put _ (some 81) _ = _
                                                      simp only [Act.put, List.setIfInBounds_toArray, List.set_cons_zero, List.set_cons_succ, i64_w, i32_w]
                                                      rfl
                                                    refine two_ (i := 4) (j := 6) (Ni := some 85) (Nj := some 87) #[true, true, true, true, true, true, false, false, true, true, true, true, false, false] #[true, true, true, true, false, true, true, false, true, true, true, true, false, false] rfl rfl rfl rfl (two_of HT_.out (by kernel_rfl)) (by decide) (by decide) (fun K hK => ?_) (fun K hK => ?_)
                                                    · skip
                                                      refine Kd.R_append_rows_step k33 (w0 := w) w.heap.size (by rfl) (.tmp 81) (.tmp 84) 22 33 (.agg #[(.int .i64 0), (.int .i64 0), (.int .i64 0), (.int .i64 0), (.int .i64 0)]) 40 rfl Try.underlying22 info33 rfl (by decide) (by omega) v494 y493 y496 _ _ _ (fun _ => True) (fun _ => False) rfl rfl ?aO ?aR (fun _ _ h => h) (fun _ h => h.elim) ?aF ?aB ?aS ?aL ?_
                                                      (case aR => repeat (first | exact (Kd.C_below HR499.out HB.out) | (with_reducible refine Kd.C_alloc ?_ _) | (with_reducible refine Kd.C_drewN ?_ _) | (with_reducible refine Kd.C_drew ?_)))
                                                      (case aB => exact (by repeat (first | (with_reducible first | exact HB.out | apply below_alloc | apply pw_below_drewN | apply below_drew1) | exact HB.out)))
                                                      (case aF => exact (fun _ _ => trivial))
                                                      (case aO => exact (by (with_reducible repeat (first | apply Kd.R_alloc | apply Kd.R_drewN | apply Kd.R_drew)); exact HO495.out))
                                                      (case aS => exact (below_size (by repeat (first | (with_reducible first | exact HB.out | apply below_alloc | apply pw_below_drewN | apply below_drew1) | exact HB.out))))
                                                      (case aL => have := LMc35.out; omega)
                                                      intro v501 w80 ho hb hg hat
                                                      rw [← Ny500.out] at ho
                                                      have n0_ := Aside0.mk (hb)
                                                      have n1_ := Aside0.mk (ho)
                                                      clear HB
                                                      clear HO495
                                                      have HB := n0_
                                                      have HO502 := n1_
                                                      clear n0_ n1_
                                                      clear ho hb hg hat
                                                      refine hK.out _ _ trivial (fun hHeld => ?_)
                                                      clear hK K
                                                      refine norm_ (a' := ?_) ?_ ?_
                                                      rotate_left
                                                      · show Act.put _ (some 85) _ = _
                                                        simp only [Act.put, List.setIfInBounds_toArray, List.set_cons_zero, List.set_cons_succ, i64_w, i32_w]
                                                        rfl
                                                      refine one_ (i := 6) (N := some 87) #[true, true, true, true, true, true, true, false, true, true, true, true, false, false] rfl rfl (one_of HT_.out (by kernel_rfl)) (by decide) (fun K hK => ?_)
                                                      refine Kd.R_lit_step k33 _ 33 ?hg (N := 87) ?hd (xs := ([(⟨6, 0, 0, 0, 0⟩ : S33)] : List (S33))) (inner := [.int .i64 6, .int .i64 0, .int .i64 0, .int .i64 0, .int .i64 0]) (ok := fun _ => True) (okp := fun _ => True) ?hr ?hp (fun _ hk => hk) trivial (Below.refl _ _) (Nat.le_refl _) (by simp) ?_; (case hd => rfl); (case hg => rfl); (case hr => first | (go_simp; done) | (go_simp; rfl)); (case hp => exact (Reps.c5 (show Kd.M k33 _ _ _ (⟨6, 0, 0, 0, 0⟩ : S33) [.int .i64 6, .int .i64 0, .int .i64 0, .int .i64 0, .int .i64 0] from (k33_mkM _ _ _ (⟨6, 0, 0, 0, 0⟩ : S33) )) (Reps.none _ _)))
                                                      intro v504 w81 ho82 hb hg_ hnew_
                                                      clear hg_ hnew_
                                                      (first | rw [← Ny503.out] at ho82 | (simp only [Int.reduceToNat] at ho82; rw [← Ny503.out] at ho82))
                                                      have n0_ := Aside0.mk (Kd.R_elder' (by (with_reducible repeat (first | apply Kd.R_alloc | apply Kd.R_drewN | apply Kd.R_drew)); exact HO502.out) (Kd.R_base ho82) hb)
                                                      have n1_ := Aside0.mk (Kd.R_lower (Kd.R_new' ho82 (Kd.R_lt (by (with_reducible repeat (first | apply Kd.R_alloc | apply Kd.R_drewN | apply Kd.R_drew)); exact HO502.out))) (below_size (by repeat (first | (with_reducible first | exact HB.out | apply below_alloc | apply pw_below_drewN | apply below_drew1) | exact HB.out))))
                                                      have n2_ := Aside0.mk (below_step (by repeat (first | (with_reducible first | exact HB.out | apply below_alloc | apply pw_below_drewN | apply below_drew1) | exact HB.out)) hb)
                                                      clear HO502
                                                      clear HB
                                                      have HO502 := n0_
                                                      have HO505 := n1_
                                                      have HB := n2_
                                                      clear n0_ n1_ n2_
                                                      clear hb ho82
                                                      refine hK.out _ _ trivial (fun hHeld => ?_)
                                                      clear hK K
                                                      refine norm_ (a' := ?_) ?_ ?_
                                                      rotate_left
                                                      · show Act.put _ (some 87) _ = _
                                                        simp only [Act.put, List.setIfInBounds_toArray, List.set_cons_zero, List.set_cons_succ, i64_w, i32_w]
                                                        rfl
                                                      exact norm_ (by simp only [putAll, Act.put, List.setIfInBounds_toArray, List.set_cons_zero, List.set_cons_succ]) (hCont (v494, v501, v504) _ ⟨(by (with_reducible repeat (first | apply Kd.R_alloc | apply Kd.R_drewN | apply Kd.R_drew)); exact Kd.R_mono HO502.out (fun _ hk => hk.2)), (by (with_reducible repeat (first | apply Kd.R_alloc | apply Kd.R_drewN | apply Kd.R_drew)); exact Kd.R_mono HO505.out (fun _ hk => hk.2)), (by repeat (first | (with_reducible first | exact HB.out | apply below_alloc | apply pw_below_drewN | apply below_drew1) | exact HB.out))⟩)
                                                    · skip
                                                      refine Kd.R_lit_step k33 _ 33 ?hg (N := 87) ?hd (xs := ([(⟨6, 0, 0, 0, 0⟩ : S33)] : List (S33))) (inner := [.int .i64 6, .int .i64 0, .int .i64 0, .int .i64 0, .int .i64 0]) (ok := fun _ => True) (okp := fun _ => True) ?hr ?hp (fun _ hk => hk) trivial (Below.refl _ _) (Nat.le_refl _) (by simp) ?_; (case hd => rfl); (case hg => rfl); (case hr => first | (go_simp; done) | (go_simp; rfl)); (case hp => exact (Reps.c5 (show Kd.M k33 _ _ _ (⟨6, 0, 0, 0, 0⟩ : S33) [.int .i64 6, .int .i64 0, .int .i64 0, .int .i64 0, .int .i64 0] from (k33_mkM _ _ _ (⟨6, 0, 0, 0, 0⟩ : S33) )) (Reps.none _ _)))
                                                      intro v504 w80 ho81 hb hg_ hnew_
                                                      clear hg_ hnew_
                                                      (first | rw [← Ny503.out] at ho81 | (simp only [Int.reduceToNat] at ho81; rw [← Ny503.out] at ho81))
                                                      have n0_ := Aside0.mk (Kd.R_elder' (by (with_reducible repeat (first | apply Kd.R_alloc | apply Kd.R_drewN | apply Kd.R_drew)); exact HO495.out) (Kd.R_base ho81) hb)
                                                      have n1_ := Aside0.mk (Kd.R_lower (Kd.R_new' ho81 (Kd.R_lt (by (with_reducible repeat (first | apply Kd.R_alloc | apply Kd.R_drewN | apply Kd.R_drew)); exact HO495.out))) (below_size (by repeat (first | (with_reducible first | exact HB.out | apply below_alloc | apply pw_below_drewN | apply below_drew1) | exact HB.out))))
                                                      have n2_ := Aside0.mk (below_step (by repeat (first | (with_reducible first | exact HB.out | apply below_alloc | apply pw_below_drewN | apply below_drew1) | exact HB.out)) hb)
                                                      clear HO495
                                                      clear HB
                                                      have HO495 := n0_
                                                      have HO505 := n1_
                                                      have HB := n2_
                                                      clear n0_ n1_ n2_
                                                      clear hb ho81
                                                      refine hK.out _ _ trivial (fun hHeld => ?_)
                                                      clear hK K
                                                      refine norm_ (a' := ?_) ?_ ?_
                                                      rotate_left
                                                      · show Act.put _ (some 87) _ = _
                                                        simp only [Act.put, List.setIfInBounds_toArray, List.set_cons_zero, List.set_cons_succ, i64_w, i32_w]
                                                        rfl
                                                      refine one_ (i := 4) (N := some 85) #[true, true, true, true, true, true, true, false, true, true, true, true, false, false] rfl rfl (one_of HT_.out (by kernel_rfl)) (by decide) (fun K hK => ?_)
                                                      refine Kd.R_append_rows_step k33 (w0 := w) w.heap.size (by rfl) (.tmp 81) (.tmp 84) 22 33 (.agg #[(.int .i64 0), (.int .i64 0), (.int .i64 0), (.int .i64 0), (.int .i64 0)]) 40 rfl Try.underlying22 info33 rfl (by decide) (by omega) v494 y493 y496 _ _ _ (fun k_ => some k_ ≠ (v504 : Value).ownBlock) (fun _ => False) rfl rfl ?aO ?aR (fun _ _ h => h) (fun _ h => h.elim) ?aF ?aB ?aS ?aL ?_
                                                      (case aR => repeat (first | exact (Kd.C_below HR499.out HB.out) | (with_reducible refine Kd.C_alloc ?_ _) | (with_reducible refine Kd.C_drewN ?_ _) | (with_reducible refine Kd.C_drew ?_)))
                                                      (case aB => exact (by repeat (first | (with_reducible first | exact HB.out | apply below_alloc | apply pw_below_drewN | apply below_drew1) | exact HB.out)))
                                                      (case aF => exact (fun k_ hk => Kd.fresh' (Kd.R_lt (by (with_reducible repeat (first | apply Kd.R_alloc | apply Kd.R_drewN | apply Kd.R_drew)); exact HO505.out)) k_ hk))
                                                      (case aO => exact (by (with_reducible repeat (first | apply Kd.R_alloc | apply Kd.R_drewN | apply Kd.R_drew)); exact Kd.R_mono HO495.out (fun _ hk => hk.2)))
                                                      (case aS => exact (below_size (by repeat (first | (with_reducible first | exact HB.out | apply below_alloc | apply pw_below_drewN | apply below_drew1) | exact HB.out))))
                                                      (case aL => have := LMc35.out; omega)
                                                      intro v501 w82 ho hb hg hat
                                                      rw [← Ny500.out] at ho
                                                      have n0_ := Aside0.mk (Kd.R_after (ok := (fun _ => True)) (by (with_reducible repeat (first | apply Kd.R_alloc | apply Kd.R_drewN | apply Kd.R_drew)); exact HO505.out) hg hat)
                                                      have n1_ := Aside0.mk (hb)
                                                      have n2_ := Aside0.mk (ho)
                                                      clear HO505
                                                      clear HB
                                                      clear HO495
                                                      have HO505 := n0_
                                                      have HB := n1_
                                                      have HO502 := n2_
                                                      clear n0_ n1_ n2_
                                                      clear ho hb hg hat
                                                      refine hK.out _ _ trivial (fun hHeld => ?_)
                                                      clear hK K
                                                      refine norm_ (a' := ?_) ?_ ?_
                                                      rotate_left
                                                      · show Act.put _ (some 85) _ = _
                                                        simp only [Act.put, List.setIfInBounds_toArray, List.set_cons_zero, List.set_cons_succ, i64_w, i32_w]
                                                        rfl
                                                      exact norm_ (by simp only [putAll, Act.put, List.setIfInBounds_toArray, List.set_cons_zero, List.set_cons_succ]) (hCont (v494, v501, v504) _ ⟨(by (with_reducible repeat (first | apply Kd.R_alloc | apply Kd.R_drewN | apply Kd.R_drew)); exact HO502.out), (by (with_reducible repeat (first | apply Kd.R_alloc | apply Kd.R_drewN | apply Kd.R_drew)); exact Kd.R_mono HO505.out (fun _ hk => hk.2)), (by repeat (first | (with_reducible first | exact HB.out | apply below_alloc | apply pw_below_drewN | apply below_drew1) | exact HB.out))⟩)
                                                  · skip
                                                    refine Kd.R_lit_step k33 _ 33 ?hg (N := 87) ?hd (xs := ([(⟨6, 0, 0, 0, 0⟩ : S33)] : List (S33))) (inner := [.int .i64 6, .int .i64 0, .int .i64 0, .int .i64 0, .int .i64 0]) (ok := fun _ => True) (okp := fun _ => True) ?hr ?hp (fun _ hk => hk) trivial (Below.refl _ _) (Nat.le_refl _) (by simp) ?_; (case hd => rfl); (case hg => rfl); (case hr => first | (go_simp; done) | (go_simp; rfl)); (case hp => exact (Reps.c5 (show Kd.M k33 _ _ _ (⟨6, 0, 0, 0, 0⟩ : S33) [.int .i64 6, .int .i64 0, .int .i64 0, .int .i64 0, .int .i64 0] from (k33_mkM _ _ _ (⟨6, 0, 0, 0, 0⟩ : S33) )) (Reps.none _ _)))
                                                    intro v504 w78 ho79 hb hg_ hnew_
                                                    clear hg_ hnew_
                                                    (first | rw [← Ny503.out] at ho79 | (simp only [Int.reduceToNat] at ho79; rw [← Ny503.out] at ho79))
                                                    have n0_ := Aside0.mk (Kd.R_lower ho79 (below_size (by repeat (first | (with_reducible first | exact HB.out | apply below_alloc | apply pw_below_drewN | apply below_drew1) | exact HB.out))))
                                                    have n1_ := Aside0.mk (below_step (by repeat (first | (with_reducible first | exact HB.out | apply below_alloc | apply pw_below_drewN | apply below_drew1) | exact HB.out)) hb)
                                                    clear HB
                                                    have HO505 := n0_
                                                    have HB := n1_
                                                    clear n0_ n1_
                                                    clear hb ho79
                                                    refine hK.out _ _ trivial (fun hHeld => ?_)
                                                    clear hK K
                                                    refine norm_ (a' := ?_) ?_ ?_
                                                    rotate_left
                                                    · show Act.put _ (some 87) _ = _
                                                      simp only [Act.put, List.setIfInBounds_toArray, List.set_cons_zero, List.set_cons_succ, i64_w, i32_w]
                                                      rfl
                                                    refine one_ (i := 0) (N := some 81) #[true, true, true, true, false, true, true, false, true, true, true, true, false, false] rfl rfl (one_of HT_.out (by kernel_rfl)) (by decide) (fun K hK => ?_)
                                                    refine Kd.R_lit_step k33 _ 33 ?hg (N := 81) ?hd (xs := ([] : List (S33))) (inner := []) (ok := fun _ => True) (okp := fun _ => True) ?hr ?hp (fun _ hk => hk) trivial (Below.refl _ _) (Nat.le_refl _) (by simp) ?_; (case hd => rfl); (case hg => rfl); (case hr => first | (go_simp; done) | (go_simp; rfl)); (case hp => exact (Reps.none _ _))
                                                    intro v494 w80 ho81 hb hg_ hnew_
                                                    clear hg_ hnew_
                                                    (first | rw [← Ny493.out] at ho81 | (simp only [Int.reduceToNat] at ho81; rw [← Ny493.out] at ho81))
                                                    have n0_ := Aside0.mk (Kd.R_elder' (by (with_reducible repeat (first | apply Kd.R_alloc | apply Kd.R_drewN | apply Kd.R_drew)); exact HO505.out) (Kd.R_base ho81) hb)
                                                    have n1_ := Aside0.mk (Kd.R_lower (Kd.R_new' ho81 (Kd.R_lt (by (with_reducible repeat (first | apply Kd.R_alloc | apply Kd.R_drewN | apply Kd.R_drew)); exact HO505.out))) (below_size (by repeat (first | (with_reducible first | exact HB.out | apply below_alloc | apply pw_below_drewN | apply below_drew1) | exact HB.out))))
                                                    have n2_ := Aside0.mk (below_step (by repeat (first | (with_reducible first | exact HB.out | apply below_alloc | apply pw_below_drewN | apply below_drew1) | exact HB.out)) hb)
                                                    clear HO505
                                                    clear HB
                                                    have HO505 := n0_
                                                    have HO495 := n1_
                                                    have HB := n2_
                                                    clear n0_ n1_ n2_
                                                    clear hb ho81
                                                    refine hK.out _ _ trivial (fun hHeld => ?_)
                                                    clear hK K
                                                    refine norm_ (a' := ?_) ?_ ?_
                                                    rotate_left
                                                    · show Act.put _ (some 81) _ = _
                                                      simp only [Act.put, List.setIfInBounds_toArray, List.set_cons_zero, List.set_cons_succ, i64_w, i32_w]
                                                      rfl
                                                    refine one_ (i := 4) (N := some 85) #[true, true, true, true, true, true, true, false, true, true, true, true, false, false] rfl rfl (one_of HT_.out (by kernel_rfl)) (by decide) (fun K hK => ?_)
                                                    refine Kd.R_append_rows_step k33 (w0 := w) w.heap.size (by rfl) (.tmp 81) (.tmp 84) 22 33 (.agg #[(.int .i64 0), (.int .i64 0), (.int .i64 0), (.int .i64 0), (.int .i64 0)]) 40 rfl Try.underlying22 info33 rfl (by decide) (by omega) v494 y493 y496 _ _ _ (fun k_ => some k_ ≠ (v504 : Value).ownBlock) (fun _ => False) rfl rfl ?aO ?aR (fun _ _ h => h) (fun _ h => h.elim) ?aF ?aB ?aS ?aL ?_
                                                    (case aR => repeat (first | exact (Kd.C_below HR499.out HB.out) | (with_reducible refine Kd.C_alloc ?_ _) | (with_reducible refine Kd.C_drewN ?_ _) | (with_reducible refine Kd.C_drew ?_)))
                                                    (case aB => exact (by repeat (first | (with_reducible first | exact HB.out | apply below_alloc | apply pw_below_drewN | apply below_drew1) | exact HB.out)))
                                                    (case aF => exact (fun k_ hk => Kd.fresh' (Kd.R_lt (by (with_reducible repeat (first | apply Kd.R_alloc | apply Kd.R_drewN | apply Kd.R_drew)); exact HO505.out)) k_ hk))
                                                    (case aO => exact (by (with_reducible repeat (first | apply Kd.R_alloc | apply Kd.R_drewN | apply Kd.R_drew)); exact Kd.R_mono HO495.out (fun _ hk => hk.2)))
                                                    (case aS => exact (below_size (by repeat (first | (with_reducible first | exact HB.out | apply below_alloc | apply pw_below_drewN | apply below_drew1) | exact HB.out))))
                                                    (case aL => have := LMc35.out; omega)
                                                    intro v501 w82 ho hb hg hat
                                                    rw [← Ny500.out] at ho
                                                    have n0_ := Aside0.mk (Kd.R_after (ok := (fun _ => True)) (by (with_reducible repeat (first | apply Kd.R_alloc | apply Kd.R_drewN | apply Kd.R_drew)); exact HO505.out) hg hat)
                                                    have n1_ := Aside0.mk (hb)
                                                    have n2_ := Aside0.mk (ho)
                                                    clear HO505
                                                    clear HB
                                                    clear HO495
                                                    have HO505 := n0_
                                                    have HB := n1_
                                                    have HO502 := n2_
                                                    clear n0_ n1_ n2_
                                                    clear ho hb hg hat
                                                    refine hK.out _ _ trivial (fun hHeld => ?_)
                                                    clear hK K
                                                    refine norm_ (a' := ?_) ?_ ?_
                                                    rotate_left
                                                    · show Act.put _ (some 85) _ = _
                                                      simp only [Act.put, List.setIfInBounds_toArray, List.set_cons_zero, List.set_cons_succ, i64_w, i32_w]
                                                      rfl
                                                    exact norm_ (by simp only [putAll, Act.put, List.setIfInBounds_toArray, List.set_cons_zero, List.set_cons_succ]) (hCont (v494, v501, v504) _ ⟨(by (with_reducible repeat (first | apply Kd.R_alloc | apply Kd.R_drewN | apply Kd.R_drew)); exact HO502.out), (by (with_reducible repeat (first | apply Kd.R_alloc | apply Kd.R_drewN | apply Kd.R_drew)); exact Kd.R_mono HO505.out (fun _ hk => hk.2)), (by repeat (first | (with_reducible first | exact HB.out | apply below_alloc | apply pw_below_drewN | apply below_drew1) | exact HB.out))⟩)
                                                rintro ⟨v494, v501, v504⟩ w83 ⟨h0_, h1_, h2_⟩
                                                have n0_ : Aside0 (Kd.R k33 33 w83 w.heap.size (fun k_ => some k_ ≠ (v504 : Value).ownBlock) v501 y500) := ⟨h0_⟩
                                                have n1_ : Aside0 (Kd.R k33 33 w83 w.heap.size (fun k_ => some k_ ≠ (v501 : Value).ownBlock) v504 y503) := ⟨h1_⟩
                                                have n2_ : Aside0 (Below w.heap.size w w83) := ⟨h2_⟩
                                                clear HB
                                                clear h0_ h1_ h2_
                                                have HO502 := n0_
                                                have HO505 := n1_
                                                have HB := n2_
                                                clear n0_ n1_ n2_
                                                have hHeld := trivial
                                                obtain ⟨Ao85, co85, eo85⟩ := Kd.R_slice HO505.out
                                                (first | subst eo85 | (injection eo85 with f1_ f2_ f3_; have f4_ := f1_.symm; have f5_ := f3_.symm; clear f1_ f2_ f3_; subst f4_; subst f5_))
                                                refine norm_ (a' := ?_) ?_ ?_
                                                rotate_left
                                                · simp only [putAll, Act.put, List.setIfInBounds_toArray, List.set_cons_zero, List.set_cons_succ]
                                                  rfl
                                                refine one_ (i := 7) (N := some 88) #[true, true, true, true, true, true, true, true, true, true, true, true, false, false] rfl rfl (one_of HT_.out (by kernel_rfl)) (by decide) (fun K hK => ?_)
                                                refine Kd.R_append_rows_step k33 (w0 := w) w.heap.size (by rfl) (.tmp 85) (.tmp 87) 22 33 (.agg #[(.int .i64 0), (.int .i64 0), (.int .i64 0), (.int .i64 0), (.int .i64 0)]) 40 rfl Try.underlying22 info33 rfl (by decide) (by omega) v501 y500 y503 _ _ _ (fun k_ => some k_ ≠ (.slice Ao85 y503.length co85 : Value).ownBlock) (fun _ => False) rfl rfl ?aO ?aR (fun _ _ h => h) (fun _ h => h.elim) ?aF ?aB ?aS ?aL ?_
                                                (case aR => repeat (first | exact (Kd.R_reads' HO505.out).2.2 | (with_reducible refine Kd.C_alloc ?_ _) | (with_reducible refine Kd.C_drewN ?_ _) | (with_reducible refine Kd.C_drew ?_)))
                                                (case aB => exact (by repeat (first | (with_reducible first | exact HB.out | apply below_alloc | apply pw_below_drewN | apply below_drew1) | exact HB.out)))
                                                (case aF => exact (fun k_ hk => Kd.fresh' (Kd.R_lt (by (with_reducible repeat (first | apply Kd.R_alloc | apply Kd.R_drewN | apply Kd.R_drew)); exact HO505.out)) k_ hk))
                                                (case aO => exact (by (with_reducible repeat (first | apply Kd.R_alloc | apply Kd.R_drewN | apply Kd.R_drew)); exact HO502.out))
                                                (case aS => exact (below_size (by repeat (first | (with_reducible first | exact HB.out | apply below_alloc | apply pw_below_drewN | apply below_drew1) | exact HB.out))))
                                                (case aL => have := LMc36.out; omega)
                                                intro v507 w84 ho hb hg hat
                                                rw [← Ny506.out] at ho
                                                have n0_ := Aside0.mk (Kd.R_after (ok := (fun _ => True)) (by (with_reducible repeat (first | apply Kd.R_alloc | apply Kd.R_drewN | apply Kd.R_drew)); exact Kd.R_mono HO505.out (fun _ hk => ⟨trivial, hk⟩)) hg hat)
                                                have n1_ := Aside0.mk (hb)
                                                have n2_ := Aside0.mk (ho)
                                                clear HO505
                                                clear HB
                                                clear HO502
                                                have HO505 := n0_
                                                have HB := n1_
                                                have HO508 := n2_
                                                clear n0_ n1_ n2_
                                                clear ho hb hg hat
                                                refine hK.out _ _ trivial (fun hHeld => ?_)
                                                clear hK K
                                                refine norm_ (a' := ?_) ?_ ?_
                                                rotate_left
                                                · show Act.put _ (some 88) _ = _
                                                  simp only [Act.put, List.setIfInBounds_toArray, List.set_cons_zero, List.set_cons_succ, i64_w, i32_w]
                                                  rfl
                                                refine one_ (i := 12) (N := some 93) #[true, true, true, true, true, true, true, true, true, true, true, true, true, false] rfl rfl (one_of HT_.out (by kernel_rfl)) (by decide) (fun K hK => ?_)
                                                refine Kd.R_append_rows_step k33 (w0 := w) w.heap.size (by rfl) (.tmp 88) (.tmp 92) 22 33 (.agg #[(.int .i64 0), (.int .i64 0), (.int .i64 0), (.int .i64 0), (.int .i64 0)]) 40 rfl Try.underlying22 info33 rfl (by decide) (by omega) v507 y506 y509 _ _ _ (fun k_ => some k_ ≠ (.slice Ao85 y503.length co85 : Value).ownBlock) (fun _ => False) rfl rfl ?aO ?aR (fun _ _ h => h) (fun _ h => h.elim) ?aF ?aB ?aS ?aL ?_
                                                (case aR => repeat (first | exact (Kd.C_below HR512.out HB.out) | (with_reducible refine Kd.C_alloc ?_ _) | (with_reducible refine Kd.C_drewN ?_ _) | (with_reducible refine Kd.C_drew ?_)))
                                                (case aB => exact (by repeat (first | (with_reducible first | exact HB.out | apply below_alloc | apply pw_below_drewN | apply below_drew1) | exact HB.out)))
                                                (case aF => exact (fun k_ hk => Kd.fresh' (Kd.R_lt (by (with_reducible repeat (first | apply Kd.R_alloc | apply Kd.R_drewN | apply Kd.R_drew)); exact HO505.out)) k_ hk))
                                                (case aO => exact (by (with_reducible repeat (first | apply Kd.R_alloc | apply Kd.R_drewN | apply Kd.R_drew)); exact HO508.out))
                                                (case aS => exact (below_size (by repeat (first | (with_reducible first | exact HB.out | apply below_alloc | apply pw_below_drewN | apply below_drew1) | exact HB.out))))
                                                (case aL => have := LMc40.out; omega)
                                                intro v514 w86 ho hb hg hat
                                                rw [← Ny513.out] at ho
                                                have n0_ := Aside0.mk (Kd.R_after (ok := (fun _ => True)) (by (with_reducible repeat (first | apply Kd.R_alloc | apply Kd.R_drewN | apply Kd.R_drew)); exact HO505.out) hg hat)
                                                have n1_ := Aside0.mk (hb)
                                                have n2_ := Aside0.mk (ho)
                                                clear HO505
                                                clear HB
                                                clear HO508
                                                have HO505 := n0_
                                                have HB := n1_
                                                have HO515 := n2_
                                                clear n0_ n1_ n2_
                                                clear ho hb hg hat
                                                refine hK.out _ _ trivial (fun hHeld => ?_)
                                                clear hK K
                                                refine norm_ (a' := ?_) ?_ ?_
                                                rotate_left
                                                · show Act.put _ (some 93) _ = _
                                                  simp only [Act.put, List.setIfInBounds_toArray, List.set_cons_zero, List.set_cons_succ, i64_w, i32_w]
                                                  rfl
                                                refine pure_ (i := 13) (N := some 16) (v := ?_) (a' := ?_) #[true, true, true, true, true, true, true, true, true, true, true, true, true, true] rfl rfl (any_of HT_.out (by kernel_rfl)) (fun _ _ _ h => h) (Or.inl ⟨by rfl, ?_⟩) ?_ ?_
                                                rotate_left
                                                · intro w'
                                                  go_simp
                                                  with_reducible rfl
                                                rotate_left
                                                · simp only [Act.put, List.setIfInBounds_toArray, List.set_cons_zero, List.set_cons_succ, i64_w, i32_w]
                                                  rfl
                                                refine done_ (done_of HT_.out (by kernel_rfl)) ?_
                                                obtain ⟨Ao87, co87, eo87⟩ := Kd.R_slice HO515.out
                                                subst eo87
                                                try go_wp2_with (first | (go_at_call 22; (with_reducible refine (cfg_Reach.calls _ _ y513 (Int.tmod (wrap64 (a2)) (l0.length : Int)) (Int.tmod (wrap64 (a3)) (wrap64 ((l0.length : Int) + 1))) t516 _ ?side1 ?side2 A42.out).mono ?_); (case side1 => repeat (first | exact (Kd.R_reads' HO515.out).2.2 | (with_reducible refine Kd.C_alloc ?_ _) | (with_reducible refine Kd.C_drewN ?_ _) | (with_reducible refine Kd.C_drew ?_))); (case side2 => exact (Kd.R_reads' HO515.out).2.1); rintro e w88 ⟨rfl, hb⟩; have n0_ := Aside0.mk (Kd.R_below (by (with_reducible repeat (first | apply Kd.R_alloc | apply Kd.R_drewN | apply Kd.R_drew)); exact HO505.out) hb); have n1_ := Aside0.mk (Kd.R_below (by (with_reducible repeat (first | apply Kd.R_alloc | apply Kd.R_drewN | apply Kd.R_drew)); exact HO515.out) hb); have n2_ := Aside0.mk (below_step (by repeat (first | (with_reducible first | exact HB.out | apply below_alloc | apply pw_below_drewN | apply below_drew1) | exact HB.out)) hb); clear HO505; clear HO515; clear HB; have HO505 := n0_; have HO515 := n1_; have HB := n2_; clear n0_ n1_ n2_; (try clear hb); (try clear hb2); (try clear hk); (try clear hi)) | (go_at_call 24; (with_reducible refine (cfg_Free.calls _ _ y513 (Int.tmod (wrap64 (a2)) (l0.length : Int)) (Int.tmod (wrap64 (a3)) (wrap64 ((l0.length : Int) + 1))) t517 _ ?side1 ?side2 A74.out).mono ?_); (case side1 => repeat (first | exact (Kd.R_reads' HO515.out).2.2 | (with_reducible refine Kd.C_alloc ?_ _) | (with_reducible refine Kd.C_drewN ?_ _) | (with_reducible refine Kd.C_drew ?_))); (case side2 => exact (Kd.R_reads' HO515.out).2.1); rintro e w89 ⟨rfl, hb⟩; have n0_ := Aside0.mk (Kd.R_below (by (with_reducible repeat (first | apply Kd.R_alloc | apply Kd.R_drewN | apply Kd.R_drew)); exact HO505.out) hb); have n1_ := Aside0.mk (Kd.R_below (by (with_reducible repeat (first | apply Kd.R_alloc | apply Kd.R_drewN | apply Kd.R_drew)); exact HO515.out) hb); have n2_ := Aside0.mk (below_step (by repeat (first | (with_reducible first | exact HB.out | apply below_alloc | apply pw_below_drewN | apply below_drew1) | exact HB.out)) hb); clear HO505; clear HO515; clear HB; have HO505 := n0_; have HO515 := n1_; have HB := n2_; clear n0_ n1_ n2_; (try clear hb); (try clear hb2); (try clear hk); (try clear hi)))
                                                go_ret
                                                exact ⟨by first | rfl | (simp [errW_none, errW_some] <;> rfl) | (simp only [← hji32, ← hji37]; first | rfl | (simp [errW_none, errW_some] <;> rfl)) | (simp [*, errW_none, errW_some] <;> rfl), by repeat (first | (with_reducible first | exact HB.out | apply below_alloc | apply pw_below_drewN | apply below_drew1) | exact HB.out)⟩
                                          · rw [if_neg c43] at H
                                            have c43b0 : (t516 == (decide ((Int.tmod (wrap64 (a2)) (l0.length : Int)) < (Int.tmod (wrap64 (a3)) (wrap64 ((l0.length : Int) + 1)))))) = false := by simpa using c43
                                            (try (have c43b1 : decide (t516 = (decide ((Int.tmod (wrap64 (a2)) (l0.length : Int)) < (Int.tmod (wrap64 (a3)) (wrap64 ((l0.length : Int) + 1)))))) = false := by simpa using c43))
                                            (try (have c43b2 : (t516 == (decide ((Int.tmod (wrap64 (a2)) (l0.length : Int)) < (Int.tmod (wrap64 (a3)) (wrap64 ((l0.length : Int) + 1)))))) = false := by simpa using c43))
                                            (try (have c43b3 : ¬ (t516 = (decide ((Int.tmod (wrap64 (a2)) (l0.length : Int)) < (Int.tmod (wrap64 (a3)) (wrap64 ((l0.length : Int) + 1)))))) := by simpa using c43))
                                            clear c43
                                            exact absurd ((Option.some.inj H).trans HT.out) (by simp)
                                        · replace c41 := Bool.eq_false_iff.mpr c41
                                          subst c41
                                          have H1 : (some false) = some r := by rw [if_neg (show ¬ (false = true) by decide)] at H; exact H
                                          clear H
                                          have H := H1
                                          clear H1
                                          exact absurd ((Option.some.inj H).trans HT.out) (by simp)
                                      · rw [if_neg c40] at H
                                        exact absurd H (by simp)
                                    · rw [if_neg c39] at H
                                      exact absurd H (by simp)
                                  · rw [if_neg c38] at H
                                    exact absurd H (by simp)
                                · rw [if_neg c36] at H
                                  exact absurd H (by simp)
                              · rw [if_neg c35] at H
                                exact absurd H (by simp)
                            · rw [if_neg c34] at H
                              exact absurd H (by simp)
                          · rw [if_neg c33] at H
                            exact absurd H (by simp)

end Go.Proofs.Ytpaifpnnjflnfaa.Print
