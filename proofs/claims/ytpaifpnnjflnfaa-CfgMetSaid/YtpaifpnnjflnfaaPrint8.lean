-- Written by ownprint.py (this session's) with the kit's print.py: functions, contracts, rows; Lean checks it.
import Derived.Test.YtpaifpnnjflnfaaPrint0
import Derived.Test.YtpaifpnnjflnfaaPrint2
import Derived.Test.YtpaifpnnjflnfaaPrint5
import Derived.Test.YtpaifpnnjflnfaaHCfg
namespace Go.Proofs.Ytpaifpnnjflnfaa.Print
open Go.RowKit Go.Proofs.YtpaifpnnjflnfaaW.PrintWords Go.Proofs.YtpaifpnnjflnfaaW.PrintLast Go.Proofs.YtpaifpnnjflnfaaW.PrintMore
attribute [local go_sem] max2_int min2_int max_two min_two max_three min_three max_four min_four   -- for this text's walks alone
set_option linter.unusedVariables false
set_option linter.unusedSimpArgs false

/-! ### fencepostlaw18_CfgMet: function 6 -/
mutual
def fencepostlaw18_CfgMet.j0 : Nat → List (S33) → Int → Bool → List Bool → Bool → Option (Bool)
  | 0, _, _, _, _, _ => none
  | k + 1, x0, x1, x5, x6, x36 => if x36 = true then (some false) else (if (x6.length : Int) = 0 then (none) else (if (Int.tmod (wrap64 (x1)) (x6.length : Int)) > 0 then (if 0 ≤ (Int.tmod (wrap64 (x1)) (x6.length : Int)) then (if (Int.tmod (wrap64 (x1)) (x6.length : Int)) < (x6.length : Int) then ((cfg_Reach.f x0 0 (Int.tmod (wrap64 (x1)) (x6.length : Int))).bind fun t299 => (fencepostlaw18_CfgMet.j1 k x0 x5 x6 (Int.tmod (wrap64 (x1)) (x6.length : Int)) ((rdOf false x6 (Int.tmod (wrap64 (x1)) (x6.length : Int))) != t299))) else (none)) else (none)) else (fencepostlaw18_CfgMet.j1 k x0 x5 x6 (Int.tmod (wrap64 (x1)) (x6.length : Int)) false)))
def fencepostlaw18_CfgMet.j1 : Nat → List (S33) → Bool → List Bool → Int → Bool → Option (Bool)
  | 0, _, _, _, _, _ => none
  | k + 1, x0, x5, x6, x7, x53 => if x53 = true then (some false) else ((cfg_Next.f x0 x7).bind fun t300 => (fencepostlaw18_CfgMet.l0 k x5 x6 x7 t300 0))
def fencepostlaw18_CfgMet.l0 : Nat → Bool → List Bool → Int → List Int → Int → Option (Bool)
  | 0, _, _, _, _, _ => none
  | k + 1, x5, x6, x7, x8, x9 => if x9 < (x8.length : Int) then (if 0 ≤ x7 then (if x7 < (x6.length : Int) then (fencepostlaw18_CfgMet.j3 k x5 x6 x7 x8 x9 (rdOf false x6 x7)) else (none)) else (none)) else (fencepostlaw18_CfgMet.j3 k x5 x6 x7 x8 x9 false)
def fencepostlaw18_CfgMet.j3 : Nat → Bool → List Bool → Int → List Int → Int → Bool → Option (Bool)
  | 0, _, _, _, _, _, _ => none
  | k + 1, x5, x6, x7, x8, x9, x66 => if x66 = true then (if 0 ≤ x9 then (if x9 < (x8.length : Int) then (if (rd x8 x9) < 0 then (some false) else (if (rd x8 x9) ≥ (x6.length : Int) then (some false) else (if 0 ≤ (rd x8 x9) then (if (rd x8 x9) < (x6.length : Int) then (if (rdOf false x6 (rd x8 x9) = true) then (fencepostlaw18_CfgMet.l0 k x5 x6 x7 x8 (wrap64 (x9 + 1))) else (some false)) else (none)) else (none)))) else (none)) else (none)) else (some x5)
end
def fencepostlaw18_CfgMet.f (k : Nat) (l0 : List (S33)) (a1 : Int) : Option (Bool) := (fencepostlaw18_head.f k).bind fun t291 => ((fencepostlaw18_Good.f k l0).bind fun t292 => (if t292 = true then ((cfg_Met.f k l0).bind fun t293 => (if (t293.length : Int) = (wrap64 ((l0.length : Int) + 1)) then (if 0 < (t293.length : Int) then (if rdOf false t293 0 = true then (if 0 ≤ (l0.length : Int) then (if (l0.length : Int) < (t293.length : Int) then (fencepostlaw18_CfgMet.j0 k l0 a1 t291 t293 (!(rdOf false t293 (l0.length : Int)))) else (none)) else (none)) else (fencepostlaw18_CfgMet.j0 k l0 a1 t291 t293 true)) else (none)) else (fencepostlaw18_CfgMet.j0 k l0 a1 t291 t293 true))) else (some t291)))
theorem fencepostlaw18_CfgMet.mono_l : ∀ k, (∀ y0 y1 y2 y3 y4, LeO (fencepostlaw18_CfgMet.j0 k y0 y1 y2 y3 y4) (fencepostlaw18_CfgMet.j0 (k + 1) y0 y1 y2 y3 y4)) ∧ (∀ y0 y1 y2 y3 y4, LeO (fencepostlaw18_CfgMet.j1 k y0 y1 y2 y3 y4) (fencepostlaw18_CfgMet.j1 (k + 1) y0 y1 y2 y3 y4)) ∧ (∀ y0 y1 y2 y3 y4, LeO (fencepostlaw18_CfgMet.l0 k y0 y1 y2 y3 y4) (fencepostlaw18_CfgMet.l0 (k + 1) y0 y1 y2 y3 y4)) ∧ (∀ y0 y1 y2 y3 y4 y5, LeO (fencepostlaw18_CfgMet.j3 k y0 y1 y2 y3 y4 y5) (fencepostlaw18_CfgMet.j3 (k + 1) y0 y1 y2 y3 y4 y5))
  | 0 => ⟨fun _ _ _ _ _ r h => by simp [fencepostlaw18_CfgMet.j0] at h, fun _ _ _ _ _ r h => by simp [fencepostlaw18_CfgMet.j1] at h, fun _ _ _ _ _ r h => by simp [fencepostlaw18_CfgMet.l0] at h, fun _ _ _ _ _ _ r h => by simp [fencepostlaw18_CfgMet.j3] at h⟩
  | k + 1 => by
    obtain ⟨ih0, ih1, ih2, ih3⟩ := fencepostlaw18_CfgMet.mono_l k
    refine ⟨?_, ?_, ?_, ?_⟩
    · intro y0 y1 y2 y3 y4
      unfold fencepostlaw18_CfgMet.j0
      repeat' first
      | (with_reducible exact ih0 _ _ _ _ _)
      | (with_reducible exact ih1 _ _ _ _ _)
      | (with_reducible exact ih2 _ _ _ _ _)
      | (with_reducible exact ih3 _ _ _ _ _ _)
      | (with_reducible exact cfg_Met.mono _ _)
      | (with_reducible exact fencepostlaw18_Good.mono _ _)
      | (with_reducible exact fencepostlaw18_head.mono _)
      | (with_reducible exact LeO.refl _)
      | (with_reducible exact LeO.none _)
      | (with_reducible refine LeO.ite ?_ ?_)
      | (with_reducible refine LeO.bind ?_ (fun _ => ?_))
      | exact ih0 _ _ _ _ _
      | exact ih1 _ _ _ _ _
      | exact ih2 _ _ _ _ _
      | exact ih3 _ _ _ _ _ _
      | exact cfg_Met.mono _ _
      | exact fencepostlaw18_Good.mono _ _
      | exact fencepostlaw18_head.mono _
      | exact LeO.none _
      | refine LeO.ite ?_ ?_
      | refine LeO.bind ?_ (fun _ => ?_)
    · intro y0 y1 y2 y3 y4
      unfold fencepostlaw18_CfgMet.j1
      repeat' first
      | (with_reducible exact ih0 _ _ _ _ _)
      | (with_reducible exact ih1 _ _ _ _ _)
      | (with_reducible exact ih2 _ _ _ _ _)
      | (with_reducible exact ih3 _ _ _ _ _ _)
      | (with_reducible exact cfg_Met.mono _ _)
      | (with_reducible exact fencepostlaw18_Good.mono _ _)
      | (with_reducible exact fencepostlaw18_head.mono _)
      | (with_reducible exact LeO.refl _)
      | (with_reducible exact LeO.none _)
      | (with_reducible refine LeO.ite ?_ ?_)
      | (with_reducible refine LeO.bind ?_ (fun _ => ?_))
      | exact ih0 _ _ _ _ _
      | exact ih1 _ _ _ _ _
      | exact ih2 _ _ _ _ _
      | exact ih3 _ _ _ _ _ _
      | exact cfg_Met.mono _ _
      | exact fencepostlaw18_Good.mono _ _
      | exact fencepostlaw18_head.mono _
      | exact LeO.none _
      | refine LeO.ite ?_ ?_
      | refine LeO.bind ?_ (fun _ => ?_)
    · intro y0 y1 y2 y3 y4
      unfold fencepostlaw18_CfgMet.l0
      repeat' first
      | (with_reducible exact ih0 _ _ _ _ _)
      | (with_reducible exact ih1 _ _ _ _ _)
      | (with_reducible exact ih2 _ _ _ _ _)
      | (with_reducible exact ih3 _ _ _ _ _ _)
      | (with_reducible exact cfg_Met.mono _ _)
      | (with_reducible exact fencepostlaw18_Good.mono _ _)
      | (with_reducible exact fencepostlaw18_head.mono _)
      | (with_reducible exact LeO.refl _)
      | (with_reducible exact LeO.none _)
      | (with_reducible refine LeO.ite ?_ ?_)
      | (with_reducible refine LeO.bind ?_ (fun _ => ?_))
      | exact ih0 _ _ _ _ _
      | exact ih1 _ _ _ _ _
      | exact ih2 _ _ _ _ _
      | exact ih3 _ _ _ _ _ _
      | exact cfg_Met.mono _ _
      | exact fencepostlaw18_Good.mono _ _
      | exact fencepostlaw18_head.mono _
      | exact LeO.none _
      | refine LeO.ite ?_ ?_
      | refine LeO.bind ?_ (fun _ => ?_)
    · intro y0 y1 y2 y3 y4 y5
      unfold fencepostlaw18_CfgMet.j3
      repeat' first
      | (with_reducible exact ih0 _ _ _ _ _)
      | (with_reducible exact ih1 _ _ _ _ _)
      | (with_reducible exact ih2 _ _ _ _ _)
      | (with_reducible exact ih3 _ _ _ _ _ _)
      | (with_reducible exact cfg_Met.mono _ _)
      | (with_reducible exact fencepostlaw18_Good.mono _ _)
      | (with_reducible exact fencepostlaw18_head.mono _)
      | (with_reducible exact LeO.refl _)
      | (with_reducible exact LeO.none _)
      | (with_reducible refine LeO.ite ?_ ?_)
      | (with_reducible refine LeO.bind ?_ (fun _ => ?_))
      | exact ih0 _ _ _ _ _
      | exact ih1 _ _ _ _ _
      | exact ih2 _ _ _ _ _
      | exact ih3 _ _ _ _ _ _
      | exact cfg_Met.mono _ _
      | exact fencepostlaw18_Good.mono _ _
      | exact fencepostlaw18_head.mono _
      | exact LeO.none _
      | refine LeO.ite ?_ ?_
      | refine LeO.bind ?_ (fun _ => ?_)
theorem fencepostlaw18_CfgMet.mono : ∀ a0 a1 k, LeO (fencepostlaw18_CfgMet.f k a0 a1) (fencepostlaw18_CfgMet.f (k + 1) a0 a1) := by
  intro a0 a1 k
  obtain ⟨ih0, ih1, ih2, ih3⟩ := fencepostlaw18_CfgMet.mono_l k
  unfold fencepostlaw18_CfgMet.f
  repeat' first
      | (with_reducible exact ih0 _ _ _ _ _)
      | (with_reducible exact ih1 _ _ _ _ _)
      | (with_reducible exact ih2 _ _ _ _ _)
      | (with_reducible exact ih3 _ _ _ _ _ _)
      | (with_reducible exact cfg_Met.mono _ _)
      | (with_reducible exact fencepostlaw18_Good.mono _ _)
      | (with_reducible exact fencepostlaw18_head.mono _)
      | (with_reducible exact LeO.refl _)
      | (with_reducible exact LeO.none _)
      | (with_reducible refine LeO.ite ?_ ?_)
      | (with_reducible refine LeO.bind ?_ (fun _ => ?_))
      | exact ih0 _ _ _ _ _
      | exact ih1 _ _ _ _ _
      | exact ih2 _ _ _ _ _
      | exact ih3 _ _ _ _ _ _
      | exact cfg_Met.mono _ _
      | exact fencepostlaw18_Good.mono _ _
      | exact fencepostlaw18_head.mono _
      | exact LeO.none _
      | refine LeO.ite ?_ ?_
      | refine LeO.bind ?_ (fun _ => ?_)
def fencepostlaw18_CfgMet.T8 : Bool × List (List Nat × List Nat) := (true, [([], []), ([0], [0]), ([1], [1]), ([2], [2]), ([2], [2]), ([3, 4, 2], [2, 3, 4]), ([5, 2], [2, 5]), ([2], [2]), ([2], [2]), ([7, 8, 2, 2], [2, 7, 8]), ([6, 9, 2], [2, 6, 9]), ([2, 10], [2, 10])])
def fencepostlaw18_CfgMet.B8 : List Nat := [0, 1, 3, 7, 7, 31, 63, 7, 7, 391, 1023, 2047]
theorem fencepostlaw18_CfgMet.tab8 : rtab .any (opsOf Try.f6 8) = fencepostlaw18_CfgMet.T8 := by kernel_rfl
theorem fencepostlaw18_CfgMet.bits8 : waitsOk fencepostlaw18_CfgMet.T8.2 fencepostlaw18_CfgMet.B8 = true := by kernel_rfl
set_option maxHeartbeats 8000000 in
set_option maxRecDepth 100000 in
theorem fencepostlaw18_CfgMet.calls (k : Nat) (A0 : Option Addr) (c0 : Nat) (l0 : List (S33)) (a1 : Int) (r : Bool) (w : World) (hr0 : Kd.C k33 w A0 l0.length l0) (hc0 : l0.length ≤ c0) (ht_ : r = true) (h : fencepostlaw18_CfgMet.f k l0 a1 = some r) :
    Calls Try.prog 6 #[.slice A0 l0.length c0, .int .u8 a1] w fun e w' => e = .returned (.bool r) ∧ Below w.heap.size w w' := by
  have HR0 := Aside0.mk hr0
  have HC0 := Aside0.mk hc0
  clear hr0 hc0
  have HB := Aside0.mk (Below.refl w.heap.size w)
  have HT := Aside0.mk ht_
  clear ht_
  have H : ((fencepostlaw18_head.f k).bind fun t291 => ((fencepostlaw18_Good.f k l0).bind fun t292 => (if t292 = true then ((cfg_Met.f k l0).bind fun t293 => (if (t293.length : Int) = (wrap64 ((l0.length : Int) + 1)) then (if 0 < (t293.length : Int) then (if rdOf false t293 0 = true then (if 0 ≤ (l0.length : Int) then (if (l0.length : Int) < (t293.length : Int) then (fencepostlaw18_CfgMet.j0 k l0 a1 t291 t293 (!(rdOf false t293 (l0.length : Int)))) else (none)) else (none)) else (fencepostlaw18_CfgMet.j0 k l0 a1 t291 t293 true)) else (none)) else (fencepostlaw18_CfgMet.j0 k l0 a1 t291 t293 true))) else (some t291)))) = some r := h
  clear h
  replace H := Option.bind_eq_some_iff.mp H
  obtain ⟨t291, A30, H⟩ := H
  replace H : ((fencepostlaw18_Good.f k l0).bind fun t292 => (if t292 = true then ((cfg_Met.f k l0).bind fun t293 => (if (t293.length : Int) = (wrap64 ((l0.length : Int) + 1)) then (if 0 < (t293.length : Int) then (if rdOf false t293 0 = true then (if 0 ≤ (l0.length : Int) then (if (l0.length : Int) < (t293.length : Int) then (fencepostlaw18_CfgMet.j0 k l0 a1 t291 t293 (!(rdOf false t293 (l0.length : Int)))) else (none)) else (none)) else (fencepostlaw18_CfgMet.j0 k l0 a1 t291 t293 true)) else (none)) else (fencepostlaw18_CfgMet.j0 k l0 a1 t291 t293 true))) else (some t291))) = some r := H
  have A3 := Aside0.mk A30
  clear A30
  replace H := Option.bind_eq_some_iff.mp H
  obtain ⟨t292, A40, H⟩ := H
  replace H : (if t292 = true then ((cfg_Met.f k l0).bind fun t293 => (if (t293.length : Int) = (wrap64 ((l0.length : Int) + 1)) then (if 0 < (t293.length : Int) then (if rdOf false t293 0 = true then (if 0 ≤ (l0.length : Int) then (if (l0.length : Int) < (t293.length : Int) then (fencepostlaw18_CfgMet.j0 k l0 a1 t291 t293 (!(rdOf false t293 (l0.length : Int)))) else (none)) else (none)) else (fencepostlaw18_CfgMet.j0 k l0 a1 t291 t293 true)) else (none)) else (fencepostlaw18_CfgMet.j0 k l0 a1 t291 t293 true))) else (some t291)) = some r := H
  have A4 := Aside0.mk A40
  clear A40
  by_cases c5 : t292 = true
  · subst c5
    have H1 : ((cfg_Met.f k l0).bind fun t293 => (if (t293.length : Int) = (wrap64 ((l0.length : Int) + 1)) then (if 0 < (t293.length : Int) then (if rdOf false t293 0 = true then (if 0 ≤ (l0.length : Int) then (if (l0.length : Int) < (t293.length : Int) then (fencepostlaw18_CfgMet.j0 k l0 a1 t291 t293 (!(rdOf false t293 (l0.length : Int)))) else (none)) else (none)) else (fencepostlaw18_CfgMet.j0 k l0 a1 t291 t293 true)) else (none)) else (fencepostlaw18_CfgMet.j0 k l0 a1 t291 t293 true))) = some r := by rw [if_pos rfl] at H; exact H
    clear H
    have H := H1
    clear H1
    replace H := Option.bind_eq_some_iff.mp H
    obtain ⟨t293, A60, H⟩ := H
    replace H : (if (t293.length : Int) = (wrap64 ((l0.length : Int) + 1)) then (if 0 < (t293.length : Int) then (if rdOf false t293 0 = true then (if 0 ≤ (l0.length : Int) then (if (l0.length : Int) < (t293.length : Int) then (fencepostlaw18_CfgMet.j0 k l0 a1 t291 t293 (!(rdOf false t293 (l0.length : Int)))) else (none)) else (none)) else (fencepostlaw18_CfgMet.j0 k l0 a1 t291 t293 true)) else (none)) else (fencepostlaw18_CfgMet.j0 k l0 a1 t291 t293 true)) = some r := H
    have A6 := Aside0.mk A60
    clear A60
    have HC7 := Aside0.mk H
    clear H
    go_enter Try.func6, Try.ntmps6
    (try simp only [List.append_eq, List.cons_append, List.nil_append])
    go_upto_region 5 with (first | ((with_reducible refine gate_callee (f := 15) rfl ?_); refine goesL_ (some 10) rfl rfl Try.func15 (by kernel_rfl) rfl #[] rfl (by (try simp only [List.map_toArray, List.map_cons, List.map_nil]); first | done | rfl | (simp only [List.length_drop, List.length_take]; rfl)) ?_; (with_reducible refine (fencepostlaw18_head.calls k  t291 _ A3.out).mono ?_); rintro e w8 ⟨rfl, hb⟩; refine ⟨_, rfl, ?_⟩; have n0_ := Aside0.mk (below_step (by repeat (first | (with_reducible first | exact HB.out | apply below_alloc | apply pw_below_drewN | apply below_drew1) | exact HB.out)) hb); clear HB; have HB := n0_; clear n0_; (try clear hb); (try clear hb2); (try clear hk); (try clear hi)) | ((with_reducible refine gate_callee (f := 16) rfl ?_); refine goesL_ (some 12) rfl rfl Try.func16 (by kernel_rfl) rfl #[.slice A0 l0.length c0] rfl (by (try simp only [List.map_toArray, List.map_cons, List.map_nil]); first | done | rfl | (simp only [List.length_drop, List.length_take]; rfl)) ?_; (with_reducible refine (fencepostlaw18_Good.calls k (fun k_ => k_ < w.heap.size) _ _ l0 true _ ?side1 A4.out).mono ?_); (case side1 => exact Kd.V_mk HC0.out (Kd.F_below (Kd.C_F k33_heap HR0.out) (by repeat (first | (with_reducible first | exact HB.out | apply below_alloc | apply pw_below_drewN | apply below_drew1) | exact HB.out)))); rintro e w9 ⟨rfl, hb⟩; refine ⟨_, rfl, ?_⟩; have n0_ := Aside0.mk (below_step (by repeat (first | (with_reducible first | exact HB.out | apply below_alloc | apply pw_below_drewN | apply below_drew1) | exact HB.out)) hb); clear HB; have HB := n0_; clear n0_; (try clear hb); (try clear hb2); (try clear hk); (try clear hi)) | ((with_reducible refine gate_callee (f := 17) rfl ?_); refine goesL_ (some 16) rfl rfl Try.func17 (by kernel_rfl) rfl #[.slice A0 l0.length c0] rfl (by (try simp only [List.map_toArray, List.map_cons, List.map_nil]); first | done | rfl | (simp only [List.length_drop, List.length_take]; rfl)) ?_; (with_reducible refine (cfg_Met.calls k _ _ l0 t293 _ ?side1 ?side2 A6.out).mono ?_); (case side1 => repeat (first | exact (Kd.C_below HR0.out HB.out) | (with_reducible refine Kd.C_alloc ?_ _) | (with_reducible refine Kd.C_drewN ?_ _) | (with_reducible refine Kd.C_drew ?_))); (case side2 => exact HC0.out); rintro e w10 ⟨v294, rfl, ho0, hb⟩; refine ⟨_, rfl, ?_⟩; have n0_ := Aside0.mk (Kd.R_lower ho0 (below_size (by repeat (first | (with_reducible first | exact HB.out | apply below_alloc | apply pw_below_drewN | apply below_drew1) | exact HB.out)))); have n1_ := Aside0.mk (below_step (by repeat (first | (with_reducible first | exact HB.out | apply below_alloc | apply pw_below_drewN | apply below_drew1) | exact HB.out)) hb); clear HB; have HO295 := n0_; have HB := n1_; clear n0_ n1_; (try clear hb); (try clear hb2); (try clear hk); (try clear hi); (try clear ho0)))
    (try simp only [Act.put, List.setIfInBounds_toArray, List.set_cons_zero, List.set_cons_succ])
    go_cut [36] (fun v36 wc => ∃ (kq : Nat) (x36_6 : Bool), v36 = .bool x36_6 ∧ Aside0 (fencepostlaw18_CfgMet.j0 kq l0 a1 t291 t293 x36_6 = some r) ∧ Aside0 (kq ≤ k) ∧ Aside0 (Kd.R Kd.bool 4 wc w.heap.size (fun _ => True) v294 t293) ∧ Aside0 (Below w.heap.size w wc))
    case first =>
      have H := HC7.out
      clear HC7
      by_cases c11 : (t293.length : Int) = (wrap64 ((l0.length : Int) + 1))
      · rw [if_pos c11] at H
        have c11b0 : ((t293.length : Int) == (wrap64 ((l0.length : Int) + 1))) = true := beq_iff_eq.mpr c11
        have c11b1 : ((t293.length : Int) != (wrap64 ((l0.length : Int) + 1))) = false := bne_eq_false_iff_eq.mpr c11
        clear c11
        (first | rw [c11b0] | (simp only [i64_w, i32_w]; rw [c11b0]) | skip)
        by_cases c12 : 0 < (t293.length : Int)
        · rw [if_pos c12] at H
          have c12b0 : decide (0 < (t293.length : Int)) = true := decide_eq_true c12
          have c12b1 : decide (0 < t293.length) = true := decide_eq_true (by omega)
          clear c12
          obtain ⟨bq13, hbq13⟩ : ∃ b_ : Bool, b_ = (rdOf false t293 0) := ⟨_, rfl⟩
          replace H : (if bq13 = true then (if 0 ≤ (l0.length : Int) then (if (l0.length : Int) < (t293.length : Int) then (fencepostlaw18_CfgMet.j0 k l0 a1 t291 t293 (!(rdOf false t293 (l0.length : Int)))) else (none)) else (none)) else (fencepostlaw18_CfgMet.j0 k l0 a1 t291 t293 true)) = some r := by rw [← hbq13] at H; exact H
          have Nbq13 := Aside0.mk hbq13
          clear hbq13
          by_cases c14 : bq13 = true
          · subst c14
            have H1 : (if 0 ≤ (l0.length : Int) then (if (l0.length : Int) < (t293.length : Int) then (fencepostlaw18_CfgMet.j0 k l0 a1 t291 t293 (!(rdOf false t293 (l0.length : Int)))) else (none)) else (none)) = some r := by rw [if_pos rfl] at H; exact H
            clear H
            have H := H1
            clear H1
            by_cases c15 : 0 ≤ (l0.length : Int)
            · rw [if_pos c15] at H
              have c15b0 : decide (0 ≤ (l0.length : Int)) = true := decide_eq_true c15
              have c15b1 : decide (0 ≤ l0.length) = true := decide_eq_true (by omega)
              clear c15
              by_cases c16 : (l0.length : Int) < (t293.length : Int)
              · rw [if_pos c16] at H
                have c16b0 : decide ((l0.length : Int) < (t293.length : Int)) = true := decide_eq_true c16
                have c16b1 : decide (l0.length < t293.length) = true := decide_eq_true (Int.ofNat_lt.mp c16)
                clear c16
                have H' := Aside0.mk H
                clear H
                obtain ⟨Ao17, co17, eo17⟩ := Kd.R_slice HO295.out
                subst eo17
                have p296 : 0 ≤ (0 : Int) := (by omega)
                have q296 : 0 < (t293.length : Int) := of_decide_eq_true (by first | (with_reducible assumption) | assumption)
                obtain ⟨ad296, e296, hx296_0⟩ := Kd.at_bool (Kd.R_reads' HO295.out).2.2 0 p296 q296
                (try rw [← Nbq13.out] at hx296_0)
                cases e296
                have qi296 : (0 < t293.length) = True := eq_true (by omega)
                (try rw [show ((0 : Int)).toNat = 0 from rfl] at hx296_0)
                (try rw [Addr.add_zero'] at hx296_0)
                replace p296 := eq_true p296
                replace q296 := eq_true q296
                have p297 : 0 ≤ ((l0.length : Int) : Int) := of_decide_eq_true (by first | (with_reducible assumption) | assumption)
                have q297 : (l0.length : Int) < (t293.length : Int) := of_decide_eq_true (by first | (with_reducible assumption) | assumption)
                obtain ⟨ad297, e297, hx297_0⟩ := Kd.at_bool (Kd.R_reads' HO295.out).2.2 (l0.length : Int) p297 q297
                (try rw [← Nbq13.out] at hx297_0)
                obtain rfl : ad296 = ad297 := (by injection e297)
                (try simp only [Go.IntWalk.toNatUp] at hx297_0)
                replace p297 := eq_true p297
                replace q297 := eq_true q297
                go_wp2
                go_meet
                case rel => exact ⟨_, (!(rdOf false t293 (l0.length : Int))), (by first | rfl | (simp; done) | (simp [*]; done)), H', ⟨by first | omega | exact Nat.le_refl _⟩, ⟨by (with_reducible repeat (first | apply Kd.R_alloc | apply Kd.R_drewN | apply Kd.R_drew)); exact HO295.out⟩, ⟨by repeat (first | (with_reducible first | exact HB.out | apply below_alloc | apply pw_below_drewN | apply below_drew1) | exact HB.out)⟩⟩
              · rw [if_neg c16] at H
                exact absurd H (by simp)
            · rw [if_neg c15] at H
              exact absurd H (by simp)
          · replace c14 := Bool.eq_false_iff.mpr c14
            subst c14
            have H1 : (fencepostlaw18_CfgMet.j0 k l0 a1 t291 t293 true) = some r := by rw [if_neg (show ¬ (false = true) by decide)] at H; exact H
            clear H
            have H := H1
            clear H1
            have H' := Aside0.mk H
            clear H
            obtain ⟨Ao18, co18, eo18⟩ := Kd.R_slice HO295.out
            subst eo18
            have p296 : 0 ≤ (0 : Int) := (by omega)
            have q296 : 0 < (t293.length : Int) := of_decide_eq_true (by first | (with_reducible assumption) | assumption)
            obtain ⟨ad296, e296, hx296_0⟩ := Kd.at_bool (Kd.R_reads' HO295.out).2.2 0 p296 q296
            (try rw [← Nbq13.out] at hx296_0)
            cases e296
            have qi296 : (0 < t293.length) = True := eq_true (by omega)
            (try rw [show ((0 : Int)).toNat = 0 from rfl] at hx296_0)
            (try rw [Addr.add_zero'] at hx296_0)
            replace p296 := eq_true p296
            replace q296 := eq_true q296
            go_wp2
            go_meet
            case rel => exact ⟨_, (true), (by first | rfl | (simp; done) | (simp [*]; done)), H', ⟨by first | omega | exact Nat.le_refl _⟩, ⟨by (with_reducible repeat (first | apply Kd.R_alloc | apply Kd.R_drewN | apply Kd.R_drew)); exact HO295.out⟩, ⟨by repeat (first | (with_reducible first | exact HB.out | apply below_alloc | apply pw_below_drewN | apply below_drew1) | exact HB.out)⟩⟩
        · rw [if_neg c12] at H
          exact absurd H (by simp)
      · rw [if_neg c11] at H
        have c11b0 : ((t293.length : Int) == (wrap64 ((l0.length : Int) + 1))) = false := beq_eq_false_iff_ne.mpr c11
        have c11b1 : ((t293.length : Int) != (wrap64 ((l0.length : Int) + 1))) = true := bne_iff_ne.mpr c11
        (first | rw [c11b0] | (simp only [i64_w, i32_w]; rw [c11b0]) | skip)
        have H' := Aside0.mk H
        clear H
        obtain ⟨Ao19, co19, eo19⟩ := Kd.R_slice HO295.out
        subst eo19
        go_wp2
        go_meet
        case rel => exact ⟨_, (true), (by first | rfl | (simp; done) | (simp [*]; done)), H', ⟨by first | omega | exact Nat.le_refl _⟩, ⟨by (with_reducible repeat (first | apply Kd.R_alloc | apply Kd.R_drewN | apply Kd.R_drew)); exact HO295.out⟩, ⟨by repeat (first | (with_reducible first | exact HB.out | apply below_alloc | apply pw_below_drewN | apply below_drew1) | exact HB.out)⟩⟩
    case rest =>
      clear HC7
      try clear c1
      try clear q1
      try clear p2
      try clear q2
      try clear hx2
      try clear qi2
      try clear c5
      try clear c6
      try clear p6
      try clear c11
      try clear c11b0
      try clear c11b1
      try clear c12
      try clear c12b0
      try clear c12b1
      try clear q13
      try clear c14
      try clear c15
      try clear c15b0
      try clear c15b1
      try clear c16
      try clear c16b0
      try clear c16b1
      try clear c17
      try clear hx296_0
      try clear hx297_0
      try clear p296
      try clear p297
      try clear q296
      try clear q297
      obtain ⟨kq, x36_6, rfl, HA, HJ6, HO_6, HB⟩ := hcut
      cases kq with
      | zero => exact absurd HA.out (by simp [fencepostlaw18_CfgMet.j0])
      | succ kj6 =>
        have H := HA.out
        clear HA
        simp only [fencepostlaw18_CfgMet.j0] at H
        by_cases c20 : x36_6 = true
        · subst c20
          have H1 : (some false) = some r := by rw [if_pos rfl] at H; exact H
          clear H
          have H := H1
          clear H1
          exact absurd ((Option.some.inj H).trans HT.out) (by simp)
        · replace c20 := Bool.eq_false_iff.mpr c20
          subst c20
          have H1 : (if (t293.length : Int) = 0 then (none) else (if (Int.tmod (wrap64 (a1)) (t293.length : Int)) > 0 then (if 0 ≤ (Int.tmod (wrap64 (a1)) (t293.length : Int)) then (if (Int.tmod (wrap64 (a1)) (t293.length : Int)) < (t293.length : Int) then ((cfg_Reach.f l0 0 (Int.tmod (wrap64 (a1)) (t293.length : Int))).bind fun t299 => (fencepostlaw18_CfgMet.j1 kj6 l0 t291 t293 (Int.tmod (wrap64 (a1)) (t293.length : Int)) ((rdOf false t293 (Int.tmod (wrap64 (a1)) (t293.length : Int))) != t299))) else (none)) else (none)) else (fencepostlaw18_CfgMet.j1 kj6 l0 t291 t293 (Int.tmod (wrap64 (a1)) (t293.length : Int)) false))) = some r := by rw [if_neg (show ¬ (false = true) by decide)] at H; exact H
          clear H
          have H := H1
          clear H1
          by_cases c21 : (t293.length : Int) = 0
          · rw [if_pos c21] at H
            exact absurd H (by simp)
          · rw [if_neg c21] at H
            have c21b0 : ((t293.length : Int) == 0) = false := beq_eq_false_iff_ne.mpr c21
            have c21b1 : ((t293.length : Int) != 0) = true := bne_iff_ne.mpr c21
            have c21b2 : ¬ (t293 = []) := fun h_ => c21 (by rw [h_]; rfl)
            have HC22 := Aside0.mk H
            clear H
            obtain ⟨Ao23, co23, eo23⟩ := Kd.R_slice HO_6.out
            subst eo23
            go_upto_region 8 with (fail)
            go_cut [53] (fun v53 wc => ∃ (kq : Nat) (x53_21 : Bool), v53 = .bool x53_21 ∧ Aside0 (fencepostlaw18_CfgMet.j1 kq l0 t291 t293 (Int.tmod (wrap64 (a1)) (t293.length : Int)) x53_21 = some r) ∧ Aside0 (kq ≤ kj6) ∧ Aside0 (Kd.R Kd.bool 4 wc w.heap.size (fun _ => True) (.slice Ao23 t293.length co23) t293) ∧ Aside0 (Below w.heap.size w wc))
            case first =>
              have H := HC22.out
              clear HC22
              by_cases c24 : (Int.tmod (wrap64 (a1)) (t293.length : Int)) > 0
              · rw [if_pos c24] at H
                have c24b0 : decide (0 < (Int.tmod (wrap64 (a1)) (t293.length : Int))) = true := decide_eq_true c24
                clear c24
                (first | rw [c24b0] | (simp only [i64_w, i32_w]; rw [c24b0]) | skip)
                obtain ⟨ji25, hji25⟩ : ∃ j_ : Int, (Int.tmod (wrap64 (a1)) (t293.length : Int)) = j_ := ⟨_, rfl⟩
                replace H : (if 0 ≤ (ji25) then (if (ji25) < (t293.length : Int) then ((cfg_Reach.f l0 0 (ji25)).bind fun t299 => (fencepostlaw18_CfgMet.j1 kj6 l0 t291 t293 ji25 ((rdOf false t293 (ji25)) != t299))) else (none)) else (none)) = some r := by first | (rw [hji25] at H; exact H) | (simp only [hji25] at H ⊢; exact H)
                (try rw [hji25] at c24b0)
                by_cases c26 : 0 ≤ (ji25)
                · rw [if_pos c26] at H
                  have c26b0 : decide (0 ≤ (ji25)) = true := decide_eq_true c26
                  clear c26
                  by_cases c27 : (ji25) < (t293.length : Int)
                  · rw [if_pos c27] at H
                    have c27b0 : decide ((ji25) < (t293.length : Int)) = true := decide_eq_true c27
                    clear c27
                    replace H := Option.bind_eq_some_iff.mp H
                    obtain ⟨t299, A280, H⟩ := H
                    replace H : (fencepostlaw18_CfgMet.j1 kj6 l0 t291 t293 ji25 ((rdOf false t293 (ji25)) != t299)) = some r := H
                    have A28 := Aside0.mk A280
                    clear A280
                    have H' := Aside0.mk H
                    clear H
                    try go_wp2
                    have n0_ := Aside0.mk (Kd.R_drew HO_6.out)
                    have n1_ := Aside0.mk (below_drew1 HB.out)
                    clear HO_6
                    clear HB
                    have HO_6 := n0_
                    have HB := n1_
                    clear n0_ n1_
                    have p298 : 0 ≤ ((ji25) : Int) := of_decide_eq_true (by first | (with_reducible assumption) | assumption)
                    have q298 : (ji25) < (t293.length : Int) := of_decide_eq_true (by first | (with_reducible assumption) | assumption)
                    obtain ⟨ad298, e298, hx298_0⟩ := Kd.at_bool (Kd.R_reads' HO_6.out).2.2 (ji25) p298 q298
                    cases e298
                    replace p298 := eq_true p298
                    replace q298 := eq_true q298
                    refine start_ (n := 12) (S := fun w' => w'.cell? (ad298.add ((ji25)).toNat) = some (.bool (rdOf false t293 (ji25)))) (ds := []) #[false, false, false, false, false, false, false, false, false, false, false, false] (by kernel_rfl) rfl rfl (hx298_0) (fun hHeld => ?_); refine with_tabW fencepostlaw18_CfgMet.tab8 fencepostlaw18_CfgMet.bits8 (fun HT_ HW_ => ?_)
                    generalize wc.drew = w29 at HO_6 HB hx298_0 hHeld ⊢
                    refine pure_ (i := 0) (N := some 42) (v := ?_) (a' := ?_) #[true, false, false, false, false, false, false, false, false, false, false, false] rfl rfl (any_of HT_.out (by kernel_rfl)) (fun _ _ _ h => h) (Or.inl ⟨by rfl, ?_⟩) ?_ ?_
                    rotate_left
                    · intro w'
                      go_simp
                      with_reducible rfl
                    rotate_left
                    · simp only [Act.put, List.setIfInBounds_toArray, List.set_cons_zero, List.set_cons_succ, i64_w, i32_w]
                      rfl
                    refine pure_ (i := 1) (N := some 43) (v := ?_) (a' := ?_) #[true, true, false, false, false, false, false, false, false, false, false, false] rfl rfl (any_of HT_.out (by kernel_rfl)) (fun _ _ _ h => h) (Or.inl ⟨by rfl, ?_⟩) ?_ ?_
                    rotate_left
                    · intro w'
                      go_simp
                      with_reducible rfl
                    rotate_left
                    · simp only [Act.put, List.setIfInBounds_toArray, List.set_cons_zero, List.set_cons_succ, i64_w, i32_w]
                      rfl
                    refine pure_ (i := 2) (N := some 44) (v := ?_) (a' := ?_) #[true, true, true, false, false, false, false, false, false, false, false, false] rfl rfl (any_of HT_.out (by kernel_rfl)) (fun _ _ _ h => h) (Or.inl ⟨by rfl, ?_⟩) ?_ ?_
                    rotate_left
                    · intro w'
                      go_simp
                      with_reducible rfl
                    rotate_left
                    · simp only [Act.put, List.setIfInBounds_toArray, List.set_cons_zero, List.set_cons_succ, i64_w, i32_w]
                      rfl
                    refine pure_ (i := 3) (N := some 45) (v := ?_) (a' := ?_) #[true, true, true, true, false, false, false, false, false, false, false, false] rfl rfl (any_of HT_.out (by kernel_rfl)) (fun _ _ _ h => h) (Or.inl ⟨by rfl, ?_⟩) ?_ ?_
                    rotate_left
                    · intro w'
                      go_simp
                      with_reducible rfl
                    rotate_left
                    · simp only [Act.put, List.setIfInBounds_toArray, List.set_cons_zero, List.set_cons_succ, i64_w, i32_w]
                      rfl
                    refine pure_ (i := 4) (N := some 46) (v := ?_) (a' := ?_) #[true, true, true, true, true, false, false, false, false, false, false, false] rfl rfl (any_of HT_.out (by kernel_rfl)) (fun _ _ _ h => h) (Or.inl ⟨by rfl, ?_⟩) ?_ ?_
                    rotate_left
                    · intro w'
                      go_simp
                      with_reducible rfl
                    rotate_left
                    · simp only [Act.put, List.setIfInBounds_toArray, List.set_cons_zero, List.set_cons_succ, i64_w, i32_w]
                      rfl
                    refine pure_ (i := 5) (N := some 47) (v := ?_) (a' := ?_) #[true, true, true, true, true, true, false, false, false, false, false, false] rfl rfl (any_of HT_.out (by kernel_rfl)) (fun _ _ _ h => h) (Or.inl ⟨by rfl, ?_⟩) ?_ ?_
                    rotate_left
                    · intro w'
                      go_simp
                      with_reducible rfl
                    rotate_left
                    · simp only [Act.put, List.setIfInBounds_toArray, List.set_cons_zero, List.set_cons_succ, i64_w, i32_w]
                      rfl
                    refine pure_ (i := 7) (N := some 49) (v := ?_) (a' := ?_) #[true, true, true, true, true, true, false, true, false, false, false, false] rfl rfl (any_of HT_.out (by kernel_rfl)) (fun _ _ _ h => h) (Or.inl ⟨by rfl, ?_⟩) ?_ ?_
                    rotate_left
                    · intro w'
                      go_simp
                      with_reducible rfl
                    rotate_left
                    · simp only [Act.put, List.setIfInBounds_toArray, List.set_cons_zero, List.set_cons_succ, i64_w, i32_w]
                      rfl
                    refine pure_ (i := 8) (N := some 50) (v := ?_) (a' := ?_) #[true, true, true, true, true, true, false, true, true, false, false, false] rfl rfl (any_of HT_.out (by kernel_rfl)) (fun _ _ _ h => h) (Or.inl ⟨by rfl, ?_⟩) ?_ ?_
                    rotate_left
                    · intro w'
                      go_simp
                      with_reducible rfl
                    rotate_left
                    · simp only [Act.put, List.setIfInBounds_toArray, List.set_cons_zero, List.set_cons_succ, i64_w, i32_w]
                      rfl
                    refine take_ (i := 6) (N := some 48) (v := ?_) (a' := ?_) #[true, true, true, true, true, true, true, true, true, false, false, false] rfl rfl (take_ofW HT_.out HW_.out (by kernel_rfl)) (fun _ _ _ h => h) (Or.inl ⟨by rfl, ?_⟩) hHeld ?_ ?_
                    rotate_left
                    · intro w' s0
                      go_simp
                      with_reducible rfl
                    rotate_left
                    · simp only [Act.put, List.setIfInBounds_toArray, List.set_cons_zero, List.set_cons_succ, i64_w, i32_w]
                      rfl
                    refine one_ (i := 9) (N := some 51) #[true, true, true, true, true, true, true, true, true, true, false, false] rfl rfl (one_of HT_.out (by kernel_rfl)) (by decide) (fun K hK => ?_)
                    refine goes_ Try.func22 (by kernel_rfl) rfl #[.slice A0 l0.length c0, .int .i64 0, .int .i64 ji25] (by rfl) rfl rfl (by (try simp only [List.map_toArray, List.map_cons, List.map_nil]); first | done | (simp only [hji25]; rfl) | rfl | (simp only [List.length_drop, List.length_take]; rfl)) ?_
                    with_reducible refine (cfg_Reach.calls _ _ l0 0 ji25 t299 _ ?side1 ?side2 A28.out).mono ?_
                    (case side1 => repeat (first | exact (Kd.C_below HR0.out HB.out) | (with_reducible refine Kd.C_alloc ?_ _) | (with_reducible refine Kd.C_drewN ?_ _) | (with_reducible refine Kd.C_drew ?_)))
                    (case side2 => exact HC0.out)
                    rintro e w30 ⟨rfl, hb⟩
                    have HS0_ := (hb.cell (World.block_lt_of_cell? _ _ (hHeld))).trans (hHeld)
                    refine ⟨_, rfl, ?_⟩
                    have n0_ := Aside0.mk (Kd.R_below (by (with_reducible repeat (first | apply Kd.R_alloc | apply Kd.R_drewN | apply Kd.R_drew)); exact HO_6.out) hb)
                    have n1_ := Aside0.mk (below_step (by repeat (first | (with_reducible first | exact HB.out | apply below_alloc | apply pw_below_drewN | apply below_drew1) | exact HB.out)) hb)
                    clear HO_6
                    clear HB
                    have HO_6 := n0_
                    have HB := n1_
                    clear n0_ n1_
                    (try clear hb)
                    (try clear hb2)
                    (try clear hk)
                    (try clear hi)
                    refine hK.out _ _ (HS0_) (fun hHeld => ?_)
                    clear hK K
                    refine norm_ (a' := ?_) ?_ ?_
                    rotate_left
                    · show Act.put _ (some 51) _ = _
                      simp only [Act.put, List.setIfInBounds_toArray, List.set_cons_zero, List.set_cons_succ, i64_w, i32_w]
                      rfl
                    refine pure_ (i := 10) (N := some 52) (v := ?_) (a' := ?_) #[true, true, true, true, true, true, true, true, true, true, true, false] rfl rfl (any_of HT_.out (by kernel_rfl)) (fun _ _ _ h => h) (Or.inl ⟨by rfl, ?_⟩) ?_ ?_
                    rotate_left
                    · intro w'
                      go_simp
                      with_reducible rfl
                    rotate_left
                    · simp only [Act.put, List.setIfInBounds_toArray, List.set_cons_zero, List.set_cons_succ, i64_w, i32_w]
                      rfl
                    refine pure_ (i := 11) (N := some 53) (v := ?_) (a' := ?_) #[true, true, true, true, true, true, true, true, true, true, true, true] rfl rfl (any_of HT_.out (by kernel_rfl)) (fun _ _ _ h => h) (Or.inl ⟨by rfl, ?_⟩) ?_ ?_
                    rotate_left
                    · intro w'
                      go_simp
                      with_reducible rfl
                    rotate_left
                    · simp only [Act.put, List.setIfInBounds_toArray, List.set_cons_zero, List.set_cons_succ, i64_w, i32_w]
                      rfl
                    refine done_ (done_of HT_.out (by kernel_rfl)) ?_
                    try go_wp2
                    (try subst hji25)
                    go_meet
                    case rel => exact ⟨_, (((rdOf false t293 ((Int.tmod (wrap64 (a1)) (t293.length : Int)))) != t299)), (by first | rfl | (simp; done) | (simp only [← hji25] <;> (first | rfl | simp)) | (simp [*]; done)), H', ⟨by have := HJ6.out; first | omega | exact Nat.le_refl _⟩, ⟨by (with_reducible repeat (first | apply Kd.R_alloc | apply Kd.R_drewN | apply Kd.R_drew)); exact HO_6.out⟩, ⟨by repeat (first | (with_reducible first | exact HB.out | apply below_alloc | apply pw_below_drewN | apply below_drew1) | exact HB.out)⟩⟩
                  · rw [if_neg c27] at H
                    exact absurd H (by simp)
                · rw [if_neg c26] at H
                  exact absurd H (by simp)
              · rw [if_neg c24] at H
                have c24b0 : decide (0 < (Int.tmod (wrap64 (a1)) (t293.length : Int))) = false := decide_eq_false c24
                clear c24
                (first | rw [c24b0] | (simp only [i64_w, i32_w]; rw [c24b0]) | skip)
                have H' := Aside0.mk H
                clear H
                try go_wp2
                have n0_ := Aside0.mk (Kd.R_drew HO_6.out)
                have n1_ := Aside0.mk (below_drew1 HB.out)
                clear HO_6
                clear HB
                have HO_6 := n0_
                have HB := n1_
                clear n0_ n1_
                refine start_ (n := 12) (S := fun w' => True) (ds := []) #[false, false, false, false, false, false, false, false, false, false, false, false] (by kernel_rfl) rfl rfl trivial (fun hHeld => ?_); refine with_tabW fencepostlaw18_CfgMet.tab8 fencepostlaw18_CfgMet.bits8 (fun HT_ HW_ => ?_)
                generalize wc.drew = w31 at HO_6 HB hHeld ⊢
                refine pure_ (i := 0) (N := some 42) (v := ?_) (a' := ?_) #[true, false, false, false, false, false, false, false, false, false, false, false] rfl rfl (any_of HT_.out (by kernel_rfl)) (fun _ _ _ h => h) (Or.inl ⟨by rfl, ?_⟩) ?_ ?_
                rotate_left
                · intro w'
                  go_simp
                  with_reducible rfl
                rotate_left
                · simp only [Act.put, List.setIfInBounds_toArray, List.set_cons_zero, List.set_cons_succ, i64_w, i32_w]
                  rfl
                refine pure_ (i := 1) (N := some 43) (v := ?_) (a' := ?_) #[true, true, false, false, false, false, false, false, false, false, false, false] rfl rfl (any_of HT_.out (by kernel_rfl)) (fun _ _ _ h => h) (Or.inl ⟨by rfl, ?_⟩) ?_ ?_
                rotate_left
                · intro w'
                  go_simp
                  with_reducible rfl
                rotate_left
                · simp only [Act.put, List.setIfInBounds_toArray, List.set_cons_zero, List.set_cons_succ, i64_w, i32_w]
                  rfl
                refine pure_ (i := 2) (N := some 44) (v := ?_) (a' := ?_) #[true, true, true, false, false, false, false, false, false, false, false, false] rfl rfl (any_of HT_.out (by kernel_rfl)) (fun _ _ _ h => h) (Or.inl ⟨by rfl, ?_⟩) ?_ ?_
                rotate_left
                · intro w'
                  go_simp
                  with_reducible rfl
                rotate_left
                · simp only [Act.put, List.setIfInBounds_toArray, List.set_cons_zero, List.set_cons_succ, i64_w, i32_w]
                  rfl
                refine pure_ (i := 3) (N := some 45) (v := undef) (a' := ?_) #[true, true, true, true, false, false, false, false, false, false, false, false] rfl rfl (any_of HT_.out (by kernel_rfl)) (fun _ _ _ h => h) (Or.inr ⟨by rfl, rfl⟩) ?_ ?_
                rotate_left
                · simp only [Act.put, List.setIfInBounds_toArray, List.set_cons_zero, List.set_cons_succ, i64_w, i32_w]
                  rfl
                refine pure_ (i := 4) (N := some 46) (v := undef) (a' := ?_) #[true, true, true, true, true, false, false, false, false, false, false, false] rfl rfl (any_of HT_.out (by kernel_rfl)) (fun _ _ _ h => h) (Or.inr ⟨by rfl, rfl⟩) ?_ ?_
                rotate_left
                · simp only [Act.put, List.setIfInBounds_toArray, List.set_cons_zero, List.set_cons_succ, i64_w, i32_w]
                  rfl
                refine pure_ (i := 5) (N := some 47) (v := undef) (a' := ?_) #[true, true, true, true, true, true, false, false, false, false, false, false] rfl rfl (any_of HT_.out (by kernel_rfl)) (fun _ _ _ h => h) (Or.inr ⟨by rfl, rfl⟩) ?_ ?_
                rotate_left
                · simp only [Act.put, List.setIfInBounds_toArray, List.set_cons_zero, List.set_cons_succ, i64_w, i32_w]
                  rfl
                refine pure_ (i := 6) (N := some 48) (v := undef) (a' := ?_) #[true, true, true, true, true, true, true, false, false, false, false, false] rfl rfl (any_of HT_.out (by kernel_rfl)) (fun _ _ _ h => h) (Or.inr ⟨by rfl, rfl⟩) ?_ ?_
                rotate_left
                · simp only [Act.put, List.setIfInBounds_toArray, List.set_cons_zero, List.set_cons_succ, i64_w, i32_w]
                  rfl
                refine pure_ (i := 7) (N := some 49) (v := undef) (a' := ?_) #[true, true, true, true, true, true, true, true, false, false, false, false] rfl rfl (any_of HT_.out (by kernel_rfl)) (fun _ _ _ h => h) (Or.inr ⟨by rfl, rfl⟩) ?_ ?_
                rotate_left
                · simp only [Act.put, List.setIfInBounds_toArray, List.set_cons_zero, List.set_cons_succ, i64_w, i32_w]
                  rfl
                refine pure_ (i := 8) (N := some 50) (v := undef) (a' := ?_) #[true, true, true, true, true, true, true, true, true, false, false, false] rfl rfl (any_of HT_.out (by kernel_rfl)) (fun _ _ _ h => h) (Or.inr ⟨by rfl, rfl⟩) ?_ ?_
                rotate_left
                · simp only [Act.put, List.setIfInBounds_toArray, List.set_cons_zero, List.set_cons_succ, i64_w, i32_w]
                  rfl
                refine pure_ (i := 9) (N := some 51) (v := undef) (a' := ?_) #[true, true, true, true, true, true, true, true, true, true, false, false] rfl rfl (any_of HT_.out (by kernel_rfl)) (fun _ _ _ h => h) (Or.inr ⟨by rfl, rfl⟩) ?_ ?_
                rotate_left
                · simp only [Act.put, List.setIfInBounds_toArray, List.set_cons_zero, List.set_cons_succ, i64_w, i32_w]
                  rfl
                refine pure_ (i := 10) (N := some 52) (v := undef) (a' := ?_) #[true, true, true, true, true, true, true, true, true, true, true, false] rfl rfl (any_of HT_.out (by kernel_rfl)) (fun _ _ _ h => h) (Or.inr ⟨by rfl, rfl⟩) ?_ ?_
                rotate_left
                · simp only [Act.put, List.setIfInBounds_toArray, List.set_cons_zero, List.set_cons_succ, i64_w, i32_w]
                  rfl
                refine pure_ (i := 11) (N := some 53) (v := ?_) (a' := ?_) #[true, true, true, true, true, true, true, true, true, true, true, true] rfl rfl (any_of HT_.out (by kernel_rfl)) (fun _ _ _ h => h) (Or.inl ⟨by rfl, ?_⟩) ?_ ?_
                rotate_left
                · intro w'
                  go_simp
                  with_reducible rfl
                rotate_left
                · simp only [Act.put, List.setIfInBounds_toArray, List.set_cons_zero, List.set_cons_succ, i64_w, i32_w]
                  rfl
                refine done_ (done_of HT_.out (by kernel_rfl)) ?_
                try go_wp2
                go_meet
                case rel => exact ⟨_, (false), (by first | rfl | (simp; done) | (simp [*]; done)), H', ⟨by have := HJ6.out; first | omega | exact Nat.le_refl _⟩, ⟨by (with_reducible repeat (first | apply Kd.R_alloc | apply Kd.R_drewN | apply Kd.R_drew)); exact HO_6.out⟩, ⟨by repeat (first | (with_reducible first | exact HB.out | apply below_alloc | apply pw_below_drewN | apply below_drew1) | exact HB.out)⟩⟩
            case rest =>
              clear HC22
              try clear c1
              try clear q1
              try clear c2
              try clear p2
              try clear q2
              try clear hx2
              try clear qi2
              try clear c5
              try clear c6
              try clear p6
              try clear c11
              try clear c11b0
              try clear c11b1
              try clear c12
              try clear c12b0
              try clear c12b1
              try clear q13
              try clear c14
              try clear c15
              try clear c15b0
              try clear c15b1
              try clear c16
              try clear c16b0
              try clear c16b1
              try clear c17
              try clear c20
              try clear c21
              try clear c21b0
              try clear c21b1
              try clear c21b2
              try clear c22
              try clear c24
              try clear c24b0
              try clear c26
              try clear c26b0
              try clear c27
              try clear c27b0
              try clear p29
              try clear q29
              try clear hx29
              try clear qi29
              try clear hx296_0
              try clear hx297_0
              try clear hx298_0
              try clear p2
              try clear p296
              try clear p297
              try clear p298
              try clear p6
              try clear q1
              try clear q13
              try clear q2
              try clear q296
              try clear q297
              try clear q298
              obtain ⟨kq, x53_21, rfl, HA, HJ21, HO_6, HB⟩ := hcut
              cases kq with
              | zero => exact absurd HA.out (by simp [fencepostlaw18_CfgMet.j1])
              | succ kj21 =>
                have H := HA.out
                clear HA
                simp only [fencepostlaw18_CfgMet.j1] at H
                by_cases c32 : x53_21 = true
                · subst c32
                  have H1 : (some false) = some r := by rw [if_pos rfl] at H; exact H
                  clear H
                  have H := H1
                  clear H1
                  exact absurd ((Option.some.inj H).trans HT.out) (by simp)
                · replace c32 := Bool.eq_false_iff.mpr c32
                  subst c32
                  have H1 : ((cfg_Next.f l0 (Int.tmod (wrap64 (a1)) (t293.length : Int))).bind fun t300 => (fencepostlaw18_CfgMet.l0 kj21 t291 t293 (Int.tmod (wrap64 (a1)) (t293.length : Int)) t300 0)) = some r := by rw [if_neg (show ¬ (false = true) by decide)] at H; exact H
                  clear H
                  have H := H1
                  clear H1
                  replace H := Option.bind_eq_some_iff.mp H
                  obtain ⟨t300, A330, H⟩ := H
                  replace H : (fencepostlaw18_CfgMet.l0 kj21 t291 t293 (Int.tmod (wrap64 (a1)) (t293.length : Int)) t300 0) = some r := H
                  have A33 := Aside0.mk A330
                  clear A330
                  have H' := Aside0.mk H
                  clear H
                  go_wp2_with (first | ((with_reducible refine gate_callee (f := 20) rfl ?_); refine goesL_ (some 56) rfl rfl Try.func20 (by kernel_rfl) rfl #[.slice A0 l0.length c0, .int .i64 (Int.tmod (wrap64 (a1)) (t293.length : Int))] rfl (by (try simp only [List.map_toArray, List.map_cons, List.map_nil]); first | done | rfl | (simp only [List.length_drop, List.length_take]; rfl)) ?_; (with_reducible refine (cfg_Next.calls _ _ l0 (Int.tmod (wrap64 (a1)) (t293.length : Int)) t300 _ ?side1 ?side2 A33.out).mono ?_); (case side1 => repeat (first | exact (Kd.C_below HR0.out HB.out) | (with_reducible refine Kd.C_alloc ?_ _) | (with_reducible refine Kd.C_drewN ?_ _) | (with_reducible refine Kd.C_drew ?_))); (case side2 => exact HC0.out); rintro e w34 ⟨v301, rfl, ho0, hb⟩; refine ⟨_, rfl, ?_⟩; have n0_ := Aside0.mk (Kd.R_below (by (with_reducible repeat (first | apply Kd.R_alloc | apply Kd.R_drewN | apply Kd.R_drew)); exact HO_6.out) hb); have n1_ := Aside0.mk (Kd.R_lower ho0 (below_size (by repeat (first | (with_reducible first | exact HB.out | apply below_alloc | apply pw_below_drewN | apply below_drew1) | exact HB.out)))); have n2_ := Aside0.mk (below_step (by repeat (first | (with_reducible first | exact HB.out | apply below_alloc | apply pw_below_drewN | apply below_drew1) | exact HB.out)) hb); clear HO_6; clear HB; have HO_6 := n0_; have HO302 := n1_; have HB := n2_; clear n0_ n1_ n2_; (try clear hb); (try clear hb2); (try clear hk); (try clear hi); (try clear ho0)))
                  go_loopg [9] kj21 (fun kq v9 w' => ∃ (x9_3 : Int), v9 = .int .i64 x9_3 ∧ Aside0 (fencepostlaw18_CfgMet.l0 kq t291 t293 (Int.tmod (wrap64 (a1)) (t293.length : Int)) t300 x9_3 = some r) ∧ Aside0 (kq ≤ kj21) ∧ Aside0 (Kd.R Kd.bool 4 w' w.heap.size (fun _ => True) (.slice Ao23 t293.length co23) t293) ∧ Aside0 (Kd.R (Kd.int .i64) 3 w' w.heap.size (fun _ => True) v301 t300) ∧ Aside0 (Below w.heap.size w w'))
                  case atStart => exact ⟨(0), (by first | rfl | (simp; done) | (simp [*]; done)), H', ⟨Nat.le_refl _⟩, ⟨by (with_reducible repeat (first | apply Kd.R_alloc | apply Kd.R_drewN | apply Kd.R_drew)); exact HO_6.out⟩, ⟨by (with_reducible repeat (first | apply Kd.R_alloc | apply Kd.R_drewN | apply Kd.R_drew)); exact HO302.out⟩, ⟨by repeat (first | (with_reducible first | exact HB.out | apply below_alloc | apply pw_below_drewN | apply below_drew1) | exact HB.out)⟩⟩
                  case round =>
                    clear H'
                    try clear c1
                    try clear q1
                    try clear c2
                    try clear p2
                    try clear q2
                    try clear hx2
                    try clear qi2
                    try clear c3
                    try clear c5
                    try clear c6
                    try clear p6
                    try clear c11
                    try clear c11b0
                    try clear c11b1
                    try clear c12
                    try clear c12b0
                    try clear c12b1
                    try clear q13
                    try clear c14
                    try clear c15
                    try clear c15b0
                    try clear c15b1
                    try clear c16
                    try clear c16b0
                    try clear c16b1
                    try clear c17
                    try clear c20
                    try clear c21
                    try clear c21b0
                    try clear c21b1
                    try clear c21b2
                    try clear c22
                    try clear c24
                    try clear c24b0
                    try clear c26
                    try clear c26b0
                    try clear c27
                    try clear c27b0
                    try clear p29
                    try clear q29
                    try clear hx29
                    try clear qi29
                    try clear c32
                    try clear hx296_0
                    try clear hx297_0
                    try clear hx298_0
                    try clear p2
                    try clear p29
                    try clear p296
                    try clear p297
                    try clear p298
                    try clear p6
                    try clear q1
                    try clear q13
                    try clear q2
                    try clear q29
                    try clear q296
                    try clear q297
                    try clear q298
                    obtain ⟨x9_3, rfl, HA, HK3, HO_6, HO_8, HB⟩ := hrel
                    cases gk with
                    | zero => exact absurd HA.out (by simp [fencepostlaw18_CfgMet.l0])
                    | succ k3 =>
                      have H := HA.out
                      clear HA
                      simp only [fencepostlaw18_CfgMet.l0] at H
                      have HC35 := Aside0.mk H
                      clear H
                      go_upto_region 12 with (fail)
                      go_cut [66] (fun v66 wc => ∃ (kq : Nat) (x66_34 : Bool), v66 = .bool x66_34 ∧ Aside0 (fencepostlaw18_CfgMet.j3 kq t291 t293 (Int.tmod (wrap64 (a1)) (t293.length : Int)) t300 x9_3 x66_34 = some r) ∧ Aside0 (kq ≤ k3) ∧ Aside0 (Kd.R Kd.bool 4 wc w.heap.size (fun _ => True) (.slice Ao23 t293.length co23) t293) ∧ Aside0 (Kd.R (Kd.int .i64) 3 wc w.heap.size (fun _ => True) v301 t300) ∧ Aside0 (Below w.heap.size w wc))
                      case first =>
                        have H := HC35.out
                        clear HC35
                        by_cases c36 : x9_3 < (t300.length : Int)
                        · rw [if_pos c36] at H
                          have c36b0 : decide (x9_3 < (t300.length : Int)) = true := decide_eq_true c36
                          clear c36
                          (first | rw [c36b0] | (simp only [i64_w, i32_w]; rw [c36b0]) | skip)
                          obtain ⟨ji37, hji37⟩ : ∃ j_ : Int, (Int.tmod (wrap64 (a1)) (t293.length : Int)) = j_ := ⟨_, rfl⟩
                          replace H : (if 0 ≤ (ji37) then (if (ji37) < (t293.length : Int) then (fencepostlaw18_CfgMet.j3 k3 t291 t293 (ji37) t300 x9_3 (rdOf false t293 (ji37))) else (none)) else (none)) = some r := by first | (rw [hji37] at H; exact H) | (simp only [hji37] at H ⊢; exact H)
                          by_cases c38 : 0 ≤ (ji37)
                          · rw [if_pos c38] at H
                            have c38b0 : decide (0 ≤ (ji37)) = true := decide_eq_true c38
                            clear c38
                            by_cases c39 : (ji37) < (t293.length : Int)
                            · rw [if_pos c39] at H
                              have c39b0 : decide ((ji37) < (t293.length : Int)) = true := decide_eq_true c39
                              clear c39
                              have H' := Aside0.mk H
                              clear H
                              obtain ⟨Ao40, co40, eo40⟩ := Kd.R_slice HO_8.out
                              subst eo40
                              have p303 : 0 ≤ ((ji37) : Int) := of_decide_eq_true (by first | (with_reducible assumption) | assumption)
                              have q303 : (ji37) < (t293.length : Int) := of_decide_eq_true (by first | (with_reducible assumption) | assumption)
                              obtain ⟨ad303, e303, hx303_0⟩ := Kd.at_bool (Kd.R_reads' HO_6.out).2.2 (ji37) p303 q303
                              cases e303
                              replace p303 := eq_true p303
                              replace q303 := eq_true q303
                              go_wp2
                              (try subst hji37)
                              go_meet
                              case rel => exact ⟨_, (rdOf false t293 ((Int.tmod (wrap64 (a1)) (t293.length : Int)))), (by first | rfl | (simp; done) | (simp only [← hji37] <;> (first | rfl | simp)) | (simp [*]; done)), H', ⟨by have := HJ6.out; have := HJ21.out; have := HK3.out; first | omega | exact Nat.le_refl _⟩, ⟨by (with_reducible repeat (first | apply Kd.R_alloc | apply Kd.R_drewN | apply Kd.R_drew)); exact HO_6.out⟩, ⟨by (with_reducible repeat (first | apply Kd.R_alloc | apply Kd.R_drewN | apply Kd.R_drew)); exact HO_8.out⟩, ⟨by repeat (first | (with_reducible first | exact HB.out | apply below_alloc | apply pw_below_drewN | apply below_drew1) | exact HB.out)⟩⟩
                            · rw [if_neg c39] at H
                              exact absurd H (by simp)
                          · rw [if_neg c38] at H
                            exact absurd H (by simp)
                        · rw [if_neg c36] at H
                          have c36b0 : decide (x9_3 < (t300.length : Int)) = false := decide_eq_false c36
                          clear c36
                          (first | rw [c36b0] | (simp only [i64_w, i32_w]; rw [c36b0]) | skip)
                          have H' := Aside0.mk H
                          clear H
                          obtain ⟨Ao41, co41, eo41⟩ := Kd.R_slice HO_8.out
                          subst eo41
                          go_wp2
                          go_meet
                          case rel => exact ⟨_, (false), (by first | rfl | (simp; done) | (simp [*]; done)), H', ⟨by have := HJ6.out; have := HJ21.out; have := HK3.out; first | omega | exact Nat.le_refl _⟩, ⟨by (with_reducible repeat (first | apply Kd.R_alloc | apply Kd.R_drewN | apply Kd.R_drew)); exact HO_6.out⟩, ⟨by (with_reducible repeat (first | apply Kd.R_alloc | apply Kd.R_drewN | apply Kd.R_drew)); exact HO_8.out⟩, ⟨by repeat (first | (with_reducible first | exact HB.out | apply below_alloc | apply pw_below_drewN | apply below_drew1) | exact HB.out)⟩⟩
                      case rest =>
                        clear HC35
                        try clear c1
                        try clear q1
                        try clear c2
                        try clear p2
                        try clear q2
                        try clear hx2
                        try clear qi2
                        try clear c3
                        try clear p3
                        try clear q3
                        try clear hx3
                        try clear c5
                        try clear c6
                        try clear p6
                        try clear c11
                        try clear c11b0
                        try clear c11b1
                        try clear c12
                        try clear c12b0
                        try clear c12b1
                        try clear q13
                        try clear c14
                        try clear c15
                        try clear c15b0
                        try clear c15b1
                        try clear c16
                        try clear c16b0
                        try clear c16b1
                        try clear c17
                        try clear c20
                        try clear c21
                        try clear c21b0
                        try clear c21b1
                        try clear c21b2
                        try clear c22
                        try clear c24
                        try clear c24b0
                        try clear c26
                        try clear c26b0
                        try clear c27
                        try clear c27b0
                        try clear p29
                        try clear q29
                        try clear hx29
                        try clear qi29
                        try clear p30
                        try clear q30
                        try clear hx30
                        try clear c32
                        try clear c36
                        try clear c36b0
                        try clear c38
                        try clear c38b0
                        try clear c39
                        try clear c39b0
                        try clear hx296_0
                        try clear hx297_0
                        try clear hx298_0
                        try clear hx303_0
                        try clear p2
                        try clear p29
                        try clear p296
                        try clear p297
                        try clear p298
                        try clear p303
                        try clear p6
                        try clear q1
                        try clear q13
                        try clear q2
                        try clear q29
                        try clear q296
                        try clear q297
                        try clear q298
                        try clear q303
                        obtain ⟨kq, x66_34, rfl, HA, HJ34, HO_6, HO_8, HB⟩ := hcut
                        cases kq with
                        | zero => exact absurd HA.out (by simp [fencepostlaw18_CfgMet.j3])
                        | succ kj34 =>
                          have H := HA.out
                          clear HA
                          simp only [fencepostlaw18_CfgMet.j3] at H
                          by_cases c42 : x66_34 = true
                          · subst c42
                            have H1 : (if 0 ≤ x9_3 then (if x9_3 < (t300.length : Int) then (if (rd t300 x9_3) < 0 then (some false) else (if (rd t300 x9_3) ≥ (t293.length : Int) then (some false) else (if 0 ≤ (rd t300 x9_3) then (if (rd t300 x9_3) < (t293.length : Int) then (if (rdOf false t293 (rd t300 x9_3) = true) then (fencepostlaw18_CfgMet.l0 kj34 t291 t293 (Int.tmod (wrap64 (a1)) (t293.length : Int)) t300 (wrap64 (x9_3 + 1))) else (some false)) else (none)) else (none)))) else (none)) else (none)) = some r := by rw [if_pos rfl] at H; exact H
                            clear H
                            have H := H1
                            clear H1
                            by_cases c43 : 0 ≤ x9_3
                            · rw [if_pos c43] at H
                              have c43b0 : decide (0 ≤ x9_3) = true := decide_eq_true c43
                              clear c43
                              by_cases c44 : x9_3 < (t300.length : Int)
                              · rw [if_pos c44] at H
                                have c44b0 : decide (x9_3 < (t300.length : Int)) = true := decide_eq_true c44
                                clear c44
                                by_cases c45 : (rd t300 x9_3) < 0
                                · rw [if_pos c45] at H
                                  have c45b0 : decide ((rd t300 x9_3) < 0) = true := decide_eq_true c45
                                  clear c45
                                  exact absurd ((Option.some.inj H).trans HT.out) (by simp)
                                · rw [if_neg c45] at H
                                  have c45b0 : decide ((rd t300 x9_3) < 0) = false := decide_eq_false c45
                                  clear c45
                                  by_cases c46 : (rd t300 x9_3) ≥ (t293.length : Int)
                                  · rw [if_pos c46] at H
                                    have c46b0 : decide ((t293.length : Int) ≤ (rd t300 x9_3)) = true := decide_eq_true c46
                                    clear c46
                                    exact absurd ((Option.some.inj H).trans HT.out) (by simp)
                                  · rw [if_neg c46] at H
                                    have c46b0 : decide ((t293.length : Int) ≤ (rd t300 x9_3)) = false := decide_eq_false c46
                                    clear c46
                                    by_cases c47 : 0 ≤ (rd t300 x9_3)
                                    · rw [if_pos c47] at H
                                      have c47b0 : decide (0 ≤ (rd t300 x9_3)) = true := decide_eq_true c47
                                      clear c47
                                      by_cases c48 : (rd t300 x9_3) < (t293.length : Int)
                                      · rw [if_pos c48] at H
                                        have c48b0 : decide ((rd t300 x9_3) < (t293.length : Int)) = true := decide_eq_true c48
                                        clear c48
                                        obtain ⟨bq49, hbq49⟩ : ∃ b_ : Bool, b_ = (rdOf false t293 (rd t300 x9_3)) := ⟨_, rfl⟩
                                        replace H : (if (bq49 = true) then (fencepostlaw18_CfgMet.l0 kj34 t291 t293 (Int.tmod (wrap64 (a1)) (t293.length : Int)) t300 (wrap64 (x9_3 + 1))) else (some false)) = some r := by rw [← hbq49] at H; exact H
                                        have Nbq49 := Aside0.mk hbq49
                                        clear hbq49
                                        by_cases c50 : (bq49 = true)
                                        · subst c50
                                          have H1 : (fencepostlaw18_CfgMet.l0 kj34 t291 t293 (Int.tmod (wrap64 (a1)) (t293.length : Int)) t300 (wrap64 (x9_3 + 1))) = some r := by rw [if_pos rfl] at H; exact H
                                          clear H
                                          have H := H1
                                          clear H1
                                          have H' := Aside0.mk H
                                          clear H
                                          obtain ⟨Ao51, co51, eo51⟩ := Kd.R_slice HO_8.out
                                          subst eo51
                                          have p304 : 0 ≤ (x9_3 : Int) := of_decide_eq_true (by first | (with_reducible assumption) | assumption)
                                          have q304 : x9_3 < (t300.length : Int) := of_decide_eq_true (by first | (with_reducible assumption) | assumption)
                                          obtain ⟨ad304, e304, hx304_0⟩ := Kd.at_int (Kd.R_reads' HO_8.out).2.2 x9_3 p304 q304
                                          cases e304
                                          replace p304 := eq_true p304
                                          replace q304 := eq_true q304
                                          have p305 : 0 ≤ (x9_3 : Int) := of_decide_eq_true (by first | (with_reducible assumption) | assumption)
                                          have q305 : x9_3 < (t300.length : Int) := of_decide_eq_true (by first | (with_reducible assumption) | assumption)
                                          obtain ⟨ad305, e305, hx305_0⟩ := Kd.at_int (Kd.R_reads' HO_8.out).2.2 x9_3 p305 q305
                                          obtain rfl : ad304 = ad305 := (by injection e305)
                                          replace p305 := eq_true p305
                                          replace q305 := eq_true q305
                                          have p306 : 0 ≤ (x9_3 : Int) := of_decide_eq_true (by first | (with_reducible assumption) | assumption)
                                          have q306 : x9_3 < (t300.length : Int) := of_decide_eq_true (by first | (with_reducible assumption) | assumption)
                                          obtain ⟨ad306, e306, hx306_0⟩ := Kd.at_int (Kd.R_reads' HO_8.out).2.2 x9_3 p306 q306
                                          obtain rfl : ad304 = ad306 := (by injection e306)
                                          replace p306 := eq_true p306
                                          replace q306 := eq_true q306
                                          have p307 : 0 ≤ ((rd t300 x9_3) : Int) := of_decide_eq_true (by first | (with_reducible assumption) | assumption)
                                          have q307 : (rd t300 x9_3) < (t293.length : Int) := of_decide_eq_true (by first | (with_reducible assumption) | assumption)
                                          obtain ⟨ad307, e307, hx307_0⟩ := Kd.at_bool (Kd.R_reads' HO_6.out).2.2 (rd t300 x9_3) p307 q307
                                          (try rw [← Nbq49.out] at hx307_0)
                                          cases e307
                                          replace p307 := eq_true p307
                                          replace q307 := eq_true q307
                                          go_wp2
                                          go_roundg kj34
                                          case measure => have := HJ6.out; have := HJ21.out; have := HK3.out; have := HJ34.out; omega
                                          case rel => exact ⟨(wrap64 (x9_3 + 1)), (by first | rfl | (simp; done) | (simp [*]; done)), H', ⟨by have := HJ6.out; have := HJ21.out; have := HK3.out; have := HJ34.out; omega⟩, ⟨by (with_reducible repeat (first | apply Kd.R_alloc | apply Kd.R_drewN | apply Kd.R_drew)); exact HO_6.out⟩, ⟨by (with_reducible repeat (first | apply Kd.R_alloc | apply Kd.R_drewN | apply Kd.R_drew)); exact HO_8.out⟩, ⟨by repeat (first | (with_reducible first | exact HB.out | apply below_alloc | apply pw_below_drewN | apply below_drew1) | exact HB.out)⟩⟩
                                        · replace c50 := Bool.eq_false_iff.mpr c50
                                          subst c50
                                          have H1 : (some false) = some r := by rw [if_neg (show ¬ (false = true) by decide)] at H; exact H
                                          clear H
                                          have H := H1
                                          clear H1
                                          exact absurd ((Option.some.inj H).trans HT.out) (by simp)
                                      · rw [if_neg c48] at H
                                        exact absurd H (by simp)
                                    · rw [if_neg c47] at H
                                      exact absurd H (by simp)
                              · rw [if_neg c44] at H
                                exact absurd H (by simp)
                            · rw [if_neg c43] at H
                              exact absurd H (by simp)
                          · replace c42 := Bool.eq_false_iff.mpr c42
                            subst c42
                            have H1 : (some t291) = some r := by rw [if_neg (show ¬ (false = true) by decide)] at H; exact H
                            clear H
                            have H := H1
                            clear H1
                            obtain rfl := Option.some.inj H
                            go_wp2
                            go_ret
                            exact ⟨by first | rfl | (simp [errW_none, errW_some] <;> rfl) | (simp [*, errW_none, errW_some] <;> rfl), by repeat (first | (with_reducible first | exact HB.out | apply below_alloc | apply pw_below_drewN | apply below_drew1) | exact HB.out)⟩
  · replace c5 := Bool.eq_false_iff.mpr c5
    subst c5
    have H1 : (some t291) = some r := by rw [if_neg (show ¬ (false = true) by decide)] at H; exact H
    clear H
    have H := H1
    clear H1
    obtain rfl := Option.some.inj H
    go_enter Try.func6, Try.ntmps6
    (try simp only [List.append_eq, List.cons_append, List.nil_append])
    go_wp2_with (first | ((with_reducible refine gate_callee (f := 15) rfl ?_); refine goesL_ (some 10) rfl rfl Try.func15 (by kernel_rfl) rfl #[] rfl (by (try simp only [List.map_toArray, List.map_cons, List.map_nil]); first | done | rfl | (simp only [List.length_drop, List.length_take]; rfl)) ?_; (with_reducible refine (fencepostlaw18_head.calls k  t291 _ A3.out).mono ?_); rintro e w52 ⟨rfl, hb⟩; refine ⟨_, rfl, ?_⟩; have n0_ := Aside0.mk (below_step (by repeat (first | (with_reducible first | exact HB.out | apply below_alloc | apply pw_below_drewN | apply below_drew1) | exact HB.out)) hb); clear HB; have HB := n0_; clear n0_; (try clear hb); (try clear hb2); (try clear hk); (try clear hi)) | ((with_reducible refine gate_callee (f := 16) rfl ?_); refine goesL_ (some 12) rfl rfl Try.func16 (by kernel_rfl) rfl #[.slice A0 l0.length c0] rfl (by (try simp only [List.map_toArray, List.map_cons, List.map_nil]); first | done | rfl | (simp only [List.length_drop, List.length_take]; rfl)) ?_; (with_reducible refine (fencepostlaw18_Good.calls k (fun k_ => k_ < w.heap.size) _ _ l0 false _ ?side1 A4.out).mono ?_); (case side1 => exact Kd.V_mk HC0.out (Kd.F_below (Kd.C_F k33_heap HR0.out) (by repeat (first | (with_reducible first | exact HB.out | apply below_alloc | apply pw_below_drewN | apply below_drew1) | exact HB.out)))); rintro e w53 ⟨rfl, hb⟩; refine ⟨_, rfl, ?_⟩; have n0_ := Aside0.mk (below_step (by repeat (first | (with_reducible first | exact HB.out | apply below_alloc | apply pw_below_drewN | apply below_drew1) | exact HB.out)) hb); clear HB; have HB := n0_; clear n0_; (try clear hb); (try clear hb2); (try clear hk); (try clear hi)))
    go_ret
    exact ⟨by first | rfl | (simp [errW_none, errW_some] <;> rfl) | (simp [*, errW_none, errW_some] <;> rfl), by repeat (first | (with_reducible first | exact HB.out | apply below_alloc | apply pw_below_drewN | apply below_drew1) | exact HB.out)⟩

end Go.Proofs.Ytpaifpnnjflnfaa.Print
