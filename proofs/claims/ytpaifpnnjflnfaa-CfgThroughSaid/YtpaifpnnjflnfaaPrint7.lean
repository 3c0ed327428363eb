-- Written by ownprint.py (this session's) with the kit's print.py: functions, contracts, rows; Lean checks it.
import Derived.Test.YtpaifpnnjflnfaaPrint0
import Derived.Test.YtpaifpnnjflnfaaPrint2
import Derived.Test.YtpaifpnnjflnfaaPrint5
import Derived.Test.YtpaifpnnjflnfaaHCfg
namespace Go.Proofs.Ytpaifpnnjflnfaa.Print
open Go.RowKit Go.Proofs.YtpaifpnnjflnfaaW.PrintWords Go.Proofs.YtpaifpnnjflnfaaW.PrintLast Go.Proofs.YtpaifpnnjflnfaaW.PrintMore
attribute [local go_sem] max2_int min2_int max_two min_two max_three min_three max_four min_four   -- for this text's walks alone
set_option linter.unusedVariables false
set_option linter.unusedSimpArgs false

/-! ### fencepostlaw18_CfgThrough: function 5 -/
mutual
def fencepostlaw18_CfgThrough.j0 : Nat → List (S33) → Int → Int → Int → Bool → Bool → Option (Bool)
  | 0, _, _, _, _, _, _ => none
  | k + 1, x0, x1, x2, x3, x9, x25 => if x25 = true then (some x9) else (if (x0.length : Int) = 0 then (none) else (if (wrap64 ((x0.length : Int) + 1)) = 0 then (none) else ((cfg_Reach.f x0 (Int.tmod (wrap64 (x1)) (x0.length : Int)) (Int.tmod (wrap64 (x3)) (x0.length : Int))).bind fun t258 => (if t258 = true then ((cfg_Reach.f x0 (Int.tmod (wrap64 (x3)) (x0.length : Int)) (Int.tmod (wrap64 (x2)) (wrap64 ((x0.length : Int) + 1)))).bind fun t259 => (if t259 = true then ((cfg_Reach.f x0 (Int.tmod (wrap64 (x1)) (x0.length : Int)) (Int.tmod (wrap64 (x2)) (wrap64 ((x0.length : Int) + 1)))).bind fun t260 => (fencepostlaw18_CfgThrough.j1 k x0 x9 (Int.tmod (wrap64 (x1)) (x0.length : Int)) (Int.tmod (wrap64 (x2)) (wrap64 ((x0.length : Int) + 1))) (Int.tmod (wrap64 (x3)) (x0.length : Int)) (!t260))) else (fencepostlaw18_CfgThrough.j1 k x0 x9 (Int.tmod (wrap64 (x1)) (x0.length : Int)) (Int.tmod (wrap64 (x2)) (wrap64 ((x0.length : Int) + 1))) (Int.tmod (wrap64 (x3)) (x0.length : Int)) false))) else (fencepostlaw18_CfgThrough.j1 k x0 x9 (Int.tmod (wrap64 (x1)) (x0.length : Int)) (Int.tmod (wrap64 (x2)) (wrap64 ((x0.length : Int) + 1))) (Int.tmod (wrap64 (x3)) (x0.length : Int)) false)))))
def fencepostlaw18_CfgThrough.j1 : Nat → List (S33) → Bool → Int → Int → Int → Bool → Option (Bool)
  | 0, _, _, _, _, _, _ => none
  | k + 1, x0, x9, x10, x11, x12, x59 => if x59 = true then (some false) else ((cfg_Free.f x0 x10 x12).bind fun t261 => (if t261 = true then ((cfg_Free.f x0 x12 x11).bind fun t262 => (if t262 = true then (if 0 ≤ x12 then (if x12 < (x0.length : Int) then ((fencepostref18_Drains.f ((rd_T33 x0 x12).f0) ((rd_T33 x0 x12).f1) ((rd_T33 x0 x12).f2) ((rd_T33 x0 x12).f3) ((rd_T33 x0 x12).f4)).bind fun t264 => (if t264 = true then (fencepostlaw18_CfgThrough.j2 k x0 x9 x10 x11 false) else ((cfg_Free.f x0 x10 x11).bind fun t265 => (fencepostlaw18_CfgThrough.j2 k x0 x9 x10 x11 (!t265))))) else (none)) else (none)) else (fencepostlaw18_CfgThrough.j2 k x0 x9 x10 x11 false))) else (fencepostlaw18_CfgThrough.j2 k x0 x9 x10 x11 false)))
def fencepostlaw18_CfgThrough.j2 : Nat → List (S33) → Bool → Int → Int → Bool → Option (Bool)
  | 0, _, _, _, _, _ => none
  | k + 1, x0, x9, x10, x11, x84 => if x84 = true then (some false) else ((cfg_Next.f x0 x10).bind fun t266 => (fencepostlaw18_CfgThrough.l0 k x0 x9 x10 x11 t266 false false 0))
def fencepostlaw18_CfgThrough.l0 : Nat → List (S33) → Bool → Int → Int → List Int → Bool → Bool → Int → Option (Bool)
  | 0, _, _, _, _, _, _, _, _ => none
  | k + 1, x0, x9, x10, x11, x13, x14, x15, x16 => if x16 < (x13.length : Int) then (if x14 = true then (if x15 = true then (fencepostlaw18_CfgThrough.l0 k x0 x9 x10 x11 x13 true true (wrap64 (x16 + 1))) else (if 0 ≤ x16 then (if (rd x13 x16) = x11 then (fencepostlaw18_CfgThrough.l0 k x0 x9 x10 x11 x13 true true (wrap64 (x16 + 1))) else (if (rd x13 x16) ≥ 0 then (if (rd x13 x16) < (x0.length : Int) then (if 0 ≤ (rd x13 x16) then ((fencepostref18_Drains.f ((rd_T33 x0 (rd x13 x16)).f0) ((rd_T33 x0 (rd x13 x16)).f1) ((rd_T33 x0 (rd x13 x16)).f2) ((rd_T33 x0 (rd x13 x16)).f3) ((rd_T33 x0 (rd x13 x16)).f4)).bind fun t274 => (if t274 = true then (fencepostlaw18_CfgThrough.l0 k x0 x9 x10 x11 x13 true false (wrap64 (x16 + 1))) else ((cfg_Free.f x0 (rd x13 x16) x11).bind fun t276 => (fencepostlaw18_CfgThrough.l0 k x0 x9 x10 x11 x13 true t276 (wrap64 (x16 + 1)))))) else (none)) else (fencepostlaw18_CfgThrough.l0 k x0 x9 x10 x11 x13 true false (wrap64 (x16 + 1)))) else (fencepostlaw18_CfgThrough.l0 k x0 x9 x10 x11 x13 true false (wrap64 (x16 + 1))))) else (none))) else (if 0 ≤ x16 then (if (rd x13 x16) = x11 then (if x15 = true then (fencepostlaw18_CfgThrough.l0 k x0 x9 x10 x11 x13 true true (wrap64 (x16 + 1))) else (fencepostlaw18_CfgThrough.l0 k x0 x9 x10 x11 x13 true true (wrap64 (x16 + 1)))) else ((cfg_Reach.f x0 (rd x13 x16) x11).bind fun t280 => (if x15 = true then (fencepostlaw18_CfgThrough.l0 k x0 x9 x10 x11 x13 t280 true (wrap64 (x16 + 1))) else (if (rd x13 x16) ≥ 0 then (if (rd x13 x16) < (x0.length : Int) then (if 0 ≤ (rd x13 x16) then ((fencepostref18_Drains.f ((rd_T33 x0 (rd x13 x16)).f0) ((rd_T33 x0 (rd x13 x16)).f1) ((rd_T33 x0 (rd x13 x16)).f2) ((rd_T33 x0 (rd x13 x16)).f3) ((rd_T33 x0 (rd x13 x16)).f4)).bind fun t286 => (if t286 = true then (fencepostlaw18_CfgThrough.l0 k x0 x9 x10 x11 x13 t280 false (wrap64 (x16 + 1))) else ((cfg_Free.f x0 (rd x13 x16) x11).bind fun t288 => (fencepostlaw18_CfgThrough.l0 k x0 x9 x10 x11 x13 t280 t288 (wrap64 (x16 + 1)))))) else (none)) else (fencepostlaw18_CfgThrough.l0 k x0 x9 x10 x11 x13 t280 false (wrap64 (x16 + 1)))) else (fencepostlaw18_CfgThrough.l0 k x0 x9 x10 x11 x13 t280 false (wrap64 (x16 + 1))))))) else (none))) else (if x9 = true then ((cfg_Reach.f x0 x10 x11).bind fun t289 => (if (t289 == x14) = true then ((cfg_Free.f x0 x10 x11).bind fun t290 => (some (t290 == x15))) else (some false))) else (some false))
end
def fencepostlaw18_CfgThrough.f (k : Nat) (l0 : List (S33)) (a1 : Int) (a2 : Int) (a3 : Int) : Option (Bool) := (fencepostlaw18_head.f k).bind fun t256 => ((fencepostlaw18_Good.f k l0).bind fun t257 => (if t257 = true then (fencepostlaw18_CfgThrough.j0 k l0 a1 a2 a3 t256 ((l0.length : Int) == 0)) else (fencepostlaw18_CfgThrough.j0 k l0 a1 a2 a3 t256 true)))
theorem fencepostlaw18_CfgThrough.mono_l : ∀ k, (∀ y0 y1 y2 y3 y4 y5, LeO (fencepostlaw18_CfgThrough.j0 k y0 y1 y2 y3 y4 y5) (fencepostlaw18_CfgThrough.j0 (k + 1) y0 y1 y2 y3 y4 y5)) ∧ (∀ y0 y1 y2 y3 y4 y5, LeO (fencepostlaw18_CfgThrough.j1 k y0 y1 y2 y3 y4 y5) (fencepostlaw18_CfgThrough.j1 (k + 1) y0 y1 y2 y3 y4 y5)) ∧ (∀ y0 y1 y2 y3 y4, LeO (fencepostlaw18_CfgThrough.j2 k y0 y1 y2 y3 y4) (fencepostlaw18_CfgThrough.j2 (k + 1) y0 y1 y2 y3 y4)) ∧ (∀ y0 y1 y2 y3 y4 y5 y6 y7, LeO (fencepostlaw18_CfgThrough.l0 k y0 y1 y2 y3 y4 y5 y6 y7) (fencepostlaw18_CfgThrough.l0 (k + 1) y0 y1 y2 y3 y4 y5 y6 y7))
  | 0 => ⟨fun _ _ _ _ _ _ r h => by simp [fencepostlaw18_CfgThrough.j0] at h, fun _ _ _ _ _ _ r h => by simp [fencepostlaw18_CfgThrough.j1] at h, fun _ _ _ _ _ r h => by simp [fencepostlaw18_CfgThrough.j2] at h, fun _ _ _ _ _ _ _ _ r h => by simp [fencepostlaw18_CfgThrough.l0] at h⟩
  | k + 1 => by
    obtain ⟨ih0, ih1, ih2, ih3⟩ := fencepostlaw18_CfgThrough.mono_l k
    refine ⟨?_, ?_, ?_, ?_⟩
    · intro y0 y1 y2 y3 y4 y5
      unfold fencepostlaw18_CfgThrough.j0
      repeat' first
      | (with_reducible exact ih0 _ _ _ _ _ _)
      | (with_reducible exact ih1 _ _ _ _ _ _)
      | (with_reducible exact ih2 _ _ _ _ _)
      | (with_reducible exact ih3 _ _ _ _ _ _ _ _)
      | (with_reducible exact fencepostlaw18_Good.mono _ _)
      | (with_reducible exact fencepostlaw18_head.mono _)
      | (with_reducible exact LeO.refl _)
      | (with_reducible exact LeO.none _)
      | (with_reducible refine LeO.ite ?_ ?_)
      | (with_reducible refine LeO.bind ?_ (fun _ => ?_))
      | exact ih0 _ _ _ _ _ _
      | exact ih1 _ _ _ _ _ _
      | exact ih2 _ _ _ _ _
      | exact ih3 _ _ _ _ _ _ _ _
      | exact fencepostlaw18_Good.mono _ _
      | exact fencepostlaw18_head.mono _
      | exact LeO.none _
      | refine LeO.ite ?_ ?_
      | refine LeO.bind ?_ (fun _ => ?_)
    · intro y0 y1 y2 y3 y4 y5
      unfold fencepostlaw18_CfgThrough.j1
      repeat' first
      | (with_reducible exact ih0 _ _ _ _ _ _)
      | (with_reducible exact ih1 _ _ _ _ _ _)
      | (with_reducible exact ih2 _ _ _ _ _)
      | (with_reducible exact ih3 _ _ _ _ _ _ _ _)
      | (with_reducible exact fencepostlaw18_Good.mono _ _)
      | (with_reducible exact fencepostlaw18_head.mono _)
      | (with_reducible exact LeO.refl _)
      | (with_reducible exact LeO.none _)
      | (with_reducible refine LeO.ite ?_ ?_)
      | (with_reducible refine LeO.bind ?_ (fun _ => ?_))
      | exact ih0 _ _ _ _ _ _
      | exact ih1 _ _ _ _ _ _
      | exact ih2 _ _ _ _ _
      | exact ih3 _ _ _ _ _ _ _ _
      | exact fencepostlaw18_Good.mono _ _
      | exact fencepostlaw18_head.mono _
      | exact LeO.none _
      | refine LeO.ite ?_ ?_
      | refine LeO.bind ?_ (fun _ => ?_)
    · intro y0 y1 y2 y3 y4
      unfold fencepostlaw18_CfgThrough.j2
      repeat' first
      | (with_reducible exact ih0 _ _ _ _ _ _)
      | (with_reducible exact ih1 _ _ _ _ _ _)
      | (with_reducible exact ih2 _ _ _ _ _)
      | (with_reducible exact ih3 _ _ _ _ _ _ _ _)
      | (with_reducible exact fencepostlaw18_Good.mono _ _)
      | (with_reducible exact fencepostlaw18_head.mono _)
      | (with_reducible exact LeO.refl _)
      | (with_reducible exact LeO.none _)
      | (with_reducible refine LeO.ite ?_ ?_)
      | (with_reducible refine LeO.bind ?_ (fun _ => ?_))
      | exact ih0 _ _ _ _ _ _
      | exact ih1 _ _ _ _ _ _
      | exact ih2 _ _ _ _ _
      | exact ih3 _ _ _ _ _ _ _ _
      | exact fencepostlaw18_Good.mono _ _
      | exact fencepostlaw18_head.mono _
      | exact LeO.none _
      | refine LeO.ite ?_ ?_
      | refine LeO.bind ?_ (fun _ => ?_)
    · intro y0 y1 y2 y3 y4 y5 y6 y7
      unfold fencepostlaw18_CfgThrough.l0
      repeat' first
      | (with_reducible exact ih0 _ _ _ _ _ _)
      | (with_reducible exact ih1 _ _ _ _ _ _)
      | (with_reducible exact ih2 _ _ _ _ _)
      | (with_reducible exact ih3 _ _ _ _ _ _ _ _)
      | (with_reducible exact fencepostlaw18_Good.mono _ _)
      | (with_reducible exact fencepostlaw18_head.mono _)
      | (with_reducible exact LeO.refl _)
      | (with_reducible exact LeO.none _)
      | (with_reducible refine LeO.ite ?_ ?_)
      | (with_reducible refine LeO.bind ?_ (fun _ => ?_))
      | exact ih0 _ _ _ _ _ _
      | exact ih1 _ _ _ _ _ _
      | exact ih2 _ _ _ _ _
      | exact ih3 _ _ _ _ _ _ _ _
      | exact fencepostlaw18_Good.mono _ _
      | exact fencepostlaw18_head.mono _
      | exact LeO.none _
      | refine LeO.ite ?_ ?_
      | refine LeO.bind ?_ (fun _ => ?_)
theorem fencepostlaw18_CfgThrough.mono : ∀ a0 a1 a2 a3 k, LeO (fencepostlaw18_CfgThrough.f k a0 a1 a2 a3) (fencepostlaw18_CfgThrough.f (k + 1) a0 a1 a2 a3) := by
  intro a0 a1 a2 a3 k
  obtain ⟨ih0, ih1, ih2, ih3⟩ := fencepostlaw18_CfgThrough.mono_l k
  unfold fencepostlaw18_CfgThrough.f
  repeat' first
      | (with_reducible exact ih0 _ _ _ _ _ _)
      | (with_reducible exact ih1 _ _ _ _ _ _)
      | (with_reducible exact ih2 _ _ _ _ _)
      | (with_reducible exact ih3 _ _ _ _ _ _ _ _)
      | (with_reducible exact fencepostlaw18_Good.mono _ _)
      | (with_reducible exact fencepostlaw18_head.mono _)
      | (with_reducible exact LeO.refl _)
      | (with_reducible exact LeO.none _)
      | (with_reducible refine LeO.ite ?_ ?_)
      | (with_reducible refine LeO.bind ?_ (fun _ => ?_))
      | exact ih0 _ _ _ _ _ _
      | exact ih1 _ _ _ _ _ _
      | exact ih2 _ _ _ _ _
      | exact ih3 _ _ _ _ _ _ _ _
      | exact fencepostlaw18_Good.mono _ _
      | exact fencepostlaw18_head.mono _
      | exact LeO.none _
      | refine LeO.ite ?_ ?_
      | refine LeO.bind ?_ (fun _ => ?_)
set_option maxHeartbeats 8000000 in
set_option maxRecDepth 100000 in
theorem fencepostlaw18_CfgThrough.calls (k : Nat) (A0 : Option Addr) (c0 : Nat) (l0 : List (S33)) (a1 : Int) (a2 : Int) (a3 : Int) (r : Bool) (w : World) (hr0 : Kd.C k33 w A0 l0.length l0) (hc0 : l0.length ≤ c0) (ht_ : r = true) (h : fencepostlaw18_CfgThrough.f k l0 a1 a2 a3 = some r) :
    Calls Try.prog 5 #[.slice A0 l0.length c0, .int .u8 a1, .int .u8 a2, .int .u8 a3] w fun e w' => e = .returned (.bool r) ∧ Below w.heap.size w w' := by
  have hu33 := Try.underlying33
  have HR0 := Aside0.mk hr0
  have HC0 := Aside0.mk hc0
  clear hr0 hc0
  have HB := Aside0.mk (Below.refl w.heap.size w)
  have HT := Aside0.mk ht_
  clear ht_
  have H : ((fencepostlaw18_head.f k).bind fun t256 => ((fencepostlaw18_Good.f k l0).bind fun t257 => (if t257 = true then (fencepostlaw18_CfgThrough.j0 k l0 a1 a2 a3 t256 ((l0.length : Int) == 0)) else (fencepostlaw18_CfgThrough.j0 k l0 a1 a2 a3 t256 true)))) = some r := h
  clear h
  replace H := Option.bind_eq_some_iff.mp H
  obtain ⟨t256, A50, H⟩ := H
  replace H : ((fencepostlaw18_Good.f k l0).bind fun t257 => (if t257 = true then (fencepostlaw18_CfgThrough.j0 k l0 a1 a2 a3 t256 ((l0.length : Int) == 0)) else (fencepostlaw18_CfgThrough.j0 k l0 a1 a2 a3 t256 true))) = some r := H
  have A5 := Aside0.mk A50
  clear A50
  have HC6 := Aside0.mk H
  clear H
  go_enter Try.func5, Try.ntmps5
  (try simp only [List.append_eq, List.cons_append, List.nil_append])
  go_upto_region 2 with (first | ((with_reducible refine gate_callee (f := 15) rfl ?_); refine goesL_ (some 17) rfl rfl Try.func15 (by kernel_rfl) rfl #[] rfl (by (try simp only [List.map_toArray, List.map_cons, List.map_nil]); first | done | rfl | (simp only [List.length_drop, List.length_take]; rfl)) ?_; (with_reducible refine (fencepostlaw18_head.calls k  t256 _ A5.out).mono ?_); rintro e w7 ⟨rfl, hb⟩; refine ⟨_, rfl, ?_⟩; have n0_ := Aside0.mk (below_step (by repeat (first | (with_reducible first | exact HB.out | apply below_alloc | apply pw_below_drewN | apply below_drew1) | exact HB.out)) hb); clear HB; have HB := n0_; clear n0_; (try clear hb); (try clear hb2); (try clear hk); (try clear hi)))
  (try simp only [Act.put, List.setIfInBounds_toArray, List.set_cons_zero, List.set_cons_succ])
  go_cut [25] (fun v25 wc => ∃ (kq : Nat) (x25_5 : Bool), v25 = .bool x25_5 ∧ Aside0 (fencepostlaw18_CfgThrough.j0 kq l0 a1 a2 a3 t256 x25_5 = some r) ∧ Aside0 (kq ≤ k) ∧ Aside0 (Below w.heap.size w wc))
  case first =>
    have H := HC6.out
    clear HC6
    replace H := Option.bind_eq_some_iff.mp H
    obtain ⟨t257, A80, H⟩ := H
    replace H : (if t257 = true then (fencepostlaw18_CfgThrough.j0 k l0 a1 a2 a3 t256 ((l0.length : Int) == 0)) else (fencepostlaw18_CfgThrough.j0 k l0 a1 a2 a3 t256 true)) = some r := H
    have A8 := Aside0.mk A80
    clear A80
    by_cases c9 : t257 = true
    · subst c9
      have H1 : (fencepostlaw18_CfgThrough.j0 k l0 a1 a2 a3 t256 ((l0.length : Int) == 0)) = some r := by rw [if_pos rfl] at H; exact H
      clear H
      have H := H1
      clear H1
      have H' := Aside0.mk H
      clear H
      go_wp2_with (first | ((with_reducible refine gate_callee (f := 16) rfl ?_); refine goesL_ (some 19) rfl rfl Try.func16 (by kernel_rfl) rfl #[.slice A0 l0.length c0] rfl (by (try simp only [List.map_toArray, List.map_cons, List.map_nil]); first | done | rfl | (simp only [List.length_drop, List.length_take]; rfl)) ?_; (with_reducible refine (fencepostlaw18_Good.calls k (fun k_ => k_ < w.heap.size) _ _ l0 true _ ?side1 A8.out).mono ?_); (case side1 => exact Kd.V_mk HC0.out (Kd.F_below (Kd.C_F k33_heap HR0.out) (by repeat (first | (with_reducible first | exact HB.out | apply below_alloc | apply pw_below_drewN | apply below_drew1) | exact HB.out)))); rintro e w10 ⟨rfl, hb⟩; refine ⟨_, rfl, ?_⟩; have n0_ := Aside0.mk (below_step (by repeat (first | (with_reducible first | exact HB.out | apply below_alloc | apply pw_below_drewN | apply below_drew1) | exact HB.out)) hb); clear HB; have HB := n0_; clear n0_; (try clear hb); (try clear hb2); (try clear hk); (try clear hi)))
      go_meet
      case rel => exact ⟨_, (((l0.length : Int) == 0)), (by first | rfl | (simp; done) | (simp [*]; done)), H', ⟨by first | omega | exact Nat.le_refl _⟩, ⟨by repeat (first | (with_reducible first | exact HB.out | apply below_alloc | apply pw_below_drewN | apply below_drew1) | exact HB.out)⟩⟩
    · replace c9 := Bool.eq_false_iff.mpr c9
      subst c9
      have H1 : (fencepostlaw18_CfgThrough.j0 k l0 a1 a2 a3 t256 true) = some r := by rw [if_neg (show ¬ (false = true) by decide)] at H; exact H
      clear H
      have H := H1
      clear H1
      have H' := Aside0.mk H
      clear H
      go_wp2_with (first | ((with_reducible refine gate_callee (f := 16) rfl ?_); refine goesL_ (some 19) rfl rfl Try.func16 (by kernel_rfl) rfl #[.slice A0 l0.length c0] rfl (by (try simp only [List.map_toArray, List.map_cons, List.map_nil]); first | done | rfl | (simp only [List.length_drop, List.length_take]; rfl)) ?_; (with_reducible refine (fencepostlaw18_Good.calls k (fun k_ => k_ < w.heap.size) _ _ l0 false _ ?side1 A8.out).mono ?_); (case side1 => exact Kd.V_mk HC0.out (Kd.F_below (Kd.C_F k33_heap HR0.out) (by repeat (first | (with_reducible first | exact HB.out | apply below_alloc | apply pw_below_drewN | apply below_drew1) | exact HB.out)))); rintro e w11 ⟨rfl, hb⟩; refine ⟨_, rfl, ?_⟩; have n0_ := Aside0.mk (below_step (by repeat (first | (with_reducible first | exact HB.out | apply below_alloc | apply pw_below_drewN | apply below_drew1) | exact HB.out)) hb); clear HB; have HB := n0_; clear n0_; (try clear hb); (try clear hb2); (try clear hk); (try clear hi)))
      go_meet
      case rel => exact ⟨_, (true), (by first | rfl | (simp; done) | (simp [*]; done)), H', ⟨by first | omega | exact Nat.le_refl _⟩, ⟨by repeat (first | (with_reducible first | exact HB.out | apply below_alloc | apply pw_below_drewN | apply below_drew1) | exact HB.out)⟩⟩
  case rest => as_aux_lemma =>
    clear HC6
    try clear c1
    try clear p2
    try clear c5
    try clear c9
    obtain ⟨kq, x25_5, rfl, HA, HJ5, HB⟩ := hcut
    cases kq with
    | zero => exact absurd HA.out (by simp [fencepostlaw18_CfgThrough.j0])
    | succ kj5 =>
      have H := HA.out
      clear HA
      simp only [fencepostlaw18_CfgThrough.j0] at H
      by_cases c12 : x25_5 = true
      · subst c12
        have H1 : (some t256) = some r := by rw [if_pos rfl] at H; exact H
        clear H
        have H := H1
        clear H1
        obtain rfl := Option.some.inj H
        go_wp2
        go_ret
        exact ⟨by first | rfl | (simp [errW_none, errW_some] <;> rfl) | (simp [*, errW_none, errW_some] <;> rfl), by repeat (first | (with_reducible first | exact HB.out | apply below_alloc | apply pw_below_drewN | apply below_drew1) | exact HB.out)⟩
      · replace c12 := Bool.eq_false_iff.mpr c12
        subst c12
        have H1 : (if (l0.length : Int) = 0 then (none) else (if (wrap64 ((l0.length : Int) + 1)) = 0 then (none) else ((cfg_Reach.f l0 (Int.tmod (wrap64 (a1)) (l0.length : Int)) (Int.tmod (wrap64 (a3)) (l0.length : Int))).bind fun t258 => (if t258 = true then ((cfg_Reach.f l0 (Int.tmod (wrap64 (a3)) (l0.length : Int)) (Int.tmod (wrap64 (a2)) (wrap64 ((l0.length : Int) + 1)))).bind fun t259 => (if t259 = true then ((cfg_Reach.f l0 (Int.tmod (wrap64 (a1)) (l0.length : Int)) (Int.tmod (wrap64 (a2)) (wrap64 ((l0.length : Int) + 1)))).bind fun t260 => (fencepostlaw18_CfgThrough.j1 kj5 l0 t256 (Int.tmod (wrap64 (a1)) (l0.length : Int)) (Int.tmod (wrap64 (a2)) (wrap64 ((l0.length : Int) + 1))) (Int.tmod (wrap64 (a3)) (l0.length : Int)) (!t260))) else (fencepostlaw18_CfgThrough.j1 kj5 l0 t256 (Int.tmod (wrap64 (a1)) (l0.length : Int)) (Int.tmod (wrap64 (a2)) (wrap64 ((l0.length : Int) + 1))) (Int.tmod (wrap64 (a3)) (l0.length : Int)) false))) else (fencepostlaw18_CfgThrough.j1 kj5 l0 t256 (Int.tmod (wrap64 (a1)) (l0.length : Int)) (Int.tmod (wrap64 (a2)) (wrap64 ((l0.length : Int) + 1))) (Int.tmod (wrap64 (a3)) (l0.length : Int)) false))))) = some r := by rw [if_neg (show ¬ (false = true) by decide)] at H; exact H
        clear H
        have H := H1
        clear H1
        by_cases c13 : (l0.length : Int) = 0
        · rw [if_pos c13] at H
          exact absurd H (by simp)
        · rw [if_neg c13] at H
          have c13b0 : ((l0.length : Int) == 0) = false := beq_eq_false_iff_ne.mpr c13
          have c13b1 : ((l0.length : Int) != 0) = true := bne_iff_ne.mpr c13
          have c13b2 : ¬ (l0 = []) := fun h_ => c13 (by rw [h_]; rfl)
          by_cases c14 : (wrap64 ((l0.length : Int) + 1)) = 0
          · rw [if_pos c14] at H
            exact absurd H (by simp)
          · rw [if_neg c14] at H
            have c14b0 : ((wrap64 ((l0.length : Int) + 1)) == 0) = false := beq_eq_false_iff_ne.mpr c14
            have c14b1 : ((wrap64 ((l0.length : Int) + 1)) != 0) = true := bne_iff_ne.mpr c14
            have HC15 := Aside0.mk H
            clear H
            go_upto_region 7 with (fail)
            go_cut [59] (fun v59 wc => ∃ (kq : Nat) (x59_14 : Bool), v59 = .bool x59_14 ∧ Aside0 (fencepostlaw18_CfgThrough.j1 kq l0 t256 (Int.tmod (wrap64 (a1)) (l0.length : Int)) (Int.tmod (wrap64 (a2)) (wrap64 ((l0.length : Int) + 1))) (Int.tmod (wrap64 (a3)) (l0.length : Int)) x59_14 = some r) ∧ Aside0 (kq ≤ kj5) ∧ Aside0 (Below w.heap.size w wc))
            case first =>
              have H := HC15.out
              clear HC15
              replace H := Option.bind_eq_some_iff.mp H
              obtain ⟨t258, A160, H⟩ := H
              replace H : (if t258 = true then ((cfg_Reach.f l0 (Int.tmod (wrap64 (a3)) (l0.length : Int)) (Int.tmod (wrap64 (a2)) (wrap64 ((l0.length : Int) + 1)))).bind fun t259 => (if t259 = true then ((cfg_Reach.f l0 (Int.tmod (wrap64 (a1)) (l0.length : Int)) (Int.tmod (wrap64 (a2)) (wrap64 ((l0.length : Int) + 1)))).bind fun t260 => (fencepostlaw18_CfgThrough.j1 kj5 l0 t256 (Int.tmod (wrap64 (a1)) (l0.length : Int)) (Int.tmod (wrap64 (a2)) (wrap64 ((l0.length : Int) + 1))) (Int.tmod (wrap64 (a3)) (l0.length : Int)) (!t260))) else (fencepostlaw18_CfgThrough.j1 kj5 l0 t256 (Int.tmod (wrap64 (a1)) (l0.length : Int)) (Int.tmod (wrap64 (a2)) (wrap64 ((l0.length : Int) + 1))) (Int.tmod (wrap64 (a3)) (l0.length : Int)) false))) else (fencepostlaw18_CfgThrough.j1 kj5 l0 t256 (Int.tmod (wrap64 (a1)) (l0.length : Int)) (Int.tmod (wrap64 (a2)) (wrap64 ((l0.length : Int) + 1))) (Int.tmod (wrap64 (a3)) (l0.length : Int)) false)) = some r := H
              have A16 := Aside0.mk A160
              clear A160
              by_cases c17 : t258 = true
              · subst c17
                have H1 : ((cfg_Reach.f l0 (Int.tmod (wrap64 (a3)) (l0.length : Int)) (Int.tmod (wrap64 (a2)) (wrap64 ((l0.length : Int) + 1)))).bind fun t259 => (if t259 = true then ((cfg_Reach.f l0 (Int.tmod (wrap64 (a1)) (l0.length : Int)) (Int.tmod (wrap64 (a2)) (wrap64 ((l0.length : Int) + 1)))).bind fun t260 => (fencepostlaw18_CfgThrough.j1 kj5 l0 t256 (Int.tmod (wrap64 (a1)) (l0.length : Int)) (Int.tmod (wrap64 (a2)) (wrap64 ((l0.length : Int) + 1))) (Int.tmod (wrap64 (a3)) (l0.length : Int)) (!t260))) else (fencepostlaw18_CfgThrough.j1 kj5 l0 t256 (Int.tmod (wrap64 (a1)) (l0.length : Int)) (Int.tmod (wrap64 (a2)) (wrap64 ((l0.length : Int) + 1))) (Int.tmod (wrap64 (a3)) (l0.length : Int)) false))) = some r := by rw [if_pos rfl] at H; exact H
                clear H
                have H := H1
                clear H1
                replace H := Option.bind_eq_some_iff.mp H
                obtain ⟨t259, A180, H⟩ := H
                replace H : (if t259 = true then ((cfg_Reach.f l0 (Int.tmod (wrap64 (a1)) (l0.length : Int)) (Int.tmod (wrap64 (a2)) (wrap64 ((l0.length : Int) + 1)))).bind fun t260 => (fencepostlaw18_CfgThrough.j1 kj5 l0 t256 (Int.tmod (wrap64 (a1)) (l0.length : Int)) (Int.tmod (wrap64 (a2)) (wrap64 ((l0.length : Int) + 1))) (Int.tmod (wrap64 (a3)) (l0.length : Int)) (!t260))) else (fencepostlaw18_CfgThrough.j1 kj5 l0 t256 (Int.tmod (wrap64 (a1)) (l0.length : Int)) (Int.tmod (wrap64 (a2)) (wrap64 ((l0.length : Int) + 1))) (Int.tmod (wrap64 (a3)) (l0.length : Int)) false)) = some r := H
                have A18 := Aside0.mk A180
                clear A180
                by_cases c19 : t259 = true
                · subst c19
                  have H1 : ((cfg_Reach.f l0 (Int.tmod (wrap64 (a1)) (l0.length : Int)) (Int.tmod (wrap64 (a2)) (wrap64 ((l0.length : Int) + 1)))).bind fun t260 => (fencepostlaw18_CfgThrough.j1 kj5 l0 t256 (Int.tmod (wrap64 (a1)) (l0.length : Int)) (Int.tmod (wrap64 (a2)) (wrap64 ((l0.length : Int) + 1))) (Int.tmod (wrap64 (a3)) (l0.length : Int)) (!t260))) = some r := by rw [if_pos rfl] at H; exact H
                  clear H
                  have H := H1
                  clear H1
                  replace H := Option.bind_eq_some_iff.mp H
                  obtain ⟨t260, A200, H⟩ := H
                  replace H : (fencepostlaw18_CfgThrough.j1 kj5 l0 t256 (Int.tmod (wrap64 (a1)) (l0.length : Int)) (Int.tmod (wrap64 (a2)) (wrap64 ((l0.length : Int) + 1))) (Int.tmod (wrap64 (a3)) (l0.length : Int)) (!t260)) = some r := H
                  have A20 := Aside0.mk A200
                  clear A200
                  have H' := Aside0.mk H
                  clear H
                  go_wp2_with (first | ((with_reducible refine gate_callee (f := 22) rfl ?_); refine goesL_ (some 46) rfl rfl Try.func22 (by kernel_rfl) rfl #[.slice A0 l0.length c0, .int .i64 (Int.tmod (wrap64 (a1)) (l0.length : Int)), .int .i64 (Int.tmod (wrap64 (a3)) (l0.length : Int))] rfl (by (try simp only [List.map_toArray, List.map_cons, List.map_nil]); first | done | rfl | (simp only [List.length_drop, List.length_take]; rfl)) ?_; (with_reducible refine (cfg_Reach.calls _ _ l0 (Int.tmod (wrap64 (a1)) (l0.length : Int)) (Int.tmod (wrap64 (a3)) (l0.length : Int)) true _ ?side1 ?side2 A16.out).mono ?_); (case side1 => repeat (first | exact (Kd.C_below HR0.out HB.out) | (with_reducible refine Kd.C_alloc ?_ _) | (with_reducible refine Kd.C_drewN ?_ _) | (with_reducible refine Kd.C_drew ?_))); (case side2 => exact HC0.out); rintro e w21 ⟨rfl, hb⟩; refine ⟨_, rfl, ?_⟩; have n0_ := Aside0.mk (below_step (by repeat (first | (with_reducible first | exact HB.out | apply below_alloc | apply pw_below_drewN | apply below_drew1) | exact HB.out)) hb); clear HB; have HB := n0_; clear n0_; (try clear hb); (try clear hb2); (try clear hk); (try clear hi)) | (go_at_call 22; (with_reducible refine (cfg_Reach.calls _ _ l0 (Int.tmod (wrap64 (a3)) (l0.length : Int)) (Int.tmod (wrap64 (a2)) (wrap64 ((l0.length : Int) + 1))) true _ ?side1 ?side2 A18.out).mono ?_); (case side1 => repeat (first | exact (Kd.C_below HR0.out HB.out) | (with_reducible refine Kd.C_alloc ?_ _) | (with_reducible refine Kd.C_drewN ?_ _) | (with_reducible refine Kd.C_drew ?_))); (case side2 => exact HC0.out); rintro e w22 ⟨rfl, hb⟩; have n0_ := Aside0.mk (below_step (by repeat (first | (with_reducible first | exact HB.out | apply below_alloc | apply pw_below_drewN | apply below_drew1) | exact HB.out)) hb); clear HB; have HB := n0_; clear n0_; (try clear hb); (try clear hb2); (try clear hk); (try clear hi)) | (go_at_call 22; (with_reducible refine (cfg_Reach.calls _ _ l0 (Int.tmod (wrap64 (a1)) (l0.length : Int)) (Int.tmod (wrap64 (a2)) (wrap64 ((l0.length : Int) + 1))) t260 _ ?side1 ?side2 A20.out).mono ?_); (case side1 => repeat (first | exact (Kd.C_below HR0.out HB.out) | (with_reducible refine Kd.C_alloc ?_ _) | (with_reducible refine Kd.C_drewN ?_ _) | (with_reducible refine Kd.C_drew ?_))); (case side2 => exact HC0.out); rintro e w23 ⟨rfl, hb⟩; have n0_ := Aside0.mk (below_step (by repeat (first | (with_reducible first | exact HB.out | apply below_alloc | apply pw_below_drewN | apply below_drew1) | exact HB.out)) hb); clear HB; have HB := n0_; clear n0_; (try clear hb); (try clear hb2); (try clear hk); (try clear hi)))
                  go_meet
                  case rel => exact ⟨_, (!t260), (by first | rfl | (simp; done) | (simp [*]; done)), H', ⟨by have := HJ5.out; first | omega | exact Nat.le_refl _⟩, ⟨by repeat (first | (with_reducible first | exact HB.out | apply below_alloc | apply pw_below_drewN | apply below_drew1) | exact HB.out)⟩⟩
                · replace c19 := Bool.eq_false_iff.mpr c19
                  subst c19
                  have H1 : (fencepostlaw18_CfgThrough.j1 kj5 l0 t256 (Int.tmod (wrap64 (a1)) (l0.length : Int)) (Int.tmod (wrap64 (a2)) (wrap64 ((l0.length : Int) + 1))) (Int.tmod (wrap64 (a3)) (l0.length : Int)) false) = some r := by rw [if_neg (show ¬ (false = true) by decide)] at H; exact H
                  clear H
                  have H := H1
                  clear H1
                  have H' := Aside0.mk H
                  clear H
                  go_wp2_with (first | ((with_reducible refine gate_callee (f := 22) rfl ?_); refine goesL_ (some 46) rfl rfl Try.func22 (by kernel_rfl) rfl #[.slice A0 l0.length c0, .int .i64 (Int.tmod (wrap64 (a1)) (l0.length : Int)), .int .i64 (Int.tmod (wrap64 (a3)) (l0.length : Int))] rfl (by (try simp only [List.map_toArray, List.map_cons, List.map_nil]); first | done | rfl | (simp only [List.length_drop, List.length_take]; rfl)) ?_; (with_reducible refine (cfg_Reach.calls _ _ l0 (Int.tmod (wrap64 (a1)) (l0.length : Int)) (Int.tmod (wrap64 (a3)) (l0.length : Int)) true _ ?side1 ?side2 A16.out).mono ?_); (case side1 => repeat (first | exact (Kd.C_below HR0.out HB.out) | (with_reducible refine Kd.C_alloc ?_ _) | (with_reducible refine Kd.C_drewN ?_ _) | (with_reducible refine Kd.C_drew ?_))); (case side2 => exact HC0.out); rintro e w24 ⟨rfl, hb⟩; refine ⟨_, rfl, ?_⟩; have n0_ := Aside0.mk (below_step (by repeat (first | (with_reducible first | exact HB.out | apply below_alloc | apply pw_below_drewN | apply below_drew1) | exact HB.out)) hb); clear HB; have HB := n0_; clear n0_; (try clear hb); (try clear hb2); (try clear hk); (try clear hi)) | (go_at_call 22; (with_reducible refine (cfg_Reach.calls _ _ l0 (Int.tmod (wrap64 (a3)) (l0.length : Int)) (Int.tmod (wrap64 (a2)) (wrap64 ((l0.length : Int) + 1))) false _ ?side1 ?side2 A18.out).mono ?_); (case side1 => repeat (first | exact (Kd.C_below HR0.out HB.out) | (with_reducible refine Kd.C_alloc ?_ _) | (with_reducible refine Kd.C_drewN ?_ _) | (with_reducible refine Kd.C_drew ?_))); (case side2 => exact HC0.out); rintro e w25 ⟨rfl, hb⟩; have n0_ := Aside0.mk (below_step (by repeat (first | (with_reducible first | exact HB.out | apply below_alloc | apply pw_below_drewN | apply below_drew1) | exact HB.out)) hb); clear HB; have HB := n0_; clear n0_; (try clear hb); (try clear hb2); (try clear hk); (try clear hi)))
                  go_meet
                  case rel => exact ⟨_, (false), (by first | rfl | (simp; done) | (simp [*]; done)), H', ⟨by have := HJ5.out; first | omega | exact Nat.le_refl _⟩, ⟨by repeat (first | (with_reducible first | exact HB.out | apply below_alloc | apply pw_below_drewN | apply below_drew1) | exact HB.out)⟩⟩
              · replace c17 := Bool.eq_false_iff.mpr c17
                subst c17
                have H1 : (fencepostlaw18_CfgThrough.j1 kj5 l0 t256 (Int.tmod (wrap64 (a1)) (l0.length : Int)) (Int.tmod (wrap64 (a2)) (wrap64 ((l0.length : Int) + 1))) (Int.tmod (wrap64 (a3)) (l0.length : Int)) false) = some r := by rw [if_neg (show ¬ (false = true) by decide)] at H; exact H
                clear H
                have H := H1
                clear H1
                have H' := Aside0.mk H
                clear H
                go_wp2_with (first | ((with_reducible refine gate_callee (f := 22) rfl ?_); refine goesL_ (some 46) rfl rfl Try.func22 (by kernel_rfl) rfl #[.slice A0 l0.length c0, .int .i64 (Int.tmod (wrap64 (a1)) (l0.length : Int)), .int .i64 (Int.tmod (wrap64 (a3)) (l0.length : Int))] rfl (by (try simp only [List.map_toArray, List.map_cons, List.map_nil]); first | done | rfl | (simp only [List.length_drop, List.length_take]; rfl)) ?_; (with_reducible refine (cfg_Reach.calls _ _ l0 (Int.tmod (wrap64 (a1)) (l0.length : Int)) (Int.tmod (wrap64 (a3)) (l0.length : Int)) false _ ?side1 ?side2 A16.out).mono ?_); (case side1 => repeat (first | exact (Kd.C_below HR0.out HB.out) | (with_reducible refine Kd.C_alloc ?_ _) | (with_reducible refine Kd.C_drewN ?_ _) | (with_reducible refine Kd.C_drew ?_))); (case side2 => exact HC0.out); rintro e w26 ⟨rfl, hb⟩; refine ⟨_, rfl, ?_⟩; have n0_ := Aside0.mk (below_step (by repeat (first | (with_reducible first | exact HB.out | apply below_alloc | apply pw_below_drewN | apply below_drew1) | exact HB.out)) hb); clear HB; have HB := n0_; clear n0_; (try clear hb); (try clear hb2); (try clear hk); (try clear hi)))
                go_meet
                case rel => exact ⟨_, (false), (by first | rfl | (simp; done) | (simp [*]; done)), H', ⟨by have := HJ5.out; first | omega | exact Nat.le_refl _⟩, ⟨by repeat (first | (with_reducible first | exact HB.out | apply below_alloc | apply pw_below_drewN | apply below_drew1) | exact HB.out)⟩⟩
            case rest => as_aux_lemma =>
              clear HC15
              try clear c1
              try clear c2
              try clear p2
              try clear c5
              try clear p6
              try clear c9
              try clear c12
              try clear c13
              try clear c13b0
              try clear c13b1
              try clear c13b2
              try clear c14
              try clear c14b0
              try clear c14b1
              try clear c15
              try clear c16
              try clear c17
              try clear c19
              try clear c22
              try clear p2
              obtain ⟨kq, x59_14, rfl, HA, HJ14, HB⟩ := hcut
              cases kq with
              | zero => exact absurd HA.out (by simp [fencepostlaw18_CfgThrough.j1])
              | succ kj14 =>
                have H := HA.out
                clear HA
                simp only [fencepostlaw18_CfgThrough.j1] at H
                by_cases c27 : x59_14 = true
                · subst c27
                  have H1 : (some false) = some r := by rw [if_pos rfl] at H; exact H
                  clear H
                  have H := H1
                  clear H1
                  exact absurd ((Option.some.inj H).trans HT.out) (by simp)
                · replace c27 := Bool.eq_false_iff.mpr c27
                  subst c27
                  have H1 : ((cfg_Free.f l0 (Int.tmod (wrap64 (a1)) (l0.length : Int)) (Int.tmod (wrap64 (a3)) (l0.length : Int))).bind fun t261 => (if t261 = true then ((cfg_Free.f l0 (Int.tmod (wrap64 (a3)) (l0.length : Int)) (Int.tmod (wrap64 (a2)) (wrap64 ((l0.length : Int) + 1)))).bind fun t262 => (if t262 = true then (if 0 ≤ (Int.tmod (wrap64 (a3)) (l0.length : Int)) then (if (Int.tmod (wrap64 (a3)) (l0.length : Int)) < (l0.length : Int) then ((fencepostref18_Drains.f ((rd_T33 l0 (Int.tmod (wrap64 (a3)) (l0.length : Int))).f0) ((rd_T33 l0 (Int.tmod (wrap64 (a3)) (l0.length : Int))).f1) ((rd_T33 l0 (Int.tmod (wrap64 (a3)) (l0.length : Int))).f2) ((rd_T33 l0 (Int.tmod (wrap64 (a3)) (l0.length : Int))).f3) ((rd_T33 l0 (Int.tmod (wrap64 (a3)) (l0.length : Int))).f4)).bind fun t264 => (if t264 = true then (fencepostlaw18_CfgThrough.j2 kj14 l0 t256 (Int.tmod (wrap64 (a1)) (l0.length : Int)) (Int.tmod (wrap64 (a2)) (wrap64 ((l0.length : Int) + 1))) false) else ((cfg_Free.f l0 (Int.tmod (wrap64 (a1)) (l0.length : Int)) (Int.tmod (wrap64 (a2)) (wrap64 ((l0.length : Int) + 1)))).bind fun t265 => (fencepostlaw18_CfgThrough.j2 kj14 l0 t256 (Int.tmod (wrap64 (a1)) (l0.length : Int)) (Int.tmod (wrap64 (a2)) (wrap64 ((l0.length : Int) + 1))) (!t265))))) else (none)) else (none)) else (fencepostlaw18_CfgThrough.j2 kj14 l0 t256 (Int.tmod (wrap64 (a1)) (l0.length : Int)) (Int.tmod (wrap64 (a2)) (wrap64 ((l0.length : Int) + 1))) false))) else (fencepostlaw18_CfgThrough.j2 kj14 l0 t256 (Int.tmod (wrap64 (a1)) (l0.length : Int)) (Int.tmod (wrap64 (a2)) (wrap64 ((l0.length : Int) + 1))) false))) = some r := by rw [if_neg (show ¬ (false = true) by decide)] at H; exact H
                  clear H
                  have H := H1
                  clear H1
                  have HC28 := Aside0.mk H
                  clear H
                  go_upto_region 9 with (fail)
                  go_cut [84] (fun v84 wc => ∃ (kq : Nat) (x84_27 : Bool), v84 = .bool x84_27 ∧ Aside0 (fencepostlaw18_CfgThrough.j2 kq l0 t256 (Int.tmod (wrap64 (a1)) (l0.length : Int)) (Int.tmod (wrap64 (a2)) (wrap64 ((l0.length : Int) + 1))) x84_27 = some r) ∧ Aside0 (kq ≤ kj14) ∧ Aside0 (Below w.heap.size w wc))
                  case first =>
                    have H := HC28.out
                    clear HC28
                    replace H := Option.bind_eq_some_iff.mp H
                    obtain ⟨t261, A290, H⟩ := H
                    replace H : (if t261 = true then ((cfg_Free.f l0 (Int.tmod (wrap64 (a3)) (l0.length : Int)) (Int.tmod (wrap64 (a2)) (wrap64 ((l0.length : Int) + 1)))).bind fun t262 => (if t262 = true then (if 0 ≤ (Int.tmod (wrap64 (a3)) (l0.length : Int)) then (if (Int.tmod (wrap64 (a3)) (l0.length : Int)) < (l0.length : Int) then ((fencepostref18_Drains.f ((rd_T33 l0 (Int.tmod (wrap64 (a3)) (l0.length : Int))).f0) ((rd_T33 l0 (Int.tmod (wrap64 (a3)) (l0.length : Int))).f1) ((rd_T33 l0 (Int.tmod (wrap64 (a3)) (l0.length : Int))).f2) ((rd_T33 l0 (Int.tmod (wrap64 (a3)) (l0.length : Int))).f3) ((rd_T33 l0 (Int.tmod (wrap64 (a3)) (l0.length : Int))).f4)).bind fun t264 => (if t264 = true then (fencepostlaw18_CfgThrough.j2 kj14 l0 t256 (Int.tmod (wrap64 (a1)) (l0.length : Int)) (Int.tmod (wrap64 (a2)) (wrap64 ((l0.length : Int) + 1))) false) else ((cfg_Free.f l0 (Int.tmod (wrap64 (a1)) (l0.length : Int)) (Int.tmod (wrap64 (a2)) (wrap64 ((l0.length : Int) + 1)))).bind fun t265 => (fencepostlaw18_CfgThrough.j2 kj14 l0 t256 (Int.tmod (wrap64 (a1)) (l0.length : Int)) (Int.tmod (wrap64 (a2)) (wrap64 ((l0.length : Int) + 1))) (!t265))))) else (none)) else (none)) else (fencepostlaw18_CfgThrough.j2 kj14 l0 t256 (Int.tmod (wrap64 (a1)) (l0.length : Int)) (Int.tmod (wrap64 (a2)) (wrap64 ((l0.length : Int) + 1))) false))) else (fencepostlaw18_CfgThrough.j2 kj14 l0 t256 (Int.tmod (wrap64 (a1)) (l0.length : Int)) (Int.tmod (wrap64 (a2)) (wrap64 ((l0.length : Int) + 1))) false)) = some r := H
                    have A29 := Aside0.mk A290
                    clear A290
                    by_cases c30 : t261 = true
                    · subst c30
                      have H1 : ((cfg_Free.f l0 (Int.tmod (wrap64 (a3)) (l0.length : Int)) (Int.tmod (wrap64 (a2)) (wrap64 ((l0.length : Int) + 1)))).bind fun t262 => (if t262 = true then (if 0 ≤ (Int.tmod (wrap64 (a3)) (l0.length : Int)) then (if (Int.tmod (wrap64 (a3)) (l0.length : Int)) < (l0.length : Int) then ((fencepostref18_Drains.f ((rd_T33 l0 (Int.tmod (wrap64 (a3)) (l0.length : Int))).f0) ((rd_T33 l0 (Int.tmod (wrap64 (a3)) (l0.length : Int))).f1) ((rd_T33 l0 (Int.tmod (wrap64 (a3)) (l0.length : Int))).f2) ((rd_T33 l0 (Int.tmod (wrap64 (a3)) (l0.length : Int))).f3) ((rd_T33 l0 (Int.tmod (wrap64 (a3)) (l0.length : Int))).f4)).bind fun t264 => (if t264 = true then (fencepostlaw18_CfgThrough.j2 kj14 l0 t256 (Int.tmod (wrap64 (a1)) (l0.length : Int)) (Int.tmod (wrap64 (a2)) (wrap64 ((l0.length : Int) + 1))) false) else ((cfg_Free.f l0 (Int.tmod (wrap64 (a1)) (l0.length : Int)) (Int.tmod (wrap64 (a2)) (wrap64 ((l0.length : Int) + 1)))).bind fun t265 => (fencepostlaw18_CfgThrough.j2 kj14 l0 t256 (Int.tmod (wrap64 (a1)) (l0.length : Int)) (Int.tmod (wrap64 (a2)) (wrap64 ((l0.length : Int) + 1))) (!t265))))) else (none)) else (none)) else (fencepostlaw18_CfgThrough.j2 kj14 l0 t256 (Int.tmod (wrap64 (a1)) (l0.length : Int)) (Int.tmod (wrap64 (a2)) (wrap64 ((l0.length : Int) + 1))) false))) = some r := by rw [if_pos rfl] at H; exact H
                      clear H
                      have H := H1
                      clear H1
                      replace H := Option.bind_eq_some_iff.mp H
                      obtain ⟨t262, A310, H⟩ := H
                      replace H : (if t262 = true then (if 0 ≤ (Int.tmod (wrap64 (a3)) (l0.length : Int)) then (if (Int.tmod (wrap64 (a3)) (l0.length : Int)) < (l0.length : Int) then ((fencepostref18_Drains.f ((rd_T33 l0 (Int.tmod (wrap64 (a3)) (l0.length : Int))).f0) ((rd_T33 l0 (Int.tmod (wrap64 (a3)) (l0.length : Int))).f1) ((rd_T33 l0 (Int.tmod (wrap64 (a3)) (l0.length : Int))).f2) ((rd_T33 l0 (Int.tmod (wrap64 (a3)) (l0.length : Int))).f3) ((rd_T33 l0 (Int.tmod (wrap64 (a3)) (l0.length : Int))).f4)).bind fun t264 => (if t264 = true then (fencepostlaw18_CfgThrough.j2 kj14 l0 t256 (Int.tmod (wrap64 (a1)) (l0.length : Int)) (Int.tmod (wrap64 (a2)) (wrap64 ((l0.length : Int) + 1))) false) else ((cfg_Free.f l0 (Int.tmod (wrap64 (a1)) (l0.length : Int)) (Int.tmod (wrap64 (a2)) (wrap64 ((l0.length : Int) + 1)))).bind fun t265 => (fencepostlaw18_CfgThrough.j2 kj14 l0 t256 (Int.tmod (wrap64 (a1)) (l0.length : Int)) (Int.tmod (wrap64 (a2)) (wrap64 ((l0.length : Int) + 1))) (!t265))))) else (none)) else (none)) else (fencepostlaw18_CfgThrough.j2 kj14 l0 t256 (Int.tmod (wrap64 (a1)) (l0.length : Int)) (Int.tmod (wrap64 (a2)) (wrap64 ((l0.length : Int) + 1))) false)) = some r := H
                      have A31 := Aside0.mk A310
                      clear A310
                      by_cases c32 : t262 = true
                      · subst c32
                        have H1 : (if 0 ≤ (Int.tmod (wrap64 (a3)) (l0.length : Int)) then (if (Int.tmod (wrap64 (a3)) (l0.length : Int)) < (l0.length : Int) then ((fencepostref18_Drains.f ((rd_T33 l0 (Int.tmod (wrap64 (a3)) (l0.length : Int))).f0) ((rd_T33 l0 (Int.tmod (wrap64 (a3)) (l0.length : Int))).f1) ((rd_T33 l0 (Int.tmod (wrap64 (a3)) (l0.length : Int))).f2) ((rd_T33 l0 (Int.tmod (wrap64 (a3)) (l0.length : Int))).f3) ((rd_T33 l0 (Int.tmod (wrap64 (a3)) (l0.length : Int))).f4)).bind fun t264 => (if t264 = true then (fencepostlaw18_CfgThrough.j2 kj14 l0 t256 (Int.tmod (wrap64 (a1)) (l0.length : Int)) (Int.tmod (wrap64 (a2)) (wrap64 ((l0.length : Int) + 1))) false) else ((cfg_Free.f l0 (Int.tmod (wrap64 (a1)) (l0.length : Int)) (Int.tmod (wrap64 (a2)) (wrap64 ((l0.length : Int) + 1)))).bind fun t265 => (fencepostlaw18_CfgThrough.j2 kj14 l0 t256 (Int.tmod (wrap64 (a1)) (l0.length : Int)) (Int.tmod (wrap64 (a2)) (wrap64 ((l0.length : Int) + 1))) (!t265))))) else (none)) else (none)) = some r := by rw [if_pos rfl] at H; exact H
                        clear H
                        have H := H1
                        clear H1
                        obtain ⟨ji33, hji33⟩ : ∃ j_ : Int, (Int.tmod (wrap64 (a3)) (l0.length : Int)) = j_ := ⟨_, rfl⟩
                        replace H : (if 0 ≤ (ji33) then (if (ji33) < (l0.length : Int) then ((fencepostref18_Drains.f ((rd_T33 l0 (ji33)).f0) ((rd_T33 l0 (ji33)).f1) ((rd_T33 l0 (ji33)).f2) ((rd_T33 l0 (ji33)).f3) ((rd_T33 l0 (ji33)).f4)).bind fun t264 => (if t264 = true then (fencepostlaw18_CfgThrough.j2 kj14 l0 t256 (Int.tmod (wrap64 (a1)) (l0.length : Int)) (Int.tmod (wrap64 (a2)) (wrap64 ((l0.length : Int) + 1))) false) else ((cfg_Free.f l0 (Int.tmod (wrap64 (a1)) (l0.length : Int)) (Int.tmod (wrap64 (a2)) (wrap64 ((l0.length : Int) + 1)))).bind fun t265 => (fencepostlaw18_CfgThrough.j2 kj14 l0 t256 (Int.tmod (wrap64 (a1)) (l0.length : Int)) (Int.tmod (wrap64 (a2)) (wrap64 ((l0.length : Int) + 1))) (!t265))))) else (none)) else (none)) = some r := by first | (rw [hji33] at H; exact H) | (simp only [hji33] at H ⊢; exact H)
                        (try rw [hji33] at A29)
                        (try rw [hji33] at A31)
                        by_cases c34 : 0 ≤ (ji33)
                        · rw [if_pos c34] at H
                          have c34b0 : decide (0 ≤ (ji33)) = true := decide_eq_true c34
                          clear c34
                          (first | rw [c34b0] | (simp only [i64_w, i32_w]; rw [c34b0]) | skip)
                          by_cases c35 : (ji33) < (l0.length : Int)
                          · rw [if_pos c35] at H
                            have c35b0 : decide ((ji33) < (l0.length : Int)) = true := decide_eq_true c35
                            clear c35
                            replace H := Option.bind_eq_some_iff.mp H
                            obtain ⟨t264, A360, H⟩ := H
                            replace H : (if t264 = true then (fencepostlaw18_CfgThrough.j2 kj14 l0 t256 (Int.tmod (wrap64 (a1)) (l0.length : Int)) (Int.tmod (wrap64 (a2)) (wrap64 ((l0.length : Int) + 1))) false) else ((cfg_Free.f l0 (Int.tmod (wrap64 (a1)) (l0.length : Int)) (Int.tmod (wrap64 (a2)) (wrap64 ((l0.length : Int) + 1)))).bind fun t265 => (fencepostlaw18_CfgThrough.j2 kj14 l0 t256 (Int.tmod (wrap64 (a1)) (l0.length : Int)) (Int.tmod (wrap64 (a2)) (wrap64 ((l0.length : Int) + 1))) (!t265)))) = some r := H
                            have A36 := Aside0.mk A360
                            clear A360
                            by_cases c37 : t264 = true
                            · subst c37
                              have H1 : (fencepostlaw18_CfgThrough.j2 kj14 l0 t256 (Int.tmod (wrap64 (a1)) (l0.length : Int)) (Int.tmod (wrap64 (a2)) (wrap64 ((l0.length : Int) + 1))) false) = some r := by rw [if_pos rfl] at H; exact H
                              clear H
                              have H := H1
                              clear H1
                              have H' := Aside0.mk H
                              clear H
                              go_wp2_with (first | ((with_reducible refine gate_callee (f := 24) rfl ?_); refine goesL_ (some 63) rfl rfl Try.func24 (by kernel_rfl) rfl #[.slice A0 l0.length c0, .int .i64 (Int.tmod (wrap64 (a1)) (l0.length : Int)), .int .i64 (ji33)] rfl (by (try simp only [List.map_toArray, List.map_cons, List.map_nil]); first | done | (simp only [hji33]; rfl) | rfl | (simp only [List.length_drop, List.length_take]; rfl)) ?_; (with_reducible refine (cfg_Free.calls _ _ l0 (Int.tmod (wrap64 (a1)) (l0.length : Int)) (ji33) true _ ?side1 ?side2 A29.out).mono ?_); (case side1 => repeat (first | exact (Kd.C_below HR0.out HB.out) | (with_reducible refine Kd.C_alloc ?_ _) | (with_reducible refine Kd.C_drewN ?_ _) | (with_reducible refine Kd.C_drew ?_))); (case side2 => exact HC0.out); rintro e w38 ⟨rfl, hb⟩; refine ⟨_, rfl, ?_⟩; have n0_ := Aside0.mk (below_step (by repeat (first | (with_reducible first | exact HB.out | apply below_alloc | apply pw_below_drewN | apply below_drew1) | exact HB.out)) hb); clear HB; have HB := n0_; clear n0_; (try clear hb); (try clear hb2); (try clear hk); (try clear hi)) | (go_at_call 24; (with_reducible refine (cfg_Free.calls _ _ l0 (ji33) (Int.tmod (wrap64 (a2)) (wrap64 ((l0.length : Int) + 1))) true _ ?side1 ?side2 A31.out).mono ?_); (case side1 => repeat (first | exact (Kd.C_below HR0.out HB.out) | (with_reducible refine Kd.C_alloc ?_ _) | (with_reducible refine Kd.C_drewN ?_ _) | (with_reducible refine Kd.C_drew ?_))); (case side2 => exact HC0.out); rintro e w39 ⟨rfl, hb⟩; have n0_ := Aside0.mk (below_step (by repeat (first | (with_reducible first | exact HB.out | apply below_alloc | apply pw_below_drewN | apply below_drew1) | exact HB.out)) hb); clear HB; have HB := n0_; clear n0_; (try clear hb); (try clear hb2); (try clear hk); (try clear hi); have p263 : 0 ≤ ((ji33) : Int) := of_decide_eq_true (by first | (with_reducible assumption) | assumption); have q263 : (ji33) < (l0.length : Int) := of_decide_eq_true (by first | (with_reducible assumption) | assumption); obtain ⟨ad263, e263, hx263_0, hx263_1, hx263_2, hx263_3, hx263_4⟩ := at_T33 HR0.out (ji33) p263 q263; cases e263; replace hx263_0 := (HB.out.cell (World.block_lt_of_cell? w _ hx263_0)).trans hx263_0; replace hx263_1 := (HB.out.cell (World.block_lt_of_cell? w _ hx263_1)).trans hx263_1; replace hx263_2 := (HB.out.cell (World.block_lt_of_cell? w _ hx263_2)).trans hx263_2; replace hx263_3 := (HB.out.cell (World.block_lt_of_cell? w _ hx263_3)).trans hx263_3; replace hx263_4 := (HB.out.cell (World.block_lt_of_cell? w _ hx263_4)).trans hx263_4; replace p263 := eq_true p263; replace q263 := eq_true q263) | (go_at_call 26; (with_reducible refine (fencepostref18_Drains.calls ((rd_T33 l0 (ji33)).f0) ((rd_T33 l0 (ji33)).f1) ((rd_T33 l0 (ji33)).f2) ((rd_T33 l0 (ji33)).f3) ((rd_T33 l0 (ji33)).f4) true _ A36.out).mono ?_); rintro e w40 ⟨rfl, hb⟩; have n0_ := Aside0.mk (below_step (by repeat (first | (with_reducible first | exact HB.out | apply below_alloc | apply pw_below_drewN | apply below_drew1) | exact HB.out)) hb); clear HB; have HB := n0_; clear n0_; (try clear hb); (try clear hb2); (try clear hk); (try clear hi)))
                              (try subst hji33)
                              go_meet
                              case rel => exact ⟨_, (false), (by first | rfl | (simp; done) | (simp [*]; done)), H', ⟨by have := HJ5.out; have := HJ14.out; first | omega | exact Nat.le_refl _⟩, ⟨by repeat (first | (with_reducible first | exact HB.out | apply below_alloc | apply pw_below_drewN | apply below_drew1) | exact HB.out)⟩⟩
                            · replace c37 := Bool.eq_false_iff.mpr c37
                              subst c37
                              have H1 : ((cfg_Free.f l0 (Int.tmod (wrap64 (a1)) (l0.length : Int)) (Int.tmod (wrap64 (a2)) (wrap64 ((l0.length : Int) + 1)))).bind fun t265 => (fencepostlaw18_CfgThrough.j2 kj14 l0 t256 (Int.tmod (wrap64 (a1)) (l0.length : Int)) (Int.tmod (wrap64 (a2)) (wrap64 ((l0.length : Int) + 1))) (!t265))) = some r := by rw [if_neg (show ¬ (false = true) by decide)] at H; exact H
                              clear H
                              have H := H1
                              clear H1
                              replace H := Option.bind_eq_some_iff.mp H
                              obtain ⟨t265, A410, H⟩ := H
                              replace H : (fencepostlaw18_CfgThrough.j2 kj14 l0 t256 (Int.tmod (wrap64 (a1)) (l0.length : Int)) (Int.tmod (wrap64 (a2)) (wrap64 ((l0.length : Int) + 1))) (!t265)) = some r := H
                              have A41 := Aside0.mk A410
                              clear A410
                              have H' := Aside0.mk H
                              clear H
                              go_wp2_with (first | ((with_reducible refine gate_callee (f := 24) rfl ?_); refine goesL_ (some 63) rfl rfl Try.func24 (by kernel_rfl) rfl #[.slice A0 l0.length c0, .int .i64 (Int.tmod (wrap64 (a1)) (l0.length : Int)), .int .i64 (ji33)] rfl (by (try simp only [List.map_toArray, List.map_cons, List.map_nil]); first | done | (simp only [hji33]; rfl) | rfl | (simp only [List.length_drop, List.length_take]; rfl)) ?_; (with_reducible refine (cfg_Free.calls _ _ l0 (Int.tmod (wrap64 (a1)) (l0.length : Int)) (ji33) true _ ?side1 ?side2 A29.out).mono ?_); (case side1 => repeat (first | exact (Kd.C_below HR0.out HB.out) | (with_reducible refine Kd.C_alloc ?_ _) | (with_reducible refine Kd.C_drewN ?_ _) | (with_reducible refine Kd.C_drew ?_))); (case side2 => exact HC0.out); rintro e w42 ⟨rfl, hb⟩; refine ⟨_, rfl, ?_⟩; have n0_ := Aside0.mk (below_step (by repeat (first | (with_reducible first | exact HB.out | apply below_alloc | apply pw_below_drewN | apply below_drew1) | exact HB.out)) hb); clear HB; have HB := n0_; clear n0_; (try clear hb); (try clear hb2); (try clear hk); (try clear hi)) | (go_at_call 24; (with_reducible refine (cfg_Free.calls _ _ l0 (ji33) (Int.tmod (wrap64 (a2)) (wrap64 ((l0.length : Int) + 1))) true _ ?side1 ?side2 A31.out).mono ?_); (case side1 => repeat (first | exact (Kd.C_below HR0.out HB.out) | (with_reducible refine Kd.C_alloc ?_ _) | (with_reducible refine Kd.C_drewN ?_ _) | (with_reducible refine Kd.C_drew ?_))); (case side2 => exact HC0.out); rintro e w43 ⟨rfl, hb⟩; have n0_ := Aside0.mk (below_step (by repeat (first | (with_reducible first | exact HB.out | apply below_alloc | apply pw_below_drewN | apply below_drew1) | exact HB.out)) hb); clear HB; have HB := n0_; clear n0_; (try clear hb); (try clear hb2); (try clear hk); (try clear hi); have p263 : 0 ≤ ((ji33) : Int) := of_decide_eq_true (by first | (with_reducible assumption) | assumption); have q263 : (ji33) < (l0.length : Int) := of_decide_eq_true (by first | (with_reducible assumption) | assumption); obtain ⟨ad263, e263, hx263_0, hx263_1, hx263_2, hx263_3, hx263_4⟩ := at_T33 HR0.out (ji33) p263 q263; cases e263; replace hx263_0 := (HB.out.cell (World.block_lt_of_cell? w _ hx263_0)).trans hx263_0; replace hx263_1 := (HB.out.cell (World.block_lt_of_cell? w _ hx263_1)).trans hx263_1; replace hx263_2 := (HB.out.cell (World.block_lt_of_cell? w _ hx263_2)).trans hx263_2; replace hx263_3 := (HB.out.cell (World.block_lt_of_cell? w _ hx263_3)).trans hx263_3; replace hx263_4 := (HB.out.cell (World.block_lt_of_cell? w _ hx263_4)).trans hx263_4; replace p263 := eq_true p263; replace q263 := eq_true q263) | (go_at_call 26; (with_reducible refine (fencepostref18_Drains.calls ((rd_T33 l0 (ji33)).f0) ((rd_T33 l0 (ji33)).f1) ((rd_T33 l0 (ji33)).f2) ((rd_T33 l0 (ji33)).f3) ((rd_T33 l0 (ji33)).f4) false _ A36.out).mono ?_); rintro e w44 ⟨rfl, hb⟩; have n0_ := Aside0.mk (below_step (by repeat (first | (with_reducible first | exact HB.out | apply below_alloc | apply pw_below_drewN | apply below_drew1) | exact HB.out)) hb); clear HB; have HB := n0_; clear n0_; (try clear hb); (try clear hb2); (try clear hk); (try clear hi)) | (go_at_call 24; (with_reducible refine (cfg_Free.calls _ _ l0 (Int.tmod (wrap64 (a1)) (l0.length : Int)) (Int.tmod (wrap64 (a2)) (wrap64 ((l0.length : Int) + 1))) t265 _ ?side1 ?side2 A41.out).mono ?_); (case side1 => repeat (first | exact (Kd.C_below HR0.out HB.out) | (with_reducible refine Kd.C_alloc ?_ _) | (with_reducible refine Kd.C_drewN ?_ _) | (with_reducible refine Kd.C_drew ?_))); (case side2 => exact HC0.out); rintro e w45 ⟨rfl, hb⟩; have n0_ := Aside0.mk (below_step (by repeat (first | (with_reducible first | exact HB.out | apply below_alloc | apply pw_below_drewN | apply below_drew1) | exact HB.out)) hb); clear HB; have HB := n0_; clear n0_; (try clear hb); (try clear hb2); (try clear hk); (try clear hi)))
                              (try subst hji33)
                              go_meet
                              case rel => exact ⟨_, (!t265), (by first | rfl | (simp; done) | (simp [*]; done)), H', ⟨by have := HJ5.out; have := HJ14.out; first | omega | exact Nat.le_refl _⟩, ⟨by repeat (first | (with_reducible first | exact HB.out | apply below_alloc | apply pw_below_drewN | apply below_drew1) | exact HB.out)⟩⟩
                          · rw [if_neg c35] at H
                            exact absurd H (by simp)
                        · rw [if_neg c34] at H
                          exact absurd H (by simp)
                      · replace c32 := Bool.eq_false_iff.mpr c32
                        subst c32
                        have H1 : (fencepostlaw18_CfgThrough.j2 kj14 l0 t256 (Int.tmod (wrap64 (a1)) (l0.length : Int)) (Int.tmod (wrap64 (a2)) (wrap64 ((l0.length : Int) + 1))) false) = some r := by rw [if_neg (show ¬ (false = true) by decide)] at H; exact H
                        clear H
                        have H := H1
                        clear H1
                        have H' := Aside0.mk H
                        clear H
                        go_wp2_with (first | ((with_reducible refine gate_callee (f := 24) rfl ?_); refine goesL_ (some 63) rfl rfl Try.func24 (by kernel_rfl) rfl #[.slice A0 l0.length c0, .int .i64 (Int.tmod (wrap64 (a1)) (l0.length : Int)), .int .i64 (Int.tmod (wrap64 (a3)) (l0.length : Int))] rfl (by (try simp only [List.map_toArray, List.map_cons, List.map_nil]); first | done | rfl | (simp only [List.length_drop, List.length_take]; rfl)) ?_; (with_reducible refine (cfg_Free.calls _ _ l0 (Int.tmod (wrap64 (a1)) (l0.length : Int)) (Int.tmod (wrap64 (a3)) (l0.length : Int)) true _ ?side1 ?side2 A29.out).mono ?_); (case side1 => repeat (first | exact (Kd.C_below HR0.out HB.out) | (with_reducible refine Kd.C_alloc ?_ _) | (with_reducible refine Kd.C_drewN ?_ _) | (with_reducible refine Kd.C_drew ?_))); (case side2 => exact HC0.out); rintro e w46 ⟨rfl, hb⟩; refine ⟨_, rfl, ?_⟩; have n0_ := Aside0.mk (below_step (by repeat (first | (with_reducible first | exact HB.out | apply below_alloc | apply pw_below_drewN | apply below_drew1) | exact HB.out)) hb); clear HB; have HB := n0_; clear n0_; (try clear hb); (try clear hb2); (try clear hk); (try clear hi)) | (go_at_call 24; (with_reducible refine (cfg_Free.calls _ _ l0 (Int.tmod (wrap64 (a3)) (l0.length : Int)) (Int.tmod (wrap64 (a2)) (wrap64 ((l0.length : Int) + 1))) false _ ?side1 ?side2 A31.out).mono ?_); (case side1 => repeat (first | exact (Kd.C_below HR0.out HB.out) | (with_reducible refine Kd.C_alloc ?_ _) | (with_reducible refine Kd.C_drewN ?_ _) | (with_reducible refine Kd.C_drew ?_))); (case side2 => exact HC0.out); rintro e w47 ⟨rfl, hb⟩; have n0_ := Aside0.mk (below_step (by repeat (first | (with_reducible first | exact HB.out | apply below_alloc | apply pw_below_drewN | apply below_drew1) | exact HB.out)) hb); clear HB; have HB := n0_; clear n0_; (try clear hb); (try clear hb2); (try clear hk); (try clear hi)))
                        go_meet
                        case rel => exact ⟨_, (false), (by first | rfl | (simp; done) | (simp [*]; done)), H', ⟨by have := HJ5.out; have := HJ14.out; first | omega | exact Nat.le_refl _⟩, ⟨by repeat (first | (with_reducible first | exact HB.out | apply below_alloc | apply pw_below_drewN | apply below_drew1) | exact HB.out)⟩⟩
                    · replace c30 := Bool.eq_false_iff.mpr c30
                      subst c30
                      have H1 : (fencepostlaw18_CfgThrough.j2 kj14 l0 t256 (Int.tmod (wrap64 (a1)) (l0.length : Int)) (Int.tmod (wrap64 (a2)) (wrap64 ((l0.length : Int) + 1))) false) = some r := by rw [if_neg (show ¬ (false = true) by decide)] at H; exact H
                      clear H
                      have H := H1
                      clear H1
                      have H' := Aside0.mk H
                      clear H
                      go_wp2_with (first | ((with_reducible refine gate_callee (f := 24) rfl ?_); refine goesL_ (some 63) rfl rfl Try.func24 (by kernel_rfl) rfl #[.slice A0 l0.length c0, .int .i64 (Int.tmod (wrap64 (a1)) (l0.length : Int)), .int .i64 (Int.tmod (wrap64 (a3)) (l0.length : Int))] rfl (by (try simp only [List.map_toArray, List.map_cons, List.map_nil]); first | done | rfl | (simp only [List.length_drop, List.length_take]; rfl)) ?_; (with_reducible refine (cfg_Free.calls _ _ l0 (Int.tmod (wrap64 (a1)) (l0.length : Int)) (Int.tmod (wrap64 (a3)) (l0.length : Int)) false _ ?side1 ?side2 A29.out).mono ?_); (case side1 => repeat (first | exact (Kd.C_below HR0.out HB.out) | (with_reducible refine Kd.C_alloc ?_ _) | (with_reducible refine Kd.C_drewN ?_ _) | (with_reducible refine Kd.C_drew ?_))); (case side2 => exact HC0.out); rintro e w48 ⟨rfl, hb⟩; refine ⟨_, rfl, ?_⟩; have n0_ := Aside0.mk (below_step (by repeat (first | (with_reducible first | exact HB.out | apply below_alloc | apply pw_below_drewN | apply below_drew1) | exact HB.out)) hb); clear HB; have HB := n0_; clear n0_; (try clear hb); (try clear hb2); (try clear hk); (try clear hi)))
                      go_meet
                      case rel => exact ⟨_, (false), (by first | rfl | (simp; done) | (simp [*]; done)), H', ⟨by have := HJ5.out; have := HJ14.out; first | omega | exact Nat.le_refl _⟩, ⟨by repeat (first | (with_reducible first | exact HB.out | apply below_alloc | apply pw_below_drewN | apply below_drew1) | exact HB.out)⟩⟩
                  case rest => as_aux_lemma =>
                    clear HC28
                    try clear c1
                    try clear c2
                    try clear p2
                    try clear q2
                    try clear hx2
                    try clear c3
                    try clear c5
                    try clear p6
                    try clear c9
                    try clear c12
                    try clear c13
                    try clear c13b0
                    try clear c13b1
                    try clear c13b2
                    try clear c14
                    try clear c14b0
                    try clear c14b1
                    try clear c15
                    try clear c16
                    try clear c17
                    try clear c19
                    try clear c22
                    try clear c24
                    try clear p26
                    try clear q26
                    try clear hx26
                    try clear c27
                    try clear c30
                    try clear c32
                    try clear c34
                    try clear c34b0
                    try clear c35
                    try clear c35b0
                    try clear c37
                    try clear hx263_0
                    try clear hx263_1
                    try clear hx263_2
                    try clear hx263_3
                    try clear hx263_4
                    try clear p2
                    try clear p263
                    try clear p6
                    try clear q263
                    obtain ⟨kq, x84_27, rfl, HA, HJ27, HB⟩ := hcut
                    cases kq with
                    | zero => exact absurd HA.out (by simp [fencepostlaw18_CfgThrough.j2])
                    | succ kj27 =>
                      have H := HA.out
                      clear HA
                      simp only [fencepostlaw18_CfgThrough.j2] at H
                      by_cases c49 : x84_27 = true
                      · subst c49
                        have H1 : (some false) = some r := by rw [if_pos rfl] at H; exact H
                        clear H
                        have H := H1
                        clear H1
                        exact absurd ((Option.some.inj H).trans HT.out) (by simp)
                      · replace c49 := Bool.eq_false_iff.mpr c49
                        subst c49
                        have H1 : ((cfg_Next.f l0 (Int.tmod (wrap64 (a1)) (l0.length : Int))).bind fun t266 => (fencepostlaw18_CfgThrough.l0 kj27 l0 t256 (Int.tmod (wrap64 (a1)) (l0.length : Int)) (Int.tmod (wrap64 (a2)) (wrap64 ((l0.length : Int) + 1))) t266 false false 0)) = some r := by rw [if_neg (show ¬ (false = true) by decide)] at H; exact H
                        clear H
                        have H := H1
                        clear H1
                        replace H := Option.bind_eq_some_iff.mp H
                        obtain ⟨t266, A500, H⟩ := H
                        replace H : (fencepostlaw18_CfgThrough.l0 kj27 l0 t256 (Int.tmod (wrap64 (a1)) (l0.length : Int)) (Int.tmod (wrap64 (a2)) (wrap64 ((l0.length : Int) + 1))) t266 false false 0) = some r := H
                        have A50 := Aside0.mk A500
                        clear A500
                        have H' := Aside0.mk H
                        clear H
                        go_wp2_with (first | ((with_reducible refine gate_callee (f := 20) rfl ?_); refine goesL_ (some 87) rfl rfl Try.func20 (by kernel_rfl) rfl #[.slice A0 l0.length c0, .int .i64 (Int.tmod (wrap64 (a1)) (l0.length : Int))] rfl (by (try simp only [List.map_toArray, List.map_cons, List.map_nil]); first | done | rfl | (simp only [List.length_drop, List.length_take]; rfl)) ?_; (with_reducible refine (cfg_Next.calls _ _ l0 (Int.tmod (wrap64 (a1)) (l0.length : Int)) t266 _ ?side1 ?side2 A50.out).mono ?_); (case side1 => repeat (first | exact (Kd.C_below HR0.out HB.out) | (with_reducible refine Kd.C_alloc ?_ _) | (with_reducible refine Kd.C_drewN ?_ _) | (with_reducible refine Kd.C_drew ?_))); (case side2 => exact HC0.out); rintro e w51 ⟨v267, rfl, ho0, hb⟩; refine ⟨_, rfl, ?_⟩; have n0_ := Aside0.mk (Kd.R_lower ho0 (below_size (by repeat (first | (with_reducible first | exact HB.out | apply below_alloc | apply pw_below_drewN | apply below_drew1) | exact HB.out)))); have n1_ := Aside0.mk (below_step (by repeat (first | (with_reducible first | exact HB.out | apply below_alloc | apply pw_below_drewN | apply below_drew1) | exact HB.out)) hb); clear HB; have HO268 := n0_; have HB := n1_; clear n0_ n1_; (try clear hb); (try clear hb2); (try clear hk); (try clear hi); (try clear ho0)))
                        go_loopg [14, 15, 16] kj27 (fun kq v14 v15 v16 w' => ∃ (x14_4 : Bool) (x15_4 : Bool) (x16_4 : Int), v14 = .bool x14_4 ∧ v15 = .bool x15_4 ∧ v16 = .int .i64 x16_4 ∧ Aside0 (fencepostlaw18_CfgThrough.l0 kq l0 t256 (Int.tmod (wrap64 (a1)) (l0.length : Int)) (Int.tmod (wrap64 (a2)) (wrap64 ((l0.length : Int) + 1))) t266 x14_4 x15_4 x16_4 = some r) ∧ Aside0 (kq ≤ kj27) ∧ Aside0 (Kd.R (Kd.int .i64) 3 w' w.heap.size (fun _ => True) v267 t266) ∧ Aside0 (Below w.heap.size w w'))
                        case atStart => exact ⟨(false), (false), (0), (by first | rfl | (simp; done) | (simp [*]; done)), (by first | rfl | (simp; done) | (simp [*]; done)), (by first | rfl | (simp; done) | (simp [*]; done)), H', ⟨Nat.le_refl _⟩, ⟨by (with_reducible repeat (first | apply Kd.R_alloc | apply Kd.R_drewN | apply Kd.R_drew)); exact HO268.out⟩, ⟨by repeat (first | (with_reducible first | exact HB.out | apply below_alloc | apply pw_below_drewN | apply below_drew1) | exact HB.out)⟩⟩
                        case round => as_aux_lemma =>
                          clear H'
                          try clear c1
                          try clear c2
                          try clear p2
                          try clear q2
                          try clear hx2
                          try clear c3
                          try clear c4
                          try clear c5
                          try clear p6
                          try clear c9
                          try clear c12
                          try clear c13
                          try clear c13b0
                          try clear c13b1
                          try clear c13b2
                          try clear c14
                          try clear c14b0
                          try clear c14b1
                          try clear c15
                          try clear c16
                          try clear c17
                          try clear c19
                          try clear c20
                          try clear c22
                          try clear c24
                          try clear p26
                          try clear q26
                          try clear hx26
                          try clear c27
                          try clear c30
                          try clear c32
                          try clear c34
                          try clear c34b0
                          try clear c35
                          try clear c35b0
                          try clear c37
                          try clear c49
                          try clear hx263_0
                          try clear hx263_1
                          try clear hx263_2
                          try clear hx263_3
                          try clear hx263_4
                          try clear p2
                          try clear p26
                          try clear p263
                          try clear p6
                          try clear q2
                          try clear q26
                          try clear q263
                          obtain ⟨x14_4, x15_4, x16_4, rfl, rfl, rfl, HA, HK4, HO_13, HB⟩ := hrel
                          cases gk with
                          | zero => exact absurd HA.out (by simp [fencepostlaw18_CfgThrough.l0])
                          | succ k4 =>
                            have H := HA.out
                            clear HA
                            simp only [fencepostlaw18_CfgThrough.l0] at H
                            by_cases c52 : x16_4 < (t266.length : Int)
                            · rw [if_pos c52] at H
                              have c52b0 : decide (x16_4 < (t266.length : Int)) = true := decide_eq_true c52
                              clear c52
                              by_cases c53 : x14_4 = true
                              · subst c53
                                have H1 : (if x15_4 = true then (fencepostlaw18_CfgThrough.l0 k4 l0 t256 (Int.tmod (wrap64 (a1)) (l0.length : Int)) (Int.tmod (wrap64 (a2)) (wrap64 ((l0.length : Int) + 1))) t266 true true (wrap64 (x16_4 + 1))) else (if 0 ≤ x16_4 then (if (rd t266 x16_4) = (Int.tmod (wrap64 (a2)) (wrap64 ((l0.length : Int) + 1))) then (fencepostlaw18_CfgThrough.l0 k4 l0 t256 (Int.tmod (wrap64 (a1)) (l0.length : Int)) (Int.tmod (wrap64 (a2)) (wrap64 ((l0.length : Int) + 1))) t266 true true (wrap64 (x16_4 + 1))) else (if (rd t266 x16_4) ≥ 0 then (if (rd t266 x16_4) < (l0.length : Int) then (if 0 ≤ (rd t266 x16_4) then ((fencepostref18_Drains.f ((rd_T33 l0 (rd t266 x16_4)).f0) ((rd_T33 l0 (rd t266 x16_4)).f1) ((rd_T33 l0 (rd t266 x16_4)).f2) ((rd_T33 l0 (rd t266 x16_4)).f3) ((rd_T33 l0 (rd t266 x16_4)).f4)).bind fun t274 => (if t274 = true then (fencepostlaw18_CfgThrough.l0 k4 l0 t256 (Int.tmod (wrap64 (a1)) (l0.length : Int)) (Int.tmod (wrap64 (a2)) (wrap64 ((l0.length : Int) + 1))) t266 true false (wrap64 (x16_4 + 1))) else ((cfg_Free.f l0 (rd t266 x16_4) (Int.tmod (wrap64 (a2)) (wrap64 ((l0.length : Int) + 1)))).bind fun t276 => (fencepostlaw18_CfgThrough.l0 k4 l0 t256 (Int.tmod (wrap64 (a1)) (l0.length : Int)) (Int.tmod (wrap64 (a2)) (wrap64 ((l0.length : Int) + 1))) t266 true t276 (wrap64 (x16_4 + 1)))))) else (none)) else (fencepostlaw18_CfgThrough.l0 k4 l0 t256 (Int.tmod (wrap64 (a1)) (l0.length : Int)) (Int.tmod (wrap64 (a2)) (wrap64 ((l0.length : Int) + 1))) t266 true false (wrap64 (x16_4 + 1)))) else (fencepostlaw18_CfgThrough.l0 k4 l0 t256 (Int.tmod (wrap64 (a1)) (l0.length : Int)) (Int.tmod (wrap64 (a2)) (wrap64 ((l0.length : Int) + 1))) t266 true false (wrap64 (x16_4 + 1))))) else (none))) = some r := by rw [if_pos rfl] at H; exact H
                                clear H
                                have H := H1
                                clear H1
                                by_cases c54 : x15_4 = true
                                · subst c54
                                  have H1 : (fencepostlaw18_CfgThrough.l0 k4 l0 t256 (Int.tmod (wrap64 (a1)) (l0.length : Int)) (Int.tmod (wrap64 (a2)) (wrap64 ((l0.length : Int) + 1))) t266 true true (wrap64 (x16_4 + 1))) = some r := by rw [if_pos rfl] at H; exact H
                                  clear H
                                  have H := H1
                                  clear H1
                                  have H' := Aside0.mk H
                                  clear H
                                  obtain ⟨Ao55, co55, eo55⟩ := Kd.R_slice HO_13.out
                                  subst eo55
                                  go_wp2
                                  go_roundg k4
                                  case measure => have := HJ5.out; have := HJ14.out; have := HJ27.out; have := HK4.out; omega
                                  case rel => exact ⟨(true), (true), (wrap64 (x16_4 + 1)), (by first | rfl | (simp; done) | (simp [*]; done)), (by first | rfl | (simp; done) | (simp [*]; done)), (by first | rfl | (simp; done) | (simp [*]; done)), H', ⟨by have := HJ5.out; have := HJ14.out; have := HJ27.out; have := HK4.out; omega⟩, ⟨by (with_reducible repeat (first | apply Kd.R_alloc | apply Kd.R_drewN | apply Kd.R_drew)); exact HO_13.out⟩, ⟨by repeat (first | (with_reducible first | exact HB.out | apply below_alloc | apply pw_below_drewN | apply below_drew1) | exact HB.out)⟩⟩
                                · replace c54 := Bool.eq_false_iff.mpr c54
                                  subst c54
                                  have H1 : (if 0 ≤ x16_4 then (if (rd t266 x16_4) = (Int.tmod (wrap64 (a2)) (wrap64 ((l0.length : Int) + 1))) then (fencepostlaw18_CfgThrough.l0 k4 l0 t256 (Int.tmod (wrap64 (a1)) (l0.length : Int)) (Int.tmod (wrap64 (a2)) (wrap64 ((l0.length : Int) + 1))) t266 true true (wrap64 (x16_4 + 1))) else (if (rd t266 x16_4) ≥ 0 then (if (rd t266 x16_4) < (l0.length : Int) then (if 0 ≤ (rd t266 x16_4) then ((fencepostref18_Drains.f ((rd_T33 l0 (rd t266 x16_4)).f0) ((rd_T33 l0 (rd t266 x16_4)).f1) ((rd_T33 l0 (rd t266 x16_4)).f2) ((rd_T33 l0 (rd t266 x16_4)).f3) ((rd_T33 l0 (rd t266 x16_4)).f4)).bind fun t274 => (if t274 = true then (fencepostlaw18_CfgThrough.l0 k4 l0 t256 (Int.tmod (wrap64 (a1)) (l0.length : Int)) (Int.tmod (wrap64 (a2)) (wrap64 ((l0.length : Int) + 1))) t266 true false (wrap64 (x16_4 + 1))) else ((cfg_Free.f l0 (rd t266 x16_4) (Int.tmod (wrap64 (a2)) (wrap64 ((l0.length : Int) + 1)))).bind fun t276 => (fencepostlaw18_CfgThrough.l0 k4 l0 t256 (Int.tmod (wrap64 (a1)) (l0.length : Int)) (Int.tmod (wrap64 (a2)) (wrap64 ((l0.length : Int) + 1))) t266 true t276 (wrap64 (x16_4 + 1)))))) else (none)) else (fencepostlaw18_CfgThrough.l0 k4 l0 t256 (Int.tmod (wrap64 (a1)) (l0.length : Int)) (Int.tmod (wrap64 (a2)) (wrap64 ((l0.length : Int) + 1))) t266 true false (wrap64 (x16_4 + 1)))) else (fencepostlaw18_CfgThrough.l0 k4 l0 t256 (Int.tmod (wrap64 (a1)) (l0.length : Int)) (Int.tmod (wrap64 (a2)) (wrap64 ((l0.length : Int) + 1))) t266 true false (wrap64 (x16_4 + 1))))) else (none)) = some r := by rw [if_neg (show ¬ (false = true) by decide)] at H; exact H
                                  clear H
                                  have H := H1
                                  clear H1
                                  by_cases c56 : 0 ≤ x16_4
                                  · rw [if_pos c56] at H
                                    have c56b0 : decide (0 ≤ x16_4) = true := decide_eq_true c56
                                    clear c56
                                    by_cases c57 : (rd t266 x16_4) = (Int.tmod (wrap64 (a2)) (wrap64 ((l0.length : Int) + 1)))
                                    · rw [if_pos c57] at H
                                      have c57b0 : ((rd t266 x16_4) == (Int.tmod (wrap64 (a2)) (wrap64 ((l0.length : Int) + 1)))) = true := beq_iff_eq.mpr c57
                                      have c57b1 : ((rd t266 x16_4) != (Int.tmod (wrap64 (a2)) (wrap64 ((l0.length : Int) + 1)))) = false := bne_eq_false_iff_eq.mpr c57
                                      clear c57
                                      have H' := Aside0.mk H
                                      clear H
                                      obtain ⟨Ao58, co58, eo58⟩ := Kd.R_slice HO_13.out
                                      subst eo58
                                      have p269 : 0 ≤ (x16_4 : Int) := of_decide_eq_true (by first | (with_reducible assumption) | assumption)
                                      have q269 : x16_4 < (t266.length : Int) := of_decide_eq_true (by first | (with_reducible assumption) | assumption)
                                      obtain ⟨ad269, e269, hx269_0⟩ := Kd.at_int (Kd.R_reads' HO_13.out).2.2 x16_4 p269 q269
                                      cases e269
                                      replace p269 := eq_true p269
                                      replace q269 := eq_true q269
                                      go_wp2
                                      go_roundg k4
                                      case measure => have := HJ5.out; have := HJ14.out; have := HJ27.out; have := HK4.out; omega
                                      case rel => exact ⟨(true), (true), (wrap64 (x16_4 + 1)), (by first | rfl | (simp; done) | (simp [*]; done)), (by first | rfl | (simp; done) | (simp [*]; done)), (by first | rfl | (simp; done) | (simp [*]; done)), H', ⟨by have := HJ5.out; have := HJ14.out; have := HJ27.out; have := HK4.out; omega⟩, ⟨by (with_reducible repeat (first | apply Kd.R_alloc | apply Kd.R_drewN | apply Kd.R_drew)); exact HO_13.out⟩, ⟨by repeat (first | (with_reducible first | exact HB.out | apply below_alloc | apply pw_below_drewN | apply below_drew1) | exact HB.out)⟩⟩
                                    · rw [if_neg c57] at H
                                      have c57b0 : ((rd t266 x16_4) == (Int.tmod (wrap64 (a2)) (wrap64 ((l0.length : Int) + 1)))) = false := beq_eq_false_iff_ne.mpr c57
                                      have c57b1 : ((rd t266 x16_4) != (Int.tmod (wrap64 (a2)) (wrap64 ((l0.length : Int) + 1)))) = true := bne_iff_ne.mpr c57
                                      by_cases c59 : (rd t266 x16_4) ≥ 0
                                      · rw [if_pos c59] at H
                                        have c59b0 : decide (0 ≤ (rd t266 x16_4)) = true := decide_eq_true c59
                                        clear c59
                                        by_cases c60 : (rd t266 x16_4) < (l0.length : Int)
                                        · rw [if_pos c60] at H
                                          have c60b0 : decide ((rd t266 x16_4) < (l0.length : Int)) = true := decide_eq_true c60
                                          clear c60
                                          by_cases c61 : 0 ≤ (rd t266 x16_4)
                                          · rw [if_pos c61] at H
                                            have c61b0 : decide (0 ≤ (rd t266 x16_4)) = true := decide_eq_true c61
                                            clear c61
                                            replace H := Option.bind_eq_some_iff.mp H
                                            obtain ⟨t274, A620, H⟩ := H
                                            replace H : (if t274 = true then (fencepostlaw18_CfgThrough.l0 k4 l0 t256 (Int.tmod (wrap64 (a1)) (l0.length : Int)) (Int.tmod (wrap64 (a2)) (wrap64 ((l0.length : Int) + 1))) t266 true false (wrap64 (x16_4 + 1))) else ((cfg_Free.f l0 (rd t266 x16_4) (Int.tmod (wrap64 (a2)) (wrap64 ((l0.length : Int) + 1)))).bind fun t276 => (fencepostlaw18_CfgThrough.l0 k4 l0 t256 (Int.tmod (wrap64 (a1)) (l0.length : Int)) (Int.tmod (wrap64 (a2)) (wrap64 ((l0.length : Int) + 1))) t266 true t276 (wrap64 (x16_4 + 1))))) = some r := H
                                            have A62 := Aside0.mk A620
                                            clear A620
                                            by_cases c63 : t274 = true
                                            · subst c63
                                              have H1 : (fencepostlaw18_CfgThrough.l0 k4 l0 t256 (Int.tmod (wrap64 (a1)) (l0.length : Int)) (Int.tmod (wrap64 (a2)) (wrap64 ((l0.length : Int) + 1))) t266 true false (wrap64 (x16_4 + 1))) = some r := by rw [if_pos rfl] at H; exact H
                                              clear H
                                              have H := H1
                                              clear H1
                                              have H' := Aside0.mk H
                                              clear H
                                              obtain ⟨Ao64, co64, eo64⟩ := Kd.R_slice HO_13.out
                                              subst eo64
                                              have p269 : 0 ≤ (x16_4 : Int) := of_decide_eq_true (by first | (with_reducible assumption) | assumption)
                                              have q269 : x16_4 < (t266.length : Int) := of_decide_eq_true (by first | (with_reducible assumption) | assumption)
                                              obtain ⟨ad269, e269, hx269_0⟩ := Kd.at_int (Kd.R_reads' HO_13.out).2.2 x16_4 p269 q269
                                              cases e269
                                              replace p269 := eq_true p269
                                              replace q269 := eq_true q269
                                              have p270 : 0 ≤ (x16_4 : Int) := of_decide_eq_true (by first | (with_reducible assumption) | assumption)
                                              have q270 : x16_4 < (t266.length : Int) := of_decide_eq_true (by first | (with_reducible assumption) | assumption)
                                              obtain ⟨ad270, e270, hx270_0⟩ := Kd.at_int (Kd.R_reads' HO_13.out).2.2 x16_4 p270 q270
                                              obtain rfl : ad269 = ad270 := (by injection e270)
                                              replace p270 := eq_true p270
                                              replace q270 := eq_true q270
                                              have p271 : 0 ≤ (x16_4 : Int) := of_decide_eq_true (by first | (with_reducible assumption) | assumption)
                                              have q271 : x16_4 < (t266.length : Int) := of_decide_eq_true (by first | (with_reducible assumption) | assumption)
                                              obtain ⟨ad271, e271, hx271_0⟩ := Kd.at_int (Kd.R_reads' HO_13.out).2.2 x16_4 p271 q271
                                              obtain rfl : ad269 = ad271 := (by injection e271)
                                              replace p271 := eq_true p271
                                              replace q271 := eq_true q271
                                              have p272 : 0 ≤ (x16_4 : Int) := of_decide_eq_true (by first | (with_reducible assumption) | assumption)
                                              have q272 : x16_4 < (t266.length : Int) := of_decide_eq_true (by first | (with_reducible assumption) | assumption)
                                              obtain ⟨ad272, e272, hx272_0⟩ := Kd.at_int (Kd.R_reads' HO_13.out).2.2 x16_4 p272 q272
                                              obtain rfl : ad269 = ad272 := (by injection e272)
                                              replace p272 := eq_true p272
                                              replace q272 := eq_true q272
                                              have p273 : 0 ≤ ((rd t266 x16_4) : Int) := of_decide_eq_true (by first | (with_reducible assumption) | assumption)
                                              have q273 : (rd t266 x16_4) < (l0.length : Int) := of_decide_eq_true (by first | (with_reducible assumption) | assumption)
                                              obtain ⟨ad273, e273, hx273_0, hx273_1, hx273_2, hx273_3, hx273_4⟩ := at_T33 HR0.out (rd t266 x16_4) p273 q273
                                              cases e273
                                              replace hx273_0 := (HB.out.cell (World.block_lt_of_cell? w _ hx273_0)).trans hx273_0
                                              replace hx273_1 := (HB.out.cell (World.block_lt_of_cell? w _ hx273_1)).trans hx273_1
                                              replace hx273_2 := (HB.out.cell (World.block_lt_of_cell? w _ hx273_2)).trans hx273_2
                                              replace hx273_3 := (HB.out.cell (World.block_lt_of_cell? w _ hx273_3)).trans hx273_3
                                              replace hx273_4 := (HB.out.cell (World.block_lt_of_cell? w _ hx273_4)).trans hx273_4
                                              replace p273 := eq_true p273
                                              replace q273 := eq_true q273
                                              go_wp2_with (first | (go_at_call 26; (with_reducible refine (fencepostref18_Drains.calls ((rd_T33 l0 (rd t266 x16_4)).f0) ((rd_T33 l0 (rd t266 x16_4)).f1) ((rd_T33 l0 (rd t266 x16_4)).f2) ((rd_T33 l0 (rd t266 x16_4)).f3) ((rd_T33 l0 (rd t266 x16_4)).f4) true _ A62.out).mono ?_); rintro e w65 ⟨rfl, hb⟩; have n0_ := Aside0.mk (Kd.R_below (by (with_reducible repeat (first | apply Kd.R_alloc | apply Kd.R_drewN | apply Kd.R_drew)); exact HO_13.out) hb); have n1_ := Aside0.mk (below_step (by repeat (first | (with_reducible first | exact HB.out | apply below_alloc | apply pw_below_drewN | apply below_drew1) | exact HB.out)) hb); clear HO_13; clear HB; have HO_13 := n0_; have HB := n1_; clear n0_ n1_; (try clear hb); (try clear hb2); (try clear hk); (try clear hi)))
                                              go_roundg k4
                                              case measure => have := HJ5.out; have := HJ14.out; have := HJ27.out; have := HK4.out; omega
                                              case rel => exact ⟨(true), (false), (wrap64 (x16_4 + 1)), (by first | rfl | (simp; done) | (simp [*]; done)), (by first | rfl | (simp; done) | (simp [*]; done)), (by first | rfl | (simp; done) | (simp [*]; done)), H', ⟨by have := HJ5.out; have := HJ14.out; have := HJ27.out; have := HK4.out; omega⟩, ⟨by (with_reducible repeat (first | apply Kd.R_alloc | apply Kd.R_drewN | apply Kd.R_drew)); exact HO_13.out⟩, ⟨by repeat (first | (with_reducible first | exact HB.out | apply below_alloc | apply pw_below_drewN | apply below_drew1) | exact HB.out)⟩⟩
                                            · replace c63 := Bool.eq_false_iff.mpr c63
                                              subst c63
                                              have H1 : ((cfg_Free.f l0 (rd t266 x16_4) (Int.tmod (wrap64 (a2)) (wrap64 ((l0.length : Int) + 1)))).bind fun t276 => (fencepostlaw18_CfgThrough.l0 k4 l0 t256 (Int.tmod (wrap64 (a1)) (l0.length : Int)) (Int.tmod (wrap64 (a2)) (wrap64 ((l0.length : Int) + 1))) t266 true t276 (wrap64 (x16_4 + 1)))) = some r := by rw [if_neg (show ¬ (false = true) by decide)] at H; exact H
                                              clear H
                                              have H := H1
                                              clear H1
                                              replace H := Option.bind_eq_some_iff.mp H
                                              obtain ⟨t276, A660, H⟩ := H
                                              replace H : (fencepostlaw18_CfgThrough.l0 k4 l0 t256 (Int.tmod (wrap64 (a1)) (l0.length : Int)) (Int.tmod (wrap64 (a2)) (wrap64 ((l0.length : Int) + 1))) t266 true t276 (wrap64 (x16_4 + 1))) = some r := H
                                              have A66 := Aside0.mk A660
                                              clear A660
                                              have H' := Aside0.mk H
                                              clear H
                                              obtain ⟨Ao67, co67, eo67⟩ := Kd.R_slice HO_13.out
                                              subst eo67
                                              have p269 : 0 ≤ (x16_4 : Int) := of_decide_eq_true (by first | (with_reducible assumption) | assumption)
                                              have q269 : x16_4 < (t266.length : Int) := of_decide_eq_true (by first | (with_reducible assumption) | assumption)
                                              obtain ⟨ad269, e269, hx269_0⟩ := Kd.at_int (Kd.R_reads' HO_13.out).2.2 x16_4 p269 q269
                                              cases e269
                                              replace p269 := eq_true p269
                                              replace q269 := eq_true q269
                                              have p270 : 0 ≤ (x16_4 : Int) := of_decide_eq_true (by first | (with_reducible assumption) | assumption)
                                              have q270 : x16_4 < (t266.length : Int) := of_decide_eq_true (by first | (with_reducible assumption) | assumption)
                                              obtain ⟨ad270, e270, hx270_0⟩ := Kd.at_int (Kd.R_reads' HO_13.out).2.2 x16_4 p270 q270
                                              obtain rfl : ad269 = ad270 := (by injection e270)
                                              replace p270 := eq_true p270
                                              replace q270 := eq_true q270
                                              have p271 : 0 ≤ (x16_4 : Int) := of_decide_eq_true (by first | (with_reducible assumption) | assumption)
                                              have q271 : x16_4 < (t266.length : Int) := of_decide_eq_true (by first | (with_reducible assumption) | assumption)
                                              obtain ⟨ad271, e271, hx271_0⟩ := Kd.at_int (Kd.R_reads' HO_13.out).2.2 x16_4 p271 q271
                                              obtain rfl : ad269 = ad271 := (by injection e271)
                                              replace p271 := eq_true p271
                                              replace q271 := eq_true q271
                                              have p272 : 0 ≤ (x16_4 : Int) := of_decide_eq_true (by first | (with_reducible assumption) | assumption)
                                              have q272 : x16_4 < (t266.length : Int) := of_decide_eq_true (by first | (with_reducible assumption) | assumption)
                                              obtain ⟨ad272, e272, hx272_0⟩ := Kd.at_int (Kd.R_reads' HO_13.out).2.2 x16_4 p272 q272
                                              obtain rfl : ad269 = ad272 := (by injection e272)
                                              replace p272 := eq_true p272
                                              replace q272 := eq_true q272
                                              have p273 : 0 ≤ ((rd t266 x16_4) : Int) := of_decide_eq_true (by first | (with_reducible assumption) | assumption)
                                              have q273 : (rd t266 x16_4) < (l0.length : Int) := of_decide_eq_true (by first | (with_reducible assumption) | assumption)
                                              obtain ⟨ad273, e273, hx273_0, hx273_1, hx273_2, hx273_3, hx273_4⟩ := at_T33 HR0.out (rd t266 x16_4) p273 q273
                                              cases e273
                                              replace hx273_0 := (HB.out.cell (World.block_lt_of_cell? w _ hx273_0)).trans hx273_0
                                              replace hx273_1 := (HB.out.cell (World.block_lt_of_cell? w _ hx273_1)).trans hx273_1
                                              replace hx273_2 := (HB.out.cell (World.block_lt_of_cell? w _ hx273_2)).trans hx273_2
                                              replace hx273_3 := (HB.out.cell (World.block_lt_of_cell? w _ hx273_3)).trans hx273_3
                                              replace hx273_4 := (HB.out.cell (World.block_lt_of_cell? w _ hx273_4)).trans hx273_4
                                              replace p273 := eq_true p273
                                              replace q273 := eq_true q273
                                              go_wp2_with (first | (go_at_call 26; (with_reducible refine (fencepostref18_Drains.calls ((rd_T33 l0 (rd t266 x16_4)).f0) ((rd_T33 l0 (rd t266 x16_4)).f1) ((rd_T33 l0 (rd t266 x16_4)).f2) ((rd_T33 l0 (rd t266 x16_4)).f3) ((rd_T33 l0 (rd t266 x16_4)).f4) false _ A62.out).mono ?_); rintro e w68 ⟨rfl, hb⟩; have n0_ := Aside0.mk (Kd.R_below (by (with_reducible repeat (first | apply Kd.R_alloc | apply Kd.R_drewN | apply Kd.R_drew)); exact HO_13.out) hb); have n1_ := Aside0.mk (below_step (by repeat (first | (with_reducible first | exact HB.out | apply below_alloc | apply pw_below_drewN | apply below_drew1) | exact HB.out)) hb); clear HO_13; clear HB; have HO_13 := n0_; have HB := n1_; clear n0_ n1_; (try clear hb); (try clear hb2); (try clear hk); (try clear hi); have p275 : 0 ≤ (x16_4 : Int) := of_decide_eq_true (by first | (with_reducible assumption) | assumption); have q275 : x16_4 < (t266.length : Int) := of_decide_eq_true (by first | (with_reducible assumption) | assumption); obtain ⟨ad275, e275, hx275_0⟩ := Kd.at_int (Kd.R_reads' HO_13.out).2.2 x16_4 p275 q275; obtain rfl : ad269 = ad275 := (by injection e275); replace p275 := eq_true p275; replace q275 := eq_true q275) | (go_at_call 24; (with_reducible refine (cfg_Free.calls _ _ l0 (rd t266 x16_4) (Int.tmod (wrap64 (a2)) (wrap64 ((l0.length : Int) + 1))) t276 _ ?side1 ?side2 A66.out).mono ?_); (case side1 => repeat (first | exact (Kd.C_below HR0.out HB.out) | (with_reducible refine Kd.C_alloc ?_ _) | (with_reducible refine Kd.C_drewN ?_ _) | (with_reducible refine Kd.C_drew ?_))); (case side2 => exact HC0.out); rintro e w69 ⟨rfl, hb⟩; have n0_ := Aside0.mk (Kd.R_below (by (with_reducible repeat (first | apply Kd.R_alloc | apply Kd.R_drewN | apply Kd.R_drew)); exact HO_13.out) hb); have n1_ := Aside0.mk (below_step (by repeat (first | (with_reducible first | exact HB.out | apply below_alloc | apply pw_below_drewN | apply below_drew1) | exact HB.out)) hb); clear HO_13; clear HB; have HO_13 := n0_; have HB := n1_; clear n0_ n1_; (try clear hb); (try clear hb2); (try clear hk); (try clear hi)))
                                              go_roundg k4
                                              case measure => have := HJ5.out; have := HJ14.out; have := HJ27.out; have := HK4.out; omega
                                              case rel => exact ⟨(true), (t276), (wrap64 (x16_4 + 1)), (by first | rfl | (simp; done) | (simp [*]; done)), (by first | rfl | (simp; done) | (simp [*]; done)), (by first | rfl | (simp; done) | (simp [*]; done)), H', ⟨by have := HJ5.out; have := HJ14.out; have := HJ27.out; have := HK4.out; omega⟩, ⟨by (with_reducible repeat (first | apply Kd.R_alloc | apply Kd.R_drewN | apply Kd.R_drew)); exact HO_13.out⟩, ⟨by repeat (first | (with_reducible first | exact HB.out | apply below_alloc | apply pw_below_drewN | apply below_drew1) | exact HB.out)⟩⟩
                                          · rw [if_neg c61] at H
                                            exact absurd H (by simp)
                                        · rw [if_neg c60] at H
                                          have c60b0 : decide ((rd t266 x16_4) < (l0.length : Int)) = false := decide_eq_false c60
                                          clear c60
                                          have H' := Aside0.mk H
                                          clear H
                                          obtain ⟨Ao70, co70, eo70⟩ := Kd.R_slice HO_13.out
                                          subst eo70
                                          have p269 : 0 ≤ (x16_4 : Int) := of_decide_eq_true (by first | (with_reducible assumption) | assumption)
                                          have q269 : x16_4 < (t266.length : Int) := of_decide_eq_true (by first | (with_reducible assumption) | assumption)
                                          obtain ⟨ad269, e269, hx269_0⟩ := Kd.at_int (Kd.R_reads' HO_13.out).2.2 x16_4 p269 q269
                                          cases e269
                                          replace p269 := eq_true p269
                                          replace q269 := eq_true q269
                                          have p270 : 0 ≤ (x16_4 : Int) := of_decide_eq_true (by first | (with_reducible assumption) | assumption)
                                          have q270 : x16_4 < (t266.length : Int) := of_decide_eq_true (by first | (with_reducible assumption) | assumption)
                                          obtain ⟨ad270, e270, hx270_0⟩ := Kd.at_int (Kd.R_reads' HO_13.out).2.2 x16_4 p270 q270
                                          obtain rfl : ad269 = ad270 := (by injection e270)
                                          replace p270 := eq_true p270
                                          replace q270 := eq_true q270
                                          have p271 : 0 ≤ (x16_4 : Int) := of_decide_eq_true (by first | (with_reducible assumption) | assumption)
                                          have q271 : x16_4 < (t266.length : Int) := of_decide_eq_true (by first | (with_reducible assumption) | assumption)
                                          obtain ⟨ad271, e271, hx271_0⟩ := Kd.at_int (Kd.R_reads' HO_13.out).2.2 x16_4 p271 q271
                                          obtain rfl : ad269 = ad271 := (by injection e271)
                                          replace p271 := eq_true p271
                                          replace q271 := eq_true q271
                                          go_wp2
                                          go_roundg k4
                                          case measure => have := HJ5.out; have := HJ14.out; have := HJ27.out; have := HK4.out; omega
                                          case rel => exact ⟨(true), (false), (wrap64 (x16_4 + 1)), (by first | rfl | (simp; done) | (simp [*]; done)), (by first | rfl | (simp; done) | (simp [*]; done)), (by first | rfl | (simp; done) | (simp [*]; done)), H', ⟨by have := HJ5.out; have := HJ14.out; have := HJ27.out; have := HK4.out; omega⟩, ⟨by (with_reducible repeat (first | apply Kd.R_alloc | apply Kd.R_drewN | apply Kd.R_drew)); exact HO_13.out⟩, ⟨by repeat (first | (with_reducible first | exact HB.out | apply below_alloc | apply pw_below_drewN | apply below_drew1) | exact HB.out)⟩⟩
                                      · rw [if_neg c59] at H
                                        have c59b0 : decide (0 ≤ (rd t266 x16_4)) = false := decide_eq_false c59
                                        clear c59
                                        have H' := Aside0.mk H
                                        clear H
                                        obtain ⟨Ao71, co71, eo71⟩ := Kd.R_slice HO_13.out
                                        subst eo71
                                        have p269 : 0 ≤ (x16_4 : Int) := of_decide_eq_true (by first | (with_reducible assumption) | assumption)
                                        have q269 : x16_4 < (t266.length : Int) := of_decide_eq_true (by first | (with_reducible assumption) | assumption)
                                        obtain ⟨ad269, e269, hx269_0⟩ := Kd.at_int (Kd.R_reads' HO_13.out).2.2 x16_4 p269 q269
                                        cases e269
                                        replace p269 := eq_true p269
                                        replace q269 := eq_true q269
                                        have p270 : 0 ≤ (x16_4 : Int) := of_decide_eq_true (by first | (with_reducible assumption) | assumption)
                                        have q270 : x16_4 < (t266.length : Int) := of_decide_eq_true (by first | (with_reducible assumption) | assumption)
                                        obtain ⟨ad270, e270, hx270_0⟩ := Kd.at_int (Kd.R_reads' HO_13.out).2.2 x16_4 p270 q270
                                        obtain rfl : ad269 = ad270 := (by injection e270)
                                        replace p270 := eq_true p270
                                        replace q270 := eq_true q270
                                        go_wp2
                                        go_roundg k4
                                        case measure => have := HJ5.out; have := HJ14.out; have := HJ27.out; have := HK4.out; omega
                                        case rel => exact ⟨(true), (false), (wrap64 (x16_4 + 1)), (by first | rfl | (simp; done) | (simp [*]; done)), (by first | rfl | (simp; done) | (simp [*]; done)), (by first | rfl | (simp; done) | (simp [*]; done)), H', ⟨by have := HJ5.out; have := HJ14.out; have := HJ27.out; have := HK4.out; omega⟩, ⟨by (with_reducible repeat (first | apply Kd.R_alloc | apply Kd.R_drewN | apply Kd.R_drew)); exact HO_13.out⟩, ⟨by repeat (first | (with_reducible first | exact HB.out | apply below_alloc | apply pw_below_drewN | apply below_drew1) | exact HB.out)⟩⟩
                                  · rw [if_neg c56] at H
                                    exact absurd H (by simp)
                              · replace c53 := Bool.eq_false_iff.mpr c53
                                subst c53
                                have H1 : (if 0 ≤ x16_4 then (if (rd t266 x16_4) = (Int.tmod (wrap64 (a2)) (wrap64 ((l0.length : Int) + 1))) then (if x15_4 = true then (fencepostlaw18_CfgThrough.l0 k4 l0 t256 (Int.tmod (wrap64 (a1)) (l0.length : Int)) (Int.tmod (wrap64 (a2)) (wrap64 ((l0.length : Int) + 1))) t266 true true (wrap64 (x16_4 + 1))) else (fencepostlaw18_CfgThrough.l0 k4 l0 t256 (Int.tmod (wrap64 (a1)) (l0.length : Int)) (Int.tmod (wrap64 (a2)) (wrap64 ((l0.length : Int) + 1))) t266 true true (wrap64 (x16_4 + 1)))) else ((cfg_Reach.f l0 (rd t266 x16_4) (Int.tmod (wrap64 (a2)) (wrap64 ((l0.length : Int) + 1)))).bind fun t280 => (if x15_4 = true then (fencepostlaw18_CfgThrough.l0 k4 l0 t256 (Int.tmod (wrap64 (a1)) (l0.length : Int)) (Int.tmod (wrap64 (a2)) (wrap64 ((l0.length : Int) + 1))) t266 t280 true (wrap64 (x16_4 + 1))) else (if (rd t266 x16_4) ≥ 0 then (if (rd t266 x16_4) < (l0.length : Int) then (if 0 ≤ (rd t266 x16_4) then ((fencepostref18_Drains.f ((rd_T33 l0 (rd t266 x16_4)).f0) ((rd_T33 l0 (rd t266 x16_4)).f1) ((rd_T33 l0 (rd t266 x16_4)).f2) ((rd_T33 l0 (rd t266 x16_4)).f3) ((rd_T33 l0 (rd t266 x16_4)).f4)).bind fun t286 => (if t286 = true then (fencepostlaw18_CfgThrough.l0 k4 l0 t256 (Int.tmod (wrap64 (a1)) (l0.length : Int)) (Int.tmod (wrap64 (a2)) (wrap64 ((l0.length : Int) + 1))) t266 t280 false (wrap64 (x16_4 + 1))) else ((cfg_Free.f l0 (rd t266 x16_4) (Int.tmod (wrap64 (a2)) (wrap64 ((l0.length : Int) + 1)))).bind fun t288 => (fencepostlaw18_CfgThrough.l0 k4 l0 t256 (Int.tmod (wrap64 (a1)) (l0.length : Int)) (Int.tmod (wrap64 (a2)) (wrap64 ((l0.length : Int) + 1))) t266 t280 t288 (wrap64 (x16_4 + 1)))))) else (none)) else (fencepostlaw18_CfgThrough.l0 k4 l0 t256 (Int.tmod (wrap64 (a1)) (l0.length : Int)) (Int.tmod (wrap64 (a2)) (wrap64 ((l0.length : Int) + 1))) t266 t280 false (wrap64 (x16_4 + 1)))) else (fencepostlaw18_CfgThrough.l0 k4 l0 t256 (Int.tmod (wrap64 (a1)) (l0.length : Int)) (Int.tmod (wrap64 (a2)) (wrap64 ((l0.length : Int) + 1))) t266 t280 false (wrap64 (x16_4 + 1))))))) else (none)) = some r := by rw [if_neg (show ¬ (false = true) by decide)] at H; exact H
                                clear H
                                have H := H1
                                clear H1
                                by_cases c72 : 0 ≤ x16_4
                                · rw [if_pos c72] at H
                                  have c72b0 : decide (0 ≤ x16_4) = true := decide_eq_true c72
                                  clear c72
                                  by_cases c73 : (rd t266 x16_4) = (Int.tmod (wrap64 (a2)) (wrap64 ((l0.length : Int) + 1)))
                                  · rw [if_pos c73] at H
                                    have c73b0 : ((rd t266 x16_4) == (Int.tmod (wrap64 (a2)) (wrap64 ((l0.length : Int) + 1)))) = true := beq_iff_eq.mpr c73
                                    have c73b1 : ((rd t266 x16_4) != (Int.tmod (wrap64 (a2)) (wrap64 ((l0.length : Int) + 1)))) = false := bne_eq_false_iff_eq.mpr c73
                                    clear c73
                                    by_cases c74 : x15_4 = true
                                    · subst c74
                                      have H1 : (fencepostlaw18_CfgThrough.l0 k4 l0 t256 (Int.tmod (wrap64 (a1)) (l0.length : Int)) (Int.tmod (wrap64 (a2)) (wrap64 ((l0.length : Int) + 1))) t266 true true (wrap64 (x16_4 + 1))) = some r := by rw [if_pos rfl] at H; exact H
                                      clear H
                                      have H := H1
                                      clear H1
                                      have H' := Aside0.mk H
                                      clear H
                                      obtain ⟨Ao75, co75, eo75⟩ := Kd.R_slice HO_13.out
                                      subst eo75
                                      have p277 : 0 ≤ (x16_4 : Int) := of_decide_eq_true (by first | (with_reducible assumption) | assumption)
                                      have q277 : x16_4 < (t266.length : Int) := of_decide_eq_true (by first | (with_reducible assumption) | assumption)
                                      obtain ⟨ad277, e277, hx277_0⟩ := Kd.at_int (Kd.R_reads' HO_13.out).2.2 x16_4 p277 q277
                                      cases e277
                                      replace p277 := eq_true p277
                                      replace q277 := eq_true q277
                                      go_wp2
                                      go_roundg k4
                                      case measure => have := HJ5.out; have := HJ14.out; have := HJ27.out; have := HK4.out; omega
                                      case rel => exact ⟨(true), (true), (wrap64 (x16_4 + 1)), (by first | rfl | (simp; done) | (simp [*]; done)), (by first | rfl | (simp; done) | (simp [*]; done)), (by first | rfl | (simp; done) | (simp [*]; done)), H', ⟨by have := HJ5.out; have := HJ14.out; have := HJ27.out; have := HK4.out; omega⟩, ⟨by (with_reducible repeat (first | apply Kd.R_alloc | apply Kd.R_drewN | apply Kd.R_drew)); exact HO_13.out⟩, ⟨by repeat (first | (with_reducible first | exact HB.out | apply below_alloc | apply pw_below_drewN | apply below_drew1) | exact HB.out)⟩⟩
                                    · replace c74 := Bool.eq_false_iff.mpr c74
                                      subst c74
                                      have H1 : (fencepostlaw18_CfgThrough.l0 k4 l0 t256 (Int.tmod (wrap64 (a1)) (l0.length : Int)) (Int.tmod (wrap64 (a2)) (wrap64 ((l0.length : Int) + 1))) t266 true true (wrap64 (x16_4 + 1))) = some r := by rw [if_neg (show ¬ (false = true) by decide)] at H; exact H
                                      clear H
                                      have H := H1
                                      clear H1
                                      have H' := Aside0.mk H
                                      clear H
                                      obtain ⟨Ao76, co76, eo76⟩ := Kd.R_slice HO_13.out
                                      subst eo76
                                      have p277 : 0 ≤ (x16_4 : Int) := of_decide_eq_true (by first | (with_reducible assumption) | assumption)
                                      have q277 : x16_4 < (t266.length : Int) := of_decide_eq_true (by first | (with_reducible assumption) | assumption)
                                      obtain ⟨ad277, e277, hx277_0⟩ := Kd.at_int (Kd.R_reads' HO_13.out).2.2 x16_4 p277 q277
                                      cases e277
                                      replace p277 := eq_true p277
                                      replace q277 := eq_true q277
                                      have p278 : 0 ≤ (x16_4 : Int) := of_decide_eq_true (by first | (with_reducible assumption) | assumption)
                                      have q278 : x16_4 < (t266.length : Int) := of_decide_eq_true (by first | (with_reducible assumption) | assumption)
                                      obtain ⟨ad278, e278, hx278_0⟩ := Kd.at_int (Kd.R_reads' HO_13.out).2.2 x16_4 p278 q278
                                      obtain rfl : ad277 = ad278 := (by injection e278)
                                      replace p278 := eq_true p278
                                      replace q278 := eq_true q278
                                      go_wp2
                                      go_roundg k4
                                      case measure => have := HJ5.out; have := HJ14.out; have := HJ27.out; have := HK4.out; omega
                                      case rel => exact ⟨(true), (true), (wrap64 (x16_4 + 1)), (by first | rfl | (simp; done) | (simp [*]; done)), (by first | rfl | (simp; done) | (simp [*]; done)), (by first | rfl | (simp; done) | (simp [*]; done)), H', ⟨by have := HJ5.out; have := HJ14.out; have := HJ27.out; have := HK4.out; omega⟩, ⟨by (with_reducible repeat (first | apply Kd.R_alloc | apply Kd.R_drewN | apply Kd.R_drew)); exact HO_13.out⟩, ⟨by repeat (first | (with_reducible first | exact HB.out | apply below_alloc | apply pw_below_drewN | apply below_drew1) | exact HB.out)⟩⟩
                                  · rw [if_neg c73] at H
                                    have c73b0 : ((rd t266 x16_4) == (Int.tmod (wrap64 (a2)) (wrap64 ((l0.length : Int) + 1)))) = false := beq_eq_false_iff_ne.mpr c73
                                    have c73b1 : ((rd t266 x16_4) != (Int.tmod (wrap64 (a2)) (wrap64 ((l0.length : Int) + 1)))) = true := bne_iff_ne.mpr c73
                                    replace H := Option.bind_eq_some_iff.mp H
                                    obtain ⟨t280, A770, H⟩ := H
                                    replace H : (if x15_4 = true then (fencepostlaw18_CfgThrough.l0 k4 l0 t256 (Int.tmod (wrap64 (a1)) (l0.length : Int)) (Int.tmod (wrap64 (a2)) (wrap64 ((l0.length : Int) + 1))) t266 t280 true (wrap64 (x16_4 + 1))) else (if (rd t266 x16_4) ≥ 0 then (if (rd t266 x16_4) < (l0.length : Int) then (if 0 ≤ (rd t266 x16_4) then ((fencepostref18_Drains.f ((rd_T33 l0 (rd t266 x16_4)).f0) ((rd_T33 l0 (rd t266 x16_4)).f1) ((rd_T33 l0 (rd t266 x16_4)).f2) ((rd_T33 l0 (rd t266 x16_4)).f3) ((rd_T33 l0 (rd t266 x16_4)).f4)).bind fun t286 => (if t286 = true then (fencepostlaw18_CfgThrough.l0 k4 l0 t256 (Int.tmod (wrap64 (a1)) (l0.length : Int)) (Int.tmod (wrap64 (a2)) (wrap64 ((l0.length : Int) + 1))) t266 t280 false (wrap64 (x16_4 + 1))) else ((cfg_Free.f l0 (rd t266 x16_4) (Int.tmod (wrap64 (a2)) (wrap64 ((l0.length : Int) + 1)))).bind fun t288 => (fencepostlaw18_CfgThrough.l0 k4 l0 t256 (Int.tmod (wrap64 (a1)) (l0.length : Int)) (Int.tmod (wrap64 (a2)) (wrap64 ((l0.length : Int) + 1))) t266 t280 t288 (wrap64 (x16_4 + 1)))))) else (none)) else (fencepostlaw18_CfgThrough.l0 k4 l0 t256 (Int.tmod (wrap64 (a1)) (l0.length : Int)) (Int.tmod (wrap64 (a2)) (wrap64 ((l0.length : Int) + 1))) t266 t280 false (wrap64 (x16_4 + 1)))) else (fencepostlaw18_CfgThrough.l0 k4 l0 t256 (Int.tmod (wrap64 (a1)) (l0.length : Int)) (Int.tmod (wrap64 (a2)) (wrap64 ((l0.length : Int) + 1))) t266 t280 false (wrap64 (x16_4 + 1))))) = some r := H
                                    have A77 := Aside0.mk A770
                                    clear A770
                                    by_cases c78 : x15_4 = true
                                    · subst c78
                                      have H1 : (fencepostlaw18_CfgThrough.l0 k4 l0 t256 (Int.tmod (wrap64 (a1)) (l0.length : Int)) (Int.tmod (wrap64 (a2)) (wrap64 ((l0.length : Int) + 1))) t266 t280 true (wrap64 (x16_4 + 1))) = some r := by rw [if_pos rfl] at H; exact H
                                      clear H
                                      have H := H1
                                      clear H1
                                      have H' := Aside0.mk H
                                      clear H
                                      obtain ⟨Ao79, co79, eo79⟩ := Kd.R_slice HO_13.out
                                      subst eo79
                                      have p277 : 0 ≤ (x16_4 : Int) := of_decide_eq_true (by first | (with_reducible assumption) | assumption)
                                      have q277 : x16_4 < (t266.length : Int) := of_decide_eq_true (by first | (with_reducible assumption) | assumption)
                                      obtain ⟨ad277, e277, hx277_0⟩ := Kd.at_int (Kd.R_reads' HO_13.out).2.2 x16_4 p277 q277
                                      cases e277
                                      replace p277 := eq_true p277
                                      replace q277 := eq_true q277
                                      have p279 : 0 ≤ (x16_4 : Int) := of_decide_eq_true (by first | (with_reducible assumption) | assumption)
                                      have q279 : x16_4 < (t266.length : Int) := of_decide_eq_true (by first | (with_reducible assumption) | assumption)
                                      obtain ⟨ad279, e279, hx279_0⟩ := Kd.at_int (Kd.R_reads' HO_13.out).2.2 x16_4 p279 q279
                                      obtain rfl : ad277 = ad279 := (by injection e279)
                                      replace p279 := eq_true p279
                                      replace q279 := eq_true q279
                                      go_wp2_with (first | (go_at_call 22; (with_reducible refine (cfg_Reach.calls _ _ l0 (rd t266 x16_4) (Int.tmod (wrap64 (a2)) (wrap64 ((l0.length : Int) + 1))) t280 _ ?side1 ?side2 A77.out).mono ?_); (case side1 => repeat (first | exact (Kd.C_below HR0.out HB.out) | (with_reducible refine Kd.C_alloc ?_ _) | (with_reducible refine Kd.C_drewN ?_ _) | (with_reducible refine Kd.C_drew ?_))); (case side2 => exact HC0.out); rintro e w80 ⟨rfl, hb⟩; have n0_ := Aside0.mk (Kd.R_below (by (with_reducible repeat (first | apply Kd.R_alloc | apply Kd.R_drewN | apply Kd.R_drew)); exact HO_13.out) hb); have n1_ := Aside0.mk (below_step (by repeat (first | (with_reducible first | exact HB.out | apply below_alloc | apply pw_below_drewN | apply below_drew1) | exact HB.out)) hb); clear HO_13; clear HB; have HO_13 := n0_; have HB := n1_; clear n0_ n1_; (try clear hb); (try clear hb2); (try clear hk); (try clear hi)))
                                      go_roundg k4
                                      case measure => have := HJ5.out; have := HJ14.out; have := HJ27.out; have := HK4.out; omega
                                      case rel => exact ⟨(t280), (true), (wrap64 (x16_4 + 1)), (by first | rfl | (simp; done) | (simp [*]; done)), (by first | rfl | (simp; done) | (simp [*]; done)), (by first | rfl | (simp; done) | (simp [*]; done)), H', ⟨by have := HJ5.out; have := HJ14.out; have := HJ27.out; have := HK4.out; omega⟩, ⟨by (with_reducible repeat (first | apply Kd.R_alloc | apply Kd.R_drewN | apply Kd.R_drew)); exact HO_13.out⟩, ⟨by repeat (first | (with_reducible first | exact HB.out | apply below_alloc | apply pw_below_drewN | apply below_drew1) | exact HB.out)⟩⟩
                                    · replace c78 := Bool.eq_false_iff.mpr c78
                                      subst c78
                                      have H1 : (if (rd t266 x16_4) ≥ 0 then (if (rd t266 x16_4) < (l0.length : Int) then (if 0 ≤ (rd t266 x16_4) then ((fencepostref18_Drains.f ((rd_T33 l0 (rd t266 x16_4)).f0) ((rd_T33 l0 (rd t266 x16_4)).f1) ((rd_T33 l0 (rd t266 x16_4)).f2) ((rd_T33 l0 (rd t266 x16_4)).f3) ((rd_T33 l0 (rd t266 x16_4)).f4)).bind fun t286 => (if t286 = true then (fencepostlaw18_CfgThrough.l0 k4 l0 t256 (Int.tmod (wrap64 (a1)) (l0.length : Int)) (Int.tmod (wrap64 (a2)) (wrap64 ((l0.length : Int) + 1))) t266 t280 false (wrap64 (x16_4 + 1))) else ((cfg_Free.f l0 (rd t266 x16_4) (Int.tmod (wrap64 (a2)) (wrap64 ((l0.length : Int) + 1)))).bind fun t288 => (fencepostlaw18_CfgThrough.l0 k4 l0 t256 (Int.tmod (wrap64 (a1)) (l0.length : Int)) (Int.tmod (wrap64 (a2)) (wrap64 ((l0.length : Int) + 1))) t266 t280 t288 (wrap64 (x16_4 + 1)))))) else (none)) else (fencepostlaw18_CfgThrough.l0 k4 l0 t256 (Int.tmod (wrap64 (a1)) (l0.length : Int)) (Int.tmod (wrap64 (a2)) (wrap64 ((l0.length : Int) + 1))) t266 t280 false (wrap64 (x16_4 + 1)))) else (fencepostlaw18_CfgThrough.l0 k4 l0 t256 (Int.tmod (wrap64 (a1)) (l0.length : Int)) (Int.tmod (wrap64 (a2)) (wrap64 ((l0.length : Int) + 1))) t266 t280 false (wrap64 (x16_4 + 1)))) = some r := by rw [if_neg (show ¬ (false = true) by decide)] at H; exact H
                                      clear H
                                      have H := H1
                                      clear H1
                                      by_cases c81 : (rd t266 x16_4) ≥ 0
                                      · rw [if_pos c81] at H
                                        have c81b0 : decide (0 ≤ (rd t266 x16_4)) = true := decide_eq_true c81
                                        clear c81
                                        by_cases c82 : (rd t266 x16_4) < (l0.length : Int)
                                        · rw [if_pos c82] at H
                                          have c82b0 : decide ((rd t266 x16_4) < (l0.length : Int)) = true := decide_eq_true c82
                                          clear c82
                                          by_cases c83 : 0 ≤ (rd t266 x16_4)
                                          · rw [if_pos c83] at H
                                            have c83b0 : decide (0 ≤ (rd t266 x16_4)) = true := decide_eq_true c83
                                            clear c83
                                            replace H := Option.bind_eq_some_iff.mp H
                                            obtain ⟨t286, A840, H⟩ := H
                                            replace H : (if t286 = true then (fencepostlaw18_CfgThrough.l0 k4 l0 t256 (Int.tmod (wrap64 (a1)) (l0.length : Int)) (Int.tmod (wrap64 (a2)) (wrap64 ((l0.length : Int) + 1))) t266 t280 false (wrap64 (x16_4 + 1))) else ((cfg_Free.f l0 (rd t266 x16_4) (Int.tmod (wrap64 (a2)) (wrap64 ((l0.length : Int) + 1)))).bind fun t288 => (fencepostlaw18_CfgThrough.l0 k4 l0 t256 (Int.tmod (wrap64 (a1)) (l0.length : Int)) (Int.tmod (wrap64 (a2)) (wrap64 ((l0.length : Int) + 1))) t266 t280 t288 (wrap64 (x16_4 + 1))))) = some r := H
                                            have A84 := Aside0.mk A840
                                            clear A840
                                            by_cases c85 : t286 = true
                                            · subst c85
                                              have H1 : (fencepostlaw18_CfgThrough.l0 k4 l0 t256 (Int.tmod (wrap64 (a1)) (l0.length : Int)) (Int.tmod (wrap64 (a2)) (wrap64 ((l0.length : Int) + 1))) t266 t280 false (wrap64 (x16_4 + 1))) = some r := by rw [if_pos rfl] at H; exact H
                                              clear H
                                              have H := H1
                                              clear H1
                                              have H' := Aside0.mk H
                                              clear H
                                              obtain ⟨Ao86, co86, eo86⟩ := Kd.R_slice HO_13.out
                                              subst eo86
                                              have p277 : 0 ≤ (x16_4 : Int) := of_decide_eq_true (by first | (with_reducible assumption) | assumption)
                                              have q277 : x16_4 < (t266.length : Int) := of_decide_eq_true (by first | (with_reducible assumption) | assumption)
                                              obtain ⟨ad277, e277, hx277_0⟩ := Kd.at_int (Kd.R_reads' HO_13.out).2.2 x16_4 p277 q277
                                              cases e277
                                              replace p277 := eq_true p277
                                              replace q277 := eq_true q277
                                              have p279 : 0 ≤ (x16_4 : Int) := of_decide_eq_true (by first | (with_reducible assumption) | assumption)
                                              have q279 : x16_4 < (t266.length : Int) := of_decide_eq_true (by first | (with_reducible assumption) | assumption)
                                              obtain ⟨ad279, e279, hx279_0⟩ := Kd.at_int (Kd.R_reads' HO_13.out).2.2 x16_4 p279 q279
                                              obtain rfl : ad277 = ad279 := (by injection e279)
                                              replace p279 := eq_true p279
                                              replace q279 := eq_true q279
                                              go_wp2_with (first | (go_at_call 22; (with_reducible refine (cfg_Reach.calls _ _ l0 (rd t266 x16_4) (Int.tmod (wrap64 (a2)) (wrap64 ((l0.length : Int) + 1))) t280 _ ?side1 ?side2 A77.out).mono ?_); (case side1 => repeat (first | exact (Kd.C_below HR0.out HB.out) | (with_reducible refine Kd.C_alloc ?_ _) | (with_reducible refine Kd.C_drewN ?_ _) | (with_reducible refine Kd.C_drew ?_))); (case side2 => exact HC0.out); rintro e w87 ⟨rfl, hb⟩; have n0_ := Aside0.mk (Kd.R_below (by (with_reducible repeat (first | apply Kd.R_alloc | apply Kd.R_drewN | apply Kd.R_drew)); exact HO_13.out) hb); have n1_ := Aside0.mk (below_step (by repeat (first | (with_reducible first | exact HB.out | apply below_alloc | apply pw_below_drewN | apply below_drew1) | exact HB.out)) hb); clear HO_13; clear HB; have HO_13 := n0_; have HB := n1_; clear n0_ n1_; (try clear hb); (try clear hb2); (try clear hk); (try clear hi); have p281 : 0 ≤ (x16_4 : Int) := of_decide_eq_true (by first | (with_reducible assumption) | assumption); have q281 : x16_4 < (t266.length : Int) := of_decide_eq_true (by first | (with_reducible assumption) | assumption); obtain ⟨ad281, e281, hx281_0⟩ := Kd.at_int (Kd.R_reads' HO_13.out).2.2 x16_4 p281 q281; obtain rfl : ad277 = ad281 := (by injection e281); replace p281 := eq_true p281; replace q281 := eq_true q281; have p282 : 0 ≤ (x16_4 : Int) := of_decide_eq_true (by first | (with_reducible assumption) | assumption); have q282 : x16_4 < (t266.length : Int) := of_decide_eq_true (by first | (with_reducible assumption) | assumption); obtain ⟨ad282, e282, hx282_0⟩ := Kd.at_int (Kd.R_reads' HO_13.out).2.2 x16_4 p282 q282; obtain rfl : ad277 = ad282 := (by injection e282); replace p282 := eq_true p282; replace q282 := eq_true q282; have p283 : 0 ≤ (x16_4 : Int) := of_decide_eq_true (by first | (with_reducible assumption) | assumption); have q283 : x16_4 < (t266.length : Int) := of_decide_eq_true (by first | (with_reducible assumption) | assumption); obtain ⟨ad283, e283, hx283_0⟩ := Kd.at_int (Kd.R_reads' HO_13.out).2.2 x16_4 p283 q283; obtain rfl : ad277 = ad283 := (by injection e283); replace p283 := eq_true p283; replace q283 := eq_true q283; have p284 : 0 ≤ (x16_4 : Int) := of_decide_eq_true (by first | (with_reducible assumption) | assumption); have q284 : x16_4 < (t266.length : Int) := of_decide_eq_true (by first | (with_reducible assumption) | assumption); obtain ⟨ad284, e284, hx284_0⟩ := Kd.at_int (Kd.R_reads' HO_13.out).2.2 x16_4 p284 q284; obtain rfl : ad277 = ad284 := (by injection e284); replace p284 := eq_true p284; replace q284 := eq_true q284; have p285 : 0 ≤ ((rd t266 x16_4) : Int) := of_decide_eq_true (by first | (with_reducible assumption) | assumption); have q285 : (rd t266 x16_4) < (l0.length : Int) := of_decide_eq_true (by first | (with_reducible assumption) | assumption); obtain ⟨ad285, e285, hx285_0, hx285_1, hx285_2, hx285_3, hx285_4⟩ := at_T33 HR0.out (rd t266 x16_4) p285 q285; cases e285; replace hx285_0 := (HB.out.cell (World.block_lt_of_cell? w _ hx285_0)).trans hx285_0; replace hx285_1 := (HB.out.cell (World.block_lt_of_cell? w _ hx285_1)).trans hx285_1; replace hx285_2 := (HB.out.cell (World.block_lt_of_cell? w _ hx285_2)).trans hx285_2; replace hx285_3 := (HB.out.cell (World.block_lt_of_cell? w _ hx285_3)).trans hx285_3; replace hx285_4 := (HB.out.cell (World.block_lt_of_cell? w _ hx285_4)).trans hx285_4; replace p285 := eq_true p285; replace q285 := eq_true q285) | (go_at_call 26; (with_reducible refine (fencepostref18_Drains.calls ((rd_T33 l0 (rd t266 x16_4)).f0) ((rd_T33 l0 (rd t266 x16_4)).f1) ((rd_T33 l0 (rd t266 x16_4)).f2) ((rd_T33 l0 (rd t266 x16_4)).f3) ((rd_T33 l0 (rd t266 x16_4)).f4) true _ A84.out).mono ?_); rintro e w88 ⟨rfl, hb⟩; have n0_ := Aside0.mk (Kd.R_below (by (with_reducible repeat (first | apply Kd.R_alloc | apply Kd.R_drewN | apply Kd.R_drew)); exact HO_13.out) hb); have n1_ := Aside0.mk (below_step (by repeat (first | (with_reducible first | exact HB.out | apply below_alloc | apply pw_below_drewN | apply below_drew1) | exact HB.out)) hb); clear HO_13; clear HB; have HO_13 := n0_; have HB := n1_; clear n0_ n1_; (try clear hb); (try clear hb2); (try clear hk); (try clear hi)))
                                              go_roundg k4
                                              case measure => have := HJ5.out; have := HJ14.out; have := HJ27.out; have := HK4.out; omega
                                              case rel => exact ⟨(t280), (false), (wrap64 (x16_4 + 1)), (by first | rfl | (simp; done) | (simp [*]; done)), (by first | rfl | (simp; done) | (simp [*]; done)), (by first | rfl | (simp; done) | (simp [*]; done)), H', ⟨by have := HJ5.out; have := HJ14.out; have := HJ27.out; have := HK4.out; omega⟩, ⟨by (with_reducible repeat (first | apply Kd.R_alloc | apply Kd.R_drewN | apply Kd.R_drew)); exact HO_13.out⟩, ⟨by repeat (first | (with_reducible first | exact HB.out | apply below_alloc | apply pw_below_drewN | apply below_drew1) | exact HB.out)⟩⟩
                                            · replace c85 := Bool.eq_false_iff.mpr c85
                                              subst c85
                                              have H1 : ((cfg_Free.f l0 (rd t266 x16_4) (Int.tmod (wrap64 (a2)) (wrap64 ((l0.length : Int) + 1)))).bind fun t288 => (fencepostlaw18_CfgThrough.l0 k4 l0 t256 (Int.tmod (wrap64 (a1)) (l0.length : Int)) (Int.tmod (wrap64 (a2)) (wrap64 ((l0.length : Int) + 1))) t266 t280 t288 (wrap64 (x16_4 + 1)))) = some r := by rw [if_neg (show ¬ (false = true) by decide)] at H; exact H
                                              clear H
                                              have H := H1
                                              clear H1
                                              replace H := Option.bind_eq_some_iff.mp H
                                              obtain ⟨t288, A890, H⟩ := H
                                              replace H : (fencepostlaw18_CfgThrough.l0 k4 l0 t256 (Int.tmod (wrap64 (a1)) (l0.length : Int)) (Int.tmod (wrap64 (a2)) (wrap64 ((l0.length : Int) + 1))) t266 t280 t288 (wrap64 (x16_4 + 1))) = some r := H
                                              have A89 := Aside0.mk A890
                                              clear A890
                                              have H' := Aside0.mk H
                                              clear H
                                              obtain ⟨Ao90, co90, eo90⟩ := Kd.R_slice HO_13.out
                                              subst eo90
                                              have p277 : 0 ≤ (x16_4 : Int) := of_decide_eq_true (by first | (with_reducible assumption) | assumption)
                                              have q277 : x16_4 < (t266.length : Int) := of_decide_eq_true (by first | (with_reducible assumption) | assumption)
                                              obtain ⟨ad277, e277, hx277_0⟩ := Kd.at_int (Kd.R_reads' HO_13.out).2.2 x16_4 p277 q277
                                              cases e277
                                              replace p277 := eq_true p277
                                              replace q277 := eq_true q277
                                              have p279 : 0 ≤ (x16_4 : Int) := of_decide_eq_true (by first | (with_reducible assumption) | assumption)
                                              have q279 : x16_4 < (t266.length : Int) := of_decide_eq_true (by first | (with_reducible assumption) | assumption)
                                              obtain ⟨ad279, e279, hx279_0⟩ := Kd.at_int (Kd.R_reads' HO_13.out).2.2 x16_4 p279 q279
                                              obtain rfl : ad277 = ad279 := (by injection e279)
                                              replace p279 := eq_true p279
                                              replace q279 := eq_true q279
                                              go_wp2_with (first | (go_at_call 22; (with_reducible refine (cfg_Reach.calls _ _ l0 (rd t266 x16_4) (Int.tmod (wrap64 (a2)) (wrap64 ((l0.length : Int) + 1))) t280 _ ?side1 ?side2 A77.out).mono ?_); (case side1 => repeat (first | exact (Kd.C_below HR0.out HB.out) | (with_reducible refine Kd.C_alloc ?_ _) | (with_reducible refine Kd.C_drewN ?_ _) | (with_reducible refine Kd.C_drew ?_))); (case side2 => exact HC0.out); rintro e w91 ⟨rfl, hb⟩; have n0_ := Aside0.mk (Kd.R_below (by (with_reducible repeat (first | apply Kd.R_alloc | apply Kd.R_drewN | apply Kd.R_drew)); exact HO_13.out) hb); have n1_ := Aside0.mk (below_step (by repeat (first | (with_reducible first | exact HB.out | apply below_alloc | apply pw_below_drewN | apply below_drew1) | exact HB.out)) hb); clear HO_13; clear HB; have HO_13 := n0_; have HB := n1_; clear n0_ n1_; (try clear hb); (try clear hb2); (try clear hk); (try clear hi); have p281 : 0 ≤ (x16_4 : Int) := of_decide_eq_true (by first | (with_reducible assumption) | assumption); have q281 : x16_4 < (t266.length : Int) := of_decide_eq_true (by first | (with_reducible assumption) | assumption); obtain ⟨ad281, e281, hx281_0⟩ := Kd.at_int (Kd.R_reads' HO_13.out).2.2 x16_4 p281 q281; obtain rfl : ad277 = ad281 := (by injection e281); replace p281 := eq_true p281; replace q281 := eq_true q281; have p282 : 0 ≤ (x16_4 : Int) := of_decide_eq_true (by first | (with_reducible assumption) | assumption); have q282 : x16_4 < (t266.length : Int) := of_decide_eq_true (by first | (with_reducible assumption) | assumption); obtain ⟨ad282, e282, hx282_0⟩ := Kd.at_int (Kd.R_reads' HO_13.out).2.2 x16_4 p282 q282; obtain rfl : ad277 = ad282 := (by injection e282); replace p282 := eq_true p282; replace q282 := eq_true q282; have p283 : 0 ≤ (x16_4 : Int) := of_decide_eq_true (by first | (with_reducible assumption) | assumption); have q283 : x16_4 < (t266.length : Int) := of_decide_eq_true (by first | (with_reducible assumption) | assumption); obtain ⟨ad283, e283, hx283_0⟩ := Kd.at_int (Kd.R_reads' HO_13.out).2.2 x16_4 p283 q283; obtain rfl : ad277 = ad283 := (by injection e283); replace p283 := eq_true p283; replace q283 := eq_true q283; have p284 : 0 ≤ (x16_4 : Int) := of_decide_eq_true (by first | (with_reducible assumption) | assumption); have q284 : x16_4 < (t266.length : Int) := of_decide_eq_true (by first | (with_reducible assumption) | assumption); obtain ⟨ad284, e284, hx284_0⟩ := Kd.at_int (Kd.R_reads' HO_13.out).2.2 x16_4 p284 q284; obtain rfl : ad277 = ad284 := (by injection e284); replace p284 := eq_true p284; replace q284 := eq_true q284; have p285 : 0 ≤ ((rd t266 x16_4) : Int) := of_decide_eq_true (by first | (with_reducible assumption) | assumption); have q285 : (rd t266 x16_4) < (l0.length : Int) := of_decide_eq_true (by first | (with_reducible assumption) | assumption); obtain ⟨ad285, e285, hx285_0, hx285_1, hx285_2, hx285_3, hx285_4⟩ := at_T33 HR0.out (rd t266 x16_4) p285 q285; cases e285; replace hx285_0 := (HB.out.cell (World.block_lt_of_cell? w _ hx285_0)).trans hx285_0; replace hx285_1 := (HB.out.cell (World.block_lt_of_cell? w _ hx285_1)).trans hx285_1; replace hx285_2 := (HB.out.cell (World.block_lt_of_cell? w _ hx285_2)).trans hx285_2; replace hx285_3 := (HB.out.cell (World.block_lt_of_cell? w _ hx285_3)).trans hx285_3; replace hx285_4 := (HB.out.cell (World.block_lt_of_cell? w _ hx285_4)).trans hx285_4; replace p285 := eq_true p285; replace q285 := eq_true q285) | (go_at_call 26; (with_reducible refine (fencepostref18_Drains.calls ((rd_T33 l0 (rd t266 x16_4)).f0) ((rd_T33 l0 (rd t266 x16_4)).f1) ((rd_T33 l0 (rd t266 x16_4)).f2) ((rd_T33 l0 (rd t266 x16_4)).f3) ((rd_T33 l0 (rd t266 x16_4)).f4) false _ A84.out).mono ?_); rintro e w92 ⟨rfl, hb⟩; have n0_ := Aside0.mk (Kd.R_below (by (with_reducible repeat (first | apply Kd.R_alloc | apply Kd.R_drewN | apply Kd.R_drew)); exact HO_13.out) hb); have n1_ := Aside0.mk (below_step (by repeat (first | (with_reducible first | exact HB.out | apply below_alloc | apply pw_below_drewN | apply below_drew1) | exact HB.out)) hb); clear HO_13; clear HB; have HO_13 := n0_; have HB := n1_; clear n0_ n1_; (try clear hb); (try clear hb2); (try clear hk); (try clear hi); have p287 : 0 ≤ (x16_4 : Int) := of_decide_eq_true (by first | (with_reducible assumption) | assumption); have q287 : x16_4 < (t266.length : Int) := of_decide_eq_true (by first | (with_reducible assumption) | assumption); obtain ⟨ad287, e287, hx287_0⟩ := Kd.at_int (Kd.R_reads' HO_13.out).2.2 x16_4 p287 q287; obtain rfl : ad277 = ad287 := (by injection e287); replace p287 := eq_true p287; replace q287 := eq_true q287) | (go_at_call 24; (with_reducible refine (cfg_Free.calls _ _ l0 (rd t266 x16_4) (Int.tmod (wrap64 (a2)) (wrap64 ((l0.length : Int) + 1))) t288 _ ?side1 ?side2 A89.out).mono ?_); (case side1 => repeat (first | exact (Kd.C_below HR0.out HB.out) | (with_reducible refine Kd.C_alloc ?_ _) | (with_reducible refine Kd.C_drewN ?_ _) | (with_reducible refine Kd.C_drew ?_))); (case side2 => exact HC0.out); rintro e w93 ⟨rfl, hb⟩; have n0_ := Aside0.mk (Kd.R_below (by (with_reducible repeat (first | apply Kd.R_alloc | apply Kd.R_drewN | apply Kd.R_drew)); exact HO_13.out) hb); have n1_ := Aside0.mk (below_step (by repeat (first | (with_reducible first | exact HB.out | apply below_alloc | apply pw_below_drewN | apply below_drew1) | exact HB.out)) hb); clear HO_13; clear HB; have HO_13 := n0_; have HB := n1_; clear n0_ n1_; (try clear hb); (try clear hb2); (try clear hk); (try clear hi)))
                                              go_roundg k4
                                              case measure => have := HJ5.out; have := HJ14.out; have := HJ27.out; have := HK4.out; omega
                                              case rel => exact ⟨(t280), (t288), (wrap64 (x16_4 + 1)), (by first | rfl | (simp; done) | (simp [*]; done)), (by first | rfl | (simp; done) | (simp [*]; done)), (by first | rfl | (simp; done) | (simp [*]; done)), H', ⟨by have := HJ5.out; have := HJ14.out; have := HJ27.out; have := HK4.out; omega⟩, ⟨by (with_reducible repeat (first | apply Kd.R_alloc | apply Kd.R_drewN | apply Kd.R_drew)); exact HO_13.out⟩, ⟨by repeat (first | (with_reducible first | exact HB.out | apply below_alloc | apply pw_below_drewN | apply below_drew1) | exact HB.out)⟩⟩
                                          · rw [if_neg c83] at H
                                            exact absurd H (by simp)
                                        · rw [if_neg c82] at H
                                          have c82b0 : decide ((rd t266 x16_4) < (l0.length : Int)) = false := decide_eq_false c82
                                          clear c82
                                          have H' := Aside0.mk H
                                          clear H
                                          obtain ⟨Ao94, co94, eo94⟩ := Kd.R_slice HO_13.out
                                          subst eo94
                                          have p277 : 0 ≤ (x16_4 : Int) := of_decide_eq_true (by first | (with_reducible assumption) | assumption)
                                          have q277 : x16_4 < (t266.length : Int) := of_decide_eq_true (by first | (with_reducible assumption) | assumption)
                                          obtain ⟨ad277, e277, hx277_0⟩ := Kd.at_int (Kd.R_reads' HO_13.out).2.2 x16_4 p277 q277
                                          cases e277
                                          replace p277 := eq_true p277
                                          replace q277 := eq_true q277
                                          have p279 : 0 ≤ (x16_4 : Int) := of_decide_eq_true (by first | (with_reducible assumption) | assumption)
                                          have q279 : x16_4 < (t266.length : Int) := of_decide_eq_true (by first | (with_reducible assumption) | assumption)
                                          obtain ⟨ad279, e279, hx279_0⟩ := Kd.at_int (Kd.R_reads' HO_13.out).2.2 x16_4 p279 q279
                                          obtain rfl : ad277 = ad279 := (by injection e279)
                                          replace p279 := eq_true p279
                                          replace q279 := eq_true q279
                                          go_wp2_with (first | (go_at_call 22; (with_reducible refine (cfg_Reach.calls _ _ l0 (rd t266 x16_4) (Int.tmod (wrap64 (a2)) (wrap64 ((l0.length : Int) + 1))) t280 _ ?side1 ?side2 A77.out).mono ?_); (case side1 => repeat (first | exact (Kd.C_below HR0.out HB.out) | (with_reducible refine Kd.C_alloc ?_ _) | (with_reducible refine Kd.C_drewN ?_ _) | (with_reducible refine Kd.C_drew ?_))); (case side2 => exact HC0.out); rintro e w95 ⟨rfl, hb⟩; have n0_ := Aside0.mk (Kd.R_below (by (with_reducible repeat (first | apply Kd.R_alloc | apply Kd.R_drewN | apply Kd.R_drew)); exact HO_13.out) hb); have n1_ := Aside0.mk (below_step (by repeat (first | (with_reducible first | exact HB.out | apply below_alloc | apply pw_below_drewN | apply below_drew1) | exact HB.out)) hb); clear HO_13; clear HB; have HO_13 := n0_; have HB := n1_; clear n0_ n1_; (try clear hb); (try clear hb2); (try clear hk); (try clear hi); have p281 : 0 ≤ (x16_4 : Int) := of_decide_eq_true (by first | (with_reducible assumption) | assumption); have q281 : x16_4 < (t266.length : Int) := of_decide_eq_true (by first | (with_reducible assumption) | assumption); obtain ⟨ad281, e281, hx281_0⟩ := Kd.at_int (Kd.R_reads' HO_13.out).2.2 x16_4 p281 q281; obtain rfl : ad277 = ad281 := (by injection e281); replace p281 := eq_true p281; replace q281 := eq_true q281; have p282 : 0 ≤ (x16_4 : Int) := of_decide_eq_true (by first | (with_reducible assumption) | assumption); have q282 : x16_4 < (t266.length : Int) := of_decide_eq_true (by first | (with_reducible assumption) | assumption); obtain ⟨ad282, e282, hx282_0⟩ := Kd.at_int (Kd.R_reads' HO_13.out).2.2 x16_4 p282 q282; obtain rfl : ad277 = ad282 := (by injection e282); replace p282 := eq_true p282; replace q282 := eq_true q282; have p283 : 0 ≤ (x16_4 : Int) := of_decide_eq_true (by first | (with_reducible assumption) | assumption); have q283 : x16_4 < (t266.length : Int) := of_decide_eq_true (by first | (with_reducible assumption) | assumption); obtain ⟨ad283, e283, hx283_0⟩ := Kd.at_int (Kd.R_reads' HO_13.out).2.2 x16_4 p283 q283; obtain rfl : ad277 = ad283 := (by injection e283); replace p283 := eq_true p283; replace q283 := eq_true q283))
                                          go_roundg k4
                                          case measure => have := HJ5.out; have := HJ14.out; have := HJ27.out; have := HK4.out; omega
                                          case rel => exact ⟨(t280), (false), (wrap64 (x16_4 + 1)), (by first | rfl | (simp; done) | (simp [*]; done)), (by first | rfl | (simp; done) | (simp [*]; done)), (by first | rfl | (simp; done) | (simp [*]; done)), H', ⟨by have := HJ5.out; have := HJ14.out; have := HJ27.out; have := HK4.out; omega⟩, ⟨by (with_reducible repeat (first | apply Kd.R_alloc | apply Kd.R_drewN | apply Kd.R_drew)); exact HO_13.out⟩, ⟨by repeat (first | (with_reducible first | exact HB.out | apply below_alloc | apply pw_below_drewN | apply below_drew1) | exact HB.out)⟩⟩
                                      · rw [if_neg c81] at H
                                        have c81b0 : decide (0 ≤ (rd t266 x16_4)) = false := decide_eq_false c81
                                        clear c81
                                        have H' := Aside0.mk H
                                        clear H
                                        obtain ⟨Ao96, co96, eo96⟩ := Kd.R_slice HO_13.out
                                        subst eo96
                                        have p277 : 0 ≤ (x16_4 : Int) := of_decide_eq_true (by first | (with_reducible assumption) | assumption)
                                        have q277 : x16_4 < (t266.length : Int) := of_decide_eq_true (by first | (with_reducible assumption) | assumption)
                                        obtain ⟨ad277, e277, hx277_0⟩ := Kd.at_int (Kd.R_reads' HO_13.out).2.2 x16_4 p277 q277
                                        cases e277
                                        replace p277 := eq_true p277
                                        replace q277 := eq_true q277
                                        have p279 : 0 ≤ (x16_4 : Int) := of_decide_eq_true (by first | (with_reducible assumption) | assumption)
                                        have q279 : x16_4 < (t266.length : Int) := of_decide_eq_true (by first | (with_reducible assumption) | assumption)
                                        obtain ⟨ad279, e279, hx279_0⟩ := Kd.at_int (Kd.R_reads' HO_13.out).2.2 x16_4 p279 q279
                                        obtain rfl : ad277 = ad279 := (by injection e279)
                                        replace p279 := eq_true p279
                                        replace q279 := eq_true q279
                                        go_wp2_with (first | (go_at_call 22; (with_reducible refine (cfg_Reach.calls _ _ l0 (rd t266 x16_4) (Int.tmod (wrap64 (a2)) (wrap64 ((l0.length : Int) + 1))) t280 _ ?side1 ?side2 A77.out).mono ?_); (case side1 => repeat (first | exact (Kd.C_below HR0.out HB.out) | (with_reducible refine Kd.C_alloc ?_ _) | (with_reducible refine Kd.C_drewN ?_ _) | (with_reducible refine Kd.C_drew ?_))); (case side2 => exact HC0.out); rintro e w97 ⟨rfl, hb⟩; have n0_ := Aside0.mk (Kd.R_below (by (with_reducible repeat (first | apply Kd.R_alloc | apply Kd.R_drewN | apply Kd.R_drew)); exact HO_13.out) hb); have n1_ := Aside0.mk (below_step (by repeat (first | (with_reducible first | exact HB.out | apply below_alloc | apply pw_below_drewN | apply below_drew1) | exact HB.out)) hb); clear HO_13; clear HB; have HO_13 := n0_; have HB := n1_; clear n0_ n1_; (try clear hb); (try clear hb2); (try clear hk); (try clear hi); have p281 : 0 ≤ (x16_4 : Int) := of_decide_eq_true (by first | (with_reducible assumption) | assumption); have q281 : x16_4 < (t266.length : Int) := of_decide_eq_true (by first | (with_reducible assumption) | assumption); obtain ⟨ad281, e281, hx281_0⟩ := Kd.at_int (Kd.R_reads' HO_13.out).2.2 x16_4 p281 q281; obtain rfl : ad277 = ad281 := (by injection e281); replace p281 := eq_true p281; replace q281 := eq_true q281; have p282 : 0 ≤ (x16_4 : Int) := of_decide_eq_true (by first | (with_reducible assumption) | assumption); have q282 : x16_4 < (t266.length : Int) := of_decide_eq_true (by first | (with_reducible assumption) | assumption); obtain ⟨ad282, e282, hx282_0⟩ := Kd.at_int (Kd.R_reads' HO_13.out).2.2 x16_4 p282 q282; obtain rfl : ad277 = ad282 := (by injection e282); replace p282 := eq_true p282; replace q282 := eq_true q282))
                                        go_roundg k4
                                        case measure => have := HJ5.out; have := HJ14.out; have := HJ27.out; have := HK4.out; omega
                                        case rel => exact ⟨(t280), (false), (wrap64 (x16_4 + 1)), (by first | rfl | (simp; done) | (simp [*]; done)), (by first | rfl | (simp; done) | (simp [*]; done)), (by first | rfl | (simp; done) | (simp [*]; done)), H', ⟨by have := HJ5.out; have := HJ14.out; have := HJ27.out; have := HK4.out; omega⟩, ⟨by (with_reducible repeat (first | apply Kd.R_alloc | apply Kd.R_drewN | apply Kd.R_drew)); exact HO_13.out⟩, ⟨by repeat (first | (with_reducible first | exact HB.out | apply below_alloc | apply pw_below_drewN | apply below_drew1) | exact HB.out)⟩⟩
                                · rw [if_neg c72] at H
                                  exact absurd H (by simp)
                            · rw [if_neg c52] at H
                              have c52b0 : decide (x16_4 < (t266.length : Int)) = false := decide_eq_false c52
                              clear c52
                              by_cases c98 : t256 = true
                              · subst c98
                                have H1 : ((cfg_Reach.f l0 (Int.tmod (wrap64 (a1)) (l0.length : Int)) (Int.tmod (wrap64 (a2)) (wrap64 ((l0.length : Int) + 1)))).bind fun t289 => (if (t289 == x14_4) = true then ((cfg_Free.f l0 (Int.tmod (wrap64 (a1)) (l0.length : Int)) (Int.tmod (wrap64 (a2)) (wrap64 ((l0.length : Int) + 1)))).bind fun t290 => (some (t290 == x15_4))) else (some false))) = some r := by rw [if_pos rfl] at H; exact H
                                clear H
                                have H := H1
                                clear H1
                                replace H := Option.bind_eq_some_iff.mp H
                                obtain ⟨t289, A990, H⟩ := H
                                replace H : (if (t289 == x14_4) = true then ((cfg_Free.f l0 (Int.tmod (wrap64 (a1)) (l0.length : Int)) (Int.tmod (wrap64 (a2)) (wrap64 ((l0.length : Int) + 1)))).bind fun t290 => (some (t290 == x15_4))) else (some false)) = some r := H
                                have A99 := Aside0.mk A990
                                clear A990
                                by_cases c100 : (t289 == x14_4) = true
                                · rw [if_pos c100] at H
                                  have c100b0 : (t289 == x14_4) = true := c100
                                  (try (have c100b1 : decide (t289 = x14_4) = true := by simpa using c100))
                                  (try (have c100b2 : (t289 == x14_4) = true := by simpa using c100))
                                  clear c100
                                  replace H := Option.bind_eq_some_iff.mp H
                                  obtain ⟨t290, A1010, H⟩ := H
                                  replace H : (some (t290 == x15_4)) = some r := H
                                  have A101 := Aside0.mk A1010
                                  clear A1010
                                  obtain rfl := Option.some.inj H
                                  obtain ⟨Ao102, co102, eo102⟩ := Kd.R_slice HO_13.out
                                  subst eo102
                                  go_wp2_with (first | (go_at_call 22; (with_reducible refine (cfg_Reach.calls _ _ l0 (Int.tmod (wrap64 (a1)) (l0.length : Int)) (Int.tmod (wrap64 (a2)) (wrap64 ((l0.length : Int) + 1))) t289 _ ?side1 ?side2 A99.out).mono ?_); (case side1 => repeat (first | exact (Kd.C_below HR0.out HB.out) | (with_reducible refine Kd.C_alloc ?_ _) | (with_reducible refine Kd.C_drewN ?_ _) | (with_reducible refine Kd.C_drew ?_))); (case side2 => exact HC0.out); rintro e w103 ⟨rfl, hb⟩; have n0_ := Aside0.mk (Kd.R_below (by (with_reducible repeat (first | apply Kd.R_alloc | apply Kd.R_drewN | apply Kd.R_drew)); exact HO_13.out) hb); have n1_ := Aside0.mk (below_step (by repeat (first | (with_reducible first | exact HB.out | apply below_alloc | apply pw_below_drewN | apply below_drew1) | exact HB.out)) hb); clear HO_13; clear HB; have HO_13 := n0_; have HB := n1_; clear n0_ n1_; (try clear hb); (try clear hb2); (try clear hk); (try clear hi)) | (go_at_call 24; (with_reducible refine (cfg_Free.calls _ _ l0 (Int.tmod (wrap64 (a1)) (l0.length : Int)) (Int.tmod (wrap64 (a2)) (wrap64 ((l0.length : Int) + 1))) t290 _ ?side1 ?side2 A101.out).mono ?_); (case side1 => repeat (first | exact (Kd.C_below HR0.out HB.out) | (with_reducible refine Kd.C_alloc ?_ _) | (with_reducible refine Kd.C_drewN ?_ _) | (with_reducible refine Kd.C_drew ?_))); (case side2 => exact HC0.out); rintro e w104 ⟨rfl, hb⟩; have n0_ := Aside0.mk (Kd.R_below (by (with_reducible repeat (first | apply Kd.R_alloc | apply Kd.R_drewN | apply Kd.R_drew)); exact HO_13.out) hb); have n1_ := Aside0.mk (below_step (by repeat (first | (with_reducible first | exact HB.out | apply below_alloc | apply pw_below_drewN | apply below_drew1) | exact HB.out)) hb); clear HO_13; clear HB; have HO_13 := n0_; have HB := n1_; clear n0_ n1_; (try clear hb); (try clear hb2); (try clear hk); (try clear hi)))
                                  go_ret
                                  exact ⟨by first | rfl | (simp [errW_none, errW_some] <;> rfl) | (simp [*, errW_none, errW_some] <;> rfl), by repeat (first | (with_reducible first | exact HB.out | apply below_alloc | apply pw_below_drewN | apply below_drew1) | exact HB.out)⟩
                                · rw [if_neg c100] at H
                                  have c100b0 : (t289 == x14_4) = false := by simpa using c100
                                  (try (have c100b1 : decide (t289 = x14_4) = false := by simpa using c100))
                                  (try (have c100b2 : (t289 == x14_4) = false := by simpa using c100))
                                  (try (have c100b3 : ¬ (t289 = x14_4) := by simpa using c100))
                                  clear c100
                                  exact absurd ((Option.some.inj H).trans HT.out) (by simp)
                              · replace c98 := Bool.eq_false_iff.mpr c98
                                subst c98
                                have H1 : (some false) = some r := by rw [if_neg (show ¬ (false = true) by decide)] at H; exact H
                                clear H
                                have H := H1
                                clear H1
                                exact absurd ((Option.some.inj H).trans HT.out) (by simp)

end Go.Proofs.Ytpaifpnnjflnfaa.Print
