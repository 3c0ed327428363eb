-- Written by ownprint.py (this session's) with the kit's print.py: functions, contracts, rows; Lean checks it.
import Derived.Test.YtodjfbcpohcbaaaPrint0
import Derived.Test.YtodjfbcpohcbaaaPrint1
import Derived.Test.YtodjfbcpohcbaaaPrint4
import Derived.Test.YtodjfbcpohcbaaaPrint6
import Derived.Test.YtodjfbcpohcbaaaHAdm
namespace Go.Proofs.Ytodjfbcpohcbaaa.Print
open Go.RowKit Go.Proofs.YtodjfbcpohcbaaaW.PrintWords Go.Proofs.YtodjfbcpohcbaaaW.PrintLast Go.Proofs.YtodjfbcpohcbaaaW.PrintMore
attribute [local go_sem] max2_int min2_int max_two min_two max_three min_three max_four min_four   -- for this text's walks alone
set_option linter.unusedVariables false
set_option linter.unusedSimpArgs false

/-! ### fencepostlaw19_AdmBehind: function 8 -/
def fencepostlaw19_AdmBehind.l0 : Nat → Bool → List (S49) → Int → Bool → Int → Bool → Bool → Int → Option (Bool)
  | 0, _, _, _, _, _, _, _, _ => none
  | k + 1, x7, x9, x10, x12, x13, x14, x15, x16 => if x16 < (x9.length : Int) then (if x14 = true then (if x15 = true then (if 0 ≤ x16 then (fencepostlaw19_AdmBehind.l0 k x7 x9 x10 x12 x13 true (decide (((rd_T49 x9 x16).f0) < 8)) (wrap64 (x16 + 1))) else (none)) else (fencepostlaw19_AdmBehind.l0 k x7 x9 x10 x12 x13 true false (wrap64 (x16 + 1)))) else (if 0 ≤ x16 then (if ((rd_T49 x9 x16).f0) ≥ 8 then (if x15 = true then (fencepostlaw19_AdmBehind.l0 k x7 x9 x10 x12 x13 (((rd_T49 x9 x16).f4) == (wrap64 (x10 + 1))) (decide (((rd_T49 x9 x16).f0) < 8)) (wrap64 (x16 + 1))) else (fencepostlaw19_AdmBehind.l0 k x7 x9 x10 x12 x13 (((rd_T49 x9 x16).f4) == (wrap64 (x10 + 1))) false (wrap64 (x16 + 1)))) else (if x15 = true then (fencepostlaw19_AdmBehind.l0 k x7 x9 x10 x12 x13 false (decide (((rd_T49 x9 x16).f0) < 8)) (wrap64 (x16 + 1))) else (fencepostlaw19_AdmBehind.l0 k x7 x9 x10 x12 x13 false false (wrap64 (x16 + 1))))) else (none))) else (if x15 = true then (if 0 ≤ x10 then (if x10 < (x9.length : Int) then ((fencepostref19_Writes.f ((rd_T49 x9 x10).f0) ((rd_T49 x9 x10).f1) ((rd_T49 x9 x10).f2) ((rd_T49 x9 x10).f3) ((rd_T49 x9 x10).f4)).bind fun t217 => (if t217 = true then (if x13 = 6 then (if (x12 != false) = true then (some false) else (if x7 = true then (if ((rd_T49 x9 x10).f0) = 6 then (if x14 = true then (some true) else (some (!x12))) else (if ((rd_T49 x9 x10).f0) = 5 then (if x14 = true then (some true) else (some (!x12))) else (some true))) else (some false))) else (if (x12 != (x13 != 5)) = true then (some false) else (if x7 = true then (if ((rd_T49 x9 x10).f0) = 6 then (if x14 = true then (some true) else (some (!x12))) else (if ((rd_T49 x9 x10).f0) = 5 then (if x14 = true then (some true) else (some (!x12))) else (some true))) else (some false)))) else (if x7 = true then (if ((rd_T49 x9 x10).f0) = 6 then (if x14 = true then (some true) else (some (!x12))) else (if ((rd_T49 x9 x10).f0) = 5 then (if x14 = true then (some true) else (some (!x12))) else (some true))) else (some false)))) else (none)) else (none)) else (if x7 = true then (if 0 ≤ x10 then (if x10 < (x9.length : Int) then (if ((rd_T49 x9 x10).f0) = 6 then (if x14 = true then (some true) else (some (!x12))) else (if ((rd_T49 x9 x10).f0) = 5 then (if x14 = true then (some true) else (some (!x12))) else (some true))) else (none)) else (none)) else (some false)))
def fencepostlaw19_AdmBehind.f (k : Nat) (l0_0 : List Int) (l0_1 : List (List (S49))) (a1 : Int) (a2 : Int) : Option (Bool) := (fencepostlaw19_head.f k).bind fun t202 => ((fencepostlaw08_Great.f k l0_0 l0_1).bind fun t203 => (if t203 = true then (some t202) else (if (l0_1.length : Int) = 0 then (none) else (if 0 ≤ (Int.tmod (wrap64 (a1)) (l0_1.length : Int)) then (if (Int.tmod (wrap64 (a1)) (l0_1.length : Int)) < (l0_1.length : Int) then (if ((rd_L2 l0_1 (Int.tmod (wrap64 (a1)) (l0_1.length : Int))).length : Int) < 2 then (some t202) else (if (wrap64 (((rd_L2 l0_1 (Int.tmod (wrap64 (a1)) (l0_1.length : Int))).length : Int) - 1)) = 0 then (none) else ((fencepostref08_Num.f k l0_0 l0_1 (Int.tmod (wrap64 (a1)) (l0_1.length : Int)) (wrap64 ((Int.tmod (wrap64 (a2)) (wrap64 (((rd_L2 l0_1 (Int.tmod (wrap64 (a1)) (l0_1.length : Int))).length : Int) - 1))) + 1))).bind fun t205 => ((adm_Slots.f l0_0 l0_1).bind fun t206 => ((fencepostref08_Has.f k t206 t205).bind fun t209 => (if 0 ≤ (wrap64 ((Int.tmod (wrap64 (a2)) (wrap64 (((rd_L2 l0_1 (Int.tmod (wrap64 (a1)) (l0_1.length : Int))).length : Int) - 1))) + 1)) then (if (wrap64 ((Int.tmod (wrap64 (a2)) (wrap64 (((rd_L2 l0_1 (Int.tmod (wrap64 (a1)) (l0_1.length : Int))).length : Int) - 1))) + 1)) < ((rd_L2 l0_1 (Int.tmod (wrap64 (a1)) (l0_1.length : Int))).length : Int) then (fencepostlaw19_AdmBehind.l0 k t202 (rd_L2 l0_1 (Int.tmod (wrap64 (a1)) (l0_1.length : Int))) (Int.tmod (wrap64 (a2)) (wrap64 (((rd_L2 l0_1 (Int.tmod (wrap64 (a1)) (l0_1.length : Int))).length : Int) - 1))) t209 ((rd_T49 (rd_L2 l0_1 (Int.tmod (wrap64 (a1)) (l0_1.length : Int))) (wrap64 ((Int.tmod (wrap64 (a2)) (wrap64 (((rd_L2 l0_1 (Int.tmod (wrap64 (a1)) (l0_1.length : Int))).length : Int) - 1))) + 1))).f0) false true 0) else (none)) else (none))))))) else (none)) else (none)))))
theorem fencepostlaw19_AdmBehind.mono_l : ∀ k, (∀ y0 y1 y2 y3 y4 y5 y6 y7, LeO (fencepostlaw19_AdmBehind.l0 k y0 y1 y2 y3 y4 y5 y6 y7) (fencepostlaw19_AdmBehind.l0 (k + 1) y0 y1 y2 y3 y4 y5 y6 y7))
  | 0 => fun _ _ _ _ _ _ _ _ r h => by simp [fencepostlaw19_AdmBehind.l0] at h
  | k + 1 => by
    have ih0 := fencepostlaw19_AdmBehind.mono_l k
    · intro y0 y1 y2 y3 y4 y5 y6 y7
      unfold fencepostlaw19_AdmBehind.l0
      repeat' first
      | (with_reducible exact ih0 _ _ _ _ _ _ _ _)
      | (with_reducible exact fencepostlaw08_Great.mono _ _ _)
      | (with_reducible exact fencepostlaw19_head.mono _)
      | (with_reducible exact fencepostref08_Has.mono _ _ _)
      | (with_reducible exact fencepostref08_Num.mono _ _ _ _ _)
      | (with_reducible exact LeO.refl _)
      | (with_reducible exact LeO.none _)
      | (with_reducible refine LeO.ite ?_ ?_)
      | (with_reducible refine LeO.bind ?_ (fun _ => ?_))
      | exact ih0 _ _ _ _ _ _ _ _
      | exact fencepostlaw08_Great.mono _ _ _
      | exact fencepostlaw19_head.mono _
      | exact fencepostref08_Has.mono _ _ _
      | exact fencepostref08_Num.mono _ _ _ _ _
      | exact LeO.none _
      | refine LeO.ite ?_ ?_
      | refine LeO.bind ?_ (fun _ => ?_)
theorem fencepostlaw19_AdmBehind.mono : ∀ a0 a1 a2 a3 k, LeO (fencepostlaw19_AdmBehind.f k a0 a1 a2 a3) (fencepostlaw19_AdmBehind.f (k + 1) a0 a1 a2 a3) := by
  intro a0 a1 a2 a3 k
  have ih0 := fencepostlaw19_AdmBehind.mono_l k
  unfold fencepostlaw19_AdmBehind.f
  repeat' first
      | (with_reducible exact ih0 _ _ _ _ _ _ _ _)
      | (with_reducible exact fencepostlaw08_Great.mono _ _ _)
      | (with_reducible exact fencepostlaw19_head.mono _)
      | (with_reducible exact fencepostref08_Has.mono _ _ _)
      | (with_reducible exact fencepostref08_Num.mono _ _ _ _ _)
      | (with_reducible exact LeO.refl _)
      | (with_reducible exact LeO.none _)
      | (with_reducible refine LeO.ite ?_ ?_)
      | (with_reducible refine LeO.bind ?_ (fun _ => ?_))
      | exact ih0 _ _ _ _ _ _ _ _
      | exact fencepostlaw08_Great.mono _ _ _
      | exact fencepostlaw19_head.mono _
      | exact fencepostref08_Has.mono _ _ _
      | exact fencepostref08_Num.mono _ _ _ _ _
      | exact LeO.none _
      | refine LeO.ite ?_ ?_
      | refine LeO.bind ?_ (fun _ => ?_)
set_option maxHeartbeats 8000000 in
set_option maxRecDepth 100000 in
theorem fencepostlaw19_AdmBehind.calls (k : Nat) (A0_0 : Option Addr) (c0_0 : Nat) (l0_0 : List Int) (A0_1 : Option Addr) (c0_1 : Nat) (l0_1 : List (List (S49))) (a1 : Int) (a2 : Int) (r : Bool) (w : World) (hr0_0 : Kd.C (Kd.int .i64) w A0_0 l0_0.length l0_0) (hc0_0 : l0_0.length ≤ c0_0) (hr0_1 : Kd.C (Kd.slice 49 k49) w A0_1 l0_1.length l0_1) (hc0_1 : l0_1.length ≤ c0_1) (ht_ : r = true) (h : fencepostlaw19_AdmBehind.f k l0_0 l0_1 a1 a2 = some r) :
    Calls Try.prog 8 #[.agg #[.slice A0_0 l0_0.length c0_0, .slice A0_1 l0_1.length c0_1], .int .u8 a1, .int .u8 a2] w fun e w' => e = .returned (.bool r) ∧ Below w.heap.size w w' := by
  have hu25 := Try.underlying25
  have hu49 := Try.underlying49
  have HR0_0 := Aside0.mk hr0_0
  have HC0_0 := Aside0.mk hc0_0
  clear hr0_0 hc0_0
  have HR0_1 := Aside0.mk hr0_1
  have HC0_1 := Aside0.mk hc0_1
  clear hr0_1 hc0_1
  have HB := Aside0.mk (Below.refl w.heap.size w)
  have HT := Aside0.mk ht_
  clear ht_
  have H : ((fencepostlaw19_head.f k).bind fun t202 => ((fencepostlaw08_Great.f k l0_0 l0_1).bind fun t203 => (if t203 = true then (some t202) else (if (l0_1.length : Int) = 0 then (none) else (if 0 ≤ (Int.tmod (wrap64 (a1)) (l0_1.length : Int)) then (if (Int.tmod (wrap64 (a1)) (l0_1.length : Int)) < (l0_1.length : Int) then (if ((rd_L2 l0_1 (Int.tmod (wrap64 (a1)) (l0_1.length : Int))).length : Int) < 2 then (some t202) else (if (wrap64 (((rd_L2 l0_1 (Int.tmod (wrap64 (a1)) (l0_1.length : Int))).length : Int) - 1)) = 0 then (none) else ((fencepostref08_Num.f k l0_0 l0_1 (Int.tmod (wrap64 (a1)) (l0_1.length : Int)) (wrap64 ((Int.tmod (wrap64 (a2)) (wrap64 (((rd_L2 l0_1 (Int.tmod (wrap64 (a1)) (l0_1.length : Int))).length : Int) - 1))) + 1))).bind fun t205 => ((adm_Slots.f l0_0 l0_1).bind fun t206 => ((fencepostref08_Has.f k t206 t205).bind fun t209 => (if 0 ≤ (wrap64 ((Int.tmod (wrap64 (a2)) (wrap64 (((rd_L2 l0_1 (Int.tmod (wrap64 (a1)) (l0_1.length : Int))).length : Int) - 1))) + 1)) then (if (wrap64 ((Int.tmod (wrap64 (a2)) (wrap64 (((rd_L2 l0_1 (Int.tmod (wrap64 (a1)) (l0_1.length : Int))).length : Int) - 1))) + 1)) < ((rd_L2 l0_1 (Int.tmod (wrap64 (a1)) (l0_1.length : Int))).length : Int) then (fencepostlaw19_AdmBehind.l0 k t202 (rd_L2 l0_1 (Int.tmod (wrap64 (a1)) (l0_1.length : Int))) (Int.tmod (wrap64 (a2)) (wrap64 (((rd_L2 l0_1 (Int.tmod (wrap64 (a1)) (l0_1.length : Int))).length : Int) - 1))) t209 ((rd_T49 (rd_L2 l0_1 (Int.tmod (wrap64 (a1)) (l0_1.length : Int))) (wrap64 ((Int.tmod (wrap64 (a2)) (wrap64 (((rd_L2 l0_1 (Int.tmod (wrap64 (a1)) (l0_1.length : Int))).length : Int) - 1))) + 1))).f0) false true 0) else (none)) else (none))))))) else (none)) else (none)))))) = some r := h
  clear h
  replace H := Option.bind_eq_some_iff.mp H
  obtain ⟨t202, A40, H⟩ := H
  replace H : ((fencepostlaw08_Great.f k l0_0 l0_1).bind fun t203 => (if t203 = true then (some t202) else (if (l0_1.length : Int) = 0 then (none) else (if 0 ≤ (Int.tmod (wrap64 (a1)) (l0_1.length : Int)) then (if (Int.tmod (wrap64 (a1)) (l0_1.length : Int)) < (l0_1.length : Int) then (if ((rd_L2 l0_1 (Int.tmod (wrap64 (a1)) (l0_1.length : Int))).length : Int) < 2 then (some t202) else (if (wrap64 (((rd_L2 l0_1 (Int.tmod (wrap64 (a1)) (l0_1.length : Int))).length : Int) - 1)) = 0 then (none) else ((fencepostref08_Num.f k l0_0 l0_1 (Int.tmod (wrap64 (a1)) (l0_1.length : Int)) (wrap64 ((Int.tmod (wrap64 (a2)) (wrap64 (((rd_L2 l0_1 (Int.tmod (wrap64 (a1)) (l0_1.length : Int))).length : Int) - 1))) + 1))).bind fun t205 => ((adm_Slots.f l0_0 l0_1).bind fun t206 => ((fencepostref08_Has.f k t206 t205).bind fun t209 => (if 0 ≤ (wrap64 ((Int.tmod (wrap64 (a2)) (wrap64 (((rd_L2 l0_1 (Int.tmod (wrap64 (a1)) (l0_1.length : Int))).length : Int) - 1))) + 1)) then (if (wrap64 ((Int.tmod (wrap64 (a2)) (wrap64 (((rd_L2 l0_1 (Int.tmod (wrap64 (a1)) (l0_1.length : Int))).length : Int) - 1))) + 1)) < ((rd_L2 l0_1 (Int.tmod (wrap64 (a1)) (l0_1.length : Int))).length : Int) then (fencepostlaw19_AdmBehind.l0 k t202 (rd_L2 l0_1 (Int.tmod (wrap64 (a1)) (l0_1.length : Int))) (Int.tmod (wrap64 (a2)) (wrap64 (((rd_L2 l0_1 (Int.tmod (wrap64 (a1)) (l0_1.length : Int))).length : Int) - 1))) t209 ((rd_T49 (rd_L2 l0_1 (Int.tmod (wrap64 (a1)) (l0_1.length : Int))) (wrap64 ((Int.tmod (wrap64 (a2)) (wrap64 (((rd_L2 l0_1 (Int.tmod (wrap64 (a1)) (l0_1.length : Int))).length : Int) - 1))) + 1))).f0) false true 0) else (none)) else (none))))))) else (none)) else (none))))) = some r := H
  have A4 := Aside0.mk A40
  clear A40
  replace H := Option.bind_eq_some_iff.mp H
  obtain ⟨t203, A50, H⟩ := H
  replace H : (if t203 = true then (some t202) else (if (l0_1.length : Int) = 0 then (none) else (if 0 ≤ (Int.tmod (wrap64 (a1)) (l0_1.length : Int)) then (if (Int.tmod (wrap64 (a1)) (l0_1.length : Int)) < (l0_1.length : Int) then (if ((rd_L2 l0_1 (Int.tmod (wrap64 (a1)) (l0_1.length : Int))).length : Int) < 2 then (some t202) else (if (wrap64 (((rd_L2 l0_1 (Int.tmod (wrap64 (a1)) (l0_1.length : Int))).length : Int) - 1)) = 0 then (none) else ((fencepostref08_Num.f k l0_0 l0_1 (Int.tmod (wrap64 (a1)) (l0_1.length : Int)) (wrap64 ((Int.tmod (wrap64 (a2)) (wrap64 (((rd_L2 l0_1 (Int.tmod (wrap64 (a1)) (l0_1.length : Int))).length : Int) - 1))) + 1))).bind fun t205 => ((adm_Slots.f l0_0 l0_1).bind fun t206 => ((fencepostref08_Has.f k t206 t205).bind fun t209 => (if 0 ≤ (wrap64 ((Int.tmod (wrap64 (a2)) (wrap64 (((rd_L2 l0_1 (Int.tmod (wrap64 (a1)) (l0_1.length : Int))).length : Int) - 1))) + 1)) then (if (wrap64 ((Int.tmod (wrap64 (a2)) (wrap64 (((rd_L2 l0_1 (Int.tmod (wrap64 (a1)) (l0_1.length : Int))).length : Int) - 1))) + 1)) < ((rd_L2 l0_1 (Int.tmod (wrap64 (a1)) (l0_1.length : Int))).length : Int) then (fencepostlaw19_AdmBehind.l0 k t202 (rd_L2 l0_1 (Int.tmod (wrap64 (a1)) (l0_1.length : Int))) (Int.tmod (wrap64 (a2)) (wrap64 (((rd_L2 l0_1 (Int.tmod (wrap64 (a1)) (l0_1.length : Int))).length : Int) - 1))) t209 ((rd_T49 (rd_L2 l0_1 (Int.tmod (wrap64 (a1)) (l0_1.length : Int))) (wrap64 ((Int.tmod (wrap64 (a2)) (wrap64 (((rd_L2 l0_1 (Int.tmod (wrap64 (a1)) (l0_1.length : Int))).length : Int) - 1))) + 1))).f0) false true 0) else (none)) else (none))))))) else (none)) else (none)))) = some r := H
  have A5 := Aside0.mk A50
  clear A50
  by_cases c6 : t203 = true
  · subst c6
    have H1 : (some t202) = some r := by rw [if_pos rfl] at H; exact H
    clear H
    have H := H1
    clear H1
    obtain rfl := Option.some.inj H
    go_enter Try.func8, Try.ntmps8
    (try simp only [List.append_eq, List.cons_append, List.nil_append])
    go_wp2_with (first | ((with_reducible refine gate_dst (N := 3) rfl ?_); refine box_event ?hg (N := 3) ?hd (cs := #[.slice A0_0 l0_0.length c0_0, .slice A0_1 l0_1.length c0_1]) (t := 25) ?hr ?_; (case hd => rfl); (case hg => rfl); (case hr => first | (go_simp; done) | (go_simp; rfl)); intro gb201 hg w7 hbox hb; have n0_ := Aside0.mk (below_step (by repeat (first | (with_reducible first | exact HB.out | apply below_alloc | apply pw_below_drewN | apply below_drew1) | exact HB.out)) hb); have n1_ := Aside0.mk (hbox); have n2_ := Aside0.mk ((by rw [hg]; exact (below_size (by repeat (first | (with_reducible first | exact HB.out | apply below_alloc | apply pw_below_drewN | apply below_drew1) | exact HB.out))) : w.heap.size ≤ gb201)); have n3_ := Aside0.mk ((by rw [hg]; exact (below_size (by repeat (first | (with_reducible first | exact HB.out | apply below_alloc | apply pw_below_drewN | apply below_drew1) | exact HB.out))) : w.heap.size ≤ gb201)); clear HB; have HB := n0_; have BK201 := n1_; have GW201 := n2_; have GE201 := n3_; clear n0_ n1_ n2_ n3_; clear hb hbox hg) | ((with_reducible refine gate_callee (f := 9) rfl ?_); refine goesL_ (some 17) rfl rfl Try.func9 (by kernel_rfl) rfl #[] rfl (by (try simp only [List.map_toArray, List.map_cons, List.map_nil]); first | done | rfl | (simp only [List.length_drop, List.length_take]; rfl)) ?_; (with_reducible refine (fencepostlaw19_head.calls k  t202 _ A4.out).mono ?_); rintro e w8 ⟨rfl, hb⟩; refine ⟨_, rfl, ?_⟩; have n0_ := Aside0.mk (blk_below (g := gb201) (o := .cells #[.slice A0_0 l0_0.length c0_0, .slice A0_1 l0_1.length c0_1] 25 (0, 0)) (by (with_reducible repeat (first | refine blk_drewN ?_ _ | refine blk_drew ?_ | refine blk_alloc ?_ _)); exact BK201.out) hb); have n1_ := Aside0.mk (below_step (by repeat (first | (with_reducible first | exact HB.out | apply below_alloc | apply pw_below_drewN | apply below_drew1 | refine below_set ?_ GE201.out) | exact HB.out)) hb); clear BK201; clear HB; have BK201 := n0_; have HB := n1_; clear n0_ n1_; (try clear hb); (try clear hb2); (try clear hk); (try clear hi); have hcz9_0 : w8.cell? ⟨gb201, 0, none⟩ = some (.slice A0_0 l0_0.length c0_0) := (blk_cell BK201.out 0).trans rfl; have hcz9_1 : w8.cell? ⟨gb201, 1, none⟩ = some (.slice A0_1 l0_1.length c0_1) := (blk_cell BK201.out 1).trans rfl; have hfz9_0 := blk_frozen BK201.out 0; have hfz9_1 := blk_frozen BK201.out 1) | ((with_reducible refine gate_callee (f := 10) rfl ?_); refine goesL_ (some 19) rfl rfl Try.func10 (by kernel_rfl) rfl #[.agg #[.slice A0_0 l0_0.length c0_0, .slice A0_1 l0_1.length c0_1]] rfl (by (try simp only [List.map_toArray, List.map_cons, List.map_nil]); first | done | rfl | (simp only [List.length_drop, List.length_take]; rfl)) ?_; (with_reducible refine (fencepostlaw08_Great.calls k _ _ l0_0 _ _ l0_1 true _ ?side1 ?side2 ?side3 ?side4 A5.out).mono ?_); (case side1 => repeat (first | exact (Kd.C_below HR0_0.out HB.out) | (with_reducible refine Kd.C_alloc ?_ _) | (with_reducible refine Kd.C_drewN ?_ _) | (with_reducible refine Kd.C_drew ?_))); (case side2 => exact HC0_0.out); (case side3 => repeat (first | exact (Kd.C_below HR0_1.out HB.out) | (with_reducible refine Kd.C_alloc ?_ _) | (with_reducible refine Kd.C_drewN ?_ _) | (with_reducible refine Kd.C_drew ?_))); (case side4 => exact HC0_1.out); rintro e w10 ⟨rfl, hb⟩; refine ⟨_, rfl, ?_⟩; have n0_ := Aside0.mk (blk_below (g := gb201) (o := .cells #[.slice A0_0 l0_0.length c0_0, .slice A0_1 l0_1.length c0_1] 25 (0, 0)) (by (with_reducible repeat (first | refine blk_drewN ?_ _ | refine blk_drew ?_ | refine blk_alloc ?_ _)); exact BK201.out) hb); have n1_ := Aside0.mk (below_step (by repeat (first | (with_reducible first | exact HB.out | apply below_alloc | apply pw_below_drewN | apply below_drew1 | refine below_set ?_ GE201.out) | exact HB.out)) hb); clear BK201; clear HB; have BK201 := n0_; have HB := n1_; clear n0_ n1_; (try clear hb); (try clear hb2); (try clear hk); (try clear hi)))
    go_ret
    exact ⟨by first | rfl | (simp [errW_none, errW_some] <;> rfl) | (simp [*, errW_none, errW_some] <;> rfl), by repeat (first | (with_reducible first | exact HB.out | apply below_alloc | apply pw_below_drewN | apply below_drew1 | refine below_set ?_ GE201.out) | exact HB.out)⟩
  · replace c6 := Bool.eq_false_iff.mpr c6
    subst c6
    have H1 : (if (l0_1.length : Int) = 0 then (none) else (if 0 ≤ (Int.tmod (wrap64 (a1)) (l0_1.length : Int)) then (if (Int.tmod (wrap64 (a1)) (l0_1.length : Int)) < (l0_1.length : Int) then (if ((rd_L2 l0_1 (Int.tmod (wrap64 (a1)) (l0_1.length : Int))).length : Int) < 2 then (some t202) else (if (wrap64 (((rd_L2 l0_1 (Int.tmod (wrap64 (a1)) (l0_1.length : Int))).length : Int) - 1)) = 0 then (none) else ((fencepostref08_Num.f k l0_0 l0_1 (Int.tmod (wrap64 (a1)) (l0_1.length : Int)) (wrap64 ((Int.tmod (wrap64 (a2)) (wrap64 (((rd_L2 l0_1 (Int.tmod (wrap64 (a1)) (l0_1.length : Int))).length : Int) - 1))) + 1))).bind fun t205 => ((adm_Slots.f l0_0 l0_1).bind fun t206 => ((fencepostref08_Has.f k t206 t205).bind fun t209 => (if 0 ≤ (wrap64 ((Int.tmod (wrap64 (a2)) (wrap64 (((rd_L2 l0_1 (Int.tmod (wrap64 (a1)) (l0_1.length : Int))).length : Int) - 1))) + 1)) then (if (wrap64 ((Int.tmod (wrap64 (a2)) (wrap64 (((rd_L2 l0_1 (Int.tmod (wrap64 (a1)) (l0_1.length : Int))).length : Int) - 1))) + 1)) < ((rd_L2 l0_1 (Int.tmod (wrap64 (a1)) (l0_1.length : Int))).length : Int) then (fencepostlaw19_AdmBehind.l0 k t202 (rd_L2 l0_1 (Int.tmod (wrap64 (a1)) (l0_1.length : Int))) (Int.tmod (wrap64 (a2)) (wrap64 (((rd_L2 l0_1 (Int.tmod (wrap64 (a1)) (l0_1.length : Int))).length : Int) - 1))) t209 ((rd_T49 (rd_L2 l0_1 (Int.tmod (wrap64 (a1)) (l0_1.length : Int))) (wrap64 ((Int.tmod (wrap64 (a2)) (wrap64 (((rd_L2 l0_1 (Int.tmod (wrap64 (a1)) (l0_1.length : Int))).length : Int) - 1))) + 1))).f0) false true 0) else (none)) else (none))))))) else (none)) else (none))) = some r := by rw [if_neg (show ¬ (false = true) by decide)] at H; exact H
    clear H
    have H := H1
    clear H1
    by_cases c11 : (l0_1.length : Int) = 0
    · rw [if_pos c11] at H
      exact absurd H (by simp)
    · rw [if_neg c11] at H
      have c11b0 : ((l0_1.length : Int) == 0) = false := beq_eq_false_iff_ne.mpr c11
      have c11b1 : ((l0_1.length : Int) != 0) = true := bne_iff_ne.mpr c11
      have c11b2 : ¬ (l0_1 = []) := fun h_ => c11 (by rw [h_]; rfl)
      obtain ⟨ji12, hji12⟩ : ∃ j_ : Int, (Int.tmod (wrap64 (a1)) (l0_1.length : Int)) = j_ := ⟨_, rfl⟩
      replace H : (if 0 ≤ (ji12) then (if (ji12) < (l0_1.length : Int) then (if ((rd_L2 l0_1 (ji12)).length : Int) < 2 then (some t202) else (if (wrap64 (((rd_L2 l0_1 (ji12)).length : Int) - 1)) = 0 then (none) else ((fencepostref08_Num.f k l0_0 l0_1 (ji12) (wrap64 ((Int.tmod (wrap64 (a2)) (wrap64 (((rd_L2 l0_1 (ji12)).length : Int) - 1))) + 1))).bind fun t205 => ((adm_Slots.f l0_0 l0_1).bind fun t206 => ((fencepostref08_Has.f k t206 t205).bind fun t209 => (if 0 ≤ (wrap64 ((Int.tmod (wrap64 (a2)) (wrap64 (((rd_L2 l0_1 (ji12)).length : Int) - 1))) + 1)) then (if (wrap64 ((Int.tmod (wrap64 (a2)) (wrap64 (((rd_L2 l0_1 (ji12)).length : Int) - 1))) + 1)) < ((rd_L2 l0_1 (ji12)).length : Int) then (fencepostlaw19_AdmBehind.l0 k t202 (rd_L2 l0_1 (ji12)) (Int.tmod (wrap64 (a2)) (wrap64 (((rd_L2 l0_1 (ji12)).length : Int) - 1))) t209 ((rd_T49 (rd_L2 l0_1 (ji12)) (wrap64 ((Int.tmod (wrap64 (a2)) (wrap64 (((rd_L2 l0_1 (ji12)).length : Int) - 1))) + 1))).f0) false true 0) else (none)) else (none))))))) else (none)) else (none)) = some r := by first | (rw [hji12] at H; exact H) | (simp only [hji12] at H ⊢; exact H)
      (try rw [hji12] at A4)
      (try rw [hji12] at A5)
      by_cases c13 : 0 ≤ (ji12)
      · rw [if_pos c13] at H
        have c13b0 : decide (0 ≤ (ji12)) = true := decide_eq_true c13
        clear c13
        by_cases c14 : (ji12) < (l0_1.length : Int)
        · rw [if_pos c14] at H
          have c14b0 : decide ((ji12) < (l0_1.length : Int)) = true := decide_eq_true c14
          clear c14
          by_cases c15 : ((rd_L2 l0_1 (ji12)).length : Int) < 2
          · rw [if_pos c15] at H
            have c15b0 : decide (((rd_L2 l0_1 (ji12)).length : Int) < 2) = true := decide_eq_true c15
            have c15b1 : decide ((rd_L2 l0_1 (ji12)).length < 2) = true := decide_eq_true (by omega)
            clear c15
            obtain rfl := Option.some.inj H
            go_enter Try.func8, Try.ntmps8
            (try simp only [List.append_eq, List.cons_append, List.nil_append])
            go_wp2_with (first | ((with_reducible refine gate_dst (N := 3) rfl ?_); refine box_event ?hg (N := 3) ?hd (cs := #[.slice A0_0 l0_0.length c0_0, .slice A0_1 l0_1.length c0_1]) (t := 25) ?hr ?_; (case hd => rfl); (case hg => rfl); (case hr => first | (go_simp; done) | (go_simp; rfl)); intro gb201 hg w16 hbox hb; have n0_ := Aside0.mk (below_step (by repeat (first | (with_reducible first | exact HB.out | apply below_alloc | apply pw_below_drewN | apply below_drew1) | exact HB.out)) hb); have n1_ := Aside0.mk (hbox); have n2_ := Aside0.mk ((by rw [hg]; exact (below_size (by repeat (first | (with_reducible first | exact HB.out | apply below_alloc | apply pw_below_drewN | apply below_drew1) | exact HB.out))) : w.heap.size ≤ gb201)); have n3_ := Aside0.mk ((by rw [hg]; exact (below_size (by repeat (first | (with_reducible first | exact HB.out | apply below_alloc | apply pw_below_drewN | apply below_drew1) | exact HB.out))) : w.heap.size ≤ gb201)); clear HB; have HB := n0_; have BK201 := n1_; have GW201 := n2_; have GE201 := n3_; clear n0_ n1_ n2_ n3_; clear hb hbox hg) | ((with_reducible refine gate_callee (f := 9) rfl ?_); refine goesL_ (some 17) rfl rfl Try.func9 (by kernel_rfl) rfl #[] rfl (by (try simp only [List.map_toArray, List.map_cons, List.map_nil]); first | done | rfl | (simp only [List.length_drop, List.length_take]; rfl)) ?_; (with_reducible refine (fencepostlaw19_head.calls k  t202 _ A4.out).mono ?_); rintro e w17 ⟨rfl, hb⟩; refine ⟨_, rfl, ?_⟩; have n0_ := Aside0.mk (blk_below (g := gb201) (o := .cells #[.slice A0_0 l0_0.length c0_0, .slice A0_1 l0_1.length c0_1] 25 (0, 0)) (by (with_reducible repeat (first | refine blk_drewN ?_ _ | refine blk_drew ?_ | refine blk_alloc ?_ _)); exact BK201.out) hb); have n1_ := Aside0.mk (below_step (by repeat (first | (with_reducible first | exact HB.out | apply below_alloc | apply pw_below_drewN | apply below_drew1 | refine below_set ?_ GE201.out) | exact HB.out)) hb); clear BK201; clear HB; have BK201 := n0_; have HB := n1_; clear n0_ n1_; (try clear hb); (try clear hb2); (try clear hk); (try clear hi); have hcz18_0 : w17.cell? ⟨gb201, 0, none⟩ = some (.slice A0_0 l0_0.length c0_0) := (blk_cell BK201.out 0).trans rfl; have hcz18_1 : w17.cell? ⟨gb201, 1, none⟩ = some (.slice A0_1 l0_1.length c0_1) := (blk_cell BK201.out 1).trans rfl; have hfz18_0 := blk_frozen BK201.out 0; have hfz18_1 := blk_frozen BK201.out 1) | ((with_reducible refine gate_callee (f := 10) rfl ?_); refine goesL_ (some 19) rfl rfl Try.func10 (by kernel_rfl) rfl #[.agg #[.slice A0_0 l0_0.length c0_0, .slice A0_1 l0_1.length c0_1]] rfl (by (try simp only [List.map_toArray, List.map_cons, List.map_nil]); first | done | rfl | (simp only [List.length_drop, List.length_take]; rfl)) ?_; (with_reducible refine (fencepostlaw08_Great.calls k _ _ l0_0 _ _ l0_1 false _ ?side1 ?side2 ?side3 ?side4 A5.out).mono ?_); (case side1 => repeat (first | exact (Kd.C_below HR0_0.out HB.out) | (with_reducible refine Kd.C_alloc ?_ _) | (with_reducible refine Kd.C_drewN ?_ _) | (with_reducible refine Kd.C_drew ?_))); (case side2 => exact HC0_0.out); (case side3 => repeat (first | exact (Kd.C_below HR0_1.out HB.out) | (with_reducible refine Kd.C_alloc ?_ _) | (with_reducible refine Kd.C_drewN ?_ _) | (with_reducible refine Kd.C_drew ?_))); (case side4 => exact HC0_1.out); rintro e w19 ⟨rfl, hb⟩; refine ⟨_, rfl, ?_⟩; have n0_ := Aside0.mk (blk_below (g := gb201) (o := .cells #[.slice A0_0 l0_0.length c0_0, .slice A0_1 l0_1.length c0_1] 25 (0, 0)) (by (with_reducible repeat (first | refine blk_drewN ?_ _ | refine blk_drew ?_ | refine blk_alloc ?_ _)); exact BK201.out) hb); have n1_ := Aside0.mk (below_step (by repeat (first | (with_reducible first | exact HB.out | apply below_alloc | apply pw_below_drewN | apply below_drew1 | refine below_set ?_ GE201.out) | exact HB.out)) hb); clear BK201; clear HB; have BK201 := n0_; have HB := n1_; clear n0_ n1_; (try clear hb); (try clear hb2); (try clear hk); (try clear hi); have hcz20_0 : w19.cell? ⟨gb201, 0, none⟩ = some (.slice A0_0 l0_0.length c0_0) := (blk_cell BK201.out 0).trans rfl; have hcz20_1 : w19.cell? ⟨gb201, 1, none⟩ = some (.slice A0_1 l0_1.length c0_1) := (blk_cell BK201.out 1).trans rfl; have hfz20_0 := blk_frozen BK201.out 0; have hfz20_1 := blk_frozen BK201.out 1; have p204 : 0 ≤ ((ji12) : Int) := of_decide_eq_true (by first | (with_reducible assumption) | assumption); have q204 : (ji12) < (l0_1.length : Int) := of_decide_eq_true (by first | (with_reducible assumption) | assumption); obtain ⟨ad204, A204_0, c204_0, e204, hx204_0, hl204_0, hi204_0⟩ := at_L2 HR0_1.out (ji12) p204 q204; cases e204; replace hx204_0 := (HB.out.cell (World.block_lt_of_cell? w _ hx204_0)).trans hx204_0; have HR204_0 := Aside0.mk hi204_0; have HC204_0 := Aside0.mk hl204_0; clear hi204_0 hl204_0; replace p204 := eq_true p204; replace q204 := eq_true q204))
            go_ret
            exact ⟨by first | rfl | (simp [errW_none, errW_some] <;> rfl) | (simp only [← hji12]; first | rfl | (simp [errW_none, errW_some] <;> rfl)) | (simp [*, errW_none, errW_some] <;> rfl), by repeat (first | (with_reducible first | exact HB.out | apply below_alloc | apply pw_below_drewN | apply below_drew1 | refine below_set ?_ GE201.out) | exact HB.out)⟩
          · rw [if_neg c15] at H
            have c15b0 : decide (((rd_L2 l0_1 (ji12)).length : Int) < 2) = false := decide_eq_false c15
            have c15b1 : decide ((rd_L2 l0_1 (ji12)).length < 2) = false := decide_eq_false (by omega)
            clear c15
            by_cases c21 : (wrap64 (((rd_L2 l0_1 (ji12)).length : Int) - 1)) = 0
            · rw [if_pos c21] at H
              exact absurd H (by simp)
            · rw [if_neg c21] at H
              have c21b0 : ((wrap64 (((rd_L2 l0_1 (ji12)).length : Int) - 1)) == 0) = false := beq_eq_false_iff_ne.mpr c21
              have c21b1 : ((wrap64 (((rd_L2 l0_1 (ji12)).length : Int) - 1)) != 0) = true := bne_iff_ne.mpr c21
              replace H := Option.bind_eq_some_iff.mp H
              obtain ⟨t205, A220, H⟩ := H
              replace H : ((adm_Slots.f l0_0 l0_1).bind fun t206 => ((fencepostref08_Has.f k t206 t205).bind fun t209 => (if 0 ≤ (wrap64 ((Int.tmod (wrap64 (a2)) (wrap64 (((rd_L2 l0_1 (ji12)).length : Int) - 1))) + 1)) then (if (wrap64 ((Int.tmod (wrap64 (a2)) (wrap64 (((rd_L2 l0_1 (ji12)).length : Int) - 1))) + 1)) < ((rd_L2 l0_1 (ji12)).length : Int) then (fencepostlaw19_AdmBehind.l0 k t202 (rd_L2 l0_1 (ji12)) (Int.tmod (wrap64 (a2)) (wrap64 (((rd_L2 l0_1 (ji12)).length : Int) - 1))) t209 ((rd_T49 (rd_L2 l0_1 (ji12)) (wrap64 ((Int.tmod (wrap64 (a2)) (wrap64 (((rd_L2 l0_1 (ji12)).length : Int) - 1))) + 1))).f0) false true 0) else (none)) else (none)))) = some r := H
              have A22 := Aside0.mk A220
              clear A220
              replace H := Option.bind_eq_some_iff.mp H
              obtain ⟨t206, A230, H⟩ := H
              replace H : ((fencepostref08_Has.f k t206 t205).bind fun t209 => (if 0 ≤ (wrap64 ((Int.tmod (wrap64 (a2)) (wrap64 (((rd_L2 l0_1 (ji12)).length : Int) - 1))) + 1)) then (if (wrap64 ((Int.tmod (wrap64 (a2)) (wrap64 (((rd_L2 l0_1 (ji12)).length : Int) - 1))) + 1)) < ((rd_L2 l0_1 (ji12)).length : Int) then (fencepostlaw19_AdmBehind.l0 k t202 (rd_L2 l0_1 (ji12)) (Int.tmod (wrap64 (a2)) (wrap64 (((rd_L2 l0_1 (ji12)).length : Int) - 1))) t209 ((rd_T49 (rd_L2 l0_1 (ji12)) (wrap64 ((Int.tmod (wrap64 (a2)) (wrap64 (((rd_L2 l0_1 (ji12)).length : Int) - 1))) + 1))).f0) false true 0) else (none)) else (none))) = some r := H
              have A23 := Aside0.mk A230
              clear A230
              replace H := Option.bind_eq_some_iff.mp H
              obtain ⟨t209, A240, H⟩ := H
              replace H : (if 0 ≤ (wrap64 ((Int.tmod (wrap64 (a2)) (wrap64 (((rd_L2 l0_1 (ji12)).length : Int) - 1))) + 1)) then (if (wrap64 ((Int.tmod (wrap64 (a2)) (wrap64 (((rd_L2 l0_1 (ji12)).length : Int) - 1))) + 1)) < ((rd_L2 l0_1 (ji12)).length : Int) then (fencepostlaw19_AdmBehind.l0 k t202 (rd_L2 l0_1 (ji12)) (Int.tmod (wrap64 (a2)) (wrap64 (((rd_L2 l0_1 (ji12)).length : Int) - 1))) t209 ((rd_T49 (rd_L2 l0_1 (ji12)) (wrap64 ((Int.tmod (wrap64 (a2)) (wrap64 (((rd_L2 l0_1 (ji12)).length : Int) - 1))) + 1))).f0) false true 0) else (none)) else (none)) = some r := H
              have A24 := Aside0.mk A240
              clear A240
              obtain ⟨ji25, hji25⟩ : ∃ j_ : Int, (wrap64 ((Int.tmod (wrap64 (a2)) (wrap64 (((rd_L2 l0_1 (ji12)).length : Int) - 1))) + 1)) = j_ := ⟨_, rfl⟩
              replace H : (if 0 ≤ (ji25) then (if (ji25) < ((rd_L2 l0_1 (ji12)).length : Int) then (fencepostlaw19_AdmBehind.l0 k t202 (rd_L2 l0_1 (ji12)) (Int.tmod (wrap64 (a2)) (wrap64 (((rd_L2 l0_1 (ji12)).length : Int) - 1))) t209 ((rd_T49 (rd_L2 l0_1 (ji12)) (ji25)).f0) false true 0) else (none)) else (none)) = some r := by first | (rw [hji25] at H; exact H) | (simp only [hji25] at H ⊢; exact H)
              (try rw [hji25] at A4)
              (try rw [hji25] at A5)
              (try rw [hji25] at A22)
              (try rw [hji25] at A23)
              (try rw [hji25] at A24)
              have hji25w : (IntKind.i64.wrap ((Int.tmod (wrap64 (a2)) (wrap64 (((rd_L2 l0_1 (ji12)).length : Int) - 1))) + 1)) = ji25 := (i64_w _).trans hji25
              by_cases c26 : 0 ≤ (ji25)
              · rw [if_pos c26] at H
                have c26b0 : decide (0 ≤ (ji25)) = true := decide_eq_true c26
                clear c26
                by_cases c27 : (ji25) < ((rd_L2 l0_1 (ji12)).length : Int)
                · rw [if_pos c27] at H
                  have c27b0 : decide ((ji25) < ((rd_L2 l0_1 (ji12)).length : Int)) = true := decide_eq_true c27
                  clear c27
                  have H' := Aside0.mk H
                  clear H
                  go_enter Try.func8, Try.ntmps8
                  (try simp only [List.append_eq, List.cons_append, List.nil_append])
                  go_wp2_with (first | ((with_reducible refine gate_dst (N := 3) rfl ?_); refine box_event ?hg (N := 3) ?hd (cs := #[.slice A0_0 l0_0.length c0_0, .slice A0_1 l0_1.length c0_1]) (t := 25) ?hr ?_; (case hd => rfl); (case hg => rfl); (case hr => first | (go_simp; done) | (go_simp; rfl)); intro gb201 hg w28 hbox hb; have n0_ := Aside0.mk (below_step (by repeat (first | (with_reducible first | exact HB.out | apply below_alloc | apply pw_below_drewN | apply below_drew1) | exact HB.out)) hb); have n1_ := Aside0.mk (hbox); have n2_ := Aside0.mk ((by rw [hg]; exact (below_size (by repeat (first | (with_reducible first | exact HB.out | apply below_alloc | apply pw_below_drewN | apply below_drew1) | exact HB.out))) : w.heap.size ≤ gb201)); have n3_ := Aside0.mk ((by rw [hg]; exact (below_size (by repeat (first | (with_reducible first | exact HB.out | apply below_alloc | apply pw_below_drewN | apply below_drew1) | exact HB.out))) : w.heap.size ≤ gb201)); clear HB; have HB := n0_; have BK201 := n1_; have GW201 := n2_; have GE201 := n3_; clear n0_ n1_ n2_ n3_; clear hb hbox hg) | ((with_reducible refine gate_callee (f := 9) rfl ?_); refine goesL_ (some 17) rfl rfl Try.func9 (by kernel_rfl) rfl #[] rfl (by (try simp only [List.map_toArray, List.map_cons, List.map_nil]); first | done | rfl | (simp only [List.length_drop, List.length_take]; rfl)) ?_; (with_reducible refine (fencepostlaw19_head.calls k  t202 _ A4.out).mono ?_); rintro e w29 ⟨rfl, hb⟩; refine ⟨_, rfl, ?_⟩; have n0_ := Aside0.mk (blk_below (g := gb201) (o := .cells #[.slice A0_0 l0_0.length c0_0, .slice A0_1 l0_1.length c0_1] 25 (0, 0)) (by (with_reducible repeat (first | refine blk_drewN ?_ _ | refine blk_drew ?_ | refine blk_alloc ?_ _)); exact BK201.out) hb); have n1_ := Aside0.mk (below_step (by repeat (first | (with_reducible first | exact HB.out | apply below_alloc | apply pw_below_drewN | apply below_drew1 | refine below_set ?_ GE201.out) | exact HB.out)) hb); clear BK201; clear HB; have BK201 := n0_; have HB := n1_; clear n0_ n1_; (try clear hb); (try clear hb2); (try clear hk); (try clear hi); have hcz30_0 : w29.cell? ⟨gb201, 0, none⟩ = some (.slice A0_0 l0_0.length c0_0) := (blk_cell BK201.out 0).trans rfl; have hcz30_1 : w29.cell? ⟨gb201, 1, none⟩ = some (.slice A0_1 l0_1.length c0_1) := (blk_cell BK201.out 1).trans rfl; have hfz30_0 := blk_frozen BK201.out 0; have hfz30_1 := blk_frozen BK201.out 1) | ((with_reducible refine gate_callee (f := 10) rfl ?_); refine goesL_ (some 19) rfl rfl Try.func10 (by kernel_rfl) rfl #[.agg #[.slice A0_0 l0_0.length c0_0, .slice A0_1 l0_1.length c0_1]] rfl (by (try simp only [List.map_toArray, List.map_cons, List.map_nil]); first | done | rfl | (simp only [List.length_drop, List.length_take]; rfl)) ?_; (with_reducible refine (fencepostlaw08_Great.calls k _ _ l0_0 _ _ l0_1 false _ ?side1 ?side2 ?side3 ?side4 A5.out).mono ?_); (case side1 => repeat (first | exact (Kd.C_below HR0_0.out HB.out) | (with_reducible refine Kd.C_alloc ?_ _) | (with_reducible refine Kd.C_drewN ?_ _) | (with_reducible refine Kd.C_drew ?_))); (case side2 => exact HC0_0.out); (case side3 => repeat (first | exact (Kd.C_below HR0_1.out HB.out) | (with_reducible refine Kd.C_alloc ?_ _) | (with_reducible refine Kd.C_drewN ?_ _) | (with_reducible refine Kd.C_drew ?_))); (case side4 => exact HC0_1.out); rintro e w31 ⟨rfl, hb⟩; refine ⟨_, rfl, ?_⟩; have n0_ := Aside0.mk (blk_below (g := gb201) (o := .cells #[.slice A0_0 l0_0.length c0_0, .slice A0_1 l0_1.length c0_1] 25 (0, 0)) (by (with_reducible repeat (first | refine blk_drewN ?_ _ | refine blk_drew ?_ | refine blk_alloc ?_ _)); exact BK201.out) hb); have n1_ := Aside0.mk (below_step (by repeat (first | (with_reducible first | exact HB.out | apply below_alloc | apply pw_below_drewN | apply below_drew1 | refine below_set ?_ GE201.out) | exact HB.out)) hb); clear BK201; clear HB; have BK201 := n0_; have HB := n1_; clear n0_ n1_; (try clear hb); (try clear hb2); (try clear hk); (try clear hi); have hcz32_0 : w31.cell? ⟨gb201, 0, none⟩ = some (.slice A0_0 l0_0.length c0_0) := (blk_cell BK201.out 0).trans rfl; have hcz32_1 : w31.cell? ⟨gb201, 1, none⟩ = some (.slice A0_1 l0_1.length c0_1) := (blk_cell BK201.out 1).trans rfl; have hfz32_0 := blk_frozen BK201.out 0; have hfz32_1 := blk_frozen BK201.out 1; have p204 : 0 ≤ ((ji12) : Int) := of_decide_eq_true (by first | (with_reducible assumption) | assumption); have q204 : (ji12) < (l0_1.length : Int) := of_decide_eq_true (by first | (with_reducible assumption) | assumption); obtain ⟨ad204, A204_0, c204_0, e204, hx204_0, hl204_0, hi204_0⟩ := at_L2 HR0_1.out (ji12) p204 q204; cases e204; replace hx204_0 := (HB.out.cell (World.block_lt_of_cell? w _ hx204_0)).trans hx204_0; have HR204_0 := Aside0.mk hi204_0; have HC204_0 := Aside0.mk hl204_0; clear hi204_0 hl204_0; replace p204 := eq_true p204; replace q204 := eq_true q204) | ((with_reducible refine gate_callee (f := 25) rfl ?_); refine goesL_ (some 46) rfl rfl Try.func25 (by kernel_rfl) rfl #[.agg #[.slice A0_0 l0_0.length c0_0, .slice (some ad204) l0_1.length c0_1], .int .i64 ji12, .int .i64 ji25] rfl (by (try simp only [List.map_toArray, List.map_cons, List.map_nil]); first | done | (simp only [hji12, hji25]; rfl) | rfl | (simp only [List.length_drop, List.length_take]; rfl)) ?_; (with_reducible refine (fencepostref08_Num.calls k _ _ l0_0 _ _ l0_1 ji12 ji25 t205 _ ?side1 ?side2 ?side3 ?side4 A22.out).mono ?_); (case side1 => repeat (first | exact (Kd.C_below HR0_0.out HB.out) | (with_reducible refine Kd.C_alloc ?_ _) | (with_reducible refine Kd.C_drewN ?_ _) | (with_reducible refine Kd.C_drew ?_))); (case side2 => exact HC0_0.out); (case side3 => repeat (first | exact (Kd.C_below HR0_1.out HB.out) | (with_reducible refine Kd.C_alloc ?_ _) | (with_reducible refine Kd.C_drewN ?_ _) | (with_reducible refine Kd.C_drew ?_))); (case side4 => exact HC0_1.out); rintro e w33 ⟨rfl, hb⟩; refine ⟨_, rfl, ?_⟩; have n0_ := Aside0.mk (blk_below (g := gb201) (o := .cells #[.slice A0_0 l0_0.length c0_0, .slice (some ad204) l0_1.length c0_1] 25 (0, 0)) (by (with_reducible repeat (first | refine blk_drewN ?_ _ | refine blk_drew ?_ | refine blk_alloc ?_ _)); exact BK201.out) hb); have n1_ := Aside0.mk (below_step (by repeat (first | (with_reducible first | exact HB.out | apply below_alloc | apply pw_below_drewN | apply below_drew1 | refine below_set ?_ GE201.out) | exact HB.out)) hb); clear BK201; clear HB; have BK201 := n0_; have HB := n1_; clear n0_ n1_; (try clear hb); (try clear hb2); (try clear hk); (try clear hi); have hcz34_0 : w33.cell? ⟨gb201, 0, none⟩ = some (.slice A0_0 l0_0.length c0_0) := (blk_cell BK201.out 0).trans rfl; have hcz34_1 : w33.cell? ⟨gb201, 1, none⟩ = some (.slice (some ad204) l0_1.length c0_1) := (blk_cell BK201.out 1).trans rfl; have hfz34_0 := blk_frozen BK201.out 0; have hfz34_1 := blk_frozen BK201.out 1) | ((with_reducible refine gate_callee (f := 12) rfl ?_); refine goesL_ (some 48) rfl rfl Try.func12 (by kernel_rfl) rfl #[.agg #[.slice A0_0 l0_0.length c0_0, .slice (some ad204) l0_1.length c0_1]] rfl (by (try simp only [List.map_toArray, List.map_cons, List.map_nil]); first | done | rfl | (simp only [List.length_drop, List.length_take]; rfl)) ?_; (with_reducible refine (adm_Slots.calls _ _ l0_0 _ _ l0_1 t206 _ ?side1 ?side2 ?side3 ?side4 A23.out).mono ?_); (case side1 => repeat (first | exact (Kd.C_below HR0_0.out HB.out) | (with_reducible refine Kd.C_alloc ?_ _) | (with_reducible refine Kd.C_drewN ?_ _) | (with_reducible refine Kd.C_drew ?_))); (case side2 => exact HC0_0.out); (case side3 => repeat (first | exact (Kd.C_below HR0_1.out HB.out) | (with_reducible refine Kd.C_alloc ?_ _) | (with_reducible refine Kd.C_drewN ?_ _) | (with_reducible refine Kd.C_drew ?_))); (case side4 => exact HC0_1.out); rintro e w35 ⟨v207, rfl, ho0, hb⟩; refine ⟨_, rfl, ?_⟩; have n0_ := Aside0.mk (Kd.R_lower ho0 (below_size (by repeat (first | (with_reducible first | exact HB.out | apply below_alloc | apply pw_below_drewN | apply below_drew1 | refine below_set ?_ GE201.out) | exact HB.out)))); have n1_ := Aside0.mk (blk_below (g := gb201) (o := .cells #[.slice A0_0 l0_0.length c0_0, .slice (some ad204) l0_1.length c0_1] 25 (0, 0)) (by (with_reducible repeat (first | refine blk_drewN ?_ _ | refine blk_drew ?_ | refine blk_alloc ?_ _)); exact BK201.out) hb); have n2_ := Aside0.mk (below_step (by repeat (first | (with_reducible first | exact HB.out | apply below_alloc | apply pw_below_drewN | apply below_drew1 | refine below_set ?_ GE201.out) | exact HB.out)) hb); clear BK201; clear HB; have HO208 := n0_; have BK201 := n1_; have HB := n2_; clear n0_ n1_ n2_; (try clear hb); (try clear hb2); (try clear hk); (try clear hi); (try clear ho0); obtain ⟨Ao36, co36, eo36⟩ := Kd.R_slice HO208.out; subst eo36) | ((with_reducible refine gate_callee (f := 17) rfl ?_); refine goesL_ (some 50) rfl rfl Try.func17 (by kernel_rfl) rfl #[.slice Ao36 t206.length co36, .int .i64 t205] rfl (by (try simp only [List.map_toArray, List.map_cons, List.map_nil]); first | done | rfl | (simp only [List.length_drop, List.length_take]; rfl)) ?_; (with_reducible refine (fencepostref08_Has.calls k _ _ t206 t205 t209 _ ?side1 ?side2 A24.out).mono ?_); (case side1 => repeat (first | exact (Kd.R_reads' HO208.out).2.2 | (with_reducible refine Kd.C_alloc ?_ _) | (with_reducible refine Kd.C_drewN ?_ _) | (with_reducible refine Kd.C_drew ?_))); (case side2 => exact (Kd.R_reads' HO208.out).2.1); rintro e w' ⟨rfl, ⟨nd, rfl⟩⟩; refine ⟨_, rfl, ?_⟩; have p210 : 0 ≤ ((ji25) : Int) := of_decide_eq_true (by first | (with_reducible assumption) | assumption); have q210 : (ji25) < ((rd_L2 l0_1 (ji12)).length : Int) := of_decide_eq_true (by first | (with_reducible assumption) | assumption); obtain ⟨ad210, e210, hx210_0, hx210_1, hx210_2, hx210_3, hx210_4⟩ := at_T49 HR204_0.out (ji25) p210 q210; cases e210; replace hx210_0 := (HB.out.cell (World.block_lt_of_cell? w _ hx210_0)).trans hx210_0; replace hx210_1 := (HB.out.cell (World.block_lt_of_cell? w _ hx210_1)).trans hx210_1; replace hx210_2 := (HB.out.cell (World.block_lt_of_cell? w _ hx210_2)).trans hx210_2; replace hx210_3 := (HB.out.cell (World.block_lt_of_cell? w _ hx210_3)).trans hx210_3; replace hx210_4 := (HB.out.cell (World.block_lt_of_cell? w _ hx210_4)).trans hx210_4; replace p210 := eq_true p210; replace q210 := eq_true q210))
                  go_loopg [14, 15, 16] k (fun kq v14 v15 v16 w' => ∃ (x14_1 : Bool) (x15_1 : Bool) (x16_1 : Int), v14 = .bool x14_1 ∧ v15 = .bool x15_1 ∧ v16 = .int .i64 x16_1 ∧ Aside0 (fencepostlaw19_AdmBehind.l0 kq t202 (rd_L2 l0_1 (ji12)) (Int.tmod (wrap64 (a2)) (wrap64 (((rd_L2 l0_1 (ji12)).length : Int) - 1))) t209 ((rd_T49 (rd_L2 l0_1 (ji12)) (ji25)).f0) x14_1 x15_1 x16_1 = some r) ∧ Aside0 (kq ≤ k) ∧ Aside0 (w'.heap[gb201]? = some (.cells #[(.slice A0_0 l0_0.length c0_0), (.slice (some ad204) l0_1.length c0_1)] 25 (0, 0))) ∧ Aside0 (Below w.heap.size w w'))
                  case atStart => exact ⟨(false), (true), (0), (by first | rfl | (simp; done) | (simp [*]; done)), (by first | rfl | (simp; done) | (simp [*]; done)), (by first | rfl | (simp; done) | (simp [*]; done)), H', ⟨Nat.le_refl _⟩, ⟨by (with_reducible repeat (first | refine blk_drewN ?_ _ | refine blk_drew ?_ | refine blk_alloc ?_ _)); exact BK201.out⟩, ⟨by repeat (first | (with_reducible first | exact HB.out | apply below_alloc | apply pw_below_drewN | apply below_drew1 | refine below_set ?_ GE201.out) | exact HB.out)⟩⟩
                  case round =>
                    clear H'
                    try clear c1
                    try clear c2
                    try clear p2
                    try clear q2
                    try clear hx2
                    try clear c6
                    try clear p6
                    try clear c8
                    try clear c9
                    try clear c10
                    try clear c11
                    try clear c11b0
                    try clear c11b1
                    try clear c11b2
                    try clear c12
                    try clear c13
                    try clear c13b0
                    try clear c14
                    try clear c14b0
                    try clear c15
                    try clear c15b0
                    try clear c15b1
                    try clear c17
                    try clear c20
                    try clear p20
                    try clear q20
                    try clear hx20
                    try clear c21
                    try clear c21b0
                    try clear c21b1
                    try clear p21
                    try clear q21
                    try clear hx21
                    try clear c25
                    try clear c26
                    try clear c26b0
                    try clear c27
                    try clear c27b0
                    try clear hcz18_0
                    try clear hcz18_1
                    try clear hcz20_0
                    try clear hcz20_1
                    try clear hcz30_0
                    try clear hcz30_1
                    try clear hcz32_0
                    try clear hcz32_1
                    try clear hcz34_0
                    try clear hcz34_1
                    try clear hcz9_0
                    try clear hcz9_1
                    try clear hfz18_0
                    try clear hfz18_1
                    try clear hfz20_0
                    try clear hfz20_1
                    try clear hfz30_0
                    try clear hfz30_1
                    try clear hfz32_0
                    try clear hfz32_1
                    try clear hfz34_0
                    try clear hfz34_1
                    try clear hfz9_0
                    try clear hfz9_1
                    try clear hx204_0
                    try clear hx210_0
                    try clear hx210_1
                    try clear hx210_2
                    try clear hx210_3
                    try clear hx210_4
                    try clear p204
                    try clear p210
                    try clear q204
                    try clear q210
                    obtain ⟨x14_1, x15_1, x16_1, rfl, rfl, rfl, HA, HK1, BK201, HB⟩ := hrel
                    cases gk with
                    | zero => exact absurd HA.out (by simp [fencepostlaw19_AdmBehind.l0])
                    | succ k1 =>
                      have H := HA.out
                      clear HA
                      simp only [fencepostlaw19_AdmBehind.l0] at H
                      by_cases c37 : x16_1 < ((rd_L2 l0_1 (ji12)).length : Int)
                      · rw [if_pos c37] at H
                        have c37b0 : decide (x16_1 < ((rd_L2 l0_1 (ji12)).length : Int)) = true := decide_eq_true c37
                        clear c37
                        by_cases c38 : x14_1 = true
                        · subst c38
                          have H1 : (if x15_1 = true then (if 0 ≤ x16_1 then (fencepostlaw19_AdmBehind.l0 k1 t202 (rd_L2 l0_1 (ji12)) (Int.tmod (wrap64 (a2)) (wrap64 (((rd_L2 l0_1 (ji12)).length : Int) - 1))) t209 ((rd_T49 (rd_L2 l0_1 (ji12)) (ji25)).f0) true (decide (((rd_T49 (rd_L2 l0_1 (ji12)) x16_1).f0) < 8)) (wrap64 (x16_1 + 1))) else (none)) else (fencepostlaw19_AdmBehind.l0 k1 t202 (rd_L2 l0_1 (ji12)) (Int.tmod (wrap64 (a2)) (wrap64 (((rd_L2 l0_1 (ji12)).length : Int) - 1))) t209 ((rd_T49 (rd_L2 l0_1 (ji12)) (ji25)).f0) true false (wrap64 (x16_1 + 1)))) = some r := by rw [if_pos rfl] at H; exact H
                          clear H
                          have H := H1
                          clear H1
                          by_cases c39 : x15_1 = true
                          · subst c39
                            have H1 : (if 0 ≤ x16_1 then (fencepostlaw19_AdmBehind.l0 k1 t202 (rd_L2 l0_1 (ji12)) (Int.tmod (wrap64 (a2)) (wrap64 (((rd_L2 l0_1 (ji12)).length : Int) - 1))) t209 ((rd_T49 (rd_L2 l0_1 (ji12)) (ji25)).f0) true (decide (((rd_T49 (rd_L2 l0_1 (ji12)) x16_1).f0) < 8)) (wrap64 (x16_1 + 1))) else (none)) = some r := by rw [if_pos rfl] at H; exact H
                            clear H
                            have H := H1
                            clear H1
                            by_cases c40 : 0 ≤ x16_1
                            · rw [if_pos c40] at H
                              have c40b0 : decide (0 ≤ x16_1) = true := decide_eq_true c40
                              clear c40
                              have H' := Aside0.mk H
                              clear H
                              have p211 : 0 ≤ (x16_1 : Int) := of_decide_eq_true (by first | (with_reducible assumption) | assumption)
                              have q211 : x16_1 < ((rd_L2 l0_1 (ji12)).length : Int) := of_decide_eq_true (by first | (with_reducible assumption) | assumption)
                              obtain ⟨ad211, e211, hx211_0, hx211_1, hx211_2, hx211_3, hx211_4⟩ := at_T49 HR204_0.out x16_1 p211 q211
                              obtain rfl : ad210 = ad211 := (by injection e211)
                              replace hx211_0 := (HB.out.cell (World.block_lt_of_cell? w _ hx211_0)).trans hx211_0
                              replace hx211_1 := (HB.out.cell (World.block_lt_of_cell? w _ hx211_1)).trans hx211_1
                              replace hx211_2 := (HB.out.cell (World.block_lt_of_cell? w _ hx211_2)).trans hx211_2
                              replace hx211_3 := (HB.out.cell (World.block_lt_of_cell? w _ hx211_3)).trans hx211_3
                              replace hx211_4 := (HB.out.cell (World.block_lt_of_cell? w _ hx211_4)).trans hx211_4
                              replace p211 := eq_true p211
                              replace q211 := eq_true q211
                              go_wp2
                              go_roundg k1
                              case measure => have := HK1.out; omega
                              case rel => exact ⟨(true), (decide (((rd_T49 (rd_L2 l0_1 (ji12)) x16_1).f0) < 8)), (wrap64 (x16_1 + 1)), (by first | rfl | (simp; done) | (simp [*]; done)), (by first | rfl | (simp; done) | (simp only [← hji12] <;> (first | rfl | (simp; done))) | (simp only [← hji25, ← hji12] <;> (first | rfl | simp)) | (simp [*]; done)), (by first | rfl | (simp; done) | (simp [*]; done)), H', ⟨by have := HK1.out; omega⟩, ⟨by (with_reducible repeat (first | refine blk_drewN ?_ _ | refine blk_drew ?_ | refine blk_alloc ?_ _)); exact BK201.out⟩, ⟨by repeat (first | (with_reducible first | exact HB.out | apply below_alloc | apply pw_below_drewN | apply below_drew1 | refine below_set ?_ GE201.out) | exact HB.out)⟩⟩
                            · rw [if_neg c40] at H
                              exact absurd H (by simp)
                          · replace c39 := Bool.eq_false_iff.mpr c39
                            subst c39
                            have H1 : (fencepostlaw19_AdmBehind.l0 k1 t202 (rd_L2 l0_1 (ji12)) (Int.tmod (wrap64 (a2)) (wrap64 (((rd_L2 l0_1 (ji12)).length : Int) - 1))) t209 ((rd_T49 (rd_L2 l0_1 (ji12)) (ji25)).f0) true false (wrap64 (x16_1 + 1))) = some r := by rw [if_neg (show ¬ (false = true) by decide)] at H; exact H
                            clear H
                            have H := H1
                            clear H1
                            have H' := Aside0.mk H
                            clear H
                            go_wp2
                            go_roundg k1
                            case measure => have := HK1.out; omega
                            case rel => exact ⟨(true), (false), (wrap64 (x16_1 + 1)), (by first | rfl | (simp; done) | (simp [*]; done)), (by first | rfl | (simp; done) | (simp [*]; done)), (by first | rfl | (simp; done) | (simp [*]; done)), H', ⟨by have := HK1.out; omega⟩, ⟨by (with_reducible repeat (first | refine blk_drewN ?_ _ | refine blk_drew ?_ | refine blk_alloc ?_ _)); exact BK201.out⟩, ⟨by repeat (first | (with_reducible first | exact HB.out | apply below_alloc | apply pw_below_drewN | apply below_drew1 | refine below_set ?_ GE201.out) | exact HB.out)⟩⟩
                        · replace c38 := Bool.eq_false_iff.mpr c38
                          subst c38
                          have H1 : (if 0 ≤ x16_1 then (if ((rd_T49 (rd_L2 l0_1 (ji12)) x16_1).f0) ≥ 8 then (if x15_1 = true then (fencepostlaw19_AdmBehind.l0 k1 t202 (rd_L2 l0_1 (ji12)) (Int.tmod (wrap64 (a2)) (wrap64 (((rd_L2 l0_1 (ji12)).length : Int) - 1))) t209 ((rd_T49 (rd_L2 l0_1 (ji12)) (ji25)).f0) (((rd_T49 (rd_L2 l0_1 (ji12)) x16_1).f4) == (wrap64 ((Int.tmod (wrap64 (a2)) (wrap64 (((rd_L2 l0_1 (ji12)).length : Int) - 1))) + 1))) (decide (((rd_T49 (rd_L2 l0_1 (ji12)) x16_1).f0) < 8)) (wrap64 (x16_1 + 1))) else (fencepostlaw19_AdmBehind.l0 k1 t202 (rd_L2 l0_1 (ji12)) (Int.tmod (wrap64 (a2)) (wrap64 (((rd_L2 l0_1 (ji12)).length : Int) - 1))) t209 ((rd_T49 (rd_L2 l0_1 (ji12)) (ji25)).f0) (((rd_T49 (rd_L2 l0_1 (ji12)) x16_1).f4) == (wrap64 ((Int.tmod (wrap64 (a2)) (wrap64 (((rd_L2 l0_1 (ji12)).length : Int) - 1))) + 1))) false (wrap64 (x16_1 + 1)))) else (if x15_1 = true then (fencepostlaw19_AdmBehind.l0 k1 t202 (rd_L2 l0_1 (ji12)) (Int.tmod (wrap64 (a2)) (wrap64 (((rd_L2 l0_1 (ji12)).length : Int) - 1))) t209 ((rd_T49 (rd_L2 l0_1 (ji12)) (ji25)).f0) false (decide (((rd_T49 (rd_L2 l0_1 (ji12)) x16_1).f0) < 8)) (wrap64 (x16_1 + 1))) else (fencepostlaw19_AdmBehind.l0 k1 t202 (rd_L2 l0_1 (ji12)) (Int.tmod (wrap64 (a2)) (wrap64 (((rd_L2 l0_1 (ji12)).length : Int) - 1))) t209 ((rd_T49 (rd_L2 l0_1 (ji12)) (ji25)).f0) false false (wrap64 (x16_1 + 1))))) else (none)) = some r := by rw [if_neg (show ¬ (false = true) by decide)] at H; exact H
                          clear H
                          have H := H1
                          clear H1
                          by_cases c41 : 0 ≤ x16_1
                          · rw [if_pos c41] at H
                            have c41b0 : decide (0 ≤ x16_1) = true := decide_eq_true c41
                            clear c41
                            by_cases c42 : ((rd_T49 (rd_L2 l0_1 (ji12)) x16_1).f0) ≥ 8
                            · rw [if_pos c42] at H
                              have c42b0 : decide (8 ≤ ((rd_T49 (rd_L2 l0_1 (ji12)) x16_1).f0)) = true := decide_eq_true c42
                              clear c42
                              by_cases c43 : x15_1 = true
                              · subst c43
                                have H1 : (fencepostlaw19_AdmBehind.l0 k1 t202 (rd_L2 l0_1 (ji12)) (Int.tmod (wrap64 (a2)) (wrap64 (((rd_L2 l0_1 (ji12)).length : Int) - 1))) t209 ((rd_T49 (rd_L2 l0_1 (ji12)) (ji25)).f0) (((rd_T49 (rd_L2 l0_1 (ji12)) x16_1).f4) == (wrap64 ((Int.tmod (wrap64 (a2)) (wrap64 (((rd_L2 l0_1 (ji12)).length : Int) - 1))) + 1))) (decide (((rd_T49 (rd_L2 l0_1 (ji12)) x16_1).f0) < 8)) (wrap64 (x16_1 + 1))) = some r := by rw [if_pos rfl] at H; exact H
                                clear H
                                have H := H1
                                clear H1
                                have H' := Aside0.mk H
                                clear H
                                have p212 : 0 ≤ (x16_1 : Int) := of_decide_eq_true (by first | (with_reducible assumption) | assumption)
                                have q212 : x16_1 < ((rd_L2 l0_1 (ji12)).length : Int) := of_decide_eq_true (by first | (with_reducible assumption) | assumption)
                                obtain ⟨ad212, e212, hx212_0, hx212_1, hx212_2, hx212_3, hx212_4⟩ := at_T49 HR204_0.out x16_1 p212 q212
                                obtain rfl : ad210 = ad212 := (by injection e212)
                                replace hx212_0 := (HB.out.cell (World.block_lt_of_cell? w _ hx212_0)).trans hx212_0
                                replace hx212_1 := (HB.out.cell (World.block_lt_of_cell? w _ hx212_1)).trans hx212_1
                                replace hx212_2 := (HB.out.cell (World.block_lt_of_cell? w _ hx212_2)).trans hx212_2
                                replace hx212_3 := (HB.out.cell (World.block_lt_of_cell? w _ hx212_3)).trans hx212_3
                                replace hx212_4 := (HB.out.cell (World.block_lt_of_cell? w _ hx212_4)).trans hx212_4
                                replace p212 := eq_true p212
                                replace q212 := eq_true q212
                                have p213 : 0 ≤ (x16_1 : Int) := of_decide_eq_true (by first | (with_reducible assumption) | assumption)
                                have q213 : x16_1 < ((rd_L2 l0_1 (ji12)).length : Int) := of_decide_eq_true (by first | (with_reducible assumption) | assumption)
                                obtain ⟨ad213, e213, hx213_0, hx213_1, hx213_2, hx213_3, hx213_4⟩ := at_T49 HR204_0.out x16_1 p213 q213
                                obtain rfl : ad210 = ad213 := (by injection e213)
                                replace hx213_0 := (HB.out.cell (World.block_lt_of_cell? w _ hx213_0)).trans hx213_0
                                replace hx213_1 := (HB.out.cell (World.block_lt_of_cell? w _ hx213_1)).trans hx213_1
                                replace hx213_2 := (HB.out.cell (World.block_lt_of_cell? w _ hx213_2)).trans hx213_2
                                replace hx213_3 := (HB.out.cell (World.block_lt_of_cell? w _ hx213_3)).trans hx213_3
                                replace hx213_4 := (HB.out.cell (World.block_lt_of_cell? w _ hx213_4)).trans hx213_4
                                replace p213 := eq_true p213
                                replace q213 := eq_true q213
                                have p214 : 0 ≤ (x16_1 : Int) := of_decide_eq_true (by first | (with_reducible assumption) | assumption)
                                have q214 : x16_1 < ((rd_L2 l0_1 (ji12)).length : Int) := of_decide_eq_true (by first | (with_reducible assumption) | assumption)
                                obtain ⟨ad214, e214, hx214_0, hx214_1, hx214_2, hx214_3, hx214_4⟩ := at_T49 HR204_0.out x16_1 p214 q214
                                obtain rfl : ad210 = ad214 := (by injection e214)
                                replace hx214_0 := (HB.out.cell (World.block_lt_of_cell? w _ hx214_0)).trans hx214_0
                                replace hx214_1 := (HB.out.cell (World.block_lt_of_cell? w _ hx214_1)).trans hx214_1
                                replace hx214_2 := (HB.out.cell (World.block_lt_of_cell? w _ hx214_2)).trans hx214_2
                                replace hx214_3 := (HB.out.cell (World.block_lt_of_cell? w _ hx214_3)).trans hx214_3
                                replace hx214_4 := (HB.out.cell (World.block_lt_of_cell? w _ hx214_4)).trans hx214_4
                                replace p214 := eq_true p214
                                replace q214 := eq_true q214
                                go_wp2
                                go_roundg k1
                                case measure => have := HK1.out; omega
                                case rel => exact ⟨((((rd_T49 (rd_L2 l0_1 (ji12)) x16_1).f4) == (wrap64 ((Int.tmod (wrap64 (a2)) (wrap64 (((rd_L2 l0_1 (ji12)).length : Int) - 1))) + 1)))), (decide (((rd_T49 (rd_L2 l0_1 (ji12)) x16_1).f0) < 8)), (wrap64 (x16_1 + 1)), (by first | rfl | (simp; done) | (simp only [← hji12] <;> (first | rfl | (simp; done))) | (simp only [← hji25, ← hji12] <;> (first | rfl | simp)) | (simp [*]; done)), (by first | rfl | (simp; done) | (simp only [← hji12] <;> (first | rfl | (simp; done))) | (simp only [← hji25, ← hji12] <;> (first | rfl | simp)) | (simp [*]; done)), (by first | rfl | (simp; done) | (simp [*]; done)), H', ⟨by have := HK1.out; omega⟩, ⟨by (with_reducible repeat (first | refine blk_drewN ?_ _ | refine blk_drew ?_ | refine blk_alloc ?_ _)); exact BK201.out⟩, ⟨by repeat (first | (with_reducible first | exact HB.out | apply below_alloc | apply pw_below_drewN | apply below_drew1 | refine below_set ?_ GE201.out) | exact HB.out)⟩⟩
                              · replace c43 := Bool.eq_false_iff.mpr c43
                                subst c43
                                have H1 : (fencepostlaw19_AdmBehind.l0 k1 t202 (rd_L2 l0_1 (ji12)) (Int.tmod (wrap64 (a2)) (wrap64 (((rd_L2 l0_1 (ji12)).length : Int) - 1))) t209 ((rd_T49 (rd_L2 l0_1 (ji12)) (ji25)).f0) (((rd_T49 (rd_L2 l0_1 (ji12)) x16_1).f4) == (wrap64 ((Int.tmod (wrap64 (a2)) (wrap64 (((rd_L2 l0_1 (ji12)).length : Int) - 1))) + 1))) false (wrap64 (x16_1 + 1))) = some r := by rw [if_neg (show ¬ (false = true) by decide)] at H; exact H
                                clear H
                                have H := H1
                                clear H1
                                have H' := Aside0.mk H
                                clear H
                                have p212 : 0 ≤ (x16_1 : Int) := of_decide_eq_true (by first | (with_reducible assumption) | assumption)
                                have q212 : x16_1 < ((rd_L2 l0_1 (ji12)).length : Int) := of_decide_eq_true (by first | (with_reducible assumption) | assumption)
                                obtain ⟨ad212, e212, hx212_0, hx212_1, hx212_2, hx212_3, hx212_4⟩ := at_T49 HR204_0.out x16_1 p212 q212
                                obtain rfl : ad210 = ad212 := (by injection e212)
                                replace hx212_0 := (HB.out.cell (World.block_lt_of_cell? w _ hx212_0)).trans hx212_0
                                replace hx212_1 := (HB.out.cell (World.block_lt_of_cell? w _ hx212_1)).trans hx212_1
                                replace hx212_2 := (HB.out.cell (World.block_lt_of_cell? w _ hx212_2)).trans hx212_2
                                replace hx212_3 := (HB.out.cell (World.block_lt_of_cell? w _ hx212_3)).trans hx212_3
                                replace hx212_4 := (HB.out.cell (World.block_lt_of_cell? w _ hx212_4)).trans hx212_4
                                replace p212 := eq_true p212
                                replace q212 := eq_true q212
                                have p213 : 0 ≤ (x16_1 : Int) := of_decide_eq_true (by first | (with_reducible assumption) | assumption)
                                have q213 : x16_1 < ((rd_L2 l0_1 (ji12)).length : Int) := of_decide_eq_true (by first | (with_reducible assumption) | assumption)
                                obtain ⟨ad213, e213, hx213_0, hx213_1, hx213_2, hx213_3, hx213_4⟩ := at_T49 HR204_0.out x16_1 p213 q213
                                obtain rfl : ad210 = ad213 := (by injection e213)
                                replace hx213_0 := (HB.out.cell (World.block_lt_of_cell? w _ hx213_0)).trans hx213_0
                                replace hx213_1 := (HB.out.cell (World.block_lt_of_cell? w _ hx213_1)).trans hx213_1
                                replace hx213_2 := (HB.out.cell (World.block_lt_of_cell? w _ hx213_2)).trans hx213_2
                                replace hx213_3 := (HB.out.cell (World.block_lt_of_cell? w _ hx213_3)).trans hx213_3
                                replace hx213_4 := (HB.out.cell (World.block_lt_of_cell? w _ hx213_4)).trans hx213_4
                                replace p213 := eq_true p213
                                replace q213 := eq_true q213
                                go_wp2
                                go_roundg k1
                                case measure => have := HK1.out; omega
                                case rel => exact ⟨((((rd_T49 (rd_L2 l0_1 (ji12)) x16_1).f4) == (wrap64 ((Int.tmod (wrap64 (a2)) (wrap64 (((rd_L2 l0_1 (ji12)).length : Int) - 1))) + 1)))), (false), (wrap64 (x16_1 + 1)), (by first | rfl | (simp; done) | (simp only [← hji12] <;> (first | rfl | (simp; done))) | (simp only [← hji25, ← hji12] <;> (first | rfl | simp)) | (simp [*]; done)), (by first | rfl | (simp; done) | (simp [*]; done)), (by first | rfl | (simp; done) | (simp [*]; done)), H', ⟨by have := HK1.out; omega⟩, ⟨by (with_reducible repeat (first | refine blk_drewN ?_ _ | refine blk_drew ?_ | refine blk_alloc ?_ _)); exact BK201.out⟩, ⟨by repeat (first | (with_reducible first | exact HB.out | apply below_alloc | apply pw_below_drewN | apply below_drew1 | refine below_set ?_ GE201.out) | exact HB.out)⟩⟩
                            · rw [if_neg c42] at H
                              have c42b0 : decide (8 ≤ ((rd_T49 (rd_L2 l0_1 (ji12)) x16_1).f0)) = false := decide_eq_false c42
                              clear c42
                              by_cases c44 : x15_1 = true
                              · subst c44
                                have H1 : (fencepostlaw19_AdmBehind.l0 k1 t202 (rd_L2 l0_1 (ji12)) (Int.tmod (wrap64 (a2)) (wrap64 (((rd_L2 l0_1 (ji12)).length : Int) - 1))) t209 ((rd_T49 (rd_L2 l0_1 (ji12)) (ji25)).f0) false (decide (((rd_T49 (rd_L2 l0_1 (ji12)) x16_1).f0) < 8)) (wrap64 (x16_1 + 1))) = some r := by rw [if_pos rfl] at H; exact H
                                clear H
                                have H := H1
                                clear H1
                                have H' := Aside0.mk H
                                clear H
                                have p212 : 0 ≤ (x16_1 : Int) := of_decide_eq_true (by first | (with_reducible assumption) | assumption)
                                have q212 : x16_1 < ((rd_L2 l0_1 (ji12)).length : Int) := of_decide_eq_true (by first | (with_reducible assumption) | assumption)
                                obtain ⟨ad212, e212, hx212_0, hx212_1, hx212_2, hx212_3, hx212_4⟩ := at_T49 HR204_0.out x16_1 p212 q212
                                obtain rfl : ad210 = ad212 := (by injection e212)
                                replace hx212_0 := (HB.out.cell (World.block_lt_of_cell? w _ hx212_0)).trans hx212_0
                                replace hx212_1 := (HB.out.cell (World.block_lt_of_cell? w _ hx212_1)).trans hx212_1
                                replace hx212_2 := (HB.out.cell (World.block_lt_of_cell? w _ hx212_2)).trans hx212_2
                                replace hx212_3 := (HB.out.cell (World.block_lt_of_cell? w _ hx212_3)).trans hx212_3
                                replace hx212_4 := (HB.out.cell (World.block_lt_of_cell? w _ hx212_4)).trans hx212_4
                                replace p212 := eq_true p212
                                replace q212 := eq_true q212
                                have p215 : 0 ≤ (x16_1 : Int) := of_decide_eq_true (by first | (with_reducible assumption) | assumption)
                                have q215 : x16_1 < ((rd_L2 l0_1 (ji12)).length : Int) := of_decide_eq_true (by first | (with_reducible assumption) | assumption)
                                obtain ⟨ad215, e215, hx215_0, hx215_1, hx215_2, hx215_3, hx215_4⟩ := at_T49 HR204_0.out x16_1 p215 q215
                                obtain rfl : ad210 = ad215 := (by injection e215)
                                replace hx215_0 := (HB.out.cell (World.block_lt_of_cell? w _ hx215_0)).trans hx215_0
                                replace hx215_1 := (HB.out.cell (World.block_lt_of_cell? w _ hx215_1)).trans hx215_1
                                replace hx215_2 := (HB.out.cell (World.block_lt_of_cell? w _ hx215_2)).trans hx215_2
                                replace hx215_3 := (HB.out.cell (World.block_lt_of_cell? w _ hx215_3)).trans hx215_3
                                replace hx215_4 := (HB.out.cell (World.block_lt_of_cell? w _ hx215_4)).trans hx215_4
                                replace p215 := eq_true p215
                                replace q215 := eq_true q215
                                go_wp2
                                go_roundg k1
                                case measure => have := HK1.out; omega
                                case rel => exact ⟨(false), (decide (((rd_T49 (rd_L2 l0_1 (ji12)) x16_1).f0) < 8)), (wrap64 (x16_1 + 1)), (by first | rfl | (simp; done) | (simp [*]; done)), (by first | rfl | (simp; done) | (simp only [← hji12] <;> (first | rfl | (simp; done))) | (simp only [← hji25, ← hji12] <;> (first | rfl | simp)) | (simp [*]; done)), (by first | rfl | (simp; done) | (simp [*]; done)), H', ⟨by have := HK1.out; omega⟩, ⟨by (with_reducible repeat (first | refine blk_drewN ?_ _ | refine blk_drew ?_ | refine blk_alloc ?_ _)); exact BK201.out⟩, ⟨by repeat (first | (with_reducible first | exact HB.out | apply below_alloc | apply pw_below_drewN | apply below_drew1 | refine below_set ?_ GE201.out) | exact HB.out)⟩⟩
                              · replace c44 := Bool.eq_false_iff.mpr c44
                                subst c44
                                have H1 : (fencepostlaw19_AdmBehind.l0 k1 t202 (rd_L2 l0_1 (ji12)) (Int.tmod (wrap64 (a2)) (wrap64 (((rd_L2 l0_1 (ji12)).length : Int) - 1))) t209 ((rd_T49 (rd_L2 l0_1 (ji12)) (ji25)).f0) false false (wrap64 (x16_1 + 1))) = some r := by rw [if_neg (show ¬ (false = true) by decide)] at H; exact H
                                clear H
                                have H := H1
                                clear H1
                                have H' := Aside0.mk H
                                clear H
                                have p212 : 0 ≤ (x16_1 : Int) := of_decide_eq_true (by first | (with_reducible assumption) | assumption)
                                have q212 : x16_1 < ((rd_L2 l0_1 (ji12)).length : Int) := of_decide_eq_true (by first | (with_reducible assumption) | assumption)
                                obtain ⟨ad212, e212, hx212_0, hx212_1, hx212_2, hx212_3, hx212_4⟩ := at_T49 HR204_0.out x16_1 p212 q212
                                obtain rfl : ad210 = ad212 := (by injection e212)
                                replace hx212_0 := (HB.out.cell (World.block_lt_of_cell? w _ hx212_0)).trans hx212_0
                                replace hx212_1 := (HB.out.cell (World.block_lt_of_cell? w _ hx212_1)).trans hx212_1
                                replace hx212_2 := (HB.out.cell (World.block_lt_of_cell? w _ hx212_2)).trans hx212_2
                                replace hx212_3 := (HB.out.cell (World.block_lt_of_cell? w _ hx212_3)).trans hx212_3
                                replace hx212_4 := (HB.out.cell (World.block_lt_of_cell? w _ hx212_4)).trans hx212_4
                                replace p212 := eq_true p212
                                replace q212 := eq_true q212
                                go_wp2
                                go_roundg k1
                                case measure => have := HK1.out; omega
                                case rel => exact ⟨(false), (false), (wrap64 (x16_1 + 1)), (by first | rfl | (simp; done) | (simp [*]; done)), (by first | rfl | (simp; done) | (simp [*]; done)), (by first | rfl | (simp; done) | (simp [*]; done)), H', ⟨by have := HK1.out; omega⟩, ⟨by (with_reducible repeat (first | refine blk_drewN ?_ _ | refine blk_drew ?_ | refine blk_alloc ?_ _)); exact BK201.out⟩, ⟨by repeat (first | (with_reducible first | exact HB.out | apply below_alloc | apply pw_below_drewN | apply below_drew1 | refine below_set ?_ GE201.out) | exact HB.out)⟩⟩
                          · rw [if_neg c41] at H
                            exact absurd H (by simp)
                      · rw [if_neg c37] at H
                        have c37b0 : decide (x16_1 < ((rd_L2 l0_1 (ji12)).length : Int)) = false := decide_eq_false c37
                        clear c37
                        by_cases c45 : x15_1 = true
                        · subst c45
                          have H1 : (if 0 ≤ (Int.tmod (wrap64 (a2)) (wrap64 (((rd_L2 l0_1 (ji12)).length : Int) - 1))) then (if (Int.tmod (wrap64 (a2)) (wrap64 (((rd_L2 l0_1 (ji12)).length : Int) - 1))) < ((rd_L2 l0_1 (ji12)).length : Int) then ((fencepostref19_Writes.f ((rd_T49 (rd_L2 l0_1 (ji12)) (Int.tmod (wrap64 (a2)) (wrap64 (((rd_L2 l0_1 (ji12)).length : Int) - 1)))).f0) ((rd_T49 (rd_L2 l0_1 (ji12)) (Int.tmod (wrap64 (a2)) (wrap64 (((rd_L2 l0_1 (ji12)).length : Int) - 1)))).f1) ((rd_T49 (rd_L2 l0_1 (ji12)) (Int.tmod (wrap64 (a2)) (wrap64 (((rd_L2 l0_1 (ji12)).length : Int) - 1)))).f2) ((rd_T49 (rd_L2 l0_1 (ji12)) (Int.tmod (wrap64 (a2)) (wrap64 (((rd_L2 l0_1 (ji12)).length : Int) - 1)))).f3) ((rd_T49 (rd_L2 l0_1 (ji12)) (Int.tmod (wrap64 (a2)) (wrap64 (((rd_L2 l0_1 (ji12)).length : Int) - 1)))).f4)).bind fun t217 => (if t217 = true then (if ((rd_T49 (rd_L2 l0_1 (ji12)) (ji25)).f0) = 6 then (if (t209 != false) = true then (some false) else (if t202 = true then (if ((rd_T49 (rd_L2 l0_1 (ji12)) (Int.tmod (wrap64 (a2)) (wrap64 (((rd_L2 l0_1 (ji12)).length : Int) - 1)))).f0) = 6 then (if x14_1 = true then (some true) else (some (!t209))) else (if ((rd_T49 (rd_L2 l0_1 (ji12)) (Int.tmod (wrap64 (a2)) (wrap64 (((rd_L2 l0_1 (ji12)).length : Int) - 1)))).f0) = 5 then (if x14_1 = true then (some true) else (some (!t209))) else (some true))) else (some false))) else (if (t209 != (((rd_T49 (rd_L2 l0_1 (ji12)) (ji25)).f0) != 5)) = true then (some false) else (if t202 = true then (if ((rd_T49 (rd_L2 l0_1 (ji12)) (Int.tmod (wrap64 (a2)) (wrap64 (((rd_L2 l0_1 (ji12)).length : Int) - 1)))).f0) = 6 then (if x14_1 = true then (some true) else (some (!t209))) else (if ((rd_T49 (rd_L2 l0_1 (ji12)) (Int.tmod (wrap64 (a2)) (wrap64 (((rd_L2 l0_1 (ji12)).length : Int) - 1)))).f0) = 5 then (if x14_1 = true then (some true) else (some (!t209))) else (some true))) else (some false)))) else (if t202 = true then (if ((rd_T49 (rd_L2 l0_1 (ji12)) (Int.tmod (wrap64 (a2)) (wrap64 (((rd_L2 l0_1 (ji12)).length : Int) - 1)))).f0) = 6 then (if x14_1 = true then (some true) else (some (!t209))) else (if ((rd_T49 (rd_L2 l0_1 (ji12)) (Int.tmod (wrap64 (a2)) (wrap64 (((rd_L2 l0_1 (ji12)).length : Int) - 1)))).f0) = 5 then (if x14_1 = true then (some true) else (some (!t209))) else (some true))) else (some false)))) else (none)) else (none)) = some r := by rw [if_pos rfl] at H; exact H
                          clear H
                          have H := H1
                          clear H1
                          obtain ⟨ji46, hji46⟩ : ∃ j_ : Int, (Int.tmod (wrap64 (a2)) (wrap64 (((rd_L2 l0_1 (ji12)).length : Int) - 1))) = j_ := ⟨_, rfl⟩
                          replace H : (if 0 ≤ (ji46) then (if (ji46) < ((rd_L2 l0_1 (ji12)).length : Int) then ((fencepostref19_Writes.f ((rd_T49 (rd_L2 l0_1 (ji12)) (ji46)).f0) ((rd_T49 (rd_L2 l0_1 (ji12)) (ji46)).f1) ((rd_T49 (rd_L2 l0_1 (ji12)) (ji46)).f2) ((rd_T49 (rd_L2 l0_1 (ji12)) (ji46)).f3) ((rd_T49 (rd_L2 l0_1 (ji12)) (ji46)).f4)).bind fun t217 => (if t217 = true then (if ((rd_T49 (rd_L2 l0_1 (ji12)) (ji25)).f0) = 6 then (if (t209 != false) = true then (some false) else (if t202 = true then (if ((rd_T49 (rd_L2 l0_1 (ji12)) (ji46)).f0) = 6 then (if x14_1 = true then (some true) else (some (!t209))) else (if ((rd_T49 (rd_L2 l0_1 (ji12)) (ji46)).f0) = 5 then (if x14_1 = true then (some true) else (some (!t209))) else (some true))) else (some false))) else (if (t209 != (((rd_T49 (rd_L2 l0_1 (ji12)) (ji25)).f0) != 5)) = true then (some false) else (if t202 = true then (if ((rd_T49 (rd_L2 l0_1 (ji12)) (ji46)).f0) = 6 then (if x14_1 = true then (some true) else (some (!t209))) else (if ((rd_T49 (rd_L2 l0_1 (ji12)) (ji46)).f0) = 5 then (if x14_1 = true then (some true) else (some (!t209))) else (some true))) else (some false)))) else (if t202 = true then (if ((rd_T49 (rd_L2 l0_1 (ji12)) (ji46)).f0) = 6 then (if x14_1 = true then (some true) else (some (!t209))) else (if ((rd_T49 (rd_L2 l0_1 (ji12)) (ji46)).f0) = 5 then (if x14_1 = true then (some true) else (some (!t209))) else (some true))) else (some false)))) else (none)) else (none)) = some r := by first | (rw [hji46] at H; exact H) | (simp only [hji46] at H ⊢; exact H)
                          by_cases c47 : 0 ≤ (ji46)
                          · rw [if_pos c47] at H
                            have c47b0 : decide (0 ≤ (ji46)) = true := decide_eq_true c47
                            clear c47
                            by_cases c48 : (ji46) < ((rd_L2 l0_1 (ji12)).length : Int)
                            · rw [if_pos c48] at H
                              have c48b0 : decide ((ji46) < ((rd_L2 l0_1 (ji12)).length : Int)) = true := decide_eq_true c48
                              clear c48
                              replace H := Option.bind_eq_some_iff.mp H
                              obtain ⟨t217, A490, H⟩ := H
                              replace H : (if t217 = true then (if ((rd_T49 (rd_L2 l0_1 (ji12)) (ji25)).f0) = 6 then (if (t209 != false) = true then (some false) else (if t202 = true then (if ((rd_T49 (rd_L2 l0_1 (ji12)) (ji46)).f0) = 6 then (if x14_1 = true then (some true) else (some (!t209))) else (if ((rd_T49 (rd_L2 l0_1 (ji12)) (ji46)).f0) = 5 then (if x14_1 = true then (some true) else (some (!t209))) else (some true))) else (some false))) else (if (t209 != (((rd_T49 (rd_L2 l0_1 (ji12)) (ji25)).f0) != 5)) = true then (some false) else (if t202 = true then (if ((rd_T49 (rd_L2 l0_1 (ji12)) (ji46)).f0) = 6 then (if x14_1 = true then (some true) else (some (!t209))) else (if ((rd_T49 (rd_L2 l0_1 (ji12)) (ji46)).f0) = 5 then (if x14_1 = true then (some true) else (some (!t209))) else (some true))) else (some false)))) else (if t202 = true then (if ((rd_T49 (rd_L2 l0_1 (ji12)) (ji46)).f0) = 6 then (if x14_1 = true then (some true) else (some (!t209))) else (if ((rd_T49 (rd_L2 l0_1 (ji12)) (ji46)).f0) = 5 then (if x14_1 = true then (some true) else (some (!t209))) else (some true))) else (some false))) = some r := H
                              have A49 := Aside0.mk A490
                              clear A490
                              by_cases c50 : t217 = true
                              · subst c50
                                have H1 : (if ((rd_T49 (rd_L2 l0_1 (ji12)) (ji25)).f0) = 6 then (if (t209 != false) = true then (some false) else (if t202 = true then (if ((rd_T49 (rd_L2 l0_1 (ji12)) (ji46)).f0) = 6 then (if x14_1 = true then (some true) else (some (!t209))) else (if ((rd_T49 (rd_L2 l0_1 (ji12)) (ji46)).f0) = 5 then (if x14_1 = true then (some true) else (some (!t209))) else (some true))) else (some false))) else (if (t209 != (((rd_T49 (rd_L2 l0_1 (ji12)) (ji25)).f0) != 5)) = true then (some false) else (if t202 = true then (if ((rd_T49 (rd_L2 l0_1 (ji12)) (ji46)).f0) = 6 then (if x14_1 = true then (some true) else (some (!t209))) else (if ((rd_T49 (rd_L2 l0_1 (ji12)) (ji46)).f0) = 5 then (if x14_1 = true then (some true) else (some (!t209))) else (some true))) else (some false)))) = some r := by rw [if_pos rfl] at H; exact H
                                clear H
                                have H := H1
                                clear H1
                                by_cases c51 : ((rd_T49 (rd_L2 l0_1 (ji12)) (ji25)).f0) = 6
                                · rw [if_pos c51] at H
                                  have c51b0 : (((rd_T49 (rd_L2 l0_1 (ji12)) (ji25)).f0) == 6) = true := beq_iff_eq.mpr c51
                                  have c51b1 : (((rd_T49 (rd_L2 l0_1 (ji12)) (ji25)).f0) != 6) = false := bne_eq_false_iff_eq.mpr c51
                                  clear c51
                                  by_cases c52 : (t209 != false) = true
                                  · rw [if_pos c52] at H
                                    have c52b0 : (t209 != false) = true := c52
                                    (try (have c52b1 : decide (t209 = false) = false := by simpa using c52))
                                    (try (have c52b2 : (t209 == false) = false := by simpa using c52))
                                    (try (have c52b3 : ¬ (t209 = false) := by simpa using c52))
                                    clear c52
                                    exact absurd ((Option.some.inj H).trans HT.out) (by simp)
                                  · rw [if_neg c52] at H
                                    have c52b0 : (t209 != false) = false := by simpa using c52
                                    (try (have c52b1 : decide (t209 = false) = true := by simpa using c52))
                                    (try (have c52b2 : (t209 == false) = true := by simpa using c52))
                                    clear c52
                                    by_cases c53 : t202 = true
                                    · subst c53
                                      have H1 : (if ((rd_T49 (rd_L2 l0_1 (ji12)) (ji46)).f0) = 6 then (if x14_1 = true then (some true) else (some (!t209))) else (if ((rd_T49 (rd_L2 l0_1 (ji12)) (ji46)).f0) = 5 then (if x14_1 = true then (some true) else (some (!t209))) else (some true))) = some r := by rw [if_pos rfl] at H; exact H
                                      clear H
                                      have H := H1
                                      clear H1
                                      by_cases c54 : ((rd_T49 (rd_L2 l0_1 (ji12)) (ji46)).f0) = 6
                                      · rw [if_pos c54] at H
                                        have c54b0 : (((rd_T49 (rd_L2 l0_1 (ji12)) (ji46)).f0) == 6) = true := beq_iff_eq.mpr c54
                                        have c54b1 : (((rd_T49 (rd_L2 l0_1 (ji12)) (ji46)).f0) != 6) = false := bne_eq_false_iff_eq.mpr c54
                                        clear c54
                                        by_cases c55 : x14_1 = true
                                        · subst c55
                                          have H1 : (some true) = some r := by rw [if_pos rfl] at H; exact H
                                          clear H
                                          have H := H1
                                          clear H1
                                          obtain rfl := Option.some.inj H
                                          have p216 : 0 ≤ ((ji46) : Int) := of_decide_eq_true (by first | (with_reducible assumption) | assumption)
                                          have q216 : (ji46) < ((rd_L2 l0_1 (ji12)).length : Int) := of_decide_eq_true (by first | (with_reducible assumption) | assumption)
                                          obtain ⟨ad216, e216, hx216_0, hx216_1, hx216_2, hx216_3, hx216_4⟩ := at_T49 HR204_0.out (ji46) p216 q216
                                          obtain rfl : ad210 = ad216 := (by injection e216)
                                          replace hx216_0 := (HB.out.cell (World.block_lt_of_cell? w _ hx216_0)).trans hx216_0
                                          replace hx216_1 := (HB.out.cell (World.block_lt_of_cell? w _ hx216_1)).trans hx216_1
                                          replace hx216_2 := (HB.out.cell (World.block_lt_of_cell? w _ hx216_2)).trans hx216_2
                                          replace hx216_3 := (HB.out.cell (World.block_lt_of_cell? w _ hx216_3)).trans hx216_3
                                          replace hx216_4 := (HB.out.cell (World.block_lt_of_cell? w _ hx216_4)).trans hx216_4
                                          replace p216 := eq_true p216
                                          replace q216 := eq_true q216
                                          go_wp2_with (first | (go_at_call 24; (with_reducible refine (fencepostref19_Writes.calls ((rd_T49 (rd_L2 l0_1 (ji12)) (ji46)).f0) ((rd_T49 (rd_L2 l0_1 (ji12)) (ji46)).f1) ((rd_T49 (rd_L2 l0_1 (ji12)) (ji46)).f2) ((rd_T49 (rd_L2 l0_1 (ji12)) (ji46)).f3) ((rd_T49 (rd_L2 l0_1 (ji12)) (ji46)).f4) true _ A49.out).mono ?_); rintro e w56 ⟨rfl, hb⟩; have n0_ := Aside0.mk (blk_below (g := gb201) (o := .cells #[.slice A0_0 l0_0.length c0_0, .slice (some ad204) l0_1.length c0_1] 25 (0, 0)) (by (with_reducible repeat (first | refine blk_drewN ?_ _ | refine blk_drew ?_ | refine blk_alloc ?_ _)); exact BK201.out) hb); have n1_ := Aside0.mk (below_step (by repeat (first | (with_reducible first | exact HB.out | apply below_alloc | apply pw_below_drewN | apply below_drew1 | refine below_set ?_ GE201.out) | exact HB.out)) hb); clear BK201; clear HB; have BK201 := n0_; have HB := n1_; clear n0_ n1_; (try clear hb); (try clear hb2); (try clear hk); (try clear hi); have p218 : 0 ≤ ((ji46) : Int) := of_decide_eq_true (by first | (with_reducible assumption) | assumption); have q218 : (ji46) < ((rd_L2 l0_1 (ji12)).length : Int) := of_decide_eq_true (by first | (with_reducible assumption) | assumption); obtain ⟨ad218, e218, hx218_0, hx218_1, hx218_2, hx218_3, hx218_4⟩ := at_T49 HR204_0.out (ji46) p218 q218; obtain rfl : ad210 = ad218 := (by injection e218); replace hx218_0 := (HB.out.cell (World.block_lt_of_cell? w _ hx218_0)).trans hx218_0; replace hx218_1 := (HB.out.cell (World.block_lt_of_cell? w _ hx218_1)).trans hx218_1; replace hx218_2 := (HB.out.cell (World.block_lt_of_cell? w _ hx218_2)).trans hx218_2; replace hx218_3 := (HB.out.cell (World.block_lt_of_cell? w _ hx218_3)).trans hx218_3; replace hx218_4 := (HB.out.cell (World.block_lt_of_cell? w _ hx218_4)).trans hx218_4; replace p218 := eq_true p218; replace q218 := eq_true q218))
                                          go_ret
                                          exact ⟨by first | rfl | (simp [errW_none, errW_some] <;> rfl) | (simp only [← hji12, ← hji25, ← hji46]; first | rfl | (simp [errW_none, errW_some] <;> rfl)) | (simp [*, errW_none, errW_some] <;> rfl), by repeat (first | (with_reducible first | exact HB.out | apply below_alloc | apply pw_below_drewN | apply below_drew1 | refine below_set ?_ GE201.out) | exact HB.out)⟩
                                        · replace c55 := Bool.eq_false_iff.mpr c55
                                          subst c55
                                          have H1 : (some (!t209)) = some r := by rw [if_neg (show ¬ (false = true) by decide)] at H; exact H
                                          clear H
                                          have H := H1
                                          clear H1
                                          obtain rfl := Option.some.inj H
                                          have p216 : 0 ≤ ((ji46) : Int) := of_decide_eq_true (by first | (with_reducible assumption) | assumption)
                                          have q216 : (ji46) < ((rd_L2 l0_1 (ji12)).length : Int) := of_decide_eq_true (by first | (with_reducible assumption) | assumption)
                                          obtain ⟨ad216, e216, hx216_0, hx216_1, hx216_2, hx216_3, hx216_4⟩ := at_T49 HR204_0.out (ji46) p216 q216
                                          obtain rfl : ad210 = ad216 := (by injection e216)
                                          replace hx216_0 := (HB.out.cell (World.block_lt_of_cell? w _ hx216_0)).trans hx216_0
                                          replace hx216_1 := (HB.out.cell (World.block_lt_of_cell? w _ hx216_1)).trans hx216_1
                                          replace hx216_2 := (HB.out.cell (World.block_lt_of_cell? w _ hx216_2)).trans hx216_2
                                          replace hx216_3 := (HB.out.cell (World.block_lt_of_cell? w _ hx216_3)).trans hx216_3
                                          replace hx216_4 := (HB.out.cell (World.block_lt_of_cell? w _ hx216_4)).trans hx216_4
                                          replace p216 := eq_true p216
                                          replace q216 := eq_true q216
                                          go_wp2_with (first | (go_at_call 24; (with_reducible refine (fencepostref19_Writes.calls ((rd_T49 (rd_L2 l0_1 (ji12)) (ji46)).f0) ((rd_T49 (rd_L2 l0_1 (ji12)) (ji46)).f1) ((rd_T49 (rd_L2 l0_1 (ji12)) (ji46)).f2) ((rd_T49 (rd_L2 l0_1 (ji12)) (ji46)).f3) ((rd_T49 (rd_L2 l0_1 (ji12)) (ji46)).f4) true _ A49.out).mono ?_); rintro e w57 ⟨rfl, hb⟩; have n0_ := Aside0.mk (blk_below (g := gb201) (o := .cells #[.slice A0_0 l0_0.length c0_0, .slice (some ad204) l0_1.length c0_1] 25 (0, 0)) (by (with_reducible repeat (first | refine blk_drewN ?_ _ | refine blk_drew ?_ | refine blk_alloc ?_ _)); exact BK201.out) hb); have n1_ := Aside0.mk (below_step (by repeat (first | (with_reducible first | exact HB.out | apply below_alloc | apply pw_below_drewN | apply below_drew1 | refine below_set ?_ GE201.out) | exact HB.out)) hb); clear BK201; clear HB; have BK201 := n0_; have HB := n1_; clear n0_ n1_; (try clear hb); (try clear hb2); (try clear hk); (try clear hi); have p218 : 0 ≤ ((ji46) : Int) := of_decide_eq_true (by first | (with_reducible assumption) | assumption); have q218 : (ji46) < ((rd_L2 l0_1 (ji12)).length : Int) := of_decide_eq_true (by first | (with_reducible assumption) | assumption); obtain ⟨ad218, e218, hx218_0, hx218_1, hx218_2, hx218_3, hx218_4⟩ := at_T49 HR204_0.out (ji46) p218 q218; obtain rfl : ad210 = ad218 := (by injection e218); replace hx218_0 := (HB.out.cell (World.block_lt_of_cell? w _ hx218_0)).trans hx218_0; replace hx218_1 := (HB.out.cell (World.block_lt_of_cell? w _ hx218_1)).trans hx218_1; replace hx218_2 := (HB.out.cell (World.block_lt_of_cell? w _ hx218_2)).trans hx218_2; replace hx218_3 := (HB.out.cell (World.block_lt_of_cell? w _ hx218_3)).trans hx218_3; replace hx218_4 := (HB.out.cell (World.block_lt_of_cell? w _ hx218_4)).trans hx218_4; replace p218 := eq_true p218; replace q218 := eq_true q218))
                                          go_ret
                                          exact ⟨by first | rfl | (simp [errW_none, errW_some] <;> rfl) | (simp only [← hji12, ← hji25, ← hji46]; first | rfl | (simp [errW_none, errW_some] <;> rfl)) | (simp [*, errW_none, errW_some] <;> rfl), by repeat (first | (with_reducible first | exact HB.out | apply below_alloc | apply pw_below_drewN | apply below_drew1 | refine below_set ?_ GE201.out) | exact HB.out)⟩
                                      · rw [if_neg c54] at H
                                        have c54b0 : (((rd_T49 (rd_L2 l0_1 (ji12)) (ji46)).f0) == 6) = false := beq_eq_false_iff_ne.mpr c54
                                        have c54b1 : (((rd_T49 (rd_L2 l0_1 (ji12)) (ji46)).f0) != 6) = true := bne_iff_ne.mpr c54
                                        by_cases c58 : ((rd_T49 (rd_L2 l0_1 (ji12)) (ji46)).f0) = 5
                                        · rw [if_pos c58] at H
                                          have c58b0 : (((rd_T49 (rd_L2 l0_1 (ji12)) (ji46)).f0) == 5) = true := beq_iff_eq.mpr c58
                                          have c58b1 : (((rd_T49 (rd_L2 l0_1 (ji12)) (ji46)).f0) != 5) = false := bne_eq_false_iff_eq.mpr c58
                                          clear c58
                                          by_cases c59 : x14_1 = true
                                          · subst c59
                                            have H1 : (some true) = some r := by rw [if_pos rfl] at H; exact H
                                            clear H
                                            have H := H1
                                            clear H1
                                            obtain rfl := Option.some.inj H
                                            have p216 : 0 ≤ ((ji46) : Int) := of_decide_eq_true (by first | (with_reducible assumption) | assumption)
                                            have q216 : (ji46) < ((rd_L2 l0_1 (ji12)).length : Int) := of_decide_eq_true (by first | (with_reducible assumption) | assumption)
                                            obtain ⟨ad216, e216, hx216_0, hx216_1, hx216_2, hx216_3, hx216_4⟩ := at_T49 HR204_0.out (ji46) p216 q216
                                            obtain rfl : ad210 = ad216 := (by injection e216)
                                            replace hx216_0 := (HB.out.cell (World.block_lt_of_cell? w _ hx216_0)).trans hx216_0
                                            replace hx216_1 := (HB.out.cell (World.block_lt_of_cell? w _ hx216_1)).trans hx216_1
                                            replace hx216_2 := (HB.out.cell (World.block_lt_of_cell? w _ hx216_2)).trans hx216_2
                                            replace hx216_3 := (HB.out.cell (World.block_lt_of_cell? w _ hx216_3)).trans hx216_3
                                            replace hx216_4 := (HB.out.cell (World.block_lt_of_cell? w _ hx216_4)).trans hx216_4
                                            replace p216 := eq_true p216
                                            replace q216 := eq_true q216
                                            go_wp2_with (first | (go_at_call 24; (with_reducible refine (fencepostref19_Writes.calls ((rd_T49 (rd_L2 l0_1 (ji12)) (ji46)).f0) ((rd_T49 (rd_L2 l0_1 (ji12)) (ji46)).f1) ((rd_T49 (rd_L2 l0_1 (ji12)) (ji46)).f2) ((rd_T49 (rd_L2 l0_1 (ji12)) (ji46)).f3) ((rd_T49 (rd_L2 l0_1 (ji12)) (ji46)).f4) true _ A49.out).mono ?_); rintro e w60 ⟨rfl, hb⟩; have n0_ := Aside0.mk (blk_below (g := gb201) (o := .cells #[.slice A0_0 l0_0.length c0_0, .slice (some ad204) l0_1.length c0_1] 25 (0, 0)) (by (with_reducible repeat (first | refine blk_drewN ?_ _ | refine blk_drew ?_ | refine blk_alloc ?_ _)); exact BK201.out) hb); have n1_ := Aside0.mk (below_step (by repeat (first | (with_reducible first | exact HB.out | apply below_alloc | apply pw_below_drewN | apply below_drew1 | refine below_set ?_ GE201.out) | exact HB.out)) hb); clear BK201; clear HB; have BK201 := n0_; have HB := n1_; clear n0_ n1_; (try clear hb); (try clear hb2); (try clear hk); (try clear hi); have p218 : 0 ≤ ((ji46) : Int) := of_decide_eq_true (by first | (with_reducible assumption) | assumption); have q218 : (ji46) < ((rd_L2 l0_1 (ji12)).length : Int) := of_decide_eq_true (by first | (with_reducible assumption) | assumption); obtain ⟨ad218, e218, hx218_0, hx218_1, hx218_2, hx218_3, hx218_4⟩ := at_T49 HR204_0.out (ji46) p218 q218; obtain rfl : ad210 = ad218 := (by injection e218); replace hx218_0 := (HB.out.cell (World.block_lt_of_cell? w _ hx218_0)).trans hx218_0; replace hx218_1 := (HB.out.cell (World.block_lt_of_cell? w _ hx218_1)).trans hx218_1; replace hx218_2 := (HB.out.cell (World.block_lt_of_cell? w _ hx218_2)).trans hx218_2; replace hx218_3 := (HB.out.cell (World.block_lt_of_cell? w _ hx218_3)).trans hx218_3; replace hx218_4 := (HB.out.cell (World.block_lt_of_cell? w _ hx218_4)).trans hx218_4; replace p218 := eq_true p218; replace q218 := eq_true q218; have p219 : 0 ≤ ((ji46) : Int) := of_decide_eq_true (by first | (with_reducible assumption) | assumption); have q219 : (ji46) < ((rd_L2 l0_1 (ji12)).length : Int) := of_decide_eq_true (by first | (with_reducible assumption) | assumption); obtain ⟨ad219, e219, hx219_0, hx219_1, hx219_2, hx219_3, hx219_4⟩ := at_T49 HR204_0.out (ji46) p219 q219; obtain rfl : ad210 = ad219 := (by injection e219); replace hx219_0 := (HB.out.cell (World.block_lt_of_cell? w _ hx219_0)).trans hx219_0; replace hx219_1 := (HB.out.cell (World.block_lt_of_cell? w _ hx219_1)).trans hx219_1; replace hx219_2 := (HB.out.cell (World.block_lt_of_cell? w _ hx219_2)).trans hx219_2; replace hx219_3 := (HB.out.cell (World.block_lt_of_cell? w _ hx219_3)).trans hx219_3; replace hx219_4 := (HB.out.cell (World.block_lt_of_cell? w _ hx219_4)).trans hx219_4; replace p219 := eq_true p219; replace q219 := eq_true q219))
                                            go_ret
                                            exact ⟨by first | rfl | (simp [errW_none, errW_some] <;> rfl) | (simp only [← hji12, ← hji25, ← hji46]; first | rfl | (simp [errW_none, errW_some] <;> rfl)) | (simp [*, errW_none, errW_some] <;> rfl), by repeat (first | (with_reducible first | exact HB.out | apply below_alloc | apply pw_below_drewN | apply below_drew1 | refine below_set ?_ GE201.out) | exact HB.out)⟩
                                          · replace c59 := Bool.eq_false_iff.mpr c59
                                            subst c59
                                            have H1 : (some (!t209)) = some r := by rw [if_neg (show ¬ (false = true) by decide)] at H; exact H
                                            clear H
                                            have H := H1
                                            clear H1
                                            obtain rfl := Option.some.inj H
                                            have p216 : 0 ≤ ((ji46) : Int) := of_decide_eq_true (by first | (with_reducible assumption) | assumption)
                                            have q216 : (ji46) < ((rd_L2 l0_1 (ji12)).length : Int) := of_decide_eq_true (by first | (with_reducible assumption) | assumption)
                                            obtain ⟨ad216, e216, hx216_0, hx216_1, hx216_2, hx216_3, hx216_4⟩ := at_T49 HR204_0.out (ji46) p216 q216
                                            obtain rfl : ad210 = ad216 := (by injection e216)
                                            replace hx216_0 := (HB.out.cell (World.block_lt_of_cell? w _ hx216_0)).trans hx216_0
                                            replace hx216_1 := (HB.out.cell (World.block_lt_of_cell? w _ hx216_1)).trans hx216_1
                                            replace hx216_2 := (HB.out.cell (World.block_lt_of_cell? w _ hx216_2)).trans hx216_2
                                            replace hx216_3 := (HB.out.cell (World.block_lt_of_cell? w _ hx216_3)).trans hx216_3
                                            replace hx216_4 := (HB.out.cell (World.block_lt_of_cell? w _ hx216_4)).trans hx216_4
                                            replace p216 := eq_true p216
                                            replace q216 := eq_true q216
                                            go_wp2_with (first | (go_at_call 24; (with_reducible refine (fencepostref19_Writes.calls ((rd_T49 (rd_L2 l0_1 (ji12)) (ji46)).f0) ((rd_T49 (rd_L2 l0_1 (ji12)) (ji46)).f1) ((rd_T49 (rd_L2 l0_1 (ji12)) (ji46)).f2) ((rd_T49 (rd_L2 l0_1 (ji12)) (ji46)).f3) ((rd_T49 (rd_L2 l0_1 (ji12)) (ji46)).f4) true _ A49.out).mono ?_); rintro e w61 ⟨rfl, hb⟩; have n0_ := Aside0.mk (blk_below (g := gb201) (o := .cells #[.slice A0_0 l0_0.length c0_0, .slice (some ad204) l0_1.length c0_1] 25 (0, 0)) (by (with_reducible repeat (first | refine blk_drewN ?_ _ | refine blk_drew ?_ | refine blk_alloc ?_ _)); exact BK201.out) hb); have n1_ := Aside0.mk (below_step (by repeat (first | (with_reducible first | exact HB.out | apply below_alloc | apply pw_below_drewN | apply below_drew1 | refine below_set ?_ GE201.out) | exact HB.out)) hb); clear BK201; clear HB; have BK201 := n0_; have HB := n1_; clear n0_ n1_; (try clear hb); (try clear hb2); (try clear hk); (try clear hi); have p218 : 0 ≤ ((ji46) : Int) := of_decide_eq_true (by first | (with_reducible assumption) | assumption); have q218 : (ji46) < ((rd_L2 l0_1 (ji12)).length : Int) := of_decide_eq_true (by first | (with_reducible assumption) | assumption); obtain ⟨ad218, e218, hx218_0, hx218_1, hx218_2, hx218_3, hx218_4⟩ := at_T49 HR204_0.out (ji46) p218 q218; obtain rfl : ad210 = ad218 := (by injection e218); replace hx218_0 := (HB.out.cell (World.block_lt_of_cell? w _ hx218_0)).trans hx218_0; replace hx218_1 := (HB.out.cell (World.block_lt_of_cell? w _ hx218_1)).trans hx218_1; replace hx218_2 := (HB.out.cell (World.block_lt_of_cell? w _ hx218_2)).trans hx218_2; replace hx218_3 := (HB.out.cell (World.block_lt_of_cell? w _ hx218_3)).trans hx218_3; replace hx218_4 := (HB.out.cell (World.block_lt_of_cell? w _ hx218_4)).trans hx218_4; replace p218 := eq_true p218; replace q218 := eq_true q218; have p219 : 0 ≤ ((ji46) : Int) := of_decide_eq_true (by first | (with_reducible assumption) | assumption); have q219 : (ji46) < ((rd_L2 l0_1 (ji12)).length : Int) := of_decide_eq_true (by first | (with_reducible assumption) | assumption); obtain ⟨ad219, e219, hx219_0, hx219_1, hx219_2, hx219_3, hx219_4⟩ := at_T49 HR204_0.out (ji46) p219 q219; obtain rfl : ad210 = ad219 := (by injection e219); replace hx219_0 := (HB.out.cell (World.block_lt_of_cell? w _ hx219_0)).trans hx219_0; replace hx219_1 := (HB.out.cell (World.block_lt_of_cell? w _ hx219_1)).trans hx219_1; replace hx219_2 := (HB.out.cell (World.block_lt_of_cell? w _ hx219_2)).trans hx219_2; replace hx219_3 := (HB.out.cell (World.block_lt_of_cell? w _ hx219_3)).trans hx219_3; replace hx219_4 := (HB.out.cell (World.block_lt_of_cell? w _ hx219_4)).trans hx219_4; replace p219 := eq_true p219; replace q219 := eq_true q219))
                                            go_ret
                                            exact ⟨by first | rfl | (simp [errW_none, errW_some] <;> rfl) | (simp only [← hji12, ← hji25, ← hji46]; first | rfl | (simp [errW_none, errW_some] <;> rfl)) | (simp [*, errW_none, errW_some] <;> rfl), by repeat (first | (with_reducible first | exact HB.out | apply below_alloc | apply pw_below_drewN | apply below_drew1 | refine below_set ?_ GE201.out) | exact HB.out)⟩
                                        · rw [if_neg c58] at H
                                          have c58b0 : (((rd_T49 (rd_L2 l0_1 (ji12)) (ji46)).f0) == 5) = false := beq_eq_false_iff_ne.mpr c58
                                          have c58b1 : (((rd_T49 (rd_L2 l0_1 (ji12)) (ji46)).f0) != 5) = true := bne_iff_ne.mpr c58
                                          obtain rfl := Option.some.inj H
                                          have p216 : 0 ≤ ((ji46) : Int) := of_decide_eq_true (by first | (with_reducible assumption) | assumption)
                                          have q216 : (ji46) < ((rd_L2 l0_1 (ji12)).length : Int) := of_decide_eq_true (by first | (with_reducible assumption) | assumption)
                                          obtain ⟨ad216, e216, hx216_0, hx216_1, hx216_2, hx216_3, hx216_4⟩ := at_T49 HR204_0.out (ji46) p216 q216
                                          obtain rfl : ad210 = ad216 := (by injection e216)
                                          replace hx216_0 := (HB.out.cell (World.block_lt_of_cell? w _ hx216_0)).trans hx216_0
                                          replace hx216_1 := (HB.out.cell (World.block_lt_of_cell? w _ hx216_1)).trans hx216_1
                                          replace hx216_2 := (HB.out.cell (World.block_lt_of_cell? w _ hx216_2)).trans hx216_2
                                          replace hx216_3 := (HB.out.cell (World.block_lt_of_cell? w _ hx216_3)).trans hx216_3
                                          replace hx216_4 := (HB.out.cell (World.block_lt_of_cell? w _ hx216_4)).trans hx216_4
                                          replace p216 := eq_true p216
                                          replace q216 := eq_true q216
                                          go_wp2_with (first | (go_at_call 24; (with_reducible refine (fencepostref19_Writes.calls ((rd_T49 (rd_L2 l0_1 (ji12)) (ji46)).f0) ((rd_T49 (rd_L2 l0_1 (ji12)) (ji46)).f1) ((rd_T49 (rd_L2 l0_1 (ji12)) (ji46)).f2) ((rd_T49 (rd_L2 l0_1 (ji12)) (ji46)).f3) ((rd_T49 (rd_L2 l0_1 (ji12)) (ji46)).f4) true _ A49.out).mono ?_); rintro e w62 ⟨rfl, hb⟩; have n0_ := Aside0.mk (blk_below (g := gb201) (o := .cells #[.slice A0_0 l0_0.length c0_0, .slice (some ad204) l0_1.length c0_1] 25 (0, 0)) (by (with_reducible repeat (first | refine blk_drewN ?_ _ | refine blk_drew ?_ | refine blk_alloc ?_ _)); exact BK201.out) hb); have n1_ := Aside0.mk (below_step (by repeat (first | (with_reducible first | exact HB.out | apply below_alloc | apply pw_below_drewN | apply below_drew1 | refine below_set ?_ GE201.out) | exact HB.out)) hb); clear BK201; clear HB; have BK201 := n0_; have HB := n1_; clear n0_ n1_; (try clear hb); (try clear hb2); (try clear hk); (try clear hi); have p218 : 0 ≤ ((ji46) : Int) := of_decide_eq_true (by first | (with_reducible assumption) | assumption); have q218 : (ji46) < ((rd_L2 l0_1 (ji12)).length : Int) := of_decide_eq_true (by first | (with_reducible assumption) | assumption); obtain ⟨ad218, e218, hx218_0, hx218_1, hx218_2, hx218_3, hx218_4⟩ := at_T49 HR204_0.out (ji46) p218 q218; obtain rfl : ad210 = ad218 := (by injection e218); replace hx218_0 := (HB.out.cell (World.block_lt_of_cell? w _ hx218_0)).trans hx218_0; replace hx218_1 := (HB.out.cell (World.block_lt_of_cell? w _ hx218_1)).trans hx218_1; replace hx218_2 := (HB.out.cell (World.block_lt_of_cell? w _ hx218_2)).trans hx218_2; replace hx218_3 := (HB.out.cell (World.block_lt_of_cell? w _ hx218_3)).trans hx218_3; replace hx218_4 := (HB.out.cell (World.block_lt_of_cell? w _ hx218_4)).trans hx218_4; replace p218 := eq_true p218; replace q218 := eq_true q218; have p219 : 0 ≤ ((ji46) : Int) := of_decide_eq_true (by first | (with_reducible assumption) | assumption); have q219 : (ji46) < ((rd_L2 l0_1 (ji12)).length : Int) := of_decide_eq_true (by first | (with_reducible assumption) | assumption); obtain ⟨ad219, e219, hx219_0, hx219_1, hx219_2, hx219_3, hx219_4⟩ := at_T49 HR204_0.out (ji46) p219 q219; obtain rfl : ad210 = ad219 := (by injection e219); replace hx219_0 := (HB.out.cell (World.block_lt_of_cell? w _ hx219_0)).trans hx219_0; replace hx219_1 := (HB.out.cell (World.block_lt_of_cell? w _ hx219_1)).trans hx219_1; replace hx219_2 := (HB.out.cell (World.block_lt_of_cell? w _ hx219_2)).trans hx219_2; replace hx219_3 := (HB.out.cell (World.block_lt_of_cell? w _ hx219_3)).trans hx219_3; replace hx219_4 := (HB.out.cell (World.block_lt_of_cell? w _ hx219_4)).trans hx219_4; replace p219 := eq_true p219; replace q219 := eq_true q219))
                                          go_ret
                                          exact ⟨by first | rfl | (simp [errW_none, errW_some] <;> rfl) | (simp only [← hji12, ← hji25, ← hji46]; first | rfl | (simp [errW_none, errW_some] <;> rfl)) | (simp [*, errW_none, errW_some] <;> rfl), by repeat (first | (with_reducible first | exact HB.out | apply below_alloc | apply pw_below_drewN | apply below_drew1 | refine below_set ?_ GE201.out) | exact HB.out)⟩
                                    · replace c53 := Bool.eq_false_iff.mpr c53
                                      subst c53
                                      have H1 : (some false) = some r := by rw [if_neg (show ¬ (false = true) by decide)] at H; exact H
                                      clear H
                                      have H := H1
                                      clear H1
                                      exact absurd ((Option.some.inj H).trans HT.out) (by simp)
                                · rw [if_neg c51] at H
                                  have c51b0 : (((rd_T49 (rd_L2 l0_1 (ji12)) (ji25)).f0) == 6) = false := beq_eq_false_iff_ne.mpr c51
                                  have c51b1 : (((rd_T49 (rd_L2 l0_1 (ji12)) (ji25)).f0) != 6) = true := bne_iff_ne.mpr c51
                                  by_cases c63 : (t209 != (((rd_T49 (rd_L2 l0_1 (ji12)) (ji25)).f0) != 5)) = true
                                  · rw [if_pos c63] at H
                                    have c63b0 : (t209 != (((rd_T49 (rd_L2 l0_1 (ji12)) (ji25)).f0) != 5)) = true := c63
                                    (try (have c63b1 : decide (t209 = (((rd_T49 (rd_L2 l0_1 (ji12)) (ji25)).f0) != 5)) = false := by simpa using c63))
                                    (try (have c63b2 : (t209 == (((rd_T49 (rd_L2 l0_1 (ji12)) (ji25)).f0) != 5)) = false := by simpa using c63))
                                    (try (have c63b3 : ¬ (t209 = (((rd_T49 (rd_L2 l0_1 (ji12)) (ji25)).f0) != 5)) := by simpa using c63))
                                    clear c63
                                    exact absurd ((Option.some.inj H).trans HT.out) (by simp)
                                  · rw [if_neg c63] at H
                                    have c63b0 : (t209 != (((rd_T49 (rd_L2 l0_1 (ji12)) (ji25)).f0) != 5)) = false := by simpa using c63
                                    (try (have c63b1 : decide (t209 = (((rd_T49 (rd_L2 l0_1 (ji12)) (ji25)).f0) != 5)) = true := by simpa using c63))
                                    (try (have c63b2 : (t209 == (((rd_T49 (rd_L2 l0_1 (ji12)) (ji25)).f0) != 5)) = true := by simpa using c63))
                                    clear c63
                                    by_cases c64 : t202 = true
                                    · subst c64
                                      have H1 : (if ((rd_T49 (rd_L2 l0_1 (ji12)) (ji46)).f0) = 6 then (if x14_1 = true then (some true) else (some (!t209))) else (if ((rd_T49 (rd_L2 l0_1 (ji12)) (ji46)).f0) = 5 then (if x14_1 = true then (some true) else (some (!t209))) else (some true))) = some r := by rw [if_pos rfl] at H; exact H
                                      clear H
                                      have H := H1
                                      clear H1
                                      by_cases c65 : ((rd_T49 (rd_L2 l0_1 (ji12)) (ji46)).f0) = 6
                                      · rw [if_pos c65] at H
                                        have c65b0 : (((rd_T49 (rd_L2 l0_1 (ji12)) (ji46)).f0) == 6) = true := beq_iff_eq.mpr c65
                                        have c65b1 : (((rd_T49 (rd_L2 l0_1 (ji12)) (ji46)).f0) != 6) = false := bne_eq_false_iff_eq.mpr c65
                                        clear c65
                                        by_cases c66 : x14_1 = true
                                        · subst c66
                                          have H1 : (some true) = some r := by rw [if_pos rfl] at H; exact H
                                          clear H
                                          have H := H1
                                          clear H1
                                          obtain rfl := Option.some.inj H
                                          have p216 : 0 ≤ ((ji46) : Int) := of_decide_eq_true (by first | (with_reducible assumption) | assumption)
                                          have q216 : (ji46) < ((rd_L2 l0_1 (ji12)).length : Int) := of_decide_eq_true (by first | (with_reducible assumption) | assumption)
                                          obtain ⟨ad216, e216, hx216_0, hx216_1, hx216_2, hx216_3, hx216_4⟩ := at_T49 HR204_0.out (ji46) p216 q216
                                          obtain rfl : ad210 = ad216 := (by injection e216)
                                          replace hx216_0 := (HB.out.cell (World.block_lt_of_cell? w _ hx216_0)).trans hx216_0
                                          replace hx216_1 := (HB.out.cell (World.block_lt_of_cell? w _ hx216_1)).trans hx216_1
                                          replace hx216_2 := (HB.out.cell (World.block_lt_of_cell? w _ hx216_2)).trans hx216_2
                                          replace hx216_3 := (HB.out.cell (World.block_lt_of_cell? w _ hx216_3)).trans hx216_3
                                          replace hx216_4 := (HB.out.cell (World.block_lt_of_cell? w _ hx216_4)).trans hx216_4
                                          replace p216 := eq_true p216
                                          replace q216 := eq_true q216
                                          go_wp2_with (first | (go_at_call 24; (with_reducible refine (fencepostref19_Writes.calls ((rd_T49 (rd_L2 l0_1 (ji12)) (ji46)).f0) ((rd_T49 (rd_L2 l0_1 (ji12)) (ji46)).f1) ((rd_T49 (rd_L2 l0_1 (ji12)) (ji46)).f2) ((rd_T49 (rd_L2 l0_1 (ji12)) (ji46)).f3) ((rd_T49 (rd_L2 l0_1 (ji12)) (ji46)).f4) true _ A49.out).mono ?_); rintro e w67 ⟨rfl, hb⟩; have n0_ := Aside0.mk (blk_below (g := gb201) (o := .cells #[.slice A0_0 l0_0.length c0_0, .slice (some ad204) l0_1.length c0_1] 25 (0, 0)) (by (with_reducible repeat (first | refine blk_drewN ?_ _ | refine blk_drew ?_ | refine blk_alloc ?_ _)); exact BK201.out) hb); have n1_ := Aside0.mk (below_step (by repeat (first | (with_reducible first | exact HB.out | apply below_alloc | apply pw_below_drewN | apply below_drew1 | refine below_set ?_ GE201.out) | exact HB.out)) hb); clear BK201; clear HB; have BK201 := n0_; have HB := n1_; clear n0_ n1_; (try clear hb); (try clear hb2); (try clear hk); (try clear hi); have p220 : 0 ≤ ((ji46) : Int) := of_decide_eq_true (by first | (with_reducible assumption) | assumption); have q220 : (ji46) < ((rd_L2 l0_1 (ji12)).length : Int) := of_decide_eq_true (by first | (with_reducible assumption) | assumption); obtain ⟨ad220, e220, hx220_0, hx220_1, hx220_2, hx220_3, hx220_4⟩ := at_T49 HR204_0.out (ji46) p220 q220; obtain rfl : ad210 = ad220 := (by injection e220); replace hx220_0 := (HB.out.cell (World.block_lt_of_cell? w _ hx220_0)).trans hx220_0; replace hx220_1 := (HB.out.cell (World.block_lt_of_cell? w _ hx220_1)).trans hx220_1; replace hx220_2 := (HB.out.cell (World.block_lt_of_cell? w _ hx220_2)).trans hx220_2; replace hx220_3 := (HB.out.cell (World.block_lt_of_cell? w _ hx220_3)).trans hx220_3; replace hx220_4 := (HB.out.cell (World.block_lt_of_cell? w _ hx220_4)).trans hx220_4; replace p220 := eq_true p220; replace q220 := eq_true q220))
                                          go_ret
                                          exact ⟨by first | rfl | (simp [errW_none, errW_some] <;> rfl) | (simp only [← hji12, ← hji25, ← hji46]; first | rfl | (simp [errW_none, errW_some] <;> rfl)) | (simp [*, errW_none, errW_some] <;> rfl), by repeat (first | (with_reducible first | exact HB.out | apply below_alloc | apply pw_below_drewN | apply below_drew1 | refine below_set ?_ GE201.out) | exact HB.out)⟩
                                        · replace c66 := Bool.eq_false_iff.mpr c66
                                          subst c66
                                          have H1 : (some (!t209)) = some r := by rw [if_neg (show ¬ (false = true) by decide)] at H; exact H
                                          clear H
                                          have H := H1
                                          clear H1
                                          obtain rfl := Option.some.inj H
                                          have p216 : 0 ≤ ((ji46) : Int) := of_decide_eq_true (by first | (with_reducible assumption) | assumption)
                                          have q216 : (ji46) < ((rd_L2 l0_1 (ji12)).length : Int) := of_decide_eq_true (by first | (with_reducible assumption) | assumption)
                                          obtain ⟨ad216, e216, hx216_0, hx216_1, hx216_2, hx216_3, hx216_4⟩ := at_T49 HR204_0.out (ji46) p216 q216
                                          obtain rfl : ad210 = ad216 := (by injection e216)
                                          replace hx216_0 := (HB.out.cell (World.block_lt_of_cell? w _ hx216_0)).trans hx216_0
                                          replace hx216_1 := (HB.out.cell (World.block_lt_of_cell? w _ hx216_1)).trans hx216_1
                                          replace hx216_2 := (HB.out.cell (World.block_lt_of_cell? w _ hx216_2)).trans hx216_2
                                          replace hx216_3 := (HB.out.cell (World.block_lt_of_cell? w _ hx216_3)).trans hx216_3
                                          replace hx216_4 := (HB.out.cell (World.block_lt_of_cell? w _ hx216_4)).trans hx216_4
                                          replace p216 := eq_true p216
                                          replace q216 := eq_true q216
                                          go_wp2_with (first | (go_at_call 24; (with_reducible refine (fencepostref19_Writes.calls ((rd_T49 (rd_L2 l0_1 (ji12)) (ji46)).f0) ((rd_T49 (rd_L2 l0_1 (ji12)) (ji46)).f1) ((rd_T49 (rd_L2 l0_1 (ji12)) (ji46)).f2) ((rd_T49 (rd_L2 l0_1 (ji12)) (ji46)).f3) ((rd_T49 (rd_L2 l0_1 (ji12)) (ji46)).f4) true _ A49.out).mono ?_); rintro e w68 ⟨rfl, hb⟩; have n0_ := Aside0.mk (blk_below (g := gb201) (o := .cells #[.slice A0_0 l0_0.length c0_0, .slice (some ad204) l0_1.length c0_1] 25 (0, 0)) (by (with_reducible repeat (first | refine blk_drewN ?_ _ | refine blk_drew ?_ | refine blk_alloc ?_ _)); exact BK201.out) hb); have n1_ := Aside0.mk (below_step (by repeat (first | (with_reducible first | exact HB.out | apply below_alloc | apply pw_below_drewN | apply below_drew1 | refine below_set ?_ GE201.out) | exact HB.out)) hb); clear BK201; clear HB; have BK201 := n0_; have HB := n1_; clear n0_ n1_; (try clear hb); (try clear hb2); (try clear hk); (try clear hi); have p220 : 0 ≤ ((ji46) : Int) := of_decide_eq_true (by first | (with_reducible assumption) | assumption); have q220 : (ji46) < ((rd_L2 l0_1 (ji12)).length : Int) := of_decide_eq_true (by first | (with_reducible assumption) | assumption); obtain ⟨ad220, e220, hx220_0, hx220_1, hx220_2, hx220_3, hx220_4⟩ := at_T49 HR204_0.out (ji46) p220 q220; obtain rfl : ad210 = ad220 := (by injection e220); replace hx220_0 := (HB.out.cell (World.block_lt_of_cell? w _ hx220_0)).trans hx220_0; replace hx220_1 := (HB.out.cell (World.block_lt_of_cell? w _ hx220_1)).trans hx220_1; replace hx220_2 := (HB.out.cell (World.block_lt_of_cell? w _ hx220_2)).trans hx220_2; replace hx220_3 := (HB.out.cell (World.block_lt_of_cell? w _ hx220_3)).trans hx220_3; replace hx220_4 := (HB.out.cell (World.block_lt_of_cell? w _ hx220_4)).trans hx220_4; replace p220 := eq_true p220; replace q220 := eq_true q220))
                                          go_ret
                                          exact ⟨by first | rfl | (simp [errW_none, errW_some] <;> rfl) | (simp only [← hji12, ← hji25, ← hji46]; first | rfl | (simp [errW_none, errW_some] <;> rfl)) | (simp [*, errW_none, errW_some] <;> rfl), by repeat (first | (with_reducible first | exact HB.out | apply below_alloc | apply pw_below_drewN | apply below_drew1 | refine below_set ?_ GE201.out) | exact HB.out)⟩
                                      · rw [if_neg c65] at H
                                        have c65b0 : (((rd_T49 (rd_L2 l0_1 (ji12)) (ji46)).f0) == 6) = false := beq_eq_false_iff_ne.mpr c65
                                        have c65b1 : (((rd_T49 (rd_L2 l0_1 (ji12)) (ji46)).f0) != 6) = true := bne_iff_ne.mpr c65
                                        by_cases c69 : ((rd_T49 (rd_L2 l0_1 (ji12)) (ji46)).f0) = 5
                                        · rw [if_pos c69] at H
                                          have c69b0 : (((rd_T49 (rd_L2 l0_1 (ji12)) (ji46)).f0) == 5) = true := beq_iff_eq.mpr c69
                                          have c69b1 : (((rd_T49 (rd_L2 l0_1 (ji12)) (ji46)).f0) != 5) = false := bne_eq_false_iff_eq.mpr c69
                                          clear c69
                                          by_cases c70 : x14_1 = true
                                          · subst c70
                                            have H1 : (some true) = some r := by rw [if_pos rfl] at H; exact H
                                            clear H
                                            have H := H1
                                            clear H1
                                            obtain rfl := Option.some.inj H
                                            have p216 : 0 ≤ ((ji46) : Int) := of_decide_eq_true (by first | (with_reducible assumption) | assumption)
                                            have q216 : (ji46) < ((rd_L2 l0_1 (ji12)).length : Int) := of_decide_eq_true (by first | (with_reducible assumption) | assumption)
                                            obtain ⟨ad216, e216, hx216_0, hx216_1, hx216_2, hx216_3, hx216_4⟩ := at_T49 HR204_0.out (ji46) p216 q216
                                            obtain rfl : ad210 = ad216 := (by injection e216)
                                            replace hx216_0 := (HB.out.cell (World.block_lt_of_cell? w _ hx216_0)).trans hx216_0
                                            replace hx216_1 := (HB.out.cell (World.block_lt_of_cell? w _ hx216_1)).trans hx216_1
                                            replace hx216_2 := (HB.out.cell (World.block_lt_of_cell? w _ hx216_2)).trans hx216_2
                                            replace hx216_3 := (HB.out.cell (World.block_lt_of_cell? w _ hx216_3)).trans hx216_3
                                            replace hx216_4 := (HB.out.cell (World.block_lt_of_cell? w _ hx216_4)).trans hx216_4
                                            replace p216 := eq_true p216
                                            replace q216 := eq_true q216
                                            go_wp2_with (first | (go_at_call 24; (with_reducible refine (fencepostref19_Writes.calls ((rd_T49 (rd_L2 l0_1 (ji12)) (ji46)).f0) ((rd_T49 (rd_L2 l0_1 (ji12)) (ji46)).f1) ((rd_T49 (rd_L2 l0_1 (ji12)) (ji46)).f2) ((rd_T49 (rd_L2 l0_1 (ji12)) (ji46)).f3) ((rd_T49 (rd_L2 l0_1 (ji12)) (ji46)).f4) true _ A49.out).mono ?_); rintro e w71 ⟨rfl, hb⟩; have n0_ := Aside0.mk (blk_below (g := gb201) (o := .cells #[.slice A0_0 l0_0.length c0_0, .slice (some ad204) l0_1.length c0_1] 25 (0, 0)) (by (with_reducible repeat (first | refine blk_drewN ?_ _ | refine blk_drew ?_ | refine blk_alloc ?_ _)); exact BK201.out) hb); have n1_ := Aside0.mk (below_step (by repeat (first | (with_reducible first | exact HB.out | apply below_alloc | apply pw_below_drewN | apply below_drew1 | refine below_set ?_ GE201.out) | exact HB.out)) hb); clear BK201; clear HB; have BK201 := n0_; have HB := n1_; clear n0_ n1_; (try clear hb); (try clear hb2); (try clear hk); (try clear hi); have p220 : 0 ≤ ((ji46) : Int) := of_decide_eq_true (by first | (with_reducible assumption) | assumption); have q220 : (ji46) < ((rd_L2 l0_1 (ji12)).length : Int) := of_decide_eq_true (by first | (with_reducible assumption) | assumption); obtain ⟨ad220, e220, hx220_0, hx220_1, hx220_2, hx220_3, hx220_4⟩ := at_T49 HR204_0.out (ji46) p220 q220; obtain rfl : ad210 = ad220 := (by injection e220); replace hx220_0 := (HB.out.cell (World.block_lt_of_cell? w _ hx220_0)).trans hx220_0; replace hx220_1 := (HB.out.cell (World.block_lt_of_cell? w _ hx220_1)).trans hx220_1; replace hx220_2 := (HB.out.cell (World.block_lt_of_cell? w _ hx220_2)).trans hx220_2; replace hx220_3 := (HB.out.cell (World.block_lt_of_cell? w _ hx220_3)).trans hx220_3; replace hx220_4 := (HB.out.cell (World.block_lt_of_cell? w _ hx220_4)).trans hx220_4; replace p220 := eq_true p220; replace q220 := eq_true q220; have p221 : 0 ≤ ((ji46) : Int) := of_decide_eq_true (by first | (with_reducible assumption) | assumption); have q221 : (ji46) < ((rd_L2 l0_1 (ji12)).length : Int) := of_decide_eq_true (by first | (with_reducible assumption) | assumption); obtain ⟨ad221, e221, hx221_0, hx221_1, hx221_2, hx221_3, hx221_4⟩ := at_T49 HR204_0.out (ji46) p221 q221; obtain rfl : ad210 = ad221 := (by injection e221); replace hx221_0 := (HB.out.cell (World.block_lt_of_cell? w _ hx221_0)).trans hx221_0; replace hx221_1 := (HB.out.cell (World.block_lt_of_cell? w _ hx221_1)).trans hx221_1; replace hx221_2 := (HB.out.cell (World.block_lt_of_cell? w _ hx221_2)).trans hx221_2; replace hx221_3 := (HB.out.cell (World.block_lt_of_cell? w _ hx221_3)).trans hx221_3; replace hx221_4 := (HB.out.cell (World.block_lt_of_cell? w _ hx221_4)).trans hx221_4; replace p221 := eq_true p221; replace q221 := eq_true q221))
                                            go_ret
                                            exact ⟨by first | rfl | (simp [errW_none, errW_some] <;> rfl) | (simp only [← hji12, ← hji25, ← hji46]; first | rfl | (simp [errW_none, errW_some] <;> rfl)) | (simp [*, errW_none, errW_some] <;> rfl), by repeat (first | (with_reducible first | exact HB.out | apply below_alloc | apply pw_below_drewN | apply below_drew1 | refine below_set ?_ GE201.out) | exact HB.out)⟩
                                          · replace c70 := Bool.eq_false_iff.mpr c70
                                            subst c70
                                            have H1 : (some (!t209)) = some r := by rw [if_neg (show ¬ (false = true) by decide)] at H; exact H
                                            clear H
                                            have H := H1
                                            clear H1
                                            obtain rfl := Option.some.inj H
                                            have p216 : 0 ≤ ((ji46) : Int) := of_decide_eq_true (by first | (with_reducible assumption) | assumption)
                                            have q216 : (ji46) < ((rd_L2 l0_1 (ji12)).length : Int) := of_decide_eq_true (by first | (with_reducible assumption) | assumption)
                                            obtain ⟨ad216, e216, hx216_0, hx216_1, hx216_2, hx216_3, hx216_4⟩ := at_T49 HR204_0.out (ji46) p216 q216
                                            obtain rfl : ad210 = ad216 := (by injection e216)
                                            replace hx216_0 := (HB.out.cell (World.block_lt_of_cell? w _ hx216_0)).trans hx216_0
                                            replace hx216_1 := (HB.out.cell (World.block_lt_of_cell? w _ hx216_1)).trans hx216_1
                                            replace hx216_2 := (HB.out.cell (World.block_lt_of_cell? w _ hx216_2)).trans hx216_2
                                            replace hx216_3 := (HB.out.cell (World.block_lt_of_cell? w _ hx216_3)).trans hx216_3
                                            replace hx216_4 := (HB.out.cell (World.block_lt_of_cell? w _ hx216_4)).trans hx216_4
                                            replace p216 := eq_true p216
                                            replace q216 := eq_true q216
                                            go_wp2_with (first | (go_at_call 24; (with_reducible refine (fencepostref19_Writes.calls ((rd_T49 (rd_L2 l0_1 (ji12)) (ji46)).f0) ((rd_T49 (rd_L2 l0_1 (ji12)) (ji46)).f1) ((rd_T49 (rd_L2 l0_1 (ji12)) (ji46)).f2) ((rd_T49 (rd_L2 l0_1 (ji12)) (ji46)).f3) ((rd_T49 (rd_L2 l0_1 (ji12)) (ji46)).f4) true _ A49.out).mono ?_); rintro e w72 ⟨rfl, hb⟩; have n0_ := Aside0.mk (blk_below (g := gb201) (o := .cells #[.slice A0_0 l0_0.length c0_0, .slice (some ad204) l0_1.length c0_1] 25 (0, 0)) (by (with_reducible repeat (first | refine blk_drewN ?_ _ | refine blk_drew ?_ | refine blk_alloc ?_ _)); exact BK201.out) hb); have n1_ := Aside0.mk (below_step (by repeat (first | (with_reducible first | exact HB.out | apply below_alloc | apply pw_below_drewN | apply below_drew1 | refine below_set ?_ GE201.out) | exact HB.out)) hb); clear BK201; clear HB; have BK201 := n0_; have HB := n1_; clear n0_ n1_; (try clear hb); (try clear hb2); (try clear hk); (try clear hi); have p220 : 0 ≤ ((ji46) : Int) := of_decide_eq_true (by first | (with_reducible assumption) | assumption); have q220 : (ji46) < ((rd_L2 l0_1 (ji12)).length : Int) := of_decide_eq_true (by first | (with_reducible assumption) | assumption); obtain ⟨ad220, e220, hx220_0, hx220_1, hx220_2, hx220_3, hx220_4⟩ := at_T49 HR204_0.out (ji46) p220 q220; obtain rfl : ad210 = ad220 := (by injection e220); replace hx220_0 := (HB.out.cell (World.block_lt_of_cell? w _ hx220_0)).trans hx220_0; replace hx220_1 := (HB.out.cell (World.block_lt_of_cell? w _ hx220_1)).trans hx220_1; replace hx220_2 := (HB.out.cell (World.block_lt_of_cell? w _ hx220_2)).trans hx220_2; replace hx220_3 := (HB.out.cell (World.block_lt_of_cell? w _ hx220_3)).trans hx220_3; replace hx220_4 := (HB.out.cell (World.block_lt_of_cell? w _ hx220_4)).trans hx220_4; replace p220 := eq_true p220; replace q220 := eq_true q220; have p221 : 0 ≤ ((ji46) : Int) := of_decide_eq_true (by first | (with_reducible assumption) | assumption); have q221 : (ji46) < ((rd_L2 l0_1 (ji12)).length : Int) := of_decide_eq_true (by first | (with_reducible assumption) | assumption); obtain ⟨ad221, e221, hx221_0, hx221_1, hx221_2, hx221_3, hx221_4⟩ := at_T49 HR204_0.out (ji46) p221 q221; obtain rfl : ad210 = ad221 := (by injection e221); replace hx221_0 := (HB.out.cell (World.block_lt_of_cell? w _ hx221_0)).trans hx221_0; replace hx221_1 := (HB.out.cell (World.block_lt_of_cell? w _ hx221_1)).trans hx221_1; replace hx221_2 := (HB.out.cell (World.block_lt_of_cell? w _ hx221_2)).trans hx221_2; replace hx221_3 := (HB.out.cell (World.block_lt_of_cell? w _ hx221_3)).trans hx221_3; replace hx221_4 := (HB.out.cell (World.block_lt_of_cell? w _ hx221_4)).trans hx221_4; replace p221 := eq_true p221; replace q221 := eq_true q221))
                                            go_ret
                                            exact ⟨by first | rfl | (simp [errW_none, errW_some] <;> rfl) | (simp only [← hji12, ← hji25, ← hji46]; first | rfl | (simp [errW_none, errW_some] <;> rfl)) | (simp [*, errW_none, errW_some] <;> rfl), by repeat (first | (with_reducible first | exact HB.out | apply below_alloc | apply pw_below_drewN | apply below_drew1 | refine below_set ?_ GE201.out) | exact HB.out)⟩
                                        · rw [if_neg c69] at H
                                          have c69b0 : (((rd_T49 (rd_L2 l0_1 (ji12)) (ji46)).f0) == 5) = false := beq_eq_false_iff_ne.mpr c69
                                          have c69b1 : (((rd_T49 (rd_L2 l0_1 (ji12)) (ji46)).f0) != 5) = true := bne_iff_ne.mpr c69
                                          obtain rfl := Option.some.inj H
                                          have p216 : 0 ≤ ((ji46) : Int) := of_decide_eq_true (by first | (with_reducible assumption) | assumption)
                                          have q216 : (ji46) < ((rd_L2 l0_1 (ji12)).length : Int) := of_decide_eq_true (by first | (with_reducible assumption) | assumption)
                                          obtain ⟨ad216, e216, hx216_0, hx216_1, hx216_2, hx216_3, hx216_4⟩ := at_T49 HR204_0.out (ji46) p216 q216
                                          obtain rfl : ad210 = ad216 := (by injection e216)
                                          replace hx216_0 := (HB.out.cell (World.block_lt_of_cell? w _ hx216_0)).trans hx216_0
                                          replace hx216_1 := (HB.out.cell (World.block_lt_of_cell? w _ hx216_1)).trans hx216_1
                                          replace hx216_2 := (HB.out.cell (World.block_lt_of_cell? w _ hx216_2)).trans hx216_2
                                          replace hx216_3 := (HB.out.cell (World.block_lt_of_cell? w _ hx216_3)).trans hx216_3
                                          replace hx216_4 := (HB.out.cell (World.block_lt_of_cell? w _ hx216_4)).trans hx216_4
                                          replace p216 := eq_true p216
                                          replace q216 := eq_true q216
                                          go_wp2_with (first | (go_at_call 24; (with_reducible refine (fencepostref19_Writes.calls ((rd_T49 (rd_L2 l0_1 (ji12)) (ji46)).f0) ((rd_T49 (rd_L2 l0_1 (ji12)) (ji46)).f1) ((rd_T49 (rd_L2 l0_1 (ji12)) (ji46)).f2) ((rd_T49 (rd_L2 l0_1 (ji12)) (ji46)).f3) ((rd_T49 (rd_L2 l0_1 (ji12)) (ji46)).f4) true _ A49.out).mono ?_); rintro e w73 ⟨rfl, hb⟩; have n0_ := Aside0.mk (blk_below (g := gb201) (o := .cells #[.slice A0_0 l0_0.length c0_0, .slice (some ad204) l0_1.length c0_1] 25 (0, 0)) (by (with_reducible repeat (first | refine blk_drewN ?_ _ | refine blk_drew ?_ | refine blk_alloc ?_ _)); exact BK201.out) hb); have n1_ := Aside0.mk (below_step (by repeat (first | (with_reducible first | exact HB.out | apply below_alloc | apply pw_below_drewN | apply below_drew1 | refine below_set ?_ GE201.out) | exact HB.out)) hb); clear BK201; clear HB; have BK201 := n0_; have HB := n1_; clear n0_ n1_; (try clear hb); (try clear hb2); (try clear hk); (try clear hi); have p220 : 0 ≤ ((ji46) : Int) := of_decide_eq_true (by first | (with_reducible assumption) | assumption); have q220 : (ji46) < ((rd_L2 l0_1 (ji12)).length : Int) := of_decide_eq_true (by first | (with_reducible assumption) | assumption); obtain ⟨ad220, e220, hx220_0, hx220_1, hx220_2, hx220_3, hx220_4⟩ := at_T49 HR204_0.out (ji46) p220 q220; obtain rfl : ad210 = ad220 := (by injection e220); replace hx220_0 := (HB.out.cell (World.block_lt_of_cell? w _ hx220_0)).trans hx220_0; replace hx220_1 := (HB.out.cell (World.block_lt_of_cell? w _ hx220_1)).trans hx220_1; replace hx220_2 := (HB.out.cell (World.block_lt_of_cell? w _ hx220_2)).trans hx220_2; replace hx220_3 := (HB.out.cell (World.block_lt_of_cell? w _ hx220_3)).trans hx220_3; replace hx220_4 := (HB.out.cell (World.block_lt_of_cell? w _ hx220_4)).trans hx220_4; replace p220 := eq_true p220; replace q220 := eq_true q220; have p221 : 0 ≤ ((ji46) : Int) := of_decide_eq_true (by first | (with_reducible assumption) | assumption); have q221 : (ji46) < ((rd_L2 l0_1 (ji12)).length : Int) := of_decide_eq_true (by first | (with_reducible assumption) | assumption); obtain ⟨ad221, e221, hx221_0, hx221_1, hx221_2, hx221_3, hx221_4⟩ := at_T49 HR204_0.out (ji46) p221 q221; obtain rfl : ad210 = ad221 := (by injection e221); replace hx221_0 := (HB.out.cell (World.block_lt_of_cell? w _ hx221_0)).trans hx221_0; replace hx221_1 := (HB.out.cell (World.block_lt_of_cell? w _ hx221_1)).trans hx221_1; replace hx221_2 := (HB.out.cell (World.block_lt_of_cell? w _ hx221_2)).trans hx221_2; replace hx221_3 := (HB.out.cell (World.block_lt_of_cell? w _ hx221_3)).trans hx221_3; replace hx221_4 := (HB.out.cell (World.block_lt_of_cell? w _ hx221_4)).trans hx221_4; replace p221 := eq_true p221; replace q221 := eq_true q221))
                                          go_ret
                                          exact ⟨by first | rfl | (simp [errW_none, errW_some] <;> rfl) | (simp only [← hji12, ← hji25, ← hji46]; first | rfl | (simp [errW_none, errW_some] <;> rfl)) | (simp [*, errW_none, errW_some] <;> rfl), by repeat (first | (with_reducible first | exact HB.out | apply below_alloc | apply pw_below_drewN | apply below_drew1 | refine below_set ?_ GE201.out) | exact HB.out)⟩
                                    · replace c64 := Bool.eq_false_iff.mpr c64
                                      subst c64
                                      have H1 : (some false) = some r := by rw [if_neg (show ¬ (false = true) by decide)] at H; exact H
                                      clear H
                                      have H := H1
                                      clear H1
                                      exact absurd ((Option.some.inj H).trans HT.out) (by simp)
                              · replace c50 := Bool.eq_false_iff.mpr c50
                                subst c50
                                have H1 : (if t202 = true then (if ((rd_T49 (rd_L2 l0_1 (ji12)) (ji46)).f0) = 6 then (if x14_1 = true then (some true) else (some (!t209))) else (if ((rd_T49 (rd_L2 l0_1 (ji12)) (ji46)).f0) = 5 then (if x14_1 = true then (some true) else (some (!t209))) else (some true))) else (some false)) = some r := by rw [if_neg (show ¬ (false = true) by decide)] at H; exact H
                                clear H
                                have H := H1
                                clear H1
                                by_cases c74 : t202 = true
                                · subst c74
                                  have H1 : (if ((rd_T49 (rd_L2 l0_1 (ji12)) (ji46)).f0) = 6 then (if x14_1 = true then (some true) else (some (!t209))) else (if ((rd_T49 (rd_L2 l0_1 (ji12)) (ji46)).f0) = 5 then (if x14_1 = true then (some true) else (some (!t209))) else (some true))) = some r := by rw [if_pos rfl] at H; exact H
                                  clear H
                                  have H := H1
                                  clear H1
                                  by_cases c75 : ((rd_T49 (rd_L2 l0_1 (ji12)) (ji46)).f0) = 6
                                  · rw [if_pos c75] at H
                                    have c75b0 : (((rd_T49 (rd_L2 l0_1 (ji12)) (ji46)).f0) == 6) = true := beq_iff_eq.mpr c75
                                    have c75b1 : (((rd_T49 (rd_L2 l0_1 (ji12)) (ji46)).f0) != 6) = false := bne_eq_false_iff_eq.mpr c75
                                    clear c75
                                    by_cases c76 : x14_1 = true
                                    · subst c76
                                      have H1 : (some true) = some r := by rw [if_pos rfl] at H; exact H
                                      clear H
                                      have H := H1
                                      clear H1
                                      obtain rfl := Option.some.inj H
                                      have p216 : 0 ≤ ((ji46) : Int) := of_decide_eq_true (by first | (with_reducible assumption) | assumption)
                                      have q216 : (ji46) < ((rd_L2 l0_1 (ji12)).length : Int) := of_decide_eq_true (by first | (with_reducible assumption) | assumption)
                                      obtain ⟨ad216, e216, hx216_0, hx216_1, hx216_2, hx216_3, hx216_4⟩ := at_T49 HR204_0.out (ji46) p216 q216
                                      obtain rfl : ad210 = ad216 := (by injection e216)
                                      replace hx216_0 := (HB.out.cell (World.block_lt_of_cell? w _ hx216_0)).trans hx216_0
                                      replace hx216_1 := (HB.out.cell (World.block_lt_of_cell? w _ hx216_1)).trans hx216_1
                                      replace hx216_2 := (HB.out.cell (World.block_lt_of_cell? w _ hx216_2)).trans hx216_2
                                      replace hx216_3 := (HB.out.cell (World.block_lt_of_cell? w _ hx216_3)).trans hx216_3
                                      replace hx216_4 := (HB.out.cell (World.block_lt_of_cell? w _ hx216_4)).trans hx216_4
                                      replace p216 := eq_true p216
                                      replace q216 := eq_true q216
                                      go_wp2_with (first | (go_at_call 24; (with_reducible refine (fencepostref19_Writes.calls ((rd_T49 (rd_L2 l0_1 (ji12)) (ji46)).f0) ((rd_T49 (rd_L2 l0_1 (ji12)) (ji46)).f1) ((rd_T49 (rd_L2 l0_1 (ji12)) (ji46)).f2) ((rd_T49 (rd_L2 l0_1 (ji12)) (ji46)).f3) ((rd_T49 (rd_L2 l0_1 (ji12)) (ji46)).f4) false _ A49.out).mono ?_); rintro e w77 ⟨rfl, hb⟩; have n0_ := Aside0.mk (blk_below (g := gb201) (o := .cells #[.slice A0_0 l0_0.length c0_0, .slice (some ad204) l0_1.length c0_1] 25 (0, 0)) (by (with_reducible repeat (first | refine blk_drewN ?_ _ | refine blk_drew ?_ | refine blk_alloc ?_ _)); exact BK201.out) hb); have n1_ := Aside0.mk (below_step (by repeat (first | (with_reducible first | exact HB.out | apply below_alloc | apply pw_below_drewN | apply below_drew1 | refine below_set ?_ GE201.out) | exact HB.out)) hb); clear BK201; clear HB; have BK201 := n0_; have HB := n1_; clear n0_ n1_; (try clear hb); (try clear hb2); (try clear hk); (try clear hi); have p222 : 0 ≤ ((ji46) : Int) := of_decide_eq_true (by first | (with_reducible assumption) | assumption); have q222 : (ji46) < ((rd_L2 l0_1 (ji12)).length : Int) := of_decide_eq_true (by first | (with_reducible assumption) | assumption); obtain ⟨ad222, e222, hx222_0, hx222_1, hx222_2, hx222_3, hx222_4⟩ := at_T49 HR204_0.out (ji46) p222 q222; obtain rfl : ad210 = ad222 := (by injection e222); replace hx222_0 := (HB.out.cell (World.block_lt_of_cell? w _ hx222_0)).trans hx222_0; replace hx222_1 := (HB.out.cell (World.block_lt_of_cell? w _ hx222_1)).trans hx222_1; replace hx222_2 := (HB.out.cell (World.block_lt_of_cell? w _ hx222_2)).trans hx222_2; replace hx222_3 := (HB.out.cell (World.block_lt_of_cell? w _ hx222_3)).trans hx222_3; replace hx222_4 := (HB.out.cell (World.block_lt_of_cell? w _ hx222_4)).trans hx222_4; replace p222 := eq_true p222; replace q222 := eq_true q222))
                                      go_ret
                                      exact ⟨by first | rfl | (simp [errW_none, errW_some] <;> rfl) | (simp only [← hji12, ← hji25, ← hji46]; first | rfl | (simp [errW_none, errW_some] <;> rfl)) | (simp [*, errW_none, errW_some] <;> rfl), by repeat (first | (with_reducible first | exact HB.out | apply below_alloc | apply pw_below_drewN | apply below_drew1 | refine below_set ?_ GE201.out) | exact HB.out)⟩
                                    · replace c76 := Bool.eq_false_iff.mpr c76
                                      subst c76
                                      have H1 : (some (!t209)) = some r := by rw [if_neg (show ¬ (false = true) by decide)] at H; exact H
                                      clear H
                                      have H := H1
                                      clear H1
                                      obtain rfl := Option.some.inj H
                                      have p216 : 0 ≤ ((ji46) : Int) := of_decide_eq_true (by first | (with_reducible assumption) | assumption)
                                      have q216 : (ji46) < ((rd_L2 l0_1 (ji12)).length : Int) := of_decide_eq_true (by first | (with_reducible assumption) | assumption)
                                      obtain ⟨ad216, e216, hx216_0, hx216_1, hx216_2, hx216_3, hx216_4⟩ := at_T49 HR204_0.out (ji46) p216 q216
                                      obtain rfl : ad210 = ad216 := (by injection e216)
                                      replace hx216_0 := (HB.out.cell (World.block_lt_of_cell? w _ hx216_0)).trans hx216_0
                                      replace hx216_1 := (HB.out.cell (World.block_lt_of_cell? w _ hx216_1)).trans hx216_1
                                      replace hx216_2 := (HB.out.cell (World.block_lt_of_cell? w _ hx216_2)).trans hx216_2
                                      replace hx216_3 := (HB.out.cell (World.block_lt_of_cell? w _ hx216_3)).trans hx216_3
                                      replace hx216_4 := (HB.out.cell (World.block_lt_of_cell? w _ hx216_4)).trans hx216_4
                                      replace p216 := eq_true p216
                                      replace q216 := eq_true q216
                                      go_wp2_with (first | (go_at_call 24; (with_reducible refine (fencepostref19_Writes.calls ((rd_T49 (rd_L2 l0_1 (ji12)) (ji46)).f0) ((rd_T49 (rd_L2 l0_1 (ji12)) (ji46)).f1) ((rd_T49 (rd_L2 l0_1 (ji12)) (ji46)).f2) ((rd_T49 (rd_L2 l0_1 (ji12)) (ji46)).f3) ((rd_T49 (rd_L2 l0_1 (ji12)) (ji46)).f4) false _ A49.out).mono ?_); rintro e w78 ⟨rfl, hb⟩; have n0_ := Aside0.mk (blk_below (g := gb201) (o := .cells #[.slice A0_0 l0_0.length c0_0, .slice (some ad204) l0_1.length c0_1] 25 (0, 0)) (by (with_reducible repeat (first | refine blk_drewN ?_ _ | refine blk_drew ?_ | refine blk_alloc ?_ _)); exact BK201.out) hb); have n1_ := Aside0.mk (below_step (by repeat (first | (with_reducible first | exact HB.out | apply below_alloc | apply pw_below_drewN | apply below_drew1 | refine below_set ?_ GE201.out) | exact HB.out)) hb); clear BK201; clear HB; have BK201 := n0_; have HB := n1_; clear n0_ n1_; (try clear hb); (try clear hb2); (try clear hk); (try clear hi); have p222 : 0 ≤ ((ji46) : Int) := of_decide_eq_true (by first | (with_reducible assumption) | assumption); have q222 : (ji46) < ((rd_L2 l0_1 (ji12)).length : Int) := of_decide_eq_true (by first | (with_reducible assumption) | assumption); obtain ⟨ad222, e222, hx222_0, hx222_1, hx222_2, hx222_3, hx222_4⟩ := at_T49 HR204_0.out (ji46) p222 q222; obtain rfl : ad210 = ad222 := (by injection e222); replace hx222_0 := (HB.out.cell (World.block_lt_of_cell? w _ hx222_0)).trans hx222_0; replace hx222_1 := (HB.out.cell (World.block_lt_of_cell? w _ hx222_1)).trans hx222_1; replace hx222_2 := (HB.out.cell (World.block_lt_of_cell? w _ hx222_2)).trans hx222_2; replace hx222_3 := (HB.out.cell (World.block_lt_of_cell? w _ hx222_3)).trans hx222_3; replace hx222_4 := (HB.out.cell (World.block_lt_of_cell? w _ hx222_4)).trans hx222_4; replace p222 := eq_true p222; replace q222 := eq_true q222))
                                      go_ret
                                      exact ⟨by first | rfl | (simp [errW_none, errW_some] <;> rfl) | (simp only [← hji12, ← hji25, ← hji46]; first | rfl | (simp [errW_none, errW_some] <;> rfl)) | (simp [*, errW_none, errW_some] <;> rfl), by repeat (first | (with_reducible first | exact HB.out | apply below_alloc | apply pw_below_drewN | apply below_drew1 | refine below_set ?_ GE201.out) | exact HB.out)⟩
                                  · rw [if_neg c75] at H
                                    have c75b0 : (((rd_T49 (rd_L2 l0_1 (ji12)) (ji46)).f0) == 6) = false := beq_eq_false_iff_ne.mpr c75
                                    have c75b1 : (((rd_T49 (rd_L2 l0_1 (ji12)) (ji46)).f0) != 6) = true := bne_iff_ne.mpr c75
                                    by_cases c79 : ((rd_T49 (rd_L2 l0_1 (ji12)) (ji46)).f0) = 5
                                    · rw [if_pos c79] at H
                                      have c79b0 : (((rd_T49 (rd_L2 l0_1 (ji12)) (ji46)).f0) == 5) = true := beq_iff_eq.mpr c79
                                      have c79b1 : (((rd_T49 (rd_L2 l0_1 (ji12)) (ji46)).f0) != 5) = false := bne_eq_false_iff_eq.mpr c79
                                      clear c79
                                      by_cases c80 : x14_1 = true
                                      · subst c80
                                        have H1 : (some true) = some r := by rw [if_pos rfl] at H; exact H
                                        clear H
                                        have H := H1
                                        clear H1
                                        obtain rfl := Option.some.inj H
                                        have p216 : 0 ≤ ((ji46) : Int) := of_decide_eq_true (by first | (with_reducible assumption) | assumption)
                                        have q216 : (ji46) < ((rd_L2 l0_1 (ji12)).length : Int) := of_decide_eq_true (by first | (with_reducible assumption) | assumption)
                                        obtain ⟨ad216, e216, hx216_0, hx216_1, hx216_2, hx216_3, hx216_4⟩ := at_T49 HR204_0.out (ji46) p216 q216
                                        obtain rfl : ad210 = ad216 := (by injection e216)
                                        replace hx216_0 := (HB.out.cell (World.block_lt_of_cell? w _ hx216_0)).trans hx216_0
                                        replace hx216_1 := (HB.out.cell (World.block_lt_of_cell? w _ hx216_1)).trans hx216_1
                                        replace hx216_2 := (HB.out.cell (World.block_lt_of_cell? w _ hx216_2)).trans hx216_2
                                        replace hx216_3 := (HB.out.cell (World.block_lt_of_cell? w _ hx216_3)).trans hx216_3
                                        replace hx216_4 := (HB.out.cell (World.block_lt_of_cell? w _ hx216_4)).trans hx216_4
                                        replace p216 := eq_true p216
                                        replace q216 := eq_true q216
                                        go_wp2_with (first | (go_at_call 24; (with_reducible refine (fencepostref19_Writes.calls ((rd_T49 (rd_L2 l0_1 (ji12)) (ji46)).f0) ((rd_T49 (rd_L2 l0_1 (ji12)) (ji46)).f1) ((rd_T49 (rd_L2 l0_1 (ji12)) (ji46)).f2) ((rd_T49 (rd_L2 l0_1 (ji12)) (ji46)).f3) ((rd_T49 (rd_L2 l0_1 (ji12)) (ji46)).f4) false _ A49.out).mono ?_); rintro e w81 ⟨rfl, hb⟩; have n0_ := Aside0.mk (blk_below (g := gb201) (o := .cells #[.slice A0_0 l0_0.length c0_0, .slice (some ad204) l0_1.length c0_1] 25 (0, 0)) (by (with_reducible repeat (first | refine blk_drewN ?_ _ | refine blk_drew ?_ | refine blk_alloc ?_ _)); exact BK201.out) hb); have n1_ := Aside0.mk (below_step (by repeat (first | (with_reducible first | exact HB.out | apply below_alloc | apply pw_below_drewN | apply below_drew1 | refine below_set ?_ GE201.out) | exact HB.out)) hb); clear BK201; clear HB; have BK201 := n0_; have HB := n1_; clear n0_ n1_; (try clear hb); (try clear hb2); (try clear hk); (try clear hi); have p222 : 0 ≤ ((ji46) : Int) := of_decide_eq_true (by first | (with_reducible assumption) | assumption); have q222 : (ji46) < ((rd_L2 l0_1 (ji12)).length : Int) := of_decide_eq_true (by first | (with_reducible assumption) | assumption); obtain ⟨ad222, e222, hx222_0, hx222_1, hx222_2, hx222_3, hx222_4⟩ := at_T49 HR204_0.out (ji46) p222 q222; obtain rfl : ad210 = ad222 := (by injection e222); replace hx222_0 := (HB.out.cell (World.block_lt_of_cell? w _ hx222_0)).trans hx222_0; replace hx222_1 := (HB.out.cell (World.block_lt_of_cell? w _ hx222_1)).trans hx222_1; replace hx222_2 := (HB.out.cell (World.block_lt_of_cell? w _ hx222_2)).trans hx222_2; replace hx222_3 := (HB.out.cell (World.block_lt_of_cell? w _ hx222_3)).trans hx222_3; replace hx222_4 := (HB.out.cell (World.block_lt_of_cell? w _ hx222_4)).trans hx222_4; replace p222 := eq_true p222; replace q222 := eq_true q222; have p223 : 0 ≤ ((ji46) : Int) := of_decide_eq_true (by first | (with_reducible assumption) | assumption); have q223 : (ji46) < ((rd_L2 l0_1 (ji12)).length : Int) := of_decide_eq_true (by first | (with_reducible assumption) | assumption); obtain ⟨ad223, e223, hx223_0, hx223_1, hx223_2, hx223_3, hx223_4⟩ := at_T49 HR204_0.out (ji46) p223 q223; obtain rfl : ad210 = ad223 := (by injection e223); replace hx223_0 := (HB.out.cell (World.block_lt_of_cell? w _ hx223_0)).trans hx223_0; replace hx223_1 := (HB.out.cell (World.block_lt_of_cell? w _ hx223_1)).trans hx223_1; replace hx223_2 := (HB.out.cell (World.block_lt_of_cell? w _ hx223_2)).trans hx223_2; replace hx223_3 := (HB.out.cell (World.block_lt_of_cell? w _ hx223_3)).trans hx223_3; replace hx223_4 := (HB.out.cell (World.block_lt_of_cell? w _ hx223_4)).trans hx223_4; replace p223 := eq_true p223; replace q223 := eq_true q223))
                                        go_ret
                                        exact ⟨by first | rfl | (simp [errW_none, errW_some] <;> rfl) | (simp only [← hji12, ← hji25, ← hji46]; first | rfl | (simp [errW_none, errW_some] <;> rfl)) | (simp [*, errW_none, errW_some] <;> rfl), by repeat (first | (with_reducible first | exact HB.out | apply below_alloc | apply pw_below_drewN | apply below_drew1 | refine below_set ?_ GE201.out) | exact HB.out)⟩
                                      · replace c80 := Bool.eq_false_iff.mpr c80
                                        subst c80
                                        have H1 : (some (!t209)) = some r := by rw [if_neg (show ¬ (false = true) by decide)] at H; exact H
                                        clear H
                                        have H := H1
                                        clear H1
                                        obtain rfl := Option.some.inj H
                                        have p216 : 0 ≤ ((ji46) : Int) := of_decide_eq_true (by first | (with_reducible assumption) | assumption)
                                        have q216 : (ji46) < ((rd_L2 l0_1 (ji12)).length : Int) := of_decide_eq_true (by first | (with_reducible assumption) | assumption)
                                        obtain ⟨ad216, e216, hx216_0, hx216_1, hx216_2, hx216_3, hx216_4⟩ := at_T49 HR204_0.out (ji46) p216 q216
                                        obtain rfl : ad210 = ad216 := (by injection e216)
                                        replace hx216_0 := (HB.out.cell (World.block_lt_of_cell? w _ hx216_0)).trans hx216_0
                                        replace hx216_1 := (HB.out.cell (World.block_lt_of_cell? w _ hx216_1)).trans hx216_1
                                        replace hx216_2 := (HB.out.cell (World.block_lt_of_cell? w _ hx216_2)).trans hx216_2
                                        replace hx216_3 := (HB.out.cell (World.block_lt_of_cell? w _ hx216_3)).trans hx216_3
                                        replace hx216_4 := (HB.out.cell (World.block_lt_of_cell? w _ hx216_4)).trans hx216_4
                                        replace p216 := eq_true p216
                                        replace q216 := eq_true q216
                                        go_wp2_with (first | (go_at_call 24; (with_reducible refine (fencepostref19_Writes.calls ((rd_T49 (rd_L2 l0_1 (ji12)) (ji46)).f0) ((rd_T49 (rd_L2 l0_1 (ji12)) (ji46)).f1) ((rd_T49 (rd_L2 l0_1 (ji12)) (ji46)).f2) ((rd_T49 (rd_L2 l0_1 (ji12)) (ji46)).f3) ((rd_T49 (rd_L2 l0_1 (ji12)) (ji46)).f4) false _ A49.out).mono ?_); rintro e w82 ⟨rfl, hb⟩; have n0_ := Aside0.mk (blk_below (g := gb201) (o := .cells #[.slice A0_0 l0_0.length c0_0, .slice (some ad204) l0_1.length c0_1] 25 (0, 0)) (by (with_reducible repeat (first | refine blk_drewN ?_ _ | refine blk_drew ?_ | refine blk_alloc ?_ _)); exact BK201.out) hb); have n1_ := Aside0.mk (below_step (by repeat (first | (with_reducible first | exact HB.out | apply below_alloc | apply pw_below_drewN | apply below_drew1 | refine below_set ?_ GE201.out) | exact HB.out)) hb); clear BK201; clear HB; have BK201 := n0_; have HB := n1_; clear n0_ n1_; (try clear hb); (try clear hb2); (try clear hk); (try clear hi); have p222 : 0 ≤ ((ji46) : Int) := of_decide_eq_true (by first | (with_reducible assumption) | assumption); have q222 : (ji46) < ((rd_L2 l0_1 (ji12)).length : Int) := of_decide_eq_true (by first | (with_reducible assumption) | assumption); obtain ⟨ad222, e222, hx222_0, hx222_1, hx222_2, hx222_3, hx222_4⟩ := at_T49 HR204_0.out (ji46) p222 q222; obtain rfl : ad210 = ad222 := (by injection e222); replace hx222_0 := (HB.out.cell (World.block_lt_of_cell? w _ hx222_0)).trans hx222_0; replace hx222_1 := (HB.out.cell (World.block_lt_of_cell? w _ hx222_1)).trans hx222_1; replace hx222_2 := (HB.out.cell (World.block_lt_of_cell? w _ hx222_2)).trans hx222_2; replace hx222_3 := (HB.out.cell (World.block_lt_of_cell? w _ hx222_3)).trans hx222_3; replace hx222_4 := (HB.out.cell (World.block_lt_of_cell? w _ hx222_4)).trans hx222_4; replace p222 := eq_true p222; replace q222 := eq_true q222; have p223 : 0 ≤ ((ji46) : Int) := of_decide_eq_true (by first | (with_reducible assumption) | assumption); have q223 : (ji46) < ((rd_L2 l0_1 (ji12)).length : Int) := of_decide_eq_true (by first | (with_reducible assumption) | assumption); obtain ⟨ad223, e223, hx223_0, hx223_1, hx223_2, hx223_3, hx223_4⟩ := at_T49 HR204_0.out (ji46) p223 q223; obtain rfl : ad210 = ad223 := (by injection e223); replace hx223_0 := (HB.out.cell (World.block_lt_of_cell? w _ hx223_0)).trans hx223_0; replace hx223_1 := (HB.out.cell (World.block_lt_of_cell? w _ hx223_1)).trans hx223_1; replace hx223_2 := (HB.out.cell (World.block_lt_of_cell? w _ hx223_2)).trans hx223_2; replace hx223_3 := (HB.out.cell (World.block_lt_of_cell? w _ hx223_3)).trans hx223_3; replace hx223_4 := (HB.out.cell (World.block_lt_of_cell? w _ hx223_4)).trans hx223_4; replace p223 := eq_true p223; replace q223 := eq_true q223))
                                        go_ret
                                        exact ⟨by first | rfl | (simp [errW_none, errW_some] <;> rfl) | (simp only [← hji12, ← hji25, ← hji46]; first | rfl | (simp [errW_none, errW_some] <;> rfl)) | (simp [*, errW_none, errW_some] <;> rfl), by repeat (first | (with_reducible first | exact HB.out | apply below_alloc | apply pw_below_drewN | apply below_drew1 | refine below_set ?_ GE201.out) | exact HB.out)⟩
                                    · rw [if_neg c79] at H
                                      have c79b0 : (((rd_T49 (rd_L2 l0_1 (ji12)) (ji46)).f0) == 5) = false := beq_eq_false_iff_ne.mpr c79
                                      have c79b1 : (((rd_T49 (rd_L2 l0_1 (ji12)) (ji46)).f0) != 5) = true := bne_iff_ne.mpr c79
                                      obtain rfl := Option.some.inj H
                                      have p216 : 0 ≤ ((ji46) : Int) := of_decide_eq_true (by first | (with_reducible assumption) | assumption)
                                      have q216 : (ji46) < ((rd_L2 l0_1 (ji12)).length : Int) := of_decide_eq_true (by first | (with_reducible assumption) | assumption)
                                      obtain ⟨ad216, e216, hx216_0, hx216_1, hx216_2, hx216_3, hx216_4⟩ := at_T49 HR204_0.out (ji46) p216 q216
                                      obtain rfl : ad210 = ad216 := (by injection e216)
                                      replace hx216_0 := (HB.out.cell (World.block_lt_of_cell? w _ hx216_0)).trans hx216_0
                                      replace hx216_1 := (HB.out.cell (World.block_lt_of_cell? w _ hx216_1)).trans hx216_1
                                      replace hx216_2 := (HB.out.cell (World.block_lt_of_cell? w _ hx216_2)).trans hx216_2
                                      replace hx216_3 := (HB.out.cell (World.block_lt_of_cell? w _ hx216_3)).trans hx216_3
                                      replace hx216_4 := (HB.out.cell (World.block_lt_of_cell? w _ hx216_4)).trans hx216_4
                                      replace p216 := eq_true p216
                                      replace q216 := eq_true q216
                                      go_wp2_with (first | (go_at_call 24; (with_reducible refine (fencepostref19_Writes.calls ((rd_T49 (rd_L2 l0_1 (ji12)) (ji46)).f0) ((rd_T49 (rd_L2 l0_1 (ji12)) (ji46)).f1) ((rd_T49 (rd_L2 l0_1 (ji12)) (ji46)).f2) ((rd_T49 (rd_L2 l0_1 (ji12)) (ji46)).f3) ((rd_T49 (rd_L2 l0_1 (ji12)) (ji46)).f4) false _ A49.out).mono ?_); rintro e w83 ⟨rfl, hb⟩; have n0_ := Aside0.mk (blk_below (g := gb201) (o := .cells #[.slice A0_0 l0_0.length c0_0, .slice (some ad204) l0_1.length c0_1] 25 (0, 0)) (by (with_reducible repeat (first | refine blk_drewN ?_ _ | refine blk_drew ?_ | refine blk_alloc ?_ _)); exact BK201.out) hb); have n1_ := Aside0.mk (below_step (by repeat (first | (with_reducible first | exact HB.out | apply below_alloc | apply pw_below_drewN | apply below_drew1 | refine below_set ?_ GE201.out) | exact HB.out)) hb); clear BK201; clear HB; have BK201 := n0_; have HB := n1_; clear n0_ n1_; (try clear hb); (try clear hb2); (try clear hk); (try clear hi); have p222 : 0 ≤ ((ji46) : Int) := of_decide_eq_true (by first | (with_reducible assumption) | assumption); have q222 : (ji46) < ((rd_L2 l0_1 (ji12)).length : Int) := of_decide_eq_true (by first | (with_reducible assumption) | assumption); obtain ⟨ad222, e222, hx222_0, hx222_1, hx222_2, hx222_3, hx222_4⟩ := at_T49 HR204_0.out (ji46) p222 q222; obtain rfl : ad210 = ad222 := (by injection e222); replace hx222_0 := (HB.out.cell (World.block_lt_of_cell? w _ hx222_0)).trans hx222_0; replace hx222_1 := (HB.out.cell (World.block_lt_of_cell? w _ hx222_1)).trans hx222_1; replace hx222_2 := (HB.out.cell (World.block_lt_of_cell? w _ hx222_2)).trans hx222_2; replace hx222_3 := (HB.out.cell (World.block_lt_of_cell? w _ hx222_3)).trans hx222_3; replace hx222_4 := (HB.out.cell (World.block_lt_of_cell? w _ hx222_4)).trans hx222_4; replace p222 := eq_true p222; replace q222 := eq_true q222; have p223 : 0 ≤ ((ji46) : Int) := of_decide_eq_true (by first | (with_reducible assumption) | assumption); have q223 : (ji46) < ((rd_L2 l0_1 (ji12)).length : Int) := of_decide_eq_true (by first | (with_reducible assumption) | assumption); obtain ⟨ad223, e223, hx223_0, hx223_1, hx223_2, hx223_3, hx223_4⟩ := at_T49 HR204_0.out (ji46) p223 q223; obtain rfl : ad210 = ad223 := (by injection e223); replace hx223_0 := (HB.out.cell (World.block_lt_of_cell? w _ hx223_0)).trans hx223_0; replace hx223_1 := (HB.out.cell (World.block_lt_of_cell? w _ hx223_1)).trans hx223_1; replace hx223_2 := (HB.out.cell (World.block_lt_of_cell? w _ hx223_2)).trans hx223_2; replace hx223_3 := (HB.out.cell (World.block_lt_of_cell? w _ hx223_3)).trans hx223_3; replace hx223_4 := (HB.out.cell (World.block_lt_of_cell? w _ hx223_4)).trans hx223_4; replace p223 := eq_true p223; replace q223 := eq_true q223))
                                      go_ret
                                      exact ⟨by first | rfl | (simp [errW_none, errW_some] <;> rfl) | (simp only [← hji12, ← hji25, ← hji46]; first | rfl | (simp [errW_none, errW_some] <;> rfl)) | (simp [*, errW_none, errW_some] <;> rfl), by repeat (first | (with_reducible first | exact HB.out | apply below_alloc | apply pw_below_drewN | apply below_drew1 | refine below_set ?_ GE201.out) | exact HB.out)⟩
                                · replace c74 := Bool.eq_false_iff.mpr c74
                                  subst c74
                                  have H1 : (some false) = some r := by rw [if_neg (show ¬ (false = true) by decide)] at H; exact H
                                  clear H
                                  have H := H1
                                  clear H1
                                  exact absurd ((Option.some.inj H).trans HT.out) (by simp)
                            · rw [if_neg c48] at H
                              exact absurd H (by simp)
                          · rw [if_neg c47] at H
                            exact absurd H (by simp)
                        · replace c45 := Bool.eq_false_iff.mpr c45
                          subst c45
                          have H1 : (if t202 = true then (if 0 ≤ (Int.tmod (wrap64 (a2)) (wrap64 (((rd_L2 l0_1 (ji12)).length : Int) - 1))) then (if (Int.tmod (wrap64 (a2)) (wrap64 (((rd_L2 l0_1 (ji12)).length : Int) - 1))) < ((rd_L2 l0_1 (ji12)).length : Int) then (if ((rd_T49 (rd_L2 l0_1 (ji12)) (Int.tmod (wrap64 (a2)) (wrap64 (((rd_L2 l0_1 (ji12)).length : Int) - 1)))).f0) = 6 then (if x14_1 = true then (some true) else (some (!t209))) else (if ((rd_T49 (rd_L2 l0_1 (ji12)) (Int.tmod (wrap64 (a2)) (wrap64 (((rd_L2 l0_1 (ji12)).length : Int) - 1)))).f0) = 5 then (if x14_1 = true then (some true) else (some (!t209))) else (some true))) else (none)) else (none)) else (some false)) = some r := by rw [if_neg (show ¬ (false = true) by decide)] at H; exact H
                          clear H
                          have H := H1
                          clear H1
                          by_cases c84 : t202 = true
                          · subst c84
                            have H1 : (if 0 ≤ (Int.tmod (wrap64 (a2)) (wrap64 (((rd_L2 l0_1 (ji12)).length : Int) - 1))) then (if (Int.tmod (wrap64 (a2)) (wrap64 (((rd_L2 l0_1 (ji12)).length : Int) - 1))) < ((rd_L2 l0_1 (ji12)).length : Int) then (if ((rd_T49 (rd_L2 l0_1 (ji12)) (Int.tmod (wrap64 (a2)) (wrap64 (((rd_L2 l0_1 (ji12)).length : Int) - 1)))).f0) = 6 then (if x14_1 = true then (some true) else (some (!t209))) else (if ((rd_T49 (rd_L2 l0_1 (ji12)) (Int.tmod (wrap64 (a2)) (wrap64 (((rd_L2 l0_1 (ji12)).length : Int) - 1)))).f0) = 5 then (if x14_1 = true then (some true) else (some (!t209))) else (some true))) else (none)) else (none)) = some r := by rw [if_pos rfl] at H; exact H
                            clear H
                            have H := H1
                            clear H1
                            obtain ⟨ji85, hji85⟩ : ∃ j_ : Int, (Int.tmod (wrap64 (a2)) (wrap64 (((rd_L2 l0_1 (ji12)).length : Int) - 1))) = j_ := ⟨_, rfl⟩
                            replace H : (if 0 ≤ (ji85) then (if (ji85) < ((rd_L2 l0_1 (ji12)).length : Int) then (if ((rd_T49 (rd_L2 l0_1 (ji12)) (ji85)).f0) = 6 then (if x14_1 = true then (some true) else (some (!t209))) else (if ((rd_T49 (rd_L2 l0_1 (ji12)) (ji85)).f0) = 5 then (if x14_1 = true then (some true) else (some (!t209))) else (some true))) else (none)) else (none)) = some r := by first | (rw [hji85] at H; exact H) | (simp only [hji85] at H ⊢; exact H)
                            by_cases c86 : 0 ≤ (ji85)
                            · rw [if_pos c86] at H
                              have c86b0 : decide (0 ≤ (ji85)) = true := decide_eq_true c86
                              clear c86
                              by_cases c87 : (ji85) < ((rd_L2 l0_1 (ji12)).length : Int)
                              · rw [if_pos c87] at H
                                have c87b0 : decide ((ji85) < ((rd_L2 l0_1 (ji12)).length : Int)) = true := decide_eq_true c87
                                clear c87
                                by_cases c88 : ((rd_T49 (rd_L2 l0_1 (ji12)) (ji85)).f0) = 6
                                · rw [if_pos c88] at H
                                  have c88b0 : (((rd_T49 (rd_L2 l0_1 (ji12)) (ji85)).f0) == 6) = true := beq_iff_eq.mpr c88
                                  have c88b1 : (((rd_T49 (rd_L2 l0_1 (ji12)) (ji85)).f0) != 6) = false := bne_eq_false_iff_eq.mpr c88
                                  clear c88
                                  by_cases c89 : x14_1 = true
                                  · subst c89
                                    have H1 : (some true) = some r := by rw [if_pos rfl] at H; exact H
                                    clear H
                                    have H := H1
                                    clear H1
                                    obtain rfl := Option.some.inj H
                                    have p224 : 0 ≤ ((ji85) : Int) := of_decide_eq_true (by first | (with_reducible assumption) | assumption)
                                    have q224 : (ji85) < ((rd_L2 l0_1 (ji12)).length : Int) := of_decide_eq_true (by first | (with_reducible assumption) | assumption)
                                    obtain ⟨ad224, e224, hx224_0, hx224_1, hx224_2, hx224_3, hx224_4⟩ := at_T49 HR204_0.out (ji85) p224 q224
                                    obtain rfl : ad210 = ad224 := (by injection e224)
                                    replace hx224_0 := (HB.out.cell (World.block_lt_of_cell? w _ hx224_0)).trans hx224_0
                                    replace hx224_1 := (HB.out.cell (World.block_lt_of_cell? w _ hx224_1)).trans hx224_1
                                    replace hx224_2 := (HB.out.cell (World.block_lt_of_cell? w _ hx224_2)).trans hx224_2
                                    replace hx224_3 := (HB.out.cell (World.block_lt_of_cell? w _ hx224_3)).trans hx224_3
                                    replace hx224_4 := (HB.out.cell (World.block_lt_of_cell? w _ hx224_4)).trans hx224_4
                                    replace p224 := eq_true p224
                                    replace q224 := eq_true q224
                                    go_wp2
                                    go_ret
                                    exact ⟨by first | rfl | (simp [errW_none, errW_some] <;> rfl) | (simp only [← hji12, ← hji25, ← hji85]; first | rfl | (simp [errW_none, errW_some] <;> rfl)) | (simp [*, errW_none, errW_some] <;> rfl), by repeat (first | (with_reducible first | exact HB.out | apply below_alloc | apply pw_below_drewN | apply below_drew1 | refine below_set ?_ GE201.out) | exact HB.out)⟩
                                  · replace c89 := Bool.eq_false_iff.mpr c89
                                    subst c89
                                    have H1 : (some (!t209)) = some r := by rw [if_neg (show ¬ (false = true) by decide)] at H; exact H
                                    clear H
                                    have H := H1
                                    clear H1
                                    obtain rfl := Option.some.inj H
                                    have p224 : 0 ≤ ((ji85) : Int) := of_decide_eq_true (by first | (with_reducible assumption) | assumption)
                                    have q224 : (ji85) < ((rd_L2 l0_1 (ji12)).length : Int) := of_decide_eq_true (by first | (with_reducible assumption) | assumption)
                                    obtain ⟨ad224, e224, hx224_0, hx224_1, hx224_2, hx224_3, hx224_4⟩ := at_T49 HR204_0.out (ji85) p224 q224
                                    obtain rfl : ad210 = ad224 := (by injection e224)
                                    replace hx224_0 := (HB.out.cell (World.block_lt_of_cell? w _ hx224_0)).trans hx224_0
                                    replace hx224_1 := (HB.out.cell (World.block_lt_of_cell? w _ hx224_1)).trans hx224_1
                                    replace hx224_2 := (HB.out.cell (World.block_lt_of_cell? w _ hx224_2)).trans hx224_2
                                    replace hx224_3 := (HB.out.cell (World.block_lt_of_cell? w _ hx224_3)).trans hx224_3
                                    replace hx224_4 := (HB.out.cell (World.block_lt_of_cell? w _ hx224_4)).trans hx224_4
                                    replace p224 := eq_true p224
                                    replace q224 := eq_true q224
                                    go_wp2
                                    go_ret
                                    exact ⟨by first | rfl | (simp [errW_none, errW_some] <;> rfl) | (simp only [← hji12, ← hji25, ← hji85]; first | rfl | (simp [errW_none, errW_some] <;> rfl)) | (simp [*, errW_none, errW_some] <;> rfl), by repeat (first | (with_reducible first | exact HB.out | apply below_alloc | apply pw_below_drewN | apply below_drew1 | refine below_set ?_ GE201.out) | exact HB.out)⟩
                                · rw [if_neg c88] at H
                                  have c88b0 : (((rd_T49 (rd_L2 l0_1 (ji12)) (ji85)).f0) == 6) = false := beq_eq_false_iff_ne.mpr c88
                                  have c88b1 : (((rd_T49 (rd_L2 l0_1 (ji12)) (ji85)).f0) != 6) = true := bne_iff_ne.mpr c88
                                  by_cases c90 : ((rd_T49 (rd_L2 l0_1 (ji12)) (ji85)).f0) = 5
                                  · rw [if_pos c90] at H
                                    have c90b0 : (((rd_T49 (rd_L2 l0_1 (ji12)) (ji85)).f0) == 5) = true := beq_iff_eq.mpr c90
                                    have c90b1 : (((rd_T49 (rd_L2 l0_1 (ji12)) (ji85)).f0) != 5) = false := bne_eq_false_iff_eq.mpr c90
                                    clear c90
                                    by_cases c91 : x14_1 = true
                                    · subst c91
                                      have H1 : (some true) = some r := by rw [if_pos rfl] at H; exact H
                                      clear H
                                      have H := H1
                                      clear H1
                                      obtain rfl := Option.some.inj H
                                      have p224 : 0 ≤ ((ji85) : Int) := of_decide_eq_true (by first | (with_reducible assumption) | assumption)
                                      have q224 : (ji85) < ((rd_L2 l0_1 (ji12)).length : Int) := of_decide_eq_true (by first | (with_reducible assumption) | assumption)
                                      obtain ⟨ad224, e224, hx224_0, hx224_1, hx224_2, hx224_3, hx224_4⟩ := at_T49 HR204_0.out (ji85) p224 q224
                                      obtain rfl : ad210 = ad224 := (by injection e224)
                                      replace hx224_0 := (HB.out.cell (World.block_lt_of_cell? w _ hx224_0)).trans hx224_0
                                      replace hx224_1 := (HB.out.cell (World.block_lt_of_cell? w _ hx224_1)).trans hx224_1
                                      replace hx224_2 := (HB.out.cell (World.block_lt_of_cell? w _ hx224_2)).trans hx224_2
                                      replace hx224_3 := (HB.out.cell (World.block_lt_of_cell? w _ hx224_3)).trans hx224_3
                                      replace hx224_4 := (HB.out.cell (World.block_lt_of_cell? w _ hx224_4)).trans hx224_4
                                      replace p224 := eq_true p224
                                      replace q224 := eq_true q224
                                      have p225 : 0 ≤ ((ji85) : Int) := of_decide_eq_true (by first | (with_reducible assumption) | assumption)
                                      have q225 : (ji85) < ((rd_L2 l0_1 (ji12)).length : Int) := of_decide_eq_true (by first | (with_reducible assumption) | assumption)
                                      obtain ⟨ad225, e225, hx225_0, hx225_1, hx225_2, hx225_3, hx225_4⟩ := at_T49 HR204_0.out (ji85) p225 q225
                                      obtain rfl : ad210 = ad225 := (by injection e225)
                                      replace hx225_0 := (HB.out.cell (World.block_lt_of_cell? w _ hx225_0)).trans hx225_0
                                      replace hx225_1 := (HB.out.cell (World.block_lt_of_cell? w _ hx225_1)).trans hx225_1
                                      replace hx225_2 := (HB.out.cell (World.block_lt_of_cell? w _ hx225_2)).trans hx225_2
                                      replace hx225_3 := (HB.out.cell (World.block_lt_of_cell? w _ hx225_3)).trans hx225_3
                                      replace hx225_4 := (HB.out.cell (World.block_lt_of_cell? w _ hx225_4)).trans hx225_4
                                      replace p225 := eq_true p225
                                      replace q225 := eq_true q225
                                      go_wp2
                                      go_ret
                                      exact ⟨by first | rfl | (simp [errW_none, errW_some] <;> rfl) | (simp only [← hji12, ← hji25, ← hji85]; first | rfl | (simp [errW_none, errW_some] <;> rfl)) | (simp [*, errW_none, errW_some] <;> rfl), by repeat (first | (with_reducible first | exact HB.out | apply below_alloc | apply pw_below_drewN | apply below_drew1 | refine below_set ?_ GE201.out) | exact HB.out)⟩
                                    · replace c91 := Bool.eq_false_iff.mpr c91
                                      subst c91
                                      have H1 : (some (!t209)) = some r := by rw [if_neg (show ¬ (false = true) by decide)] at H; exact H
                                      clear H
                                      have H := H1
                                      clear H1
                                      obtain rfl := Option.some.inj H
                                      have p224 : 0 ≤ ((ji85) : Int) := of_decide_eq_true (by first | (with_reducible assumption) | assumption)
                                      have q224 : (ji85) < ((rd_L2 l0_1 (ji12)).length : Int) := of_decide_eq_true (by first | (with_reducible assumption) | assumption)
                                      obtain ⟨ad224, e224, hx224_0, hx224_1, hx224_2, hx224_3, hx224_4⟩ := at_T49 HR204_0.out (ji85) p224 q224
                                      obtain rfl : ad210 = ad224 := (by injection e224)
                                      replace hx224_0 := (HB.out.cell (World.block_lt_of_cell? w _ hx224_0)).trans hx224_0
                                      replace hx224_1 := (HB.out.cell (World.block_lt_of_cell? w _ hx224_1)).trans hx224_1
                                      replace hx224_2 := (HB.out.cell (World.block_lt_of_cell? w _ hx224_2)).trans hx224_2
                                      replace hx224_3 := (HB.out.cell (World.block_lt_of_cell? w _ hx224_3)).trans hx224_3
                                      replace hx224_4 := (HB.out.cell (World.block_lt_of_cell? w _ hx224_4)).trans hx224_4
                                      replace p224 := eq_true p224
                                      replace q224 := eq_true q224
                                      have p225 : 0 ≤ ((ji85) : Int) := of_decide_eq_true (by first | (with_reducible assumption) | assumption)
                                      have q225 : (ji85) < ((rd_L2 l0_1 (ji12)).length : Int) := of_decide_eq_true (by first | (with_reducible assumption) | assumption)
                                      obtain ⟨ad225, e225, hx225_0, hx225_1, hx225_2, hx225_3, hx225_4⟩ := at_T49 HR204_0.out (ji85) p225 q225
                                      obtain rfl : ad210 = ad225 := (by injection e225)
                                      replace hx225_0 := (HB.out.cell (World.block_lt_of_cell? w _ hx225_0)).trans hx225_0
                                      replace hx225_1 := (HB.out.cell (World.block_lt_of_cell? w _ hx225_1)).trans hx225_1
                                      replace hx225_2 := (HB.out.cell (World.block_lt_of_cell? w _ hx225_2)).trans hx225_2
                                      replace hx225_3 := (HB.out.cell (World.block_lt_of_cell? w _ hx225_3)).trans hx225_3
                                      replace hx225_4 := (HB.out.cell (World.block_lt_of_cell? w _ hx225_4)).trans hx225_4
                                      replace p225 := eq_true p225
                                      replace q225 := eq_true q225
                                      go_wp2
                                      go_ret
                                      exact ⟨by first | rfl | (simp [errW_none, errW_some] <;> rfl) | (simp only [← hji12, ← hji25, ← hji85]; first | rfl | (simp [errW_none, errW_some] <;> rfl)) | (simp [*, errW_none, errW_some] <;> rfl), by repeat (first | (with_reducible first | exact HB.out | apply below_alloc | apply pw_below_drewN | apply below_drew1 | refine below_set ?_ GE201.out) | exact HB.out)⟩
                                  · rw [if_neg c90] at H
                                    have c90b0 : (((rd_T49 (rd_L2 l0_1 (ji12)) (ji85)).f0) == 5) = false := beq_eq_false_iff_ne.mpr c90
                                    have c90b1 : (((rd_T49 (rd_L2 l0_1 (ji12)) (ji85)).f0) != 5) = true := bne_iff_ne.mpr c90
                                    obtain rfl := Option.some.inj H
                                    have p224 : 0 ≤ ((ji85) : Int) := of_decide_eq_true (by first | (with_reducible assumption) | assumption)
                                    have q224 : (ji85) < ((rd_L2 l0_1 (ji12)).length : Int) := of_decide_eq_true (by first | (with_reducible assumption) | assumption)
                                    obtain ⟨ad224, e224, hx224_0, hx224_1, hx224_2, hx224_3, hx224_4⟩ := at_T49 HR204_0.out (ji85) p224 q224
                                    obtain rfl : ad210 = ad224 := (by injection e224)
                                    replace hx224_0 := (HB.out.cell (World.block_lt_of_cell? w _ hx224_0)).trans hx224_0
                                    replace hx224_1 := (HB.out.cell (World.block_lt_of_cell? w _ hx224_1)).trans hx224_1
                                    replace hx224_2 := (HB.out.cell (World.block_lt_of_cell? w _ hx224_2)).trans hx224_2
                                    replace hx224_3 := (HB.out.cell (World.block_lt_of_cell? w _ hx224_3)).trans hx224_3
                                    replace hx224_4 := (HB.out.cell (World.block_lt_of_cell? w _ hx224_4)).trans hx224_4
                                    replace p224 := eq_true p224
                                    replace q224 := eq_true q224
                                    have p225 : 0 ≤ ((ji85) : Int) := of_decide_eq_true (by first | (with_reducible assumption) | assumption)
                                    have q225 : (ji85) < ((rd_L2 l0_1 (ji12)).length : Int) := of_decide_eq_true (by first | (with_reducible assumption) | assumption)
                                    obtain ⟨ad225, e225, hx225_0, hx225_1, hx225_2, hx225_3, hx225_4⟩ := at_T49 HR204_0.out (ji85) p225 q225
                                    obtain rfl : ad210 = ad225 := (by injection e225)
                                    replace hx225_0 := (HB.out.cell (World.block_lt_of_cell? w _ hx225_0)).trans hx225_0
                                    replace hx225_1 := (HB.out.cell (World.block_lt_of_cell? w _ hx225_1)).trans hx225_1
                                    replace hx225_2 := (HB.out.cell (World.block_lt_of_cell? w _ hx225_2)).trans hx225_2
                                    replace hx225_3 := (HB.out.cell (World.block_lt_of_cell? w _ hx225_3)).trans hx225_3
                                    replace hx225_4 := (HB.out.cell (World.block_lt_of_cell? w _ hx225_4)).trans hx225_4
                                    replace p225 := eq_true p225
                                    replace q225 := eq_true q225
                                    go_wp2
                                    go_ret
                                    exact ⟨by first | rfl | (simp [errW_none, errW_some] <;> rfl) | (simp only [← hji12, ← hji25, ← hji85]; first | rfl | (simp [errW_none, errW_some] <;> rfl)) | (simp [*, errW_none, errW_some] <;> rfl), by repeat (first | (with_reducible first | exact HB.out | apply below_alloc | apply pw_below_drewN | apply below_drew1 | refine below_set ?_ GE201.out) | exact HB.out)⟩
                              · rw [if_neg c87] at H
                                exact absurd H (by simp)
                            · rw [if_neg c86] at H
                              exact absurd H (by simp)
                          · replace c84 := Bool.eq_false_iff.mpr c84
                            subst c84
                            have H1 : (some false) = some r := by rw [if_neg (show ¬ (false = true) by decide)] at H; exact H
                            clear H
                            have H := H1
                            clear H1
                            exact absurd ((Option.some.inj H).trans HT.out) (by simp)
                · rw [if_neg c27] at H
                  exact absurd H (by simp)
              · rw [if_neg c26] at H
                exact absurd H (by simp)
        · rw [if_neg c14] at H
          exact absurd H (by simp)
      · rw [if_neg c13] at H
        exact absurd H (by simp)

end Go.Proofs.Ytodjfbcpohcbaaa.Print
