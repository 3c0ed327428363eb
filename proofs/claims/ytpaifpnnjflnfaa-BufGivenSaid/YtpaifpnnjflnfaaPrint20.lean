-- Written by ownprint.py (this session's) with the kit's print.py: functions, contracts, rows; Lean checks it.
import Derived.Test.YtpaifpnnjflnfaaPrint0
import Derived.Test.YtpaifpnnjflnfaaPrint2
import Derived.Test.YtpaifpnnjflnfaaPrint15
import Derived.Test.YtpaifpnnjflnfaaPrint16
import Derived.Test.YtpaifpnnjflnfaaHPush
namespace Go.Proofs.Ytpaifpnnjflnfaa.Print
open Go.RowKit Go.Proofs.YtpaifpnnjflnfaaW.PrintWords Go.Proofs.YtpaifpnnjflnfaaW.PrintLast Go.Proofs.YtpaifpnnjflnfaaW.PrintMore
attribute [local go_sem] max2_int min2_int max_two min_two max_three min_three max_four min_four   -- for this text's walks alone
set_option linter.unusedVariables false
set_option linter.unusedSimpArgs false

/-! ### fencepostlaw09_BufGiven: function 14 -/
mutual
def fencepostlaw09_BufGiven.l0 : Nat → List (S51) → List Int → Bool → List (S51) → List Int → List (S51) → List (S51) → List Int → List Int → Int → Option (Bool)
  | 0, _, _, _, _, _, _, _, _, _, _ => none
  | k + 1, x0, x2, x7, x8, x9, x10, x11, x12, x14, x15 => if x15 < (x10.length : Int) then (if 0 ≤ x15 then (fencepostlaw09_BufGiven.l0 k x0 x2 x7 x8 x9 (x10.set (x15 : Int).toNat (⟨(rd_T51 x10 x15).f0, 77⟩ : S51)) x11 x12 x14 (wrap64 (x15 + 1))) else (none)) else (fencepostlaw09_BufGiven.l1 k x0 x2 x7 x8 x9 x11 x12 x14 0)
def fencepostlaw09_BufGiven.l1 : Nat → List (S51) → List Int → Bool → List (S51) → List Int → List (S51) → List Int → List Int → Int → Option (Bool)
  | 0, _, _, _, _, _, _, _, _, _ => none
  | k + 1, x0, x2, x7, x8, x9, x11, x12, x14, x16 => if x16 < (x11.length : Int) then (if 0 ≤ x16 then (fencepostlaw09_BufGiven.l1 k x0 x2 x7 x8 x9 (x11.set (x16 : Int).toNat (⟨(rd_T51 x11 x16).f0, 77⟩ : S51)) x12 x14 (wrap64 (x16 + 1))) else (none)) else (fencepostlaw09_BufGiven.l2 k x0 x2 x7 x8 x9 x12 x14 0)
def fencepostlaw09_BufGiven.l2 : Nat → List (S51) → List Int → Bool → List (S51) → List Int → List Int → List Int → Int → Option (Bool)
  | 0, _, _, _, _, _, _, _, _ => none
  | k + 1, x0, x2, x7, x8, x9, x12, x14, x17 => if x17 < (x12.length : Int) then (if 0 ≤ x17 then (fencepostlaw09_BufGiven.l2 k x0 x2 x7 x8 x9 (x12.set (x17 : Int).toNat 77) x14 (wrap64 (x17 + 1))) else (none)) else (fencepostlaw09_BufGiven.l3 k x0 x2 x7 x8 x9 x14 0)
def fencepostlaw09_BufGiven.l3 : Nat → List (S51) → List Int → Bool → List (S51) → List Int → List Int → Int → Option (Bool)
  | 0, _, _, _, _, _, _, _ => none
  | k + 1, x0, x2, x7, x8, x9, x14, x18 => if x18 < (x14.length : Int) then (if 0 ≤ x18 then (fencepostlaw09_BufGiven.l3 k x0 x2 x7 x8 x9 (x14.set (x18 : Int).toNat 77) (wrap64 (x18 + 1))) else (none)) else (if x7 = true then ((fencepostref09_Same.f k x0 x8).bind fun t771 => (if t771 = true then ((fencepostref07_SameInts.f k x2 x9).bind fun t772 => (some t772)) else (some false))) else (some false))
end
def fencepostlaw09_BufGiven.f (k : Nat) (l0 : List (S51)) (a1_0 : Int) (a1_1 : Int) (l2 : List Int) : Option (Bool) := (fencepostlaw09_head.f k).bind fun t740 => ((fencepostlaw09_great.f l0 l2).bind fun t741 => (if t741 = true then (some t740) else ((some (([] : List (S51)) : List (S51))).bind fun y742 => (if y742.length + l0.length < 8796093022208 then ((some (([] : List Int) : List Int)).bind fun y748 => (if y748.length + l2.length < 17592186044416 then ((buf_Push.f l0 a1_0 a1_1).bind fun t754 => ((buf_Drain.f k l0 l2).bind fun bt757 => ((buf_All.f k l0 l2).bind fun t764 => (fencepostlaw09_BufGiven.l0 k l0 l2 t740 (y742 ++ l0) (y748 ++ l2) t754 bt757.1 bt757.2.1 t764 0)))) else (none))) else (none)))))
theorem fencepostlaw09_BufGiven.mono_l : ∀ k, (∀ y0 y1 y2 y3 y4 y5 y6 y7 y8 y9, LeO (fencepostlaw09_BufGiven.l0 k y0 y1 y2 y3 y4 y5 y6 y7 y8 y9) (fencepostlaw09_BufGiven.l0 (k + 1) y0 y1 y2 y3 y4 y5 y6 y7 y8 y9)) ∧ (∀ y0 y1 y2 y3 y4 y5 y6 y7 y8, LeO (fencepostlaw09_BufGiven.l1 k y0 y1 y2 y3 y4 y5 y6 y7 y8) (fencepostlaw09_BufGiven.l1 (k + 1) y0 y1 y2 y3 y4 y5 y6 y7 y8)) ∧ (∀ y0 y1 y2 y3 y4 y5 y6 y7, LeO (fencepostlaw09_BufGiven.l2 k y0 y1 y2 y3 y4 y5 y6 y7) (fencepostlaw09_BufGiven.l2 (k + 1) y0 y1 y2 y3 y4 y5 y6 y7)) ∧ (∀ y0 y1 y2 y3 y4 y5 y6, LeO (fencepostlaw09_BufGiven.l3 k y0 y1 y2 y3 y4 y5 y6) (fencepostlaw09_BufGiven.l3 (k + 1) y0 y1 y2 y3 y4 y5 y6))
  | 0 => ⟨fun _ _ _ _ _ _ _ _ _ _ r h => by simp [fencepostlaw09_BufGiven.l0] at h, fun _ _ _ _ _ _ _ _ _ r h => by simp [fencepostlaw09_BufGiven.l1] at h, fun _ _ _ _ _ _ _ _ r h => by simp [fencepostlaw09_BufGiven.l2] at h, fun _ _ _ _ _ _ _ r h => by simp [fencepostlaw09_BufGiven.l3] at h⟩
  | k + 1 => by
    obtain ⟨ih0, ih1, ih2, ih3⟩ := fencepostlaw09_BufGiven.mono_l k
    refine ⟨?_, ?_, ?_, ?_⟩
    · intro y0 y1 y2 y3 y4 y5 y6 y7 y8 y9
      unfold fencepostlaw09_BufGiven.l0
      repeat' first
      | (with_reducible exact ih0 _ _ _ _ _ _ _ _ _ _)
      | (with_reducible exact ih1 _ _ _ _ _ _ _ _ _)
      | (with_reducible exact ih2 _ _ _ _ _ _ _ _)
      | (with_reducible exact ih3 _ _ _ _ _ _ _)
      | (with_reducible exact buf_All.mono _ _ _)
      | (with_reducible exact buf_Drain.mono _ _ _)
      | (with_reducible exact fencepostlaw09_head.mono _)
      | (with_reducible exact fencepostref07_SameInts.mono _ _ _)
      | (with_reducible exact fencepostref09_Same.mono _ _ _)
      | (with_reducible exact LeO.refl _)
      | (with_reducible exact LeO.none _)
      | (with_reducible refine LeO.ite ?_ ?_)
      | (with_reducible refine LeO.bind ?_ (fun _ => ?_))
      | exact ih0 _ _ _ _ _ _ _ _ _ _
      | exact ih1 _ _ _ _ _ _ _ _ _
      | exact ih2 _ _ _ _ _ _ _ _
      | exact ih3 _ _ _ _ _ _ _
      | exact buf_All.mono _ _ _
      | exact buf_Drain.mono _ _ _
      | exact fencepostlaw09_head.mono _
      | exact fencepostref07_SameInts.mono _ _ _
      | exact fencepostref09_Same.mono _ _ _
      | exact LeO.none _
      | refine LeO.ite ?_ ?_
      | refine LeO.bind ?_ (fun _ => ?_)
    · intro y0 y1 y2 y3 y4 y5 y6 y7 y8
      unfold fencepostlaw09_BufGiven.l1
      repeat' first
      | (with_reducible exact ih0 _ _ _ _ _ _ _ _ _ _)
      | (with_reducible exact ih1 _ _ _ _ _ _ _ _ _)
      | (with_reducible exact ih2 _ _ _ _ _ _ _ _)
      | (with_reducible exact ih3 _ _ _ _ _ _ _)
      | (with_reducible exact buf_All.mono _ _ _)
      | (with_reducible exact buf_Drain.mono _ _ _)
      | (with_reducible exact fencepostlaw09_head.mono _)
      | (with_reducible exact fencepostref07_SameInts.mono _ _ _)
      | (with_reducible exact fencepostref09_Same.mono _ _ _)
      | (with_reducible exact LeO.refl _)
      | (with_reducible exact LeO.none _)
      | (with_reducible refine LeO.ite ?_ ?_)
      | (with_reducible refine LeO.bind ?_ (fun _ => ?_))
      | exact ih0 _ _ _ _ _ _ _ _ _ _
      | exact ih1 _ _ _ _ _ _ _ _ _
      | exact ih2 _ _ _ _ _ _ _ _
      | exact ih3 _ _ _ _ _ _ _
      | exact buf_All.mono _ _ _
      | exact buf_Drain.mono _ _ _
      | exact fencepostlaw09_head.mono _
      | exact fencepostref07_SameInts.mono _ _ _
      | exact fencepostref09_Same.mono _ _ _
      | exact LeO.none _
      | refine LeO.ite ?_ ?_
      | refine LeO.bind ?_ (fun _ => ?_)
    · intro y0 y1 y2 y3 y4 y5 y6 y7
      unfold fencepostlaw09_BufGiven.l2
      repeat' first
      | (with_reducible exact ih0 _ _ _ _ _ _ _ _ _ _)
      | (with_reducible exact ih1 _ _ _ _ _ _ _ _ _)
      | (with_reducible exact ih2 _ _ _ _ _ _ _ _)
      | (with_reducible exact ih3 _ _ _ _ _ _ _)
      | (with_reducible exact buf_All.mono _ _ _)
      | (with_reducible exact buf_Drain.mono _ _ _)
      | (with_reducible exact fencepostlaw09_head.mono _)
      | (with_reducible exact fencepostref07_SameInts.mono _ _ _)
      | (with_reducible exact fencepostref09_Same.mono _ _ _)
      | (with_reducible exact LeO.refl _)
      | (with_reducible exact LeO.none _)
      | (with_reducible refine LeO.ite ?_ ?_)
      | (with_reducible refine LeO.bind ?_ (fun _ => ?_))
      | exact ih0 _ _ _ _ _ _ _ _ _ _
      | exact ih1 _ _ _ _ _ _ _ _ _
      | exact ih2 _ _ _ _ _ _ _ _
      | exact ih3 _ _ _ _ _ _ _
      | exact buf_All.mono _ _ _
      | exact buf_Drain.mono _ _ _
      | exact fencepostlaw09_head.mono _
      | exact fencepostref07_SameInts.mono _ _ _
      | exact fencepostref09_Same.mono _ _ _
      | exact LeO.none _
      | refine LeO.ite ?_ ?_
      | refine LeO.bind ?_ (fun _ => ?_)
    · intro y0 y1 y2 y3 y4 y5 y6
      unfold fencepostlaw09_BufGiven.l3
      repeat' first
      | (with_reducible exact ih0 _ _ _ _ _ _ _ _ _ _)
      | (with_reducible exact ih1 _ _ _ _ _ _ _ _ _)
      | (with_reducible exact ih2 _ _ _ _ _ _ _ _)
      | (with_reducible exact ih3 _ _ _ _ _ _ _)
      | (with_reducible exact buf_All.mono _ _ _)
      | (with_reducible exact buf_Drain.mono _ _ _)
      | (with_reducible exact fencepostlaw09_head.mono _)
      | (with_reducible exact fencepostref07_SameInts.mono _ _ _)
      | (with_reducible exact fencepostref09_Same.mono _ _ _)
      | (with_reducible exact LeO.refl _)
      | (with_reducible exact LeO.none _)
      | (with_reducible refine LeO.ite ?_ ?_)
      | (with_reducible refine LeO.bind ?_ (fun _ => ?_))
      | exact ih0 _ _ _ _ _ _ _ _ _ _
      | exact ih1 _ _ _ _ _ _ _ _ _
      | exact ih2 _ _ _ _ _ _ _ _
      | exact ih3 _ _ _ _ _ _ _
      | exact buf_All.mono _ _ _
      | exact buf_Drain.mono _ _ _
      | exact fencepostlaw09_head.mono _
      | exact fencepostref07_SameInts.mono _ _ _
      | exact fencepostref09_Same.mono _ _ _
      | exact LeO.none _
      | refine LeO.ite ?_ ?_
      | refine LeO.bind ?_ (fun _ => ?_)
theorem fencepostlaw09_BufGiven.mono : ∀ a0 a1 a2 a3 k, LeO (fencepostlaw09_BufGiven.f k a0 a1 a2 a3) (fencepostlaw09_BufGiven.f (k + 1) a0 a1 a2 a3) := by
  intro a0 a1 a2 a3 k
  obtain ⟨ih0, ih1, ih2, ih3⟩ := fencepostlaw09_BufGiven.mono_l k
  unfold fencepostlaw09_BufGiven.f
  repeat' first
      | (with_reducible exact ih0 _ _ _ _ _ _ _ _ _ _)
      | (with_reducible exact ih1 _ _ _ _ _ _ _ _ _)
      | (with_reducible exact ih2 _ _ _ _ _ _ _ _)
      | (with_reducible exact ih3 _ _ _ _ _ _ _)
      | (with_reducible exact buf_All.mono _ _ _)
      | (with_reducible exact buf_Drain.mono _ _ _)
      | (with_reducible exact fencepostlaw09_head.mono _)
      | (with_reducible exact fencepostref07_SameInts.mono _ _ _)
      | (with_reducible exact fencepostref09_Same.mono _ _ _)
      | (with_reducible exact LeO.refl _)
      | (with_reducible exact LeO.none _)
      | (with_reducible refine LeO.ite ?_ ?_)
      | (with_reducible refine LeO.bind ?_ (fun _ => ?_))
      | exact ih0 _ _ _ _ _ _ _ _ _ _
      | exact ih1 _ _ _ _ _ _ _ _ _
      | exact ih2 _ _ _ _ _ _ _ _
      | exact ih3 _ _ _ _ _ _ _
      | exact buf_All.mono _ _ _
      | exact buf_Drain.mono _ _ _
      | exact fencepostlaw09_head.mono _
      | exact fencepostref07_SameInts.mono _ _ _
      | exact fencepostref09_Same.mono _ _ _
      | exact LeO.none _
      | refine LeO.ite ?_ ?_
      | refine LeO.bind ?_ (fun _ => ?_)
set_option maxHeartbeats 8000000 in
set_option maxRecDepth 100000 in
theorem fencepostlaw09_BufGiven.calls (k : Nat) (A0 : Option Addr) (c0 : Nat) (l0 : List (S51)) (a1_0 : Int) (a1_1 : Int) (A2 : Option Addr) (c2 : Nat) (l2 : List Int) (r : Bool) (w : World) (hr0 : Kd.C k51 w A0 l0.length l0) (hc0 : l0.length ≤ c0) (hr2 : Kd.C (Kd.int .i64) w A2 l2.length l2) (hc2 : l2.length ≤ c2) (ht_ : r = true) (h : fencepostlaw09_BufGiven.f k l0 a1_0 a1_1 l2 = some r) :
    Calls Try.prog 14 #[.slice A0 l0.length c0, .agg #[.int .i64 a1_0, .int .i64 a1_1], .slice A2 l2.length c2] w fun e w' => e = .returned (.bool r) ∧ Below w.heap.size w w' := by
  have hu51 := Try.underlying51
  have HR0 := Aside0.mk hr0
  have HC0 := Aside0.mk hc0
  clear hr0 hc0
  have HR2 := Aside0.mk hr2
  have HC2 := Aside0.mk hc2
  clear hr2 hc2
  have HB := Aside0.mk (Below.refl w.heap.size w)
  have HT := Aside0.mk ht_
  clear ht_
  have H : ((fencepostlaw09_head.f k).bind fun t740 => ((fencepostlaw09_great.f l0 l2).bind fun t741 => (if t741 = true then (some t740) else ((some (([] : List (S51)) : List (S51))).bind fun y742 => (if y742.length + l0.length < 8796093022208 then ((some (([] : List Int) : List Int)).bind fun y748 => (if y748.length + l2.length < 17592186044416 then ((buf_Push.f l0 a1_0 a1_1).bind fun t754 => ((buf_Drain.f k l0 l2).bind fun bt757 => ((buf_All.f k l0 l2).bind fun t764 => (fencepostlaw09_BufGiven.l0 k l0 l2 t740 (y742 ++ l0) (y748 ++ l2) t754 bt757.1 bt757.2.1 t764 0)))) else (none))) else (none)))))) = some r := h
  clear h
  replace H := Option.bind_eq_some_iff.mp H
  obtain ⟨t740, A40, H⟩ := H
  replace H : ((fencepostlaw09_great.f l0 l2).bind fun t741 => (if t741 = true then (some t740) else ((some (([] : List (S51)) : List (S51))).bind fun y742 => (if y742.length + l0.length < 8796093022208 then ((some (([] : List Int) : List Int)).bind fun y748 => (if y748.length + l2.length < 17592186044416 then ((buf_Push.f l0 a1_0 a1_1).bind fun t754 => ((buf_Drain.f k l0 l2).bind fun bt757 => ((buf_All.f k l0 l2).bind fun t764 => (fencepostlaw09_BufGiven.l0 k l0 l2 t740 (y742 ++ l0) (y748 ++ l2) t754 bt757.1 bt757.2.1 t764 0)))) else (none))) else (none))))) = some r := H
  have A4 := Aside0.mk A40
  clear A40
  replace H := Option.bind_eq_some_iff.mp H
  obtain ⟨t741, A50, H⟩ := H
  replace H : (if t741 = true then (some t740) else ((some (([] : List (S51)) : List (S51))).bind fun y742 => (if y742.length + l0.length < 8796093022208 then ((some (([] : List Int) : List Int)).bind fun y748 => (if y748.length + l2.length < 17592186044416 then ((buf_Push.f l0 a1_0 a1_1).bind fun t754 => ((buf_Drain.f k l0 l2).bind fun bt757 => ((buf_All.f k l0 l2).bind fun t764 => (fencepostlaw09_BufGiven.l0 k l0 l2 t740 (y742 ++ l0) (y748 ++ l2) t754 bt757.1 bt757.2.1 t764 0)))) else (none))) else (none)))) = some r := H
  have A5 := Aside0.mk A50
  clear A50
  by_cases c6 : t741 = true
  · subst c6
    have H1 : (some t740) = some r := by rw [if_pos rfl] at H; exact H
    clear H
    have H := H1
    clear H1
    obtain rfl := Option.some.inj H
    go_enter Try.func14, Try.ntmps14
    (try simp only [List.append_eq, List.cons_append, List.nil_append])
    go_wp2_with (first | ((with_reducible refine gate_dst (N := 4) rfl ?_); refine box_event ?hg (N := 4) ?hd (cs := #[.int .i64 a1_0, .int .i64 a1_1]) (t := 51) ?hr ?_; (case hd => rfl); (case hg => rfl); (case hr => first | (go_simp; done) | (go_simp; rfl)); intro gb739 hg w7 hbox hb; have n0_ := Aside0.mk (below_step (by repeat (first | (with_reducible first | exact HB.out | apply below_alloc | apply pw_below_drewN | apply below_drew1) | exact HB.out)) hb); have n1_ := Aside0.mk (hbox); have n2_ := Aside0.mk ((by rw [hg]; exact (below_size (by repeat (first | (with_reducible first | exact HB.out | apply below_alloc | apply pw_below_drewN | apply below_drew1) | exact HB.out))) : w.heap.size ≤ gb739)); have n3_ := Aside0.mk ((by rw [hg]; exact (below_size (by repeat (first | (with_reducible first | exact HB.out | apply below_alloc | apply pw_below_drewN | apply below_drew1) | exact HB.out))) : w.heap.size ≤ gb739)); clear HB; have HB := n0_; have BK739 := n1_; have GW739 := n2_; have GE739 := n3_; clear n0_ n1_ n2_ n3_; clear hb hbox hg) | ((with_reducible refine gate_callee (f := 29) rfl ?_); refine goesL_ (some 19) rfl rfl Try.func29 (by kernel_rfl) rfl #[] rfl (by (try simp only [List.map_toArray, List.map_cons, List.map_nil]); first | done | rfl | (simp only [List.length_drop, List.length_take]; rfl)) ?_; (with_reducible refine (fencepostlaw09_head.calls k  t740 _ A4.out).mono ?_); rintro e w8 ⟨rfl, hb⟩; refine ⟨_, rfl, ?_⟩; have n0_ := Aside0.mk (blk_below (g := gb739) (o := .cells #[.int .i64 a1_0, .int .i64 a1_1] 51 (0, 0)) (by (with_reducible repeat (first | refine blk_drewN ?_ _ | refine blk_drew ?_ | refine blk_alloc ?_ _)); exact BK739.out) hb); have n1_ := Aside0.mk (below_step (by repeat (first | (with_reducible first | exact HB.out | apply below_alloc | apply pw_below_drewN | apply below_drew1 | refine below_set ?_ GE739.out) | exact HB.out)) hb); clear BK739; clear HB; have BK739 := n0_; have HB := n1_; clear n0_ n1_; (try clear hb); (try clear hb2); (try clear hk); (try clear hi)) | ((with_reducible refine gate_callee (f := 30) rfl ?_); refine goesL_ (some 22) rfl rfl Try.func30 (by kernel_rfl) rfl #[.slice A0 l0.length c0, .slice A2 l2.length c2] rfl (by (try simp only [List.map_toArray, List.map_cons, List.map_nil]); first | done | rfl | (simp only [List.length_drop, List.length_take]; rfl)) ?_; (with_reducible refine (fencepostlaw09_great.calls _ _ l0 _ _ l2 true _ ?side1 ?side2 ?side3 ?side4 A5.out).mono ?_); (case side1 => repeat (first | exact (Kd.C_below HR0.out HB.out) | (with_reducible refine Kd.C_alloc ?_ _) | (with_reducible refine Kd.C_drewN ?_ _) | (with_reducible refine Kd.C_drew ?_))); (case side2 => exact HC0.out); (case side3 => repeat (first | exact (Kd.C_below HR2.out HB.out) | (with_reducible refine Kd.C_alloc ?_ _) | (with_reducible refine Kd.C_drewN ?_ _) | (with_reducible refine Kd.C_drew ?_))); (case side4 => exact HC2.out); rintro e w' ⟨rfl, ⟨nd, rfl⟩⟩; refine ⟨_, rfl, ?_⟩))
    go_ret
    exact ⟨by first | rfl | (simp [errW_none, errW_some] <;> rfl) | (simp [*, errW_none, errW_some] <;> rfl), by repeat (first | (with_reducible first | exact HB.out | apply below_alloc | apply pw_below_drewN | apply below_drew1 | refine below_set ?_ GE739.out) | exact HB.out)⟩
  · replace c6 := Bool.eq_false_iff.mpr c6
    subst c6
    have H1 : ((some (([] : List (S51)) : List (S51))).bind fun y742 => (if y742.length + l0.length < 8796093022208 then ((some (([] : List Int) : List Int)).bind fun y748 => (if y748.length + l2.length < 17592186044416 then ((buf_Push.f l0 a1_0 a1_1).bind fun t754 => ((buf_Drain.f k l0 l2).bind fun bt757 => ((buf_All.f k l0 l2).bind fun t764 => (fencepostlaw09_BufGiven.l0 k l0 l2 t740 (y742 ++ l0) (y748 ++ l2) t754 bt757.1 bt757.2.1 t764 0)))) else (none))) else (none))) = some r := by rw [if_neg (show ¬ (false = true) by decide)] at H; exact H
    clear H
    have H := H1
    clear H1
    obtain ⟨y742, hy742⟩ : ∃ y_ : List (S51), y_ = (([] : List (S51))) := ⟨_, rfl⟩
    replace H : (if y742.length + l0.length < 8796093022208 then ((some (([] : List Int) : List Int)).bind fun y748 => (if y748.length + l2.length < 17592186044416 then ((buf_Push.f l0 a1_0 a1_1).bind fun t754 => ((buf_Drain.f k l0 l2).bind fun bt757 => ((buf_All.f k l0 l2).bind fun t764 => (fencepostlaw09_BufGiven.l0 k l0 l2 t740 (y742 ++ l0) (y748 ++ l2) t754 bt757.1 bt757.2.1 t764 0)))) else (none))) else (none)) = some r := by first | (rw [hy742]; with_reducible exact H) | (have H2_ := (Option.bind_some _ _).symm.trans H; rw [hy742]; with_reducible exact H2_) | (have H2_ := (Option.bind_some _ _).symm.trans H; with_reducible exact H2_) | with_reducible exact H | (rw [hy742]; exact H) | exact H
    have Ny742 := Aside0.mk hy742
    clear hy742
    by_cases c9 : y742.length + l0.length < 8796093022208
    · rw [if_pos c9] at H
      have LMc9 := Aside0.mk c9
      clear c9
      obtain ⟨y745, hy745⟩ : ∃ y_ : List (S51), y_ = (y742 ++ l0) := ⟨_, rfl⟩
      replace H : ((some (([] : List Int) : List Int)).bind fun y748 => (if y748.length + l2.length < 17592186044416 then ((buf_Push.f l0 a1_0 a1_1).bind fun t754 => ((buf_Drain.f k l0 l2).bind fun bt757 => ((buf_All.f k l0 l2).bind fun t764 => (fencepostlaw09_BufGiven.l0 k l0 l2 t740 y745 (y748 ++ l2) t754 bt757.1 bt757.2.1 t764 0)))) else (none))) = some r := by first | (rw [hy745]; with_reducible exact H) | (have H2_ := (Option.bind_some _ _).symm.trans H; rw [hy745]; with_reducible exact H2_) | (have H2_ := (Option.bind_some _ _).symm.trans H; with_reducible exact H2_) | with_reducible exact H | (rw [hy745]; exact H) | exact H
      have Ny745 := Aside0.mk hy745
      clear hy745
      obtain ⟨y748, hy748⟩ : ∃ y_ : List Int, y_ = (([] : List Int)) := ⟨_, rfl⟩
      replace H : (if y748.length + l2.length < 17592186044416 then ((buf_Push.f l0 a1_0 a1_1).bind fun t754 => ((buf_Drain.f k l0 l2).bind fun bt757 => ((buf_All.f k l0 l2).bind fun t764 => (fencepostlaw09_BufGiven.l0 k l0 l2 t740 y745 (y748 ++ l2) t754 bt757.1 bt757.2.1 t764 0)))) else (none)) = some r := by first | (rw [hy748]; with_reducible exact H) | (have H2_ := (Option.bind_some _ _).symm.trans H; rw [hy748]; with_reducible exact H2_) | (have H2_ := (Option.bind_some _ _).symm.trans H; with_reducible exact H2_) | with_reducible exact H | (rw [hy748]; exact H) | exact H
      have Ny748 := Aside0.mk hy748
      clear hy748
      by_cases c10 : y748.length + l2.length < 17592186044416
      · rw [if_pos c10] at H
        have LMc10 := Aside0.mk c10
        clear c10
        obtain ⟨y751, hy751⟩ : ∃ y_ : List Int, y_ = (y748 ++ l2) := ⟨_, rfl⟩
        replace H : ((buf_Push.f l0 a1_0 a1_1).bind fun t754 => ((buf_Drain.f k l0 l2).bind fun bt757 => ((buf_All.f k l0 l2).bind fun t764 => (fencepostlaw09_BufGiven.l0 k l0 l2 t740 y745 y751 t754 bt757.1 bt757.2.1 t764 0)))) = some r := by first | (rw [hy751]; with_reducible exact H) | (have H2_ := (Option.bind_some _ _).symm.trans H; rw [hy751]; with_reducible exact H2_) | (have H2_ := (Option.bind_some _ _).symm.trans H; with_reducible exact H2_) | with_reducible exact H | (rw [hy751]; exact H) | exact H
        have Ny751 := Aside0.mk hy751
        clear hy751
        replace H := Option.bind_eq_some_iff.mp H
        obtain ⟨t754, A110, H⟩ := H
        replace H : ((buf_Drain.f k l0 l2).bind fun bt757 => ((buf_All.f k l0 l2).bind fun t764 => (fencepostlaw09_BufGiven.l0 k l0 l2 t740 y745 y751 t754 bt757.1 bt757.2.1 t764 0))) = some r := H
        have A11 := Aside0.mk A110
        clear A110
        replace H := Option.bind_eq_some_iff.mp H
        obtain ⟨⟨t757, t758, t759⟩, A120, H⟩ := H
        replace H : ((buf_All.f k l0 l2).bind fun t764 => (fencepostlaw09_BufGiven.l0 k l0 l2 t740 y745 y751 t754 t757 t758 t764 0)) = some r := H
        have A12 := Aside0.mk A120
        clear A120
        replace H := Option.bind_eq_some_iff.mp H
        obtain ⟨t764, A130, H⟩ := H
        replace H : (fencepostlaw09_BufGiven.l0 k l0 l2 t740 y745 y751 t754 t757 t758 t764 0) = some r := H
        have A13 := Aside0.mk A130
        clear A130
        have H' := Aside0.mk H
        clear H
        go_enter Try.func14, Try.ntmps14
        (try simp only [List.append_eq, List.cons_append, List.nil_append])
        go_wp2_with (first | ((with_reducible refine gate_dst (N := 4) rfl ?_); refine box_event ?hg (N := 4) ?hd (cs := #[.int .i64 a1_0, .int .i64 a1_1]) (t := 51) ?hr ?_; (case hd => rfl); (case hg => rfl); (case hr => first | (go_simp; done) | (go_simp; rfl)); intro gb739 hg w14 hbox hb; have n0_ := Aside0.mk (below_step (by repeat (first | (with_reducible first | exact HB.out | apply below_alloc | apply pw_below_drewN | apply below_drew1) | exact HB.out)) hb); have n1_ := Aside0.mk (hbox); have n2_ := Aside0.mk ((by rw [hg]; exact (below_size (by repeat (first | (with_reducible first | exact HB.out | apply below_alloc | apply pw_below_drewN | apply below_drew1) | exact HB.out))) : w.heap.size ≤ gb739)); have n3_ := Aside0.mk ((by rw [hg]; exact (below_size (by repeat (first | (with_reducible first | exact HB.out | apply below_alloc | apply pw_below_drewN | apply below_drew1) | exact HB.out))) : w.heap.size ≤ gb739)); clear HB; have HB := n0_; have BK739 := n1_; have GW739 := n2_; have GE739 := n3_; clear n0_ n1_ n2_ n3_; clear hb hbox hg) | ((with_reducible refine gate_callee (f := 29) rfl ?_); refine goesL_ (some 19) rfl rfl Try.func29 (by kernel_rfl) rfl #[] rfl (by (try simp only [List.map_toArray, List.map_cons, List.map_nil]); first | done | rfl | (simp only [List.length_drop, List.length_take]; rfl)) ?_; (with_reducible refine (fencepostlaw09_head.calls k  t740 _ A4.out).mono ?_); rintro e w15 ⟨rfl, hb⟩; refine ⟨_, rfl, ?_⟩; have n0_ := Aside0.mk (blk_below (g := gb739) (o := .cells #[.int .i64 a1_0, .int .i64 a1_1] 51 (0, 0)) (by (with_reducible repeat (first | refine blk_drewN ?_ _ | refine blk_drew ?_ | refine blk_alloc ?_ _)); exact BK739.out) hb); have n1_ := Aside0.mk (below_step (by repeat (first | (with_reducible first | exact HB.out | apply below_alloc | apply pw_below_drewN | apply below_drew1 | refine below_set ?_ GE739.out) | exact HB.out)) hb); clear BK739; clear HB; have BK739 := n0_; have HB := n1_; clear n0_ n1_; (try clear hb); (try clear hb2); (try clear hk); (try clear hi)) | ((with_reducible refine gate_callee (f := 30) rfl ?_); refine goesL_ (some 22) rfl rfl Try.func30 (by kernel_rfl) rfl #[.slice A0 l0.length c0, .slice A2 l2.length c2] rfl (by (try simp only [List.map_toArray, List.map_cons, List.map_nil]); first | done | rfl | (simp only [List.length_drop, List.length_take]; rfl)) ?_; (with_reducible refine (fencepostlaw09_great.calls _ _ l0 _ _ l2 false _ ?side1 ?side2 ?side3 ?side4 A5.out).mono ?_); (case side1 => repeat (first | exact (Kd.C_below HR0.out HB.out) | (with_reducible refine Kd.C_alloc ?_ _) | (with_reducible refine Kd.C_drewN ?_ _) | (with_reducible refine Kd.C_drew ?_))); (case side2 => exact HC0.out); (case side3 => repeat (first | exact (Kd.C_below HR2.out HB.out) | (with_reducible refine Kd.C_alloc ?_ _) | (with_reducible refine Kd.C_drewN ?_ _) | (with_reducible refine Kd.C_drew ?_))); (case side4 => exact HC2.out); rintro e w' ⟨rfl, ⟨nd, rfl⟩⟩; refine ⟨_, rfl, ?_⟩) | ((with_reducible refine gate_dst (N := 24) rfl ?_); refine Kd.R_lit k51 _ 51 ?hg (N := 24) ?hd (xs := ([] : List (S51))) (inner := []) (ok := fun _ => True) (okp := fun _ => True) ?hr ?hp (fun _ hk => hk) trivial (Below.refl _ _) (Nat.le_refl _) (by simp) ?_; (case hd => rfl); (case hg => rfl); (case hr => first | (go_simp; done) | (go_simp; rfl)); (case hp => exact (Reps.none _ _)); intro v743 w16 ho17 hb hg_ hnew_; clear hg_ hnew_; (first | rw [← Ny742.out] at ho17 | (simp only [Int.reduceToNat] at ho17; rw [← Ny742.out] at ho17)); have n0_ := Aside0.mk (Kd.R_lower (Kd.R_newB ho17 (g := gb739) (o := .cells #[.int .i64 a1_0, .int .i64 a1_1] 51 (0, 0)) (by (with_reducible repeat (first | refine blk_drewN ?_ _ | refine blk_drew ?_ | refine blk_alloc ?_ _)); exact BK739.out)) (below_size (by repeat (first | (with_reducible first | exact HB.out | apply below_alloc | apply pw_below_drewN | apply below_drew1 | refine below_set ?_ GE739.out) | exact HB.out)))); have n1_ := Aside0.mk (blk_below (g := gb739) (o := .cells #[.int .i64 a1_0, .int .i64 a1_1] 51 (0, 0)) (by (with_reducible repeat (first | refine blk_drewN ?_ _ | refine blk_drew ?_ | refine blk_alloc ?_ _)); exact BK739.out) hb); have n2_ := Aside0.mk (below_step (by repeat (first | (with_reducible first | exact HB.out | apply below_alloc | apply pw_below_drewN | apply below_drew1 | refine below_set ?_ GE739.out) | exact HB.out)) hb); clear BK739; clear HB; have HO744 := n0_; have BK739 := n1_; have HB := n2_; clear n0_ n1_ n2_; clear hb ho17) | ((with_reducible refine gate_builtin (b := .append) (xs := #[.tmp 24, .tmp 25]) rfl ?_); at_builtin; refine Kd.R_append_rows k51 (w0 := w) w.heap.size rfl (.tmp 24) (.tmp 25) 46 51 (.agg #[(.int .i64 0), (.int .i64 0)]) 16 rfl Try.underlying46 info51 rfl (by decide) (by omega) v743 y742 l0 _ _ _ (fun k_ => k_ ≠ gb739) (fun _ => False) rfl rfl ?aO ?aR (fun _ _ h => h) (fun _ h => h.elim) ?aF ?aB ?aS ?aL ?_; (case aR => repeat (first | exact (Kd.C_below HR0.out HB.out) | (with_reducible refine Kd.C_alloc ?_ _) | (with_reducible refine Kd.C_drewN ?_ _) | (with_reducible refine Kd.C_drew ?_))); (case aB => exact (by repeat (first | (with_reducible first | exact HB.out | apply below_alloc | apply pw_below_drewN | apply below_drew1 | refine below_set ?_ GE739.out) | exact HB.out))); (case aF => exact (fun k_ hk => Kd.freshB (g := gb739) (o := .cells #[.int .i64 a1_0, .int .i64 a1_1] 51 (0, 0)) (by (with_reducible repeat (first | refine blk_drewN ?_ _ | refine blk_drew ?_ | refine blk_alloc ?_ _)); exact BK739.out) k_ hk)); (case aO => exact (by (with_reducible repeat (first | apply Kd.R_alloc | apply Kd.R_drewN | apply Kd.R_drew)); exact Kd.R_mono HO744.out (fun _ hk => hk.2))); (case aS => exact (below_size (by repeat (first | (with_reducible first | exact HB.out | apply below_alloc | apply pw_below_drewN | apply below_drew1 | refine below_set ?_ GE739.out) | exact HB.out)))); (case aL => have := LMc9.out; omega); intro v746 w18 ho hb hg hat; rw [← Ny745.out] at ho; have n0_ := Aside0.mk (blk_grown (g := gb739) (o := .cells #[.int .i64 a1_0, .int .i64 a1_1] 51 (0, 0)) (by (with_reducible repeat (first | refine blk_drewN ?_ _ | refine blk_drew ?_ | refine blk_alloc ?_ _)); exact BK739.out) hg (Kd.R_away HO744.out (fun _ hk => hk.2))); have n1_ := Aside0.mk (hb); have n2_ := Aside0.mk (ho); clear BK739; clear HB; clear HO744; have BK739 := n0_; have HB := n1_; have HO747 := n2_; clear n0_ n1_ n2_; clear ho hb hg hat) | ((with_reducible refine gate_dst (N := 27) rfl ?_); refine Kd.R_lit (Kd.int .i64) _ 3 ?hg (N := 27) ?hd (xs := ([] : List Int)) (inner := []) (ok := fun _ => True) (okp := fun _ => True) ?hr ?hp (fun _ hk => hk) trivial (Below.refl _ _) (Nat.le_refl _) (by simp) ?_; (case hd => rfl); (case hg => rfl); (case hr => first | (go_simp; done) | (go_simp; rfl)); (case hp => exact (Reps.none _ _)); intro v749 w19 ho20 hb hg_ hnew_; clear hg_ hnew_; (first | rw [← Ny748.out] at ho20 | (simp only [Int.reduceToNat] at ho20; rw [← Ny748.out] at ho20)); have n0_ := Aside0.mk (Kd.R_below (by (with_reducible repeat (first | apply Kd.R_alloc | apply Kd.R_drewN | apply Kd.R_drew)); exact HO747.out) hb); have n1_ := Aside0.mk (Kd.R_lower ho20 (below_size (by repeat (first | (with_reducible first | exact HB.out | apply below_alloc | apply pw_below_drewN | apply below_drew1 | refine below_set ?_ GE739.out) | exact HB.out)))); have n2_ := Aside0.mk (blk_below (g := gb739) (o := .cells #[.int .i64 a1_0, .int .i64 a1_1] 51 (0, 0)) (by (with_reducible repeat (first | refine blk_drewN ?_ _ | refine blk_drew ?_ | refine blk_alloc ?_ _)); exact BK739.out) hb); have n3_ := Aside0.mk (below_step (by repeat (first | (with_reducible first | exact HB.out | apply below_alloc | apply pw_below_drewN | apply below_drew1 | refine below_set ?_ GE739.out) | exact HB.out)) hb); clear HO747; clear BK739; clear HB; have HO747 := n0_; have HO750 := n1_; have BK739 := n2_; have HB := n3_; clear n0_ n1_ n2_ n3_; clear hb ho20) | ((with_reducible refine gate_builtin (b := .append) (xs := #[.tmp 27, .tmp 28]) rfl ?_); at_builtin; refine Kd.R_append_rows (Kd.int .i64) (w0 := w) w.heap.size rfl (.tmp 27) (.tmp 28) 28 3 (.int .i64 0) 8 rfl Try.underlying28 info3 rfl (by decide) (by omega) v749 y748 l2 _ _ _ (fun _ => True) (fun _ => False) rfl rfl ?aO ?aR (fun _ _ h => h) (fun _ h => h.elim) ?aF ?aB ?aS ?aL ?_; (case aR => repeat (first | exact (Kd.C_below HR2.out HB.out) | (with_reducible refine Kd.C_alloc ?_ _) | (with_reducible refine Kd.C_drewN ?_ _) | (with_reducible refine Kd.C_drew ?_))); (case aB => exact (by repeat (first | (with_reducible first | exact HB.out | apply below_alloc | apply pw_below_drewN | apply below_drew1 | refine below_set ?_ GE739.out) | exact HB.out))); (case aF => exact (fun _ _ => trivial)); (case aO => exact (by (with_reducible repeat (first | apply Kd.R_alloc | apply Kd.R_drewN | apply Kd.R_drew)); exact HO750.out)); (case aS => exact (below_size (by repeat (first | (with_reducible first | exact HB.out | apply below_alloc | apply pw_below_drewN | apply below_drew1 | refine below_set ?_ GE739.out) | exact HB.out)))); (case aL => have := LMc10.out; omega); intro v752 w21 ho hb hg hat; rw [← Ny751.out] at ho; have n0_ := Aside0.mk (blk_grown (g := gb739) (o := .cells #[.int .i64 a1_0, .int .i64 a1_1] 51 (0, 0)) (by (with_reducible repeat (first | refine blk_drewN ?_ _ | refine blk_drew ?_ | refine blk_alloc ?_ _)); exact BK739.out) hg (Kd.R_ne HO750.out BK739.out (by decide))); have n1_ := Aside0.mk (Kd.R_over' (by (with_reducible repeat (first | apply Kd.R_alloc | apply Kd.R_drewN | apply Kd.R_drew)); exact HO747.out) (Kd.R_typed (by (with_reducible repeat (first | apply Kd.R_alloc | apply Kd.R_drewN | apply Kd.R_drew)); exact HO750.out)) (by decide) hg); have n2_ := Aside0.mk (hb); have n3_ := Aside0.mk (ho); clear BK739; clear HO747; clear HB; clear HO750; have BK739 := n0_; have HO747 := n1_; have HB := n2_; have HO753 := n3_; clear n0_ n1_ n2_ n3_; clear ho hb hg hat; have hcz22_0 : w21.cell? ⟨gb739, 0, none⟩ = some (.int .i64 a1_0) := (blk_cell BK739.out 0).trans rfl; have hcz22_1 : w21.cell? ⟨gb739, 1, none⟩ = some (.int .i64 a1_1) := (blk_cell BK739.out 1).trans rfl; have hfz22_0 := blk_frozen BK739.out 0; have hfz22_1 := blk_frozen BK739.out 1) | ((with_reducible refine gate_callee (f := 38) rfl ?_); refine goesL_ (some 32) rfl rfl Try.func38 (by kernel_rfl) rfl #[.slice A0 l0.length c0, .agg #[.int .i64 a1_0, .int .i64 a1_1]] rfl (by (try simp only [List.map_toArray, List.map_cons, List.map_nil]); first | done | rfl | (simp only [List.length_drop, List.length_take]; rfl)) ?_; (with_reducible refine (buf_Push.calls _ _ l0 a1_0 a1_1 t754 _ ?side1 ?side2 A11.out).mono ?_); (case side1 => repeat (first | exact (Kd.C_below HR0.out HB.out) | (with_reducible refine Kd.C_alloc ?_ _) | (with_reducible refine Kd.C_drewN ?_ _) | (with_reducible refine Kd.C_drew ?_))); (case side2 => exact HC0.out); rintro e w23 ⟨v755, rfl, ho0, hb⟩; refine ⟨_, rfl, ?_⟩; have n0_ := Aside0.mk (Kd.R_elder' (by (with_reducible repeat (first | apply Kd.R_alloc | apply Kd.R_drewN | apply Kd.R_drew)); exact HO747.out) (Kd.R_base ho0) hb); have n1_ := Aside0.mk (Kd.R_below (by (with_reducible repeat (first | apply Kd.R_alloc | apply Kd.R_drewN | apply Kd.R_drew)); exact HO753.out) hb); have n2_ := Aside0.mk (Kd.R_lower (Kd.R_newB (Kd.R_new' ho0 (Kd.R_lt (by (with_reducible repeat (first | apply Kd.R_alloc | apply Kd.R_drewN | apply Kd.R_drew)); exact HO747.out))) (g := gb739) (o := .cells #[.int .i64 a1_0, .int .i64 a1_1] 51 (0, 0)) (by (with_reducible repeat (first | refine blk_drewN ?_ _ | refine blk_drew ?_ | refine blk_alloc ?_ _)); exact BK739.out)) (below_size (by repeat (first | (with_reducible first | exact HB.out | apply below_alloc | apply pw_below_drewN | apply below_drew1 | refine below_set ?_ GE739.out) | exact HB.out)))); have n3_ := Aside0.mk (blk_below (g := gb739) (o := .cells #[.int .i64 a1_0, .int .i64 a1_1] 51 (0, 0)) (by (with_reducible repeat (first | refine blk_drewN ?_ _ | refine blk_drew ?_ | refine blk_alloc ?_ _)); exact BK739.out) hb); have n4_ := Aside0.mk (below_step (by repeat (first | (with_reducible first | exact HB.out | apply below_alloc | apply pw_below_drewN | apply below_drew1 | refine below_set ?_ GE739.out) | exact HB.out)) hb); clear HO747; clear HO753; clear BK739; clear HB; have HO747 := n0_; have HO753 := n1_; have HO756 := n2_; have BK739 := n3_; have HB := n4_; clear n0_ n1_ n2_ n3_ n4_; (try clear hb); (try clear hb2); (try clear hk); (try clear hi); (try clear ho0)) | ((with_reducible refine gate_callee (f := 35) rfl ?_); refine goesL_ (some 36) rfl rfl Try.func35 (by kernel_rfl) rfl #[.slice A0 l0.length c0, .slice A2 l2.length c2] rfl (by (try simp only [List.map_toArray, List.map_cons, List.map_nil]); first | done | rfl | (simp only [List.length_drop, List.length_take]; rfl)) ?_; (with_reducible refine (buf_Drain.calls k _ _ l0 _ _ l2 t757 t758 t759 _ ?side1 ?side2 ?side3 ?side4 A12.out).mono ?_); (case side1 => repeat (first | exact (Kd.C_below HR0.out HB.out) | (with_reducible refine Kd.C_alloc ?_ _) | (with_reducible refine Kd.C_drewN ?_ _) | (with_reducible refine Kd.C_drew ?_))); (case side2 => exact HC0.out); (case side3 => repeat (first | exact (Kd.C_below HR2.out HB.out) | (with_reducible refine Kd.C_alloc ?_ _) | (with_reducible refine Kd.C_drewN ?_ _) | (with_reducible refine Kd.C_drew ?_))); (case side4 => exact HC2.out); rintro e w24 ⟨v760, v762, rfl, ho0, ho1, hb⟩; refine ⟨_, rfl, ?_⟩; have n0_ := Aside0.mk (Kd.R_elder' (by (with_reducible repeat (first | apply Kd.R_alloc | apply Kd.R_drewN | apply Kd.R_drew)); exact HO747.out) (Kd.R_base ho0) hb); have n1_ := Aside0.mk (Kd.R_elder' (by (with_reducible repeat (first | apply Kd.R_alloc | apply Kd.R_drewN | apply Kd.R_drew)); exact HO753.out) (Kd.R_base ho1) hb); have n2_ := Aside0.mk (Kd.R_elder' (by (with_reducible repeat (first | apply Kd.R_alloc | apply Kd.R_drewN | apply Kd.R_drew)); exact HO756.out) (Kd.R_base ho0) hb); have n3_ := Aside0.mk (Kd.R_lower (Kd.R_newB (Kd.R_new' (Kd.R_new' ho0 (Kd.R_lt (by (with_reducible repeat (first | apply Kd.R_alloc | apply Kd.R_drewN | apply Kd.R_drew)); exact HO747.out))) (Kd.R_lt (by (with_reducible repeat (first | apply Kd.R_alloc | apply Kd.R_drewN | apply Kd.R_drew)); exact HO756.out))) (g := gb739) (o := .cells #[.int .i64 a1_0, .int .i64 a1_1] 51 (0, 0)) (by (with_reducible repeat (first | refine blk_drewN ?_ _ | refine blk_drew ?_ | refine blk_alloc ?_ _)); exact BK739.out)) (below_size (by repeat (first | (with_reducible first | exact HB.out | apply below_alloc | apply pw_below_drewN | apply below_drew1 | refine below_set ?_ GE739.out) | exact HB.out)))); have n4_ := Aside0.mk (Kd.R_lower (Kd.R_new' ho1 (Kd.R_lt (by (with_reducible repeat (first | apply Kd.R_alloc | apply Kd.R_drewN | apply Kd.R_drew)); exact HO753.out))) (below_size (by repeat (first | (with_reducible first | exact HB.out | apply below_alloc | apply pw_below_drewN | apply below_drew1 | refine below_set ?_ GE739.out) | exact HB.out)))); have n5_ := Aside0.mk (blk_below (g := gb739) (o := .cells #[.int .i64 a1_0, .int .i64 a1_1] 51 (0, 0)) (by (with_reducible repeat (first | refine blk_drewN ?_ _ | refine blk_drew ?_ | refine blk_alloc ?_ _)); exact BK739.out) hb); have n6_ := Aside0.mk (below_step (by repeat (first | (with_reducible first | exact HB.out | apply below_alloc | apply pw_below_drewN | apply below_drew1 | refine below_set ?_ GE739.out) | exact HB.out)) hb); clear HO747; clear HO753; clear HO756; clear BK739; clear HB; have HO747 := n0_; have HO753 := n1_; have HO756 := n2_; have HO761 := n3_; have HO763 := n4_; have BK739 := n5_; have HB := n6_; clear n0_ n1_ n2_ n3_ n4_ n5_ n6_; (try clear hb); (try clear hb2); (try clear hk); (try clear hi); (try clear ho0); (try clear ho1)) | ((with_reducible refine gate_callee (f := 40) rfl ?_); refine goesL_ (some 42) rfl rfl Try.func40 (by kernel_rfl) rfl #[.slice A0 l0.length c0, .slice A2 l2.length c2] rfl (by (try simp only [List.map_toArray, List.map_cons, List.map_nil]); first | done | rfl | (simp only [List.length_drop, List.length_take]; rfl)) ?_; (with_reducible refine (buf_All.calls k (fun k_ => k_ < w.heap.size) _ _ l0 _ _ l2 t764 _ ?side1 ?side2 ?side3 A13.out).mono ?_); (case side1 => exact Kd.V_mk HC0.out (Kd.F_below (Kd.C_F k51_heap HR0.out) (by repeat (first | (with_reducible first | exact HB.out | apply below_alloc | apply pw_below_drewN | apply below_drew1 | refine below_set ?_ GE739.out) | exact HB.out)))); (case side2 => repeat (first | exact (Kd.C_below HR2.out HB.out) | (with_reducible refine Kd.C_alloc ?_ _) | (with_reducible refine Kd.C_drewN ?_ _) | (with_reducible refine Kd.C_drew ?_))); (case side3 => exact HC2.out); rintro e w25 ⟨v765, rfl, ho0, hb⟩; refine ⟨_, rfl, ?_⟩; have n0_ := Aside0.mk (Kd.R_below (by (with_reducible repeat (first | apply Kd.R_alloc | apply Kd.R_drewN | apply Kd.R_drew)); exact HO747.out) hb); have n1_ := Aside0.mk (Kd.R_elder' (by (with_reducible repeat (first | apply Kd.R_alloc | apply Kd.R_drewN | apply Kd.R_drew)); exact HO753.out) (Kd.R_base ho0) hb); have n2_ := Aside0.mk (Kd.R_below (by (with_reducible repeat (first | apply Kd.R_alloc | apply Kd.R_drewN | apply Kd.R_drew)); exact HO756.out) hb); have n3_ := Aside0.mk (Kd.R_below (by (with_reducible repeat (first | apply Kd.R_alloc | apply Kd.R_drewN | apply Kd.R_drew)); exact HO761.out) hb); have n4_ := Aside0.mk (Kd.R_elder' (by (with_reducible repeat (first | apply Kd.R_alloc | apply Kd.R_drewN | apply Kd.R_drew)); exact HO763.out) (Kd.R_base ho0) hb); have n5_ := Aside0.mk (Kd.R_lower (Kd.R_new' (Kd.R_new' (Kd.R_mono (ok' := fun k_ => True) ho0 (fun _ hk_ => trivial)) (Kd.R_lt (by (with_reducible repeat (first | apply Kd.R_alloc | apply Kd.R_drewN | apply Kd.R_drew)); exact HO753.out))) (Kd.R_lt (by (with_reducible repeat (first | apply Kd.R_alloc | apply Kd.R_drewN | apply Kd.R_drew)); exact HO763.out))) (below_size (by repeat (first | (with_reducible first | exact HB.out | apply below_alloc | apply pw_below_drewN | apply below_drew1 | refine below_set ?_ GE739.out) | exact HB.out)))); have n6_ := Aside0.mk (blk_below (g := gb739) (o := .cells #[.int .i64 a1_0, .int .i64 a1_1] 51 (0, 0)) (by (with_reducible repeat (first | refine blk_drewN ?_ _ | refine blk_drew ?_ | refine blk_alloc ?_ _)); exact BK739.out) hb); have n7_ := Aside0.mk (below_step (by repeat (first | (with_reducible first | exact HB.out | apply below_alloc | apply pw_below_drewN | apply below_drew1 | refine below_set ?_ GE739.out) | exact HB.out)) hb); clear HO747; clear HO753; clear HO756; clear HO761; clear HO763; clear BK739; clear HB; have HO747 := n0_; have HO753 := n1_; have HO756 := n2_; have HO761 := n3_; have HO763 := n4_; have HO766 := n5_; have BK739 := n6_; have HB := n7_; clear n0_ n1_ n2_ n3_ n4_ n5_ n6_ n7_; (try clear hb); (try clear hb2); (try clear hk); (try clear hi); (try clear ho0)))
        go_loopg [15] k (fun kq v15 w' => ∃ (x10_1 : List (S51)) (x15_1 : Int) (x740001_1 : Int), v15 = .int .i64 x15_1 ∧ Aside0 (fencepostlaw09_BufGiven.l0 kq l0 l2 t740 y745 y751 x10_1 t757 t758 t764 x15_1 = some r) ∧ Aside0 (kq ≤ k) ∧ Aside0 (Kd.R k51 51 w' w.heap.size (fun k_ => some k_ ≠ (v755 : Value).ownBlock ∧ some k_ ≠ (v760 : Value).ownBlock ∧ k_ ≠ gb739) v746 y745) ∧ Aside0 (Kd.R (Kd.int .i64) 3 w' w.heap.size (fun k_ => some k_ ≠ (v762 : Value).ownBlock ∧ some k_ ≠ (v765 : Value).ownBlock) v752 y751) ∧ Aside0 (Kd.R k51 51 w' w.heap.size (fun k_ => some k_ ≠ (v746 : Value).ownBlock ∧ some k_ ≠ (v760 : Value).ownBlock ∧ k_ ≠ gb739) v755 x10_1) ∧ Aside0 (Kd.R k51 51 w' w.heap.size (fun k_ => some k_ ≠ (v746 : Value).ownBlock ∧ some k_ ≠ (v755 : Value).ownBlock ∧ k_ ≠ gb739) v760 t757) ∧ Aside0 (Kd.R (Kd.int .i64) 3 w' w.heap.size (fun k_ => some k_ ≠ (v752 : Value).ownBlock ∧ some k_ ≠ (v765 : Value).ownBlock) v762 t758) ∧ Aside0 (Kd.R (Kd.int .i64) 3 w' w.heap.size (fun k_ => some k_ ≠ (v752 : Value).ownBlock ∧ some k_ ≠ (v762 : Value).ownBlock) v765 t764) ∧ Aside0 (w'.heap[gb739]? = some (.cells #[.int .i64 a1_0, .int .i64 x740001_1] 51 (0, 0))) ∧ Aside0 (Below w.heap.size w w'))
        case atStart => exact ⟨(t754), (0), (a1_1), (by first | rfl | (simp; done) | (simp [*]; done)), H', ⟨Nat.le_refl _⟩, ⟨by (with_reducible repeat (first | apply Kd.R_alloc | apply Kd.R_drewN | apply Kd.R_drew)); exact Kd.R_mono HO747.out (fun _ hk => ⟨hk.1.2, ⟨hk.2, hk.1.1⟩⟩)⟩, ⟨by (with_reducible repeat (first | apply Kd.R_alloc | apply Kd.R_drewN | apply Kd.R_drew)); exact Kd.R_mono HO753.out (fun _ hk => ⟨hk.1.2, hk.2⟩)⟩, ⟨by (with_reducible repeat (first | apply Kd.R_alloc | apply Kd.R_drewN | apply Kd.R_drew)); exact Kd.R_mono HO756.out (fun _ hk => ⟨hk.1.1.2, ⟨hk.2, hk.1.2⟩⟩)⟩, ⟨by (with_reducible repeat (first | apply Kd.R_alloc | apply Kd.R_drewN | apply Kd.R_drew)); exact Kd.R_mono HO761.out (fun _ hk => ⟨hk.1.1.2, ⟨hk.1.2, hk.2⟩⟩)⟩, ⟨by (with_reducible repeat (first | apply Kd.R_alloc | apply Kd.R_drewN | apply Kd.R_drew)); exact Kd.R_mono HO763.out (fun _ hk => ⟨hk.1.2, hk.2⟩)⟩, ⟨by (with_reducible repeat (first | apply Kd.R_alloc | apply Kd.R_drewN | apply Kd.R_drew)); exact Kd.R_mono HO766.out (fun _ hk => ⟨hk.1.2, hk.2⟩)⟩, ⟨by (with_reducible repeat (first | refine blk_drewN ?_ _ | refine blk_drew ?_ | refine blk_alloc ?_ _)); exact BK739.out⟩, ⟨by repeat (first | (with_reducible first | exact HB.out | apply below_alloc | apply pw_below_drewN | apply below_drew1 | refine below_set ?_ GE739.out) | exact HB.out)⟩⟩
        case round =>
          clear H'
          try clear c1
          try clear c2
          try clear p2
          try clear c3
          try clear c4
          try clear c6
          try clear c9
          try clear c10
          try clear c14
          try clear hcz22_0
          try clear hcz22_1
          try clear hfz22_0
          try clear hfz22_1
          obtain ⟨x10_1, x15_1, x740001_1, rfl, HA, HK1, HO_8, HO_9, HO_10, HO_11, HO_12, HO_14, BK739, HB⟩ := hrel
          cases gk with
          | zero => exact absurd HA.out (by simp [fencepostlaw09_BufGiven.l0])
          | succ k1 =>
            have H := HA.out
            clear HA
            simp only [fencepostlaw09_BufGiven.l0] at H
            by_cases c26 : x15_1 < (x10_1.length : Int)
            · rw [if_pos c26] at H
              have c26b0 : decide (x15_1 < (x10_1.length : Int)) = true := decide_eq_true c26
              clear c26
              by_cases c27 : 0 ≤ x15_1
              · rw [if_pos c27] at H
                have c27b0 : decide (0 ≤ x15_1) = true := decide_eq_true c27
                clear c27
                obtain ⟨y767, hy767⟩ : ∃ y_ : List (S51), y_ = (x10_1.set (x15_1 : Int).toNat (⟨(rd_T51 x10_1 x15_1).f0, 77⟩ : S51)) := ⟨_, rfl⟩
                replace H : (fencepostlaw09_BufGiven.l0 k1 l0 l2 t740 y745 y751 y767 t757 t758 t764 (wrap64 (x15_1 + 1))) = some r := by first | (rw [hy767]; with_reducible exact H) | (have H2_ := (Option.bind_some _ _).symm.trans H; rw [hy767]; with_reducible exact H2_) | (have H2_ := (Option.bind_some _ _).symm.trans H; with_reducible exact H2_) | with_reducible exact H | (rw [hy767]; exact H) | exact H
                have Ny767 := Aside0.mk hy767
                clear hy767
                have H' := Aside0.mk H
                clear H
                obtain ⟨Ao29, co29, eo29⟩ := Kd.R_slice HO_10.out
                subst eo29
                have p28 : 0 ≤ (x15_1 : Int) := of_decide_eq_true (by first | (with_reducible assumption) | assumption)
                have q28 : (x15_1 : Int) < ((x10_1.length : Int) : Int) := of_decide_eq_true (by first | (with_reducible assumption) | assumption)
                obtain ⟨go28, co28, eo28, gb28, gl28, cl28, HG28⟩ := Kd.R_form HO_10.out (by omega)
                (first | cases eo28 | (injection eo28 with ea_ en_ ec_; (first | subst ea_ | (injection ea_ with ea_; subst ea_)); subst ec_; clear en_))
                have GB28 := Aside0.mk gb28
                have GG28 := Aside0.mk HG28
                clear gb28 gl28 HG28
                obtain ⟨ce28, hcl28, hM28, hcc28, hfr28⟩ := Kd.R_elem HO_10.out z51 (x15_1 : Int) p28 q28
                obtain rfl := k51_openM hM28
                have hx28_0 : wr.cell? ⟨go28, (x15_1 : Int).toNat * 2, none⟩ = some (.int .i64 ((rd_T51 x10_1 x15_1).f0)) := hcc28 0 _ rfl
                have hx28_1 : wr.cell? ⟨go28, (x15_1 : Int).toNat * 2 + 1, none⟩ = some (.int .i64 ((rd_T51 x10_1 x15_1).f1)) := hcc28 1 _ rfl
                have hf28_0 : wr.frozen? ⟨go28, (x15_1 : Int).toNat * 2, none⟩ = false := hfr28 0
                have hf28_1 : wr.frozen? ⟨go28, (x15_1 : Int).toNat * 2 + 1, none⟩ = false := hfr28 1
                clear hcl28 hcc28 hfr28 hM28
                replace p28 := eq_true p28
                replace q28 := eq_true q28
                have HX30 := Aside0.mk (show Kd.R k51 51 wr w.heap.size (fun k_ => some k_ ≠ (v746 : Value).ownBlock ∧ some k_ ≠ (v760 : Value).ownBlock ∧ k_ ≠ gb739) (.slice (some ⟨go28, 0, none⟩) x10_1.length co29) x10_1 from (by (with_reducible repeat (first | apply Kd.R_alloc | apply Kd.R_drewN | apply Kd.R_drew)); exact HO_10.out))
                obtain ⟨ce30, hcl30, hM30, hcc30, hfr30⟩ := Kd.R_elem HX30.out z51 (x15_1 : Int) (of_decide_eq_true (by first | (with_reducible assumption) | assumption)) (by have h_ : (x15_1 : Int) < ((x10_1.length : Int) : Int) := of_decide_eq_true (by first | (with_reducible assumption) | assumption); first | exact h_ | (have e_ := (Kd.R_reads' HO_10.out).1; omega) | simpa using h_)
                obtain rfl := k51_openM hM30
                have HP30 := Kd.R_seg HX30.out (x15_1 : Int) (of_decide_eq_true (by first | (with_reducible assumption) | assumption)) (by have h_ : (x15_1 : Int) < ((x10_1.length : Int) : Int) := of_decide_eq_true (by first | (with_reducible assumption) | assumption); first | exact h_ | (have e_ := (Kd.R_reads' HO_10.out).1; omega) | simpa using h_) (seg := [.int .i64 77]) (j := 1) hcl30 hcc30 (show 2 ≤ 2 from by decide) (x' := (⟨(rd_T51 x10_1 x15_1).f0, 77⟩ : S51)) (k51_mkM _ _ _ (⟨(rd_T51 x10_1 x15_1).f0, 77⟩ : S51) ) (fun _ hk => hk)
                have hx30_1 := hcc30 1 _ rfl
                (try simp only [show (k51).sz = 2 from rfl, Nat.mul_one, Nat.add_zero] at hx30_1)
                have hf30_1 := hfr30 1
                (try simp only [show (k51).sz = 2 from rfl, Nat.mul_one, Nat.add_zero] at hf30_1)
                clear hcl30 hcc30 hfr30 hM30
                go_wp2_with (first | ((with_reducible refine gate_store (t := 3) (p := 52) rfl ?_); refine store_event (t := 3) (p := 52) (v := ?vo_w31) (w1 := (wr.setCell ⟨go28, (x15_1 : Int).toNat * 2 + 1, none⟩ (.int .i64 77))) ?hg ?ho ?hn ?hr ?_; (case ho => rfl); (case hg => rfl); (case hn => rfl); (case hr => first | (go_simp; done) | (go_simp; rfl)); intro w31 hw; have hg : wr.grownBy w31 (some go28) := (by rw [hw]; exact HP30.2); have hp_ : Kd.R k51 51 w31 w.heap.size (fun k_ => some k_ ≠ (v746 : Value).ownBlock ∧ some k_ ≠ (v760 : Value).ownBlock ∧ k_ ≠ gb739) (.slice (some ⟨go28, 0, none⟩) x10_1.length co29) y767 := (by rw [hw, Ny767.out]; exact HP30.1); clear HP30; have n0_ := Aside0.mk (Kd.R_after (v := (.slice (some ⟨go28, 0, none⟩) x10_1.length co29)) (v1 := (.slice (some ⟨go28, 0, none⟩) x10_1.length co29)) (ok := (fun k_ => some k_ ≠ (v760 : Value).ownBlock ∧ k_ ≠ gb739)) (by (with_reducible repeat (first | apply Kd.R_alloc | apply Kd.R_drewN | apply Kd.R_drew)); exact Kd.R_mono HO_8.out (fun _ hk => ⟨⟨hk.2.1, hk.2.2⟩, hk.1⟩)) hg (.inl rfl)); have n1_ := Aside0.mk (Kd.R_over' (v := (.slice (some ⟨go28, 0, none⟩) x10_1.length co29)) (by (with_reducible repeat (first | apply Kd.R_alloc | apply Kd.R_drewN | apply Kd.R_drew)); exact HO_9.out) (Kd.R_typed HO_10.out) (by decide) hg); have n2_ := Aside0.mk (hp_); have n3_ := Aside0.mk (Kd.R_after (v := (.slice (some ⟨go28, 0, none⟩) x10_1.length co29)) (v1 := (.slice (some ⟨go28, 0, none⟩) x10_1.length co29)) (ok := (fun k_ => some k_ ≠ (v746 : Value).ownBlock ∧ k_ ≠ gb739)) (by (with_reducible repeat (first | apply Kd.R_alloc | apply Kd.R_drewN | apply Kd.R_drew)); exact Kd.R_mono HO_11.out (fun _ hk => ⟨⟨hk.1, hk.2.2⟩, hk.2.1⟩)) hg (.inl rfl)); have n4_ := Aside0.mk (Kd.R_over' (v := (.slice (some ⟨go28, 0, none⟩) x10_1.length co29)) (by (with_reducible repeat (first | apply Kd.R_alloc | apply Kd.R_drewN | apply Kd.R_drew)); exact HO_12.out) (Kd.R_typed HO_10.out) (by decide) hg); have n5_ := Aside0.mk (Kd.R_over' (v := (.slice (some ⟨go28, 0, none⟩) x10_1.length co29)) (by (with_reducible repeat (first | apply Kd.R_alloc | apply Kd.R_drewN | apply Kd.R_drew)); exact HO_14.out) (Kd.R_typed HO_10.out) (by decide) hg); have n6_ := Aside0.mk (blk_grown (g := gb739) (o := .cells #[.int .i64 a1_0, .int .i64 x740001_1] 51 (0, 0)) (by (with_reducible repeat (first | refine blk_drewN ?_ _ | refine blk_drew ?_ | refine blk_alloc ?_ _)); exact BK739.out) hg (Kd.R_away HO_10.out (fun _ hk => hk.2.2))); have n7_ := Aside0.mk ((by rw [hw]; exact below_set (HB.out) GB28.out : Below w.heap.size w w31)); clear HO_8; clear HO_9; clear HO_10; clear HO_11; clear HO_12; clear HO_14; clear BK739; clear HB; have HO_8 := n0_; have HO_9 := n1_; have HO_10 := n2_; have HO_11 := n3_; have HO_12 := n4_; have HO_14 := n5_; have BK739 := n6_; have HB := n7_; clear n0_ n1_ n2_ n3_ n4_ n5_ n6_ n7_; clear hg hw hp_))
                go_roundg k1
                case measure => have := HK1.out; omega
                case rel => exact ⟨(y767), (wrap64 (x15_1 + 1)), (x740001_1), (by first | rfl | (simp; done) | (simp [*]; done)), H', ⟨by have := HK1.out; omega⟩, ⟨by (with_reducible repeat (first | apply Kd.R_alloc | apply Kd.R_drewN | apply Kd.R_drew)); exact Kd.R_mono HO_8.out (fun _ hk => ⟨hk.2, ⟨hk.1.1, hk.1.2⟩⟩)⟩, ⟨by (with_reducible repeat (first | apply Kd.R_alloc | apply Kd.R_drewN | apply Kd.R_drew)); exact HO_9.out⟩, ⟨by (with_reducible repeat (first | apply Kd.R_alloc | apply Kd.R_drewN | apply Kd.R_drew)); exact HO_10.out⟩, ⟨by (with_reducible repeat (first | apply Kd.R_alloc | apply Kd.R_drewN | apply Kd.R_drew)); exact Kd.R_mono HO_11.out (fun _ hk => ⟨hk.1.1, ⟨hk.2, hk.1.2⟩⟩)⟩, ⟨by (with_reducible repeat (first | apply Kd.R_alloc | apply Kd.R_drewN | apply Kd.R_drew)); exact HO_12.out⟩, ⟨by (with_reducible repeat (first | apply Kd.R_alloc | apply Kd.R_drewN | apply Kd.R_drew)); exact HO_14.out⟩, ⟨by (with_reducible repeat (first | refine blk_drewN ?_ _ | refine blk_drew ?_ | refine blk_alloc ?_ _)); exact BK739.out⟩, ⟨by repeat (first | (with_reducible first | exact HB.out | apply below_alloc | apply pw_below_drewN | apply below_drew1 | refine below_set ?_ GE739.out) | exact HB.out)⟩⟩
              · rw [if_neg c27] at H
                exact absurd H (by simp)
            · rw [if_neg c26] at H
              have c26b0 : decide (x15_1 < (x10_1.length : Int)) = false := decide_eq_false c26
              clear c26
              have H' := Aside0.mk H
              clear H
              obtain ⟨Ao32, co32, eo32⟩ := Kd.R_slice HO_10.out
              subst eo32
              go_wp2
              go_loopg [16] k1 (fun kq v16 w' => ∃ (x11_2 : List (S51)) (x16_2 : Int) (x740001_2 : Int), v16 = .int .i64 x16_2 ∧ Aside0 (fencepostlaw09_BufGiven.l1 kq l0 l2 t740 y745 y751 x11_2 t758 t764 x16_2 = some r) ∧ Aside0 (kq ≤ k1) ∧ Aside0 (Kd.R k51 51 w' w.heap.size (fun k_ => some k_ ≠ (v760 : Value).ownBlock ∧ k_ ≠ gb739) v746 y745) ∧ Aside0 (Kd.R (Kd.int .i64) 3 w' w.heap.size (fun k_ => some k_ ≠ (v762 : Value).ownBlock ∧ some k_ ≠ (v765 : Value).ownBlock) v752 y751) ∧ Aside0 (Kd.R k51 51 w' w.heap.size (fun k_ => some k_ ≠ (v746 : Value).ownBlock ∧ k_ ≠ gb739) v760 x11_2) ∧ Aside0 (Kd.R (Kd.int .i64) 3 w' w.heap.size (fun k_ => some k_ ≠ (v752 : Value).ownBlock ∧ some k_ ≠ (v765 : Value).ownBlock) v762 t758) ∧ Aside0 (Kd.R (Kd.int .i64) 3 w' w.heap.size (fun k_ => some k_ ≠ (v752 : Value).ownBlock ∧ some k_ ≠ (v762 : Value).ownBlock) v765 t764) ∧ Aside0 (w'.heap[gb739]? = some (.cells #[.int .i64 a1_0, .int .i64 x740001_2] 51 (0, 0))) ∧ Aside0 (Below w.heap.size w w'))
              case atStart => exact ⟨(t757), (0), (x740001_1), (by first | rfl | (simp; done) | (simp [*]; done)), H', ⟨Nat.le_refl _⟩, ⟨by (with_reducible repeat (first | apply Kd.R_alloc | apply Kd.R_drewN | apply Kd.R_drew)); exact Kd.R_mono HO_8.out (fun _ hk => ⟨hk.2.1, hk.2.2⟩)⟩, ⟨by (with_reducible repeat (first | apply Kd.R_alloc | apply Kd.R_drewN | apply Kd.R_drew)); exact HO_9.out⟩, ⟨by (with_reducible repeat (first | apply Kd.R_alloc | apply Kd.R_drewN | apply Kd.R_drew)); exact Kd.R_mono HO_11.out (fun _ hk => ⟨hk.1, hk.2.2⟩)⟩, ⟨by (with_reducible repeat (first | apply Kd.R_alloc | apply Kd.R_drewN | apply Kd.R_drew)); exact HO_12.out⟩, ⟨by (with_reducible repeat (first | apply Kd.R_alloc | apply Kd.R_drewN | apply Kd.R_drew)); exact HO_14.out⟩, ⟨by (with_reducible repeat (first | refine blk_drewN ?_ _ | refine blk_drew ?_ | refine blk_alloc ?_ _)); exact BK739.out⟩, ⟨by repeat (first | (with_reducible first | exact HB.out | apply below_alloc | apply pw_below_drewN | apply below_drew1 | refine below_set ?_ GE739.out) | exact HB.out)⟩⟩
              case round =>
                clear H'
                try clear c1
                try clear c2
                try clear p2
                try clear q2
                try clear hx2
                try clear c3
                try clear hx3
                try clear hf3
                try clear c4
                try clear c6
                try clear p6
                try clear c9
                try clear c10
                try clear c14
                try clear c26
                try clear c26b0
                try clear c27
                try clear c27b0
                try clear c28
                try clear p28
                try clear q28
                try clear hx28
                try clear hf28
                try clear c29
                try clear c30
                try clear hx30
                try clear hf30
                try clear hcz22_0
                try clear hcz22_1
                try clear hfz22_0
                try clear hfz22_1
                try clear hx28_0
                try clear hx28_1
                try clear hx30_1
                try clear p2
                try clear p28
                try clear q28
                obtain ⟨x11_2, x16_2, x740001_2, rfl, HA, HK2, HO_8, HO_9, HO_11, HO_12, HO_14, BK739, HB⟩ := hrel
                cases gk with
                | zero => exact absurd HA.out (by simp [fencepostlaw09_BufGiven.l1])
                | succ k2 =>
                  have H := HA.out
                  clear HA
                  simp only [fencepostlaw09_BufGiven.l1] at H
                  by_cases c33 : x16_2 < (x11_2.length : Int)
                  · rw [if_pos c33] at H
                    have c33b0 : decide (x16_2 < (x11_2.length : Int)) = true := decide_eq_true c33
                    clear c33
                    by_cases c34 : 0 ≤ x16_2
                    · rw [if_pos c34] at H
                      have c34b0 : decide (0 ≤ x16_2) = true := decide_eq_true c34
                      clear c34
                      obtain ⟨y768, hy768⟩ : ∃ y_ : List (S51), y_ = (x11_2.set (x16_2 : Int).toNat (⟨(rd_T51 x11_2 x16_2).f0, 77⟩ : S51)) := ⟨_, rfl⟩
                      replace H : (fencepostlaw09_BufGiven.l1 k2 l0 l2 t740 y745 y751 y768 t758 t764 (wrap64 (x16_2 + 1))) = some r := by first | (rw [hy768]; with_reducible exact H) | (have H2_ := (Option.bind_some _ _).symm.trans H; rw [hy768]; with_reducible exact H2_) | (have H2_ := (Option.bind_some _ _).symm.trans H; with_reducible exact H2_) | with_reducible exact H | (rw [hy768]; exact H) | exact H
                      have Ny768 := Aside0.mk hy768
                      clear hy768
                      have H' := Aside0.mk H
                      clear H
                      obtain ⟨Ao36, co36, eo36⟩ := Kd.R_slice HO_11.out
                      subst eo36
                      have p35 : 0 ≤ (x16_2 : Int) := of_decide_eq_true (by first | (with_reducible assumption) | assumption)
                      have q35 : (x16_2 : Int) < ((x11_2.length : Int) : Int) := of_decide_eq_true (by first | (with_reducible assumption) | assumption)
                      obtain ⟨go35, co35, eo35, gb35, gl35, cl35, HG35⟩ := Kd.R_form HO_11.out (by omega)
                      (first | cases eo35 | (injection eo35 with ea_ en_ ec_; (first | subst ea_ | (injection ea_ with ea_; subst ea_)); subst ec_; clear en_))
                      have GB35 := Aside0.mk gb35
                      have GG35 := Aside0.mk HG35
                      clear gb35 gl35 HG35
                      obtain ⟨ce35, hcl35, hM35, hcc35, hfr35⟩ := Kd.R_elem HO_11.out z51 (x16_2 : Int) p35 q35
                      obtain rfl := k51_openM hM35
                      have hx35_0 : wr.cell? ⟨go35, (x16_2 : Int).toNat * 2, none⟩ = some (.int .i64 ((rd_T51 x11_2 x16_2).f0)) := hcc35 0 _ rfl
                      have hx35_1 : wr.cell? ⟨go35, (x16_2 : Int).toNat * 2 + 1, none⟩ = some (.int .i64 ((rd_T51 x11_2 x16_2).f1)) := hcc35 1 _ rfl
                      have hf35_0 : wr.frozen? ⟨go35, (x16_2 : Int).toNat * 2, none⟩ = false := hfr35 0
                      have hf35_1 : wr.frozen? ⟨go35, (x16_2 : Int).toNat * 2 + 1, none⟩ = false := hfr35 1
                      clear hcl35 hcc35 hfr35 hM35
                      replace p35 := eq_true p35
                      replace q35 := eq_true q35
                      have HX37 := Aside0.mk (show Kd.R k51 51 wr w.heap.size (fun k_ => some k_ ≠ (v746 : Value).ownBlock ∧ k_ ≠ gb739) (.slice (some ⟨go35, 0, none⟩) x11_2.length co36) x11_2 from (by (with_reducible repeat (first | apply Kd.R_alloc | apply Kd.R_drewN | apply Kd.R_drew)); exact HO_11.out))
                      obtain ⟨ce37, hcl37, hM37, hcc37, hfr37⟩ := Kd.R_elem HX37.out z51 (x16_2 : Int) (of_decide_eq_true (by first | (with_reducible assumption) | assumption)) (by have h_ : (x16_2 : Int) < ((x11_2.length : Int) : Int) := of_decide_eq_true (by first | (with_reducible assumption) | assumption); first | exact h_ | (have e_ := (Kd.R_reads' HO_11.out).1; omega) | simpa using h_)
                      obtain rfl := k51_openM hM37
                      have HP37 := Kd.R_seg HX37.out (x16_2 : Int) (of_decide_eq_true (by first | (with_reducible assumption) | assumption)) (by have h_ : (x16_2 : Int) < ((x11_2.length : Int) : Int) := of_decide_eq_true (by first | (with_reducible assumption) | assumption); first | exact h_ | (have e_ := (Kd.R_reads' HO_11.out).1; omega) | simpa using h_) (seg := [.int .i64 77]) (j := 1) hcl37 hcc37 (show 2 ≤ 2 from by decide) (x' := (⟨(rd_T51 x11_2 x16_2).f0, 77⟩ : S51)) (k51_mkM _ _ _ (⟨(rd_T51 x11_2 x16_2).f0, 77⟩ : S51) ) (fun _ hk => hk)
                      have hx37_1 := hcc37 1 _ rfl
                      (try simp only [show (k51).sz = 2 from rfl, Nat.mul_one, Nat.add_zero] at hx37_1)
                      have hf37_1 := hfr37 1
                      (try simp only [show (k51).sz = 2 from rfl, Nat.mul_one, Nat.add_zero] at hf37_1)
                      clear hcl37 hcc37 hfr37 hM37
                      go_wp2_with (first | ((with_reducible refine gate_store (t := 3) (p := 62) rfl ?_); refine store_event (t := 3) (p := 62) (v := ?vo_w38) (w1 := (wr.setCell ⟨go35, (x16_2 : Int).toNat * 2 + 1, none⟩ (.int .i64 77))) ?hg ?ho ?hn ?hr ?_; (case ho => rfl); (case hg => rfl); (case hn => rfl); (case hr => first | (go_simp; done) | (go_simp; rfl)); intro w38 hw; have hg : wr.grownBy w38 (some go35) := (by rw [hw]; exact HP37.2); have hp_ : Kd.R k51 51 w38 w.heap.size (fun k_ => some k_ ≠ (v746 : Value).ownBlock ∧ k_ ≠ gb739) (.slice (some ⟨go35, 0, none⟩) x11_2.length co36) y768 := (by rw [hw, Ny768.out]; exact HP37.1); clear HP37; have n0_ := Aside0.mk (Kd.R_after (v := (.slice (some ⟨go35, 0, none⟩) x11_2.length co36)) (v1 := (.slice (some ⟨go35, 0, none⟩) x11_2.length co36)) (ok := (fun k_ => k_ ≠ gb739)) (by (with_reducible repeat (first | apply Kd.R_alloc | apply Kd.R_drewN | apply Kd.R_drew)); exact Kd.R_mono HO_8.out (fun _ hk => ⟨hk.2, hk.1⟩)) hg (.inl rfl)); have n1_ := Aside0.mk (Kd.R_over' (v := (.slice (some ⟨go35, 0, none⟩) x11_2.length co36)) (by (with_reducible repeat (first | apply Kd.R_alloc | apply Kd.R_drewN | apply Kd.R_drew)); exact HO_9.out) (Kd.R_typed HO_11.out) (by decide) hg); have n2_ := Aside0.mk (hp_); have n3_ := Aside0.mk (Kd.R_over' (v := (.slice (some ⟨go35, 0, none⟩) x11_2.length co36)) (by (with_reducible repeat (first | apply Kd.R_alloc | apply Kd.R_drewN | apply Kd.R_drew)); exact HO_12.out) (Kd.R_typed HO_11.out) (by decide) hg); have n4_ := Aside0.mk (Kd.R_over' (v := (.slice (some ⟨go35, 0, none⟩) x11_2.length co36)) (by (with_reducible repeat (first | apply Kd.R_alloc | apply Kd.R_drewN | apply Kd.R_drew)); exact HO_14.out) (Kd.R_typed HO_11.out) (by decide) hg); have n5_ := Aside0.mk (blk_grown (g := gb739) (o := .cells #[.int .i64 a1_0, .int .i64 x740001_2] 51 (0, 0)) (by (with_reducible repeat (first | refine blk_drewN ?_ _ | refine blk_drew ?_ | refine blk_alloc ?_ _)); exact BK739.out) hg (Kd.R_away HO_11.out (fun _ hk => hk.2))); have n6_ := Aside0.mk ((by rw [hw]; exact below_set (HB.out) GB35.out : Below w.heap.size w w38)); clear HO_8; clear HO_9; clear HO_11; clear HO_12; clear HO_14; clear BK739; clear HB; have HO_8 := n0_; have HO_9 := n1_; have HO_11 := n2_; have HO_12 := n3_; have HO_14 := n4_; have BK739 := n5_; have HB := n6_; clear n0_ n1_ n2_ n3_ n4_ n5_ n6_; clear hg hw hp_))
                      go_roundg k2
                      case measure => have := HK1.out; have := HK2.out; omega
                      case rel => exact ⟨(y768), (wrap64 (x16_2 + 1)), (x740001_2), (by first | rfl | (simp; done) | (simp [*]; done)), H', ⟨by have := HK1.out; have := HK2.out; omega⟩, ⟨by (with_reducible repeat (first | apply Kd.R_alloc | apply Kd.R_drewN | apply Kd.R_drew)); exact Kd.R_mono HO_8.out (fun _ hk => ⟨hk.2, hk.1⟩)⟩, ⟨by (with_reducible repeat (first | apply Kd.R_alloc | apply Kd.R_drewN | apply Kd.R_drew)); exact HO_9.out⟩, ⟨by (with_reducible repeat (first | apply Kd.R_alloc | apply Kd.R_drewN | apply Kd.R_drew)); exact HO_11.out⟩, ⟨by (with_reducible repeat (first | apply Kd.R_alloc | apply Kd.R_drewN | apply Kd.R_drew)); exact HO_12.out⟩, ⟨by (with_reducible repeat (first | apply Kd.R_alloc | apply Kd.R_drewN | apply Kd.R_drew)); exact HO_14.out⟩, ⟨by (with_reducible repeat (first | refine blk_drewN ?_ _ | refine blk_drew ?_ | refine blk_alloc ?_ _)); exact BK739.out⟩, ⟨by repeat (first | (with_reducible first | exact HB.out | apply below_alloc | apply pw_below_drewN | apply below_drew1 | refine below_set ?_ GE739.out) | exact HB.out)⟩⟩
                    · rw [if_neg c34] at H
                      exact absurd H (by simp)
                  · rw [if_neg c33] at H
                    have c33b0 : decide (x16_2 < (x11_2.length : Int)) = false := decide_eq_false c33
                    clear c33
                    have H' := Aside0.mk H
                    clear H
                    obtain ⟨Ao39, co39, eo39⟩ := Kd.R_slice HO_11.out
                    subst eo39
                    go_wp2
                    go_loopg [17] k2 (fun kq v17 w' => ∃ (x12_3 : List Int) (x17_3 : Int), v17 = .int .i64 x17_3 ∧ Aside0 (fencepostlaw09_BufGiven.l2 kq l0 l2 t740 y745 y751 x12_3 t764 x17_3 = some r) ∧ Aside0 (kq ≤ k2) ∧ Aside0 (Kd.R k51 51 w' w.heap.size (fun k_ => k_ ≠ gb739) v746 y745) ∧ Aside0 (Kd.R (Kd.int .i64) 3 w' w.heap.size (fun k_ => some k_ ≠ (v762 : Value).ownBlock ∧ some k_ ≠ (v765 : Value).ownBlock) v752 y751) ∧ Aside0 (Kd.R (Kd.int .i64) 3 w' w.heap.size (fun k_ => some k_ ≠ (v752 : Value).ownBlock ∧ some k_ ≠ (v765 : Value).ownBlock) v762 x12_3) ∧ Aside0 (Kd.R (Kd.int .i64) 3 w' w.heap.size (fun k_ => some k_ ≠ (v752 : Value).ownBlock ∧ some k_ ≠ (v762 : Value).ownBlock) v765 t764) ∧ Aside0 (w'.heap[gb739]? = some (.cells #[.int .i64 a1_0, .int .i64 x740001_2] 51 (0, 0))) ∧ Aside0 (Below w.heap.size w w'))
                    case atStart => exact ⟨(t758), (0), (by first | rfl | (simp; done) | (simp [*]; done)), H', ⟨Nat.le_refl _⟩, ⟨by (with_reducible repeat (first | apply Kd.R_alloc | apply Kd.R_drewN | apply Kd.R_drew)); exact Kd.R_mono HO_8.out (fun _ hk => hk.2)⟩, ⟨by (with_reducible repeat (first | apply Kd.R_alloc | apply Kd.R_drewN | apply Kd.R_drew)); exact HO_9.out⟩, ⟨by (with_reducible repeat (first | apply Kd.R_alloc | apply Kd.R_drewN | apply Kd.R_drew)); exact HO_12.out⟩, ⟨by (with_reducible repeat (first | apply Kd.R_alloc | apply Kd.R_drewN | apply Kd.R_drew)); exact HO_14.out⟩, ⟨by (with_reducible repeat (first | refine blk_drewN ?_ _ | refine blk_drew ?_ | refine blk_alloc ?_ _)); exact BK739.out⟩, ⟨by repeat (first | (with_reducible first | exact HB.out | apply below_alloc | apply pw_below_drewN | apply below_drew1 | refine below_set ?_ GE739.out) | exact HB.out)⟩⟩
                    case round =>
                      clear H'
                      try clear c1
                      try clear c2
                      try clear p2
                      try clear q2
                      try clear hx2
                      try clear c3
                      try clear p3
                      try clear q3
                      try clear hx3
                      try clear hf3
                      try clear c4
                      try clear c6
                      try clear p6
                      try clear c9
                      try clear c10
                      try clear c14
                      try clear c26
                      try clear c26b0
                      try clear c27
                      try clear c27b0
                      try clear c28
                      try clear p28
                      try clear q28
                      try clear hx28
                      try clear hf28
                      try clear c29
                      try clear c30
                      try clear hx30
                      try clear hf30
                      try clear c33
                      try clear c33b0
                      try clear c34
                      try clear c34b0
                      try clear c35
                      try clear p35
                      try clear q35
                      try clear hx35
                      try clear hf35
                      try clear c37
                      try clear hx37
                      try clear hf37
                      try clear c38
                      try clear hcz22_0
                      try clear hcz22_1
                      try clear hfz22_0
                      try clear hfz22_1
                      try clear hx28_0
                      try clear hx28_1
                      try clear hx30_1
                      try clear hx35_0
                      try clear hx35_1
                      try clear hx37_1
                      try clear p2
                      try clear p28
                      try clear p35
                      try clear p6
                      try clear q2
                      try clear q28
                      try clear q35
                      obtain ⟨x12_3, x17_3, rfl, HA, HK3, HO_8, HO_9, HO_12, HO_14, BK739, HB⟩ := hrel
                      cases gk with
                      | zero => exact absurd HA.out (by simp [fencepostlaw09_BufGiven.l2])
                      | succ k3 =>
                        have H := HA.out
                        clear HA
                        simp only [fencepostlaw09_BufGiven.l2] at H
                        by_cases c40 : x17_3 < (x12_3.length : Int)
                        · rw [if_pos c40] at H
                          have c40b0 : decide (x17_3 < (x12_3.length : Int)) = true := decide_eq_true c40
                          clear c40
                          by_cases c41 : 0 ≤ x17_3
                          · rw [if_pos c41] at H
                            have c41b0 : decide (0 ≤ x17_3) = true := decide_eq_true c41
                            clear c41
                            obtain ⟨y769, hy769⟩ : ∃ y_ : List Int, y_ = (x12_3.set (x17_3 : Int).toNat 77) := ⟨_, rfl⟩
                            replace H : (fencepostlaw09_BufGiven.l2 k3 l0 l2 t740 y745 y751 y769 t764 (wrap64 (x17_3 + 1))) = some r := by first | (rw [hy769]; with_reducible exact H) | (have H2_ := (Option.bind_some _ _).symm.trans H; rw [hy769]; with_reducible exact H2_) | (have H2_ := (Option.bind_some _ _).symm.trans H; with_reducible exact H2_) | with_reducible exact H | (rw [hy769]; exact H) | exact H
                            have Ny769 := Aside0.mk hy769
                            clear hy769
                            have H' := Aside0.mk H
                            clear H
                            obtain ⟨Ao43, co43, eo43⟩ := Kd.R_slice HO_12.out
                            subst eo43
                            have p42 : 0 ≤ (x17_3 : Int) := of_decide_eq_true (by first | (with_reducible assumption) | assumption)
                            have q42 : (x17_3 : Int) < ((x12_3.length : Int) : Int) := of_decide_eq_true (by first | (with_reducible assumption) | assumption)
                            obtain ⟨go42, co42, eo42, gb42, gl42, cl42, HG42⟩ := Kd.R_form HO_12.out (by omega)
                            (first | cases eo42 | (injection eo42 with ea_ en_ ec_; (first | subst ea_ | (injection ea_ with ea_; subst ea_)); subst ec_; clear en_))
                            have GB42 := Aside0.mk gb42
                            have GG42 := Aside0.mk HG42
                            clear gb42 gl42 HG42
                            obtain ⟨hx42_0, hf42_0⟩ := Kd.R_celln 0 HO_12.out (x17_3 : Int) p42 q42
                            replace p42 := eq_true p42
                            replace q42 := eq_true q42
                            have HP44 := Kd.R_putg HO_12.out (x17_3 : Int) 77
                            go_wp2_with (first | ((with_reducible refine gate_store (t := 3) (p := 71) rfl ?_); refine store_event (t := 3) (p := 71) (v := ?vo_w45) (w1 := (wr.setCell ⟨go42, (x17_3 : Int).toNat, none⟩ (.int .i64 77))) ?hg ?ho ?hn ?hr ?_; (case ho => rfl); (case hg => rfl); (case hn => rfl); (case hr => first | (go_simp; done) | (go_simp; rfl)); intro w45 hw; have hg : wr.grownBy w45 (some go42) := (by rw [hw]; exact HP44.2); have hp_ : Kd.R (Kd.int .i64) 3 w45 w.heap.size (fun k_ => some k_ ≠ (v752 : Value).ownBlock ∧ some k_ ≠ (v765 : Value).ownBlock) (.slice (some ⟨go42, 0, none⟩) x12_3.length co43) y769 := (by rw [hw, Ny769.out]; exact HP44.1); clear HP44; have n0_ := Aside0.mk (Kd.R_over' (v := (.slice (some ⟨go42, 0, none⟩) x12_3.length co43)) (by (with_reducible repeat (first | apply Kd.R_alloc | apply Kd.R_drewN | apply Kd.R_drew)); exact HO_8.out) (Kd.R_typed HO_12.out) (by decide) hg); have n1_ := Aside0.mk (Kd.R_after (v := (.slice (some ⟨go42, 0, none⟩) x12_3.length co43)) (v1 := (.slice (some ⟨go42, 0, none⟩) x12_3.length co43)) (ok := (fun k_ => some k_ ≠ (v765 : Value).ownBlock)) (by (with_reducible repeat (first | apply Kd.R_alloc | apply Kd.R_drewN | apply Kd.R_drew)); exact Kd.R_mono HO_9.out (fun _ hk => ⟨hk.2, hk.1⟩)) hg (.inl rfl)); have n2_ := Aside0.mk (hp_); have n3_ := Aside0.mk (Kd.R_after (v := (.slice (some ⟨go42, 0, none⟩) x12_3.length co43)) (v1 := (.slice (some ⟨go42, 0, none⟩) x12_3.length co43)) (ok := (fun k_ => some k_ ≠ (v752 : Value).ownBlock)) (by (with_reducible repeat (first | apply Kd.R_alloc | apply Kd.R_drewN | apply Kd.R_drew)); exact HO_14.out) hg (.inl rfl)); have n4_ := Aside0.mk (blk_grown (g := gb739) (o := .cells #[.int .i64 a1_0, .int .i64 x740001_2] 51 (0, 0)) (by (with_reducible repeat (first | refine blk_drewN ?_ _ | refine blk_drew ?_ | refine blk_alloc ?_ _)); exact BK739.out) hg (Kd.R_ne HO_12.out BK739.out (by decide))); have n5_ := Aside0.mk ((by rw [hw]; exact below_set (HB.out) GB42.out : Below w.heap.size w w45)); clear HO_8; clear HO_9; clear HO_12; clear HO_14; clear BK739; clear HB; have HO_8 := n0_; have HO_9 := n1_; have HO_12 := n2_; have HO_14 := n3_; have BK739 := n4_; have HB := n5_; clear n0_ n1_ n2_ n3_ n4_ n5_; clear hg hw hp_))
                            go_roundg k3
                            case measure => have := HK1.out; have := HK2.out; have := HK3.out; omega
                            case rel => exact ⟨(y769), (wrap64 (x17_3 + 1)), (by first | rfl | (simp; done) | (simp [*]; done)), H', ⟨by have := HK1.out; have := HK2.out; have := HK3.out; omega⟩, ⟨by (with_reducible repeat (first | apply Kd.R_alloc | apply Kd.R_drewN | apply Kd.R_drew)); exact HO_8.out⟩, ⟨by (with_reducible repeat (first | apply Kd.R_alloc | apply Kd.R_drewN | apply Kd.R_drew)); exact Kd.R_mono HO_9.out (fun _ hk => ⟨hk.2, hk.1⟩)⟩, ⟨by (with_reducible repeat (first | apply Kd.R_alloc | apply Kd.R_drewN | apply Kd.R_drew)); exact HO_12.out⟩, ⟨by (with_reducible repeat (first | apply Kd.R_alloc | apply Kd.R_drewN | apply Kd.R_drew)); exact HO_14.out⟩, ⟨by (with_reducible repeat (first | refine blk_drewN ?_ _ | refine blk_drew ?_ | refine blk_alloc ?_ _)); exact BK739.out⟩, ⟨by repeat (first | (with_reducible first | exact HB.out | apply below_alloc | apply pw_below_drewN | apply below_drew1 | refine below_set ?_ GE739.out) | exact HB.out)⟩⟩
                          · rw [if_neg c41] at H
                            exact absurd H (by simp)
                        · rw [if_neg c40] at H
                          have c40b0 : decide (x17_3 < (x12_3.length : Int)) = false := decide_eq_false c40
                          clear c40
                          have H' := Aside0.mk H
                          clear H
                          obtain ⟨Ao46, co46, eo46⟩ := Kd.R_slice HO_12.out
                          subst eo46
                          go_wp2
                          go_loopg [18] k3 (fun kq v18 w' => ∃ (x14_4 : List Int) (x18_4 : Int), v18 = .int .i64 x18_4 ∧ Aside0 (fencepostlaw09_BufGiven.l3 kq l0 l2 t740 y745 y751 x14_4 x18_4 = some r) ∧ Aside0 (kq ≤ k3) ∧ Aside0 (Kd.R k51 51 w' w.heap.size (fun k_ => k_ ≠ gb739) v746 y745) ∧ Aside0 (Kd.R (Kd.int .i64) 3 w' w.heap.size (fun k_ => some k_ ≠ (v765 : Value).ownBlock) v752 y751) ∧ Aside0 (Kd.R (Kd.int .i64) 3 w' w.heap.size (fun k_ => some k_ ≠ (v752 : Value).ownBlock) v765 x14_4) ∧ Aside0 (w'.heap[gb739]? = some (.cells #[.int .i64 a1_0, .int .i64 x740001_2] 51 (0, 0))) ∧ Aside0 (Below w.heap.size w w'))
                          case atStart => exact ⟨(t764), (0), (by first | rfl | (simp; done) | (simp [*]; done)), H', ⟨Nat.le_refl _⟩, ⟨by (with_reducible repeat (first | apply Kd.R_alloc | apply Kd.R_drewN | apply Kd.R_drew)); exact HO_8.out⟩, ⟨by (with_reducible repeat (first | apply Kd.R_alloc | apply Kd.R_drewN | apply Kd.R_drew)); exact Kd.R_mono HO_9.out (fun _ hk => hk.2)⟩, ⟨by (with_reducible repeat (first | apply Kd.R_alloc | apply Kd.R_drewN | apply Kd.R_drew)); exact Kd.R_mono HO_14.out (fun _ hk => hk.1)⟩, ⟨by (with_reducible repeat (first | refine blk_drewN ?_ _ | refine blk_drew ?_ | refine blk_alloc ?_ _)); exact BK739.out⟩, ⟨by repeat (first | (with_reducible first | exact HB.out | apply below_alloc | apply pw_below_drewN | apply below_drew1 | refine below_set ?_ GE739.out) | exact HB.out)⟩⟩
                          case round =>
                            clear H'
                            try clear c1
                            try clear c2
                            try clear p2
                            try clear q2
                            try clear hx2
                            try clear c3
                            try clear p3
                            try clear q3
                            try clear hx3
                            try clear hf3
                            try clear c4
                            try clear p4
                            try clear q4
                            try clear hx4
                            try clear hf4
                            try clear c6
                            try clear p6
                            try clear c9
                            try clear c10
                            try clear c14
                            try clear c26
                            try clear c26b0
                            try clear c27
                            try clear c27b0
                            try clear c28
                            try clear p28
                            try clear q28
                            try clear hx28
                            try clear hf28
                            try clear c29
                            try clear c30
                            try clear hx30
                            try clear hf30
                            try clear c33
                            try clear c33b0
                            try clear c34
                            try clear c34b0
                            try clear c35
                            try clear p35
                            try clear q35
                            try clear hx35
                            try clear hf35
                            try clear c37
                            try clear hx37
                            try clear hf37
                            try clear c38
                            try clear c40
                            try clear c40b0
                            try clear c41
                            try clear c41b0
                            try clear p42
                            try clear q42
                            try clear hx42
                            try clear hf42
                            try clear hcz22_0
                            try clear hcz22_1
                            try clear hfz22_0
                            try clear hfz22_1
                            try clear hx28_0
                            try clear hx28_1
                            try clear hx30_1
                            try clear hx35_0
                            try clear hx35_1
                            try clear hx37_1
                            try clear hx42_0
                            try clear p2
                            try clear p28
                            try clear p3
                            try clear p35
                            try clear p42
                            try clear p6
                            try clear q2
                            try clear q28
                            try clear q3
                            try clear q35
                            try clear q42
                            obtain ⟨x14_4, x18_4, rfl, HA, HK4, HO_8, HO_9, HO_14, BK739, HB⟩ := hrel
                            cases gk with
                            | zero => exact absurd HA.out (by simp [fencepostlaw09_BufGiven.l3])
                            | succ k4 =>
                              have H := HA.out
                              clear HA
                              simp only [fencepostlaw09_BufGiven.l3] at H
                              by_cases c47 : x18_4 < (x14_4.length : Int)
                              · rw [if_pos c47] at H
                                have c47b0 : decide (x18_4 < (x14_4.length : Int)) = true := decide_eq_true c47
                                clear c47
                                by_cases c48 : 0 ≤ x18_4
                                · rw [if_pos c48] at H
                                  have c48b0 : decide (0 ≤ x18_4) = true := decide_eq_true c48
                                  clear c48
                                  obtain ⟨y770, hy770⟩ : ∃ y_ : List Int, y_ = (x14_4.set (x18_4 : Int).toNat 77) := ⟨_, rfl⟩
                                  replace H : (fencepostlaw09_BufGiven.l3 k4 l0 l2 t740 y745 y751 y770 (wrap64 (x18_4 + 1))) = some r := by first | (rw [hy770]; with_reducible exact H) | (have H2_ := (Option.bind_some _ _).symm.trans H; rw [hy770]; with_reducible exact H2_) | (have H2_ := (Option.bind_some _ _).symm.trans H; with_reducible exact H2_) | with_reducible exact H | (rw [hy770]; exact H) | exact H
                                  have Ny770 := Aside0.mk hy770
                                  clear hy770
                                  have H' := Aside0.mk H
                                  clear H
                                  obtain ⟨Ao50, co50, eo50⟩ := Kd.R_slice HO_14.out
                                  subst eo50
                                  have p49 : 0 ≤ (x18_4 : Int) := of_decide_eq_true (by first | (with_reducible assumption) | assumption)
                                  have q49 : (x18_4 : Int) < ((x14_4.length : Int) : Int) := of_decide_eq_true (by first | (with_reducible assumption) | assumption)
                                  obtain ⟨go49, co49, eo49, gb49, gl49, cl49, HG49⟩ := Kd.R_form HO_14.out (by omega)
                                  (first | cases eo49 | (injection eo49 with ea_ en_ ec_; (first | subst ea_ | (injection ea_ with ea_; subst ea_)); subst ec_; clear en_))
                                  have GB49 := Aside0.mk gb49
                                  have GG49 := Aside0.mk HG49
                                  clear gb49 gl49 HG49
                                  obtain ⟨hx49_0, hf49_0⟩ := Kd.R_celln 0 HO_14.out (x18_4 : Int) p49 q49
                                  replace p49 := eq_true p49
                                  replace q49 := eq_true q49
                                  have HP51 := Kd.R_putg HO_14.out (x18_4 : Int) 77
                                  go_wp2_with (first | ((with_reducible refine gate_store (t := 3) (p := 80) rfl ?_); refine store_event (t := 3) (p := 80) (v := ?vo_w52) (w1 := (wr.setCell ⟨go49, (x18_4 : Int).toNat, none⟩ (.int .i64 77))) ?hg ?ho ?hn ?hr ?_; (case ho => rfl); (case hg => rfl); (case hn => rfl); (case hr => first | (go_simp; done) | (go_simp; rfl)); intro w52 hw; have hg : wr.grownBy w52 (some go49) := (by rw [hw]; exact HP51.2); have hp_ : Kd.R (Kd.int .i64) 3 w52 w.heap.size (fun k_ => some k_ ≠ (v752 : Value).ownBlock) (.slice (some ⟨go49, 0, none⟩) x14_4.length co50) y770 := (by rw [hw, Ny770.out]; exact HP51.1); clear HP51; have n0_ := Aside0.mk (Kd.R_over' (v := (.slice (some ⟨go49, 0, none⟩) x14_4.length co50)) (by (with_reducible repeat (first | apply Kd.R_alloc | apply Kd.R_drewN | apply Kd.R_drew)); exact HO_8.out) (Kd.R_typed HO_14.out) (by decide) hg); have n1_ := Aside0.mk (Kd.R_after (v := (.slice (some ⟨go49, 0, none⟩) x14_4.length co50)) (v1 := (.slice (some ⟨go49, 0, none⟩) x14_4.length co50)) (ok := (fun _ => True)) (by (with_reducible repeat (first | apply Kd.R_alloc | apply Kd.R_drewN | apply Kd.R_drew)); exact Kd.R_mono HO_9.out (fun _ hk => ⟨trivial, hk⟩)) hg (.inl rfl)); have n2_ := Aside0.mk (hp_); have n3_ := Aside0.mk (blk_grown (g := gb739) (o := .cells #[.int .i64 a1_0, .int .i64 x740001_2] 51 (0, 0)) (by (with_reducible repeat (first | refine blk_drewN ?_ _ | refine blk_drew ?_ | refine blk_alloc ?_ _)); exact BK739.out) hg (Kd.R_ne HO_14.out BK739.out (by decide))); have n4_ := Aside0.mk ((by rw [hw]; exact below_set (HB.out) GB49.out : Below w.heap.size w w52)); clear HO_8; clear HO_9; clear HO_14; clear BK739; clear HB; have HO_8 := n0_; have HO_9 := n1_; have HO_14 := n2_; have BK739 := n3_; have HB := n4_; clear n0_ n1_ n2_ n3_ n4_; clear hg hw hp_))
                                  go_roundg k4
                                  case measure => have := HK1.out; have := HK2.out; have := HK3.out; have := HK4.out; omega
                                  case rel => exact ⟨(y770), (wrap64 (x18_4 + 1)), (by first | rfl | (simp; done) | (simp [*]; done)), H', ⟨by have := HK1.out; have := HK2.out; have := HK3.out; have := HK4.out; omega⟩, ⟨by (with_reducible repeat (first | apply Kd.R_alloc | apply Kd.R_drewN | apply Kd.R_drew)); exact HO_8.out⟩, ⟨by (with_reducible repeat (first | apply Kd.R_alloc | apply Kd.R_drewN | apply Kd.R_drew)); exact Kd.R_mono HO_9.out (fun _ hk => hk.2)⟩, ⟨by (with_reducible repeat (first | apply Kd.R_alloc | apply Kd.R_drewN | apply Kd.R_drew)); exact HO_14.out⟩, ⟨by (with_reducible repeat (first | refine blk_drewN ?_ _ | refine blk_drew ?_ | refine blk_alloc ?_ _)); exact BK739.out⟩, ⟨by repeat (first | (with_reducible first | exact HB.out | apply below_alloc | apply pw_below_drewN | apply below_drew1 | refine below_set ?_ GE739.out) | exact HB.out)⟩⟩
                                · rw [if_neg c48] at H
                                  exact absurd H (by simp)
                              · rw [if_neg c47] at H
                                have c47b0 : decide (x18_4 < (x14_4.length : Int)) = false := decide_eq_false c47
                                clear c47
                                by_cases c53 : t740 = true
                                · subst c53
                                  have H1 : ((fencepostref09_Same.f k4 l0 y745).bind fun t771 => (if t771 = true then ((fencepostref07_SameInts.f k4 l2 y751).bind fun t772 => (some t772)) else (some false))) = some r := by rw [if_pos rfl] at H; exact H
                                  clear H
                                  have H := H1
                                  clear H1
                                  replace H := Option.bind_eq_some_iff.mp H
                                  obtain ⟨t771, A540, H⟩ := H
                                  replace H : (if t771 = true then ((fencepostref07_SameInts.f k4 l2 y751).bind fun t772 => (some t772)) else (some false)) = some r := H
                                  have A54 := Aside0.mk A540
                                  clear A540
                                  by_cases c55 : t771 = true
                                  · subst c55
                                    have H1 : ((fencepostref07_SameInts.f k4 l2 y751).bind fun t772 => (some t772)) = some r := by rw [if_pos rfl] at H; exact H
                                    clear H
                                    have H := H1
                                    clear H1
                                    replace H := Option.bind_eq_some_iff.mp H
                                    obtain ⟨t772, A560, H⟩ := H
                                    replace H : (some t772) = some r := H
                                    have A56 := Aside0.mk A560
                                    clear A560
                                    obtain rfl := Option.some.inj H
                                    obtain ⟨Ao57, co57, eo57⟩ := Kd.R_slice HO_14.out
                                    subst eo57
                                    obtain ⟨Ao58, co58, eo58⟩ := Kd.R_slice HO_8.out
                                    subst eo58
                                    go_wp2_with (first | (go_at_call 37; (with_reducible refine (fencepostref09_Same.calls k4 _ _ l0 _ _ y745 true _ ?side1 ?side2 ?side3 ?side4 A54.out).mono ?_); (case side1 => repeat (first | exact (Kd.C_below HR0.out HB.out) | (with_reducible refine Kd.C_alloc ?_ _) | (with_reducible refine Kd.C_drewN ?_ _) | (with_reducible refine Kd.C_drew ?_))); (case side2 => exact HC0.out); (case side3 => repeat (first | exact (Kd.R_reads' HO_8.out).2.2 | (with_reducible refine Kd.C_alloc ?_ _) | (with_reducible refine Kd.C_drewN ?_ _) | (with_reducible refine Kd.C_drew ?_))); (case side4 => exact (Kd.R_reads' HO_8.out).2.1); rintro e w' ⟨rfl, ⟨nd, rfl⟩⟩; obtain ⟨Ao59, co59, eo59⟩ := Kd.R_slice HO_9.out; subst eo59) | (go_at_call 19; (with_reducible refine (fencepostref07_SameInts.calls k4 _ _ l2 _ _ y751 t772 _ ?side1 ?side2 ?side3 ?side4 A56.out).mono ?_); (case side1 => repeat (first | exact (Kd.C_below HR2.out (by repeat (first | (with_reducible first | exact HB.out | apply below_alloc | apply pw_below_drewN | apply below_drew1 | refine below_set ?_ GE739.out) | exact HB.out))) | (with_reducible refine Kd.C_alloc ?_ _) | (with_reducible refine Kd.C_drewN ?_ _) | (with_reducible refine Kd.C_drew ?_))); (case side2 => exact HC2.out); (case side3 => repeat (first | exact (Kd.R_reads' HO_9.out).2.2 | (with_reducible refine Kd.C_alloc ?_ _) | (with_reducible refine Kd.C_drewN ?_ _) | (with_reducible refine Kd.C_drew ?_))); (case side4 => exact (Kd.R_reads' HO_9.out).2.1); rintro e w' ⟨rfl, ⟨nd, rfl⟩⟩))
                                    go_ret
                                    exact ⟨by first | rfl | (simp [errW_none, errW_some] <;> rfl) | (simp [*, errW_none, errW_some] <;> rfl), by repeat (first | (with_reducible first | exact HB.out | apply below_alloc | apply pw_below_drewN | apply below_drew1 | refine below_set ?_ GE739.out) | exact HB.out)⟩
                                  · replace c55 := Bool.eq_false_iff.mpr c55
                                    subst c55
                                    have H1 : (some false) = some r := by rw [if_neg (show ¬ (false = true) by decide)] at H; exact H
                                    clear H
                                    have H := H1
                                    clear H1
                                    exact absurd ((Option.some.inj H).trans HT.out) (by simp)
                                · replace c53 := Bool.eq_false_iff.mpr c53
                                  subst c53
                                  have H1 : (some false) = some r := by rw [if_neg (show ¬ (false = true) by decide)] at H; exact H
                                  clear H
                                  have H := H1
                                  clear H1
                                  exact absurd ((Option.some.inj H).trans HT.out) (by simp)
      · rw [if_neg c10] at H
        exact absurd H (by simp)
    · rw [if_neg c9] at H
      exact absurd H (by simp)

end Go.Proofs.Ytpaifpnnjflnfaa.Print
