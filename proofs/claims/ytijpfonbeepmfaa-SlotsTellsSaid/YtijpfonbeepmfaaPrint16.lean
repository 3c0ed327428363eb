-- Written by ownprint.py (this session's) with the kit's print.py: functions, contracts, rows; Lean checks it.
import Derived.Test.YtijpfonbeepmfaaPrint0
import Derived.Test.YtijpfonbeepmfaaPrint12
import Derived.Test.YtijpfonbeepmfaaPrint15
import Derived.Test.YtijpfonbeepmfaaPrint1
namespace Go.Proofs.Ytijpfonbeepmfaa.Print
open Go.RowKit Go.Proofs.YtijpfonbeepmfaaW.PrintWords Go.Proofs.YtijpfonbeepmfaaW.PrintLast Go.Proofs.YtijpfonbeepmfaaW.PrintMore
attribute [local go_sem] max2_int min2_int max_two min_two max_three min_three max_four min_four   -- for this text's walks alone
set_option linter.unusedVariables false
set_option linter.unusedSimpArgs false
mutual
def fencepostref08_Insert.l0 : Nat → List Int → Int → Int → List Int → List (List (S53)) → List Int → List (List (S53)) → Option (List Int × (List (List (S53))))
 | 0, _, _, _, _, _, _, _ => none
 | k + 1, x1, x6, x7, x233000, x233001, x241000, x241001 => if x7 < (x233001.length : Int) then (fencepostref08_Insert.l1 k x1 x6 x7 ([] : List (S53)) 0 x233000 x233001 x241000 x241001) else (some (x241000, x241001))
def fencepostref08_Insert.l1 : Nat → List Int → Int → Int → List (S53) → Int → List Int → List (List (S53)) → List Int → List (List (S53)) → Option (List Int × (List (List (S53))))
 | 0, _, _, _, _, _, _, _, _, _ => none
 | k + 1, x1, x6, x7, x8, x9, x233000, x233001, x241000, x241001 => if 0 ≤ x7 then (if x7 < (x233001.length : Int) then (if x9 < ((rd_L3 x233001 x7).length : Int) then ((fencepostref08_Has.f k x1 (wrap64 (x6 + x9))).bind fun t246 => (if t246 = true then (if x8.length < 3518437208883 then ((some (x8 ++ [(⟨6, 0, 0, 0, 0⟩ : S53)] : List (S53))).bind fun y247 => (if 0 ≤ x9 then (if ((rd_T53 (rd_L3 x233001 x7) x9).f0) ≥ 8 then ((fencepostref08_Count.f k x1 x6 ((rd_T53 (rd_L3 x233001 x7) x9).f4)).bind fun t253 => (if y247.length < 3518437208883 then (fencepostref08_Insert.l1 k x1 x6 x7 (y247 ++ [(⟨(rd_T53 (rd_L3 x233001 x7) x9).f0, (rd_T53 (rd_L3 x233001 x7) x9).f1, (rd_T53 (rd_L3 x233001 x7) x9).f2, (rd_T53 (rd_L3 x233001 x7) x9).f3, wrap64 (((rd_T53 (rd_L3 x233001 x7) x9).f4) + t253)⟩ : S53)]) (wrap64 (x9 + 1)) x233000 x233001 x241000 x241001) else (none))) else (if y247.length < 3518437208883 then (fencepostref08_Insert.l1 k x1 x6 x7 (y247 ++ [(⟨(rd_T53 (rd_L3 x233001 x7) x9).f0, (rd_T53 (rd_L3 x233001 x7) x9).f1, (rd_T53 (rd_L3 x233001 x7) x9).f2, (rd_T53 (rd_L3 x233001 x7) x9).f3, (rd_T53 (rd_L3 x233001 x7) x9).f4⟩ : S53)]) (wrap64 (x9 + 1)) x233000 x233001 x241000 x241001) else (none))) else (none))) else (none)) else (if 0 ≤ x9 then (if ((rd_T53 (rd_L3 x233001 x7) x9).f0) ≥ 8 then ((fencepostref08_Count.f k x1 x6 ((rd_T53 (rd_L3 x233001 x7) x9).f4)).bind fun t263 => (if x8.length < 3518437208883 then (fencepostref08_Insert.l1 k x1 x6 x7 (x8 ++ [(⟨(rd_T53 (rd_L3 x233001 x7) x9).f0, (rd_T53 (rd_L3 x233001 x7) x9).f1, (rd_T53 (rd_L3 x233001 x7) x9).f2, (rd_T53 (rd_L3 x233001 x7) x9).f3, wrap64 (((rd_T53 (rd_L3 x233001 x7) x9).f4) + t263)⟩ : S53)]) (wrap64 (x9 + 1)) x233000 x233001 x241000 x241001) else (none))) else (if x8.length < 3518437208883 then (fencepostref08_Insert.l1 k x1 x6 x7 (x8 ++ [(⟨(rd_T53 (rd_L3 x233001 x7) x9).f0, (rd_T53 (rd_L3 x233001 x7) x9).f1, (rd_T53 (rd_L3 x233001 x7) x9).f2, (rd_T53 (rd_L3 x233001 x7) x9).f3, (rd_T53 (rd_L3 x233001 x7) x9).f4⟩ : S53)]) (wrap64 (x9 + 1)) x233000 x233001 x241000 x241001) else (none))) else (none)))) else (if x241001.length < 5864062014805 then (fencepostref08_Insert.l0 k x1 (wrap64 (x6 + ((rd_L3 x233001 x7).length : Int))) (wrap64 (x7 + 1)) x233000 x233001 x241000 (x241001 ++ [x8])) else (none))) else (none)) else (none)
end
def fencepostref08_Insert.f (k : Nat) (l0_0 : List Int) (l0_1 : List (List (S53))) (l1 : List Int) : Option (List Int × (List (List (S53)))) := (some (([] : List Int) : List Int)).bind fun y234 => (if y234.length + l0_0.length < 17592186044416 then (fencepostref08_Insert.l0 k l1 0 0 l0_0 l0_1 (y234 ++ l0_0) ([] : List (List (S53)))) else (none))
theorem fencepostref08_Insert.mono_l : ∀ k, (∀ y0 y1 y2 y3 y4 y5 y6, LeO (fencepostref08_Insert.l0 k y0 y1 y2 y3 y4 y5 y6) (fencepostref08_Insert.l0 (k + 1) y0 y1 y2 y3 y4 y5 y6)) ∧ (∀ y0 y1 y2 y3 y4 y5 y6 y7 y8, LeO (fencepostref08_Insert.l1 k y0 y1 y2 y3 y4 y5 y6 y7 y8) (fencepostref08_Insert.l1 (k + 1) y0 y1 y2 y3 y4 y5 y6 y7 y8))
 | 0 => ⟨fun _ _ _ _ _ _ _ r h => by simp [fencepostref08_Insert.l0] at h, fun _ _ _ _ _ _ _ _ _ r h => by simp [fencepostref08_Insert.l1] at h⟩
 | k + 1 => by
  obtain ⟨ih0, ih1⟩ := fencepostref08_Insert.mono_l k
  refine ⟨?_, ?_⟩
  ·intro y0 y1 y2 y3 y4 y5 y6
   unfold fencepostref08_Insert.l0
   repeat' first
   | (with_reducible exact ih0 _ _ _ _ _ _ _)
   | (with_reducible exact ih1 _ _ _ _ _ _ _ _ _)
   | (with_reducible exact fencepostref08_Count.mono _ _ _ _)
   | (with_reducible exact fencepostref08_Has.mono _ _ _)
   | (with_reducible exact LeO.refl _)
   | (with_reducible exact LeO.none _)
   | (with_reducible refine LeO.ite ?_ ?_)
   | (with_reducible refine LeO.bind ?_ (fun _ => ?_))
   | exact ih0 _ _ _ _ _ _ _
   | exact ih1 _ _ _ _ _ _ _ _ _
   | exact fencepostref08_Count.mono _ _ _ _
   | exact fencepostref08_Has.mono _ _ _
   | exact LeO.none _
   | refine LeO.ite ?_ ?_
   | refine LeO.bind ?_ (fun _ => ?_)
  ·intro y0 y1 y2 y3 y4 y5 y6 y7 y8
   unfold fencepostref08_Insert.l1
   repeat' first
   | (with_reducible exact ih0 _ _ _ _ _ _ _)
   | (with_reducible exact ih1 _ _ _ _ _ _ _ _ _)
   | (with_reducible exact fencepostref08_Count.mono _ _ _ _)
   | (with_reducible exact fencepostref08_Has.mono _ _ _)
   | (with_reducible exact LeO.refl _)
   | (with_reducible exact LeO.none _)
   | (with_reducible refine LeO.ite ?_ ?_)
   | (with_reducible refine LeO.bind ?_ (fun _ => ?_))
   | exact ih0 _ _ _ _ _ _ _
   | exact ih1 _ _ _ _ _ _ _ _ _
   | exact fencepostref08_Count.mono _ _ _ _
   | exact fencepostref08_Has.mono _ _ _
   | exact LeO.none _
   | refine LeO.ite ?_ ?_
   | refine LeO.bind ?_ (fun _ => ?_)
theorem fencepostref08_Insert.mono : ∀ a0 a1 a2 k, LeO (fencepostref08_Insert.f k a0 a1 a2) (fencepostref08_Insert.f (k + 1) a0 a1 a2) := by
 intro a0 a1 a2 k
 obtain ⟨ih0, ih1⟩ := fencepostref08_Insert.mono_l k
 unfold fencepostref08_Insert.f
 repeat' first
  | (with_reducible exact ih0 _ _ _ _ _ _ _)
  | (with_reducible exact ih1 _ _ _ _ _ _ _ _ _)
  | (with_reducible exact fencepostref08_Count.mono _ _ _ _)
  | (with_reducible exact fencepostref08_Has.mono _ _ _)
  | (with_reducible exact LeO.refl _)
  | (with_reducible exact LeO.none _)
  | (with_reducible refine LeO.ite ?_ ?_)
  | (with_reducible refine LeO.bind ?_ (fun _ => ?_))
  | exact ih0 _ _ _ _ _ _ _
  | exact ih1 _ _ _ _ _ _ _ _ _
  | exact fencepostref08_Count.mono _ _ _ _
  | exact fencepostref08_Has.mono _ _ _
  | exact LeO.none _
  | refine LeO.ite ?_ ?_
  | refine LeO.bind ?_ (fun _ => ?_)
def fencepostref08_Insert.T14 : Bool × List (List Nat × List Nat) := (true, [([], []), ([0], [0]), ([], []), ([], []), ([], []), ([4], [4]), ([2, 3, 5], [2, 3, 5]), ([1, 6], [1, 6]), ([0, 1, 2, 3, 4, 5, 6, 7], []), ([8, 7, 6, 0, 1, 2, 3, 4, 5, 6, 7], [7, 8])])
def fencepostref08_Insert.B14 : List Nat := [0, 1, 0, 0, 0, 16, 60, 127, 255, 511]
theorem fencepostref08_Insert.tab14 : rtab .any (opsOf Try.f23 14) = fencepostref08_Insert.T14 := by kernel_rfl
theorem fencepostref08_Insert.bits14 : waitsOk fencepostref08_Insert.T14.2 fencepostref08_Insert.B14 = true := by kernel_rfl
set_option maxHeartbeats 8000000 in
set_option maxRecDepth 100000 in
theorem fencepostref08_Insert.calls (k : Nat) (A0_0 : Option Addr) (c0_0 : Nat) (l0_0 : List Int) (A0_1 : Option Addr) (c0_1 : Nat) (l0_1 : List (List (S53))) (A1 : Option Addr) (c1 : Nat) (l1 : List Int) (r1 : List Int) (r2 : List (List (S53))) (w : World) (hr0_0 : Kd.C (Kd.int .i64) w A0_0 l0_0.length l0_0) (hc0_0 : l0_0.length ≤ c0_0) (hr0_1 : Kd.C (Kd.slice 53 k53) w A0_1 l0_1.length l0_1) (hc0_1 : l0_1.length ≤ c0_1) (hr1 : Kd.C (Kd.int .i64) w A1 l1.length l1) (hc1 : l1.length ≤ c1) (h : fencepostref08_Insert.f k l0_0 l0_1 l1 = some (r1, r2)) :
 Calls Try.prog 23 #[.agg #[.slice A0_0 l0_0.length c0_0, .slice A0_1 l0_1.length c0_1], .slice A1 l1.length c1] w fun e w' => ∃ v0_ v1_ : Value, e = .returned (.agg #[v0_, v1_]) ∧ Kd.R (Kd.int .i64) 3 w' w.heap.size (fun _ => True) v0_ r1 ∧ Kd.S (Kd.slice 53 k53) 50 w' w.heap.size (fun _ => True) v1_ r2 ∧ Below w.heap.size w w' := by
 have hu25 := Try.underlying25
 have hu53 := Try.underlying53
 have HR0_0 := Aside0.mk hr0_0
 have HC0_0 := Aside0.mk hc0_0
 clear hr0_0 hc0_0
 have HR0_1 := Aside0.mk hr0_1
 have HC0_1 := Aside0.mk hc0_1
 clear hr0_1 hc0_1
 have HR1 := Aside0.mk hr1
 have HC1 := Aside0.mk hc1
 clear hr1 hc1
 have HB := Aside0.mk (Below.refl w.heap.size w)
 have H : ((some (([] : List Int) : List Int)).bind fun y234 => (if y234.length + l0_0.length < 17592186044416 then (fencepostref08_Insert.l0 k l1 0 0 l0_0 l0_1 (y234 ++ l0_0) ([] : List (List (S53)))) else (none))) = some (r1, r2) := h
 clear h
 obtain ⟨y234, hy234⟩ : ∃ y_ : List Int, y_ = (([] : List Int)) := ⟨_, rfl⟩
 replace H : (if y234.length + l0_0.length < 17592186044416 then (fencepostref08_Insert.l0 k l1 0 0 l0_0 l0_1 (y234 ++ l0_0) ([] : List (List (S53)))) else (none)) = some (r1, r2) := by first | (rw [hy234]; with_reducible exact H) | (have H2_ := (Option.bind_some _ _).symm.trans H; rw [hy234]; with_reducible exact H2_) | (have H2_ := (Option.bind_some _ _).symm.trans H; with_reducible exact H2_) | with_reducible exact H | (rw [hy234]; exact H) | exact H
 have Ny234 := Aside0.mk hy234
 clear hy234
 by_cases c3 : y234.length + l0_0.length < 17592186044416
 rotate_left
 ·rw [if_neg c3] at H
  exact absurd H (by simp)
 rw [if_pos c3] at H
 have LMc3 := Aside0.mk c3
 clear c3
 obtain ⟨y237, hy237⟩ : ∃ y_ : List Int, y_ = (y234 ++ l0_0) := ⟨_, rfl⟩
 replace H : (fencepostref08_Insert.l0 k l1 0 0 l0_0 l0_1 y237 ([] : List (List (S53)))) = some (r1, r2) := by first | (rw [hy237]; with_reducible exact H) | (have H2_ := (Option.bind_some _ _).symm.trans H; rw [hy237]; with_reducible exact H2_) | (have H2_ := (Option.bind_some _ _).symm.trans H; with_reducible exact H2_) | with_reducible exact H | (rw [hy237]; exact H) | exact H
 have Ny237 := Aside0.mk hy237
 clear hy237
 have H' := Aside0.mk H
 clear H
 go_enter Try.func23, Try.ntmps23
 (try simp only [List.append_eq, List.cons_append, List.nil_append])
 go_wp2_with (first | ((with_reducible refine gate_dst (N := 2) rfl ?_); refine box_event ?hg (N := 2) ?hd (cs := #[.slice A0_0 l0_0.length c0_0, .slice A0_1 l0_1.length c0_1]) (t := 25) ?hr ?_; (case hd => rfl); (case hg => rfl); (case hr => first | (go_simp; done) | (go_simp; rfl)); intro gb232 hg w4 hbox hb; have n0_ := Aside0.mk (below_step (hb_ HB.out) hb); have n1_ := Aside0.mk (hbox); have n2_ := Aside0.mk (gs_ hg (hb_ HB.out)); have n3_ := Aside0.mk (gs_ hg (hb_ HB.out)); clear HB; have HB := n0_; have BK232 := n1_; have GW232 := n2_; have GE232 := n3_; clear n0_ n1_ n2_ n3_; clear hb hbox hg) | ((with_reducible refine gate_dst (N := 4) rfl ?_); refine box_event ?hg (N := 4) ?hd (cs := #[.slice none 0 0, .slice none 0 0]) (t := 25) ?hr ?_; (case hd => rfl); (case hg => rfl); (case hr => first | (go_simp; done) | (go_simp; rfl)); intro gb233 hg w5 hbox hb; have n0_ := Aside0.mk (bb_ BK232.out hb); have n1_ := Aside0.mk (below_step (hb_ HB.out) hb); have n2_ := Aside0.mk (hbox); have n3_ := Aside0.mk (gs_ hg (hb_ HB.out)); have n4_ := Aside0.mk (gs_ hg (hb_ HB.out)); have n5_ := Aside0.mk (gn_ hg BK232.out); have n6_ := Aside0.mk (gn_ hg BK232.out).symm; clear BK232; clear HB; have BK232 := n0_; have HB := n1_; have BK233 := n2_; have GW233 := n3_; have GE233 := n4_; have NB232_233 := n5_; have NB233_232 := n6_; clear n0_ n1_ n2_ n3_ n4_ n5_ n6_; clear hb hbox hg) | ((with_reducible refine gate_dst (N := 11) rfl ?_); refine Kd.R_lit (Kd.int .i64) _ 3 ?hg (N := 11) ?hd (xs := ([] : List Int)) (inner := []) (ok := fun _ => True) (okp := fun _ => True) ?hr ?hp (fun _ hk => hk) trivial (Below.refl _ _) (Nat.le_refl _) (by simp) ?_; (case hd => rfl); (case hg => rfl); (case hr => first | (go_simp; done) | (go_simp; rfl)); (case hp => exact (Reps.none _ _)); intro v235 w6 ho7 hb hg_ hnew_; clear hg_ hnew_; (first | rw [← Ny234.out] at ho7 | (simp only [Int.reduceToNat] at ho7; rw [← Ny234.out] at ho7)); have n0_ := Aside0.mk (Kd.R_lower ho7 (below_size (hb_ HB.out))); have n1_ := Aside0.mk (bb_ BK232.out hb); have n2_ := Aside0.mk (bb_ BK233.out hb); have n3_ := Aside0.mk (below_step (hb_ HB.out) hb); clear BK232; clear BK233; clear HB; have HO236 := n0_; have BK232 := n1_; have BK233 := n2_; have HB := n3_; clear n0_ n1_ n2_ n3_; clear hb ho7; have hnb8 := NB232_233.out; have hnc8 := NB233_232.out; have hcz9_0 : w6.cell? ⟨gb232, 0, none⟩ = some (.slice A0_0 l0_0.length c0_0) := (blk_cell BK232.out 0).trans rfl; have hcz9_1 : w6.cell? ⟨gb232, 1, none⟩ = some (.slice A0_1 l0_1.length c0_1) := (blk_cell BK232.out 1).trans rfl; have hfz9_0 := blk_frozen BK232.out 0; have hfz9_1 := blk_frozen BK232.out 1) | ((with_reducible refine gate_builtin (b := .append) (xs := #[.tmp 11, .tmp 13]) rfl ?_); at_builtin; refine Kd.R_append_rows (Kd.int .i64) (w0 := w) w.heap.size rfl (.tmp 11) (.tmp 13) 22 3 (.int .i64 0) 8 rfl Try.underlying22 info3 rfl (by decide) (by omega) v235 y234 l0_0 _ _ _ (fun _ => True) (fun _ => False) rfl rfl ?aO ?aR (fun _ _ h => h) (fun _ h => h.elim) ?aF ?aB ?aS ?aL ?_; (case aR => repeat (first | exact (Kd.C_below HR0_0.out HB.out) | (with_reducible refine Kd.C_alloc ?_ _) | (with_reducible refine Kd.C_drewN ?_ _) | (with_reducible refine Kd.C_drew ?_))); (case aB => exact (hb_ HB.out)); (case aF => exact (fun _ _ => trivial)); (case aO => exact (rd_ HO236.out)); (case aS => exact (below_size (hb_ HB.out))); (case aL => have := LMc3.out; omega); intro v238 w10 ho hb hg hat; rw [← Ny237.out] at ho; have n0_ := Aside0.mk (blk_grown (g := gb232) (o := .cells #[.slice A0_0 l0_0.length c0_0, .slice A0_1 l0_1.length c0_1] 25 (0, 0)) (bd_ BK232.out) hg (Kd.R_ne HO236.out BK232.out (by decide))); have n1_ := Aside0.mk (blk_grown (g := gb233) (o := .cells #[.slice none 0 0, .slice none 0 0] 25 (0, 0)) (bd_ BK233.out) hg (Kd.R_ne HO236.out BK233.out (by decide))); have n2_ := Aside0.mk (hb); have n3_ := Aside0.mk (ho); clear BK232; clear BK233; clear HB; clear HO236; have BK232 := n0_; have BK233 := n1_; have HB := n2_; have HO239 := n3_; clear n0_ n1_ n2_ n3_; clear ho hb hg hat; obtain ⟨Ao11, co11, eo11⟩ := Kd.R_slice HO239.out; subst eo11) | ((with_reducible refine gate_dst (N := 5) rfl ?_); refine box_event ?hg (N := 5) ?hd (cs := #[.slice none 0 0, .slice none 0 0]) (t := 25) ?hr ?_; (case hd => rfl); (case hg => rfl); (case hr => first | (go_simp; done) | (go_simp; rfl)); intro gb240 hg w12 hbox hb; have n0_ := Aside0.mk (Kd.R_below (rd_ HO239.out) hb); have n1_ := Aside0.mk (bb_ BK232.out hb); have n2_ := Aside0.mk (bb_ BK233.out hb); have n3_ := Aside0.mk (below_step (hb_ HB.out) hb); have n4_ := Aside0.mk (hbox); have n5_ := Aside0.mk (gs_ hg (hb_ HB.out)); have n6_ := Aside0.mk (gs_ hg (hb_ HB.out)); have n7_ := Aside0.mk (gn_ hg BK232.out); have n8_ := Aside0.mk (gn_ hg BK232.out).symm; have n9_ := Aside0.mk (gn_ hg BK233.out); have n10_ := Aside0.mk (gn_ hg BK233.out).symm; clear HO239; clear BK232; clear BK233; clear HB; have HO239 := n0_; have BK232 := n1_; have BK233 := n2_; have HB := n3_; have BK240 := n4_; have GW240 := n5_; have GE240 := n6_; have NB232_240 := n7_; have NB240_232 := n8_; have NB233_240 := n9_; have NB240_233 := n10_; clear n0_ n1_ n2_ n3_ n4_ n5_ n6_ n7_ n8_ n9_ n10_; clear hb hbox hg; have hnb13 := NB240_232.out; have hnc13 := NB232_240.out; have hnb14 := NB240_233.out; have hnc14 := NB233_240.out; have hcz15_0 : w12.cell? ⟨gb240, 0, none⟩ = some (.slice none 0 0) := (blk_cell BK240.out 0).trans rfl; have hcz15_1 : w12.cell? ⟨gb240, 1, none⟩ = some (.slice none 0 0) := (blk_cell BK240.out 1).trans rfl; have hfz15_0 := blk_frozen BK240.out 0; have hfz15_1 := blk_frozen BK240.out 1))
 go_loopg [6, 7] k (fun kq v6 v7 w' => ∃ (x6_1 : Int) (x7_1 : Int) (x241001_1 : List (List (S53))) (u241001 : Value), v6 = .int .i64 x6_1 ∧ v7 = .int .i64 x7_1 ∧ Aside0 (fencepostref08_Insert.l0 kq l1 x6_1 x7_1 l0_0 l0_1 y237 x241001_1 = some (r1, r2)) ∧ Aside0 (kq ≤ k) ∧ Aside0 (Kd.R (Kd.int .i64) 3 w' w.heap.size (fun _ => True) (.slice Ao11 y237.length co11) y237) ∧ Aside0 (Kd.S (Kd.slice 53 k53) 50 w' w.heap.size (fun _ => True) u241001 x241001_1) ∧ Aside0 (w'.heap[gb232]? = some (.cells #[(.slice A0_0 l0_0.length c0_0), (.slice A0_1 l0_1.length c0_1)] 25 (0, 0))) ∧ Aside0 (w'.heap[gb233]? = some (.cells #[(.slice none 0 0), (.slice none 0 0)] 25 (0, 0))) ∧ Aside0 (w'.heap[gb240]? = some (.cells #[(.slice Ao11 y237.length co11), u241001] 25 (0, 0))) ∧ Aside0 (Below w.heap.size w w'))
 case atStart => exact ⟨(0), (0), (([] : List (List (S53)))), (.slice none 0 0), rf_, rf_, H', ⟨Nat.le_refl _⟩, ⟨by (with_reducible repeat (first | apply Kd.R_alloc | apply Kd.R_drewN | apply Kd.R_drew)); exact Kd.R_mono (Kd.R_far (p := ⟨gb240, 1, none⟩) (Kd.R_far (p := ⟨gb240, 0, none⟩) (Kd.R_types HO239.out BK240.out (by decide)) (fun _ hk => hk.2) (.slice Ao11 y237.length co11)) (fun _ hk => hk.2) (.slice none 0 0)) (fun _ hk => trivial)⟩, ⟨by first | exact Kd.S_nil _ _ _ _ _ | exact Kd.N_nil _ _ _ _ _ | exact Kd.V_nil _ _ _ _ _ | exact Kd.Q_nil _ _ _ _ _ | exact Kd.R_nil _ _ _ _ _⟩, ⟨by (with_reducible repeat (first | refine blk_drewN ?_ _ | refine blk_drew ?_ | refine blk_alloc ?_ _)); refine blk_far ?_ NB232_240.out _; (with_reducible repeat (first | refine blk_drewN ?_ _ | refine blk_drew ?_ | refine blk_alloc ?_ _)); refine blk_far ?_ NB232_240.out _; (with_reducible repeat (first | refine blk_drewN ?_ _ | refine blk_drew ?_ | refine blk_alloc ?_ _)); exact BK232.out⟩, ⟨by (with_reducible repeat (first | refine blk_drewN ?_ _ | refine blk_drew ?_ | refine blk_alloc ?_ _)); refine blk_far ?_ NB233_240.out _; (with_reducible repeat (first | refine blk_drewN ?_ _ | refine blk_drew ?_ | refine blk_alloc ?_ _)); refine blk_far ?_ NB233_240.out _; (with_reducible repeat (first | refine blk_drewN ?_ _ | refine blk_drew ?_ | refine blk_alloc ?_ _)); exact BK233.out⟩, ⟨by (with_reducible repeat (first | refine blk_drewN ?_ _ | refine blk_drew ?_ | refine blk_alloc ?_ _)); refine blk_put (cs := #[.slice Ao11 y237.length co11, .slice none 0 0]) ?_ 1 _ rfl; (with_reducible repeat (first | refine blk_drewN ?_ _ | refine blk_drew ?_ | refine blk_alloc ?_ _)); refine blk_put (cs := #[.slice none 0 0, .slice none 0 0]) ?_ 0 _ rfl; (with_reducible repeat (first | refine blk_drewN ?_ _ | refine blk_drew ?_ | refine blk_alloc ?_ _)); exact BK240.out⟩, ⟨hb_ HB.out⟩⟩
 clear H'
 try clear c1
 try clear c3
 try clear hcz15_0
 try clear hcz15_1
 try clear hcz9_0
 try clear hcz9_1
 try clear hfz15_0
 try clear hfz15_1
 try clear hfz9_0
 try clear hfz9_1
 obtain ⟨x6_1, x7_1, x241001_1, u241001, rfl, rfl, HA, HK1, HO_241000, HO_241001, BK232, BK233, BK240, HB⟩ := hrel
 cases gk with
 | zero => exact absurd HA.out (by simp [fencepostref08_Insert.l0])
 | succ k1 => ?_
 have H := HA.out
 clear HA
 simp only [fencepostref08_Insert.l0] at H
 by_cases c16 : x7_1 < (l0_1.length : Int)
 rotate_left
 ·rw [if_neg c16] at H
  have c16b0 : decide (x7_1 < (l0_1.length : Int)) = false := decide_eq_false c16
  clear c16
  simp only [Option.some.injEq, Prod.mk.injEq] at H
  obtain ⟨rfl, rfl⟩ := H
  have hnb95 := NB232_233.out
  have hnc95 := NB233_232.out
  have hnb96 := NB232_240.out
  have hnc96 := NB240_232.out
  have hcz97_0 : wr.cell? ⟨gb232, 0, none⟩ = some (.slice A0_0 l0_0.length c0_0) := (blk_cell BK232.out 0).trans rfl
  have hcz97_1 : wr.cell? ⟨gb232, 1, none⟩ = some (.slice A0_1 l0_1.length c0_1) := (blk_cell BK232.out 1).trans rfl
  have hfz97_0 := blk_frozen BK232.out 0
  have hfz97_1 := blk_frozen BK232.out 1
  have hnb98 := NB240_233.out
  have hnc98 := NB233_240.out
  have hcz99_0 : wr.cell? ⟨gb240, 0, none⟩ = some (.slice Ao11 y237.length co11) := (blk_cell BK240.out 0).trans rfl
  have hcz99_1 : wr.cell? ⟨gb240, 1, none⟩ = some (u241001) := (blk_cell BK240.out 1).trans rfl
  have hfz99_0 := blk_frozen BK240.out 0
  have hfz99_1 := blk_frozen BK240.out 1
  have hcz100_0 : wr.cell? ⟨gb233, 0, none⟩ = some (.slice none 0 0) := (blk_cell BK233.out 0).trans rfl
  have hcz100_1 : wr.cell? ⟨gb233, 1, none⟩ = some (.slice none 0 0) := (blk_cell BK233.out 1).trans rfl
  have hfz100_0 := blk_frozen BK233.out 0
  have hfz100_1 := blk_frozen BK233.out 1
  obtain ⟨Ao101, co101, eo101⟩ := Kd.S_slice HO_241001.out
  subst eo101
  go_wp2
  refine bodyPost_ret (results_cell_row rfl _ _ gb233 25 #[.slice Ao11 y237.length co11, .slice Ao101 x241001_1.length co101] (0, 0) _ rfl (by (with_reducible repeat (first | refine blk_drewN ?_ _ | refine blk_drew ?_ | refine blk_alloc ?_ _)); refine blk_put (cs := #[.slice Ao11 y237.length co11, .slice none 0 0]) ?_ 1 _ rfl; (with_reducible repeat (first | refine blk_drewN ?_ _ | refine blk_drew ?_ | refine blk_alloc ?_ _)); refine blk_put (cs := #[.slice none 0 0, .slice none 0 0]) ?_ 0 _ rfl; (with_reducible repeat (first | refine blk_drewN ?_ _ | refine blk_drew ?_ | refine blk_alloc ?_ _)); exact BK233.out) Try.underlying25 rfl (by kernel_rfl)) rfl ?_
  exact ⟨_, _, by first | rfl | (simp [errW_none, errW_some] <;> rfl) | (simp [*, errW_none, errW_some] <;> rfl), by (with_reducible repeat (first | apply Kd.R_alloc | apply Kd.R_drewN | apply Kd.R_drew)); exact Kd.R_mono (Kd.R_far (p := ⟨gb233, 1, none⟩) (Kd.R_far (p := ⟨gb233, 0, none⟩) (Kd.R_types HO_241000.out BK233.out (by decide)) (fun _ hk => hk.2) (.slice Ao11 y237.length co11)) (fun _ hk => hk.2) (.slice Ao101 x241001_1.length co101)) (fun _ hk => trivial), by (with_reducible repeat (first | apply Kd.S_alloc | apply Kd.S_drewN | apply Kd.S_drew)); exact Kd.S_mono (Kd.S_far (p := ⟨gb233, 1, none⟩) (Kd.S_far (p := ⟨gb233, 0, none⟩) (Kd.S_types HO_241001.out BK233.out (by decide)) (fun _ hk => hk.2) (.slice Ao11 y237.length co11)) (fun _ hk => hk.2) (.slice Ao101 x241001_1.length co101)) (fun _ hk => trivial), hb_ HB.out⟩
 rw [if_pos c16] at H
 have c16b0 : decide (x7_1 < (l0_1.length : Int)) = true := decide_eq_true c16
 clear c16
 have H' := Aside0.mk H
 clear H
 have hnb17 := NB232_233.out
 have hnc17 := NB233_232.out
 have hnb18 := NB232_240.out
 have hnc18 := NB240_232.out
 have hcz19_0 : wr.cell? ⟨gb232, 0, none⟩ = some (.slice A0_0 l0_0.length c0_0) := (blk_cell BK232.out 0).trans rfl
 have hcz19_1 : wr.cell? ⟨gb232, 1, none⟩ = some (.slice A0_1 l0_1.length c0_1) := (blk_cell BK232.out 1).trans rfl
 have hfz19_0 := blk_frozen BK232.out 0
 have hfz19_1 := blk_frozen BK232.out 1
 go_wp2
 go_loopg [8, 9] k1 (fun kq v8 v9 w' => ∃ (x8_2 : List (S53)) (x9_2 : Int), v9 = .int .i64 x9_2 ∧ Aside0 (fencepostref08_Insert.l1 kq l1 x6_1 x7_1 x8_2 x9_2 l0_0 l0_1 y237 x241001_1 = some (r1, r2)) ∧ Aside0 (kq ≤ k1) ∧ Aside0 (Kd.R k53 53 w' w.heap.size (fun _ => True) v8 x8_2) ∧ Aside0 (Kd.R (Kd.int .i64) 3 w' w.heap.size (fun _ => True) (.slice Ao11 y237.length co11) y237) ∧ Aside0 (Kd.S (Kd.slice 53 k53) 50 w' w.heap.size (fun k_ => some k_ ≠ (v8 : Value).ownBlock) u241001 x241001_1) ∧ Aside0 (w'.heap[gb232]? = some (.cells #[(.slice A0_0 l0_0.length c0_0), (.slice A0_1 l0_1.length c0_1)] 25 (0, 0))) ∧ Aside0 (w'.heap[gb233]? = some (.cells #[(.slice none 0 0), (.slice none 0 0)] 25 (0, 0))) ∧ Aside0 (w'.heap[gb240]? = some (.cells #[(.slice Ao11 y237.length co11), u241001] 25 (0, 0))) ∧ Aside0 (Below w.heap.size w w'))
 case atStart => exact ⟨(([] : List (S53))), (0), rf_, H', ⟨Nat.le_refl _⟩, ⟨by first | exact Kd.R_nil _ _ _ _ _ | exact Kd.N_nil _ _ _ _ _ | exact Kd.V_nil _ _ _ _ _ | exact Kd.Q_nil _ _ _ _ _ | exact Kd.S_nil _ _ _ _ _⟩, ⟨rd_ HO_241000.out⟩, ⟨by (with_reducible repeat (first | apply Kd.S_alloc | apply Kd.S_drewN | apply Kd.S_drew)); exact Kd.S_mono HO_241001.out (fun _ hk => (by simp [Value.ownBlock]))⟩, ⟨bd_ BK232.out⟩, ⟨bd_ BK233.out⟩, ⟨bd_ BK240.out⟩, ⟨hb_ HB.out⟩⟩
 clear H'
 try clear c1
 try clear c3
 try clear c16
 try clear c16b0
 try clear hcz15_0
 try clear hcz15_1
 try clear hcz19_0
 try clear hcz19_1
 try clear hcz9_0
 try clear hcz9_1
 try clear hfz15_0
 try clear hfz15_1
 try clear hfz19_0
 try clear hfz19_1
 try clear hfz9_0
 try clear hfz9_1
 obtain ⟨x8_2, x9_2, rfl, HA, HK2, HO_8, HO_241000, HO_241001, BK232, BK233, BK240, HB⟩ := hrel
 cases gk with
 | zero => exact absurd HA.out (by simp [fencepostref08_Insert.l1])
 | succ k2 => ?_
 have H := HA.out
 clear HA
 simp only [fencepostref08_Insert.l1] at H
 by_cases c20 : 0 ≤ x7_1
 rotate_left
 ·rw [if_neg c20] at H
  exact absurd H (by simp)
 rw [if_pos c20] at H
 have c20b0 : decide (0 ≤ x7_1) = true := decide_eq_true c20
 clear c20
 by_cases c21 : x7_1 < (l0_1.length : Int)
 rotate_left
 ·rw [if_neg c21] at H
  exact absurd H (by simp)
 rw [if_pos c21] at H
 have c21b0 : decide (x7_1 < (l0_1.length : Int)) = true := decide_eq_true c21
 clear c21
 by_cases c22 : x9_2 < ((rd_L3 l0_1 x7_1).length : Int)
 rotate_left
 ·rw [if_neg c22] at H
  have c22b0 : decide (x9_2 < ((rd_L3 l0_1 x7_1).length : Int)) = false := decide_eq_false c22
  clear c22
  by_cases c84 : x241001_1.length < 5864062014805
  rotate_left
  ·rw [if_neg c84] at H
   exact absurd H (by simp)
  rw [if_pos c84] at H
  have LMc84 := Aside0.mk c84
  clear c84
  obtain ⟨y242, hy242⟩ : ∃ y_ : List (List (S53)), y_ = (x241001_1 ++ [x8_2]) := ⟨_, rfl⟩
  replace H : (fencepostref08_Insert.l0 k2 l1 (wrap64 (x6_1 + ((rd_L3 l0_1 x7_1).length : Int))) (wrap64 (x7_1 + 1)) l0_0 l0_1 y237 y242) = some (r1, r2) := by first | (rw [hy242]; with_reducible exact H) | (have H2_ := (Option.bind_some _ _).symm.trans H; rw [hy242]; with_reducible exact H2_) | (have H2_ := (Option.bind_some _ _).symm.trans H; with_reducible exact H2_) | with_reducible exact H | (rw [hy242]; exact H) | exact H
  have Ny242 := Aside0.mk hy242
  clear hy242
  have H' := Aside0.mk H
  clear H
  have hnb85 := NB232_233.out
  have hnc85 := NB233_232.out
  have hnb86 := NB232_240.out
  have hnc86 := NB240_232.out
  have hcz87_0 : wr.cell? ⟨gb232, 0, none⟩ = some (.slice A0_0 l0_0.length c0_0) := (blk_cell BK232.out 0).trans rfl
  have hcz87_1 : wr.cell? ⟨gb232, 1, none⟩ = some (.slice A0_1 l0_1.length c0_1) := (blk_cell BK232.out 1).trans rfl
  have hfz87_0 := blk_frozen BK232.out 0
  have hfz87_1 := blk_frozen BK232.out 1
  have p241 : 0 ≤ (x7_1 : Int) := of_decide_eq_true as_
  have q241 : x7_1 < (l0_1.length : Int) := of_decide_eq_true as_
  obtain ⟨ad241, A241_0, c241_0, e241, hx241_0, hl241_0, hi241_0⟩ := at_L3 HR0_1.out x7_1 p241 q241
  cases e241
  have hzx241_0 := Aside0.mk hx241_0; replace hx241_0 := cl_ HB.out hx241_0
  have HR241_0 := Aside0.mk hi241_0
  have HC241_0 := Aside0.mk hl241_0
  clear hi241_0 hl241_0
  replace p241 := eq_true p241
  replace q241 := eq_true q241
  have hnb88 := NB240_233.out
  have hnc88 := NB233_240.out
  have hcz89_0 : wr.cell? ⟨gb240, 0, none⟩ = some (.slice Ao11 y237.length co11) := (blk_cell BK240.out 0).trans rfl
  have hcz89_1 : wr.cell? ⟨gb240, 1, none⟩ = some (u241001) := (blk_cell BK240.out 1).trans rfl
  have hfz89_0 := blk_frozen BK240.out 0
  have hfz89_1 := blk_frozen BK240.out 1
  obtain ⟨Ao91, co91, eo91⟩ := Kd.R_slice HO_8.out
  subst eo91
  go_wp2_with (first | ((with_reducible refine gate_builtin (b := .append) (xs := #[.tmp 67, .tmp 69]) rfl ?_); at_builtin; refine Kd.S_append (Kd.slice 53 k53) (w0 := w) w.heap.size rfl (.tmp 67) (.tmp 69) 23 50 (.slice none 0 0) 24 rfl Try.underlying23 info50 rfl (by decide) (by omega) u241001 x241001_1 x8_2 [.slice Ao91 x8_2.length co91] (fun _ => True) (fun k_ => some k_ = (.slice Ao91 x8_2.length co91 : Value).ownBlock) rfl rfl ?aP (fun k_ hk_ => ((Kd.R_mono (ok' := fun k_ => ((fun _ => True)) k_ ∧ some k_ ≠ (u241001 : Value).ownBlock) (Kd.R_apart' (HO_8.out) (Kd.S_typed HO_241001.out) (by decide)) (fun k_ hk => ⟨trivial, hk.2⟩))).1 k_ hk_.symm) ?aF ?aO ?aB ?aS ?aL ?_; (case aP => exact Kd.M_row (Kd.R_mono (Kd.R_tight rfl (Kd.R_mono (ok' := fun k_ => ((fun _ => True)) k_ ∧ some k_ ≠ (u241001 : Value).ownBlock) (Kd.R_apart' (HO_8.out) (Kd.S_typed HO_241001.out) (by decide)) (fun k_ hk => ⟨trivial, hk.2⟩))) (fun _ h_ => h_))); (case aB => exact (hb_ HB.out)); (case aF => exact (fun _ _ => trivial)); (case aO => exact (by (with_reducible repeat (first | apply Kd.S_alloc | apply Kd.S_drewN | apply Kd.S_drew)); exact Kd.S_mono HO_241001.out (fun k_ hk => ⟨trivial, fun e_ => hk e_⟩))); (case aS => exact (below_size (hb_ HB.out))); (case aL => have := LMc84.out; omega); intro v243 w90 ho hb hg hat; rw [← Ny242.out] at ho; have n0_ := Aside0.mk (Kd.R_over' (rd_ HO_241000.out) (Kd.S_typed (sd_ HO_241001.out)) (by decide) hg); have n1_ := Aside0.mk (blk_grown (g := gb232) (o := .cells #[.slice A0_0 l0_0.length c0_0, .slice (some ad241) l0_1.length c0_1] 25 (0, 0)) (bd_ BK232.out) hg (Kd.S_ne HO_241001.out BK232.out (by decide))); have n2_ := Aside0.mk (blk_grown (g := gb233) (o := .cells #[.slice none 0 0, .slice none 0 0] 25 (0, 0)) (bd_ BK233.out) hg (Kd.S_ne HO_241001.out BK233.out (by decide))); have n3_ := Aside0.mk (blk_grown (g := gb240) (o := .cells #[.slice Ao11 y237.length co11, u241001] 25 (0, 0)) (bd_ BK240.out) hg (Kd.S_ne HO_241001.out BK240.out (by decide))); have n4_ := Aside0.mk (hb); have n5_ := Aside0.mk (ho); clear HO_241000; clear BK232; clear BK233; clear BK240; clear HB; clear HO_241001; clear HO_8; have HO_241000 := n0_; have BK232 := n1_; have BK233 := n2_; have BK240 := n3_; have HB := n4_; have HO244 := n5_; clear n0_ n1_ n2_ n3_ n4_ n5_; clear ho hb hg hat; obtain ⟨Ao92, co92, eo92⟩ := Kd.S_slice HO244.out; subst eo92; have hcz93_0 : w90.cell? ⟨gb240, 0, none⟩ = some (.slice Ao11 y237.length co11) := (blk_cell BK240.out 0).trans rfl; have hcz93_1 : w90.cell? ⟨gb240, 1, none⟩ = some (u241001) := (blk_cell BK240.out 1).trans rfl; have hfz93_0 := blk_frozen BK240.out 0; have hfz93_1 := blk_frozen BK240.out 1; have hcz94_0 : w90.cell? ⟨gb232, 0, none⟩ = some (.slice A0_0 l0_0.length c0_0) := (blk_cell BK232.out 0).trans rfl; have hcz94_1 : w90.cell? ⟨gb232, 1, none⟩ = some (.slice (some ad241) l0_1.length c0_1) := (blk_cell BK232.out 1).trans rfl; have hfz94_0 := blk_frozen BK232.out 0; have hfz94_1 := blk_frozen BK232.out 1; have p245 : 0 ≤ (x7_1 : Int) := of_decide_eq_true as_; have q245 : x7_1 < (l0_1.length : Int) := of_decide_eq_true as_; obtain ⟨ad245, A245_0, c245_0, e245, hx245_0, hl245_0, hi245_0⟩ := at_L3 HR0_1.out x7_1 p245 q245; obtain rfl : ad241 = ad245 := (by injection e245); have hn245_0 : ad241.block ≠ gb240 := Nat.ne_of_lt (bk_ hx245_0 GW240.out); have hzx245_0 := Aside0.mk hx245_0; replace hx245_0 := cl_ HB.out hx245_0; have HR245_0 := Aside0.mk hi245_0; have HC245_0 := Aside0.mk hl245_0; clear hi245_0 hl245_0; replace hx245_0 := (cell_far (p := ⟨gb240, 1, none⟩) (by first | (rw [add_block]; exact hn245_0) | (show (Addr.add _ _).block ≠ _; rw [add_block]; exact hn245_0) | exact hn245_0) (.slice Ao92 y242.length co92)).trans hx245_0; clear hn245_0; replace p245 := eq_true p245; replace q245 := eq_true q245))
  go_roundg k2
  case measure => have := HK1.out; have := HK2.out; omega
  case rel => exact ⟨(wrap64 (x6_1 + ((rd_L3 l0_1 x7_1).length : Int))), (wrap64 (x7_1 + 1)), (y242), (.slice Ao92 y242.length co92), rf_, rf_, H', ⟨by have := HK1.out; have := HK2.out; omega⟩, ⟨by (with_reducible repeat (first | apply Kd.R_alloc | apply Kd.R_drewN | apply Kd.R_drew)); exact Kd.R_mono (Kd.R_far (p := ⟨gb240, 1, none⟩) (Kd.R_types HO_241000.out BK240.out (by decide)) (fun _ hk => hk.2) (.slice Ao92 y242.length co92)) (fun _ hk => trivial)⟩, ⟨by (with_reducible repeat (first | apply Kd.S_alloc | apply Kd.S_drewN | apply Kd.S_drew)); exact Kd.S_mono (Kd.S_far (p := ⟨gb240, 1, none⟩) (Kd.S_types HO244.out BK240.out (by decide)) (fun _ hk => hk.2) (.slice Ao92 y242.length co92)) (fun _ hk => trivial)⟩, ⟨by (with_reducible repeat (first | refine blk_drewN ?_ _ | refine blk_drew ?_ | refine blk_alloc ?_ _)); refine blk_far ?_ NB232_240.out _; (with_reducible repeat (first | refine blk_drewN ?_ _ | refine blk_drew ?_ | refine blk_alloc ?_ _)); exact BK232.out⟩, ⟨by (with_reducible repeat (first | refine blk_drewN ?_ _ | refine blk_drew ?_ | refine blk_alloc ?_ _)); refine blk_far ?_ NB233_240.out _; (with_reducible repeat (first | refine blk_drewN ?_ _ | refine blk_drew ?_ | refine blk_alloc ?_ _)); exact BK233.out⟩, ⟨by (with_reducible repeat (first | refine blk_drewN ?_ _ | refine blk_drew ?_ | refine blk_alloc ?_ _)); refine blk_put (cs := #[.slice Ao11 y237.length co11, u241001]) ?_ 1 _ rfl; (with_reducible repeat (first | refine blk_drewN ?_ _ | refine blk_drew ?_ | refine blk_alloc ?_ _)); exact BK240.out⟩, ⟨hb_ HB.out⟩⟩
 rw [if_pos c22] at H
 have c22b0 : decide (x9_2 < ((rd_L3 l0_1 x7_1).length : Int)) = true := decide_eq_true c22
 clear c22
 replace H := Option.bind_eq_some_iff.mp H
 obtain ⟨t246, A230, H⟩ := H
 replace H : (if t246 = true then (if x8_2.length < 3518437208883 then ((some (x8_2 ++ [(⟨6, 0, 0, 0, 0⟩ : S53)] : List (S53))).bind fun y247 => (if 0 ≤ x9_2 then (if ((rd_T53 (rd_L3 l0_1 x7_1) x9_2).f0) ≥ 8 then ((fencepostref08_Count.f k2 l1 x6_1 ((rd_T53 (rd_L3 l0_1 x7_1) x9_2).f4)).bind fun t253 => (if y247.length < 3518437208883 then (fencepostref08_Insert.l1 k2 l1 x6_1 x7_1 (y247 ++ [(⟨(rd_T53 (rd_L3 l0_1 x7_1) x9_2).f0, (rd_T53 (rd_L3 l0_1 x7_1) x9_2).f1, (rd_T53 (rd_L3 l0_1 x7_1) x9_2).f2, (rd_T53 (rd_L3 l0_1 x7_1) x9_2).f3, wrap64 (((rd_T53 (rd_L3 l0_1 x7_1) x9_2).f4) + t253)⟩ : S53)]) (wrap64 (x9_2 + 1)) l0_0 l0_1 y237 x241001_1) else (none))) else (if y247.length < 3518437208883 then (fencepostref08_Insert.l1 k2 l1 x6_1 x7_1 (y247 ++ [(⟨(rd_T53 (rd_L3 l0_1 x7_1) x9_2).f0, (rd_T53 (rd_L3 l0_1 x7_1) x9_2).f1, (rd_T53 (rd_L3 l0_1 x7_1) x9_2).f2, (rd_T53 (rd_L3 l0_1 x7_1) x9_2).f3, (rd_T53 (rd_L3 l0_1 x7_1) x9_2).f4⟩ : S53)]) (wrap64 (x9_2 + 1)) l0_0 l0_1 y237 x241001_1) else (none))) else (none))) else (none)) else (if 0 ≤ x9_2 then (if ((rd_T53 (rd_L3 l0_1 x7_1) x9_2).f0) ≥ 8 then ((fencepostref08_Count.f k2 l1 x6_1 ((rd_T53 (rd_L3 l0_1 x7_1) x9_2).f4)).bind fun t263 => (if x8_2.length < 3518437208883 then (fencepostref08_Insert.l1 k2 l1 x6_1 x7_1 (x8_2 ++ [(⟨(rd_T53 (rd_L3 l0_1 x7_1) x9_2).f0, (rd_T53 (rd_L3 l0_1 x7_1) x9_2).f1, (rd_T53 (rd_L3 l0_1 x7_1) x9_2).f2, (rd_T53 (rd_L3 l0_1 x7_1) x9_2).f3, wrap64 (((rd_T53 (rd_L3 l0_1 x7_1) x9_2).f4) + t263)⟩ : S53)]) (wrap64 (x9_2 + 1)) l0_0 l0_1 y237 x241001_1) else (none))) else (if x8_2.length < 3518437208883 then (fencepostref08_Insert.l1 k2 l1 x6_1 x7_1 (x8_2 ++ [(⟨(rd_T53 (rd_L3 l0_1 x7_1) x9_2).f0, (rd_T53 (rd_L3 l0_1 x7_1) x9_2).f1, (rd_T53 (rd_L3 l0_1 x7_1) x9_2).f2, (rd_T53 (rd_L3 l0_1 x7_1) x9_2).f3, (rd_T53 (rd_L3 l0_1 x7_1) x9_2).f4⟩ : S53)]) (wrap64 (x9_2 + 1)) l0_0 l0_1 y237 x241001_1) else (none))) else (none))) = some (r1, r2) := H
 have A23 := Aside0.mk A230
 clear A230
 by_cases c24 : t246 = true
 rotate_left
 ·replace c24 := Bool.eq_false_iff.mpr c24
  subst c24
  have H1 : (if 0 ≤ x9_2 then (if ((rd_T53 (rd_L3 l0_1 x7_1) x9_2).f0) ≥ 8 then ((fencepostref08_Count.f k2 l1 x6_1 ((rd_T53 (rd_L3 l0_1 x7_1) x9_2).f4)).bind fun t263 => (if x8_2.length < 3518437208883 then (fencepostref08_Insert.l1 k2 l1 x6_1 x7_1 (x8_2 ++ [(⟨(rd_T53 (rd_L3 l0_1 x7_1) x9_2).f0, (rd_T53 (rd_L3 l0_1 x7_1) x9_2).f1, (rd_T53 (rd_L3 l0_1 x7_1) x9_2).f2, (rd_T53 (rd_L3 l0_1 x7_1) x9_2).f3, wrap64 (((rd_T53 (rd_L3 l0_1 x7_1) x9_2).f4) + t263)⟩ : S53)]) (wrap64 (x9_2 + 1)) l0_0 l0_1 y237 x241001_1) else (none))) else (if x8_2.length < 3518437208883 then (fencepostref08_Insert.l1 k2 l1 x6_1 x7_1 (x8_2 ++ [(⟨(rd_T53 (rd_L3 l0_1 x7_1) x9_2).f0, (rd_T53 (rd_L3 l0_1 x7_1) x9_2).f1, (rd_T53 (rd_L3 l0_1 x7_1) x9_2).f2, (rd_T53 (rd_L3 l0_1 x7_1) x9_2).f3, (rd_T53 (rd_L3 l0_1 x7_1) x9_2).f4⟩ : S53)]) (wrap64 (x9_2 + 1)) l0_0 l0_1 y237 x241001_1) else (none))) else (none)) = some (r1, r2) := by rw [if_neg (show ¬ (false = true) by decide)] at H; exact H
  clear H
  have H := H1
  clear H1
  by_cases c57 : 0 ≤ x9_2
  rotate_left
  ·rw [if_neg c57] at H
   exact absurd H (by simp)
  rw [if_pos c57] at H
  have c57b0 : decide (0 ≤ x9_2) = true := decide_eq_true c57
  clear c57
  by_cases c58 : ((rd_T53 (rd_L3 l0_1 x7_1) x9_2).f0) ≥ 8
  rotate_left
  ·rw [if_neg c58] at H
   have c58b0 : decide (8 ≤ ((rd_T53 (rd_L3 l0_1 x7_1) x9_2).f0)) = false := decide_eq_false c58
   clear c58
   by_cases c74 : x8_2.length < 3518437208883
   rotate_left
   ·rw [if_neg c74] at H
    exact absurd H (by simp)
   rw [if_pos c74] at H
   have LMc74 := Aside0.mk c74
   clear c74
   obtain ⟨y267, hy267⟩ : ∃ y_ : List (S53), y_ = (x8_2 ++ [(⟨(rd_T53 (rd_L3 l0_1 x7_1) x9_2).f0, (rd_T53 (rd_L3 l0_1 x7_1) x9_2).f1, (rd_T53 (rd_L3 l0_1 x7_1) x9_2).f2, (rd_T53 (rd_L3 l0_1 x7_1) x9_2).f3, (rd_T53 (rd_L3 l0_1 x7_1) x9_2).f4⟩ : S53)]) := ⟨_, rfl⟩
   replace H : (fencepostref08_Insert.l1 k2 l1 x6_1 x7_1 y267 (wrap64 (x9_2 + 1)) l0_0 l0_1 y237 x241001_1) = some (r1, r2) := by first | (rw [hy267]; with_reducible exact H) | (have H2_ := (Option.bind_some _ _).symm.trans H; rw [hy267]; with_reducible exact H2_) | (have H2_ := (Option.bind_some _ _).symm.trans H; with_reducible exact H2_) | with_reducible exact H | (rw [hy267]; exact H) | exact H
   have Ny267 := Aside0.mk hy267
   clear hy267
   have H' := Aside0.mk H
   clear H
   have hnb75 := NB232_233.out
   have hnc75 := NB233_232.out
   have hnb76 := NB232_240.out
   have hnc76 := NB240_232.out
   have hcz77_0 : wr.cell? ⟨gb232, 0, none⟩ = some (.slice A0_0 l0_0.length c0_0) := (blk_cell BK232.out 0).trans rfl
   have hcz77_1 : wr.cell? ⟨gb232, 1, none⟩ = some (.slice A0_1 l0_1.length c0_1) := (blk_cell BK232.out 1).trans rfl
   have hfz77_0 := blk_frozen BK232.out 0
   have hfz77_1 := blk_frozen BK232.out 1
   have p241 : 0 ≤ (x7_1 : Int) := of_decide_eq_true as_
   have q241 : x7_1 < (l0_1.length : Int) := of_decide_eq_true as_
   obtain ⟨ad241, A241_0, c241_0, e241, hx241_0, hl241_0, hi241_0⟩ := at_L3 HR0_1.out x7_1 p241 q241
   cases e241
   have hzx241_0 := Aside0.mk hx241_0; replace hx241_0 := cl_ HB.out hx241_0
   have HR241_0 := Aside0.mk hi241_0
   have HC241_0 := Aside0.mk hl241_0
   clear hi241_0 hl241_0
   replace p241 := eq_true p241
   replace q241 := eq_true q241
   go_wp2_with (first | ((with_reducible refine gate_callee (f := 29) rfl ?_); refine goesL_ (some 37) rfl rfl Try.func29 (by kernel_rfl) rfl #[.slice A1 l1.length c1, .int .i64 (wrap64 (x6_1 + x9_2))] rfl ar_ ?_; (with_reducible refine (fencepostref08_Has.calls k2 _ _ l1 (wrap64 (x6_1 + x9_2)) false _ ?side1 ?side2 A23.out).mono ?_); (case side1 => exact cd_ (Kd.C_below HR1.out HB.out)); (case side2 => exact HC1.out); rintro e w' ⟨rfl, ⟨nd, rfl⟩⟩; refine ⟨_, rfl, ?_⟩; (try (rw [drewN_self wr]; generalize hq_ : World.drewN wr _ = wr; have n0_ : Aside0 (Kd.R (Kd.int .i64) 3 wr w.heap.size (fun _ => True) (.slice Ao11 y237.length co11) y237) := ⟨by rw [← hq_]; exact (rd_ HO_241000.out)⟩; have n1_ : Aside0 (Kd.S (Kd.slice 53 k53) 50 wr w.heap.size (fun k_ => some k_ ≠ (u8 : Value).ownBlock) u241001 x241001_1) := ⟨by rw [← hq_]; exact (sd_ HO_241001.out)⟩; have n2_ : Aside0 (Kd.R k53 53 wr w.heap.size (fun _ => True) u8 x8_2) := ⟨by rw [← hq_]; exact (rd_ HO_8.out)⟩; have n3_ : Aside0 (wr.heap[gb232]? = some (.cells #[.slice A0_0 l0_0.length c0_0, .slice (some ad241) l0_1.length c0_1] 25 (0, 0))) := ⟨by rw [← hq_]; exact (bd_ BK232.out)⟩; have n4_ : Aside0 (wr.heap[gb233]? = some (.cells #[.slice none 0 0, .slice none 0 0] 25 (0, 0))) := ⟨by rw [← hq_]; exact (bd_ BK233.out)⟩; have n5_ : Aside0 (wr.heap[gb240]? = some (.cells #[.slice Ao11 y237.length co11, u241001] 25 (0, 0))) := ⟨by rw [← hq_]; exact (bd_ BK240.out)⟩; have n6_ : Aside0 (Below w.heap.size w wr) := ⟨by rw [← hq_]; exact (hb_ HB.out)⟩; clear HO_241000 HO_241001 HO_8 BK232 BK233 BK240 HB hq_; have HO_241000 := n0_; have HO_241001 := n1_; have HO_8 := n2_; have BK232 := n3_; have BK233 := n4_; have BK240 := n5_; have HB := n6_; clear n0_ n1_ n2_ n3_ n4_ n5_ n6_)); have hcy232_0 : wr.cell? ⟨gb232, 0, none⟩ = some (.slice A0_0 l0_0.length c0_0) := (blk_cell BK232.out 0).trans rfl; have hfy232_0 := blk_frozen BK232.out 0; have hcy232_1 : wr.cell? ⟨gb232, 1, none⟩ = some (.slice (some ad241) l0_1.length c0_1) := (blk_cell BK232.out 1).trans rfl; have hfy232_1 := blk_frozen BK232.out 1; have hcy233_0 : wr.cell? ⟨gb233, 0, none⟩ = some (.slice none 0 0) := (blk_cell BK233.out 0).trans rfl; have hfy233_0 := blk_frozen BK233.out 0; have hcy233_1 : wr.cell? ⟨gb233, 1, none⟩ = some (.slice none 0 0) := (blk_cell BK233.out 1).trans rfl; have hfy233_1 := blk_frozen BK233.out 1; have hcy240_0 : wr.cell? ⟨gb240, 0, none⟩ = some (.slice Ao11 y237.length co11) := (blk_cell BK240.out 0).trans rfl; have hfy240_0 := blk_frozen BK240.out 0; have hcy240_1 : wr.cell? ⟨gb240, 1, none⟩ = some (u241001) := (blk_cell BK240.out 1).trans rfl; have hfy240_1 := blk_frozen BK240.out 1; have p260 : 0 ≤ (x7_1 : Int) := of_decide_eq_true as_; have q260 : x7_1 < (l0_1.length : Int) := of_decide_eq_true as_; obtain ⟨ad260, A260_0, c260_0, e260, hx260_0, hl260_0, hi260_0⟩ := at_L3 HR0_1.out x7_1 p260 q260; obtain rfl : ad241 = ad260 := (by injection e260); have hzx260_0 := Aside0.mk hx260_0; replace hx260_0 := cl_ HB.out hx260_0; have HR260_0 := Aside0.mk hi260_0; have HC260_0 := Aside0.mk hl260_0; clear hi260_0 hl260_0; replace p260 := eq_true p260; replace q260 := eq_true q260; have ea_ := Option.some.inj (hzx241_0.out.symm.trans hzx260_0.out); injection ea_ with ea_ en_ ec_; subst ea_; subst ec_; clear en_; have p261 : 0 ≤ (x9_2 : Int) := of_decide_eq_true as_; have q261 : x9_2 < ((rd_L3 l0_1 x7_1).length : Int) := of_decide_eq_true as_; obtain ⟨ad261, e261, hx261_0, hx261_1, hx261_2, hx261_3, hx261_4⟩ := at_T53 HR260_0.out x9_2 p261 q261; cases e261; have hzx261_0 := Aside0.mk hx261_0; replace hx261_0 := cl_ HB.out hx261_0; have hzx261_1 := Aside0.mk hx261_1; replace hx261_1 := cl_ HB.out hx261_1; have hzx261_2 := Aside0.mk hx261_2; replace hx261_2 := cl_ HB.out hx261_2; have hzx261_3 := Aside0.mk hx261_3; replace hx261_3 := cl_ HB.out hx261_3; have hzx261_4 := Aside0.mk hx261_4; replace hx261_4 := cl_ HB.out hx261_4; replace p261 := eq_true p261; replace q261 := eq_true q261) | ((with_reducible refine gate_dst (N := 10) rfl ?_); refine box_event ?hg (N := 10) ?hd (cs := #[.int .i64 0, .int .i64 0, .int .i64 0, .int .i64 0, .int .i64 0]) (t := 53) ?hr ?_; (case hd => rfl); (case hg => rfl); (case hr => first | (go_simp; done) | (go_simp; rfl)); intro gb262 hg w78 hbox hb; have n0_ := Aside0.mk (Kd.R_below (Kd.R_elderB (rd_ HO_8.out) gb262 (Nat.le_of_eq hg.symm)) hb); have n1_ := Aside0.mk (Kd.R_below (rd_ HO_241000.out) hb); have n2_ := Aside0.mk (Kd.S_below (Kd.S_elderB (sd_ HO_241001.out) gb262 (Nat.le_of_eq hg.symm)) hb); have n3_ := Aside0.mk (bb_ BK232.out hb); have n4_ := Aside0.mk (bb_ BK233.out hb); have n5_ := Aside0.mk (bb_ BK240.out hb); have n6_ := Aside0.mk (below_step (hb_ HB.out) hb); have n7_ := Aside0.mk (hbox); have n8_ := Aside0.mk (gs_ hg (hb_ HB.out)); have n9_ := Aside0.mk (gs_ hg (hb_ HB.out)); have n10_ := Aside0.mk (gn_ hg BK232.out); have n11_ := Aside0.mk (gn_ hg BK232.out).symm; have n12_ := Aside0.mk (gn_ hg BK233.out); have n13_ := Aside0.mk (gn_ hg BK233.out).symm; have n14_ := Aside0.mk (gn_ hg BK240.out); have n15_ := Aside0.mk (gn_ hg BK240.out).symm; clear HO_8; clear HO_241000; clear HO_241001; clear BK232; clear BK233; clear BK240; clear HB; have HO_8 := n0_; have HO_241000 := n1_; have HO_241001 := n2_; have BK232 := n3_; have BK233 := n4_; have BK240 := n5_; have HB := n6_; have BK262 := n7_; have GW262 := n8_; have GE262 := n9_; have NB232_262 := n10_; have NB262_232 := n11_; have NB233_262 := n12_; have NB262_233 := n13_; have NB240_262 := n14_; have NB262_240 := n15_; clear n0_ n1_ n2_ n3_ n4_ n5_ n6_ n7_ n8_ n9_ n10_ n11_ n12_ n13_ n14_ n15_; clear hb hbox hg; have hnb79 := NB262_232.out; have hnc79 := NB232_262.out; have hnb80 := NB262_233.out; have hnc80 := NB233_262.out; have hnb81 := NB262_240.out; have hnc81 := NB240_262.out; have hcz82_0 : w78.cell? ⟨gb262, 0, none⟩ = some (.int .i64 0) := (blk_cell BK262.out 0).trans rfl; have hcz82_1 : w78.cell? ⟨gb262, 1, none⟩ = some (.int .i64 0) := (blk_cell BK262.out 1).trans rfl; have hcz82_2 : w78.cell? ⟨gb262, 2, none⟩ = some (.int .i64 0) := (blk_cell BK262.out 2).trans rfl; have hcz82_3 : w78.cell? ⟨gb262, 3, none⟩ = some (.int .i64 0) := (blk_cell BK262.out 3).trans rfl; have hcz82_4 : w78.cell? ⟨gb262, 4, none⟩ = some (.int .i64 0) := (blk_cell BK262.out 4).trans rfl; have hfz82_0 := blk_frozen BK262.out 0; have hfz82_1 := blk_frozen BK262.out 1; have hfz82_2 := blk_frozen BK262.out 2; have hfz82_3 := blk_frozen BK262.out 3; have hfz82_4 := blk_frozen BK262.out 4) | ((with_reducible refine gate_builtin (b := .append) (xs := #[.tmp 62, .tmp 64]) rfl ?_); at_builtin; refine Kd.R_append k53 (w0 := w) w.heap.size rfl (.tmp 62) (.tmp 64) 50 53 (.agg #[(.int .i64 0), (.int .i64 0), (.int .i64 0), (.int .i64 0), (.int .i64 0)]) 40 rfl Try.underlying50 info53 rfl (by decide) (by omega) u8 x8_2 (⟨(rd_T53 (rd_L3 l0_1 x7_1) x9_2).f0, (rd_T53 (rd_L3 l0_1 x7_1) x9_2).f1, (rd_T53 (rd_L3 l0_1 x7_1) x9_2).f2, (rd_T53 (rd_L3 l0_1 x7_1) x9_2).f3, (rd_T53 (rd_L3 l0_1 x7_1) x9_2).f4⟩ : S53) [.int .i64 ((rd_T53 (rd_L3 l0_1 x7_1) x9_2).f0), .int .i64 ((rd_T53 (rd_L3 l0_1 x7_1) x9_2).f1), .int .i64 ((rd_T53 (rd_L3 l0_1 x7_1) x9_2).f2), .int .i64 ((rd_T53 (rd_L3 l0_1 x7_1) x9_2).f3), .int .i64 ((rd_T53 (rd_L3 l0_1 x7_1) x9_2).f4)] (fun k_ => k_ ≠ gb262) (fun _ => False) rfl (by first | (go_simp; done) | (go_simp; rfl)) ?aP (fun _ hk => hk.elim) ?aF ?aO ?aB ?aS ?aL ?_; (case aP => exact k53_mkM _ _ _ (⟨(rd_T53 (rd_L3 l0_1 x7_1) x9_2).f0, (rd_T53 (rd_L3 l0_1 x7_1) x9_2).f1, (rd_T53 (rd_L3 l0_1 x7_1) x9_2).f2, (rd_T53 (rd_L3 l0_1 x7_1) x9_2).f3, (rd_T53 (rd_L3 l0_1 x7_1) x9_2).f4⟩ : S53)); (case aB => exact (hb_ HB.out)); (case aF => exact (fun k_ hk => Kd.freshB (g := gb262) (o := .cells #[.int .i64 ((rd_T53 (rd_L3 l0_1 x7_1) x9_2).f0), .int .i64 ((rd_T53 (rd_L3 l0_1 x7_1) x9_2).f1), .int .i64 ((rd_T53 (rd_L3 l0_1 x7_1) x9_2).f2), .int .i64 ((rd_T53 (rd_L3 l0_1 x7_1) x9_2).f3), .int .i64 ((rd_T53 (rd_L3 l0_1 x7_1) x9_2).f4)] 53 (0, 0)) (by exact bp5_ BK262.out) k_ hk)); (case aO => exact (by (with_reducible repeat (first | apply Kd.R_alloc | apply Kd.R_drewN | apply Kd.R_drew)); exact Kd.R_mono (Kd.R_far (p := ⟨gb262, 4, none⟩) (Kd.R_far (p := ⟨gb262, 3, none⟩) (Kd.R_far (p := ⟨gb262, 2, none⟩) (Kd.R_far (p := ⟨gb262, 1, none⟩) (Kd.R_far (p := ⟨gb262, 0, none⟩) (Kd.R_mono HO_8.out (fun k_ hk => (⟨hk, hk.2⟩ : _ ∧ k_ ≠ gb262))) (fun _ hk => hk.2) (.int .i64 ((rd_T53 (rd_L3 l0_1 x7_1) x9_2).f0))) (fun _ hk => hk.2) (.int .i64 ((rd_T53 (rd_L3 l0_1 x7_1) x9_2).f1))) (fun _ hk => hk.2) (.int .i64 ((rd_T53 (rd_L3 l0_1 x7_1) x9_2).f2))) (fun _ hk => hk.2) (.int .i64 ((rd_T53 (rd_L3 l0_1 x7_1) x9_2).f3))) (fun _ hk => hk.2) (.int .i64 ((rd_T53 (rd_L3 l0_1 x7_1) x9_2).f4))) (fun _ hk => hk.1.2))); (case aS => exact (below_size (hb_ HB.out))); (case aL => have := LMc74.out; omega); intro v268 w83 ho hb hg hat; rw [← Ny267.out] at ho; have n0_ := Aside0.mk (Kd.R_over' (by (with_reducible repeat (first | apply Kd.R_alloc | apply Kd.R_drewN | apply Kd.R_drew)); exact (Kd.R_mono (Kd.R_far (p := ⟨gb262, 4, none⟩) (Kd.R_far (p := ⟨gb262, 3, none⟩) (Kd.R_far (p := ⟨gb262, 2, none⟩) (Kd.R_far (p := ⟨gb262, 1, none⟩) (Kd.R_far (p := ⟨gb262, 0, none⟩) (Kd.R_types HO_241000.out BK262.out (by decide)) (fun _ hk => hk.2) (.int .i64 ((rd_T53 (rd_L3 l0_1 x7_1) x9_2).f0))) (fun _ hk => hk.2) (.int .i64 ((rd_T53 (rd_L3 l0_1 x7_1) x9_2).f1))) (fun _ hk => hk.2) (.int .i64 ((rd_T53 (rd_L3 l0_1 x7_1) x9_2).f2))) (fun _ hk => hk.2) (.int .i64 ((rd_T53 (rd_L3 l0_1 x7_1) x9_2).f3))) (fun _ hk => hk.2) (.int .i64 ((rd_T53 (rd_L3 l0_1 x7_1) x9_2).f4))) (fun _ h_ => h_.1))) (Kd.R_typed (by (with_reducible repeat (first | apply Kd.R_alloc | apply Kd.R_drewN | apply Kd.R_drew)); exact (Kd.R_mono (Kd.R_far (p := ⟨gb262, 4, none⟩) (Kd.R_far (p := ⟨gb262, 3, none⟩) (Kd.R_far (p := ⟨gb262, 2, none⟩) (Kd.R_far (p := ⟨gb262, 1, none⟩) (Kd.R_far (p := ⟨gb262, 0, none⟩) (Kd.R_mono HO_8.out (fun k_ hk => (⟨hk, hk.2⟩ : _ ∧ k_ ≠ gb262))) (fun _ hk => hk.2) (.int .i64 ((rd_T53 (rd_L3 l0_1 x7_1) x9_2).f0))) (fun _ hk => hk.2) (.int .i64 ((rd_T53 (rd_L3 l0_1 x7_1) x9_2).f1))) (fun _ hk => hk.2) (.int .i64 ((rd_T53 (rd_L3 l0_1 x7_1) x9_2).f2))) (fun _ hk => hk.2) (.int .i64 ((rd_T53 (rd_L3 l0_1 x7_1) x9_2).f3))) (fun _ hk => hk.2) (.int .i64 ((rd_T53 (rd_L3 l0_1 x7_1) x9_2).f4))) (fun _ h_ => h_.1)))) (by decide) hg); have n1_ := Aside0.mk (Kd.S_after (ok := (fun k_ => k_ ≠ gb262)) (by (with_reducible repeat (first | apply Kd.S_alloc | apply Kd.S_drewN | apply Kd.S_drew)); exact Kd.S_mono (Kd.S_far (p := ⟨gb262, 4, none⟩) (Kd.S_far (p := ⟨gb262, 3, none⟩) (Kd.S_far (p := ⟨gb262, 2, none⟩) (Kd.S_far (p := ⟨gb262, 1, none⟩) (Kd.S_far (p := ⟨gb262, 0, none⟩) (Kd.S_mono HO_241001.out (fun k_ hk => (⟨hk, hk.2⟩ : _ ∧ k_ ≠ gb262))) (fun _ hk => hk.2) (.int .i64 ((rd_T53 (rd_L3 l0_1 x7_1) x9_2).f0))) (fun _ hk => hk.2) (.int .i64 ((rd_T53 (rd_L3 l0_1 x7_1) x9_2).f1))) (fun _ hk => hk.2) (.int .i64 ((rd_T53 (rd_L3 l0_1 x7_1) x9_2).f2))) (fun _ hk => hk.2) (.int .i64 ((rd_T53 (rd_L3 l0_1 x7_1) x9_2).f3))) (fun _ hk => hk.2) (.int .i64 ((rd_T53 (rd_L3 l0_1 x7_1) x9_2).f4))) (fun _ hk => ⟨hk.1.2, hk.1.1⟩)) hg hat); have n2_ := Aside0.mk (blk_grown (g := gb232) (o := .cells #[.slice A0_0 l0_0.length c0_0, .slice (some ad241) l0_1.length c0_1] 25 (0, 0)) (by exact bf5_ BK232.out NB232_262.out) hg (Kd.R_ne HO_8.out BK232.out (by decide))); have n3_ := Aside0.mk (blk_grown (g := gb233) (o := .cells #[.slice none 0 0, .slice none 0 0] 25 (0, 0)) (by exact bf5_ BK233.out NB233_262.out) hg (Kd.R_ne HO_8.out BK233.out (by decide))); have n4_ := Aside0.mk (blk_grown (g := gb240) (o := .cells #[.slice Ao11 y237.length co11, u241001] 25 (0, 0)) (by exact bf5_ BK240.out NB240_262.out) hg (Kd.R_ne HO_8.out BK240.out (by decide))); have n5_ := Aside0.mk (blk_grown (g := gb262) (o := .cells #[.int .i64 ((rd_T53 (rd_L3 l0_1 x7_1) x9_2).f0), .int .i64 ((rd_T53 (rd_L3 l0_1 x7_1) x9_2).f1), .int .i64 ((rd_T53 (rd_L3 l0_1 x7_1) x9_2).f2), .int .i64 ((rd_T53 (rd_L3 l0_1 x7_1) x9_2).f3), .int .i64 ((rd_T53 (rd_L3 l0_1 x7_1) x9_2).f4)] 53 (0, 0)) (by exact bp5_ BK262.out) hg (Kd.R_away HO_8.out (fun _ hk => hk.2))); have n6_ := Aside0.mk (hb); have n7_ := Aside0.mk (ho); clear HO_241000; clear HO_241001; clear BK232; clear BK233; clear BK240; clear BK262; clear HB; clear HO_8; have HO_241000 := n0_; have HO_241001 := n1_; have BK232 := n2_; have BK233 := n3_; have BK240 := n4_; have BK262 := n5_; have HB := n6_; have HO269 := n7_; clear n0_ n1_ n2_ n3_ n4_ n5_ n6_ n7_; clear ho hb hg hat))
   go_roundg k2
   case measure => have := HK1.out; have := HK2.out; omega
   case rel => exact ⟨(y267), (wrap64 (x9_2 + 1)), rf_, H', ⟨by have := HK1.out; have := HK2.out; omega⟩, ⟨by (with_reducible repeat (first | apply Kd.R_alloc | apply Kd.R_drewN | apply Kd.R_drew)); exact Kd.R_mono HO269.out (fun _ hk => trivial)⟩, ⟨rd_ HO_241000.out⟩, ⟨by (with_reducible repeat (first | apply Kd.S_alloc | apply Kd.S_drewN | apply Kd.S_drew)); exact Kd.S_mono HO_241001.out (fun _ hk => hk.2)⟩, ⟨bd_ BK232.out⟩, ⟨bd_ BK233.out⟩, ⟨bd_ BK240.out⟩, ⟨hb_ HB.out⟩⟩
  rw [if_pos c58] at H
  have c58b0 : decide (8 ≤ ((rd_T53 (rd_L3 l0_1 x7_1) x9_2).f0)) = true := decide_eq_true c58
  clear c58
  replace H := Option.bind_eq_some_iff.mp H
  obtain ⟨t263, A590, H⟩ := H
  replace H : (if x8_2.length < 3518437208883 then (fencepostref08_Insert.l1 k2 l1 x6_1 x7_1 (x8_2 ++ [(⟨(rd_T53 (rd_L3 l0_1 x7_1) x9_2).f0, (rd_T53 (rd_L3 l0_1 x7_1) x9_2).f1, (rd_T53 (rd_L3 l0_1 x7_1) x9_2).f2, (rd_T53 (rd_L3 l0_1 x7_1) x9_2).f3, wrap64 (((rd_T53 (rd_L3 l0_1 x7_1) x9_2).f4) + t263)⟩ : S53)]) (wrap64 (x9_2 + 1)) l0_0 l0_1 y237 x241001_1) else (none)) = some (r1, r2) := H
  have A59 := Aside0.mk A590
  clear A590
  by_cases c60 : x8_2.length < 3518437208883
  rotate_left
  ·rw [if_neg c60] at H
   exact absurd H (by simp)
  rw [if_pos c60] at H
  have LMc60 := Aside0.mk c60
  clear c60
  obtain ⟨y264, hy264⟩ : ∃ y_ : List (S53), y_ = (x8_2 ++ [(⟨(rd_T53 (rd_L3 l0_1 x7_1) x9_2).f0, (rd_T53 (rd_L3 l0_1 x7_1) x9_2).f1, (rd_T53 (rd_L3 l0_1 x7_1) x9_2).f2, (rd_T53 (rd_L3 l0_1 x7_1) x9_2).f3, wrap64 (((rd_T53 (rd_L3 l0_1 x7_1) x9_2).f4) + t263)⟩ : S53)]) := ⟨_, rfl⟩
  replace H : (fencepostref08_Insert.l1 k2 l1 x6_1 x7_1 y264 (wrap64 (x9_2 + 1)) l0_0 l0_1 y237 x241001_1) = some (r1, r2) := by first | (rw [hy264]; with_reducible exact H) | (have H2_ := (Option.bind_some _ _).symm.trans H; rw [hy264]; with_reducible exact H2_) | (have H2_ := (Option.bind_some _ _).symm.trans H; with_reducible exact H2_) | with_reducible exact H | (rw [hy264]; exact H) | exact H
  have Ny264 := Aside0.mk hy264
  clear hy264
  have H' := Aside0.mk H
  clear H
  have hnb61 := NB232_233.out
  have hnc61 := NB233_232.out
  have hnb62 := NB232_240.out
  have hnc62 := NB240_232.out
  have hcz63_0 : wr.cell? ⟨gb232, 0, none⟩ = some (.slice A0_0 l0_0.length c0_0) := (blk_cell BK232.out 0).trans rfl
  have hcz63_1 : wr.cell? ⟨gb232, 1, none⟩ = some (.slice A0_1 l0_1.length c0_1) := (blk_cell BK232.out 1).trans rfl
  have hfz63_0 := blk_frozen BK232.out 0
  have hfz63_1 := blk_frozen BK232.out 1
  have p241 : 0 ≤ (x7_1 : Int) := of_decide_eq_true as_
  have q241 : x7_1 < (l0_1.length : Int) := of_decide_eq_true as_
  obtain ⟨ad241, A241_0, c241_0, e241, hx241_0, hl241_0, hi241_0⟩ := at_L3 HR0_1.out x7_1 p241 q241
  cases e241
  have hzx241_0 := Aside0.mk hx241_0; replace hx241_0 := cl_ HB.out hx241_0
  have HR241_0 := Aside0.mk hi241_0
  have HC241_0 := Aside0.mk hl241_0
  clear hi241_0 hl241_0
  replace p241 := eq_true p241
  replace q241 := eq_true q241
  try go_wp2_with (first | ((with_reducible refine gate_callee (f := 29) rfl ?_); refine goesL_ (some 37) rfl rfl Try.func29 (by kernel_rfl) rfl #[.slice A1 l1.length c1, .int .i64 (wrap64 (x6_1 + x9_2))] rfl ar_ ?_; (with_reducible refine (fencepostref08_Has.calls k2 _ _ l1 (wrap64 (x6_1 + x9_2)) false _ ?side1 ?side2 A23.out).mono ?_); (case side1 => exact cd_ (Kd.C_below HR1.out HB.out)); (case side2 => exact HC1.out); rintro e w' ⟨rfl, ⟨nd, rfl⟩⟩; refine ⟨_, rfl, ?_⟩; (try (rw [drewN_self wr]; generalize hq_ : World.drewN wr _ = wr; have n0_ : Aside0 (Kd.R (Kd.int .i64) 3 wr w.heap.size (fun _ => True) (.slice Ao11 y237.length co11) y237) := ⟨by rw [← hq_]; exact (rd_ HO_241000.out)⟩; have n1_ : Aside0 (Kd.S (Kd.slice 53 k53) 50 wr w.heap.size (fun k_ => some k_ ≠ (u8 : Value).ownBlock) u241001 x241001_1) := ⟨by rw [← hq_]; exact (sd_ HO_241001.out)⟩; have n2_ : Aside0 (Kd.R k53 53 wr w.heap.size (fun _ => True) u8 x8_2) := ⟨by rw [← hq_]; exact (rd_ HO_8.out)⟩; have n3_ : Aside0 (wr.heap[gb232]? = some (.cells #[.slice A0_0 l0_0.length c0_0, .slice (some ad241) l0_1.length c0_1] 25 (0, 0))) := ⟨by rw [← hq_]; exact (bd_ BK232.out)⟩; have n4_ : Aside0 (wr.heap[gb233]? = some (.cells #[.slice none 0 0, .slice none 0 0] 25 (0, 0))) := ⟨by rw [← hq_]; exact (bd_ BK233.out)⟩; have n5_ : Aside0 (wr.heap[gb240]? = some (.cells #[.slice Ao11 y237.length co11, u241001] 25 (0, 0))) := ⟨by rw [← hq_]; exact (bd_ BK240.out)⟩; have n6_ : Aside0 (Below w.heap.size w wr) := ⟨by rw [← hq_]; exact (hb_ HB.out)⟩; clear HO_241000 HO_241001 HO_8 BK232 BK233 BK240 HB hq_; have HO_241000 := n0_; have HO_241001 := n1_; have HO_8 := n2_; have BK232 := n3_; have BK233 := n4_; have BK240 := n5_; have HB := n6_; clear n0_ n1_ n2_ n3_ n4_ n5_ n6_)); have hcy232_0 : wr.cell? ⟨gb232, 0, none⟩ = some (.slice A0_0 l0_0.length c0_0) := (blk_cell BK232.out 0).trans rfl; have hfy232_0 := blk_frozen BK232.out 0; have hcy232_1 : wr.cell? ⟨gb232, 1, none⟩ = some (.slice (some ad241) l0_1.length c0_1) := (blk_cell BK232.out 1).trans rfl; have hfy232_1 := blk_frozen BK232.out 1; have hcy233_0 : wr.cell? ⟨gb233, 0, none⟩ = some (.slice none 0 0) := (blk_cell BK233.out 0).trans rfl; have hfy233_0 := blk_frozen BK233.out 0; have hcy233_1 : wr.cell? ⟨gb233, 1, none⟩ = some (.slice none 0 0) := (blk_cell BK233.out 1).trans rfl; have hfy233_1 := blk_frozen BK233.out 1; have hcy240_0 : wr.cell? ⟨gb240, 0, none⟩ = some (.slice Ao11 y237.length co11) := (blk_cell BK240.out 0).trans rfl; have hfy240_0 := blk_frozen BK240.out 0; have hcy240_1 : wr.cell? ⟨gb240, 1, none⟩ = some (u241001) := (blk_cell BK240.out 1).trans rfl; have hfy240_1 := blk_frozen BK240.out 1; have p260 : 0 ≤ (x7_1 : Int) := of_decide_eq_true as_; have q260 : x7_1 < (l0_1.length : Int) := of_decide_eq_true as_; obtain ⟨ad260, A260_0, c260_0, e260, hx260_0, hl260_0, hi260_0⟩ := at_L3 HR0_1.out x7_1 p260 q260; obtain rfl : ad241 = ad260 := (by injection e260); have hzx260_0 := Aside0.mk hx260_0; replace hx260_0 := cl_ HB.out hx260_0; have HR260_0 := Aside0.mk hi260_0; have HC260_0 := Aside0.mk hl260_0; clear hi260_0 hl260_0; replace p260 := eq_true p260; replace q260 := eq_true q260; have ea_ := Option.some.inj (hzx241_0.out.symm.trans hzx260_0.out); injection ea_ with ea_ en_ ec_; subst ea_; subst ec_; clear en_; have p261 : 0 ≤ (x9_2 : Int) := of_decide_eq_true as_; have q261 : x9_2 < ((rd_L3 l0_1 x7_1).length : Int) := of_decide_eq_true as_; obtain ⟨ad261, e261, hx261_0, hx261_1, hx261_2, hx261_3, hx261_4⟩ := at_T53 HR260_0.out x9_2 p261 q261; cases e261; have hzx261_0 := Aside0.mk hx261_0; replace hx261_0 := cl_ HB.out hx261_0; have hzx261_1 := Aside0.mk hx261_1; replace hx261_1 := cl_ HB.out hx261_1; have hzx261_2 := Aside0.mk hx261_2; replace hx261_2 := cl_ HB.out hx261_2; have hzx261_3 := Aside0.mk hx261_3; replace hx261_3 := cl_ HB.out hx261_3; have hzx261_4 := Aside0.mk hx261_4; replace hx261_4 := cl_ HB.out hx261_4; replace p261 := eq_true p261; replace q261 := eq_true q261) | ((with_reducible refine gate_dst (N := 10) rfl ?_); refine box_event ?hg (N := 10) ?hd (cs := #[.int .i64 0, .int .i64 0, .int .i64 0, .int .i64 0, .int .i64 0]) (t := 53) ?hr ?_; (case hd => rfl); (case hg => rfl); (case hr => first | (go_simp; done) | (go_simp; rfl)); intro gb262 hg w64 hbox hb; have n0_ := Aside0.mk (Kd.R_below (Kd.R_elderB (rd_ HO_8.out) gb262 (Nat.le_of_eq hg.symm)) hb); have n1_ := Aside0.mk (Kd.R_below (rd_ HO_241000.out) hb); have n2_ := Aside0.mk (Kd.S_below (Kd.S_elderB (sd_ HO_241001.out) gb262 (Nat.le_of_eq hg.symm)) hb); have n3_ := Aside0.mk (bb_ BK232.out hb); have n4_ := Aside0.mk (bb_ BK233.out hb); have n5_ := Aside0.mk (bb_ BK240.out hb); have n6_ := Aside0.mk (below_step (hb_ HB.out) hb); have n7_ := Aside0.mk (hbox); have n8_ := Aside0.mk (gs_ hg (hb_ HB.out)); have n9_ := Aside0.mk (gs_ hg (hb_ HB.out)); have n10_ := Aside0.mk (gn_ hg BK232.out); have n11_ := Aside0.mk (gn_ hg BK232.out).symm; have n12_ := Aside0.mk (gn_ hg BK233.out); have n13_ := Aside0.mk (gn_ hg BK233.out).symm; have n14_ := Aside0.mk (gn_ hg BK240.out); have n15_ := Aside0.mk (gn_ hg BK240.out).symm; clear HO_8; clear HO_241000; clear HO_241001; clear BK232; clear BK233; clear BK240; clear HB; have HO_8 := n0_; have HO_241000 := n1_; have HO_241001 := n2_; have BK232 := n3_; have BK233 := n4_; have BK240 := n5_; have HB := n6_; have BK262 := n7_; have GW262 := n8_; have GE262 := n9_; have NB232_262 := n10_; have NB262_232 := n11_; have NB233_262 := n12_; have NB262_233 := n13_; have NB240_262 := n14_; have NB262_240 := n15_; clear n0_ n1_ n2_ n3_ n4_ n5_ n6_ n7_ n8_ n9_ n10_ n11_ n12_ n13_ n14_ n15_; clear hb hbox hg; have hnb65 := NB262_232.out; have hnc65 := NB232_262.out; have hnb66 := NB262_233.out; have hnc66 := NB233_262.out; have hnb67 := NB262_240.out; have hnc67 := NB240_262.out; have hcz68_0 : w64.cell? ⟨gb262, 0, none⟩ = some (.int .i64 0) := (blk_cell BK262.out 0).trans rfl; have hcz68_1 : w64.cell? ⟨gb262, 1, none⟩ = some (.int .i64 0) := (blk_cell BK262.out 1).trans rfl; have hcz68_2 : w64.cell? ⟨gb262, 2, none⟩ = some (.int .i64 0) := (blk_cell BK262.out 2).trans rfl; have hcz68_3 : w64.cell? ⟨gb262, 3, none⟩ = some (.int .i64 0) := (blk_cell BK262.out 3).trans rfl; have hcz68_4 : w64.cell? ⟨gb262, 4, none⟩ = some (.int .i64 0) := (blk_cell BK262.out 4).trans rfl; have hfz68_0 := blk_frozen BK262.out 0; have hfz68_1 := blk_frozen BK262.out 1; have hfz68_2 := blk_frozen BK262.out 2; have hfz68_3 := blk_frozen BK262.out 3; have hfz68_4 := blk_frozen BK262.out 4))
  have n0_ : Aside0 (Kd.R k53 53 (((((w64.setCell ⟨gb262, 0, none⟩ (.int .i64 ((rd_T53 (rd_L3 l0_1 x7_1) x9_2).f0))).setCell ⟨gb262, 1, none⟩ (.int .i64 ((rd_T53 (rd_L3 l0_1 x7_1) x9_2).f1))).setCell ⟨gb262, 2, none⟩ (.int .i64 ((rd_T53 (rd_L3 l0_1 x7_1) x9_2).f2))).setCell ⟨gb262, 3, none⟩ (.int .i64 ((rd_T53 (rd_L3 l0_1 x7_1) x9_2).f3))).setCell ⟨gb262, 4, none⟩ (.int .i64 ((rd_T53 (rd_L3 l0_1 x7_1) x9_2).f4))) w.heap.size (fun k_ => k_ ≠ gb262) u8 x8_2) := ⟨by (with_reducible repeat (first | apply Kd.R_alloc | apply Kd.R_drewN | apply Kd.R_drew)); exact Kd.R_mono (Kd.R_far (p := ⟨gb262, 4, none⟩) (Kd.R_far (p := ⟨gb262, 3, none⟩) (Kd.R_far (p := ⟨gb262, 2, none⟩) (Kd.R_far (p := ⟨gb262, 1, none⟩) (Kd.R_far (p := ⟨gb262, 0, none⟩) (Kd.R_mono HO_8.out (fun k_ hk => (⟨hk, hk.2⟩ : _ ∧ k_ ≠ gb262))) (fun _ hk => hk.2) (.int .i64 ((rd_T53 (rd_L3 l0_1 x7_1) x9_2).f0))) (fun _ hk => hk.2) (.int .i64 ((rd_T53 (rd_L3 l0_1 x7_1) x9_2).f1))) (fun _ hk => hk.2) (.int .i64 ((rd_T53 (rd_L3 l0_1 x7_1) x9_2).f2))) (fun _ hk => hk.2) (.int .i64 ((rd_T53 (rd_L3 l0_1 x7_1) x9_2).f3))) (fun _ hk => hk.2) (.int .i64 ((rd_T53 (rd_L3 l0_1 x7_1) x9_2).f4))) (fun _ hk => hk.1.2)⟩
  have n1_ : Aside0 (Kd.R (Kd.int .i64) 3 (((((w64.setCell ⟨gb262, 0, none⟩ (.int .i64 ((rd_T53 (rd_L3 l0_1 x7_1) x9_2).f0))).setCell ⟨gb262, 1, none⟩ (.int .i64 ((rd_T53 (rd_L3 l0_1 x7_1) x9_2).f1))).setCell ⟨gb262, 2, none⟩ (.int .i64 ((rd_T53 (rd_L3 l0_1 x7_1) x9_2).f2))).setCell ⟨gb262, 3, none⟩ (.int .i64 ((rd_T53 (rd_L3 l0_1 x7_1) x9_2).f3))).setCell ⟨gb262, 4, none⟩ (.int .i64 ((rd_T53 (rd_L3 l0_1 x7_1) x9_2).f4))) w.heap.size (fun _ => True) (.slice Ao11 y237.length co11) y237) := ⟨by (with_reducible repeat (first | apply Kd.R_alloc | apply Kd.R_drewN | apply Kd.R_drew)); exact Kd.R_mono (Kd.R_far (p := ⟨gb262, 4, none⟩) (Kd.R_far (p := ⟨gb262, 3, none⟩) (Kd.R_far (p := ⟨gb262, 2, none⟩) (Kd.R_far (p := ⟨gb262, 1, none⟩) (Kd.R_far (p := ⟨gb262, 0, none⟩) (Kd.R_types HO_241000.out BK262.out (by decide)) (fun _ hk => hk.2) (.int .i64 ((rd_T53 (rd_L3 l0_1 x7_1) x9_2).f0))) (fun _ hk => hk.2) (.int .i64 ((rd_T53 (rd_L3 l0_1 x7_1) x9_2).f1))) (fun _ hk => hk.2) (.int .i64 ((rd_T53 (rd_L3 l0_1 x7_1) x9_2).f2))) (fun _ hk => hk.2) (.int .i64 ((rd_T53 (rd_L3 l0_1 x7_1) x9_2).f3))) (fun _ hk => hk.2) (.int .i64 ((rd_T53 (rd_L3 l0_1 x7_1) x9_2).f4))) (fun _ hk => trivial)⟩
  have n2_ : Aside0 (Kd.S (Kd.slice 53 k53) 50 (((((w64.setCell ⟨gb262, 0, none⟩ (.int .i64 ((rd_T53 (rd_L3 l0_1 x7_1) x9_2).f0))).setCell ⟨gb262, 1, none⟩ (.int .i64 ((rd_T53 (rd_L3 l0_1 x7_1) x9_2).f1))).setCell ⟨gb262, 2, none⟩ (.int .i64 ((rd_T53 (rd_L3 l0_1 x7_1) x9_2).f2))).setCell ⟨gb262, 3, none⟩ (.int .i64 ((rd_T53 (rd_L3 l0_1 x7_1) x9_2).f3))).setCell ⟨gb262, 4, none⟩ (.int .i64 ((rd_T53 (rd_L3 l0_1 x7_1) x9_2).f4))) w.heap.size (fun k_ => some k_ ≠ (u8 : Value).ownBlock ∧ k_ ≠ gb262) u241001 x241001_1) := ⟨by (with_reducible repeat (first | apply Kd.S_alloc | apply Kd.S_drewN | apply Kd.S_drew)); exact Kd.S_mono (Kd.S_far (p := ⟨gb262, 4, none⟩) (Kd.S_far (p := ⟨gb262, 3, none⟩) (Kd.S_far (p := ⟨gb262, 2, none⟩) (Kd.S_far (p := ⟨gb262, 1, none⟩) (Kd.S_far (p := ⟨gb262, 0, none⟩) (Kd.S_mono HO_241001.out (fun k_ hk => (⟨hk, hk.2⟩ : _ ∧ k_ ≠ gb262))) (fun _ hk => hk.2) (.int .i64 ((rd_T53 (rd_L3 l0_1 x7_1) x9_2).f0))) (fun _ hk => hk.2) (.int .i64 ((rd_T53 (rd_L3 l0_1 x7_1) x9_2).f1))) (fun _ hk => hk.2) (.int .i64 ((rd_T53 (rd_L3 l0_1 x7_1) x9_2).f2))) (fun _ hk => hk.2) (.int .i64 ((rd_T53 (rd_L3 l0_1 x7_1) x9_2).f3))) (fun _ hk => hk.2) (.int .i64 ((rd_T53 (rd_L3 l0_1 x7_1) x9_2).f4))) (fun _ hk => ⟨hk.1.1, hk.1.2⟩)⟩
  have n3_ : Aside0 ((((((w64.setCell ⟨gb262, 0, none⟩ (.int .i64 ((rd_T53 (rd_L3 l0_1 x7_1) x9_2).f0))).setCell ⟨gb262, 1, none⟩ (.int .i64 ((rd_T53 (rd_L3 l0_1 x7_1) x9_2).f1))).setCell ⟨gb262, 2, none⟩ (.int .i64 ((rd_T53 (rd_L3 l0_1 x7_1) x9_2).f2))).setCell ⟨gb262, 3, none⟩ (.int .i64 ((rd_T53 (rd_L3 l0_1 x7_1) x9_2).f3))).setCell ⟨gb262, 4, none⟩ (.int .i64 ((rd_T53 (rd_L3 l0_1 x7_1) x9_2).f4))).heap[gb232]? = some (.cells #[.slice A0_0 l0_0.length c0_0, .slice (some ad241) l0_1.length c0_1] 25 (0, 0))) := ⟨by exact bf5_ BK232.out NB232_262.out⟩
  have n4_ : Aside0 ((((((w64.setCell ⟨gb262, 0, none⟩ (.int .i64 ((rd_T53 (rd_L3 l0_1 x7_1) x9_2).f0))).setCell ⟨gb262, 1, none⟩ (.int .i64 ((rd_T53 (rd_L3 l0_1 x7_1) x9_2).f1))).setCell ⟨gb262, 2, none⟩ (.int .i64 ((rd_T53 (rd_L3 l0_1 x7_1) x9_2).f2))).setCell ⟨gb262, 3, none⟩ (.int .i64 ((rd_T53 (rd_L3 l0_1 x7_1) x9_2).f3))).setCell ⟨gb262, 4, none⟩ (.int .i64 ((rd_T53 (rd_L3 l0_1 x7_1) x9_2).f4))).heap[gb233]? = some (.cells #[.slice none 0 0, .slice none 0 0] 25 (0, 0))) := ⟨by exact bf5_ BK233.out NB233_262.out⟩
  have n5_ : Aside0 ((((((w64.setCell ⟨gb262, 0, none⟩ (.int .i64 ((rd_T53 (rd_L3 l0_1 x7_1) x9_2).f0))).setCell ⟨gb262, 1, none⟩ (.int .i64 ((rd_T53 (rd_L3 l0_1 x7_1) x9_2).f1))).setCell ⟨gb262, 2, none⟩ (.int .i64 ((rd_T53 (rd_L3 l0_1 x7_1) x9_2).f2))).setCell ⟨gb262, 3, none⟩ (.int .i64 ((rd_T53 (rd_L3 l0_1 x7_1) x9_2).f3))).setCell ⟨gb262, 4, none⟩ (.int .i64 ((rd_T53 (rd_L3 l0_1 x7_1) x9_2).f4))).heap[gb240]? = some (.cells #[.slice Ao11 y237.length co11, u241001] 25 (0, 0))) := ⟨by exact bf5_ BK240.out NB240_262.out⟩
  have n6_ : Aside0 ((((((w64.setCell ⟨gb262, 0, none⟩ (.int .i64 ((rd_T53 (rd_L3 l0_1 x7_1) x9_2).f0))).setCell ⟨gb262, 1, none⟩ (.int .i64 ((rd_T53 (rd_L3 l0_1 x7_1) x9_2).f1))).setCell ⟨gb262, 2, none⟩ (.int .i64 ((rd_T53 (rd_L3 l0_1 x7_1) x9_2).f2))).setCell ⟨gb262, 3, none⟩ (.int .i64 ((rd_T53 (rd_L3 l0_1 x7_1) x9_2).f3))).setCell ⟨gb262, 4, none⟩ (.int .i64 ((rd_T53 (rd_L3 l0_1 x7_1) x9_2).f4))).heap[gb262]? = some (.cells #[.int .i64 ((rd_T53 (rd_L3 l0_1 x7_1) x9_2).f0), .int .i64 ((rd_T53 (rd_L3 l0_1 x7_1) x9_2).f1), .int .i64 ((rd_T53 (rd_L3 l0_1 x7_1) x9_2).f2), .int .i64 ((rd_T53 (rd_L3 l0_1 x7_1) x9_2).f3), .int .i64 ((rd_T53 (rd_L3 l0_1 x7_1) x9_2).f4)] 53 (0, 0))) := ⟨by exact bp5_ BK262.out⟩
  have n7_ : Aside0 (Below w.heap.size w (((((w64.setCell ⟨gb262, 0, none⟩ (.int .i64 ((rd_T53 (rd_L3 l0_1 x7_1) x9_2).f0))).setCell ⟨gb262, 1, none⟩ (.int .i64 ((rd_T53 (rd_L3 l0_1 x7_1) x9_2).f1))).setCell ⟨gb262, 2, none⟩ (.int .i64 ((rd_T53 (rd_L3 l0_1 x7_1) x9_2).f2))).setCell ⟨gb262, 3, none⟩ (.int .i64 ((rd_T53 (rd_L3 l0_1 x7_1) x9_2).f3))).setCell ⟨gb262, 4, none⟩ (.int .i64 ((rd_T53 (rd_L3 l0_1 x7_1) x9_2).f4)))) := ⟨hb_ HB.out⟩
  (try clear HO_8)
  (try clear HO_241000)
  (try clear HO_241001)
  (try clear BK232)
  (try clear BK233)
  (try clear BK240)
  (try clear BK262)
  (try clear HB)
  generalize (((((w64.setCell ⟨gb262, 0, none⟩ (.int .i64 ((rd_T53 (rd_L3 l0_1 x7_1) x9_2).f0))).setCell ⟨gb262, 1, none⟩ (.int .i64 ((rd_T53 (rd_L3 l0_1 x7_1) x9_2).f1))).setCell ⟨gb262, 2, none⟩ (.int .i64 ((rd_T53 (rd_L3 l0_1 x7_1) x9_2).f2))).setCell ⟨gb262, 3, none⟩ (.int .i64 ((rd_T53 (rd_L3 l0_1 x7_1) x9_2).f3))).setCell ⟨gb262, 4, none⟩ (.int .i64 ((rd_T53 (rd_L3 l0_1 x7_1) x9_2).f4))) = w69 at n0_ n1_ n2_ n3_ n4_ n5_ n6_ n7_ ⊢
  have HO_8 := n0_
  have HO_241000 := n1_
  have HO_241001 := n2_
  have BK232 := n3_
  have BK233 := n4_
  have BK240 := n5_
  have BK262 := n6_
  have HB := n7_
  clear n0_ n1_ n2_ n3_ n4_ n5_ n6_ n7_
  have n0_ := Aside0.mk (Kd.R_drew HO_8.out)
  have n1_ := Aside0.mk (Kd.R_drew HO_241000.out)
  have n2_ := Aside0.mk (Kd.S_drew HO_241001.out)
  have n3_ := Aside0.mk (blk_drew BK232.out)
  have n4_ := Aside0.mk (blk_drew BK233.out)
  have n5_ := Aside0.mk (blk_drew BK240.out)
  have n6_ := Aside0.mk (blk_drew BK262.out)
  have n7_ := Aside0.mk (below_drew1 HB.out)
  clear HO_8
  clear HO_241000
  clear HO_241001
  clear BK232
  clear BK233
  clear BK240
  clear BK262
  clear HB
  have HO_8 := n0_
  have HO_241000 := n1_
  have HO_241001 := n2_
  have BK232 := n3_
  have BK233 := n4_
  have BK240 := n5_
  have BK262 := n6_
  have HB := n7_
  clear n0_ n1_ n2_ n3_ n4_ n5_ n6_ n7_
  refine start_ (n := 10) (S := fun w' => w'.cell? ⟨gb262, 0, none⟩ = some (.int .i64 ((rd_T53 (rd_L3 l0_1 x7_1) x9_2).f0)) ∧ w'.cell? ⟨gb262, 1, none⟩ = some (.int .i64 ((rd_T53 (rd_L3 l0_1 x7_1) x9_2).f1)) ∧ w'.cell? ⟨gb262, 2, none⟩ = some (.int .i64 ((rd_T53 (rd_L3 l0_1 x7_1) x9_2).f2)) ∧ w'.cell? ⟨gb262, 3, none⟩ = some (.int .i64 ((rd_T53 (rd_L3 l0_1 x7_1) x9_2).f3)) ∧ w'.cell? ⟨gb262, 4, none⟩ = some (.int .i64 ((rd_T53 (rd_L3 l0_1 x7_1) x9_2).f4))) (ds := [9]) #[false, false, false, false, false, false, false, false, false, false] (by kernel_rfl) rfl rfl ⟨(blk_cell BK262.out 0).trans rfl, (blk_cell BK262.out 1).trans rfl, (blk_cell BK262.out 2).trans rfl, (blk_cell BK262.out 3).trans rfl, (blk_cell BK262.out 4).trans rfl⟩ (fun hHeld => ?_); refine with_tabW fencepostref08_Insert.tab14 fencepostref08_Insert.bits14 (fun HT_ HW_ => ?_)
  generalize w69.drew = w70 at HO_8 HO_241000 HO_241001 BK232 BK233 BK240 BK262 HB hHeld ⊢
  refine pure_ (i := 0) (N := some 53) (v := ?_) (a' := ?_) #[true, false, false, false, false, false, false, false, false, false] rfl rfl (any_of HT_.out (by kernel_rfl)) (fun _ _ _ h => h) (Or.inl ⟨by rfl, ?_⟩) ?_ ?_; rotate_left; intro w'; go_simp; with_reducible rfl; rotate_left; simp only [Act.put, List.setIfInBounds_toArray, List.set_cons_zero, List.set_cons_succ, i64_w, i32_w]; rfl
  refine pure_ (i := 2) (N := some 55) (v := ?_) (a' := ?_) #[true, false, true, false, false, false, false, false, false, false] rfl rfl (any_of HT_.out (by kernel_rfl)) (fun _ _ _ h => h) (Or.inl ⟨by rfl, ?_⟩) ?_ ?_; rotate_left; intro w'; go_simp; with_reducible rfl; rotate_left; simp only [Act.put, List.setIfInBounds_toArray, List.set_cons_zero, List.set_cons_succ, i64_w, i32_w]; rfl
  refine pure_ (i := 3) (N := some 56) (v := ?_) (a' := ?_) #[true, false, true, true, false, false, false, false, false, false] rfl rfl (any_of HT_.out (by kernel_rfl)) (fun _ _ _ h => h) (Or.inl ⟨by rfl, ?_⟩) ?_ ?_; rotate_left; intro w'; go_simp; with_reducible rfl; rotate_left; simp only [Act.put, List.setIfInBounds_toArray, List.set_cons_zero, List.set_cons_succ, i64_w, i32_w]; rfl
  refine pure_ (i := 4) (N := some 57) (v := ?_) (a' := ?_) #[true, false, true, true, true, false, false, false, false, false] rfl rfl (any_of HT_.out (by kernel_rfl)) (fun _ _ _ h => h) (Or.inl ⟨by rfl, ?_⟩) ?_ ?_; rotate_left; intro w'; go_simp; with_reducible rfl; rotate_left; simp only [Act.put, List.setIfInBounds_toArray, List.set_cons_zero, List.set_cons_succ, i64_w, i32_w]; rfl
  refine take_ (i := 1) (N := some 54) (v := ?_) (a' := ?_) #[true, true, true, true, true, false, false, false, false, false] rfl rfl (take_ofW HT_.out HW_.out (by kernel_rfl)) (fun _ _ _ h => h) (Or.inl ⟨by rfl, ?_⟩) hHeld ?_ ?_; rotate_left; rintro w' ⟨s0, s1, s2, s3, s4⟩; go_simp; with_reducible rfl; rotate_left; simp only [Act.put, List.setIfInBounds_toArray, List.set_cons_zero, List.set_cons_succ, i64_w, i32_w]; rfl
  refine take_ (i := 5) (N := some 58) (v := ?_) (a' := ?_) #[true, true, true, true, true, true, false, false, false, false] rfl rfl (take_ofW HT_.out HW_.out (by kernel_rfl)) (fun _ _ _ h => h) (Or.inl ⟨by rfl, ?_⟩) hHeld ?_ ?_; rotate_left; rintro w' ⟨s0, s1, s2, s3, s4⟩; go_simp; with_reducible rfl; rotate_left; simp only [Act.put, List.setIfInBounds_toArray, List.set_cons_zero, List.set_cons_succ, i64_w, i32_w]; rfl
  refine one_ (i := 6) (N := some 59) #[true, true, true, true, true, true, true, false, false, false] rfl rfl (one_of HT_.out (by kernel_rfl)) (by decide) (fun K hK => ?_)
  refine goes_ Try.func42 (by kernel_rfl) rfl #[.slice A1 l1.length c1, .int .i64 x6_1, .int .i64 ((rd_T53 (rd_L3 l0_1 x7_1) x9_2).f4)] (by rfl) rfl rfl ar_ ?_
  with_reducible refine (fencepostref08_Count.calls k2 _ _ l1 x6_1 ((rd_T53 (rd_L3 l0_1 x7_1) x9_2).f4) t263 _ ?side1 ?side2 A59.out).mono ?_
  (case side1 => exact cd_ (Kd.C_below HR1.out HB.out))
  (case side2 => exact HC1.out)
  rintro e w' ⟨rfl, ⟨nd, rfl⟩⟩
  refine ⟨_, rfl, ?_⟩
  refine hK.out _ _ ⟨(blk_cell BK262.out 0).trans rfl, (blk_cell BK262.out 1).trans rfl, (blk_cell BK262.out 2).trans rfl, (blk_cell BK262.out 3).trans rfl, (blk_cell BK262.out 4).trans rfl⟩ (fun hHeld => ?_)
  clear hK K
  refine norm_ (a' := ?_) ?_ ?_
  rotate_left
  ·show Act.put _ (some 59) _ = _
   simp only [Act.put, List.setIfInBounds_toArray, List.set_cons_zero, List.set_cons_succ, i64_w, i32_w]
   rfl
  refine pure_ (i := 7) (N := some 60) (v := ?_) (a' := ?_) #[true, true, true, true, true, true, true, true, false, false] rfl rfl (any_of HT_.out (by kernel_rfl)) (fun _ _ _ h => h) (Or.inl ⟨by rfl, ?_⟩) ?_ ?_; rotate_left; intro w'; go_simp; with_reducible rfl; rotate_left; simp only [Act.put, List.setIfInBounds_toArray, List.set_cons_zero, List.set_cons_succ, i64_w, i32_w]; rfl
  refine pure_ (i := 8) (N := some 61) (v := ?_) (a' := ?_) #[true, true, true, true, true, true, true, true, true, false] rfl rfl (any_of HT_.out (by kernel_rfl)) (fun _ _ _ h => h) (Or.inl ⟨by rfl, ?_⟩) ?_ ?_; rotate_left; intro w'; go_simp; with_reducible rfl; rotate_left; simp only [Act.put, List.setIfInBounds_toArray, List.set_cons_zero, List.set_cons_succ, i64_w, i32_w]; rfl
  refine last_ (i := 9) (N := none) #[true, true, true, true, true, true, true, true, true, true] rfl rfl (one_of HT_.out (by kernel_rfl)) (by decide) (fun K hK => ?_)
  have hs71 : w70.cell? ⟨gb262, 4, none⟩ = some (.int .i64 ((rd_T53 (rd_L3 l0_1 x7_1) x9_2).f4)) := (blk_cell BK262.out 4).trans rfl
  have hfs71 := blk_frozen BK262.out 4
  have hns71_0 := NB232_262.out
  have hns71_1 := NB233_262.out
  have hns71_2 := NB240_262.out
  have hms71_0 := NB262_232.out
  have hms71_1 := NB262_233.out
  have hms71_2 := NB262_240.out
  refine skip_ (w1 := ?_) (by rfl) rfl ?_ ?_
  rotate_left
  ·go_simp
   rfl
  refine hK.out _ _ ?_
  clear hK K
  refine done_ (done_of HT_.out (by kernel_rfl)) ?_
  have hcz72_0 : w70.cell? ⟨gb262, 0, none⟩ = some (.int .i64 ((rd_T53 (rd_L3 l0_1 x7_1) x9_2).f0)) := (blk_cell BK262.out 0).trans rfl
  have hcz72_1 : w70.cell? ⟨gb262, 1, none⟩ = some (.int .i64 ((rd_T53 (rd_L3 l0_1 x7_1) x9_2).f1)) := (blk_cell BK262.out 1).trans rfl
  have hcz72_2 : w70.cell? ⟨gb262, 2, none⟩ = some (.int .i64 ((rd_T53 (rd_L3 l0_1 x7_1) x9_2).f2)) := (blk_cell BK262.out 2).trans rfl
  have hcz72_3 : w70.cell? ⟨gb262, 3, none⟩ = some (.int .i64 ((rd_T53 (rd_L3 l0_1 x7_1) x9_2).f3)) := (blk_cell BK262.out 3).trans rfl
  have hcz72_4 : w70.cell? ⟨gb262, 4, none⟩ = some (.int .i64 ((rd_T53 (rd_L3 l0_1 x7_1) x9_2).f4)) := (blk_cell BK262.out 4).trans rfl
  have hfz72_0 := blk_frozen BK262.out 0
  have hfz72_1 := blk_frozen BK262.out 1
  have hfz72_2 := blk_frozen BK262.out 2
  have hfz72_3 := blk_frozen BK262.out 3
  have hfz72_4 := blk_frozen BK262.out 4
  try go_wp2_with (first | ((with_reducible refine gate_builtin (b := .append) (xs := #[.tmp 62, .tmp 64]) rfl ?_); at_builtin; refine Kd.R_append k53 (w0 := w) w.heap.size rfl (.tmp 62) (.tmp 64) 50 53 (.agg #[(.int .i64 0), (.int .i64 0), (.int .i64 0), (.int .i64 0), (.int .i64 0)]) 40 rfl Try.underlying50 info53 rfl (by decide) (by omega) u8 x8_2 (⟨(rd_T53 (rd_L3 l0_1 x7_1) x9_2).f0, (rd_T53 (rd_L3 l0_1 x7_1) x9_2).f1, (rd_T53 (rd_L3 l0_1 x7_1) x9_2).f2, (rd_T53 (rd_L3 l0_1 x7_1) x9_2).f3, wrap64 (((rd_T53 (rd_L3 l0_1 x7_1) x9_2).f4) + t263)⟩ : S53) [.int .i64 ((rd_T53 (rd_L3 l0_1 x7_1) x9_2).f0), .int .i64 ((rd_T53 (rd_L3 l0_1 x7_1) x9_2).f1), .int .i64 ((rd_T53 (rd_L3 l0_1 x7_1) x9_2).f2), .int .i64 ((rd_T53 (rd_L3 l0_1 x7_1) x9_2).f3), .int .i64 (wrap64 (((rd_T53 (rd_L3 l0_1 x7_1) x9_2).f4) + t263))] (fun k_ => k_ ≠ gb262) (fun _ => False) rfl (by first | (go_simp; done) | (go_simp; rfl)) ?aP (fun _ hk => hk.elim) ?aF ?aO ?aB ?aS ?aL ?_; (case aP => exact k53_mkM _ _ _ (⟨(rd_T53 (rd_L3 l0_1 x7_1) x9_2).f0, (rd_T53 (rd_L3 l0_1 x7_1) x9_2).f1, (rd_T53 (rd_L3 l0_1 x7_1) x9_2).f2, (rd_T53 (rd_L3 l0_1 x7_1) x9_2).f3, wrap64 (((rd_T53 (rd_L3 l0_1 x7_1) x9_2).f4) + t263)⟩ : S53)); (case aB => exact (hb_ HB.out)); (case aF => exact (fun k_ hk => Kd.freshB (g := gb262) (o := .cells #[.int .i64 ((rd_T53 (rd_L3 l0_1 x7_1) x9_2).f0), .int .i64 ((rd_T53 (rd_L3 l0_1 x7_1) x9_2).f1), .int .i64 ((rd_T53 (rd_L3 l0_1 x7_1) x9_2).f2), .int .i64 ((rd_T53 (rd_L3 l0_1 x7_1) x9_2).f3), .int .i64 (wrap64 (((rd_T53 (rd_L3 l0_1 x7_1) x9_2).f4) + t263))] 53 (0, 0)) (by (with_reducible repeat (first | refine blk_drewN ?_ _ | refine blk_drew ?_ | refine blk_alloc ?_ _)); refine blk_put (cs := #[.int .i64 ((rd_T53 (rd_L3 l0_1 x7_1) x9_2).f0), .int .i64 ((rd_T53 (rd_L3 l0_1 x7_1) x9_2).f1), .int .i64 ((rd_T53 (rd_L3 l0_1 x7_1) x9_2).f2), .int .i64 ((rd_T53 (rd_L3 l0_1 x7_1) x9_2).f3), .int .i64 ((rd_T53 (rd_L3 l0_1 x7_1) x9_2).f4)]) ?_ 4 _ rfl; (with_reducible repeat (first | refine blk_drewN ?_ _ | refine blk_drew ?_ | refine blk_alloc ?_ _)); exact BK262.out) k_ hk)); (case aO => exact (by (with_reducible repeat (first | apply Kd.R_alloc | apply Kd.R_drewN | apply Kd.R_drew)); exact Kd.R_mono (Kd.R_far (p := ⟨gb262, 4, none⟩) (Kd.R_mono HO_8.out (fun k_ hk => (⟨hk, hk⟩ : _ ∧ k_ ≠ gb262))) (fun _ hk => hk.2) (.int .i64 (wrap64 (((rd_T53 (rd_L3 l0_1 x7_1) x9_2).f4) + t263)))) (fun _ hk => hk.1))); (case aS => exact (below_size (hb_ HB.out))); (case aL => have := LMc60.out; omega); intro v265 w73 ho hb hg hat; rw [← Ny264.out] at ho; have n0_ := Aside0.mk (Kd.R_over' (by (with_reducible repeat (first | apply Kd.R_alloc | apply Kd.R_drewN | apply Kd.R_drew)); exact (Kd.R_mono (Kd.R_far (p := ⟨gb262, 4, none⟩) (Kd.R_types HO_241000.out BK262.out (by decide)) (fun _ hk => hk.2) (.int .i64 (wrap64 (((rd_T53 (rd_L3 l0_1 x7_1) x9_2).f4) + t263)))) (fun _ h_ => h_.1))) (Kd.R_typed (by (with_reducible repeat (first | apply Kd.R_alloc | apply Kd.R_drewN | apply Kd.R_drew)); exact (Kd.R_mono (Kd.R_far (p := ⟨gb262, 4, none⟩) (Kd.R_mono HO_8.out (fun k_ hk => (⟨hk, hk⟩ : _ ∧ k_ ≠ gb262))) (fun _ hk => hk.2) (.int .i64 (wrap64 (((rd_T53 (rd_L3 l0_1 x7_1) x9_2).f4) + t263)))) (fun _ h_ => h_.1)))) (by decide) hg); have n1_ := Aside0.mk (Kd.S_after (ok := (fun k_ => k_ ≠ gb262)) (by (with_reducible repeat (first | apply Kd.S_alloc | apply Kd.S_drewN | apply Kd.S_drew)); exact Kd.S_mono (Kd.S_far (p := ⟨gb262, 4, none⟩) (Kd.S_mono HO_241001.out (fun k_ hk => (⟨hk, hk.2⟩ : _ ∧ k_ ≠ gb262))) (fun _ hk => hk.2) (.int .i64 (wrap64 (((rd_T53 (rd_L3 l0_1 x7_1) x9_2).f4) + t263)))) (fun _ hk => ⟨hk.1.2, hk.1.1⟩)) hg hat); have n2_ := Aside0.mk (blk_grown (g := gb232) (o := .cells #[.slice A0_0 l0_0.length c0_0, .slice (some ad241) l0_1.length c0_1] 25 (0, 0)) (by (with_reducible repeat (first | refine blk_drewN ?_ _ | refine blk_drew ?_ | refine blk_alloc ?_ _)); refine blk_far ?_ NB232_262.out _; (with_reducible repeat (first | refine blk_drewN ?_ _ | refine blk_drew ?_ | refine blk_alloc ?_ _)); exact BK232.out) hg (Kd.R_ne HO_8.out BK232.out (by decide))); have n3_ := Aside0.mk (blk_grown (g := gb233) (o := .cells #[.slice none 0 0, .slice none 0 0] 25 (0, 0)) (by (with_reducible repeat (first | refine blk_drewN ?_ _ | refine blk_drew ?_ | refine blk_alloc ?_ _)); refine blk_far ?_ NB233_262.out _; (with_reducible repeat (first | refine blk_drewN ?_ _ | refine blk_drew ?_ | refine blk_alloc ?_ _)); exact BK233.out) hg (Kd.R_ne HO_8.out BK233.out (by decide))); have n4_ := Aside0.mk (blk_grown (g := gb240) (o := .cells #[.slice Ao11 y237.length co11, u241001] 25 (0, 0)) (by (with_reducible repeat (first | refine blk_drewN ?_ _ | refine blk_drew ?_ | refine blk_alloc ?_ _)); refine blk_far ?_ NB240_262.out _; (with_reducible repeat (first | refine blk_drewN ?_ _ | refine blk_drew ?_ | refine blk_alloc ?_ _)); exact BK240.out) hg (Kd.R_ne HO_8.out BK240.out (by decide))); have n5_ := Aside0.mk (blk_grown (g := gb262) (o := .cells #[.int .i64 ((rd_T53 (rd_L3 l0_1 x7_1) x9_2).f0), .int .i64 ((rd_T53 (rd_L3 l0_1 x7_1) x9_2).f1), .int .i64 ((rd_T53 (rd_L3 l0_1 x7_1) x9_2).f2), .int .i64 ((rd_T53 (rd_L3 l0_1 x7_1) x9_2).f3), .int .i64 (wrap64 (((rd_T53 (rd_L3 l0_1 x7_1) x9_2).f4) + t263))] 53 (0, 0)) (by (with_reducible repeat (first | refine blk_drewN ?_ _ | refine blk_drew ?_ | refine blk_alloc ?_ _)); refine blk_put (cs := #[.int .i64 ((rd_T53 (rd_L3 l0_1 x7_1) x9_2).f0), .int .i64 ((rd_T53 (rd_L3 l0_1 x7_1) x9_2).f1), .int .i64 ((rd_T53 (rd_L3 l0_1 x7_1) x9_2).f2), .int .i64 ((rd_T53 (rd_L3 l0_1 x7_1) x9_2).f3), .int .i64 ((rd_T53 (rd_L3 l0_1 x7_1) x9_2).f4)]) ?_ 4 _ rfl; (with_reducible repeat (first | refine blk_drewN ?_ _ | refine blk_drew ?_ | refine blk_alloc ?_ _)); exact BK262.out) hg (Kd.R_away HO_8.out (fun _ hk => hk))); have n6_ := Aside0.mk (hb); have n7_ := Aside0.mk (ho); clear HO_241000; clear HO_241001; clear BK232; clear BK233; clear BK240; clear BK262; clear HB; clear HO_8; have HO_241000 := n0_; have HO_241001 := n1_; have BK232 := n2_; have BK233 := n3_; have BK240 := n4_; have BK262 := n5_; have HB := n6_; have HO266 := n7_; clear n0_ n1_ n2_ n3_ n4_ n5_ n6_ n7_; clear ho hb hg hat))
  go_roundg k2
  case measure => have := HK1.out; have := HK2.out; omega
  case rel => exact ⟨(y264), (wrap64 (x9_2 + 1)), rf_, H', ⟨by have := HK1.out; have := HK2.out; omega⟩, ⟨by (with_reducible repeat (first | apply Kd.R_alloc | apply Kd.R_drewN | apply Kd.R_drew)); exact Kd.R_mono HO266.out (fun _ hk => trivial)⟩, ⟨rd_ HO_241000.out⟩, ⟨by (with_reducible repeat (first | apply Kd.S_alloc | apply Kd.S_drewN | apply Kd.S_drew)); exact Kd.S_mono HO_241001.out (fun _ hk => hk.2)⟩, ⟨bd_ BK232.out⟩, ⟨bd_ BK233.out⟩, ⟨bd_ BK240.out⟩, ⟨hb_ HB.out⟩⟩
 subst c24
 have H1 : (if x8_2.length < 3518437208883 then ((some (x8_2 ++ [(⟨6, 0, 0, 0, 0⟩ : S53)] : List (S53))).bind fun y247 => (if 0 ≤ x9_2 then (if ((rd_T53 (rd_L3 l0_1 x7_1) x9_2).f0) ≥ 8 then ((fencepostref08_Count.f k2 l1 x6_1 ((rd_T53 (rd_L3 l0_1 x7_1) x9_2).f4)).bind fun t253 => (if y247.length < 3518437208883 then (fencepostref08_Insert.l1 k2 l1 x6_1 x7_1 (y247 ++ [(⟨(rd_T53 (rd_L3 l0_1 x7_1) x9_2).f0, (rd_T53 (rd_L3 l0_1 x7_1) x9_2).f1, (rd_T53 (rd_L3 l0_1 x7_1) x9_2).f2, (rd_T53 (rd_L3 l0_1 x7_1) x9_2).f3, wrap64 (((rd_T53 (rd_L3 l0_1 x7_1) x9_2).f4) + t253)⟩ : S53)]) (wrap64 (x9_2 + 1)) l0_0 l0_1 y237 x241001_1) else (none))) else (if y247.length < 3518437208883 then (fencepostref08_Insert.l1 k2 l1 x6_1 x7_1 (y247 ++ [(⟨(rd_T53 (rd_L3 l0_1 x7_1) x9_2).f0, (rd_T53 (rd_L3 l0_1 x7_1) x9_2).f1, (rd_T53 (rd_L3 l0_1 x7_1) x9_2).f2, (rd_T53 (rd_L3 l0_1 x7_1) x9_2).f3, (rd_T53 (rd_L3 l0_1 x7_1) x9_2).f4⟩ : S53)]) (wrap64 (x9_2 + 1)) l0_0 l0_1 y237 x241001_1) else (none))) else (none))) else (none)) = some (r1, r2) := by rw [if_pos rfl] at H; exact H
 clear H
 have H := H1
 clear H1
 by_cases c25 : x8_2.length < 3518437208883
 rotate_left
 ·rw [if_neg c25] at H
  exact absurd H (by simp)
 rw [if_pos c25] at H
 have LMc25 := Aside0.mk c25
 clear c25
 obtain ⟨y247, hy247⟩ : ∃ y_ : List (S53), y_ = (x8_2 ++ [(⟨6, 0, 0, 0, 0⟩ : S53)]) := ⟨_, rfl⟩
 replace H : (if 0 ≤ x9_2 then (if ((rd_T53 (rd_L3 l0_1 x7_1) x9_2).f0) ≥ 8 then ((fencepostref08_Count.f k2 l1 x6_1 ((rd_T53 (rd_L3 l0_1 x7_1) x9_2).f4)).bind fun t253 => (if y247.length < 3518437208883 then (fencepostref08_Insert.l1 k2 l1 x6_1 x7_1 (y247 ++ [(⟨(rd_T53 (rd_L3 l0_1 x7_1) x9_2).f0, (rd_T53 (rd_L3 l0_1 x7_1) x9_2).f1, (rd_T53 (rd_L3 l0_1 x7_1) x9_2).f2, (rd_T53 (rd_L3 l0_1 x7_1) x9_2).f3, wrap64 (((rd_T53 (rd_L3 l0_1 x7_1) x9_2).f4) + t253)⟩ : S53)]) (wrap64 (x9_2 + 1)) l0_0 l0_1 y237 x241001_1) else (none))) else (if y247.length < 3518437208883 then (fencepostref08_Insert.l1 k2 l1 x6_1 x7_1 (y247 ++ [(⟨(rd_T53 (rd_L3 l0_1 x7_1) x9_2).f0, (rd_T53 (rd_L3 l0_1 x7_1) x9_2).f1, (rd_T53 (rd_L3 l0_1 x7_1) x9_2).f2, (rd_T53 (rd_L3 l0_1 x7_1) x9_2).f3, (rd_T53 (rd_L3 l0_1 x7_1) x9_2).f4⟩ : S53)]) (wrap64 (x9_2 + 1)) l0_0 l0_1 y237 x241001_1) else (none))) else (none)) = some (r1, r2) := by first | (rw [hy247]; with_reducible exact H) | (have H2_ := (Option.bind_some _ _).symm.trans H; rw [hy247]; with_reducible exact H2_) | (have H2_ := (Option.bind_some _ _).symm.trans H; with_reducible exact H2_) | with_reducible exact H | (rw [hy247]; exact H) | exact H
 have Ny247 := Aside0.mk hy247
 clear hy247
 by_cases c26 : 0 ≤ x9_2
 rotate_left
 ·rw [if_neg c26] at H
  exact absurd H (by simp)
 rw [if_pos c26] at H
 have c26b0 : decide (0 ≤ x9_2) = true := decide_eq_true c26
 clear c26
 by_cases c27 : ((rd_T53 (rd_L3 l0_1 x7_1) x9_2).f0) ≥ 8
 rotate_left
 ·rw [if_neg c27] at H
  have c27b0 : decide (8 ≤ ((rd_T53 (rd_L3 l0_1 x7_1) x9_2).f0)) = false := decide_eq_false c27
  clear c27
  by_cases c45 : y247.length < 3518437208883
  rotate_left
  ·rw [if_neg c45] at H
   exact absurd H (by simp)
  rw [if_pos c45] at H
  have LMc45 := Aside0.mk c45
  clear c45
  obtain ⟨y257, hy257⟩ : ∃ y_ : List (S53), y_ = (y247 ++ [(⟨(rd_T53 (rd_L3 l0_1 x7_1) x9_2).f0, (rd_T53 (rd_L3 l0_1 x7_1) x9_2).f1, (rd_T53 (rd_L3 l0_1 x7_1) x9_2).f2, (rd_T53 (rd_L3 l0_1 x7_1) x9_2).f3, (rd_T53 (rd_L3 l0_1 x7_1) x9_2).f4⟩ : S53)]) := ⟨_, rfl⟩
  replace H : (fencepostref08_Insert.l1 k2 l1 x6_1 x7_1 y257 (wrap64 (x9_2 + 1)) l0_0 l0_1 y237 x241001_1) = some (r1, r2) := by first | (rw [hy257]; with_reducible exact H) | (have H2_ := (Option.bind_some _ _).symm.trans H; rw [hy257]; with_reducible exact H2_) | (have H2_ := (Option.bind_some _ _).symm.trans H; with_reducible exact H2_) | with_reducible exact H | (rw [hy257]; exact H) | exact H
  have Ny257 := Aside0.mk hy257
  clear hy257
  have H' := Aside0.mk H
  clear H
  have hnb46 := NB232_233.out
  have hnc46 := NB233_232.out
  have hnb47 := NB232_240.out
  have hnc47 := NB240_232.out
  have hcz48_0 : wr.cell? ⟨gb232, 0, none⟩ = some (.slice A0_0 l0_0.length c0_0) := (blk_cell BK232.out 0).trans rfl
  have hcz48_1 : wr.cell? ⟨gb232, 1, none⟩ = some (.slice A0_1 l0_1.length c0_1) := (blk_cell BK232.out 1).trans rfl
  have hfz48_0 := blk_frozen BK232.out 0
  have hfz48_1 := blk_frozen BK232.out 1
  have p241 : 0 ≤ (x7_1 : Int) := of_decide_eq_true as_
  have q241 : x7_1 < (l0_1.length : Int) := of_decide_eq_true as_
  obtain ⟨ad241, A241_0, c241_0, e241, hx241_0, hl241_0, hi241_0⟩ := at_L3 HR0_1.out x7_1 p241 q241
  cases e241
  have hzx241_0 := Aside0.mk hx241_0; replace hx241_0 := cl_ HB.out hx241_0
  have HR241_0 := Aside0.mk hi241_0
  have HC241_0 := Aside0.mk hl241_0
  clear hi241_0 hl241_0
  replace p241 := eq_true p241
  replace q241 := eq_true q241
  go_wp2_with (first | ((with_reducible refine gate_callee (f := 29) rfl ?_); refine goesL_ (some 37) rfl rfl Try.func29 (by kernel_rfl) rfl #[.slice A1 l1.length c1, .int .i64 (wrap64 (x6_1 + x9_2))] rfl ar_ ?_; (with_reducible refine (fencepostref08_Has.calls k2 _ _ l1 (wrap64 (x6_1 + x9_2)) true _ ?side1 ?side2 A23.out).mono ?_); (case side1 => exact cd_ (Kd.C_below HR1.out HB.out)); (case side2 => exact HC1.out); rintro e w' ⟨rfl, ⟨nd, rfl⟩⟩; refine ⟨_, rfl, ?_⟩; (try (rw [drewN_self wr]; generalize hq_ : World.drewN wr _ = wr; have n0_ : Aside0 (Kd.R (Kd.int .i64) 3 wr w.heap.size (fun _ => True) (.slice Ao11 y237.length co11) y237) := ⟨by rw [← hq_]; exact (rd_ HO_241000.out)⟩; have n1_ : Aside0 (Kd.S (Kd.slice 53 k53) 50 wr w.heap.size (fun k_ => some k_ ≠ (u8 : Value).ownBlock) u241001 x241001_1) := ⟨by rw [← hq_]; exact (sd_ HO_241001.out)⟩; have n2_ : Aside0 (Kd.R k53 53 wr w.heap.size (fun _ => True) u8 x8_2) := ⟨by rw [← hq_]; exact (rd_ HO_8.out)⟩; have n3_ : Aside0 (wr.heap[gb232]? = some (.cells #[.slice A0_0 l0_0.length c0_0, .slice (some ad241) l0_1.length c0_1] 25 (0, 0))) := ⟨by rw [← hq_]; exact (bd_ BK232.out)⟩; have n4_ : Aside0 (wr.heap[gb233]? = some (.cells #[.slice none 0 0, .slice none 0 0] 25 (0, 0))) := ⟨by rw [← hq_]; exact (bd_ BK233.out)⟩; have n5_ : Aside0 (wr.heap[gb240]? = some (.cells #[.slice Ao11 y237.length co11, u241001] 25 (0, 0))) := ⟨by rw [← hq_]; exact (bd_ BK240.out)⟩; have n6_ : Aside0 (Below w.heap.size w wr) := ⟨by rw [← hq_]; exact (hb_ HB.out)⟩; clear HO_241000 HO_241001 HO_8 BK232 BK233 BK240 HB hq_; have HO_241000 := n0_; have HO_241001 := n1_; have HO_8 := n2_; have BK232 := n3_; have BK233 := n4_; have BK240 := n5_; have HB := n6_; clear n0_ n1_ n2_ n3_ n4_ n5_ n6_))) | ((with_reducible refine gate_builtin (b := .append) (xs := #[.tmp 38, .tmp 40]) rfl ?_); at_builtin; refine Kd.R_append k53 (w0 := w) w.heap.size rfl (.tmp 38) (.tmp 40) 50 53 (.agg #[(.int .i64 0), (.int .i64 0), (.int .i64 0), (.int .i64 0), (.int .i64 0)]) 40 rfl Try.underlying50 info53 rfl (by decide) (by omega) u8 x8_2 (⟨6, 0, 0, 0, 0⟩ : S53) [.int .i64 6, .int .i64 0, .int .i64 0, .int .i64 0, .int .i64 0] (fun _ => True) (fun _ => False) rfl rfl ?aP (fun _ hk => hk.elim) ?aF ?aO ?aB ?aS ?aL ?_; (case aP => exact k53_mkM _ _ _ (⟨6, 0, 0, 0, 0⟩ : S53)); (case aB => exact (hb_ HB.out)); (case aF => exact (fun _ _ => trivial)); (case aO => exact (rd_ HO_8.out)); (case aS => exact (below_size (hb_ HB.out))); (case aL => have := LMc25.out; omega); intro v248 w49 ho hb hg hat; rw [← Ny247.out] at ho; have n0_ := Aside0.mk (Kd.R_over' (rd_ HO_241000.out) (Kd.R_typed (rd_ HO_8.out)) (by decide) hg); have n1_ := Aside0.mk (Kd.S_after (ok := (fun _ => True)) (by (with_reducible repeat (first | apply Kd.S_alloc | apply Kd.S_drewN | apply Kd.S_drew)); exact Kd.S_mono HO_241001.out (fun _ hk => ⟨trivial, hk⟩)) hg hat); have n2_ := Aside0.mk (blk_grown (g := gb232) (o := .cells #[.slice A0_0 l0_0.length c0_0, .slice (some ad241) l0_1.length c0_1] 25 (0, 0)) (bd_ BK232.out) hg (Kd.R_ne HO_8.out BK232.out (by decide))); have n3_ := Aside0.mk (blk_grown (g := gb233) (o := .cells #[.slice none 0 0, .slice none 0 0] 25 (0, 0)) (bd_ BK233.out) hg (Kd.R_ne HO_8.out BK233.out (by decide))); have n4_ := Aside0.mk (blk_grown (g := gb240) (o := .cells #[.slice Ao11 y237.length co11, u241001] 25 (0, 0)) (bd_ BK240.out) hg (Kd.R_ne HO_8.out BK240.out (by decide))); have n5_ := Aside0.mk (hb); have n6_ := Aside0.mk (ho); clear HO_241000; clear HO_241001; clear BK232; clear BK233; clear BK240; clear HB; clear HO_8; have HO_241000 := n0_; have HO_241001 := n1_; have BK232 := n2_; have BK233 := n3_; have BK240 := n4_; have HB := n5_; have HO249 := n6_; clear n0_ n1_ n2_ n3_ n4_ n5_ n6_; clear ho hb hg hat; have hcz50_0 : w49.cell? ⟨gb232, 0, none⟩ = some (.slice A0_0 l0_0.length c0_0) := (blk_cell BK232.out 0).trans rfl; have hcz50_1 : w49.cell? ⟨gb232, 1, none⟩ = some (.slice (some ad241) l0_1.length c0_1) := (blk_cell BK232.out 1).trans rfl; have hfz50_0 := blk_frozen BK232.out 0; have hfz50_1 := blk_frozen BK232.out 1; have p250 : 0 ≤ (x7_1 : Int) := of_decide_eq_true as_; have q250 : x7_1 < (l0_1.length : Int) := of_decide_eq_true as_; obtain ⟨ad250, A250_0, c250_0, e250, hx250_0, hl250_0, hi250_0⟩ := at_L3 HR0_1.out x7_1 p250 q250; obtain rfl : ad241 = ad250 := (by injection e250); have hzx250_0 := Aside0.mk hx250_0; replace hx250_0 := cl_ HB.out hx250_0; have HR250_0 := Aside0.mk hi250_0; have HC250_0 := Aside0.mk hl250_0; clear hi250_0 hl250_0; replace p250 := eq_true p250; replace q250 := eq_true q250; have p251 : 0 ≤ (x9_2 : Int) := of_decide_eq_true as_; have q251 : x9_2 < ((rd_L3 l0_1 x7_1).length : Int) := of_decide_eq_true as_; obtain ⟨ad251, e251, hx251_0, hx251_1, hx251_2, hx251_3, hx251_4⟩ := at_T53 HR250_0.out x9_2 p251 q251; cases e251; have hzx251_0 := Aside0.mk hx251_0; replace hx251_0 := cl_ HB.out hx251_0; have hzx251_1 := Aside0.mk hx251_1; replace hx251_1 := cl_ HB.out hx251_1; have hzx251_2 := Aside0.mk hx251_2; replace hx251_2 := cl_ HB.out hx251_2; have hzx251_3 := Aside0.mk hx251_3; replace hx251_3 := cl_ HB.out hx251_3; have hzx251_4 := Aside0.mk hx251_4; replace hx251_4 := cl_ HB.out hx251_4; replace p251 := eq_true p251; replace q251 := eq_true q251) | ((with_reducible refine gate_dst (N := 10) rfl ?_); refine box_event ?hg (N := 10) ?hd (cs := #[.int .i64 0, .int .i64 0, .int .i64 0, .int .i64 0, .int .i64 0]) (t := 53) ?hr ?_; (case hd => rfl); (case hg => rfl); (case hr => first | (go_simp; done) | (go_simp; rfl)); intro gb252 hg w51 hbox hb; have n0_ := Aside0.mk (Kd.R_below (rd_ HO_241000.out) hb); have n1_ := Aside0.mk (Kd.S_below (Kd.S_elderB (sd_ HO_241001.out) gb252 (Nat.le_of_eq hg.symm)) hb); have n2_ := Aside0.mk (Kd.R_below (Kd.R_elderB (rd_ HO249.out) gb252 (Nat.le_of_eq hg.symm)) hb); have n3_ := Aside0.mk (bb_ BK232.out hb); have n4_ := Aside0.mk (bb_ BK233.out hb); have n5_ := Aside0.mk (bb_ BK240.out hb); have n6_ := Aside0.mk (below_step (hb_ HB.out) hb); have n7_ := Aside0.mk (hbox); have n8_ := Aside0.mk (gs_ hg (hb_ HB.out)); have n9_ := Aside0.mk (gs_ hg (hb_ HB.out)); have n10_ := Aside0.mk (gn_ hg BK232.out); have n11_ := Aside0.mk (gn_ hg BK232.out).symm; have n12_ := Aside0.mk (gn_ hg BK233.out); have n13_ := Aside0.mk (gn_ hg BK233.out).symm; have n14_ := Aside0.mk (gn_ hg BK240.out); have n15_ := Aside0.mk (gn_ hg BK240.out).symm; clear HO_241000; clear HO_241001; clear HO249; clear BK232; clear BK233; clear BK240; clear HB; have HO_241000 := n0_; have HO_241001 := n1_; have HO249 := n2_; have BK232 := n3_; have BK233 := n4_; have BK240 := n5_; have HB := n6_; have BK252 := n7_; have GW252 := n8_; have GE252 := n9_; have NB232_252 := n10_; have NB252_232 := n11_; have NB233_252 := n12_; have NB252_233 := n13_; have NB240_252 := n14_; have NB252_240 := n15_; clear n0_ n1_ n2_ n3_ n4_ n5_ n6_ n7_ n8_ n9_ n10_ n11_ n12_ n13_ n14_ n15_; clear hb hbox hg; have hnb52 := NB252_232.out; have hnc52 := NB232_252.out; have hnb53 := NB252_233.out; have hnc53 := NB233_252.out; have hnb54 := NB252_240.out; have hnc54 := NB240_252.out; have hcz55_0 : w51.cell? ⟨gb252, 0, none⟩ = some (.int .i64 0) := (blk_cell BK252.out 0).trans rfl; have hcz55_1 : w51.cell? ⟨gb252, 1, none⟩ = some (.int .i64 0) := (blk_cell BK252.out 1).trans rfl; have hcz55_2 : w51.cell? ⟨gb252, 2, none⟩ = some (.int .i64 0) := (blk_cell BK252.out 2).trans rfl; have hcz55_3 : w51.cell? ⟨gb252, 3, none⟩ = some (.int .i64 0) := (blk_cell BK252.out 3).trans rfl; have hcz55_4 : w51.cell? ⟨gb252, 4, none⟩ = some (.int .i64 0) := (blk_cell BK252.out 4).trans rfl; have hfz55_0 := blk_frozen BK252.out 0; have hfz55_1 := blk_frozen BK252.out 1; have hfz55_2 := blk_frozen BK252.out 2; have hfz55_3 := blk_frozen BK252.out 3; have hfz55_4 := blk_frozen BK252.out 4) | ((with_reducible refine gate_builtin (b := .append) (xs := #[.tmp 62, .tmp 64]) rfl ?_); at_builtin; refine Kd.R_append k53 (w0 := w) w.heap.size rfl (.tmp 62) (.tmp 64) 50 53 (.agg #[(.int .i64 0), (.int .i64 0), (.int .i64 0), (.int .i64 0), (.int .i64 0)]) 40 rfl Try.underlying50 info53 rfl (by decide) (by omega) v248 y247 (⟨(rd_T53 (rd_L3 l0_1 x7_1) x9_2).f0, (rd_T53 (rd_L3 l0_1 x7_1) x9_2).f1, (rd_T53 (rd_L3 l0_1 x7_1) x9_2).f2, (rd_T53 (rd_L3 l0_1 x7_1) x9_2).f3, (rd_T53 (rd_L3 l0_1 x7_1) x9_2).f4⟩ : S53) [.int .i64 ((rd_T53 (rd_L3 l0_1 x7_1) x9_2).f0), .int .i64 ((rd_T53 (rd_L3 l0_1 x7_1) x9_2).f1), .int .i64 ((rd_T53 (rd_L3 l0_1 x7_1) x9_2).f2), .int .i64 ((rd_T53 (rd_L3 l0_1 x7_1) x9_2).f3), .int .i64 ((rd_T53 (rd_L3 l0_1 x7_1) x9_2).f4)] (fun k_ => k_ ≠ gb252) (fun _ => False) rfl (by first | (go_simp; done) | (go_simp; rfl)) ?aP (fun _ hk => hk.elim) ?aF ?aO ?aB ?aS ?aL ?_; (case aP => exact k53_mkM _ _ _ (⟨(rd_T53 (rd_L3 l0_1 x7_1) x9_2).f0, (rd_T53 (rd_L3 l0_1 x7_1) x9_2).f1, (rd_T53 (rd_L3 l0_1 x7_1) x9_2).f2, (rd_T53 (rd_L3 l0_1 x7_1) x9_2).f3, (rd_T53 (rd_L3 l0_1 x7_1) x9_2).f4⟩ : S53)); (case aB => exact (hb_ HB.out)); (case aF => exact (fun k_ hk => Kd.freshB (g := gb252) (o := .cells #[.int .i64 ((rd_T53 (rd_L3 l0_1 x7_1) x9_2).f0), .int .i64 ((rd_T53 (rd_L3 l0_1 x7_1) x9_2).f1), .int .i64 ((rd_T53 (rd_L3 l0_1 x7_1) x9_2).f2), .int .i64 ((rd_T53 (rd_L3 l0_1 x7_1) x9_2).f3), .int .i64 ((rd_T53 (rd_L3 l0_1 x7_1) x9_2).f4)] 53 (0, 0)) (by exact bp5_ BK252.out) k_ hk)); (case aO => exact (by (with_reducible repeat (first | apply Kd.R_alloc | apply Kd.R_drewN | apply Kd.R_drew)); exact Kd.R_mono (Kd.R_far (p := ⟨gb252, 4, none⟩) (Kd.R_far (p := ⟨gb252, 3, none⟩) (Kd.R_far (p := ⟨gb252, 2, none⟩) (Kd.R_far (p := ⟨gb252, 1, none⟩) (Kd.R_far (p := ⟨gb252, 0, none⟩) (Kd.R_mono HO249.out (fun k_ hk => (⟨hk, hk.2⟩ : _ ∧ k_ ≠ gb252))) (fun _ hk => hk.2) (.int .i64 ((rd_T53 (rd_L3 l0_1 x7_1) x9_2).f0))) (fun _ hk => hk.2) (.int .i64 ((rd_T53 (rd_L3 l0_1 x7_1) x9_2).f1))) (fun _ hk => hk.2) (.int .i64 ((rd_T53 (rd_L3 l0_1 x7_1) x9_2).f2))) (fun _ hk => hk.2) (.int .i64 ((rd_T53 (rd_L3 l0_1 x7_1) x9_2).f3))) (fun _ hk => hk.2) (.int .i64 ((rd_T53 (rd_L3 l0_1 x7_1) x9_2).f4))) (fun _ hk => hk.1.2))); (case aS => exact (below_size (hb_ HB.out))); (case aL => have := LMc45.out; omega); intro v258 w56 ho hb hg hat; rw [← Ny257.out] at ho; have n0_ := Aside0.mk (Kd.R_over' (by (with_reducible repeat (first | apply Kd.R_alloc | apply Kd.R_drewN | apply Kd.R_drew)); exact (Kd.R_mono (Kd.R_far (p := ⟨gb252, 4, none⟩) (Kd.R_far (p := ⟨gb252, 3, none⟩) (Kd.R_far (p := ⟨gb252, 2, none⟩) (Kd.R_far (p := ⟨gb252, 1, none⟩) (Kd.R_far (p := ⟨gb252, 0, none⟩) (Kd.R_types HO_241000.out BK252.out (by decide)) (fun _ hk => hk.2) (.int .i64 ((rd_T53 (rd_L3 l0_1 x7_1) x9_2).f0))) (fun _ hk => hk.2) (.int .i64 ((rd_T53 (rd_L3 l0_1 x7_1) x9_2).f1))) (fun _ hk => hk.2) (.int .i64 ((rd_T53 (rd_L3 l0_1 x7_1) x9_2).f2))) (fun _ hk => hk.2) (.int .i64 ((rd_T53 (rd_L3 l0_1 x7_1) x9_2).f3))) (fun _ hk => hk.2) (.int .i64 ((rd_T53 (rd_L3 l0_1 x7_1) x9_2).f4))) (fun _ h_ => h_.1))) (Kd.R_typed (by (with_reducible repeat (first | apply Kd.R_alloc | apply Kd.R_drewN | apply Kd.R_drew)); exact (Kd.R_mono (Kd.R_far (p := ⟨gb252, 4, none⟩) (Kd.R_far (p := ⟨gb252, 3, none⟩) (Kd.R_far (p := ⟨gb252, 2, none⟩) (Kd.R_far (p := ⟨gb252, 1, none⟩) (Kd.R_far (p := ⟨gb252, 0, none⟩) (Kd.R_mono HO249.out (fun k_ hk => (⟨hk, hk.2⟩ : _ ∧ k_ ≠ gb252))) (fun _ hk => hk.2) (.int .i64 ((rd_T53 (rd_L3 l0_1 x7_1) x9_2).f0))) (fun _ hk => hk.2) (.int .i64 ((rd_T53 (rd_L3 l0_1 x7_1) x9_2).f1))) (fun _ hk => hk.2) (.int .i64 ((rd_T53 (rd_L3 l0_1 x7_1) x9_2).f2))) (fun _ hk => hk.2) (.int .i64 ((rd_T53 (rd_L3 l0_1 x7_1) x9_2).f3))) (fun _ hk => hk.2) (.int .i64 ((rd_T53 (rd_L3 l0_1 x7_1) x9_2).f4))) (fun _ h_ => h_.1)))) (by decide) hg); have n1_ := Aside0.mk (Kd.S_after (ok := (fun k_ => k_ ≠ gb252)) (by (with_reducible repeat (first | apply Kd.S_alloc | apply Kd.S_drewN | apply Kd.S_drew)); exact Kd.S_mono (Kd.S_far (p := ⟨gb252, 4, none⟩) (Kd.S_far (p := ⟨gb252, 3, none⟩) (Kd.S_far (p := ⟨gb252, 2, none⟩) (Kd.S_far (p := ⟨gb252, 1, none⟩) (Kd.S_far (p := ⟨gb252, 0, none⟩) (Kd.S_mono HO_241001.out (fun k_ hk => (⟨hk, hk.2⟩ : _ ∧ k_ ≠ gb252))) (fun _ hk => hk.2) (.int .i64 ((rd_T53 (rd_L3 l0_1 x7_1) x9_2).f0))) (fun _ hk => hk.2) (.int .i64 ((rd_T53 (rd_L3 l0_1 x7_1) x9_2).f1))) (fun _ hk => hk.2) (.int .i64 ((rd_T53 (rd_L3 l0_1 x7_1) x9_2).f2))) (fun _ hk => hk.2) (.int .i64 ((rd_T53 (rd_L3 l0_1 x7_1) x9_2).f3))) (fun _ hk => hk.2) (.int .i64 ((rd_T53 (rd_L3 l0_1 x7_1) x9_2).f4))) (fun _ hk => ⟨hk.1.2, hk.1.1.2⟩)) hg hat); have n2_ := Aside0.mk (blk_grown (g := gb232) (o := .cells #[.slice A0_0 l0_0.length c0_0, .slice (some ad241) l0_1.length c0_1] 25 (0, 0)) (by exact bf5_ BK232.out NB232_252.out) hg (Kd.R_ne HO249.out BK232.out (by decide))); have n3_ := Aside0.mk (blk_grown (g := gb233) (o := .cells #[.slice none 0 0, .slice none 0 0] 25 (0, 0)) (by exact bf5_ BK233.out NB233_252.out) hg (Kd.R_ne HO249.out BK233.out (by decide))); have n4_ := Aside0.mk (blk_grown (g := gb240) (o := .cells #[.slice Ao11 y237.length co11, u241001] 25 (0, 0)) (by exact bf5_ BK240.out NB240_252.out) hg (Kd.R_ne HO249.out BK240.out (by decide))); have n5_ := Aside0.mk (blk_grown (g := gb252) (o := .cells #[.int .i64 ((rd_T53 (rd_L3 l0_1 x7_1) x9_2).f0), .int .i64 ((rd_T53 (rd_L3 l0_1 x7_1) x9_2).f1), .int .i64 ((rd_T53 (rd_L3 l0_1 x7_1) x9_2).f2), .int .i64 ((rd_T53 (rd_L3 l0_1 x7_1) x9_2).f3), .int .i64 ((rd_T53 (rd_L3 l0_1 x7_1) x9_2).f4)] 53 (0, 0)) (by exact bp5_ BK252.out) hg (Kd.R_away HO249.out (fun _ hk => hk.2))); have n6_ := Aside0.mk (hb); have n7_ := Aside0.mk (ho); clear HO_241000; clear HO_241001; clear BK232; clear BK233; clear BK240; clear BK252; clear HB; clear HO249; have HO_241000 := n0_; have HO_241001 := n1_; have BK232 := n2_; have BK233 := n3_; have BK240 := n4_; have BK252 := n5_; have HB := n6_; have HO259 := n7_; clear n0_ n1_ n2_ n3_ n4_ n5_ n6_ n7_; clear ho hb hg hat))
  go_roundg k2
  case measure => have := HK1.out; have := HK2.out; omega
  case rel => exact ⟨(y257), (wrap64 (x9_2 + 1)), rf_, H', ⟨by have := HK1.out; have := HK2.out; omega⟩, ⟨by (with_reducible repeat (first | apply Kd.R_alloc | apply Kd.R_drewN | apply Kd.R_drew)); exact Kd.R_mono HO259.out (fun _ hk => trivial)⟩, ⟨rd_ HO_241000.out⟩, ⟨by (with_reducible repeat (first | apply Kd.S_alloc | apply Kd.S_drewN | apply Kd.S_drew)); exact Kd.S_mono HO_241001.out (fun _ hk => hk.2)⟩, ⟨bd_ BK232.out⟩, ⟨bd_ BK233.out⟩, ⟨bd_ BK240.out⟩, ⟨hb_ HB.out⟩⟩
 rw [if_pos c27] at H
 have c27b0 : decide (8 ≤ ((rd_T53 (rd_L3 l0_1 x7_1) x9_2).f0)) = true := decide_eq_true c27
 clear c27
 replace H := Option.bind_eq_some_iff.mp H
 obtain ⟨t253, A280, H⟩ := H
 replace H : (if y247.length < 3518437208883 then (fencepostref08_Insert.l1 k2 l1 x6_1 x7_1 (y247 ++ [(⟨(rd_T53 (rd_L3 l0_1 x7_1) x9_2).f0, (rd_T53 (rd_L3 l0_1 x7_1) x9_2).f1, (rd_T53 (rd_L3 l0_1 x7_1) x9_2).f2, (rd_T53 (rd_L3 l0_1 x7_1) x9_2).f3, wrap64 (((rd_T53 (rd_L3 l0_1 x7_1) x9_2).f4) + t253)⟩ : S53)]) (wrap64 (x9_2 + 1)) l0_0 l0_1 y237 x241001_1) else (none)) = some (r1, r2) := H
 have A28 := Aside0.mk A280
 clear A280
 by_cases c29 : y247.length < 3518437208883
 rotate_left
 ·rw [if_neg c29] at H
  exact absurd H (by simp)
 rw [if_pos c29] at H
 have LMc29 := Aside0.mk c29
 clear c29
 obtain ⟨y254, hy254⟩ : ∃ y_ : List (S53), y_ = (y247 ++ [(⟨(rd_T53 (rd_L3 l0_1 x7_1) x9_2).f0, (rd_T53 (rd_L3 l0_1 x7_1) x9_2).f1, (rd_T53 (rd_L3 l0_1 x7_1) x9_2).f2, (rd_T53 (rd_L3 l0_1 x7_1) x9_2).f3, wrap64 (((rd_T53 (rd_L3 l0_1 x7_1) x9_2).f4) + t253)⟩ : S53)]) := ⟨_, rfl⟩
 replace H : (fencepostref08_Insert.l1 k2 l1 x6_1 x7_1 y254 (wrap64 (x9_2 + 1)) l0_0 l0_1 y237 x241001_1) = some (r1, r2) := by first | (rw [hy254]; with_reducible exact H) | (have H2_ := (Option.bind_some _ _).symm.trans H; rw [hy254]; with_reducible exact H2_) | (have H2_ := (Option.bind_some _ _).symm.trans H; with_reducible exact H2_) | with_reducible exact H | (rw [hy254]; exact H) | exact H
 have Ny254 := Aside0.mk hy254
 clear hy254
 have H' := Aside0.mk H
 clear H
 have hnb30 := NB232_233.out
 have hnc30 := NB233_232.out
 have hnb31 := NB232_240.out
 have hnc31 := NB240_232.out
 have hcz32_0 : wr.cell? ⟨gb232, 0, none⟩ = some (.slice A0_0 l0_0.length c0_0) := (blk_cell BK232.out 0).trans rfl
 have hcz32_1 : wr.cell? ⟨gb232, 1, none⟩ = some (.slice A0_1 l0_1.length c0_1) := (blk_cell BK232.out 1).trans rfl
 have hfz32_0 := blk_frozen BK232.out 0
 have hfz32_1 := blk_frozen BK232.out 1
 have p241 : 0 ≤ (x7_1 : Int) := of_decide_eq_true as_
 have q241 : x7_1 < (l0_1.length : Int) := of_decide_eq_true as_
 obtain ⟨ad241, A241_0, c241_0, e241, hx241_0, hl241_0, hi241_0⟩ := at_L3 HR0_1.out x7_1 p241 q241
 cases e241
 have hzx241_0 := Aside0.mk hx241_0; replace hx241_0 := cl_ HB.out hx241_0
 have HR241_0 := Aside0.mk hi241_0
 have HC241_0 := Aside0.mk hl241_0
 clear hi241_0 hl241_0
 replace p241 := eq_true p241
 replace q241 := eq_true q241
 try go_wp2_with (first | ((with_reducible refine gate_callee (f := 29) rfl ?_); refine goesL_ (some 37) rfl rfl Try.func29 (by kernel_rfl) rfl #[.slice A1 l1.length c1, .int .i64 (wrap64 (x6_1 + x9_2))] rfl ar_ ?_; (with_reducible refine (fencepostref08_Has.calls k2 _ _ l1 (wrap64 (x6_1 + x9_2)) true _ ?side1 ?side2 A23.out).mono ?_); (case side1 => exact cd_ (Kd.C_below HR1.out HB.out)); (case side2 => exact HC1.out); rintro e w' ⟨rfl, ⟨nd, rfl⟩⟩; refine ⟨_, rfl, ?_⟩; (try (rw [drewN_self wr]; generalize hq_ : World.drewN wr _ = wr; have n0_ : Aside0 (Kd.R (Kd.int .i64) 3 wr w.heap.size (fun _ => True) (.slice Ao11 y237.length co11) y237) := ⟨by rw [← hq_]; exact (rd_ HO_241000.out)⟩; have n1_ : Aside0 (Kd.S (Kd.slice 53 k53) 50 wr w.heap.size (fun k_ => some k_ ≠ (u8 : Value).ownBlock) u241001 x241001_1) := ⟨by rw [← hq_]; exact (sd_ HO_241001.out)⟩; have n2_ : Aside0 (Kd.R k53 53 wr w.heap.size (fun _ => True) u8 x8_2) := ⟨by rw [← hq_]; exact (rd_ HO_8.out)⟩; have n3_ : Aside0 (wr.heap[gb232]? = some (.cells #[.slice A0_0 l0_0.length c0_0, .slice (some ad241) l0_1.length c0_1] 25 (0, 0))) := ⟨by rw [← hq_]; exact (bd_ BK232.out)⟩; have n4_ : Aside0 (wr.heap[gb233]? = some (.cells #[.slice none 0 0, .slice none 0 0] 25 (0, 0))) := ⟨by rw [← hq_]; exact (bd_ BK233.out)⟩; have n5_ : Aside0 (wr.heap[gb240]? = some (.cells #[.slice Ao11 y237.length co11, u241001] 25 (0, 0))) := ⟨by rw [← hq_]; exact (bd_ BK240.out)⟩; have n6_ : Aside0 (Below w.heap.size w wr) := ⟨by rw [← hq_]; exact (hb_ HB.out)⟩; clear HO_241000 HO_241001 HO_8 BK232 BK233 BK240 HB hq_; have HO_241000 := n0_; have HO_241001 := n1_; have HO_8 := n2_; have BK232 := n3_; have BK233 := n4_; have BK240 := n5_; have HB := n6_; clear n0_ n1_ n2_ n3_ n4_ n5_ n6_))) | ((with_reducible refine gate_builtin (b := .append) (xs := #[.tmp 38, .tmp 40]) rfl ?_); at_builtin; refine Kd.R_append k53 (w0 := w) w.heap.size rfl (.tmp 38) (.tmp 40) 50 53 (.agg #[(.int .i64 0), (.int .i64 0), (.int .i64 0), (.int .i64 0), (.int .i64 0)]) 40 rfl Try.underlying50 info53 rfl (by decide) (by omega) u8 x8_2 (⟨6, 0, 0, 0, 0⟩ : S53) [.int .i64 6, .int .i64 0, .int .i64 0, .int .i64 0, .int .i64 0] (fun _ => True) (fun _ => False) rfl rfl ?aP (fun _ hk => hk.elim) ?aF ?aO ?aB ?aS ?aL ?_; (case aP => exact k53_mkM _ _ _ (⟨6, 0, 0, 0, 0⟩ : S53)); (case aB => exact (hb_ HB.out)); (case aF => exact (fun _ _ => trivial)); (case aO => exact (rd_ HO_8.out)); (case aS => exact (below_size (hb_ HB.out))); (case aL => have := LMc25.out; omega); intro v248 w33 ho hb hg hat; rw [← Ny247.out] at ho; have n0_ := Aside0.mk (Kd.R_over' (rd_ HO_241000.out) (Kd.R_typed (rd_ HO_8.out)) (by decide) hg); have n1_ := Aside0.mk (Kd.S_after (ok := (fun _ => True)) (by (with_reducible repeat (first | apply Kd.S_alloc | apply Kd.S_drewN | apply Kd.S_drew)); exact Kd.S_mono HO_241001.out (fun _ hk => ⟨trivial, hk⟩)) hg hat); have n2_ := Aside0.mk (blk_grown (g := gb232) (o := .cells #[.slice A0_0 l0_0.length c0_0, .slice (some ad241) l0_1.length c0_1] 25 (0, 0)) (bd_ BK232.out) hg (Kd.R_ne HO_8.out BK232.out (by decide))); have n3_ := Aside0.mk (blk_grown (g := gb233) (o := .cells #[.slice none 0 0, .slice none 0 0] 25 (0, 0)) (bd_ BK233.out) hg (Kd.R_ne HO_8.out BK233.out (by decide))); have n4_ := Aside0.mk (blk_grown (g := gb240) (o := .cells #[.slice Ao11 y237.length co11, u241001] 25 (0, 0)) (bd_ BK240.out) hg (Kd.R_ne HO_8.out BK240.out (by decide))); have n5_ := Aside0.mk (hb); have n6_ := Aside0.mk (ho); clear HO_241000; clear HO_241001; clear BK232; clear BK233; clear BK240; clear HB; clear HO_8; have HO_241000 := n0_; have HO_241001 := n1_; have BK232 := n2_; have BK233 := n3_; have BK240 := n4_; have HB := n5_; have HO249 := n6_; clear n0_ n1_ n2_ n3_ n4_ n5_ n6_; clear ho hb hg hat; have hcz34_0 : w33.cell? ⟨gb232, 0, none⟩ = some (.slice A0_0 l0_0.length c0_0) := (blk_cell BK232.out 0).trans rfl; have hcz34_1 : w33.cell? ⟨gb232, 1, none⟩ = some (.slice (some ad241) l0_1.length c0_1) := (blk_cell BK232.out 1).trans rfl; have hfz34_0 := blk_frozen BK232.out 0; have hfz34_1 := blk_frozen BK232.out 1; have p250 : 0 ≤ (x7_1 : Int) := of_decide_eq_true as_; have q250 : x7_1 < (l0_1.length : Int) := of_decide_eq_true as_; obtain ⟨ad250, A250_0, c250_0, e250, hx250_0, hl250_0, hi250_0⟩ := at_L3 HR0_1.out x7_1 p250 q250; obtain rfl : ad241 = ad250 := (by injection e250); have hzx250_0 := Aside0.mk hx250_0; replace hx250_0 := cl_ HB.out hx250_0; have HR250_0 := Aside0.mk hi250_0; have HC250_0 := Aside0.mk hl250_0; clear hi250_0 hl250_0; replace p250 := eq_true p250; replace q250 := eq_true q250; have p251 : 0 ≤ (x9_2 : Int) := of_decide_eq_true as_; have q251 : x9_2 < ((rd_L3 l0_1 x7_1).length : Int) := of_decide_eq_true as_; obtain ⟨ad251, e251, hx251_0, hx251_1, hx251_2, hx251_3, hx251_4⟩ := at_T53 HR250_0.out x9_2 p251 q251; cases e251; have hzx251_0 := Aside0.mk hx251_0; replace hx251_0 := cl_ HB.out hx251_0; have hzx251_1 := Aside0.mk hx251_1; replace hx251_1 := cl_ HB.out hx251_1; have hzx251_2 := Aside0.mk hx251_2; replace hx251_2 := cl_ HB.out hx251_2; have hzx251_3 := Aside0.mk hx251_3; replace hx251_3 := cl_ HB.out hx251_3; have hzx251_4 := Aside0.mk hx251_4; replace hx251_4 := cl_ HB.out hx251_4; replace p251 := eq_true p251; replace q251 := eq_true q251) | ((with_reducible refine gate_dst (N := 10) rfl ?_); refine box_event ?hg (N := 10) ?hd (cs := #[.int .i64 0, .int .i64 0, .int .i64 0, .int .i64 0, .int .i64 0]) (t := 53) ?hr ?_; (case hd => rfl); (case hg => rfl); (case hr => first | (go_simp; done) | (go_simp; rfl)); intro gb252 hg w35 hbox hb; have n0_ := Aside0.mk (Kd.R_below (rd_ HO_241000.out) hb); have n1_ := Aside0.mk (Kd.S_below (Kd.S_elderB (sd_ HO_241001.out) gb252 (Nat.le_of_eq hg.symm)) hb); have n2_ := Aside0.mk (Kd.R_below (Kd.R_elderB (rd_ HO249.out) gb252 (Nat.le_of_eq hg.symm)) hb); have n3_ := Aside0.mk (bb_ BK232.out hb); have n4_ := Aside0.mk (bb_ BK233.out hb); have n5_ := Aside0.mk (bb_ BK240.out hb); have n6_ := Aside0.mk (below_step (hb_ HB.out) hb); have n7_ := Aside0.mk (hbox); have n8_ := Aside0.mk (gs_ hg (hb_ HB.out)); have n9_ := Aside0.mk (gs_ hg (hb_ HB.out)); have n10_ := Aside0.mk (gn_ hg BK232.out); have n11_ := Aside0.mk (gn_ hg BK232.out).symm; have n12_ := Aside0.mk (gn_ hg BK233.out); have n13_ := Aside0.mk (gn_ hg BK233.out).symm; have n14_ := Aside0.mk (gn_ hg BK240.out); have n15_ := Aside0.mk (gn_ hg BK240.out).symm; clear HO_241000; clear HO_241001; clear HO249; clear BK232; clear BK233; clear BK240; clear HB; have HO_241000 := n0_; have HO_241001 := n1_; have HO249 := n2_; have BK232 := n3_; have BK233 := n4_; have BK240 := n5_; have HB := n6_; have BK252 := n7_; have GW252 := n8_; have GE252 := n9_; have NB232_252 := n10_; have NB252_232 := n11_; have NB233_252 := n12_; have NB252_233 := n13_; have NB240_252 := n14_; have NB252_240 := n15_; clear n0_ n1_ n2_ n3_ n4_ n5_ n6_ n7_ n8_ n9_ n10_ n11_ n12_ n13_ n14_ n15_; clear hb hbox hg; have hnb36 := NB252_232.out; have hnc36 := NB232_252.out; have hnb37 := NB252_233.out; have hnc37 := NB233_252.out; have hnb38 := NB252_240.out; have hnc38 := NB240_252.out; have hcz39_0 : w35.cell? ⟨gb252, 0, none⟩ = some (.int .i64 0) := (blk_cell BK252.out 0).trans rfl; have hcz39_1 : w35.cell? ⟨gb252, 1, none⟩ = some (.int .i64 0) := (blk_cell BK252.out 1).trans rfl; have hcz39_2 : w35.cell? ⟨gb252, 2, none⟩ = some (.int .i64 0) := (blk_cell BK252.out 2).trans rfl; have hcz39_3 : w35.cell? ⟨gb252, 3, none⟩ = some (.int .i64 0) := (blk_cell BK252.out 3).trans rfl; have hcz39_4 : w35.cell? ⟨gb252, 4, none⟩ = some (.int .i64 0) := (blk_cell BK252.out 4).trans rfl; have hfz39_0 := blk_frozen BK252.out 0; have hfz39_1 := blk_frozen BK252.out 1; have hfz39_2 := blk_frozen BK252.out 2; have hfz39_3 := blk_frozen BK252.out 3; have hfz39_4 := blk_frozen BK252.out 4))
 have n0_ : Aside0 (Kd.R (Kd.int .i64) 3 (((((w35.setCell ⟨gb252, 0, none⟩ (.int .i64 ((rd_T53 (rd_L3 l0_1 x7_1) x9_2).f0))).setCell ⟨gb252, 1, none⟩ (.int .i64 ((rd_T53 (rd_L3 l0_1 x7_1) x9_2).f1))).setCell ⟨gb252, 2, none⟩ (.int .i64 ((rd_T53 (rd_L3 l0_1 x7_1) x9_2).f2))).setCell ⟨gb252, 3, none⟩ (.int .i64 ((rd_T53 (rd_L3 l0_1 x7_1) x9_2).f3))).setCell ⟨gb252, 4, none⟩ (.int .i64 ((rd_T53 (rd_L3 l0_1 x7_1) x9_2).f4))) w.heap.size (fun _ => True) (.slice Ao11 y237.length co11) y237) := ⟨by (with_reducible repeat (first | apply Kd.R_alloc | apply Kd.R_drewN | apply Kd.R_drew)); exact Kd.R_mono (Kd.R_far (p := ⟨gb252, 4, none⟩) (Kd.R_far (p := ⟨gb252, 3, none⟩) (Kd.R_far (p := ⟨gb252, 2, none⟩) (Kd.R_far (p := ⟨gb252, 1, none⟩) (Kd.R_far (p := ⟨gb252, 0, none⟩) (Kd.R_types HO_241000.out BK252.out (by decide)) (fun _ hk => hk.2) (.int .i64 ((rd_T53 (rd_L3 l0_1 x7_1) x9_2).f0))) (fun _ hk => hk.2) (.int .i64 ((rd_T53 (rd_L3 l0_1 x7_1) x9_2).f1))) (fun _ hk => hk.2) (.int .i64 ((rd_T53 (rd_L3 l0_1 x7_1) x9_2).f2))) (fun _ hk => hk.2) (.int .i64 ((rd_T53 (rd_L3 l0_1 x7_1) x9_2).f3))) (fun _ hk => hk.2) (.int .i64 ((rd_T53 (rd_L3 l0_1 x7_1) x9_2).f4))) (fun _ hk => trivial)⟩
 have n1_ : Aside0 (Kd.S (Kd.slice 53 k53) 50 (((((w35.setCell ⟨gb252, 0, none⟩ (.int .i64 ((rd_T53 (rd_L3 l0_1 x7_1) x9_2).f0))).setCell ⟨gb252, 1, none⟩ (.int .i64 ((rd_T53 (rd_L3 l0_1 x7_1) x9_2).f1))).setCell ⟨gb252, 2, none⟩ (.int .i64 ((rd_T53 (rd_L3 l0_1 x7_1) x9_2).f2))).setCell ⟨gb252, 3, none⟩ (.int .i64 ((rd_T53 (rd_L3 l0_1 x7_1) x9_2).f3))).setCell ⟨gb252, 4, none⟩ (.int .i64 ((rd_T53 (rd_L3 l0_1 x7_1) x9_2).f4))) w.heap.size (fun k_ => some k_ ≠ (v248 : Value).ownBlock ∧ k_ ≠ gb252) u241001 x241001_1) := ⟨by (with_reducible repeat (first | apply Kd.S_alloc | apply Kd.S_drewN | apply Kd.S_drew)); exact Kd.S_mono (Kd.S_far (p := ⟨gb252, 4, none⟩) (Kd.S_far (p := ⟨gb252, 3, none⟩) (Kd.S_far (p := ⟨gb252, 2, none⟩) (Kd.S_far (p := ⟨gb252, 1, none⟩) (Kd.S_far (p := ⟨gb252, 0, none⟩) (Kd.S_mono HO_241001.out (fun k_ hk => (⟨hk, hk.2⟩ : _ ∧ k_ ≠ gb252))) (fun _ hk => hk.2) (.int .i64 ((rd_T53 (rd_L3 l0_1 x7_1) x9_2).f0))) (fun _ hk => hk.2) (.int .i64 ((rd_T53 (rd_L3 l0_1 x7_1) x9_2).f1))) (fun _ hk => hk.2) (.int .i64 ((rd_T53 (rd_L3 l0_1 x7_1) x9_2).f2))) (fun _ hk => hk.2) (.int .i64 ((rd_T53 (rd_L3 l0_1 x7_1) x9_2).f3))) (fun _ hk => hk.2) (.int .i64 ((rd_T53 (rd_L3 l0_1 x7_1) x9_2).f4))) (fun _ hk => ⟨hk.1.1.2, hk.1.2⟩)⟩
 have n2_ : Aside0 (Kd.R k53 53 (((((w35.setCell ⟨gb252, 0, none⟩ (.int .i64 ((rd_T53 (rd_L3 l0_1 x7_1) x9_2).f0))).setCell ⟨gb252, 1, none⟩ (.int .i64 ((rd_T53 (rd_L3 l0_1 x7_1) x9_2).f1))).setCell ⟨gb252, 2, none⟩ (.int .i64 ((rd_T53 (rd_L3 l0_1 x7_1) x9_2).f2))).setCell ⟨gb252, 3, none⟩ (.int .i64 ((rd_T53 (rd_L3 l0_1 x7_1) x9_2).f3))).setCell ⟨gb252, 4, none⟩ (.int .i64 ((rd_T53 (rd_L3 l0_1 x7_1) x9_2).f4))) w.heap.size (fun k_ => k_ ≠ gb252) v248 y247) := ⟨by (with_reducible repeat (first | apply Kd.R_alloc | apply Kd.R_drewN | apply Kd.R_drew)); exact Kd.R_mono (Kd.R_far (p := ⟨gb252, 4, none⟩) (Kd.R_far (p := ⟨gb252, 3, none⟩) (Kd.R_far (p := ⟨gb252, 2, none⟩) (Kd.R_far (p := ⟨gb252, 1, none⟩) (Kd.R_far (p := ⟨gb252, 0, none⟩) (Kd.R_mono HO249.out (fun k_ hk => (⟨hk, hk.2⟩ : _ ∧ k_ ≠ gb252))) (fun _ hk => hk.2) (.int .i64 ((rd_T53 (rd_L3 l0_1 x7_1) x9_2).f0))) (fun _ hk => hk.2) (.int .i64 ((rd_T53 (rd_L3 l0_1 x7_1) x9_2).f1))) (fun _ hk => hk.2) (.int .i64 ((rd_T53 (rd_L3 l0_1 x7_1) x9_2).f2))) (fun _ hk => hk.2) (.int .i64 ((rd_T53 (rd_L3 l0_1 x7_1) x9_2).f3))) (fun _ hk => hk.2) (.int .i64 ((rd_T53 (rd_L3 l0_1 x7_1) x9_2).f4))) (fun _ hk => hk.1.2)⟩
 have n3_ : Aside0 ((((((w35.setCell ⟨gb252, 0, none⟩ (.int .i64 ((rd_T53 (rd_L3 l0_1 x7_1) x9_2).f0))).setCell ⟨gb252, 1, none⟩ (.int .i64 ((rd_T53 (rd_L3 l0_1 x7_1) x9_2).f1))).setCell ⟨gb252, 2, none⟩ (.int .i64 ((rd_T53 (rd_L3 l0_1 x7_1) x9_2).f2))).setCell ⟨gb252, 3, none⟩ (.int .i64 ((rd_T53 (rd_L3 l0_1 x7_1) x9_2).f3))).setCell ⟨gb252, 4, none⟩ (.int .i64 ((rd_T53 (rd_L3 l0_1 x7_1) x9_2).f4))).heap[gb232]? = some (.cells #[.slice A0_0 l0_0.length c0_0, .slice (some ad241) l0_1.length c0_1] 25 (0, 0))) := ⟨by exact bf5_ BK232.out NB232_252.out⟩
 have n4_ : Aside0 ((((((w35.setCell ⟨gb252, 0, none⟩ (.int .i64 ((rd_T53 (rd_L3 l0_1 x7_1) x9_2).f0))).setCell ⟨gb252, 1, none⟩ (.int .i64 ((rd_T53 (rd_L3 l0_1 x7_1) x9_2).f1))).setCell ⟨gb252, 2, none⟩ (.int .i64 ((rd_T53 (rd_L3 l0_1 x7_1) x9_2).f2))).setCell ⟨gb252, 3, none⟩ (.int .i64 ((rd_T53 (rd_L3 l0_1 x7_1) x9_2).f3))).setCell ⟨gb252, 4, none⟩ (.int .i64 ((rd_T53 (rd_L3 l0_1 x7_1) x9_2).f4))).heap[gb233]? = some (.cells #[.slice none 0 0, .slice none 0 0] 25 (0, 0))) := ⟨by exact bf5_ BK233.out NB233_252.out⟩
 have n5_ : Aside0 ((((((w35.setCell ⟨gb252, 0, none⟩ (.int .i64 ((rd_T53 (rd_L3 l0_1 x7_1) x9_2).f0))).setCell ⟨gb252, 1, none⟩ (.int .i64 ((rd_T53 (rd_L3 l0_1 x7_1) x9_2).f1))).setCell ⟨gb252, 2, none⟩ (.int .i64 ((rd_T53 (rd_L3 l0_1 x7_1) x9_2).f2))).setCell ⟨gb252, 3, none⟩ (.int .i64 ((rd_T53 (rd_L3 l0_1 x7_1) x9_2).f3))).setCell ⟨gb252, 4, none⟩ (.int .i64 ((rd_T53 (rd_L3 l0_1 x7_1) x9_2).f4))).heap[gb240]? = some (.cells #[.slice Ao11 y237.length co11, u241001] 25 (0, 0))) := ⟨by exact bf5_ BK240.out NB240_252.out⟩
 have n6_ : Aside0 ((((((w35.setCell ⟨gb252, 0, none⟩ (.int .i64 ((rd_T53 (rd_L3 l0_1 x7_1) x9_2).f0))).setCell ⟨gb252, 1, none⟩ (.int .i64 ((rd_T53 (rd_L3 l0_1 x7_1) x9_2).f1))).setCell ⟨gb252, 2, none⟩ (.int .i64 ((rd_T53 (rd_L3 l0_1 x7_1) x9_2).f2))).setCell ⟨gb252, 3, none⟩ (.int .i64 ((rd_T53 (rd_L3 l0_1 x7_1) x9_2).f3))).setCell ⟨gb252, 4, none⟩ (.int .i64 ((rd_T53 (rd_L3 l0_1 x7_1) x9_2).f4))).heap[gb252]? = some (.cells #[.int .i64 ((rd_T53 (rd_L3 l0_1 x7_1) x9_2).f0), .int .i64 ((rd_T53 (rd_L3 l0_1 x7_1) x9_2).f1), .int .i64 ((rd_T53 (rd_L3 l0_1 x7_1) x9_2).f2), .int .i64 ((rd_T53 (rd_L3 l0_1 x7_1) x9_2).f3), .int .i64 ((rd_T53 (rd_L3 l0_1 x7_1) x9_2).f4)] 53 (0, 0))) := ⟨by exact bp5_ BK252.out⟩
 have n7_ : Aside0 (Below w.heap.size w (((((w35.setCell ⟨gb252, 0, none⟩ (.int .i64 ((rd_T53 (rd_L3 l0_1 x7_1) x9_2).f0))).setCell ⟨gb252, 1, none⟩ (.int .i64 ((rd_T53 (rd_L3 l0_1 x7_1) x9_2).f1))).setCell ⟨gb252, 2, none⟩ (.int .i64 ((rd_T53 (rd_L3 l0_1 x7_1) x9_2).f2))).setCell ⟨gb252, 3, none⟩ (.int .i64 ((rd_T53 (rd_L3 l0_1 x7_1) x9_2).f3))).setCell ⟨gb252, 4, none⟩ (.int .i64 ((rd_T53 (rd_L3 l0_1 x7_1) x9_2).f4)))) := ⟨hb_ HB.out⟩
 (try clear HO_241000)
 (try clear HO_241001)
 (try clear HO249)
 (try clear BK232)
 (try clear BK233)
 (try clear BK240)
 (try clear BK252)
 (try clear HB)
 generalize (((((w35.setCell ⟨gb252, 0, none⟩ (.int .i64 ((rd_T53 (rd_L3 l0_1 x7_1) x9_2).f0))).setCell ⟨gb252, 1, none⟩ (.int .i64 ((rd_T53 (rd_L3 l0_1 x7_1) x9_2).f1))).setCell ⟨gb252, 2, none⟩ (.int .i64 ((rd_T53 (rd_L3 l0_1 x7_1) x9_2).f2))).setCell ⟨gb252, 3, none⟩ (.int .i64 ((rd_T53 (rd_L3 l0_1 x7_1) x9_2).f3))).setCell ⟨gb252, 4, none⟩ (.int .i64 ((rd_T53 (rd_L3 l0_1 x7_1) x9_2).f4))) = w40 at n0_ n1_ n2_ n3_ n4_ n5_ n6_ n7_ ⊢
 have HO_241000 := n0_
 have HO_241001 := n1_
 have HO249 := n2_
 have BK232 := n3_
 have BK233 := n4_
 have BK240 := n5_
 have BK252 := n6_
 have HB := n7_
 clear n0_ n1_ n2_ n3_ n4_ n5_ n6_ n7_
 have n0_ := Aside0.mk (Kd.R_drew HO_241000.out)
 have n1_ := Aside0.mk (Kd.S_drew HO_241001.out)
 have n2_ := Aside0.mk (Kd.R_drew HO249.out)
 have n3_ := Aside0.mk (blk_drew BK232.out)
 have n4_ := Aside0.mk (blk_drew BK233.out)
 have n5_ := Aside0.mk (blk_drew BK240.out)
 have n6_ := Aside0.mk (blk_drew BK252.out)
 have n7_ := Aside0.mk (below_drew1 HB.out)
 clear HO_241000
 clear HO_241001
 clear HO249
 clear BK232
 clear BK233
 clear BK240
 clear BK252
 clear HB
 have HO_241000 := n0_
 have HO_241001 := n1_
 have HO249 := n2_
 have BK232 := n3_
 have BK233 := n4_
 have BK240 := n5_
 have BK252 := n6_
 have HB := n7_
 clear n0_ n1_ n2_ n3_ n4_ n5_ n6_ n7_
 refine start_ (n := 10) (S := fun w' => w'.cell? ⟨gb252, 0, none⟩ = some (.int .i64 ((rd_T53 (rd_L3 l0_1 x7_1) x9_2).f0)) ∧ w'.cell? ⟨gb252, 1, none⟩ = some (.int .i64 ((rd_T53 (rd_L3 l0_1 x7_1) x9_2).f1)) ∧ w'.cell? ⟨gb252, 2, none⟩ = some (.int .i64 ((rd_T53 (rd_L3 l0_1 x7_1) x9_2).f2)) ∧ w'.cell? ⟨gb252, 3, none⟩ = some (.int .i64 ((rd_T53 (rd_L3 l0_1 x7_1) x9_2).f3)) ∧ w'.cell? ⟨gb252, 4, none⟩ = some (.int .i64 ((rd_T53 (rd_L3 l0_1 x7_1) x9_2).f4))) (ds := [9]) #[false, false, false, false, false, false, false, false, false, false] (by kernel_rfl) rfl rfl ⟨(blk_cell BK252.out 0).trans rfl, (blk_cell BK252.out 1).trans rfl, (blk_cell BK252.out 2).trans rfl, (blk_cell BK252.out 3).trans rfl, (blk_cell BK252.out 4).trans rfl⟩ (fun hHeld => ?_); refine with_tabW fencepostref08_Insert.tab14 fencepostref08_Insert.bits14 (fun HT_ HW_ => ?_)
 generalize w40.drew = w41 at HO_241000 HO_241001 HO249 BK232 BK233 BK240 BK252 HB hHeld ⊢
 refine pure_ (i := 0) (N := some 53) (v := ?_) (a' := ?_) #[true, false, false, false, false, false, false, false, false, false] rfl rfl (any_of HT_.out (by kernel_rfl)) (fun _ _ _ h => h) (Or.inl ⟨by rfl, ?_⟩) ?_ ?_; rotate_left; intro w'; go_simp; with_reducible rfl; rotate_left; simp only [Act.put, List.setIfInBounds_toArray, List.set_cons_zero, List.set_cons_succ, i64_w, i32_w]; rfl
 refine pure_ (i := 2) (N := some 55) (v := ?_) (a' := ?_) #[true, false, true, false, false, false, false, false, false, false] rfl rfl (any_of HT_.out (by kernel_rfl)) (fun _ _ _ h => h) (Or.inl ⟨by rfl, ?_⟩) ?_ ?_; rotate_left; intro w'; go_simp; with_reducible rfl; rotate_left; simp only [Act.put, List.setIfInBounds_toArray, List.set_cons_zero, List.set_cons_succ, i64_w, i32_w]; rfl
 refine pure_ (i := 3) (N := some 56) (v := ?_) (a' := ?_) #[true, false, true, true, false, false, false, false, false, false] rfl rfl (any_of HT_.out (by kernel_rfl)) (fun _ _ _ h => h) (Or.inl ⟨by rfl, ?_⟩) ?_ ?_; rotate_left; intro w'; go_simp; with_reducible rfl; rotate_left; simp only [Act.put, List.setIfInBounds_toArray, List.set_cons_zero, List.set_cons_succ, i64_w, i32_w]; rfl
 refine pure_ (i := 4) (N := some 57) (v := ?_) (a' := ?_) #[true, false, true, true, true, false, false, false, false, false] rfl rfl (any_of HT_.out (by kernel_rfl)) (fun _ _ _ h => h) (Or.inl ⟨by rfl, ?_⟩) ?_ ?_; rotate_left; intro w'; go_simp; with_reducible rfl; rotate_left; simp only [Act.put, List.setIfInBounds_toArray, List.set_cons_zero, List.set_cons_succ, i64_w, i32_w]; rfl
 refine take_ (i := 1) (N := some 54) (v := ?_) (a' := ?_) #[true, true, true, true, true, false, false, false, false, false] rfl rfl (take_ofW HT_.out HW_.out (by kernel_rfl)) (fun _ _ _ h => h) (Or.inl ⟨by rfl, ?_⟩) hHeld ?_ ?_; rotate_left; rintro w' ⟨s0, s1, s2, s3, s4⟩; go_simp; with_reducible rfl; rotate_left; simp only [Act.put, List.setIfInBounds_toArray, List.set_cons_zero, List.set_cons_succ, i64_w, i32_w]; rfl
 refine take_ (i := 5) (N := some 58) (v := ?_) (a' := ?_) #[true, true, true, true, true, true, false, false, false, false] rfl rfl (take_ofW HT_.out HW_.out (by kernel_rfl)) (fun _ _ _ h => h) (Or.inl ⟨by rfl, ?_⟩) hHeld ?_ ?_; rotate_left; rintro w' ⟨s0, s1, s2, s3, s4⟩; go_simp; with_reducible rfl; rotate_left; simp only [Act.put, List.setIfInBounds_toArray, List.set_cons_zero, List.set_cons_succ, i64_w, i32_w]; rfl
 refine one_ (i := 6) (N := some 59) #[true, true, true, true, true, true, true, false, false, false] rfl rfl (one_of HT_.out (by kernel_rfl)) (by decide) (fun K hK => ?_)
 refine goes_ Try.func42 (by kernel_rfl) rfl #[.slice A1 l1.length c1, .int .i64 x6_1, .int .i64 ((rd_T53 (rd_L3 l0_1 x7_1) x9_2).f4)] (by rfl) rfl rfl ar_ ?_
 with_reducible refine (fencepostref08_Count.calls k2 _ _ l1 x6_1 ((rd_T53 (rd_L3 l0_1 x7_1) x9_2).f4) t253 _ ?side1 ?side2 A28.out).mono ?_
 (case side1 => exact cd_ (Kd.C_below HR1.out HB.out))
 (case side2 => exact HC1.out)
 rintro e w' ⟨rfl, ⟨nd, rfl⟩⟩
 refine ⟨_, rfl, ?_⟩
 refine hK.out _ _ ⟨(blk_cell BK252.out 0).trans rfl, (blk_cell BK252.out 1).trans rfl, (blk_cell BK252.out 2).trans rfl, (blk_cell BK252.out 3).trans rfl, (blk_cell BK252.out 4).trans rfl⟩ (fun hHeld => ?_)
 clear hK K
 refine norm_ (a' := ?_) ?_ ?_
 rotate_left
 ·show Act.put _ (some 59) _ = _
  simp only [Act.put, List.setIfInBounds_toArray, List.set_cons_zero, List.set_cons_succ, i64_w, i32_w]
  rfl
 refine pure_ (i := 7) (N := some 60) (v := ?_) (a' := ?_) #[true, true, true, true, true, true, true, true, false, false] rfl rfl (any_of HT_.out (by kernel_rfl)) (fun _ _ _ h => h) (Or.inl ⟨by rfl, ?_⟩) ?_ ?_; rotate_left; intro w'; go_simp; with_reducible rfl; rotate_left; simp only [Act.put, List.setIfInBounds_toArray, List.set_cons_zero, List.set_cons_succ, i64_w, i32_w]; rfl
 refine pure_ (i := 8) (N := some 61) (v := ?_) (a' := ?_) #[true, true, true, true, true, true, true, true, true, false] rfl rfl (any_of HT_.out (by kernel_rfl)) (fun _ _ _ h => h) (Or.inl ⟨by rfl, ?_⟩) ?_ ?_; rotate_left; intro w'; go_simp; with_reducible rfl; rotate_left; simp only [Act.put, List.setIfInBounds_toArray, List.set_cons_zero, List.set_cons_succ, i64_w, i32_w]; rfl
 refine last_ (i := 9) (N := none) #[true, true, true, true, true, true, true, true, true, true] rfl rfl (one_of HT_.out (by kernel_rfl)) (by decide) (fun K hK => ?_)
 have hs42 : w41.cell? ⟨gb252, 4, none⟩ = some (.int .i64 ((rd_T53 (rd_L3 l0_1 x7_1) x9_2).f4)) := (blk_cell BK252.out 4).trans rfl
 have hfs42 := blk_frozen BK252.out 4
 have hns42_0 := NB232_252.out
 have hns42_1 := NB233_252.out
 have hns42_2 := NB240_252.out
 have hms42_0 := NB252_232.out
 have hms42_1 := NB252_233.out
 have hms42_2 := NB252_240.out
 refine skip_ (w1 := ?_) (by rfl) rfl ?_ ?_
 rotate_left
 ·go_simp
  rfl
 refine hK.out _ _ ?_
 clear hK K
 refine done_ (done_of HT_.out (by kernel_rfl)) ?_
 have hcz43_0 : w41.cell? ⟨gb252, 0, none⟩ = some (.int .i64 ((rd_T53 (rd_L3 l0_1 x7_1) x9_2).f0)) := (blk_cell BK252.out 0).trans rfl
 have hcz43_1 : w41.cell? ⟨gb252, 1, none⟩ = some (.int .i64 ((rd_T53 (rd_L3 l0_1 x7_1) x9_2).f1)) := (blk_cell BK252.out 1).trans rfl
 have hcz43_2 : w41.cell? ⟨gb252, 2, none⟩ = some (.int .i64 ((rd_T53 (rd_L3 l0_1 x7_1) x9_2).f2)) := (blk_cell BK252.out 2).trans rfl
 have hcz43_3 : w41.cell? ⟨gb252, 3, none⟩ = some (.int .i64 ((rd_T53 (rd_L3 l0_1 x7_1) x9_2).f3)) := (blk_cell BK252.out 3).trans rfl
 have hcz43_4 : w41.cell? ⟨gb252, 4, none⟩ = some (.int .i64 ((rd_T53 (rd_L3 l0_1 x7_1) x9_2).f4)) := (blk_cell BK252.out 4).trans rfl
 have hfz43_0 := blk_frozen BK252.out 0
 have hfz43_1 := blk_frozen BK252.out 1
 have hfz43_2 := blk_frozen BK252.out 2
 have hfz43_3 := blk_frozen BK252.out 3
 have hfz43_4 := blk_frozen BK252.out 4
 try go_wp2_with (first | ((with_reducible refine gate_builtin (b := .append) (xs := #[.tmp 62, .tmp 64]) rfl ?_); at_builtin; refine Kd.R_append k53 (w0 := w) w.heap.size rfl (.tmp 62) (.tmp 64) 50 53 (.agg #[(.int .i64 0), (.int .i64 0), (.int .i64 0), (.int .i64 0), (.int .i64 0)]) 40 rfl Try.underlying50 info53 rfl (by decide) (by omega) v248 y247 (⟨(rd_T53 (rd_L3 l0_1 x7_1) x9_2).f0, (rd_T53 (rd_L3 l0_1 x7_1) x9_2).f1, (rd_T53 (rd_L3 l0_1 x7_1) x9_2).f2, (rd_T53 (rd_L3 l0_1 x7_1) x9_2).f3, wrap64 (((rd_T53 (rd_L3 l0_1 x7_1) x9_2).f4) + t253)⟩ : S53) [.int .i64 ((rd_T53 (rd_L3 l0_1 x7_1) x9_2).f0), .int .i64 ((rd_T53 (rd_L3 l0_1 x7_1) x9_2).f1), .int .i64 ((rd_T53 (rd_L3 l0_1 x7_1) x9_2).f2), .int .i64 ((rd_T53 (rd_L3 l0_1 x7_1) x9_2).f3), .int .i64 (wrap64 (((rd_T53 (rd_L3 l0_1 x7_1) x9_2).f4) + t253))] (fun k_ => k_ ≠ gb252) (fun _ => False) rfl (by first | (go_simp; done) | (go_simp; rfl)) ?aP (fun _ hk => hk.elim) ?aF ?aO ?aB ?aS ?aL ?_; (case aP => exact k53_mkM _ _ _ (⟨(rd_T53 (rd_L3 l0_1 x7_1) x9_2).f0, (rd_T53 (rd_L3 l0_1 x7_1) x9_2).f1, (rd_T53 (rd_L3 l0_1 x7_1) x9_2).f2, (rd_T53 (rd_L3 l0_1 x7_1) x9_2).f3, wrap64 (((rd_T53 (rd_L3 l0_1 x7_1) x9_2).f4) + t253)⟩ : S53)); (case aB => exact (hb_ HB.out)); (case aF => exact (fun k_ hk => Kd.freshB (g := gb252) (o := .cells #[.int .i64 ((rd_T53 (rd_L3 l0_1 x7_1) x9_2).f0), .int .i64 ((rd_T53 (rd_L3 l0_1 x7_1) x9_2).f1), .int .i64 ((rd_T53 (rd_L3 l0_1 x7_1) x9_2).f2), .int .i64 ((rd_T53 (rd_L3 l0_1 x7_1) x9_2).f3), .int .i64 (wrap64 (((rd_T53 (rd_L3 l0_1 x7_1) x9_2).f4) + t253))] 53 (0, 0)) (by (with_reducible repeat (first | refine blk_drewN ?_ _ | refine blk_drew ?_ | refine blk_alloc ?_ _)); refine blk_put (cs := #[.int .i64 ((rd_T53 (rd_L3 l0_1 x7_1) x9_2).f0), .int .i64 ((rd_T53 (rd_L3 l0_1 x7_1) x9_2).f1), .int .i64 ((rd_T53 (rd_L3 l0_1 x7_1) x9_2).f2), .int .i64 ((rd_T53 (rd_L3 l0_1 x7_1) x9_2).f3), .int .i64 ((rd_T53 (rd_L3 l0_1 x7_1) x9_2).f4)]) ?_ 4 _ rfl; (with_reducible repeat (first | refine blk_drewN ?_ _ | refine blk_drew ?_ | refine blk_alloc ?_ _)); exact BK252.out) k_ hk)); (case aO => exact (by (with_reducible repeat (first | apply Kd.R_alloc | apply Kd.R_drewN | apply Kd.R_drew)); exact Kd.R_mono (Kd.R_far (p := ⟨gb252, 4, none⟩) (Kd.R_mono HO249.out (fun k_ hk => (⟨hk, hk⟩ : _ ∧ k_ ≠ gb252))) (fun _ hk => hk.2) (.int .i64 (wrap64 (((rd_T53 (rd_L3 l0_1 x7_1) x9_2).f4) + t253)))) (fun _ hk => hk.1))); (case aS => exact (below_size (hb_ HB.out))); (case aL => have := LMc29.out; omega); intro v255 w44 ho hb hg hat; rw [← Ny254.out] at ho; have n0_ := Aside0.mk (Kd.R_over' (by (with_reducible repeat (first | apply Kd.R_alloc | apply Kd.R_drewN | apply Kd.R_drew)); exact (Kd.R_mono (Kd.R_far (p := ⟨gb252, 4, none⟩) (Kd.R_types HO_241000.out BK252.out (by decide)) (fun _ hk => hk.2) (.int .i64 (wrap64 (((rd_T53 (rd_L3 l0_1 x7_1) x9_2).f4) + t253)))) (fun _ h_ => h_.1))) (Kd.R_typed (by (with_reducible repeat (first | apply Kd.R_alloc | apply Kd.R_drewN | apply Kd.R_drew)); exact (Kd.R_mono (Kd.R_far (p := ⟨gb252, 4, none⟩) (Kd.R_mono HO249.out (fun k_ hk => (⟨hk, hk⟩ : _ ∧ k_ ≠ gb252))) (fun _ hk => hk.2) (.int .i64 (wrap64 (((rd_T53 (rd_L3 l0_1 x7_1) x9_2).f4) + t253)))) (fun _ h_ => h_.1)))) (by decide) hg); have n1_ := Aside0.mk (Kd.S_after (ok := (fun k_ => k_ ≠ gb252)) (by (with_reducible repeat (first | apply Kd.S_alloc | apply Kd.S_drewN | apply Kd.S_drew)); exact Kd.S_mono (Kd.S_far (p := ⟨gb252, 4, none⟩) (Kd.S_mono HO_241001.out (fun k_ hk => (⟨hk, hk.2⟩ : _ ∧ k_ ≠ gb252))) (fun _ hk => hk.2) (.int .i64 (wrap64 (((rd_T53 (rd_L3 l0_1 x7_1) x9_2).f4) + t253)))) (fun _ hk => ⟨hk.1.2, hk.1.1⟩)) hg hat); have n2_ := Aside0.mk (blk_grown (g := gb232) (o := .cells #[.slice A0_0 l0_0.length c0_0, .slice (some ad241) l0_1.length c0_1] 25 (0, 0)) (by (with_reducible repeat (first | refine blk_drewN ?_ _ | refine blk_drew ?_ | refine blk_alloc ?_ _)); refine blk_far ?_ NB232_252.out _; (with_reducible repeat (first | refine blk_drewN ?_ _ | refine blk_drew ?_ | refine blk_alloc ?_ _)); exact BK232.out) hg (Kd.R_ne HO249.out BK232.out (by decide))); have n3_ := Aside0.mk (blk_grown (g := gb233) (o := .cells #[.slice none 0 0, .slice none 0 0] 25 (0, 0)) (by (with_reducible repeat (first | refine blk_drewN ?_ _ | refine blk_drew ?_ | refine blk_alloc ?_ _)); refine blk_far ?_ NB233_252.out _; (with_reducible repeat (first | refine blk_drewN ?_ _ | refine blk_drew ?_ | refine blk_alloc ?_ _)); exact BK233.out) hg (Kd.R_ne HO249.out BK233.out (by decide))); have n4_ := Aside0.mk (blk_grown (g := gb240) (o := .cells #[.slice Ao11 y237.length co11, u241001] 25 (0, 0)) (by (with_reducible repeat (first | refine blk_drewN ?_ _ | refine blk_drew ?_ | refine blk_alloc ?_ _)); refine blk_far ?_ NB240_252.out _; (with_reducible repeat (first | refine blk_drewN ?_ _ | refine blk_drew ?_ | refine blk_alloc ?_ _)); exact BK240.out) hg (Kd.R_ne HO249.out BK240.out (by decide))); have n5_ := Aside0.mk (blk_grown (g := gb252) (o := .cells #[.int .i64 ((rd_T53 (rd_L3 l0_1 x7_1) x9_2).f0), .int .i64 ((rd_T53 (rd_L3 l0_1 x7_1) x9_2).f1), .int .i64 ((rd_T53 (rd_L3 l0_1 x7_1) x9_2).f2), .int .i64 ((rd_T53 (rd_L3 l0_1 x7_1) x9_2).f3), .int .i64 (wrap64 (((rd_T53 (rd_L3 l0_1 x7_1) x9_2).f4) + t253))] 53 (0, 0)) (by (with_reducible repeat (first | refine blk_drewN ?_ _ | refine blk_drew ?_ | refine blk_alloc ?_ _)); refine blk_put (cs := #[.int .i64 ((rd_T53 (rd_L3 l0_1 x7_1) x9_2).f0), .int .i64 ((rd_T53 (rd_L3 l0_1 x7_1) x9_2).f1), .int .i64 ((rd_T53 (rd_L3 l0_1 x7_1) x9_2).f2), .int .i64 ((rd_T53 (rd_L3 l0_1 x7_1) x9_2).f3), .int .i64 ((rd_T53 (rd_L3 l0_1 x7_1) x9_2).f4)]) ?_ 4 _ rfl; (with_reducible repeat (first | refine blk_drewN ?_ _ | refine blk_drew ?_ | refine blk_alloc ?_ _)); exact BK252.out) hg (Kd.R_away HO249.out (fun _ hk => hk))); have n6_ := Aside0.mk (hb); have n7_ := Aside0.mk (ho); clear HO_241000; clear HO_241001; clear BK232; clear BK233; clear BK240; clear BK252; clear HB; clear HO249; have HO_241000 := n0_; have HO_241001 := n1_; have BK232 := n2_; have BK233 := n3_; have BK240 := n4_; have BK252 := n5_; have HB := n6_; have HO256 := n7_; clear n0_ n1_ n2_ n3_ n4_ n5_ n6_ n7_; clear ho hb hg hat))
 go_roundg k2
 case measure => have := HK1.out; have := HK2.out; omega
 case rel => exact ⟨(y254), (wrap64 (x9_2 + 1)), rf_, H', ⟨by have := HK1.out; have := HK2.out; omega⟩, ⟨by (with_reducible repeat (first | apply Kd.R_alloc | apply Kd.R_drewN | apply Kd.R_drew)); exact Kd.R_mono HO256.out (fun _ hk => trivial)⟩, ⟨rd_ HO_241000.out⟩, ⟨by (with_reducible repeat (first | apply Kd.S_alloc | apply Kd.S_drewN | apply Kd.S_drew)); exact Kd.S_mono HO_241001.out (fun _ hk => hk.2)⟩, ⟨bd_ BK232.out⟩, ⟨bd_ BK233.out⟩, ⟨bd_ BK240.out⟩, ⟨hb_ HB.out⟩⟩
end Go.Proofs.Ytijpfonbeepmfaa.Print
