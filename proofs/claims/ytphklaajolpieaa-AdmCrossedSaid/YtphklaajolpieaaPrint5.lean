-- Written by ownprint.py (this session's) with the kit's print.py: functions, contracts, rows; Lean checks it.
import Derived.Test.YtphklaajolpieaaPrint0
import Derived.Test.YtphklaajolpieaaHSq
namespace Go.Proofs.Ytphklaajolpieaa.Print
open Go.RowKit Go.Proofs.YtphklaajolpieaaW.PrintWords Go.Proofs.YtphklaajolpieaaW.PrintLast Go.Proofs.YtphklaajolpieaaW.PrintMore
attribute [local go_sem] max2_int min2_int max_two min_two max_three min_three max_four min_four   -- for this text's walks alone
set_option linter.unusedVariables false
set_option linter.unusedSimpArgs false
def fencepostref09_Drain.f (l0 : List (S66)) (l1 : List Int) : Option ((List (S66)) × List Int × Bool) := (some (([] : List Int) : List Int)).bind fun y216 => (if y216.length + l1.length < 17592186044416 then ((some (y216 ++ l1 : List Int)).bind fun y219 => (if (l0.length : Int) = 0 then ((some (([] : List (S66)) : List (S66))).bind fun y222 => (if y222.length + l0.length < 8796093022208 then (some ((y222 ++ l0), y219, false)) else (none))) else (if 0 < (l0.length : Int) then (if ((rd_T66 l0 0).f0) < 0 then ((some (([] : List (S66)) : List (S66))).bind fun y229 => (if y229.length + l0.length < 8796093022208 then (some ((y229 ++ l0), y219, false)) else (none))) else (if ((rd_T66 l0 0).f0) ≥ (l1.length : Int) then ((some (([] : List (S66)) : List (S66))).bind fun y236 => (if y236.length + l0.length < 8796093022208 then (some ((y236 ++ l0), y219, false)) else (none))) else (if 0 ≤ ((rd_T66 l0 0).f0) then (if ((rd_T66 l0 0).f0) < (y219.length : Int) then ((some (([] : List (S66)) : List (S66))).bind fun y245 => (if 1 ≤ (l0.length : Int) then ((some (l0.drop 1 : List (S66))).bind fun y248 => (if y245.length + y248.length < 8796093022208 then (some ((y245 ++ y248), (y219.set (((rd_T66 l0 0).f0) : Int).toNat ((rd_T66 l0 0).f1)), true)) else (none))) else (none))) else (none)) else (none)))) else (none)))) else (none))
def fencepostref09_Drain.T4 : Bool × List (List Nat × List Nat) := (true, [([], []), ([], []), ([1], [1]), ([2], [2]), ([3], [3]), ([], []), ([5], [5]), ([6], [6]), ([7], [7]), ([0, 4, 0, 1, 2, 3, 4, 5, 6, 7, 8], [0, 4]), ([9, 8, 0, 1, 2, 3, 4, 5, 6, 7, 8], [8, 9])])
def fencepostref09_Drain.B4 : List Nat := [0, 0, 2, 6, 14, 0, 32, 96, 224, 511, 1023]
theorem fencepostref09_Drain.tab4 : rtab .any (opsOf Try.f23 4) = fencepostref09_Drain.T4 := by kernel_rfl
theorem fencepostref09_Drain.bits4 : waitsOk fencepostref09_Drain.T4.2 fencepostref09_Drain.B4 = true := by kernel_rfl
set_option maxHeartbeats 8000000 in
set_option maxRecDepth 100000 in
theorem fencepostref09_Drain.calls (A0 : Option Addr) (c0 : Nat) (l0 : List (S66)) (A1 : Option Addr) (c1 : Nat) (l1 : List Int) (r1 : List (S66)) (r2 : List Int) (r3 : Bool) (w : World) (hr0 : Kd.C k66 w A0 l0.length l0) (hc0 : l0.length ≤ c0) (hr1 : Kd.C (Kd.int .i64) w A1 l1.length l1) (hc1 : l1.length ≤ c1) (h : fencepostref09_Drain.f l0 l1 = some (r1, r2, r3)) :
 Calls Try.prog 23 #[.slice A0 l0.length c0, .slice A1 l1.length c1] w fun e w' => ∃ v0_ v1_ : Value, e = .returned (.tuple #[v0_, v1_, .bool r3]) ∧ Kd.R k66 66 w' w.heap.size (fun _ => True) v0_ r1 ∧ Kd.R (Kd.int .i64) 3 w' w.heap.size (fun _ => True) v1_ r2 ∧ Below w.heap.size w w' := by
 have HR0 := Aside0.mk hr0
 have HC0 := Aside0.mk hc0
 clear hr0 hc0
 have HR1 := Aside0.mk hr1
 have HC1 := Aside0.mk hc1
 clear hr1 hc1
 have HB := Aside0.mk (Below.refl w.heap.size w)
 have H : ((some (([] : List Int) : List Int)).bind fun y216 => (if y216.length + l1.length < 17592186044416 then ((some (y216 ++ l1 : List Int)).bind fun y219 => (if (l0.length : Int) = 0 then ((some (([] : List (S66)) : List (S66))).bind fun y222 => (if y222.length + l0.length < 8796093022208 then (some ((y222 ++ l0), y219, false)) else (none))) else (if 0 < (l0.length : Int) then (if ((rd_T66 l0 0).f0) < 0 then ((some (([] : List (S66)) : List (S66))).bind fun y229 => (if y229.length + l0.length < 8796093022208 then (some ((y229 ++ l0), y219, false)) else (none))) else (if ((rd_T66 l0 0).f0) ≥ (l1.length : Int) then ((some (([] : List (S66)) : List (S66))).bind fun y236 => (if y236.length + l0.length < 8796093022208 then (some ((y236 ++ l0), y219, false)) else (none))) else (if 0 ≤ ((rd_T66 l0 0).f0) then (if ((rd_T66 l0 0).f0) < (y219.length : Int) then ((some (([] : List (S66)) : List (S66))).bind fun y245 => (if 1 ≤ (l0.length : Int) then ((some (l0.drop 1 : List (S66))).bind fun y248 => (if y245.length + y248.length < 8796093022208 then (some ((y245 ++ y248), (y219.set (((rd_T66 l0 0).f0) : Int).toNat ((rd_T66 l0 0).f1)), true)) else (none))) else (none))) else (none)) else (none)))) else (none)))) else (none))) = some (r1, r2, r3) := h
 clear h
 obtain ⟨y216, hy216⟩ : ∃ y_ : List Int, y_ = (([] : List Int)) := ⟨_, rfl⟩
 replace H : (if y216.length + l1.length < 17592186044416 then ((some (y216 ++ l1 : List Int)).bind fun y219 => (if (l0.length : Int) = 0 then ((some (([] : List (S66)) : List (S66))).bind fun y222 => (if y222.length + l0.length < 8796093022208 then (some ((y222 ++ l0), y219, false)) else (none))) else (if 0 < (l0.length : Int) then (if ((rd_T66 l0 0).f0) < 0 then ((some (([] : List (S66)) : List (S66))).bind fun y229 => (if y229.length + l0.length < 8796093022208 then (some ((y229 ++ l0), y219, false)) else (none))) else (if ((rd_T66 l0 0).f0) ≥ (l1.length : Int) then ((some (([] : List (S66)) : List (S66))).bind fun y236 => (if y236.length + l0.length < 8796093022208 then (some ((y236 ++ l0), y219, false)) else (none))) else (if 0 ≤ ((rd_T66 l0 0).f0) then (if ((rd_T66 l0 0).f0) < (y219.length : Int) then ((some (([] : List (S66)) : List (S66))).bind fun y245 => (if 1 ≤ (l0.length : Int) then ((some (l0.drop 1 : List (S66))).bind fun y248 => (if y245.length + y248.length < 8796093022208 then (some ((y245 ++ y248), (y219.set (((rd_T66 l0 0).f0) : Int).toNat ((rd_T66 l0 0).f1)), true)) else (none))) else (none))) else (none)) else (none)))) else (none)))) else (none)) = some (r1, r2, r3) := by first | (rw [hy216]; with_reducible exact H) | (have H2_ := (Option.bind_some _ _).symm.trans H; rw [hy216]; with_reducible exact H2_) | (have H2_ := (Option.bind_some _ _).symm.trans H; with_reducible exact H2_) | with_reducible exact H | (rw [hy216]; exact H) | exact H
 have Ny216 := Aside0.mk hy216
 clear hy216
 by_cases c3 : y216.length + l1.length < 17592186044416
 rotate_left
 ·rw [if_neg c3] at H
  exact absurd H (by simp)
 rw [if_pos c3] at H
 have LMc3 := Aside0.mk c3
 clear c3
 obtain ⟨y219, hy219⟩ : ∃ y_ : List Int, y_ = (y216 ++ l1) := ⟨_, rfl⟩
 replace H : (if (l0.length : Int) = 0 then ((some (([] : List (S66)) : List (S66))).bind fun y222 => (if y222.length + l0.length < 8796093022208 then (some ((y222 ++ l0), y219, false)) else (none))) else (if 0 < (l0.length : Int) then (if ((rd_T66 l0 0).f0) < 0 then ((some (([] : List (S66)) : List (S66))).bind fun y229 => (if y229.length + l0.length < 8796093022208 then (some ((y229 ++ l0), y219, false)) else (none))) else (if ((rd_T66 l0 0).f0) ≥ (l1.length : Int) then ((some (([] : List (S66)) : List (S66))).bind fun y236 => (if y236.length + l0.length < 8796093022208 then (some ((y236 ++ l0), y219, false)) else (none))) else (if 0 ≤ ((rd_T66 l0 0).f0) then (if ((rd_T66 l0 0).f0) < (y219.length : Int) then ((some (([] : List (S66)) : List (S66))).bind fun y245 => (if 1 ≤ (l0.length : Int) then ((some (l0.drop 1 : List (S66))).bind fun y248 => (if y245.length + y248.length < 8796093022208 then (some ((y245 ++ y248), (y219.set (((rd_T66 l0 0).f0) : Int).toNat ((rd_T66 l0 0).f1)), true)) else (none))) else (none))) else (none)) else (none)))) else (none))) = some (r1, r2, r3) := by first | (rw [hy219]; with_reducible exact H) | (have H2_ := (Option.bind_some _ _).symm.trans H; rw [hy219]; with_reducible exact H2_) | (have H2_ := (Option.bind_some _ _).symm.trans H; with_reducible exact H2_) | with_reducible exact H | (rw [hy219]; exact H) | exact H
 have Ny219 := Aside0.mk hy219
 clear hy219
 by_cases c4 : (l0.length : Int) = 0
 ·rw [if_pos c4] at H
  have c4b0 : ((l0.length : Int) == 0) = true := beq_iff_eq.mpr c4
  have c4b1 : ((l0.length : Int) != 0) = false := bne_eq_false_iff_eq.mpr c4
  clear c4
  obtain ⟨y222, hy222⟩ : ∃ y_ : List (S66), y_ = (([] : List (S66))) := ⟨_, rfl⟩
  replace H : (if y222.length + l0.length < 8796093022208 then (some ((y222 ++ l0), y219, false)) else (none)) = some (r1, r2, r3) := by first | (rw [hy222]; with_reducible exact H) | (have H2_ := (Option.bind_some _ _).symm.trans H; rw [hy222]; with_reducible exact H2_) | (have H2_ := (Option.bind_some _ _).symm.trans H; with_reducible exact H2_) | with_reducible exact H | (rw [hy222]; exact H) | exact H
  have Ny222 := Aside0.mk hy222
  clear hy222
  by_cases c5 : y222.length + l0.length < 8796093022208
  rotate_left
  ·rw [if_neg c5] at H
   exact absurd H (by simp)
  rw [if_pos c5] at H
  have LMc5 := Aside0.mk c5
  clear c5
  obtain ⟨y225, hy225⟩ : ∃ y_ : List (S66), y_ = (y222 ++ l0) := ⟨_, rfl⟩
  replace H : (some (y225, y219, false)) = some (r1, r2, r3) := by first | (rw [hy225]; with_reducible exact H) | (have H2_ := (Option.bind_some _ _).symm.trans H; rw [hy225]; with_reducible exact H2_) | (have H2_ := (Option.bind_some _ _).symm.trans H; with_reducible exact H2_) | with_reducible exact H | (rw [hy225]; exact H) | exact H
  have Ny225 := Aside0.mk hy225
  clear hy225
  simp only [Option.some.injEq, Prod.mk.injEq] at H
  obtain ⟨rfl, rfl, rfl⟩ := H
  go_enter Try.func23, Try.ntmps23
  go_wp2_with (first | ((with_reducible refine gate_dst (N := 8) rfl ?_); (try (refine gate_guard (by rfl) ?_; dsimp only)); refine Kd.R_lit (Kd.int .i64) _ 3 ?hg (N := 8) ?hd (xs := ([] : List Int)) (inner := []) (ok := fun _ => True) (okp := fun _ => True) ?hr ?hp (fun _ hk => hk) trivial (Below.refl _ _) (Nat.le_refl _) (by simp) ?_; (case hd => rfl); (case hg => rfl); (case hr => first | (go_simp; done) | (go_simp; rfl)); (case hp => exact (Reps.none _ _)); intro v217 w6 ho7 hb hg_ hnew_; clear hg_ hnew_; (first | rw [← Ny216.out] at ho7 | (simp only [Int.reduceToNat] at ho7; rw [← Ny216.out] at ho7)); have n0_ := Aside0.mk (Kd.R_lower ho7 (below_size (hb_ HB.out))); have n1_ := Aside0.mk (below_step (hb_ HB.out) hb); clear HB; have HO218 := n0_; have HB := n1_; clear n0_ n1_; clear hb ho7) | ((with_reducible refine gate_builtin (b := .append) (xs := #[.tmp 8, .tmp 9]) rfl ?_); (try (refine gate_guard (by rfl) ?_; dsimp only)); at_builtin; refine Kd.R_append_rows (Kd.int .i64) (w0 := w) w.heap.size rfl (.tmp 8) (.tmp 9) 22 3 (.int .i64 0) 8 rfl Try.underlying22 info3 rfl (by decide) (by omega) v217 y216 l1 _ _ _ (fun _ => True) (fun _ => False) rfl rfl ?aO ?aR (fun _ _ h => h) (fun _ h => h.elim) ?aF ?aB ?aS ?aL ?_; (case aR => repeat (first | exact (Kd.C_below HR1.out HB.out) | (with_reducible refine Kd.C_alloc ?_ _) | (with_reducible refine Kd.C_drewN ?_ _) | (with_reducible refine Kd.C_drew ?_))); (case aB => exact (hb_ HB.out)); (case aF => exact (fun _ _ => trivial)); (case aO => exact (rd_ HO218.out)); (case aS => exact (below_size (hb_ HB.out))); (case aL => have := LMc3.out; omega); intro v220 w8 ho hb hg hat; rw [← Ny219.out] at ho; have n0_ := Aside0.mk (hb); have n1_ := Aside0.mk (ho); clear HB; clear HO218; have HB := n0_; have HO221 := n1_; clear n0_ n1_; clear ho hb hg hat) | ((with_reducible refine gate_dst (N := 30) rfl ?_); (try (refine gate_guard (by rfl) ?_; dsimp only)); refine Kd.R_lit k66 _ 66 ?hg (N := 30) ?hd (xs := ([] : List (S66))) (inner := []) (ok := fun _ => True) (okp := fun _ => True) ?hr ?hp (fun _ hk => hk) trivial (Below.refl _ _) (Nat.le_refl _) (by simp) ?_; (case hd => rfl); (case hg => rfl); (case hr => first | (go_simp; done) | (go_simp; rfl)); (case hp => exact (Reps.none _ _)); intro v223 w9 ho10 hb hg_ hnew_; clear hg_ hnew_; (first | rw [← Ny222.out] at ho10 | (simp only [Int.reduceToNat] at ho10; rw [← Ny222.out] at ho10)); have n0_ := Aside0.mk (Kd.R_below (rd_ HO221.out) hb); have n1_ := Aside0.mk (Kd.R_lower ho10 (below_size (hb_ HB.out))); have n2_ := Aside0.mk (below_step (hb_ HB.out) hb); clear HO221; clear HB; have HO221 := n0_; have HO224 := n1_; have HB := n2_; clear n0_ n1_ n2_; clear hb ho10) | ((with_reducible refine gate_builtin (b := .append) (xs := #[.tmp 30, .tmp 31]) rfl ?_); (try (refine gate_guard (by rfl) ?_; dsimp only)); at_builtin; refine Kd.R_append_rows k66 (w0 := w) w.heap.size rfl (.tmp 30) (.tmp 31) 47 66 (.agg #[(.int .i64 0), (.int .i64 0)]) 16 rfl Try.underlying47 info66 rfl (by decide) (by omega) v223 y222 l0 _ _ _ (fun _ => True) (fun _ => False) rfl rfl ?aO ?aR (fun _ _ h => h) (fun _ h => h.elim) ?aF ?aB ?aS ?aL ?_; (case aR => repeat (first | exact (Kd.C_below HR0.out HB.out) | (with_reducible refine Kd.C_alloc ?_ _) | (with_reducible refine Kd.C_drewN ?_ _) | (with_reducible refine Kd.C_drew ?_))); (case aB => exact (hb_ HB.out)); (case aF => exact (fun _ _ => trivial)); (case aO => exact (rd_ HO224.out)); (case aS => exact (below_size (hb_ HB.out))); (case aL => have := LMc5.out; omega); intro v226 w11 ho hb hg hat; rw [← Ny225.out] at ho; have n0_ := Aside0.mk (Kd.R_over' (rd_ HO221.out) (Kd.R_typed (rd_ HO224.out)) (by decide) hg); have n1_ := Aside0.mk (hb); have n2_ := Aside0.mk (ho); clear HO221; clear HB; clear HO224; have HO221 := n0_; have HB := n1_; have HO227 := n2_; clear n0_ n1_ n2_; clear ho hb hg hat))
  go_ret3
  exact ⟨_, _, by first | rfl | (simp [errW_none, errW_some] <;> rfl) | (simp [*, errW_none, errW_some] <;> rfl), rd_ HO227.out, rd_ HO221.out, hb_ HB.out⟩
 rw [if_neg c4] at H
 have c4b0 : ((l0.length : Int) == 0) = false := beq_eq_false_iff_ne.mpr c4
 have c4b1 : ((l0.length : Int) != 0) = true := bne_iff_ne.mpr c4
 have c4b2 : ¬ (l0 = []) := fun h_ => c4 (by rw [h_]; rfl)
 by_cases c12 : 0 < (l0.length : Int)
 rotate_left
 ·rw [if_neg c12] at H
  exact absurd H (by simp)
 rw [if_pos c12] at H
 have c12b0 : decide (0 < (l0.length : Int)) = true := decide_eq_true c12
 have c12b1 : decide (0 < l0.length) = true := decide_eq_true (by omega)
 clear c12
 by_cases c13 : ((rd_T66 l0 0).f0) < 0
 ·rw [if_pos c13] at H
  have c13b0 : decide (((rd_T66 l0 0).f0) < 0) = true := decide_eq_true c13
  clear c13
  obtain ⟨y229, hy229⟩ : ∃ y_ : List (S66), y_ = (([] : List (S66))) := ⟨_, rfl⟩
  replace H : (if y229.length + l0.length < 8796093022208 then (some ((y229 ++ l0), y219, false)) else (none)) = some (r1, r2, r3) := by first | (rw [hy229]; with_reducible exact H) | (have H2_ := (Option.bind_some _ _).symm.trans H; rw [hy229]; with_reducible exact H2_) | (have H2_ := (Option.bind_some _ _).symm.trans H; with_reducible exact H2_) | with_reducible exact H | (rw [hy229]; exact H) | exact H
  have Ny229 := Aside0.mk hy229
  clear hy229
  by_cases c14 : y229.length + l0.length < 8796093022208
  rotate_left
  ·rw [if_neg c14] at H
   exact absurd H (by simp)
  rw [if_pos c14] at H
  have LMc14 := Aside0.mk c14
  clear c14
  obtain ⟨y232, hy232⟩ : ∃ y_ : List (S66), y_ = (y229 ++ l0) := ⟨_, rfl⟩
  replace H : (some (y232, y219, false)) = some (r1, r2, r3) := by first | (rw [hy232]; with_reducible exact H) | (have H2_ := (Option.bind_some _ _).symm.trans H; rw [hy232]; with_reducible exact H2_) | (have H2_ := (Option.bind_some _ _).symm.trans H; with_reducible exact H2_) | with_reducible exact H | (rw [hy232]; exact H) | exact H
  have Ny232 := Aside0.mk hy232
  clear hy232
  simp only [Option.some.injEq, Prod.mk.injEq] at H
  obtain ⟨rfl, rfl, rfl⟩ := H
  go_enter Try.func23, Try.ntmps23
  go_wp2_with (first | ((with_reducible refine gate_dst (N := 8) rfl ?_); (try (refine gate_guard (by rfl) ?_; dsimp only)); refine Kd.R_lit (Kd.int .i64) _ 3 ?hg (N := 8) ?hd (xs := ([] : List Int)) (inner := []) (ok := fun _ => True) (okp := fun _ => True) ?hr ?hp (fun _ hk => hk) trivial (Below.refl _ _) (Nat.le_refl _) (by simp) ?_; (case hd => rfl); (case hg => rfl); (case hr => first | (go_simp; done) | (go_simp; rfl)); (case hp => exact (Reps.none _ _)); intro v217 w15 ho16 hb hg_ hnew_; clear hg_ hnew_; (first | rw [← Ny216.out] at ho16 | (simp only [Int.reduceToNat] at ho16; rw [← Ny216.out] at ho16)); have n0_ := Aside0.mk (Kd.R_lower ho16 (below_size (hb_ HB.out))); have n1_ := Aside0.mk (below_step (hb_ HB.out) hb); clear HB; have HO218 := n0_; have HB := n1_; clear n0_ n1_; clear hb ho16) | ((with_reducible refine gate_builtin (b := .append) (xs := #[.tmp 8, .tmp 9]) rfl ?_); (try (refine gate_guard (by rfl) ?_; dsimp only)); at_builtin; refine Kd.R_append_rows (Kd.int .i64) (w0 := w) w.heap.size rfl (.tmp 8) (.tmp 9) 22 3 (.int .i64 0) 8 rfl Try.underlying22 info3 rfl (by decide) (by omega) v217 y216 l1 _ _ _ (fun _ => True) (fun _ => False) rfl rfl ?aO ?aR (fun _ _ h => h) (fun _ h => h.elim) ?aF ?aB ?aS ?aL ?_; (case aR => repeat (first | exact (Kd.C_below HR1.out HB.out) | (with_reducible refine Kd.C_alloc ?_ _) | (with_reducible refine Kd.C_drewN ?_ _) | (with_reducible refine Kd.C_drew ?_))); (case aB => exact (hb_ HB.out)); (case aF => exact (fun _ _ => trivial)); (case aO => exact (rd_ HO218.out)); (case aS => exact (below_size (hb_ HB.out))); (case aL => have := LMc3.out; omega); intro v220 w17 ho hb hg hat; rw [← Ny219.out] at ho; have n0_ := Aside0.mk (hb); have n1_ := Aside0.mk (ho); clear HB; clear HO218; have HB := n0_; have HO221 := n1_; clear n0_ n1_; clear ho hb hg hat; have p228 : 0 ≤ (0 : Int) := (by omega); have q228 : 0 < (l0.length : Int) := of_decide_eq_true as_; obtain ⟨ad228, e228, hx228_0, hx228_1⟩ := at_T66 HR0.out 0 p228 q228; cases e228; have qi228 : (0 < l0.length) = True := eq_true (by omega); (try rw [show ((0 : Int)).toNat = 0 from rfl] at hx228_0); (try rw [show 0 * 2 = 0 from rfl] at hx228_0); (try rw [Addr.add_zero'] at hx228_0); (try rw [show ((0 : Int)).toNat = 0 from rfl] at hx228_1); (try rw [show 0 * 2 = 0 from rfl] at hx228_1); (try rw [Addr.add_zero'] at hx228_1); replace hx228_0 := cl_ HB.out hx228_0; replace hx228_1 := cl_ HB.out hx228_1; replace p228 := eq_true p228; replace q228 := eq_true q228) | ((with_reducible refine gate_dst (N := 30) rfl ?_); (try (refine gate_guard (by rfl) ?_; dsimp only)); refine Kd.R_lit k66 _ 66 ?hg (N := 30) ?hd (xs := ([] : List (S66))) (inner := []) (ok := fun _ => True) (okp := fun _ => True) ?hr ?hp (fun _ hk => hk) trivial (Below.refl _ _) (Nat.le_refl _) (by simp) ?_; (case hd => rfl); (case hg => rfl); (case hr => first | (go_simp; done) | (go_simp; rfl)); (case hp => exact (Reps.none _ _)); intro v230 w18 ho19 hb hg_ hnew_; clear hg_ hnew_; (first | rw [← Ny229.out] at ho19 | (simp only [Int.reduceToNat] at ho19; rw [← Ny229.out] at ho19)); have n0_ := Aside0.mk (Kd.R_below (rd_ HO221.out) hb); have n1_ := Aside0.mk (Kd.R_lower ho19 (below_size (hb_ HB.out))); have n2_ := Aside0.mk (below_step (hb_ HB.out) hb); clear HO221; clear HB; have HO221 := n0_; have HO231 := n1_; have HB := n2_; clear n0_ n1_ n2_; clear hb ho19) | ((with_reducible refine gate_builtin (b := .append) (xs := #[.tmp 30, .tmp 31]) rfl ?_); (try (refine gate_guard (by rfl) ?_; dsimp only)); at_builtin; refine Kd.R_append_rows k66 (w0 := w) w.heap.size rfl (.tmp 30) (.tmp 31) 47 66 (.agg #[(.int .i64 0), (.int .i64 0)]) 16 rfl Try.underlying47 info66 rfl (by decide) (by omega) v230 y229 l0 _ _ _ (fun _ => True) (fun _ => False) rfl rfl ?aO ?aR (fun _ _ h => h) (fun _ h => h.elim) ?aF ?aB ?aS ?aL ?_; (case aR => repeat (first | exact (Kd.C_below HR0.out HB.out) | (with_reducible refine Kd.C_alloc ?_ _) | (with_reducible refine Kd.C_drewN ?_ _) | (with_reducible refine Kd.C_drew ?_))); (case aB => exact (hb_ HB.out)); (case aF => exact (fun _ _ => trivial)); (case aO => exact (rd_ HO231.out)); (case aS => exact (below_size (hb_ HB.out))); (case aL => have := LMc14.out; omega); intro v233 w20 ho hb hg hat; rw [← Ny232.out] at ho; have n0_ := Aside0.mk (Kd.R_over' (rd_ HO221.out) (Kd.R_typed (rd_ HO231.out)) (by decide) hg); have n1_ := Aside0.mk (hb); have n2_ := Aside0.mk (ho); clear HO221; clear HB; clear HO231; have HO221 := n0_; have HB := n1_; have HO234 := n2_; clear n0_ n1_ n2_; clear ho hb hg hat))
  go_ret3
  exact ⟨_, _, by first | rfl | (simp [errW_none, errW_some] <;> rfl) | (simp [*, errW_none, errW_some] <;> rfl), rd_ HO234.out, rd_ HO221.out, hb_ HB.out⟩
 rw [if_neg c13] at H
 have c13b0 : decide (((rd_T66 l0 0).f0) < 0) = false := decide_eq_false c13
 clear c13
 by_cases c21 : ((rd_T66 l0 0).f0) ≥ (l1.length : Int)
 ·rw [if_pos c21] at H
  have c21b0 : decide ((l1.length : Int) ≤ ((rd_T66 l0 0).f0)) = true := decide_eq_true c21
  clear c21
  obtain ⟨y236, hy236⟩ : ∃ y_ : List (S66), y_ = (([] : List (S66))) := ⟨_, rfl⟩
  replace H : (if y236.length + l0.length < 8796093022208 then (some ((y236 ++ l0), y219, false)) else (none)) = some (r1, r2, r3) := by first | (rw [hy236]; with_reducible exact H) | (have H2_ := (Option.bind_some _ _).symm.trans H; rw [hy236]; with_reducible exact H2_) | (have H2_ := (Option.bind_some _ _).symm.trans H; with_reducible exact H2_) | with_reducible exact H | (rw [hy236]; exact H) | exact H
  have Ny236 := Aside0.mk hy236
  clear hy236
  by_cases c22 : y236.length + l0.length < 8796093022208
  rotate_left
  ·rw [if_neg c22] at H
   exact absurd H (by simp)
  rw [if_pos c22] at H
  have LMc22 := Aside0.mk c22
  clear c22
  obtain ⟨y239, hy239⟩ : ∃ y_ : List (S66), y_ = (y236 ++ l0) := ⟨_, rfl⟩
  replace H : (some (y239, y219, false)) = some (r1, r2, r3) := by first | (rw [hy239]; with_reducible exact H) | (have H2_ := (Option.bind_some _ _).symm.trans H; rw [hy239]; with_reducible exact H2_) | (have H2_ := (Option.bind_some _ _).symm.trans H; with_reducible exact H2_) | with_reducible exact H | (rw [hy239]; exact H) | exact H
  have Ny239 := Aside0.mk hy239
  clear hy239
  simp only [Option.some.injEq, Prod.mk.injEq] at H
  obtain ⟨rfl, rfl, rfl⟩ := H
  go_enter Try.func23, Try.ntmps23
  go_wp2_with (first | ((with_reducible refine gate_dst (N := 8) rfl ?_); (try (refine gate_guard (by rfl) ?_; dsimp only)); refine Kd.R_lit (Kd.int .i64) _ 3 ?hg (N := 8) ?hd (xs := ([] : List Int)) (inner := []) (ok := fun _ => True) (okp := fun _ => True) ?hr ?hp (fun _ hk => hk) trivial (Below.refl _ _) (Nat.le_refl _) (by simp) ?_; (case hd => rfl); (case hg => rfl); (case hr => first | (go_simp; done) | (go_simp; rfl)); (case hp => exact (Reps.none _ _)); intro v217 w23 ho24 hb hg_ hnew_; clear hg_ hnew_; (first | rw [← Ny216.out] at ho24 | (simp only [Int.reduceToNat] at ho24; rw [← Ny216.out] at ho24)); have n0_ := Aside0.mk (Kd.R_lower ho24 (below_size (hb_ HB.out))); have n1_ := Aside0.mk (below_step (hb_ HB.out) hb); clear HB; have HO218 := n0_; have HB := n1_; clear n0_ n1_; clear hb ho24) | ((with_reducible refine gate_builtin (b := .append) (xs := #[.tmp 8, .tmp 9]) rfl ?_); (try (refine gate_guard (by rfl) ?_; dsimp only)); at_builtin; refine Kd.R_append_rows (Kd.int .i64) (w0 := w) w.heap.size rfl (.tmp 8) (.tmp 9) 22 3 (.int .i64 0) 8 rfl Try.underlying22 info3 rfl (by decide) (by omega) v217 y216 l1 _ _ _ (fun _ => True) (fun _ => False) rfl rfl ?aO ?aR (fun _ _ h => h) (fun _ h => h.elim) ?aF ?aB ?aS ?aL ?_; (case aR => repeat (first | exact (Kd.C_below HR1.out HB.out) | (with_reducible refine Kd.C_alloc ?_ _) | (with_reducible refine Kd.C_drewN ?_ _) | (with_reducible refine Kd.C_drew ?_))); (case aB => exact (hb_ HB.out)); (case aF => exact (fun _ _ => trivial)); (case aO => exact (rd_ HO218.out)); (case aS => exact (below_size (hb_ HB.out))); (case aL => have := LMc3.out; omega); intro v220 w25 ho hb hg hat; rw [← Ny219.out] at ho; have n0_ := Aside0.mk (hb); have n1_ := Aside0.mk (ho); clear HB; clear HO218; have HB := n0_; have HO221 := n1_; clear n0_ n1_; clear ho hb hg hat; have p228 : 0 ≤ (0 : Int) := (by omega); have q228 : 0 < (l0.length : Int) := of_decide_eq_true as_; obtain ⟨ad228, e228, hx228_0, hx228_1⟩ := at_T66 HR0.out 0 p228 q228; cases e228; have qi228 : (0 < l0.length) = True := eq_true (by omega); (try rw [show ((0 : Int)).toNat = 0 from rfl] at hx228_0); (try rw [show 0 * 2 = 0 from rfl] at hx228_0); (try rw [Addr.add_zero'] at hx228_0); (try rw [show ((0 : Int)).toNat = 0 from rfl] at hx228_1); (try rw [show 0 * 2 = 0 from rfl] at hx228_1); (try rw [Addr.add_zero'] at hx228_1); replace hx228_0 := cl_ HB.out hx228_0; replace hx228_1 := cl_ HB.out hx228_1; replace p228 := eq_true p228; replace q228 := eq_true q228; have p235 : 0 ≤ (0 : Int) := (by omega); have q235 : 0 < (l0.length : Int) := of_decide_eq_true as_; obtain ⟨ad235, e235, hx235_0, hx235_1⟩ := at_T66 HR0.out 0 p235 q235; obtain rfl : ad228 = ad235 := (by injection e235); have qi235 : (0 < l0.length) = True := eq_true (by omega); (try rw [show ((0 : Int)).toNat = 0 from rfl] at hx235_0); (try rw [show 0 * 2 = 0 from rfl] at hx235_0); (try rw [Addr.add_zero'] at hx235_0); (try rw [show ((0 : Int)).toNat = 0 from rfl] at hx235_1); (try rw [show 0 * 2 = 0 from rfl] at hx235_1); (try rw [Addr.add_zero'] at hx235_1); replace hx235_0 := cl_ HB.out hx235_0; replace hx235_1 := cl_ HB.out hx235_1; replace p235 := eq_true p235; replace q235 := eq_true q235) | ((with_reducible refine gate_dst (N := 30) rfl ?_); (try (refine gate_guard (by rfl) ?_; dsimp only)); refine Kd.R_lit k66 _ 66 ?hg (N := 30) ?hd (xs := ([] : List (S66))) (inner := []) (ok := fun _ => True) (okp := fun _ => True) ?hr ?hp (fun _ hk => hk) trivial (Below.refl _ _) (Nat.le_refl _) (by simp) ?_; (case hd => rfl); (case hg => rfl); (case hr => first | (go_simp; done) | (go_simp; rfl)); (case hp => exact (Reps.none _ _)); intro v237 w26 ho27 hb hg_ hnew_; clear hg_ hnew_; (first | rw [← Ny236.out] at ho27 | (simp only [Int.reduceToNat] at ho27; rw [← Ny236.out] at ho27)); have n0_ := Aside0.mk (Kd.R_below (rd_ HO221.out) hb); have n1_ := Aside0.mk (Kd.R_lower ho27 (below_size (hb_ HB.out))); have n2_ := Aside0.mk (below_step (hb_ HB.out) hb); clear HO221; clear HB; have HO221 := n0_; have HO238 := n1_; have HB := n2_; clear n0_ n1_ n2_; clear hb ho27) | ((with_reducible refine gate_builtin (b := .append) (xs := #[.tmp 30, .tmp 31]) rfl ?_); (try (refine gate_guard (by rfl) ?_; dsimp only)); at_builtin; refine Kd.R_append_rows k66 (w0 := w) w.heap.size rfl (.tmp 30) (.tmp 31) 47 66 (.agg #[(.int .i64 0), (.int .i64 0)]) 16 rfl Try.underlying47 info66 rfl (by decide) (by omega) v237 y236 l0 _ _ _ (fun _ => True) (fun _ => False) rfl rfl ?aO ?aR (fun _ _ h => h) (fun _ h => h.elim) ?aF ?aB ?aS ?aL ?_; (case aR => repeat (first | exact (Kd.C_below HR0.out HB.out) | (with_reducible refine Kd.C_alloc ?_ _) | (with_reducible refine Kd.C_drewN ?_ _) | (with_reducible refine Kd.C_drew ?_))); (case aB => exact (hb_ HB.out)); (case aF => exact (fun _ _ => trivial)); (case aO => exact (rd_ HO238.out)); (case aS => exact (below_size (hb_ HB.out))); (case aL => have := LMc22.out; omega); intro v240 w28 ho hb hg hat; rw [← Ny239.out] at ho; have n0_ := Aside0.mk (Kd.R_over' (rd_ HO221.out) (Kd.R_typed (rd_ HO238.out)) (by decide) hg); have n1_ := Aside0.mk (hb); have n2_ := Aside0.mk (ho); clear HO221; clear HB; clear HO238; have HO221 := n0_; have HB := n1_; have HO241 := n2_; clear n0_ n1_ n2_; clear ho hb hg hat))
  go_ret3
  exact ⟨_, _, by first | rfl | (simp [errW_none, errW_some] <;> rfl) | (simp [*, errW_none, errW_some] <;> rfl), rd_ HO241.out, rd_ HO221.out, hb_ HB.out⟩
 rw [if_neg c21] at H
 have c21b0 : decide ((l1.length : Int) ≤ ((rd_T66 l0 0).f0)) = false := decide_eq_false c21
 clear c21
 by_cases c29 : 0 ≤ ((rd_T66 l0 0).f0)
 rotate_left
 ·rw [if_neg c29] at H
  exact absurd H (by simp)
 rw [if_pos c29] at H
 have c29b0 : decide (0 ≤ ((rd_T66 l0 0).f0)) = true := decide_eq_true c29
 clear c29
 by_cases c30 : ((rd_T66 l0 0).f0) < (y219.length : Int)
 rotate_left
 ·rw [if_neg c30] at H
  exact absurd H (by simp)
 rw [if_pos c30] at H
 have c30b0 : decide (((rd_T66 l0 0).f0) < (y219.length : Int)) = true := decide_eq_true c30
 clear c30
 obtain ⟨y244, hy244⟩ : ∃ y_ : List Int, y_ = (y219.set (((rd_T66 l0 0).f0) : Int).toNat ((rd_T66 l0 0).f1)) := ⟨_, rfl⟩
 replace H : ((some (([] : List (S66)) : List (S66))).bind fun y245 => (if 1 ≤ (l0.length : Int) then ((some (l0.drop 1 : List (S66))).bind fun y248 => (if y245.length + y248.length < 8796093022208 then (some ((y245 ++ y248), y244, true)) else (none))) else (none))) = some (r1, r2, r3) := by first | (rw [hy244]; with_reducible exact H) | (have H2_ := (Option.bind_some _ _).symm.trans H; rw [hy244]; with_reducible exact H2_) | (have H2_ := (Option.bind_some _ _).symm.trans H; with_reducible exact H2_) | with_reducible exact H | (rw [hy244]; exact H) | exact H
 have Ny244 := Aside0.mk hy244
 clear hy244
 obtain ⟨y245, hy245⟩ : ∃ y_ : List (S66), y_ = (([] : List (S66))) := ⟨_, rfl⟩
 replace H : (if 1 ≤ (l0.length : Int) then ((some (l0.drop 1 : List (S66))).bind fun y248 => (if y245.length + y248.length < 8796093022208 then (some ((y245 ++ y248), y244, true)) else (none))) else (none)) = some (r1, r2, r3) := by first | (rw [hy245]; with_reducible exact H) | (have H2_ := (Option.bind_some _ _).symm.trans H; rw [hy245]; with_reducible exact H2_) | (have H2_ := (Option.bind_some _ _).symm.trans H; with_reducible exact H2_) | with_reducible exact H | (rw [hy245]; exact H) | exact H
 have Ny245 := Aside0.mk hy245
 clear hy245
 by_cases c32 : 1 ≤ (l0.length : Int)
 rotate_left
 ·rw [if_neg c32] at H
  exact absurd H (by simp)
 rw [if_pos c32] at H
 have c32b0 := eq_true c32
 have c32b1 : decide (1 ≤ (l0.length : Int)) = true := decide_eq_true c32
 clear c32
 obtain ⟨y248, hy248⟩ : ∃ y_ : List (S66), y_ = (l0.drop 1) := ⟨_, rfl⟩
 replace H : (if y245.length + y248.length < 8796093022208 then (some ((y245 ++ y248), y244, true)) else (none)) = some (r1, r2, r3) := by first | (rw [hy248]; with_reducible exact H) | (have H2_ := (Option.bind_some _ _).symm.trans H; rw [hy248]; with_reducible exact H2_) | (have H2_ := (Option.bind_some _ _).symm.trans H; with_reducible exact H2_) | with_reducible exact H | (rw [hy248]; exact H) | exact H
 have Ny248 := Aside0.mk hy248
 clear hy248
 by_cases c33 : y245.length + y248.length < 8796093022208
 rotate_left
 ·rw [if_neg c33] at H
  exact absurd H (by simp)
 rw [if_pos c33] at H
 have LMc33 := Aside0.mk c33
 clear c33
 obtain ⟨y252, hy252⟩ : ∃ y_ : List (S66), y_ = (y245 ++ y248) := ⟨_, rfl⟩
 replace H : (some (y252, y244, true)) = some (r1, r2, r3) := by first | (rw [hy252]; with_reducible exact H) | (have H2_ := (Option.bind_some _ _).symm.trans H; rw [hy252]; with_reducible exact H2_) | (have H2_ := (Option.bind_some _ _).symm.trans H; with_reducible exact H2_) | with_reducible exact H | (rw [hy252]; exact H) | exact H
 have Ny252 := Aside0.mk hy252
 clear hy252
 simp only [Option.some.injEq, Prod.mk.injEq] at H
 obtain ⟨rfl, rfl, rfl⟩ := H
 go_enter Try.func23, Try.ntmps23
 try go_wp2_with (first | ((with_reducible refine gate_dst (N := 8) rfl ?_); (try (refine gate_guard (by rfl) ?_; dsimp only)); refine Kd.R_lit (Kd.int .i64) _ 3 ?hg (N := 8) ?hd (xs := ([] : List Int)) (inner := []) (ok := fun _ => True) (okp := fun _ => True) ?hr ?hp (fun _ hk => hk) trivial (Below.refl _ _) (Nat.le_refl _) (by simp) ?_; (case hd => rfl); (case hg => rfl); (case hr => first | (go_simp; done) | (go_simp; rfl)); (case hp => exact (Reps.none _ _)); intro v217 w34 ho35 hb hg_ hnew_; clear hg_ hnew_; (first | rw [← Ny216.out] at ho35 | (simp only [Int.reduceToNat] at ho35; rw [← Ny216.out] at ho35)); have n0_ := Aside0.mk (Kd.R_lower ho35 (below_size (hb_ HB.out))); have n1_ := Aside0.mk (below_step (hb_ HB.out) hb); clear HB; have HO218 := n0_; have HB := n1_; clear n0_ n1_; clear hb ho35) | ((with_reducible refine gate_builtin (b := .append) (xs := #[.tmp 8, .tmp 9]) rfl ?_); (try (refine gate_guard (by rfl) ?_; dsimp only)); at_builtin; refine Kd.R_append_rows (Kd.int .i64) (w0 := w) w.heap.size rfl (.tmp 8) (.tmp 9) 22 3 (.int .i64 0) 8 rfl Try.underlying22 info3 rfl (by decide) (by omega) v217 y216 l1 _ _ _ (fun _ => True) (fun _ => False) rfl rfl ?aO ?aR (fun _ _ h => h) (fun _ h => h.elim) ?aF ?aB ?aS ?aL ?_; (case aR => repeat (first | exact (Kd.C_below HR1.out HB.out) | (with_reducible refine Kd.C_alloc ?_ _) | (with_reducible refine Kd.C_drewN ?_ _) | (with_reducible refine Kd.C_drew ?_))); (case aB => exact (hb_ HB.out)); (case aF => exact (fun _ _ => trivial)); (case aO => exact (rd_ HO218.out)); (case aS => exact (below_size (hb_ HB.out))); (case aL => have := LMc3.out; omega); intro v220 w36 ho hb hg hat; rw [← Ny219.out] at ho; have n0_ := Aside0.mk (hb); have n1_ := Aside0.mk (ho); clear HB; clear HO218; have HB := n0_; have HO221 := n1_; clear n0_ n1_; clear ho hb hg hat; have p228 : 0 ≤ (0 : Int) := (by omega); have q228 : 0 < (l0.length : Int) := of_decide_eq_true as_; obtain ⟨ad228, e228, hx228_0, hx228_1⟩ := at_T66 HR0.out 0 p228 q228; cases e228; have qi228 : (0 < l0.length) = True := eq_true (by omega); (try rw [show ((0 : Int)).toNat = 0 from rfl] at hx228_0); (try rw [show 0 * 2 = 0 from rfl] at hx228_0); (try rw [Addr.add_zero'] at hx228_0); (try rw [show ((0 : Int)).toNat = 0 from rfl] at hx228_1); (try rw [show 0 * 2 = 0 from rfl] at hx228_1); (try rw [Addr.add_zero'] at hx228_1); replace hx228_0 := cl_ HB.out hx228_0; replace hx228_1 := cl_ HB.out hx228_1; replace p228 := eq_true p228; replace q228 := eq_true q228; have p235 : 0 ≤ (0 : Int) := (by omega); have q235 : 0 < (l0.length : Int) := of_decide_eq_true as_; obtain ⟨ad235, e235, hx235_0, hx235_1⟩ := at_T66 HR0.out 0 p235 q235; obtain rfl : ad228 = ad235 := (by injection e235); have qi235 : (0 < l0.length) = True := eq_true (by omega); (try rw [show ((0 : Int)).toNat = 0 from rfl] at hx235_0); (try rw [show 0 * 2 = 0 from rfl] at hx235_0); (try rw [Addr.add_zero'] at hx235_0); (try rw [show ((0 : Int)).toNat = 0 from rfl] at hx235_1); (try rw [show 0 * 2 = 0 from rfl] at hx235_1); (try rw [Addr.add_zero'] at hx235_1); replace hx235_0 := cl_ HB.out hx235_0; replace hx235_1 := cl_ HB.out hx235_1; replace p235 := eq_true p235; replace q235 := eq_true q235))
 have n0_ := Aside0.mk (Kd.R_drew HO221.out)
 have n1_ := Aside0.mk (below_drew1 HB.out)
 clear HO221
 clear HB
 have HO221 := n0_
 have HB := n1_
 clear n0_ n1_
 have p242 : 0 ≤ (0 : Int) := (by omega)
 have q242 : 0 < (l0.length : Int) := of_decide_eq_true as_
 obtain ⟨ad242, e242, hx242_0, hx242_1⟩ := at_T66 HR0.out 0 p242 q242
 have hw242_1 := hx242_1
 (try rw [show ((0 : Int)).toNat = 0 from rfl] at hw242_1)
 (try rw [show 0 * 2 = 0 from rfl] at hw242_1)
 (try rw [Addr.add_zero'] at hw242_1)
 have hw242_0 := hx242_0
 (try rw [show ((0 : Int)).toNat = 0 from rfl] at hw242_0)
 (try rw [show 0 * 2 = 0 from rfl] at hw242_0)
 (try rw [Addr.add_zero'] at hw242_0)
 obtain rfl : ad228 = ad242 := (by injection e242)
 have qi242 : (0 < l0.length) = True := eq_true (by omega)
 (try rw [show ((0 : Int)).toNat = 0 from rfl] at hx242_0)
 (try rw [show 0 * 2 = 0 from rfl] at hx242_0)
 (try rw [Addr.add_zero'] at hx242_0)
 (try rw [show ((0 : Int)).toNat = 0 from rfl] at hx242_1)
 (try rw [show 0 * 2 = 0 from rfl] at hx242_1)
 (try rw [Addr.add_zero'] at hx242_1)
 replace hx242_0 := cl_ HB.out hx242_0
 replace hx242_1 := cl_ HB.out hx242_1
 replace p242 := eq_true p242
 replace q242 := eq_true q242
 have p243 : 0 ≤ (0 : Int) := (by omega)
 have q243 : 0 < (l0.length : Int) := of_decide_eq_true as_
 obtain ⟨ad243, e243, hx243_0, hx243_1⟩ := at_T66 HR0.out 0 p243 q243
 have hw243_1 := hx243_1
 (try rw [show ((0 : Int)).toNat = 0 from rfl] at hw243_1)
 (try rw [show 0 * 2 = 0 from rfl] at hw243_1)
 (try rw [Addr.add_zero'] at hw243_1)
 have hw243_0 := hx243_0
 (try rw [show ((0 : Int)).toNat = 0 from rfl] at hw243_0)
 (try rw [show 0 * 2 = 0 from rfl] at hw243_0)
 (try rw [Addr.add_zero'] at hw243_0)
 obtain rfl : ad228 = ad243 := (by injection e243)
 have qi243 : (0 < l0.length) = True := eq_true (by omega)
 (try rw [show ((0 : Int)).toNat = 0 from rfl] at hx243_0)
 (try rw [show 0 * 2 = 0 from rfl] at hx243_0)
 (try rw [Addr.add_zero'] at hx243_0)
 (try rw [show ((0 : Int)).toNat = 0 from rfl] at hx243_1)
 (try rw [show 0 * 2 = 0 from rfl] at hx243_1)
 (try rw [Addr.add_zero'] at hx243_1)
 replace hx243_0 := cl_ HB.out hx243_0
 replace hx243_1 := cl_ HB.out hx243_1
 replace p243 := eq_true p243
 replace q243 := eq_true q243
 have p31 : 0 ≤ (((rd_T66 l0 0).f0) : Int) := of_decide_eq_true as_
 have q31 : (((rd_T66 l0 0).f0) : Int) < ((y219.length : Int) : Int) := of_decide_eq_true as_
 obtain ⟨go31, co31, eo31, gb31, gl31, cl31, HG31⟩ := Kd.R_form HO221.out (by omega)
 (first | cases eo31 | (injection eo31 with ea_ en_ ec_; (first | subst ea_ | (injection ea_ with ea_; subst ea_)); subst ec_; clear en_))
 have GB31 := Aside0.mk gb31
 have GG31 := Aside0.mk HG31
 clear gb31 gl31 HG31
 obtain ⟨hx31_0, hf31_0⟩ := Kd.R_celln 0 HO221.out (((rd_T66 l0 0).f0) : Int) p31 q31
 replace p31 := eq_true p31
 replace q31 := eq_true q31
 have HP38 := Kd.R_putn HO221.out (((rd_T66 l0 0).f0) : Int) ((rd_T66 l0 0).f1)
 rw [← Ny244.out] at HP38
 have HQ38 := Aside0.mk HP38
 clear HP38
 refine start_ (n := 11) (S := fun w' => w'.cell? ad228 = some (.int .i64 ((rd_T66 l0 0).f0)) ∧ w'.cell? ⟨ad228.block, ad228.off + 1, none⟩ = some (.int .i64 ((rd_T66 l0 0).f1)) ∧ w'.cell? ad228 = some (.int .i64 ((rd_T66 l0 0).f0)) ∧ w'.cell? ⟨ad228.block, ad228.off + 1, none⟩ = some (.int .i64 ((rd_T66 l0 0).f1))) (ds := [10]) #[false, false, false, false, false, false, false, false, false, false, false] (by kernel_rfl) rfl rfl ⟨((HB.out.cell (World.block_lt_of_cell? w _ hw242_0)).trans hw242_0), ((HB.out.cell (World.block_lt_of_cell? w _ hw242_1)).trans hw242_1), ((HB.out.cell (World.block_lt_of_cell? w _ hw243_0)).trans hw243_0), ((HB.out.cell (World.block_lt_of_cell? w _ hw243_1)).trans hw243_1)⟩ (fun hHeld => ?_); refine with_tabW fencepostref09_Drain.tab4 fencepostref09_Drain.bits4 (fun HT_ HW_ => ?_)
 generalize w36.drew = w37 at HO221 HB GG31 HQ38 hf31_0 hx242_0 hx242_1 hx243_0 hx243_1 hx31_0 hHeld ⊢
 refine pure_ (i := 0) (N := some 34) (v := ?_) (a' := ?_) #[true, false, false, false, false, false, false, false, false, false, false] rfl rfl (any_of HT_.out (by kernel_rfl)) (fun _ _ _ h => h) (Or.inl ⟨by rfl, ?_⟩) ?_ ?_; rotate_left; intro w'; go_simp; with_reducible rfl; rotate_left; simp only [Act.put, List.setIfInBounds_toArray, List.set_cons_zero, List.set_cons_succ, i64_w, i32_w]; rfl
 refine pure_ (i := 1) (N := some 35) (v := ?_) (a' := ?_) #[true, true, false, false, false, false, false, false, false, false, false] rfl rfl (any_of HT_.out (by kernel_rfl)) (fun _ _ _ h => h) (Or.inl ⟨by rfl, ?_⟩) ?_ ?_; rotate_left; intro w'; go_simp; with_reducible rfl; rotate_left; simp only [Act.put, List.setIfInBounds_toArray, List.set_cons_zero, List.set_cons_succ, i64_w, i32_w]; rfl
 refine pure_ (i := 2) (N := some 36) (v := ?_) (a' := ?_) #[true, true, true, false, false, false, false, false, false, false, false] rfl rfl (any_of HT_.out (by kernel_rfl)) (fun _ _ _ h => h) (Or.inl ⟨by rfl, ?_⟩) ?_ ?_; rotate_left; intro w'; go_simp; with_reducible rfl; rotate_left; simp only [Act.put, List.setIfInBounds_toArray, List.set_cons_zero, List.set_cons_succ, i64_w, i32_w]; rfl
 refine pure_ (i := 3) (N := some 37) (v := ?_) (a' := ?_) #[true, true, true, true, false, false, false, false, false, false, false] rfl rfl (any_of HT_.out (by kernel_rfl)) (fun _ _ _ h => h) (Or.inl ⟨by rfl, ?_⟩) ?_ ?_; rotate_left; intro w'; go_simp; with_reducible rfl; rotate_left; simp only [Act.put, List.setIfInBounds_toArray, List.set_cons_zero, List.set_cons_succ, i64_w, i32_w]; rfl
 refine pure_ (i := 5) (N := some 39) (v := ?_) (a' := ?_) #[true, true, true, true, false, true, false, false, false, false, false] rfl rfl (any_of HT_.out (by kernel_rfl)) (fun _ _ _ h => h) (Or.inl ⟨by rfl, ?_⟩) ?_ ?_; rotate_left; intro w'; go_simp; with_reducible rfl; rotate_left; simp only [Act.put, List.setIfInBounds_toArray, List.set_cons_zero, List.set_cons_succ, i64_w, i32_w]; rfl
 refine pure_ (i := 6) (N := some 40) (v := ?_) (a' := ?_) #[true, true, true, true, false, true, true, false, false, false, false] rfl rfl (any_of HT_.out (by kernel_rfl)) (fun _ _ _ h => h) (Or.inl ⟨by rfl, ?_⟩) ?_ ?_; rotate_left; intro w'; go_simp; with_reducible rfl; rotate_left; simp only [Act.put, List.setIfInBounds_toArray, List.set_cons_zero, List.set_cons_succ, i64_w, i32_w]; rfl
 refine pure_ (i := 7) (N := some 41) (v := ?_) (a' := ?_) #[true, true, true, true, false, true, true, true, false, false, false] rfl rfl (any_of HT_.out (by kernel_rfl)) (fun _ _ _ h => h) (Or.inl ⟨by rfl, ?_⟩) ?_ ?_; rotate_left; intro w'; go_simp; with_reducible rfl; rotate_left; simp only [Act.put, List.setIfInBounds_toArray, List.set_cons_zero, List.set_cons_succ, i64_w, i32_w]; rfl
 refine take_ (i := 4) (N := some 38) (v := ?_) (a' := ?_) #[true, true, true, true, true, true, true, true, false, false, false] rfl rfl (take_ofW HT_.out HW_.out (by kernel_rfl)) (fun _ _ _ h => h) (Or.inl ⟨by rfl, ?_⟩) hHeld ?_ ?_; rotate_left; rintro w' ⟨s0, s1, s2, s3⟩; go_simp; with_reducible rfl; rotate_left; simp only [Act.put, List.setIfInBounds_toArray, List.set_cons_zero, List.set_cons_succ, i64_w, i32_w]; rfl
 refine take_ (i := 8) (N := some 42) (v := ?_) (a' := ?_) #[true, true, true, true, true, true, true, true, true, false, false] rfl rfl (take_ofW HT_.out HW_.out (by kernel_rfl)) (fun _ _ _ h => h) (Or.inl ⟨by rfl, ?_⟩) hHeld ?_ ?_; rotate_left; rintro w' ⟨s0, s1, s2, s3⟩; go_simp; with_reducible rfl; rotate_left; simp only [Act.put, List.setIfInBounds_toArray, List.set_cons_zero, List.set_cons_succ, i64_w, i32_w]; rfl
 refine pure_ (i := 9) (N := some 43) (v := ?_) (a' := ?_) #[true, true, true, true, true, true, true, true, true, true, false] rfl rfl (any_of HT_.out (by kernel_rfl)) (fun _ _ _ h => h) (Or.inl ⟨by rfl, ?_⟩) ?_ ?_; rotate_left; intro w'; go_simp; with_reducible rfl; rotate_left; simp only [Act.put, List.setIfInBounds_toArray, List.set_cons_zero, List.set_cons_succ, i64_w, i32_w]; rfl
 refine last_ (i := 10) (N := none) #[true, true, true, true, true, true, true, true, true, true, true] rfl rfl (one_of HT_.out (by kernel_rfl)) (by decide) (fun K hK => ?_)
 refine skip_ (w1 := ?_) (by rfl) rfl ?_ ?_
 rotate_left
 ·go_simp
  rfl
 refine hK.out _ _ ?_
 clear hK K
 refine done_ (done_of HT_.out (by kernel_rfl)) ?_
 try go_wp2_with (first | ((with_reducible refine gate_dst (N := 44) rfl ?_); (try (refine gate_guard (by rfl) ?_; dsimp only)); refine Kd.R_lit k66 _ 66 ?hg (N := 44) ?hd (xs := ([] : List (S66))) (inner := []) (ok := fun _ => True) (okp := fun _ => True) ?hr ?hp (fun _ hk => hk) trivial (Below.refl _ _) (Nat.le_refl _) (by simp) ?_; (case hd => rfl); (case hg => rfl); (case hr => first | (go_simp; done) | (go_simp; rfl)); (case hp => exact (Reps.none _ _)); intro v246 w39 ho40 hb hg_ hnew_; clear hg_ hnew_; (first | rw [← Ny245.out] at ho40 | (simp only [Int.reduceToNat] at ho40; rw [← Ny245.out] at ho40)); have n0_ := Aside0.mk (Kd.R_below (rd_ HQ38.out) hb); have n1_ := Aside0.mk (Kd.R_lower ho40 (below_size (hb_ HB.out))); have n2_ := Aside0.mk (below_step (hb_ HB.out) hb); clear HO221; clear HB; have HO221 := n0_; have HO247 := n1_; have HB := n2_; clear n0_ n1_ n2_; clear hb ho40; have q41 : (1 : Int) ≤ ((l0.length : Int) : Int) := of_decide_eq_true as_; obtain ⟨i041, hi041, _, hsz41, _⟩ := info_parts info66; have hroom41 : l0.length ≤ c0 := HC0.out; have hC41 : Kd.C k66 _ (some ad228) l0.length l0 := HR0.out; have hcut41 := cut_from (P := Try.prog) 47 66 .i64 Try.underlying47 hi041 2 hsz41 (some ad228) l0.length c0 1 (by omega) q41; have hr41 := Kd.C_drop (m := (1 : Int).toNat) (c := c0) hC41 (by omega) hroom41; obtain ⟨A41, hA41⟩ : ∃ A1, A1 = (if c0 = (1 : Int).toNat then (some ad228) else ((some ad228) : Option Addr).map (·.add ((1 : Int).toNat * 2))) := ⟨_, rfl⟩; obtain ⟨c41, hc41⟩ : ∃ c1, c1 = c0 - (1 : Int).toNat := ⟨_, rfl⟩; have hy41 : y248.length = l0.length - (1 : Int).toNat := (by rw [Ny248.out, List.length_drop] <;> omega); rw [show (l0).drop (1 : Int).toNat = y248 from Ny248.out.symm] at hr41; replace hr41 : Kd.C k66 _ A41 y248.length y248 := (by rw [hA41]; exact hr41); rw [← hy41, ← hA41, ← hc41] at hcut41; have HR251 := Aside0.mk hr41; have HC251 := Aside0.mk (show y248.length ≤ c41 from by rw [hy41, hc41]; exact Nat.sub_le_sub_right hroom41 _); clear hr41 hC41 hroom41 hi041 hsz41 hc41; have KY41 := Aside0.mk hy41; have KA41 := Aside0.mk hA41; clear hy41 hA41; replace q41 := eq_true q41) | ((with_reducible refine gate_builtin (b := .append) (xs := #[.tmp 44, .tmp 46]) rfl ?_); (try (refine gate_guard (by rfl) ?_; dsimp only)); at_builtin; refine Kd.R_append_rows k66 (w0 := w) w.heap.size rfl (.tmp 44) (.tmp 46) 47 66 (.agg #[(.int .i64 0), (.int .i64 0)]) 16 rfl Try.underlying47 info66 rfl (by decide) (by omega) v246 y245 y248 _ _ _ (fun _ => True) (fun _ => False) rfl rfl ?aO ?aR (fun _ _ h => h) (fun _ h => h.elim) ?aF ?aB ?aS ?aL ?_; (case aR => repeat (first | exact (Kd.C_below HR251.out HB.out) | (with_reducible refine Kd.C_alloc ?_ _) | (with_reducible refine Kd.C_drewN ?_ _) | (with_reducible refine Kd.C_drew ?_))); (case aB => exact (hb_ HB.out)); (case aF => exact (fun _ _ => trivial)); (case aO => exact (rd_ HO247.out)); (case aS => exact (below_size (hb_ HB.out))); (case aL => have := LMc33.out; omega); intro v253 w42 ho hb hg hat; rw [← Ny252.out] at ho; have n0_ := Aside0.mk (Kd.R_over' (rd_ HO221.out) (Kd.R_typed (rd_ HO247.out)) (by decide) hg); have n1_ := Aside0.mk (hb); have n2_ := Aside0.mk (ho); clear HO221; clear HB; clear HO247; have HO221 := n0_; have HB := n1_; have HO254 := n2_; clear n0_ n1_ n2_; clear ho hb hg hat))
 go_ret3
 exact ⟨_, _, by first | rfl | (simp [errW_none, errW_some] <;> rfl) | (simp [*, errW_none, errW_some] <;> rfl), rd_ HO254.out, rd_ HO221.out, hb_ HB.out⟩
end Go.Proofs.Ytphklaajolpieaa.Print
