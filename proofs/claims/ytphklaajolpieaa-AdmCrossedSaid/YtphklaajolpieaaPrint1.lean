-- Written by ownprint.py (this session's) with the kit's print.py: functions, contracts, rows; Lean checks it.
import Derived.Test.YtphklaajolpieaaPrint0
import Derived.Test.YtphklaajolpieaaHSq
import Derived.Test.YtphklaajolpieaaHAdm
namespace Go.Proofs.Ytphklaajolpieaa.Print
open Go.RowKit Go.Proofs.YtphklaajolpieaaW.PrintWords Go.Proofs.YtphklaajolpieaaW.PrintLast Go.Proofs.YtphklaajolpieaaW.PrintMore
attribute [local go_sem] max2_int min2_int max_two min_two max_three min_three max_four min_four   -- for this text's walks alone
set_option linter.unusedVariables false
set_option linter.unusedSimpArgs false
def fencepostref07_SameInts.l0 : Nat → List Int → List Int → Int → Option (Bool)
 | 0, _, _, _ => none
 | k + 1, x0, x1, x5 => if x5 < (x0.length : Int) then (if 0 ≤ x5 then (if x5 < (x1.length : Int) then (if (rd x0 x5) = (rd x1 x5) then (fencepostref07_SameInts.l0 k x0 x1 (wrap64 (x5 + 1))) else (some false)) else (none)) else (none)) else (some true)
def fencepostref07_SameInts.f (k : Nat) (l0 : List Int) (l1 : List Int) : Option (Bool) := if (l0.length : Int) = (l1.length : Int) then (fencepostref07_SameInts.l0 k l0 l1 0) else (some false)
theorem fencepostref07_SameInts.mono_l : ∀ k, (∀ y0 y1 y2, LeO (fencepostref07_SameInts.l0 k y0 y1 y2) (fencepostref07_SameInts.l0 (k + 1) y0 y1 y2))
 | 0 => fun _ _ _ r h => by simp [fencepostref07_SameInts.l0] at h
 | k + 1 => by
  have ih0 := fencepostref07_SameInts.mono_l k
  ·intro y0 y1 y2
   unfold fencepostref07_SameInts.l0
   repeat' first
   | (with_reducible exact ih0 _ _ _)
   | (with_reducible exact LeO.refl _)
   | (with_reducible exact LeO.none _)
   | (with_reducible refine LeO.ite ?_ ?_)
   | (with_reducible refine LeO.bind ?_ (fun _ => ?_))
   | exact ih0 _ _ _
   | exact LeO.none _
   | refine LeO.ite ?_ ?_
   | refine LeO.bind ?_ (fun _ => ?_)
theorem fencepostref07_SameInts.mono : ∀ a0 a1 k, LeO (fencepostref07_SameInts.f k a0 a1) (fencepostref07_SameInts.f (k + 1) a0 a1) := by
 intro a0 a1 k
 have ih0 := fencepostref07_SameInts.mono_l k
 unfold fencepostref07_SameInts.f
 repeat' first
  | (with_reducible exact ih0 _ _ _)
  | (with_reducible exact LeO.refl _)
  | (with_reducible exact LeO.none _)
  | (with_reducible refine LeO.ite ?_ ?_)
  | (with_reducible refine LeO.bind ?_ (fun _ => ?_))
  | exact ih0 _ _ _
  | exact LeO.none _
  | refine LeO.ite ?_ ?_
  | refine LeO.bind ?_ (fun _ => ?_)
set_option maxHeartbeats 8000000 in
set_option maxRecDepth 100000 in
theorem fencepostref07_SameInts.calls (k : Nat) (A0 : Option Addr) (c0 : Nat) (l0 : List Int) (A1 : Option Addr) (c1 : Nat) (l1 : List Int) (r : Bool) (w : World) (hr0 : Kd.C (Kd.int .i64) w A0 l0.length l0) (hc0 : l0.length ≤ c0) (hr1 : Kd.C (Kd.int .i64) w A1 l1.length l1) (hc1 : l1.length ≤ c1) (h : fencepostref07_SameInts.f k l0 l1 = some r) :
 Calls Try.prog 7 #[.slice A0 l0.length c0, .slice A1 l1.length c1] w fun e w' => e = .returned (.bool r) ∧ Drawn0 w w' := by
 have HR0 := Aside0.mk hr0
 have HC0 := Aside0.mk hc0
 clear hr0 hc0
 have HR1 := Aside0.mk hr1
 have HC1 := Aside0.mk hc1
 clear hr1 hc1
 have H : (if (l0.length : Int) = (l1.length : Int) then (fencepostref07_SameInts.l0 k l0 l1 0) else (some false)) = some r := h
 clear h
 by_cases c3 : (l0.length : Int) = (l1.length : Int)
 rotate_left
 ·rw [if_neg c3] at H
  have c3b0 : ((l0.length : Int) == (l1.length : Int)) = false := beq_eq_false_iff_ne.mpr c3
  have c3b1 : ((l0.length : Int) != (l1.length : Int)) = true := bne_iff_ne.mpr c3
  have c3b2 : (l0.length == l1.length) = false := by first | simpa using c3 | (simp at c3 ⊢; omega)
  obtain rfl := Option.some.inj H
  go_enter Try.func7, Try.ntmps7
  go_wp2
  repeat (go_quiet (fail); try go_wp2)
  go_ret
  exact ⟨by first | rfl | (simp; done) | (simp [*]; done), by repeat (first | exact Drawn0.refl _ | apply Drawn0.step)⟩
 rw [if_pos c3] at H
 have c3b0 : ((l0.length : Int) == (l1.length : Int)) = true := beq_iff_eq.mpr c3
 have c3b1 : ((l0.length : Int) != (l1.length : Int)) = false := bne_eq_false_iff_eq.mpr c3
 have c3b2 : (l0.length == l1.length) = true := by first | simpa using c3 | (simp at c3 ⊢; omega)
 clear c3
 have H' := Aside0.mk H
 clear H
 go_enter Try.func7, Try.ntmps7
 go_wp2
 repeat (go_quiet (fail); try go_wp2)
 go_loopg [5] k (fun kq v5 w' => ∃ (x5_1 : Int), v5 = .int .i64 x5_1 ∧ Aside0 (fencepostref07_SameInts.l0 kq l0 l1 x5_1 = some r) ∧ Aside0 (kq ≤ k) ∧ Drawn0 w w')
 case atStart => exact ⟨(0), rf_, H', ⟨Nat.le_refl _⟩, by repeat (first | exact Drawn0.refl _ | apply Drawn0.step)⟩
 clear H'
 try clear c1
 try clear c3
 try clear c3b0
 try clear c3b1
 try clear c3b2
 obtain ⟨x5_1, rfl, HA, HK1, ⟨m1, rfl⟩⟩ := hrel
 cases gk with
 | zero => exact absurd HA.out (by simp [fencepostref07_SameInts.l0])
 | succ k1 => ?_
 have H := HA.out
 clear HA
 simp only [fencepostref07_SameInts.l0] at H
 by_cases c4 : x5_1 < (l0.length : Int)
 rotate_left
 ·rw [if_neg c4] at H
  have c4b0 : decide (x5_1 < (l0.length : Int)) = false := decide_eq_false c4
  clear c4
  obtain rfl := Option.some.inj H
  go_wp2
  repeat (go_quiet (fail); try go_wp2)
  go_ret
  exact ⟨by first | rfl | (simp; done) | (simp [*]; done), by repeat (first | exact Drawn0.refl _ | apply Drawn0.step)⟩
 rw [if_pos c4] at H
 have c4b0 : decide (x5_1 < (l0.length : Int)) = true := decide_eq_true c4
 clear c4
 by_cases c5 : 0 ≤ x5_1
 rotate_left
 ·rw [if_neg c5] at H
  exact absurd H (by simp)
 rw [if_pos c5] at H
 have c5b0 : decide (0 ≤ x5_1) = true := decide_eq_true c5
 clear c5
 by_cases c6 : x5_1 < (l1.length : Int)
 rotate_left
 ·rw [if_neg c6] at H
  exact absurd H (by simp)
 rw [if_pos c6] at H
 have c6b0 : decide (x5_1 < (l1.length : Int)) = true := decide_eq_true c6
 clear c6
 by_cases c7 : (rd l0 x5_1) = (rd l1 x5_1)
 rotate_left
 ·rw [if_neg c7] at H
  have c7b0 : ((rd l0 x5_1) == (rd l1 x5_1)) = false := beq_eq_false_iff_ne.mpr c7
  have c7b1 : ((rd l0 x5_1) != (rd l1 x5_1)) = true := bne_iff_ne.mpr c7
  obtain rfl := Option.some.inj H
  have p101 : 0 ≤ (x5_1 : Int) := of_decide_eq_true as_
  have q101 : x5_1 < (l0.length : Int) := of_decide_eq_true as_
  obtain ⟨ad101, e101, hx101_0⟩ := Kd.at_int HR0.out x5_1 p101 q101
  cases e101
  replace p101 := eq_true p101
  replace q101 := eq_true q101
  have p102 : 0 ≤ (x5_1 : Int) := of_decide_eq_true as_
  have q102 : x5_1 < (l1.length : Int) := of_decide_eq_true as_
  obtain ⟨ad102, e102, hx102_0⟩ := Kd.at_int HR1.out x5_1 p102 q102
  cases e102
  replace p102 := eq_true p102
  replace q102 := eq_true q102
  go_wp2
  repeat (go_quiet (fail); try go_wp2)
  go_ret
  exact ⟨by first | rfl | (simp; done) | (simp [*]; done), by repeat (first | exact Drawn0.refl _ | apply Drawn0.step)⟩
 rw [if_pos c7] at H
 have c7b0 : ((rd l0 x5_1) == (rd l1 x5_1)) = true := beq_iff_eq.mpr c7
 have c7b1 : ((rd l0 x5_1) != (rd l1 x5_1)) = false := bne_eq_false_iff_eq.mpr c7
 clear c7
 have H' := Aside0.mk H
 clear H
 have p101 : 0 ≤ (x5_1 : Int) := of_decide_eq_true as_
 have q101 : x5_1 < (l0.length : Int) := of_decide_eq_true as_
 obtain ⟨ad101, e101, hx101_0⟩ := Kd.at_int HR0.out x5_1 p101 q101
 cases e101
 replace p101 := eq_true p101
 replace q101 := eq_true q101
 have p102 : 0 ≤ (x5_1 : Int) := of_decide_eq_true as_
 have q102 : x5_1 < (l1.length : Int) := of_decide_eq_true as_
 obtain ⟨ad102, e102, hx102_0⟩ := Kd.at_int HR1.out x5_1 p102 q102
 cases e102
 replace p102 := eq_true p102
 replace q102 := eq_true q102
 go_wp2
 repeat (go_quiet (fail); try go_wp2)
 go_roundg k1
 case measure => have := HK1.out; omega
 case rel => exact ⟨(wrap64 (x5_1 + 1)), rf_, H', ⟨by have := HK1.out; omega⟩, by repeat (first | exact Drawn0.refl _ | apply Drawn0.step)⟩
def fencepostlaw07_Buffering.f  : Option (List Int × (List (List (S36)))) := some ((([0, 0] : List Int)), (([(([(⟨4, 0, 0, 1, 0⟩ : S36), (⟨2, 0, 1, 0, 0⟩ : S36)] : List (S36))), (([(⟨4, 0, 1, 1, 0⟩ : S36), (⟨2, 0, 0, 0, 0⟩ : S36)] : List (S36)))] : List (List (S36)))))
set_option maxHeartbeats 8000000 in
set_option maxRecDepth 100000 in
theorem fencepostlaw07_Buffering.calls  (r1 : List Int) (r2 : List (List (S36))) (w : World) (h : fencepostlaw07_Buffering.f  = some (r1, r2)) :
 Calls Try.prog 9 #[] w fun e w' => ∃ v0_ v1_ : Value, e = .returned (.agg #[v0_, v1_]) ∧ Kd.R (Kd.int .i64) 3 w' w.heap.size (fun k_ => (w.heap.size ≤ k_)) v0_ r1 ∧ Kd.N (Kd.slice 36 k36) 37 w' w.heap.size (fun k_ => (w.heap.size ≤ k_) ∧ some k_ ≠ (v0_ : Value).ownBlock) v1_ r2 ∧ Below w.heap.size w w' := by
 have hu25 := Try.underlying25
 have hu36 := Try.underlying36
 have HB := Aside0.mk (Below.refl w.heap.size w)
 have H : (some ((([0, 0] : List Int)), (([(([(⟨4, 0, 0, 1, 0⟩ : S36), (⟨2, 0, 1, 0, 0⟩ : S36)] : List (S36))), (([(⟨4, 0, 1, 1, 0⟩ : S36), (⟨2, 0, 0, 0, 0⟩ : S36)] : List (S36)))] : List (List (S36)))))) = some (r1, r2) := h
 clear h
 obtain ⟨y104, hy104⟩ : ∃ y_ : List Int, y_ = (([0, 0] : List Int)) := ⟨_, rfl⟩
 replace H : (some (y104, (([(([(⟨4, 0, 0, 1, 0⟩ : S36), (⟨2, 0, 1, 0, 0⟩ : S36)] : List (S36))), (([(⟨4, 0, 1, 1, 0⟩ : S36), (⟨2, 0, 0, 0, 0⟩ : S36)] : List (S36)))] : List (List (S36)))))) = some (r1, r2) := by first | (rw [hy104]; with_reducible exact H) | (have H2_ := (Option.bind_some _ _).symm.trans H; rw [hy104]; with_reducible exact H2_) | (have H2_ := (Option.bind_some _ _).symm.trans H; with_reducible exact H2_) | with_reducible exact H | (rw [hy104]; exact H) | exact H
 have Ny104 := Aside0.mk hy104
 clear hy104
 obtain ⟨y107, hy107⟩ : ∃ y_ : List (S36), y_ = (([(⟨4, 0, 0, 1, 0⟩ : S36), (⟨2, 0, 1, 0, 0⟩ : S36)] : List (S36))) := ⟨_, rfl⟩
 replace H : (some (y104, (([y107, (([(⟨4, 0, 1, 1, 0⟩ : S36), (⟨2, 0, 0, 0, 0⟩ : S36)] : List (S36)))] : List (List (S36)))))) = some (r1, r2) := by first | (rw [hy107]; with_reducible exact H) | (have H2_ := (Option.bind_some _ _).symm.trans H; rw [hy107]; with_reducible exact H2_) | (have H2_ := (Option.bind_some _ _).symm.trans H; with_reducible exact H2_) | with_reducible exact H | (rw [hy107]; exact H) | exact H
 have Ny107 := Aside0.mk hy107
 clear hy107
 obtain ⟨y110, hy110⟩ : ∃ y_ : List (S36), y_ = (([(⟨4, 0, 1, 1, 0⟩ : S36), (⟨2, 0, 0, 0, 0⟩ : S36)] : List (S36))) := ⟨_, rfl⟩
 replace H : (some (y104, (([y107, y110] : List (List (S36)))))) = some (r1, r2) := by first | (rw [hy110]; with_reducible exact H) | (have H2_ := (Option.bind_some _ _).symm.trans H; rw [hy110]; with_reducible exact H2_) | (have H2_ := (Option.bind_some _ _).symm.trans H; with_reducible exact H2_) | with_reducible exact H | (rw [hy110]; exact H) | exact H
 have Ny110 := Aside0.mk hy110
 clear hy110
 obtain ⟨y113, hy113⟩ : ∃ y_ : List (List (S36)), y_ = (([y107, y110] : List (List (S36)))) := ⟨_, rfl⟩
 replace H : (some (y104, y113)) = some (r1, r2) := by first | (rw [hy113]; with_reducible exact H) | (have H2_ := (Option.bind_some _ _).symm.trans H; rw [hy113]; with_reducible exact H2_) | (have H2_ := (Option.bind_some _ _).symm.trans H; with_reducible exact H2_) | with_reducible exact H | (rw [hy113]; exact H) | exact H
 have Ny113 := Aside0.mk hy113
 clear hy113
 simp only [Option.some.injEq, Prod.mk.injEq] at H
 obtain ⟨rfl, rfl⟩ := H
 go_enter Try.func9, Try.ntmps9
 go_wp2_with (first | ((with_reducible refine gate_dst (N := 0) rfl ?_); refine box_event ?hg (N := 0) ?hd (cs := #[.slice none 0 0, .slice none 0 0]) (t := 25) ?hr ?_; (case hd => rfl); (case hg => rfl); (case hr => first | (go_simp; done) | (go_simp; rfl)); intro gb103 hg w1 hbox hb; have n0_ := Aside0.mk (below_step (hb_ HB.out) hb); have n1_ := Aside0.mk (hbox); have n2_ := Aside0.mk (gs_ hg (hb_ HB.out)); have n3_ := Aside0.mk (gs_ hg (hb_ HB.out)); clear HB; have HB := n0_; have BK103 := n1_; have GW103 := n2_; have GE103 := n3_; clear n0_ n1_ n2_ n3_; clear hb hbox hg) | ((with_reducible refine gate_dst (N := 1) rfl ?_); refine Kd.R_lit (Kd.int .i64) _ 3 ?hg (N := 1) ?hd (xs := ([0, 0] : List Int)) (inner := [.int .i64 0, .int .i64 0]) (ok := fun _ => True) (okp := fun _ => True) ?hr ?hp (fun _ hk => hk) trivial (Below.refl _ _) (Nat.le_refl _) (by simp) ?_; (case hd => rfl); (case hg => rfl); (case hr => first | (go_simp; done) | (go_simp; rfl)); (case hp => exact (Reps.one (show Kd.M (Kd.int .i64) _ _ _ 0 [.int .i64 0] from rfl) (Reps.one (show Kd.M (Kd.int .i64) _ _ _ 0 [.int .i64 0] from rfl) (Reps.none _ _)))); intro v105 w2 ho3 hb hg_ hnew_; clear hg_ hnew_; (first | rw [← Ny104.out] at ho3 | (simp only [Int.reduceToNat] at ho3; rw [← Ny104.out] at ho3)); have n0_ := Aside0.mk (Kd.R_lower (Kd.R_newM (M := fun k_ => (w.heap.size ≤ k_)) ho3 (below_size (hb_ HB.out)) (fun k_ h_ => h_)) (below_size (hb_ HB.out))); have n1_ := Aside0.mk (bb_ BK103.out hb); have n2_ := Aside0.mk (below_step (hb_ HB.out) hb); clear BK103; clear HB; have HO106 := n0_; have BK103 := n1_; have HB := n2_; clear n0_ n1_ n2_; clear hb ho3) | ((with_reducible refine gate_dst (N := 4) rfl ?_); refine Kd.R_lit k36 _ 36 ?hg (N := 4) ?hd (xs := ([(⟨4, 0, 0, 1, 0⟩ : S36), (⟨2, 0, 1, 0, 0⟩ : S36)] : List (S36))) (inner := [.int .i64 4, .int .i64 0, .int .i64 0, .int .i64 1, .int .i64 0, .int .i64 2, .int .i64 0, .int .i64 1, .int .i64 0, .int .i64 0]) (ok := fun _ => True) (okp := fun _ => True) ?hr ?hp (fun _ hk => hk) trivial (Below.refl _ _) (Nat.le_refl _) (by simp) ?_; (case hd => rfl); (case hg => rfl); (case hr => first | (go_simp; done) | (go_simp; rfl)); (case hp => exact (Reps.c5 (show Kd.M k36 _ _ _ (⟨4, 0, 0, 1, 0⟩ : S36) [.int .i64 4, .int .i64 0, .int .i64 0, .int .i64 1, .int .i64 0] from (k36_mkM _ _ _ (⟨4, 0, 0, 1, 0⟩ : S36) )) (Reps.c5 (show Kd.M k36 _ _ _ (⟨2, 0, 1, 0, 0⟩ : S36) [.int .i64 2, .int .i64 0, .int .i64 1, .int .i64 0, .int .i64 0] from (k36_mkM _ _ _ (⟨2, 0, 1, 0, 0⟩ : S36) )) (Reps.none _ _)))); intro v108 w4 ho5 hb hg_ hnew_; clear hg_ hnew_; (first | rw [← Ny107.out] at ho5 | (simp only [Int.reduceToNat] at ho5; rw [← Ny107.out] at ho5)); have n0_ := Aside0.mk (Kd.R_below (rd_ HO106.out) hb); have n1_ := Aside0.mk (Kd.R_lower (Kd.R_newM (M := fun k_ => (w.heap.size ≤ k_)) ho5 (below_size (hb_ HB.out)) (fun k_ h_ => h_)) (below_size (hb_ HB.out))); have n2_ := Aside0.mk (bb_ BK103.out hb); have n3_ := Aside0.mk (below_step (hb_ HB.out) hb); clear HO106; clear BK103; clear HB; have HO106 := n0_; have HO109 := n1_; have BK103 := n2_; have HB := n3_; clear n0_ n1_ n2_ n3_; clear hb ho5) | ((with_reducible refine gate_dst (N := 7) rfl ?_); refine Kd.R_lit k36 _ 36 ?hg (N := 7) ?hd (xs := ([(⟨4, 0, 1, 1, 0⟩ : S36), (⟨2, 0, 0, 0, 0⟩ : S36)] : List (S36))) (inner := [.int .i64 4, .int .i64 0, .int .i64 1, .int .i64 1, .int .i64 0, .int .i64 2, .int .i64 0, .int .i64 0, .int .i64 0, .int .i64 0]) (ok := fun _ => True) (okp := fun _ => True) ?hr ?hp (fun _ hk => hk) trivial (Below.refl _ _) (Nat.le_refl _) (by simp) ?_; (case hd => rfl); (case hg => rfl); (case hr => first | (go_simp; done) | (go_simp; rfl)); (case hp => exact (Reps.c5 (show Kd.M k36 _ _ _ (⟨4, 0, 1, 1, 0⟩ : S36) [.int .i64 4, .int .i64 0, .int .i64 1, .int .i64 1, .int .i64 0] from (k36_mkM _ _ _ (⟨4, 0, 1, 1, 0⟩ : S36) )) (Reps.c5 (show Kd.M k36 _ _ _ (⟨2, 0, 0, 0, 0⟩ : S36) [.int .i64 2, .int .i64 0, .int .i64 0, .int .i64 0, .int .i64 0] from (k36_mkM _ _ _ (⟨2, 0, 0, 0, 0⟩ : S36) )) (Reps.none _ _)))); intro v111 w6 ho7 hb hg_ hnew_; clear hg_ hnew_; (first | rw [← Ny110.out] at ho7 | (simp only [Int.reduceToNat] at ho7; rw [← Ny110.out] at ho7)); have n0_ := Aside0.mk (Kd.R_below (rd_ HO106.out) hb); have n1_ := Aside0.mk (Kd.R_elder' (rd_ HO109.out) (Kd.R_base ho7) hb); have n2_ := Aside0.mk (Kd.R_lower (Kd.R_new' (Kd.R_newM (M := fun k_ => (w.heap.size ≤ k_)) ho7 (below_size (hb_ HB.out)) (fun k_ h_ => h_)) (Kd.R_lt (rd_ HO109.out))) (below_size (hb_ HB.out))); have n3_ := Aside0.mk (bb_ BK103.out hb); have n4_ := Aside0.mk (below_step (hb_ HB.out) hb); clear HO106; clear HO109; clear BK103; clear HB; have HO106 := n0_; have HO109 := n1_; have HO112 := n2_; have BK103 := n3_; have HB := n4_; clear n0_ n1_ n2_ n3_ n4_; clear hb ho7; obtain ⟨Ao8, co8, eo8⟩ := Kd.R_slice HO109.out; subst eo8; obtain ⟨Ao9, co9, eo9⟩ := Kd.R_slice HO112.out; subst eo9) | ((with_reducible refine gate_dst (N := 8) rfl ?_); refine Kd.N_lit (Kd.slice 36 k36) _ 37 ?hg (N' := 8) ?hd (xs := ([y107, y110] : List (List (S36)))) (inner := [.slice Ao8 y107.length co8, .slice Ao9 y110.length co9]) (ok := (fun k_ => (w.heap.size ≤ k_) ∧ some k_ ≠ (v105 : Value).ownBlock ∧ k_ ≠ gb103)) (okp := (fun k_ => (w.heap.size ≤ k_) ∧ some k_ ≠ (v105 : Value).ownBlock ∧ k_ ≠ gb103)) ?hr ?hp (fun _ hk => hk) ((show ∀ k_, w6.heap.size ≤ k_ → (fun k_ => (w.heap.size ≤ k_) ∧ some k_ ≠ (v105 : Value).ownBlock ∧ k_ ≠ gb103) k_ from fun k_ hk => ⟨(Nat.le_trans (below_size (hb_ HB.out)) hk), Kd.fresh' (Kd.R_lt (rd_ HO106.out)) k_ hk, Kd.freshB (g := gb103) (o := .cells #[.slice none 0 0, .slice none 0 0] 25 (0, 0)) (bd_ BK103.out) k_ hk⟩) _ (Nat.le_refl _)) (Below.refl _ _) (Nat.le_refl _) (by simp) ?_; (case hd => rfl); (case hg => rfl); (case hr => first | (go_simp; done) | (go_simp; rfl)); (case hp => exact (Reps.one (show Kd.FK (Kd.slice 36 k36) _ _ y107 [.slice Ao8 y107.length co8] from (Kd.FK_slice_mk (Kd.R_reads' (Kd.R_mono (ok' := (fun k_ => (w.heap.size ≤ k_) ∧ some k_ ≠ (v105 : Value).ownBlock ∧ k_ ≠ gb103)) (Kd.R_types (Kd.R_apart' (HO109.out) (Kd.R_typed HO106.out) (by decide)) BK103.out (by decide)) (fun k_ hk => ⟨hk.1.1.1.1, ⟨hk.1.2, hk.2⟩⟩))).2.1 (Kd.R_F (Kd.R_mono (ok' := (fun k_ => (w.heap.size ≤ k_) ∧ some k_ ≠ (v105 : Value).ownBlock ∧ k_ ≠ gb103)) (Kd.R_types (Kd.R_apart' (HO109.out) (Kd.R_typed HO106.out) (by decide)) BK103.out (by decide)) (fun k_ hk => ⟨hk.1.1.1.1, ⟨hk.1.2, hk.2⟩⟩))))) (Reps.one (show Kd.FK (Kd.slice 36 k36) _ _ y110 [.slice Ao9 y110.length co9] from (Kd.FK_slice_mk (Kd.R_reads' (Kd.R_mono (ok' := (fun k_ => (w.heap.size ≤ k_) ∧ some k_ ≠ (v105 : Value).ownBlock ∧ k_ ≠ gb103)) (Kd.R_types (Kd.R_apart' (HO112.out) (Kd.R_typed HO106.out) (by decide)) BK103.out (by decide)) (fun k_ hk => ⟨hk.1.1.1.1, ⟨hk.1.2, hk.2⟩⟩))).2.1 (Kd.R_F (Kd.R_mono (ok' := (fun k_ => (w.heap.size ≤ k_) ∧ some k_ ≠ (v105 : Value).ownBlock ∧ k_ ≠ gb103)) (Kd.R_types (Kd.R_apart' (HO112.out) (Kd.R_typed HO106.out) (by decide)) BK103.out (by decide)) (fun k_ hk => ⟨hk.1.1.1.1, ⟨hk.1.2, hk.2⟩⟩))))) (Reps.none _ _)))); intro v114 w10 ho11 hb hg_ hnew_; clear hg_ hnew_; (first | rw [← Ny113.out] at ho11 | (simp only [Int.reduceToNat] at ho11; rw [← Ny113.out] at ho11)); have n0_ := Aside0.mk (Kd.R_below (rd_ HO106.out) hb); have n1_ := Aside0.mk (Kd.N_lower ho11 (below_size (hb_ HB.out))); have n2_ := Aside0.mk (bb_ BK103.out hb); have n3_ := Aside0.mk (below_step (hb_ HB.out) hb); clear HO106; clear BK103; clear HB; clear HO109; clear HO112; have HO106 := n0_; have HO115 := n1_; have BK103 := n2_; have HB := n3_; clear n0_ n1_ n2_ n3_; clear hb ho11; obtain ⟨Ao12, co12, eo12⟩ := Kd.N_slice HO115.out; subst eo12; obtain ⟨Ao13, co13, eo13⟩ := Kd.R_slice HO106.out; subst eo13; have hcz14_0 : w10.cell? ⟨gb103, 0, none⟩ = some (.slice none 0 0) := (blk_cell BK103.out 0).trans rfl; have hcz14_1 : w10.cell? ⟨gb103, 1, none⟩ = some (.slice none 0 0) := (blk_cell BK103.out 1).trans rfl; have hfz14_0 := blk_frozen BK103.out 0; have hfz14_1 := blk_frozen BK103.out 1))
 refine bodyPost_ret (results_cell_row rfl _ _ gb103 25 #[.slice Ao13 y104.length co13, .slice Ao12 y113.length co12] (0, 0) _ rfl (by (with_reducible repeat (first | refine blk_drewN ?_ _ | refine blk_drew ?_ | refine blk_alloc ?_ _)); refine blk_put (cs := #[.slice Ao13 y104.length co13, .slice none 0 0]) ?_ 1 _ rfl; (with_reducible repeat (first | refine blk_drewN ?_ _ | refine blk_drew ?_ | refine blk_alloc ?_ _)); refine blk_put (cs := #[.slice none 0 0, .slice none 0 0]) ?_ 0 _ rfl; (with_reducible repeat (first | refine blk_drewN ?_ _ | refine blk_drew ?_ | refine blk_alloc ?_ _)); exact BK103.out) Try.underlying25 rfl (by kernel_rfl)) rfl ?_
 exact ⟨_, _, by first | rfl | (simp [errW_none, errW_some] <;> rfl) | (simp [*, errW_none, errW_some] <;> rfl), by (with_reducible repeat (first | apply Kd.R_alloc | apply Kd.R_drewN | apply Kd.R_drew)); exact Kd.R_mono (Kd.R_far (p := ⟨gb103, 1, none⟩) (Kd.R_far (p := ⟨gb103, 0, none⟩) (Kd.R_types HO106.out BK103.out (by decide)) (fun _ hk => hk.2) (.slice Ao13 y104.length co13)) (fun _ hk => hk.2) (.slice Ao12 y113.length co12)) (fun _ hk => hk.1.1), by (with_reducible repeat (first | apply Kd.N_alloc | apply Kd.N_drewN | apply Kd.N_drew)); exact Kd.N_mono (Kd.N_far (p := ⟨gb103, 1, none⟩) (Kd.N_far (p := ⟨gb103, 0, none⟩) (Kd.N_mono HO115.out (fun k_ hk => (⟨hk, hk.2.2⟩ : _ ∧ k_ ≠ gb103))) (fun _ hk => hk.2) (.slice Ao13 y104.length co13)) (fun _ hk => hk.2) (.slice Ao12 y113.length co12)) (fun _ hk => ⟨hk.1.1, hk.1.2.1⟩), hb_ HB.out⟩
def fencepostlaw19_head.g (k : Nat)  : Option (Bool) := (fencepostlaw07_Buffering.f).bind fun bt116 => ((adm_Slots.f bt116.1 bt116.2).bind fun t133 => ((fencepostref07_SameInts.f k t133 (([1, 3] : List Int))).bind fun t139 => (if t139 = true then ((adm_Slots.f (([0] : List Int)) (([(([(⟨4, 0, 0, 1, 0⟩ : S36), (⟨9, 0, 0, 0, 3⟩ : S36), (⟨6, 0, 0, 0, 0⟩ : S36), (⟨2, 0, 0, 0, 0⟩ : S36), (⟨5, 0, 0, 0, 0⟩ : S36), (⟨2, 0, 0, 0, 0⟩ : S36)] : List (S36)))] : List (List (S36))))).bind fun t140 => ((fencepostref07_SameInts.f k t140 (([1, 3] : List Int))).bind fun t146 => (if t146 = true then ((adm_Keep.f bt116.1 bt116.2 (([9, 3, 0, 3] : List Int))).bind fun t150 => ((fencepostref07_SameInts.f k t150 (([3] : List Int))).bind fun t156 => (if t156 = true then ((adm_Keep.f bt116.1 bt116.2 ([] : List Int)).bind fun t157 => (some ((t157.length : Int) == 0))) else (some false)))) else (some false)))) else (some false))))
theorem fencepostlaw19_head.monoT : ∀ k, LeO (fencepostlaw19_head.g k ) (fencepostlaw19_head.g (k + 1) ) := by
 intro  k
 unfold fencepostlaw19_head.g
 repeat' first
  | (with_reducible exact fencepostref07_SameInts.mono _ _ _)
  | (with_reducible exact LeO.refl _)
  | (with_reducible exact LeO.none _)
  | (with_reducible refine LeO.ite ?_ ?_)
  | (with_reducible refine LeO.bind ?_ (fun _ => ?_))
  | exact fencepostref07_SameInts.mono _ _ _
  | exact LeO.none _
  | refine LeO.ite ?_ ?_
  | refine LeO.bind ?_ (fun _ => ?_)
set_option maxHeartbeats 8000000 in
set_option maxRecDepth 100000 in
theorem fencepostlaw19_head.callsT (k : Nat)  (r : Bool) (w : World) (ht_ : r = true) (h : fencepostlaw19_head.g k  = some r) :
 Calls Try.prog 4 #[] w fun e w' => e = .returned (.bool r) ∧ Below w.heap.size w w' := by
 have hu25 := Try.underlying25
 have hu36 := Try.underlying36
 have HB := Aside0.mk (Below.refl w.heap.size w)
 have HT := Aside0.mk ht_
 clear ht_
 have H : ((fencepostlaw07_Buffering.f).bind fun bt116 => ((adm_Slots.f bt116.1 bt116.2).bind fun t133 => ((fencepostref07_SameInts.f k t133 (([1, 3] : List Int))).bind fun t139 => (if t139 = true then ((adm_Slots.f (([0] : List Int)) (([(([(⟨4, 0, 0, 1, 0⟩ : S36), (⟨9, 0, 0, 0, 3⟩ : S36), (⟨6, 0, 0, 0, 0⟩ : S36), (⟨2, 0, 0, 0, 0⟩ : S36), (⟨5, 0, 0, 0, 0⟩ : S36), (⟨2, 0, 0, 0, 0⟩ : S36)] : List (S36)))] : List (List (S36))))).bind fun t140 => ((fencepostref07_SameInts.f k t140 (([1, 3] : List Int))).bind fun t146 => (if t146 = true then ((adm_Keep.f bt116.1 bt116.2 (([9, 3, 0, 3] : List Int))).bind fun t150 => ((fencepostref07_SameInts.f k t150 (([3] : List Int))).bind fun t156 => (if t156 = true then ((adm_Keep.f bt116.1 bt116.2 ([] : List Int)).bind fun t157 => (some ((t157.length : Int) == 0))) else (some false)))) else (some false)))) else (some false))))) = some r := h
 clear h
 replace H := Option.bind_eq_some_iff.mp H
 obtain ⟨⟨t116, t119⟩, A10, H⟩ := H
 replace H : ((adm_Slots.f t116 t119).bind fun t133 => ((fencepostref07_SameInts.f k t133 (([1, 3] : List Int))).bind fun t139 => (if t139 = true then ((adm_Slots.f (([0] : List Int)) (([(([(⟨4, 0, 0, 1, 0⟩ : S36), (⟨9, 0, 0, 0, 3⟩ : S36), (⟨6, 0, 0, 0, 0⟩ : S36), (⟨2, 0, 0, 0, 0⟩ : S36), (⟨5, 0, 0, 0, 0⟩ : S36), (⟨2, 0, 0, 0, 0⟩ : S36)] : List (S36)))] : List (List (S36))))).bind fun t140 => ((fencepostref07_SameInts.f k t140 (([1, 3] : List Int))).bind fun t146 => (if t146 = true then ((adm_Keep.f t116 t119 (([9, 3, 0, 3] : List Int))).bind fun t150 => ((fencepostref07_SameInts.f k t150 (([3] : List Int))).bind fun t156 => (if t156 = true then ((adm_Keep.f t116 t119 ([] : List Int)).bind fun t157 => (some ((t157.length : Int) == 0))) else (some false)))) else (some false)))) else (some false)))) = some r := H
 have A1 := Aside0.mk A10
 clear A10
 obtain ⟨y123, hy123⟩ : ∃ y_ : List Int, y_ = (([0] : List Int)) := ⟨_, rfl⟩
 replace H : ((adm_Slots.f t116 t119).bind fun t133 => ((fencepostref07_SameInts.f k t133 (([1, 3] : List Int))).bind fun t139 => (if t139 = true then ((adm_Slots.f y123 (([(([(⟨4, 0, 0, 1, 0⟩ : S36), (⟨9, 0, 0, 0, 3⟩ : S36), (⟨6, 0, 0, 0, 0⟩ : S36), (⟨2, 0, 0, 0, 0⟩ : S36), (⟨5, 0, 0, 0, 0⟩ : S36), (⟨2, 0, 0, 0, 0⟩ : S36)] : List (S36)))] : List (List (S36))))).bind fun t140 => ((fencepostref07_SameInts.f k t140 (([1, 3] : List Int))).bind fun t146 => (if t146 = true then ((adm_Keep.f t116 t119 (([9, 3, 0, 3] : List Int))).bind fun t150 => ((fencepostref07_SameInts.f k t150 (([3] : List Int))).bind fun t156 => (if t156 = true then ((adm_Keep.f t116 t119 ([] : List Int)).bind fun t157 => (some ((t157.length : Int) == 0))) else (some false)))) else (some false)))) else (some false)))) = some r := by first | (rw [hy123]; with_reducible exact H) | (have H2_ := (Option.bind_some _ _).symm.trans H; rw [hy123]; with_reducible exact H2_) | (have H2_ := (Option.bind_some _ _).symm.trans H; with_reducible exact H2_) | with_reducible exact H | (rw [hy123]; exact H) | exact H
 have Ny123 := Aside0.mk hy123
 clear hy123
 obtain ⟨y126, hy126⟩ : ∃ y_ : List (S36), y_ = (([(⟨4, 0, 0, 1, 0⟩ : S36), (⟨9, 0, 0, 0, 3⟩ : S36), (⟨6, 0, 0, 0, 0⟩ : S36), (⟨2, 0, 0, 0, 0⟩ : S36), (⟨5, 0, 0, 0, 0⟩ : S36), (⟨2, 0, 0, 0, 0⟩ : S36)] : List (S36))) := ⟨_, rfl⟩
 replace H : ((adm_Slots.f t116 t119).bind fun t133 => ((fencepostref07_SameInts.f k t133 (([1, 3] : List Int))).bind fun t139 => (if t139 = true then ((adm_Slots.f y123 (([y126] : List (List (S36))))).bind fun t140 => ((fencepostref07_SameInts.f k t140 (([1, 3] : List Int))).bind fun t146 => (if t146 = true then ((adm_Keep.f t116 t119 (([9, 3, 0, 3] : List Int))).bind fun t150 => ((fencepostref07_SameInts.f k t150 (([3] : List Int))).bind fun t156 => (if t156 = true then ((adm_Keep.f t116 t119 ([] : List Int)).bind fun t157 => (some ((t157.length : Int) == 0))) else (some false)))) else (some false)))) else (some false)))) = some r := by first | (rw [hy126]; with_reducible exact H) | (have H2_ := (Option.bind_some _ _).symm.trans H; rw [hy126]; with_reducible exact H2_) | (have H2_ := (Option.bind_some _ _).symm.trans H; with_reducible exact H2_) | with_reducible exact H | (rw [hy126]; exact H) | exact H
 have Ny126 := Aside0.mk hy126
 clear hy126
 obtain ⟨y129, hy129⟩ : ∃ y_ : List (List (S36)), y_ = (([y126] : List (List (S36)))) := ⟨_, rfl⟩
 replace H : ((adm_Slots.f t116 t119).bind fun t133 => ((fencepostref07_SameInts.f k t133 (([1, 3] : List Int))).bind fun t139 => (if t139 = true then ((adm_Slots.f y123 y129).bind fun t140 => ((fencepostref07_SameInts.f k t140 (([1, 3] : List Int))).bind fun t146 => (if t146 = true then ((adm_Keep.f t116 t119 (([9, 3, 0, 3] : List Int))).bind fun t150 => ((fencepostref07_SameInts.f k t150 (([3] : List Int))).bind fun t156 => (if t156 = true then ((adm_Keep.f t116 t119 ([] : List Int)).bind fun t157 => (some ((t157.length : Int) == 0))) else (some false)))) else (some false)))) else (some false)))) = some r := by first | (rw [hy129]; with_reducible exact H) | (have H2_ := (Option.bind_some _ _).symm.trans H; rw [hy129]; with_reducible exact H2_) | (have H2_ := (Option.bind_some _ _).symm.trans H; with_reducible exact H2_) | with_reducible exact H | (rw [hy129]; exact H) | exact H
 have Ny129 := Aside0.mk hy129
 clear hy129
 replace H := Option.bind_eq_some_iff.mp H
 obtain ⟨t133, A20, H⟩ := H
 replace H : ((fencepostref07_SameInts.f k t133 (([1, 3] : List Int))).bind fun t139 => (if t139 = true then ((adm_Slots.f y123 y129).bind fun t140 => ((fencepostref07_SameInts.f k t140 (([1, 3] : List Int))).bind fun t146 => (if t146 = true then ((adm_Keep.f t116 t119 (([9, 3, 0, 3] : List Int))).bind fun t150 => ((fencepostref07_SameInts.f k t150 (([3] : List Int))).bind fun t156 => (if t156 = true then ((adm_Keep.f t116 t119 ([] : List Int)).bind fun t157 => (some ((t157.length : Int) == 0))) else (some false)))) else (some false)))) else (some false))) = some r := H
 have A2 := Aside0.mk A20
 clear A20
 obtain ⟨y136, hy136⟩ : ∃ y_ : List Int, y_ = (([1, 3] : List Int)) := ⟨_, rfl⟩
 replace H : ((fencepostref07_SameInts.f k t133 y136).bind fun t139 => (if t139 = true then ((adm_Slots.f y123 y129).bind fun t140 => ((fencepostref07_SameInts.f k t140 (([1, 3] : List Int))).bind fun t146 => (if t146 = true then ((adm_Keep.f t116 t119 (([9, 3, 0, 3] : List Int))).bind fun t150 => ((fencepostref07_SameInts.f k t150 (([3] : List Int))).bind fun t156 => (if t156 = true then ((adm_Keep.f t116 t119 ([] : List Int)).bind fun t157 => (some ((t157.length : Int) == 0))) else (some false)))) else (some false)))) else (some false))) = some r := by first | (rw [hy136]; with_reducible exact H) | (have H2_ := (Option.bind_some _ _).symm.trans H; rw [hy136]; with_reducible exact H2_) | (have H2_ := (Option.bind_some _ _).symm.trans H; with_reducible exact H2_) | with_reducible exact H | (rw [hy136]; exact H) | exact H
 have Ny136 := Aside0.mk hy136
 clear hy136
 replace H := Option.bind_eq_some_iff.mp H
 obtain ⟨t139, A30, H⟩ := H
 replace H : (if t139 = true then ((adm_Slots.f y123 y129).bind fun t140 => ((fencepostref07_SameInts.f k t140 (([1, 3] : List Int))).bind fun t146 => (if t146 = true then ((adm_Keep.f t116 t119 (([9, 3, 0, 3] : List Int))).bind fun t150 => ((fencepostref07_SameInts.f k t150 (([3] : List Int))).bind fun t156 => (if t156 = true then ((adm_Keep.f t116 t119 ([] : List Int)).bind fun t157 => (some ((t157.length : Int) == 0))) else (some false)))) else (some false)))) else (some false)) = some r := H
 have A3 := Aside0.mk A30
 clear A30
 by_cases c4 : t139 = true
 rotate_left
 ·replace c4 := Bool.eq_false_iff.mpr c4
  subst c4
  have H1 : (some false) = some r := by rw [if_neg (show ¬ (false = true) by decide)] at H; exact H
  clear H
  have H := H1
  clear H1
  exact absurd ((Option.some.inj H).trans HT.out) (by simp)
 subst c4
 have H1 : ((adm_Slots.f y123 y129).bind fun t140 => ((fencepostref07_SameInts.f k t140 (([1, 3] : List Int))).bind fun t146 => (if t146 = true then ((adm_Keep.f t116 t119 (([9, 3, 0, 3] : List Int))).bind fun t150 => ((fencepostref07_SameInts.f k t150 (([3] : List Int))).bind fun t156 => (if t156 = true then ((adm_Keep.f t116 t119 ([] : List Int)).bind fun t157 => (some ((t157.length : Int) == 0))) else (some false)))) else (some false)))) = some r := by rw [if_pos rfl] at H; exact H
 clear H
 have H := H1
 clear H1
 replace H := Option.bind_eq_some_iff.mp H
 obtain ⟨t140, A50, H⟩ := H
 replace H : ((fencepostref07_SameInts.f k t140 (([1, 3] : List Int))).bind fun t146 => (if t146 = true then ((adm_Keep.f t116 t119 (([9, 3, 0, 3] : List Int))).bind fun t150 => ((fencepostref07_SameInts.f k t150 (([3] : List Int))).bind fun t156 => (if t156 = true then ((adm_Keep.f t116 t119 ([] : List Int)).bind fun t157 => (some ((t157.length : Int) == 0))) else (some false)))) else (some false))) = some r := H
 have A5 := Aside0.mk A50
 clear A50
 obtain ⟨y143, hy143⟩ : ∃ y_ : List Int, y_ = (([1, 3] : List Int)) := ⟨_, rfl⟩
 replace H : ((fencepostref07_SameInts.f k t140 y143).bind fun t146 => (if t146 = true then ((adm_Keep.f t116 t119 (([9, 3, 0, 3] : List Int))).bind fun t150 => ((fencepostref07_SameInts.f k t150 (([3] : List Int))).bind fun t156 => (if t156 = true then ((adm_Keep.f t116 t119 ([] : List Int)).bind fun t157 => (some ((t157.length : Int) == 0))) else (some false)))) else (some false))) = some r := by first | (rw [hy143]; with_reducible exact H) | (have H2_ := (Option.bind_some _ _).symm.trans H; rw [hy143]; with_reducible exact H2_) | (have H2_ := (Option.bind_some _ _).symm.trans H; with_reducible exact H2_) | with_reducible exact H | (rw [hy143]; exact H) | exact H
 have Ny143 := Aside0.mk hy143
 clear hy143
 replace H := Option.bind_eq_some_iff.mp H
 obtain ⟨t146, A60, H⟩ := H
 replace H : (if t146 = true then ((adm_Keep.f t116 t119 (([9, 3, 0, 3] : List Int))).bind fun t150 => ((fencepostref07_SameInts.f k t150 (([3] : List Int))).bind fun t156 => (if t156 = true then ((adm_Keep.f t116 t119 ([] : List Int)).bind fun t157 => (some ((t157.length : Int) == 0))) else (some false)))) else (some false)) = some r := H
 have A6 := Aside0.mk A60
 clear A60
 by_cases c7 : t146 = true
 rotate_left
 ·replace c7 := Bool.eq_false_iff.mpr c7
  subst c7
  have H1 : (some false) = some r := by rw [if_neg (show ¬ (false = true) by decide)] at H; exact H
  clear H
  have H := H1
  clear H1
  exact absurd ((Option.some.inj H).trans HT.out) (by simp)
 subst c7
 have H1 : ((adm_Keep.f t116 t119 (([9, 3, 0, 3] : List Int))).bind fun t150 => ((fencepostref07_SameInts.f k t150 (([3] : List Int))).bind fun t156 => (if t156 = true then ((adm_Keep.f t116 t119 ([] : List Int)).bind fun t157 => (some ((t157.length : Int) == 0))) else (some false)))) = some r := by rw [if_pos rfl] at H; exact H
 clear H
 have H := H1
 clear H1
 obtain ⟨y147, hy147⟩ : ∃ y_ : List Int, y_ = (([9, 3, 0, 3] : List Int)) := ⟨_, rfl⟩
 replace H : ((adm_Keep.f t116 t119 y147).bind fun t150 => ((fencepostref07_SameInts.f k t150 (([3] : List Int))).bind fun t156 => (if t156 = true then ((adm_Keep.f t116 t119 ([] : List Int)).bind fun t157 => (some ((t157.length : Int) == 0))) else (some false)))) = some r := by first | (rw [hy147]; with_reducible exact H) | (have H2_ := (Option.bind_some _ _).symm.trans H; rw [hy147]; with_reducible exact H2_) | (have H2_ := (Option.bind_some _ _).symm.trans H; with_reducible exact H2_) | with_reducible exact H | (rw [hy147]; exact H) | exact H
 have Ny147 := Aside0.mk hy147
 clear hy147
 replace H := Option.bind_eq_some_iff.mp H
 obtain ⟨t150, A80, H⟩ := H
 replace H : ((fencepostref07_SameInts.f k t150 (([3] : List Int))).bind fun t156 => (if t156 = true then ((adm_Keep.f t116 t119 ([] : List Int)).bind fun t157 => (some ((t157.length : Int) == 0))) else (some false))) = some r := H
 have A8 := Aside0.mk A80
 clear A80
 obtain ⟨y153, hy153⟩ : ∃ y_ : List Int, y_ = (([3] : List Int)) := ⟨_, rfl⟩
 replace H : ((fencepostref07_SameInts.f k t150 y153).bind fun t156 => (if t156 = true then ((adm_Keep.f t116 t119 ([] : List Int)).bind fun t157 => (some ((t157.length : Int) == 0))) else (some false))) = some r := by first | (rw [hy153]; with_reducible exact H) | (have H2_ := (Option.bind_some _ _).symm.trans H; rw [hy153]; with_reducible exact H2_) | (have H2_ := (Option.bind_some _ _).symm.trans H; with_reducible exact H2_) | with_reducible exact H | (rw [hy153]; exact H) | exact H
 have Ny153 := Aside0.mk hy153
 clear hy153
 replace H := Option.bind_eq_some_iff.mp H
 obtain ⟨t156, A90, H⟩ := H
 replace H : (if t156 = true then ((adm_Keep.f t116 t119 ([] : List Int)).bind fun t157 => (some ((t157.length : Int) == 0))) else (some false)) = some r := H
 have A9 := Aside0.mk A90
 clear A90
 by_cases c10 : t156 = true
 rotate_left
 ·replace c10 := Bool.eq_false_iff.mpr c10
  subst c10
  have H1 : (some false) = some r := by rw [if_neg (show ¬ (false = true) by decide)] at H; exact H
  clear H
  have H := H1
  clear H1
  exact absurd ((Option.some.inj H).trans HT.out) (by simp)
 subst c10
 have H1 : ((adm_Keep.f t116 t119 ([] : List Int)).bind fun t157 => (some ((t157.length : Int) == 0))) = some r := by rw [if_pos rfl] at H; exact H
 clear H
 have H := H1
 clear H1
 replace H := Option.bind_eq_some_iff.mp H
 obtain ⟨t157, A110, H⟩ := H
 replace H : (some ((t157.length : Int) == 0)) = some r := H
 have A11 := Aside0.mk A110
 clear A110
 obtain rfl := Option.some.inj H
 go_enter Try.func4, Try.ntmps4
 go_wp2_with (first | ((with_reducible refine gate_callee (f := 9) rfl ?_); refine goesL_ (some 3) rfl rfl Try.func9 (by kernel_rfl) rfl #[] rfl ar_ ?_; (with_reducible refine (fencepostlaw07_Buffering.calls  t116 t119 _ A1.out).mono ?_); rintro e w12 ⟨v117, v120, rfl, ho0, ho1, hb⟩; refine ⟨_, rfl, ?_⟩; have n0_ := Aside0.mk (Kd.R_lower (Kd.R_mono (ok' := fun k_ => True) ho0 (fun _ hk_ => trivial)) (below_size (hb_ HB.out))); have n1_ := Aside0.mk (Kd.N_lower (Kd.N_mono (ok' := fun k_ => some k_ ≠ (v117 : Value).ownBlock) ho1 (fun k_ hk_ => hk_.2)) (below_size (hb_ HB.out))); have n2_ := Aside0.mk (below_step (hb_ HB.out) hb); clear HB; have HO118 := n0_; have HO121 := n1_; have HB := n2_; clear n0_ n1_ n2_; (try clear hb); (try clear hb2); (try clear hk); (try clear hi); (try clear ho0); (try clear ho1)) | ((with_reducible refine gate_dst (N := 1) rfl ?_); (try (refine gate_guard (by rfl) ?_; dsimp only)); refine box_event ?hg (N := 1) ?hd (cs := #[.slice none 0 0, .slice none 0 0]) (t := 25) ?hr ?_; (case hd => rfl); (case hg => rfl); (case hr => first | (go_simp; done) | (go_simp; rfl)); intro gb122 hg w13 hbox hb; have n0_ := Aside0.mk (Kd.R_below (rd_ HO118.out) hb); have n1_ := Aside0.mk (Kd.N_below (Kd.N_elderB (by (with_reducible repeat (first | apply Kd.N_alloc | apply Kd.N_drewN | apply Kd.N_drew)); exact HO121.out) gb122 (Nat.le_of_eq hg.symm)) hb); have n2_ := Aside0.mk (below_step (hb_ HB.out) hb); have n3_ := Aside0.mk (hbox); have n4_ := Aside0.mk (gs_ hg (hb_ HB.out)); have n5_ := Aside0.mk (gs_ hg (hb_ HB.out)); clear HO118; clear HO121; clear HB; have HO118 := n0_; have HO121 := n1_; have HB := n2_; have BK122 := n3_; have GW122 := n4_; have GE122 := n5_; clear n0_ n1_ n2_ n3_ n4_ n5_; clear hb hbox hg; obtain ⟨Ao14, co14, eo14⟩ := Kd.R_slice HO118.out; subst eo14; have hcz15_0 : w13.cell? ⟨gb122, 0, none⟩ = some (.slice none 0 0) := (blk_cell BK122.out 0).trans rfl; have hcz15_1 : w13.cell? ⟨gb122, 1, none⟩ = some (.slice none 0 0) := (blk_cell BK122.out 1).trans rfl; have hfz15_0 := blk_frozen BK122.out 0; have hfz15_1 := blk_frozen BK122.out 1; obtain ⟨Ao16, co16, eo16⟩ := Kd.N_slice HO121.out; subst eo16) | ((with_reducible refine gate_dst (N := 4) rfl ?_); (try (refine gate_guard (by rfl) ?_; dsimp only)); refine Kd.R_lit (Kd.int .i64) _ 3 ?hg (N := 4) ?hd (xs := ([0] : List Int)) (inner := [.int .i64 0]) (ok := fun _ => True) (okp := fun _ => True) ?hr ?hp (fun _ hk => hk) trivial (Below.refl _ _) (Nat.le_refl _) (by simp) ?_; (case hd => rfl); (case hg => rfl); (case hr => first | (go_simp; done) | (go_simp; rfl)); (case hp => exact (Reps.one (show Kd.M (Kd.int .i64) _ _ _ 0 [.int .i64 0] from rfl) (Reps.none _ _))); intro v124 w17 ho18 hb hg_ hnew_; clear hg_ hnew_; (first | rw [← Ny123.out] at ho18 | (simp only [Int.reduceToNat] at ho18; rw [← Ny123.out] at ho18)); have n0_ := Aside0.mk (Kd.R_elder' (by (with_reducible repeat (first | apply Kd.R_alloc | apply Kd.R_drewN | apply Kd.R_drew)); exact (Kd.R_mono (Kd.R_far (p := ⟨gb122, 1, none⟩) (Kd.R_far (p := ⟨gb122, 0, none⟩) (Kd.R_types HO118.out BK122.out (by decide)) (fun _ hk => hk.2) (.slice Ao14 t116.length co14)) (fun _ hk => hk.2) (.slice Ao16 t119.length co16)) (fun _ h_ => h_.1))) (Kd.R_base ho18) hb); have n1_ := Aside0.mk (Kd.N_elder' (by (with_reducible repeat (first | apply Kd.N_alloc | apply Kd.N_drewN | apply Kd.N_drew)); exact (Kd.N_mono (Kd.N_far (p := ⟨gb122, 1, none⟩) (Kd.N_far (p := ⟨gb122, 0, none⟩) (Kd.N_mono HO121.out (fun k_ hk => (⟨hk, hk.2⟩ : _ ∧ k_ ≠ gb122))) (fun _ hk => hk.2) (.slice Ao14 t116.length co14)) (fun _ hk => hk.2) (.slice Ao16 t119.length co16)) (fun _ h_ => h_.1))) (Kd.R_base ho18) hb); have n2_ := Aside0.mk (Kd.R_lower (Kd.R_new' ho18 (Kd.R_lt (by (with_reducible repeat (first | apply Kd.R_alloc | apply Kd.R_drewN | apply Kd.R_drew)); exact (Kd.R_mono (Kd.R_far (p := ⟨gb122, 1, none⟩) (Kd.R_far (p := ⟨gb122, 0, none⟩) (Kd.R_types HO118.out BK122.out (by decide)) (fun _ hk => hk.2) (.slice Ao14 t116.length co14)) (fun _ hk => hk.2) (.slice Ao16 t119.length co16)) (fun _ h_ => h_.1))))) (below_size (hb_ HB.out))); have n3_ := Aside0.mk (blk_below (g := gb122) (o := .cells #[.slice Ao14 t116.length co14, .slice Ao16 t119.length co16] 25 (0, 0)) (by (with_reducible repeat (first | refine blk_drewN ?_ _ | refine blk_drew ?_ | refine blk_alloc ?_ _)); refine blk_put (cs := #[.slice Ao14 t116.length co14, .slice none 0 0]) ?_ 1 _ rfl; (with_reducible repeat (first | refine blk_drewN ?_ _ | refine blk_drew ?_ | refine blk_alloc ?_ _)); refine blk_put (cs := #[.slice none 0 0, .slice none 0 0]) ?_ 0 _ rfl; (with_reducible repeat (first | refine blk_drewN ?_ _ | refine blk_drew ?_ | refine blk_alloc ?_ _)); exact BK122.out) hb); have n4_ := Aside0.mk (below_step (hb_ HB.out) hb); clear HO118; clear HO121; clear BK122; clear HB; have HO118 := n0_; have HO121 := n1_; have HO125 := n2_; have BK122 := n3_; have HB := n4_; clear n0_ n1_ n2_ n3_ n4_; clear hb ho18) | ((with_reducible refine gate_dst (N := 11) rfl ?_); (try (refine gate_guard (by rfl) ?_; dsimp only)); refine Kd.R_lit k36 _ 36 ?hg (N := 11) ?hd (xs := ([(⟨4, 0, 0, 1, 0⟩ : S36), (⟨9, 0, 0, 0, 3⟩ : S36), (⟨6, 0, 0, 0, 0⟩ : S36), (⟨2, 0, 0, 0, 0⟩ : S36), (⟨5, 0, 0, 0, 0⟩ : S36), (⟨2, 0, 0, 0, 0⟩ : S36)] : List (S36))) (inner := [.int .i64 4, .int .i64 0, .int .i64 0, .int .i64 1, .int .i64 0, .int .i64 9, .int .i64 0, .int .i64 0, .int .i64 0, .int .i64 3, .int .i64 6, .int .i64 0, .int .i64 0, .int .i64 0, .int .i64 0, .int .i64 2, .int .i64 0, .int .i64 0, .int .i64 0, .int .i64 0, .int .i64 5, .int .i64 0, .int .i64 0, .int .i64 0, .int .i64 0, .int .i64 2, .int .i64 0, .int .i64 0, .int .i64 0, .int .i64 0]) (ok := fun _ => True) (okp := fun _ => True) ?hr ?hp (fun _ hk => hk) trivial (Below.refl _ _) (Nat.le_refl _) (by simp) ?_; (case hd => rfl); (case hg => rfl); (case hr => first | (go_simp; done) | (go_simp; rfl)); (case hp => exact (Reps.c5 (show Kd.M k36 _ _ _ (⟨4, 0, 0, 1, 0⟩ : S36) [.int .i64 4, .int .i64 0, .int .i64 0, .int .i64 1, .int .i64 0] from (k36_mkM _ _ _ (⟨4, 0, 0, 1, 0⟩ : S36) )) (Reps.c5 (show Kd.M k36 _ _ _ (⟨9, 0, 0, 0, 3⟩ : S36) [.int .i64 9, .int .i64 0, .int .i64 0, .int .i64 0, .int .i64 3] from (k36_mkM _ _ _ (⟨9, 0, 0, 0, 3⟩ : S36) )) (Reps.c5 (show Kd.M k36 _ _ _ (⟨6, 0, 0, 0, 0⟩ : S36) [.int .i64 6, .int .i64 0, .int .i64 0, .int .i64 0, .int .i64 0] from (k36_mkM _ _ _ (⟨6, 0, 0, 0, 0⟩ : S36) )) (Reps.c5 (show Kd.M k36 _ _ _ (⟨2, 0, 0, 0, 0⟩ : S36) [.int .i64 2, .int .i64 0, .int .i64 0, .int .i64 0, .int .i64 0] from (k36_mkM _ _ _ (⟨2, 0, 0, 0, 0⟩ : S36) )) (Reps.c5 (show Kd.M k36 _ _ _ (⟨5, 0, 0, 0, 0⟩ : S36) [.int .i64 5, .int .i64 0, .int .i64 0, .int .i64 0, .int .i64 0] from (k36_mkM _ _ _ (⟨5, 0, 0, 0, 0⟩ : S36) )) (Reps.c5 (show Kd.M k36 _ _ _ (⟨2, 0, 0, 0, 0⟩ : S36) [.int .i64 2, .int .i64 0, .int .i64 0, .int .i64 0, .int .i64 0] from (k36_mkM _ _ _ (⟨2, 0, 0, 0, 0⟩ : S36) )) (Reps.none _ _)))))))); intro v127 w19 ho20 hb hg_ hnew_; clear hg_ hnew_; (first | rw [← Ny126.out] at ho20 | (simp only [Int.reduceToNat] at ho20; rw [← Ny126.out] at ho20)); have n0_ := Aside0.mk (Kd.R_below (rd_ HO118.out) hb); have n1_ := Aside0.mk (Kd.N_elder' (by (with_reducible repeat (first | apply Kd.N_alloc | apply Kd.N_drewN | apply Kd.N_drew)); exact HO121.out) (Kd.R_base ho20) hb); have n2_ := Aside0.mk (Kd.R_below (rd_ HO125.out) hb); have n3_ := Aside0.mk (Kd.R_lower ho20 (below_size (hb_ HB.out))); have n4_ := Aside0.mk (bb_ BK122.out hb); have n5_ := Aside0.mk (below_step (hb_ HB.out) hb); clear HO118; clear HO121; clear HO125; clear BK122; clear HB; have HO118 := n0_; have HO121 := n1_; have HO125 := n2_; have HO128 := n3_; have BK122 := n4_; have HB := n5_; clear n0_ n1_ n2_ n3_ n4_ n5_; clear hb ho20; obtain ⟨Ao21, co21, eo21⟩ := Kd.R_slice HO128.out; subst eo21) | ((with_reducible refine gate_dst (N := 12) rfl ?_); (try (refine gate_guard (by rfl) ?_; dsimp only)); refine Kd.N_lit (Kd.slice 36 k36) _ 37 ?hg (N' := 12) ?hd (xs := ([y126] : List (List (S36)))) (inner := [.slice Ao21 y126.length co21]) (ok := (fun k_ => some k_ ≠ (.slice Ao14 t116.length co14 : Value).ownBlock ∧ some k_ ≠ (.slice Ao16 t119.length co16 : Value).ownBlock ∧ some k_ ≠ (v124 : Value).ownBlock ∧ k_ ≠ gb122)) (okp := (fun k_ => some k_ ≠ (.slice Ao14 t116.length co14 : Value).ownBlock ∧ some k_ ≠ (.slice Ao16 t119.length co16 : Value).ownBlock ∧ some k_ ≠ (v124 : Value).ownBlock ∧ k_ ≠ gb122)) ?hr ?hp (fun _ hk => hk) ((show ∀ k_, w19.heap.size ≤ k_ → (fun k_ => some k_ ≠ (.slice Ao14 t116.length co14 : Value).ownBlock ∧ some k_ ≠ (.slice Ao16 t119.length co16 : Value).ownBlock ∧ some k_ ≠ (v124 : Value).ownBlock ∧ k_ ≠ gb122) k_ from fun k_ hk => ⟨Kd.fresh' (Kd.R_lt (rd_ HO118.out)) k_ hk, Kd.fresh' (Kd.N_lt (by (with_reducible repeat (first | apply Kd.N_alloc | apply Kd.N_drewN | apply Kd.N_drew)); exact HO121.out)) k_ hk, Kd.fresh' (Kd.R_lt (rd_ HO125.out)) k_ hk, Kd.freshB (g := gb122) (o := .cells #[.slice Ao14 t116.length co14, .slice Ao16 t119.length co16] 25 (0, 0)) (bd_ BK122.out) k_ hk⟩) _ (Nat.le_refl _)) (Below.refl _ _) (Nat.le_refl _) (by simp) ?_; (case hd => rfl); (case hg => rfl); (case hr => first | (go_simp; done) | (go_simp; rfl)); (case hp => exact (Reps.one (show Kd.FK (Kd.slice 36 k36) _ _ y126 [.slice Ao21 y126.length co21] from (Kd.FK_slice_mk (Kd.R_reads' (Kd.R_mono (ok' := (fun k_ => some k_ ≠ (.slice Ao14 t116.length co14 : Value).ownBlock ∧ some k_ ≠ (.slice Ao16 t119.length co16 : Value).ownBlock ∧ some k_ ≠ (v124 : Value).ownBlock ∧ k_ ≠ gb122)) (Kd.R_types (Kd.R_apart' (Kd.R_apart' (Kd.R_apart' (HO128.out) (Kd.R_typed HO118.out) (by decide)) (Kd.N_typed HO121.out) (by decide)) (Kd.R_typed HO125.out) (by decide)) BK122.out (by decide)) (fun k_ hk => ⟨hk.1.1.1.2, ⟨hk.1.1.2, ⟨hk.1.2, hk.2⟩⟩⟩))).2.1 (Kd.R_F (Kd.R_mono (ok' := (fun k_ => some k_ ≠ (.slice Ao14 t116.length co14 : Value).ownBlock ∧ some k_ ≠ (.slice Ao16 t119.length co16 : Value).ownBlock ∧ some k_ ≠ (v124 : Value).ownBlock ∧ k_ ≠ gb122)) (Kd.R_types (Kd.R_apart' (Kd.R_apart' (Kd.R_apart' (HO128.out) (Kd.R_typed HO118.out) (by decide)) (Kd.N_typed HO121.out) (by decide)) (Kd.R_typed HO125.out) (by decide)) BK122.out (by decide)) (fun k_ hk => ⟨hk.1.1.1.2, ⟨hk.1.1.2, ⟨hk.1.2, hk.2⟩⟩⟩))))) (Reps.none _ _))); intro v130 w22 ho23 hb hg_ hnew_; clear hg_ hnew_; (first | rw [← Ny129.out] at ho23 | (simp only [Int.reduceToNat] at ho23; rw [← Ny129.out] at ho23)); have n0_ := Aside0.mk (Kd.R_below (rd_ HO118.out) hb); have n1_ := Aside0.mk (Kd.N_elder' (by (with_reducible repeat (first | apply Kd.N_alloc | apply Kd.N_drewN | apply Kd.N_drew)); exact HO121.out) (Kd.N_base ho23) hb); have n2_ := Aside0.mk (Kd.R_below (rd_ HO125.out) hb); have n3_ := Aside0.mk (Kd.N_lower ho23 (below_size (hb_ HB.out))); have n4_ := Aside0.mk (bb_ BK122.out hb); have n5_ := Aside0.mk (below_step (hb_ HB.out) hb); clear HO118; clear HO121; clear HO125; clear BK122; clear HB; clear HO128; have HO118 := n0_; have HO121 := n1_; have HO125 := n2_; have HO131 := n3_; have BK122 := n4_; have HB := n5_; clear n0_ n1_ n2_ n3_ n4_ n5_; clear hb ho23; obtain ⟨Ao24, co24, eo24⟩ := Kd.N_slice HO131.out; subst eo24; obtain ⟨Ao25, co25, eo25⟩ := Kd.R_slice HO125.out; subst eo25) | ((with_reducible refine gate_dst (N := 2) rfl ?_); (try (refine gate_guard (by rfl) ?_; dsimp only)); refine box_event ?hg (N := 2) ?hd (cs := #[.slice none 0 0, .slice none 0 0]) (t := 25) ?hr ?_; (case hd => rfl); (case hg => rfl); (case hr => first | (go_simp; done) | (go_simp; rfl)); intro gb132 hg w26 hbox hb; have n0_ := Aside0.mk (Kd.R_below (rd_ HO118.out) hb); have n1_ := Aside0.mk (Kd.N_below (Kd.N_elderB (by (with_reducible repeat (first | apply Kd.N_alloc | apply Kd.N_drewN | apply Kd.N_drew)); exact HO121.out) gb132 (Nat.le_of_eq hg.symm)) hb); have n2_ := Aside0.mk (Kd.R_below (rd_ HO125.out) hb); have n3_ := Aside0.mk (Kd.N_below (Kd.N_elderB (by (with_reducible repeat (first | apply Kd.N_alloc | apply Kd.N_drewN | apply Kd.N_drew)); exact HO131.out) gb132 (Nat.le_of_eq hg.symm)) hb); have n4_ := Aside0.mk (bb_ BK122.out hb); have n5_ := Aside0.mk (below_step (hb_ HB.out) hb); have n6_ := Aside0.mk (hbox); have n7_ := Aside0.mk (gs_ hg (hb_ HB.out)); have n8_ := Aside0.mk (gs_ hg (hb_ HB.out)); have n9_ := Aside0.mk (gn_ hg BK122.out); have n10_ := Aside0.mk (gn_ hg BK122.out).symm; clear HO118; clear HO121; clear HO125; clear HO131; clear BK122; clear HB; have HO118 := n0_; have HO121 := n1_; have HO125 := n2_; have HO131 := n3_; have BK122 := n4_; have HB := n5_; have BK132 := n6_; have GW132 := n7_; have GE132 := n8_; have NB122_132 := n9_; have NB132_122 := n10_; clear n0_ n1_ n2_ n3_ n4_ n5_ n6_ n7_ n8_ n9_ n10_; clear hb hbox hg; have hnb27 := NB132_122.out; have hnc27 := NB122_132.out; have hcz28_0 : w26.cell? ⟨gb132, 0, none⟩ = some (.slice none 0 0) := (blk_cell BK132.out 0).trans rfl; have hcz28_1 : w26.cell? ⟨gb132, 1, none⟩ = some (.slice none 0 0) := (blk_cell BK132.out 1).trans rfl; have hfz28_0 := blk_frozen BK132.out 0; have hfz28_1 := blk_frozen BK132.out 1; have hcz29_0 : w26.cell? ⟨gb122, 0, none⟩ = some (.slice Ao14 t116.length co14) := (blk_cell BK122.out 0).trans rfl; have hcz29_1 : w26.cell? ⟨gb122, 1, none⟩ = some (.slice Ao16 t119.length co16) := (blk_cell BK122.out 1).trans rfl; have hfz29_0 := blk_frozen BK122.out 0; have hfz29_1 := blk_frozen BK122.out 1) | ((with_reducible refine gate_callee (f := 10) rfl ?_); refine goesL_ (some 15) rfl rfl Try.func10 (by kernel_rfl) rfl #[.agg #[.slice Ao14 t116.length co14, .slice Ao16 t119.length co16]] rfl ar_ ?_; (with_reducible refine (adm_Slots.calls _ _ t116 _ _ t119 t133 _ ?side1 ?side2 ?side3 ?side4 A2.out).mono ?_); (case side1 => refine (Kd.R_reads' (e := 3) (base := w.heap.size) (ok := fun k_ => (True ∧ some k_ ≠ (.slice Ao25 y123.length co25 : Value).ownBlock)) (n := t116.length) (c := co14) ?_).2.2; exact (by (with_reducible repeat (first | apply Kd.R_alloc | apply Kd.R_drewN | apply Kd.R_drew)); exact (Kd.R_mono (Kd.R_far (p := ⟨gb132, 1, none⟩) (Kd.R_far (p := ⟨gb132, 0, none⟩) (Kd.R_types HO118.out BK132.out (by decide)) (fun _ hk => hk.2) (.slice Ao25 y123.length co25)) (fun _ hk => hk.2) (.slice Ao24 y129.length co24)) (fun _ h_ => h_.1)))); (case side2 => exact (Kd.R_reads' HO118.out).2.1); (case side3 => refine (Kd.N_reads' (e := 37) (base := w.heap.size) (ok := fun k_ => (((((some k_ ≠ (.slice Ao14 t116.length co14 : Value).ownBlock ∧ k_ ≠ gb122) ∧ some k_ ≠ (.slice Ao25 y123.length co25 : Value).ownBlock) ∧ some k_ ≠ (.slice Ao21 y126.length co21 : Value).ownBlock) ∧ some k_ ≠ (.slice Ao24 y129.length co24 : Value).ownBlock) ∧ k_ ≠ gb132)) (n := t119.length) (c := co16) ?_).2.2; exact (by (with_reducible repeat (first | apply Kd.N_alloc | apply Kd.N_drewN | apply Kd.N_drew)); exact (Kd.N_mono (Kd.N_far (p := ⟨gb132, 1, none⟩) (Kd.N_far (p := ⟨gb132, 0, none⟩) (Kd.N_mono HO121.out (fun k_ hk => (⟨hk, hk.2⟩ : _ ∧ k_ ≠ gb132))) (fun _ hk => hk.2) (.slice Ao25 y123.length co25)) (fun _ hk => hk.2) (.slice Ao24 y129.length co24)) (fun _ h_ => h_.1)))); (case side4 => exact (Kd.N_reads' HO121.out).2.1); rintro e w30 ⟨v134, rfl, ho0, hb⟩; refine ⟨_, rfl, ?_⟩; have n0_ := Aside0.mk (Kd.R_elder' (by (with_reducible repeat (first | apply Kd.R_alloc | apply Kd.R_drewN | apply Kd.R_drew)); exact (Kd.R_mono (Kd.R_far (p := ⟨gb132, 1, none⟩) (Kd.R_far (p := ⟨gb132, 0, none⟩) (Kd.R_types HO118.out BK132.out (by decide)) (fun _ hk => hk.2) (.slice Ao25 y123.length co25)) (fun _ hk => hk.2) (.slice Ao24 y129.length co24)) (fun _ h_ => h_.1))) (Kd.R_base ho0) hb); have n1_ := Aside0.mk (Kd.N_elder' (by (with_reducible repeat (first | apply Kd.N_alloc | apply Kd.N_drewN | apply Kd.N_drew)); exact (Kd.N_mono (Kd.N_far (p := ⟨gb132, 1, none⟩) (Kd.N_far (p := ⟨gb132, 0, none⟩) (Kd.N_mono HO121.out (fun k_ hk => (⟨hk, hk.2⟩ : _ ∧ k_ ≠ gb132))) (fun _ hk => hk.2) (.slice Ao25 y123.length co25)) (fun _ hk => hk.2) (.slice Ao24 y129.length co24)) (fun _ h_ => h_.1))) (Kd.R_base ho0) hb); have n2_ := Aside0.mk (Kd.R_elder' (by (with_reducible repeat (first | apply Kd.R_alloc | apply Kd.R_drewN | apply Kd.R_drew)); exact (Kd.R_mono (Kd.R_far (p := ⟨gb132, 1, none⟩) (Kd.R_far (p := ⟨gb132, 0, none⟩) (Kd.R_types HO125.out BK132.out (by decide)) (fun _ hk => hk.2) (.slice Ao25 y123.length co25)) (fun _ hk => hk.2) (.slice Ao24 y129.length co24)) (fun _ h_ => h_.1))) (Kd.R_base ho0) hb); have n3_ := Aside0.mk (Kd.N_elder' (by (with_reducible repeat (first | apply Kd.N_alloc | apply Kd.N_drewN | apply Kd.N_drew)); exact (Kd.N_mono (Kd.N_far (p := ⟨gb132, 1, none⟩) (Kd.N_far (p := ⟨gb132, 0, none⟩) (Kd.N_mono HO131.out (fun k_ hk => (⟨hk, hk.2⟩ : _ ∧ k_ ≠ gb132))) (fun _ hk => hk.2) (.slice Ao25 y123.length co25)) (fun _ hk => hk.2) (.slice Ao24 y129.length co24)) (fun _ h_ => h_.1))) (Kd.R_base ho0) hb); have n4_ := Aside0.mk (Kd.R_lower (Kd.R_new' (Kd.R_new' ho0 (Kd.R_lt (by (with_reducible repeat (first | apply Kd.R_alloc | apply Kd.R_drewN | apply Kd.R_drew)); exact (Kd.R_mono (Kd.R_far (p := ⟨gb132, 1, none⟩) (Kd.R_far (p := ⟨gb132, 0, none⟩) (Kd.R_types HO118.out BK132.out (by decide)) (fun _ hk => hk.2) (.slice Ao25 y123.length co25)) (fun _ hk => hk.2) (.slice Ao24 y129.length co24)) (fun _ h_ => h_.1))))) (Kd.R_lt (by (with_reducible repeat (first | apply Kd.R_alloc | apply Kd.R_drewN | apply Kd.R_drew)); exact (Kd.R_mono (Kd.R_far (p := ⟨gb132, 1, none⟩) (Kd.R_far (p := ⟨gb132, 0, none⟩) (Kd.R_types HO125.out BK132.out (by decide)) (fun _ hk => hk.2) (.slice Ao25 y123.length co25)) (fun _ hk => hk.2) (.slice Ao24 y129.length co24)) (fun _ h_ => h_.1))))) (below_size (hb_ HB.out))); have n5_ := Aside0.mk (blk_below (g := gb122) (o := .cells #[.slice Ao14 t116.length co14, .slice Ao16 t119.length co16] 25 (0, 0)) (by (with_reducible repeat (first | refine blk_drewN ?_ _ | refine blk_drew ?_ | refine blk_alloc ?_ _)); refine blk_far ?_ NB122_132.out _; (with_reducible repeat (first | refine blk_drewN ?_ _ | refine blk_drew ?_ | refine blk_alloc ?_ _)); refine blk_far ?_ NB122_132.out _; (with_reducible repeat (first | refine blk_drewN ?_ _ | refine blk_drew ?_ | refine blk_alloc ?_ _)); exact BK122.out) hb); have n6_ := Aside0.mk (blk_below (g := gb132) (o := .cells #[.slice Ao25 y123.length co25, .slice Ao24 y129.length co24] 25 (0, 0)) (by (with_reducible repeat (first | refine blk_drewN ?_ _ | refine blk_drew ?_ | refine blk_alloc ?_ _)); refine blk_put (cs := #[.slice Ao25 y123.length co25, .slice none 0 0]) ?_ 1 _ rfl; (with_reducible repeat (first | refine blk_drewN ?_ _ | refine blk_drew ?_ | refine blk_alloc ?_ _)); refine blk_put (cs := #[.slice none 0 0, .slice none 0 0]) ?_ 0 _ rfl; (with_reducible repeat (first | refine blk_drewN ?_ _ | refine blk_drew ?_ | refine blk_alloc ?_ _)); exact BK132.out) hb); have n7_ := Aside0.mk (below_step (hb_ HB.out) hb); clear HO118; clear HO121; clear HO125; clear HO131; clear BK122; clear BK132; clear HB; have HO118 := n0_; have HO121 := n1_; have HO125 := n2_; have HO131 := n3_; have HO135 := n4_; have BK122 := n5_; have BK132 := n6_; have HB := n7_; clear n0_ n1_ n2_ n3_ n4_ n5_ n6_ n7_; (try clear hb); (try clear hb2); (try clear hk); (try clear hi); (try clear ho0)) | ((with_reducible refine gate_dst (N := 16) rfl ?_); (try (refine gate_guard (by rfl) ?_; dsimp only)); refine Kd.R_lit (Kd.int .i64) _ 3 ?hg (N := 16) ?hd (xs := ([1, 3] : List Int)) (inner := [.int .i64 1, .int .i64 3]) (ok := fun _ => True) (okp := fun _ => True) ?hr ?hp (fun _ hk => hk) trivial (Below.refl _ _) (Nat.le_refl _) (by simp) ?_; (case hd => rfl); (case hg => rfl); (case hr => first | (go_simp; done) | (go_simp; rfl)); (case hp => exact (Reps.one (show Kd.M (Kd.int .i64) _ _ _ 1 [.int .i64 1] from rfl) (Reps.one (show Kd.M (Kd.int .i64) _ _ _ 3 [.int .i64 3] from rfl) (Reps.none _ _)))); intro v137 w31 ho32 hb hg_ hnew_; clear hg_ hnew_; (first | rw [← Ny136.out] at ho32 | (simp only [Int.reduceToNat] at ho32; rw [← Ny136.out] at ho32)); have n0_ := Aside0.mk (Kd.R_elder' (rd_ HO118.out) (Kd.R_base ho32) hb); have n1_ := Aside0.mk (Kd.N_elder' (by (with_reducible repeat (first | apply Kd.N_alloc | apply Kd.N_drewN | apply Kd.N_drew)); exact HO121.out) (Kd.R_base ho32) hb); have n2_ := Aside0.mk (Kd.R_elder' (rd_ HO125.out) (Kd.R_base ho32) hb); have n3_ := Aside0.mk (Kd.N_elder' (by (with_reducible repeat (first | apply Kd.N_alloc | apply Kd.N_drewN | apply Kd.N_drew)); exact HO131.out) (Kd.R_base ho32) hb); have n4_ := Aside0.mk (Kd.R_elder' (rd_ HO135.out) (Kd.R_base ho32) hb); have n5_ := Aside0.mk (Kd.R_lower (Kd.R_new' (Kd.R_new' (Kd.R_new' ho32 (Kd.R_lt (rd_ HO118.out))) (Kd.R_lt (rd_ HO125.out))) (Kd.R_lt (rd_ HO135.out))) (below_size (hb_ HB.out))); have n6_ := Aside0.mk (bb_ BK122.out hb); have n7_ := Aside0.mk (bb_ BK132.out hb); have n8_ := Aside0.mk (below_step (hb_ HB.out) hb); clear HO118; clear HO121; clear HO125; clear HO131; clear HO135; clear BK122; clear BK132; clear HB; have HO118 := n0_; have HO121 := n1_; have HO125 := n2_; have HO131 := n3_; have HO135 := n4_; have HO138 := n5_; have BK122 := n6_; have BK132 := n7_; have HB := n8_; clear n0_ n1_ n2_ n3_ n4_ n5_ n6_ n7_ n8_; clear hb ho32; obtain ⟨Ao33, co33, eo33⟩ := Kd.R_slice HO135.out; subst eo33; obtain ⟨Ao34, co34, eo34⟩ := Kd.R_slice HO138.out; subst eo34) | ((with_reducible refine gate_callee (f := 7) rfl ?_); refine goesL_ (some 17) rfl rfl Try.func7 (by kernel_rfl) rfl #[.slice Ao33 t133.length co33, .slice Ao34 y136.length co34] rfl ar_ ?_; (with_reducible refine (fencepostref07_SameInts.calls k _ _ t133 _ _ y136 true _ ?side1 ?side2 ?side3 ?side4 A3.out).mono ?_); (case side1 => repeat (first | exact (Kd.R_reads' HO135.out).2.2 | (with_reducible refine Kd.C_alloc ?_ _) | (with_reducible refine Kd.C_drewN ?_ _) | (with_reducible refine Kd.C_drew ?_))); (case side2 => exact (Kd.R_reads' HO135.out).2.1); (case side3 => repeat (first | exact (Kd.R_reads' HO138.out).2.2 | (with_reducible refine Kd.C_alloc ?_ _) | (with_reducible refine Kd.C_drewN ?_ _) | (with_reducible refine Kd.C_drew ?_))); (case side4 => exact (Kd.R_reads' HO138.out).2.1); rintro e w' ⟨rfl, ⟨nd, rfl⟩⟩; refine ⟨_, rfl, ?_⟩; have hcz35_0 : w31.cell? ⟨gb132, 0, none⟩ = some (.slice Ao25 y123.length co25) := (blk_cell BK132.out 0).trans rfl; have hcz35_1 : w31.cell? ⟨gb132, 1, none⟩ = some (.slice Ao24 y129.length co24) := (blk_cell BK132.out 1).trans rfl; have hfz35_0 := blk_frozen BK132.out 0; have hfz35_1 := blk_frozen BK132.out 1) | (go_at_call 10; (with_reducible refine (adm_Slots.calls _ _ y123 _ _ y129 t140 _ ?side1 ?side2 ?side3 ?side4 A5.out).mono ?_); (case side1 => repeat (first | exact (Kd.R_reads' HO125.out).2.2 | (with_reducible refine Kd.C_alloc ?_ _) | (with_reducible refine Kd.C_drewN ?_ _) | (with_reducible refine Kd.C_drew ?_))); (case side2 => exact (Kd.R_reads' HO125.out).2.1); (case side3 => repeat (first | exact (Kd.N_reads' HO131.out).2.2 | (with_reducible refine Kd.C_alloc ?_ _) | (with_reducible refine Kd.C_drewN ?_ _) | (with_reducible refine Kd.C_drew ?_))); (case side4 => exact (Kd.N_reads' HO131.out).2.1); rintro e w36 ⟨v141, rfl, ho0, hb⟩; have n0_ := Aside0.mk (Kd.R_elder' (rd_ HO118.out) (Kd.R_base ho0) hb); have n1_ := Aside0.mk (Kd.N_elder' (by (with_reducible repeat (first | apply Kd.N_alloc | apply Kd.N_drewN | apply Kd.N_drew)); exact HO121.out) (Kd.R_base ho0) hb); have n2_ := Aside0.mk (Kd.R_elder' (rd_ HO125.out) (Kd.R_base ho0) hb); have n3_ := Aside0.mk (Kd.N_elder' (by (with_reducible repeat (first | apply Kd.N_alloc | apply Kd.N_drewN | apply Kd.N_drew)); exact HO131.out) (Kd.R_base ho0) hb); have n4_ := Aside0.mk (Kd.R_elder' (rd_ HO135.out) (Kd.R_base ho0) hb); have n5_ := Aside0.mk (Kd.R_elder' (rd_ HO138.out) (Kd.R_base ho0) hb); have n6_ := Aside0.mk (Kd.R_lower (Kd.R_new' (Kd.R_new' (Kd.R_new' (Kd.R_new' ho0 (Kd.R_lt (rd_ HO118.out))) (Kd.R_lt (rd_ HO125.out))) (Kd.R_lt (rd_ HO135.out))) (Kd.R_lt (rd_ HO138.out))) (below_size (hb_ HB.out))); have n7_ := Aside0.mk (bb_ BK122.out hb); have n8_ := Aside0.mk (bb_ BK132.out hb); have n9_ := Aside0.mk (below_step (hb_ HB.out) hb); clear HO118; clear HO121; clear HO125; clear HO131; clear HO135; clear HO138; clear BK122; clear BK132; clear HB; have HO118 := n0_; have HO121 := n1_; have HO125 := n2_; have HO131 := n3_; have HO135 := n4_; have HO138 := n5_; have HO142 := n6_; have BK122 := n7_; have BK132 := n8_; have HB := n9_; clear n0_ n1_ n2_ n3_ n4_ n5_ n6_ n7_ n8_ n9_; (try clear hb); (try clear hb2); (try clear hk); (try clear hi); (try clear ho0)) | ((with_reducible refine gate_dst (N := 21) rfl ?_); (try (refine gate_guard (by rfl) ?_; dsimp only)); refine Kd.R_lit (Kd.int .i64) _ 3 ?hg (N := 21) ?hd (xs := ([1, 3] : List Int)) (inner := [.int .i64 1, .int .i64 3]) (ok := fun _ => True) (okp := fun _ => True) ?hr ?hp (fun _ hk => hk) trivial (Below.refl _ _) (Nat.le_refl _) (by simp) ?_; (case hd => rfl); (case hg => rfl); (case hr => first | (go_simp; done) | (go_simp; rfl)); (case hp => exact (Reps.one (show Kd.M (Kd.int .i64) _ _ _ 1 [.int .i64 1] from rfl) (Reps.one (show Kd.M (Kd.int .i64) _ _ _ 3 [.int .i64 3] from rfl) (Reps.none _ _)))); intro v144 w37 ho38 hb hg_ hnew_; clear hg_ hnew_; (first | rw [← Ny143.out] at ho38 | (simp only [Int.reduceToNat] at ho38; rw [← Ny143.out] at ho38)); have n0_ := Aside0.mk (Kd.R_elder' (rd_ HO118.out) (Kd.R_base ho38) hb); have n1_ := Aside0.mk (Kd.N_elder' (by (with_reducible repeat (first | apply Kd.N_alloc | apply Kd.N_drewN | apply Kd.N_drew)); exact HO121.out) (Kd.R_base ho38) hb); have n2_ := Aside0.mk (Kd.R_elder' (rd_ HO125.out) (Kd.R_base ho38) hb); have n3_ := Aside0.mk (Kd.N_elder' (by (with_reducible repeat (first | apply Kd.N_alloc | apply Kd.N_drewN | apply Kd.N_drew)); exact HO131.out) (Kd.R_base ho38) hb); have n4_ := Aside0.mk (Kd.R_elder' (rd_ HO135.out) (Kd.R_base ho38) hb); have n5_ := Aside0.mk (Kd.R_elder' (rd_ HO138.out) (Kd.R_base ho38) hb); have n6_ := Aside0.mk (Kd.R_elder' (rd_ HO142.out) (Kd.R_base ho38) hb); have n7_ := Aside0.mk (Kd.R_lower (Kd.R_new' (Kd.R_new' (Kd.R_new' (Kd.R_new' (Kd.R_new' ho38 (Kd.R_lt (rd_ HO118.out))) (Kd.R_lt (rd_ HO125.out))) (Kd.R_lt (rd_ HO135.out))) (Kd.R_lt (rd_ HO138.out))) (Kd.R_lt (rd_ HO142.out))) (below_size (hb_ HB.out))); have n8_ := Aside0.mk (bb_ BK122.out hb); have n9_ := Aside0.mk (bb_ BK132.out hb); have n10_ := Aside0.mk (below_step (hb_ HB.out) hb); clear HO118; clear HO121; clear HO125; clear HO131; clear HO135; clear HO138; clear HO142; clear BK122; clear BK132; clear HB; have HO118 := n0_; have HO121 := n1_; have HO125 := n2_; have HO131 := n3_; have HO135 := n4_; have HO138 := n5_; have HO142 := n6_; have HO145 := n7_; have BK122 := n8_; have BK132 := n9_; have HB := n10_; clear n0_ n1_ n2_ n3_ n4_ n5_ n6_ n7_ n8_ n9_ n10_; clear hb ho38; obtain ⟨Ao39, co39, eo39⟩ := Kd.R_slice HO142.out; subst eo39; obtain ⟨Ao40, co40, eo40⟩ := Kd.R_slice HO145.out; subst eo40) | (go_at_call 7; (with_reducible refine (fencepostref07_SameInts.calls k _ _ t140 _ _ y143 true _ ?side1 ?side2 ?side3 ?side4 A6.out).mono ?_); (case side1 => repeat (first | exact (Kd.R_reads' HO142.out).2.2 | (with_reducible refine Kd.C_alloc ?_ _) | (with_reducible refine Kd.C_drewN ?_ _) | (with_reducible refine Kd.C_drew ?_))); (case side2 => exact (Kd.R_reads' HO142.out).2.1); (case side3 => repeat (first | exact (Kd.R_reads' HO145.out).2.2 | (with_reducible refine Kd.C_alloc ?_ _) | (with_reducible refine Kd.C_drewN ?_ _) | (with_reducible refine Kd.C_drew ?_))); (case side4 => exact (Kd.R_reads' HO145.out).2.1); rintro e w' ⟨rfl, ⟨nd, rfl⟩⟩; have hcz41_0 : w37.cell? ⟨gb122, 0, none⟩ = some (.slice Ao14 t116.length co14) := (blk_cell BK122.out 0).trans rfl; have hcz41_1 : w37.cell? ⟨gb122, 1, none⟩ = some (.slice Ao16 t119.length co16) := (blk_cell BK122.out 1).trans rfl; have hfz41_0 := blk_frozen BK122.out 0; have hfz41_1 := blk_frozen BK122.out 1) | ((with_reducible refine gate_dst (N := 26) rfl ?_); (try (refine gate_guard (by rfl) ?_; dsimp only)); refine Kd.R_lit (Kd.int .i64) _ 3 ?hg (N := 26) ?hd (xs := ([9, 3, 0, 3] : List Int)) (inner := [.int .i64 9, .int .i64 3, .int .i64 0, .int .i64 3]) (ok := fun _ => True) (okp := fun _ => True) ?hr ?hp (fun _ hk => hk) trivial (Below.refl _ _) (Nat.le_refl _) (by simp) ?_; (case hd => rfl); (case hg => rfl); (case hr => first | (go_simp; done) | (go_simp; rfl)); (case hp => exact (Reps.one (show Kd.M (Kd.int .i64) _ _ _ 9 [.int .i64 9] from rfl) (Reps.one (show Kd.M (Kd.int .i64) _ _ _ 3 [.int .i64 3] from rfl) (Reps.one (show Kd.M (Kd.int .i64) _ _ _ 0 [.int .i64 0] from rfl) (Reps.one (show Kd.M (Kd.int .i64) _ _ _ 3 [.int .i64 3] from rfl) (Reps.none _ _)))))); intro v148 w42 ho43 hb hg_ hnew_; clear hg_ hnew_; (first | rw [← Ny147.out] at ho43 | (simp only [Int.reduceToNat] at ho43; rw [← Ny147.out] at ho43)); have n0_ := Aside0.mk (Kd.R_elder' (rd_ HO118.out) (Kd.R_base ho43) hb); have n1_ := Aside0.mk (Kd.N_elder' (by (with_reducible repeat (first | apply Kd.N_alloc | apply Kd.N_drewN | apply Kd.N_drew)); exact HO121.out) (Kd.R_base ho43) hb); have n2_ := Aside0.mk (Kd.R_elder' (rd_ HO125.out) (Kd.R_base ho43) hb); have n3_ := Aside0.mk (Kd.N_elder' (by (with_reducible repeat (first | apply Kd.N_alloc | apply Kd.N_drewN | apply Kd.N_drew)); exact HO131.out) (Kd.R_base ho43) hb); have n4_ := Aside0.mk (Kd.R_elder' (rd_ HO135.out) (Kd.R_base ho43) hb); have n5_ := Aside0.mk (Kd.R_elder' (rd_ HO138.out) (Kd.R_base ho43) hb); have n6_ := Aside0.mk (Kd.R_elder' (rd_ HO142.out) (Kd.R_base ho43) hb); have n7_ := Aside0.mk (Kd.R_elder' (rd_ HO145.out) (Kd.R_base ho43) hb); have n8_ := Aside0.mk (Kd.R_lower (Kd.R_new' (Kd.R_new' (Kd.R_new' (Kd.R_new' (Kd.R_new' (Kd.R_new' ho43 (Kd.R_lt (rd_ HO118.out))) (Kd.R_lt (rd_ HO125.out))) (Kd.R_lt (rd_ HO135.out))) (Kd.R_lt (rd_ HO138.out))) (Kd.R_lt (rd_ HO142.out))) (Kd.R_lt (rd_ HO145.out))) (below_size (hb_ HB.out))); have n9_ := Aside0.mk (bb_ BK122.out hb); have n10_ := Aside0.mk (bb_ BK132.out hb); have n11_ := Aside0.mk (below_step (hb_ HB.out) hb); clear HO118; clear HO121; clear HO125; clear HO131; clear HO135; clear HO138; clear HO142; clear HO145; clear BK122; clear BK132; clear HB; have HO118 := n0_; have HO121 := n1_; have HO125 := n2_; have HO131 := n3_; have HO135 := n4_; have HO138 := n5_; have HO142 := n6_; have HO145 := n7_; have HO149 := n8_; have BK122 := n9_; have BK132 := n10_; have HB := n11_; clear n0_ n1_ n2_ n3_ n4_ n5_ n6_ n7_ n8_ n9_ n10_ n11_; clear hb ho43; obtain ⟨Ao44, co44, eo44⟩ := Kd.R_slice HO149.out; subst eo44) | (go_at_call 8; (with_reducible refine (adm_Keep.calls _ _ t116 _ _ t119 _ _ y147 t150 _ ?side1 ?side2 ?side3 ?side4 ?side5 ?side6 A8.out).mono ?_); (case side1 => repeat (first | exact (Kd.R_reads' HO118.out).2.2 | (with_reducible refine Kd.C_alloc ?_ _) | (with_reducible refine Kd.C_drewN ?_ _) | (with_reducible refine Kd.C_drew ?_))); (case side2 => exact (Kd.R_reads' HO118.out).2.1); (case side3 => repeat (first | exact (Kd.N_reads' HO121.out).2.2 | (with_reducible refine Kd.C_alloc ?_ _) | (with_reducible refine Kd.C_drewN ?_ _) | (with_reducible refine Kd.C_drew ?_))); (case side4 => exact (Kd.N_reads' HO121.out).2.1); (case side5 => repeat (first | exact (Kd.R_reads' HO149.out).2.2 | (with_reducible refine Kd.C_alloc ?_ _) | (with_reducible refine Kd.C_drewN ?_ _) | (with_reducible refine Kd.C_drew ?_))); (case side6 => exact (Kd.R_reads' HO149.out).2.1); rintro e w45 ⟨v151, rfl, ho0, hb⟩; have n0_ := Aside0.mk (Kd.R_elder' (rd_ HO118.out) (Kd.R_base ho0) hb); have n1_ := Aside0.mk (Kd.N_elder' (by (with_reducible repeat (first | apply Kd.N_alloc | apply Kd.N_drewN | apply Kd.N_drew)); exact HO121.out) (Kd.R_base ho0) hb); have n2_ := Aside0.mk (Kd.R_elder' (rd_ HO125.out) (Kd.R_base ho0) hb); have n3_ := Aside0.mk (Kd.N_elder' (by (with_reducible repeat (first | apply Kd.N_alloc | apply Kd.N_drewN | apply Kd.N_drew)); exact HO131.out) (Kd.R_base ho0) hb); have n4_ := Aside0.mk (Kd.R_elder' (rd_ HO135.out) (Kd.R_base ho0) hb); have n5_ := Aside0.mk (Kd.R_elder' (rd_ HO138.out) (Kd.R_base ho0) hb); have n6_ := Aside0.mk (Kd.R_elder' (rd_ HO142.out) (Kd.R_base ho0) hb); have n7_ := Aside0.mk (Kd.R_elder' (rd_ HO145.out) (Kd.R_base ho0) hb); have n8_ := Aside0.mk (Kd.R_elder' (rd_ HO149.out) (Kd.R_base ho0) hb); have n9_ := Aside0.mk (Kd.R_lower (Kd.R_new' (Kd.R_new' (Kd.R_new' (Kd.R_new' (Kd.R_new' (Kd.R_new' (Kd.R_new' ho0 (Kd.R_lt (rd_ HO118.out))) (Kd.R_lt (rd_ HO125.out))) (Kd.R_lt (rd_ HO135.out))) (Kd.R_lt (rd_ HO138.out))) (Kd.R_lt (rd_ HO142.out))) (Kd.R_lt (rd_ HO145.out))) (Kd.R_lt (rd_ HO149.out))) (below_size (hb_ HB.out))); have n10_ := Aside0.mk (bb_ BK122.out hb); have n11_ := Aside0.mk (bb_ BK132.out hb); have n12_ := Aside0.mk (below_step (hb_ HB.out) hb); clear HO118; clear HO121; clear HO125; clear HO131; clear HO135; clear HO138; clear HO142; clear HO145; clear HO149; clear BK122; clear BK132; clear HB; have HO118 := n0_; have HO121 := n1_; have HO125 := n2_; have HO131 := n3_; have HO135 := n4_; have HO138 := n5_; have HO142 := n6_; have HO145 := n7_; have HO149 := n8_; have HO152 := n9_; have BK122 := n10_; have BK132 := n11_; have HB := n12_; clear n0_ n1_ n2_ n3_ n4_ n5_ n6_ n7_ n8_ n9_ n10_ n11_ n12_; (try clear hb); (try clear hb2); (try clear hk); (try clear hi); (try clear ho0)) | ((with_reducible refine gate_dst (N := 28) rfl ?_); (try (refine gate_guard (by rfl) ?_; dsimp only)); refine Kd.R_lit (Kd.int .i64) _ 3 ?hg (N := 28) ?hd (xs := ([3] : List Int)) (inner := [.int .i64 3]) (ok := fun _ => True) (okp := fun _ => True) ?hr ?hp (fun _ hk => hk) trivial (Below.refl _ _) (Nat.le_refl _) (by simp) ?_; (case hd => rfl); (case hg => rfl); (case hr => first | (go_simp; done) | (go_simp; rfl)); (case hp => exact (Reps.one (show Kd.M (Kd.int .i64) _ _ _ 3 [.int .i64 3] from rfl) (Reps.none _ _))); intro v154 w46 ho47 hb hg_ hnew_; clear hg_ hnew_; (first | rw [← Ny153.out] at ho47 | (simp only [Int.reduceToNat] at ho47; rw [← Ny153.out] at ho47)); have n0_ := Aside0.mk (Kd.R_elder' (rd_ HO118.out) (Kd.R_base ho47) hb); have n1_ := Aside0.mk (Kd.N_elder' (by (with_reducible repeat (first | apply Kd.N_alloc | apply Kd.N_drewN | apply Kd.N_drew)); exact HO121.out) (Kd.R_base ho47) hb); have n2_ := Aside0.mk (Kd.R_elder' (rd_ HO125.out) (Kd.R_base ho47) hb); have n3_ := Aside0.mk (Kd.N_elder' (by (with_reducible repeat (first | apply Kd.N_alloc | apply Kd.N_drewN | apply Kd.N_drew)); exact HO131.out) (Kd.R_base ho47) hb); have n4_ := Aside0.mk (Kd.R_elder' (rd_ HO135.out) (Kd.R_base ho47) hb); have n5_ := Aside0.mk (Kd.R_elder' (rd_ HO138.out) (Kd.R_base ho47) hb); have n6_ := Aside0.mk (Kd.R_elder' (rd_ HO142.out) (Kd.R_base ho47) hb); have n7_ := Aside0.mk (Kd.R_elder' (rd_ HO145.out) (Kd.R_base ho47) hb); have n8_ := Aside0.mk (Kd.R_elder' (rd_ HO149.out) (Kd.R_base ho47) hb); have n9_ := Aside0.mk (Kd.R_elder' (rd_ HO152.out) (Kd.R_base ho47) hb); have n10_ := Aside0.mk (Kd.R_lower (Kd.R_new' (Kd.R_new' (Kd.R_new' (Kd.R_new' (Kd.R_new' (Kd.R_new' (Kd.R_new' (Kd.R_new' ho47 (Kd.R_lt (rd_ HO118.out))) (Kd.R_lt (rd_ HO125.out))) (Kd.R_lt (rd_ HO135.out))) (Kd.R_lt (rd_ HO138.out))) (Kd.R_lt (rd_ HO142.out))) (Kd.R_lt (rd_ HO145.out))) (Kd.R_lt (rd_ HO149.out))) (Kd.R_lt (rd_ HO152.out))) (below_size (hb_ HB.out))); have n11_ := Aside0.mk (bb_ BK122.out hb); have n12_ := Aside0.mk (bb_ BK132.out hb); have n13_ := Aside0.mk (below_step (hb_ HB.out) hb); clear HO118; clear HO121; clear HO125; clear HO131; clear HO135; clear HO138; clear HO142; clear HO145; clear HO149; clear HO152; clear BK122; clear BK132; clear HB; have HO118 := n0_; have HO121 := n1_; have HO125 := n2_; have HO131 := n3_; have HO135 := n4_; have HO138 := n5_; have HO142 := n6_; have HO145 := n7_; have HO149 := n8_; have HO152 := n9_; have HO155 := n10_; have BK122 := n11_; have BK132 := n12_; have HB := n13_; clear n0_ n1_ n2_ n3_ n4_ n5_ n6_ n7_ n8_ n9_ n10_ n11_ n12_ n13_; clear hb ho47; obtain ⟨Ao48, co48, eo48⟩ := Kd.R_slice HO152.out; subst eo48; obtain ⟨Ao49, co49, eo49⟩ := Kd.R_slice HO155.out; subst eo49) | (go_at_call 7; (with_reducible refine (fencepostref07_SameInts.calls k _ _ t150 _ _ y153 true _ ?side1 ?side2 ?side3 ?side4 A9.out).mono ?_); (case side1 => repeat (first | exact (Kd.R_reads' HO152.out).2.2 | (with_reducible refine Kd.C_alloc ?_ _) | (with_reducible refine Kd.C_drewN ?_ _) | (with_reducible refine Kd.C_drew ?_))); (case side2 => exact (Kd.R_reads' HO152.out).2.1); (case side3 => repeat (first | exact (Kd.R_reads' HO155.out).2.2 | (with_reducible refine Kd.C_alloc ?_ _) | (with_reducible refine Kd.C_drewN ?_ _) | (with_reducible refine Kd.C_drew ?_))); (case side4 => exact (Kd.R_reads' HO155.out).2.1); rintro e w' ⟨rfl, ⟨nd, rfl⟩⟩; have hcz50_0 : w46.cell? ⟨gb122, 0, none⟩ = some (.slice Ao14 t116.length co14) := (blk_cell BK122.out 0).trans rfl; have hcz50_1 : w46.cell? ⟨gb122, 1, none⟩ = some (.slice Ao16 t119.length co16) := (blk_cell BK122.out 1).trans rfl; have hfz50_0 := blk_frozen BK122.out 0; have hfz50_1 := blk_frozen BK122.out 1) | (go_at_call 8; (refine (adm_Keep.calls _ _ t116 _ _ t119 _ _ ([] : List Int) t157 _ ?side1 ?side2 ?side3 ?side4 ?side5 ?side6 A11.out).mono ?_); (case side1 => repeat (first | exact (Kd.R_reads' HO118.out).2.2 | (with_reducible refine Kd.C_alloc ?_ _) | (with_reducible refine Kd.C_drewN ?_ _) | (with_reducible refine Kd.C_drew ?_))); (case side2 => exact (Kd.R_reads' HO118.out).2.1); (case side3 => repeat (first | exact (Kd.N_reads' HO121.out).2.2 | (with_reducible refine Kd.C_alloc ?_ _) | (with_reducible refine Kd.C_drewN ?_ _) | (with_reducible refine Kd.C_drew ?_))); (case side4 => exact (Kd.N_reads' HO121.out).2.1); (case side5 => exact Kd.C_nil _ _); (case side6 => exact Nat.le_refl _); rintro e w51 ⟨v158, rfl, ho0, hb⟩; have n0_ := Aside0.mk (Kd.R_elder' (rd_ HO118.out) (Kd.R_base ho0) hb); have n1_ := Aside0.mk (Kd.N_elder' (by (with_reducible repeat (first | apply Kd.N_alloc | apply Kd.N_drewN | apply Kd.N_drew)); exact HO121.out) (Kd.R_base ho0) hb); have n2_ := Aside0.mk (Kd.R_elder' (rd_ HO125.out) (Kd.R_base ho0) hb); have n3_ := Aside0.mk (Kd.N_elder' (by (with_reducible repeat (first | apply Kd.N_alloc | apply Kd.N_drewN | apply Kd.N_drew)); exact HO131.out) (Kd.R_base ho0) hb); have n4_ := Aside0.mk (Kd.R_elder' (rd_ HO135.out) (Kd.R_base ho0) hb); have n5_ := Aside0.mk (Kd.R_elder' (rd_ HO138.out) (Kd.R_base ho0) hb); have n6_ := Aside0.mk (Kd.R_elder' (rd_ HO142.out) (Kd.R_base ho0) hb); have n7_ := Aside0.mk (Kd.R_elder' (rd_ HO145.out) (Kd.R_base ho0) hb); have n8_ := Aside0.mk (Kd.R_elder' (rd_ HO149.out) (Kd.R_base ho0) hb); have n9_ := Aside0.mk (Kd.R_elder' (rd_ HO152.out) (Kd.R_base ho0) hb); have n10_ := Aside0.mk (Kd.R_elder' (rd_ HO155.out) (Kd.R_base ho0) hb); have n11_ := Aside0.mk (Kd.R_lower (Kd.R_new' (Kd.R_new' (Kd.R_new' (Kd.R_new' (Kd.R_new' (Kd.R_new' (Kd.R_new' (Kd.R_new' (Kd.R_new' ho0 (Kd.R_lt (rd_ HO118.out))) (Kd.R_lt (rd_ HO125.out))) (Kd.R_lt (rd_ HO135.out))) (Kd.R_lt (rd_ HO138.out))) (Kd.R_lt (rd_ HO142.out))) (Kd.R_lt (rd_ HO145.out))) (Kd.R_lt (rd_ HO149.out))) (Kd.R_lt (rd_ HO152.out))) (Kd.R_lt (rd_ HO155.out))) (below_size (hb_ HB.out))); have n12_ := Aside0.mk (bb_ BK122.out hb); have n13_ := Aside0.mk (bb_ BK132.out hb); have n14_ := Aside0.mk (below_step (hb_ HB.out) hb); clear HO118; clear HO121; clear HO125; clear HO131; clear HO135; clear HO138; clear HO142; clear HO145; clear HO149; clear HO152; clear HO155; clear BK122; clear BK132; clear HB; have HO118 := n0_; have HO121 := n1_; have HO125 := n2_; have HO131 := n3_; have HO135 := n4_; have HO138 := n5_; have HO142 := n6_; have HO145 := n7_; have HO149 := n8_; have HO152 := n9_; have HO155 := n10_; have HO159 := n11_; have BK122 := n12_; have BK132 := n13_; have HB := n14_; clear n0_ n1_ n2_ n3_ n4_ n5_ n6_ n7_ n8_ n9_ n10_ n11_ n12_ n13_ n14_; (try clear hb); (try clear hb2); (try clear hk); (try clear hi); (try clear ho0); obtain ⟨Ao52, co52, eo52⟩ := Kd.R_slice HO159.out; subst eo52))
 go_ret
 exact ⟨by first | rfl | (simp [errW_none, errW_some] <;> rfl) | (simp [*, errW_none, errW_some] <;> rfl), hb_ HB.out⟩
def fencepostlaw19_head.f (k : Nat) : Option (Bool) := if fencepostlaw19_head.g k = some true then some true else none
theorem fencepostlaw19_head.mono : ∀ k, LeO (fencepostlaw19_head.f k) (fencepostlaw19_head.f (k + 1)) := by
 intro k r h
 unfold fencepostlaw19_head.f at h ⊢
 by_cases c : fencepostlaw19_head.g k = some true
 rotate_left
 ·rw [if_neg c] at h; exact absurd h (by simp)
 rw [if_pos c] at h; rw [if_pos (fencepostlaw19_head.monoT k true c)]; exact h
theorem fencepostlaw19_head.calls (k : Nat) (r : Bool) (w : World) (h : fencepostlaw19_head.f k = some r) :
 Calls Try.prog 4 #[] w fun e w' => e = .returned (.bool r) ∧ Below w.heap.size w w' := by
 unfold fencepostlaw19_head.f at h
 by_cases c : fencepostlaw19_head.g k = some true
 rotate_left
 ·rw [if_neg c] at h; exact absurd h (by simp)
 rw [if_pos c] at h; obtain rfl := Option.some.inj h; exact fencepostlaw19_head.callsT k true w rfl c
mutual
def fencepostlaw07_Great.j0 : Nat → Bool → List Int → List (List (S36)) → Option (Bool)
 | 0, _, _, _ => none
 | k + 1, x13, x161000, x161001 => if x13 = true then (some true) else (fencepostlaw07_Great.l0 k 0 x161000 x161001)
def fencepostlaw07_Great.l0 : Nat → Int → List Int → List (List (S36)) → Option (Bool)
 | 0, _, _, _ => none
 | k + 1, x3, x161000, x161001 => if x3 < (x161001.length : Int) then (if 0 ≤ x3 then (if ((rd_L2 x161001 x3).length : Int) > 300 then (some true) else (fencepostlaw07_Great.l0 k (wrap64 (x3 + 1)) x161000 x161001)) else (none)) else (some false)
end
def fencepostlaw07_Great.f (k : Nat) (l0_0 : List Int) (l0_1 : List (List (S36))) : Option (Bool) := if (l0_0.length : Int) > 60 then (fencepostlaw07_Great.j0 k true l0_0 l0_1) else (fencepostlaw07_Great.j0 k (decide ((l0_1.length : Int) > 9)) l0_0 l0_1)
set_option maxHeartbeats 8000000 in
set_option maxRecDepth 100000 in
theorem fencepostlaw07_Great.calls (k : Nat) (A0_0 : Option Addr) (c0_0 : Nat) (l0_0 : List Int) (A0_1 : Option Addr) (c0_1 : Nat) (l0_1 : List (List (S36))) (r : Bool) (w : World) (hr0_0 : Kd.C (Kd.int .i64) w A0_0 l0_0.length l0_0) (hc0_0 : l0_0.length ≤ c0_0) (hr0_1 : Kd.C (Kd.slice 36 k36) w A0_1 l0_1.length l0_1) (hc0_1 : l0_1.length ≤ c0_1) (h : fencepostlaw07_Great.f k l0_0 l0_1 = some r) :
 Calls Try.prog 11 #[.agg #[.slice A0_0 l0_0.length c0_0, .slice A0_1 l0_1.length c0_1]] w fun e w' => e = .returned (.bool r) ∧ Below w.heap.size w w' := by
 have hu25 := Try.underlying25
 have HR0_0 := Aside0.mk hr0_0
 have HC0_0 := Aside0.mk hc0_0
 clear hr0_0 hc0_0
 have HR0_1 := Aside0.mk hr0_1
 have HC0_1 := Aside0.mk hc0_1
 clear hr0_1 hc0_1
 have HB := Aside0.mk (Below.refl w.heap.size w)
 have H : (if (l0_0.length : Int) > 60 then (fencepostlaw07_Great.j0 k true l0_0 l0_1) else (fencepostlaw07_Great.j0 k (decide ((l0_1.length : Int) > 9)) l0_0 l0_1)) = some r := h
 clear h
 have HC2 := Aside0.mk H
 clear H
 go_enter Try.func11, Try.ntmps11
 go_upto_region 1 with (first | ((with_reducible refine gate_dst (N := 1) rfl ?_); (try (refine gate_guard (by rfl) ?_; dsimp only)); refine box_event ?hg (N := 1) ?hd (cs := #[.slice A0_0 l0_0.length c0_0, .slice A0_1 l0_1.length c0_1]) (t := 25) ?hr ?_; (case hd => rfl); (case hg => rfl); (case hr => first | (go_simp; done) | (go_simp; rfl)); intro gb160 hg w3 hbox hb; have n0_ := Aside0.mk (below_step (hb_ HB.out) hb); have n1_ := Aside0.mk (hbox); have n2_ := Aside0.mk (gs_ hg (hb_ HB.out)); have n3_ := Aside0.mk (gs_ hg (hb_ HB.out)); clear HB; have HB := n0_; have BK160 := n1_; have GW160 := n2_; have GE160 := n3_; clear n0_ n1_ n2_ n3_; clear hb hbox hg))
 (try simp only [Act.put, List.setIfInBounds_toArray, List.set_cons_zero, List.set_cons_succ])
 go_cut [13] (fun v13 wc => ∃ (kq : Nat) (x13_1 : Bool), v13 = .bool x13_1 ∧ Aside0 (fencepostlaw07_Great.j0 kq x13_1 l0_0 l0_1 = some r) ∧ Aside0 (kq ≤ k) ∧ Aside0 (wc.heap[gb160]? = some (.cells #[(.slice A0_0 l0_0.length c0_0), (.slice A0_1 l0_1.length c0_1)] 25 (0, 0))) ∧ Aside0 (Below w.heap.size w wc))
 case first =>
  have H := HC2.out
  clear HC2
  by_cases c4 : (l0_0.length : Int) > 60
  ·rw [if_pos c4] at H
   have c4b0 : decide (60 < (l0_0.length : Int)) = true := decide_eq_true c4
   have c4b1 : decide (60 < l0_0.length) = true := decide_eq_true (by omega)
   clear c4
   (first | rw [c4b0] | (simp only [i64_w, i32_w]; rw [c4b0]) | skip)
   have H' := Aside0.mk H
   clear H
   have hcz5_0 : w3.cell? ⟨gb160, 0, none⟩ = some (.slice A0_0 l0_0.length c0_0) := (blk_cell BK160.out 0).trans rfl
   have hcz5_1 : w3.cell? ⟨gb160, 1, none⟩ = some (.slice A0_1 l0_1.length c0_1) := (blk_cell BK160.out 1).trans rfl
   have hfz5_0 := blk_frozen BK160.out 0
   have hfz5_1 := blk_frozen BK160.out 1
   go_wp2
   go_meet
   case rel => exact ⟨_, (true), rf_, H', ⟨by first | omega | exact Nat.le_refl _⟩, ⟨bd_ BK160.out⟩, ⟨hb_ HB.out⟩⟩
  rw [if_neg c4] at H
  have c4b0 : decide (60 < (l0_0.length : Int)) = false := decide_eq_false c4
  have c4b1 : decide (60 < l0_0.length) = false := decide_eq_false (by omega)
  clear c4
  (first | rw [c4b0] | (simp only [i64_w, i32_w]; rw [c4b0]) | skip)
  have H' := Aside0.mk H
  clear H
  have hcz6_0 : w3.cell? ⟨gb160, 0, none⟩ = some (.slice A0_0 l0_0.length c0_0) := (blk_cell BK160.out 0).trans rfl
  have hcz6_1 : w3.cell? ⟨gb160, 1, none⟩ = some (.slice A0_1 l0_1.length c0_1) := (blk_cell BK160.out 1).trans rfl
  have hfz6_0 := blk_frozen BK160.out 0
  have hfz6_1 := blk_frozen BK160.out 1
  go_wp2
  go_meet
  case rel => exact ⟨_, (decide ((l0_1.length : Int) > 9)), rf_, H', ⟨by first | omega | exact Nat.le_refl _⟩, ⟨bd_ BK160.out⟩, ⟨hb_ HB.out⟩⟩
 clear HC2
 obtain ⟨kq, x13_1, rfl, HA, HJ1, BK160, HB⟩ := hcut
 cases kq with
 | zero => exact absurd HA.out (by simp [fencepostlaw07_Great.j0])
 | succ kj1 => ?_
 have H := HA.out
 clear HA
 simp only [fencepostlaw07_Great.j0] at H
 by_cases c7 : x13_1 = true
 ·subst c7
  have H1 : (some true) = some r := by rw [if_pos rfl] at H; exact H
  clear H
  have H := H1
  clear H1
  obtain rfl := Option.some.inj H
  go_wp2
  go_ret
  exact ⟨by first | rfl | (simp [errW_none, errW_some] <;> rfl) | (simp [*, errW_none, errW_some] <;> rfl), hb_ HB.out⟩
 replace c7 := Bool.eq_false_iff.mpr c7
 subst c7
 have H1 : (fencepostlaw07_Great.l0 kj1 0 l0_0 l0_1) = some r := by rw [if_neg (show ¬ (false = true) by decide)] at H; exact H
 clear H
 have H := H1
 clear H1
 have H' := Aside0.mk H
 clear H
 go_wp2
 go_loopg [3] kj1 (fun kq v3 w' => ∃ (x3_2 : Int), v3 = .int .i64 x3_2 ∧ Aside0 (fencepostlaw07_Great.l0 kq x3_2 l0_0 l0_1 = some r) ∧ Aside0 (kq ≤ kj1) ∧ Aside0 (w'.heap[gb160]? = some (.cells #[(.slice A0_0 l0_0.length c0_0), (.slice A0_1 l0_1.length c0_1)] 25 (0, 0))) ∧ Aside0 (Below w.heap.size w w'))
 case atStart => exact ⟨(0), rf_, H', ⟨Nat.le_refl _⟩, ⟨bd_ BK160.out⟩, ⟨hb_ HB.out⟩⟩
 clear H'
 try clear c7
 obtain ⟨x3_2, rfl, HA, HK2, BK160, HB⟩ := hrel
 cases gk with
 | zero => exact absurd HA.out (by simp [fencepostlaw07_Great.l0])
 | succ k2 => ?_
 have H := HA.out
 clear HA
 simp only [fencepostlaw07_Great.l0] at H
 by_cases c8 : x3_2 < (l0_1.length : Int)
 rotate_left
 ·rw [if_neg c8] at H
  have c8b0 : decide (x3_2 < (l0_1.length : Int)) = false := decide_eq_false c8
  clear c8
  obtain rfl := Option.some.inj H
  have hcz13_0 : wr.cell? ⟨gb160, 0, none⟩ = some (.slice A0_0 l0_0.length c0_0) := (blk_cell BK160.out 0).trans rfl
  have hcz13_1 : wr.cell? ⟨gb160, 1, none⟩ = some (.slice A0_1 l0_1.length c0_1) := (blk_cell BK160.out 1).trans rfl
  have hfz13_0 := blk_frozen BK160.out 0
  have hfz13_1 := blk_frozen BK160.out 1
  go_wp2
  go_ret
  exact ⟨by first | rfl | (simp [errW_none, errW_some] <;> rfl) | (simp [*, errW_none, errW_some] <;> rfl), hb_ HB.out⟩
 rw [if_pos c8] at H
 have c8b0 : decide (x3_2 < (l0_1.length : Int)) = true := decide_eq_true c8
 clear c8
 by_cases c9 : 0 ≤ x3_2
 rotate_left
 ·rw [if_neg c9] at H
  exact absurd H (by simp)
 rw [if_pos c9] at H
 have c9b0 : decide (0 ≤ x3_2) = true := decide_eq_true c9
 clear c9
 by_cases c10 : ((rd_L2 l0_1 x3_2).length : Int) > 300
 ·rw [if_pos c10] at H
  have c10b0 : decide (300 < ((rd_L2 l0_1 x3_2).length : Int)) = true := decide_eq_true c10
  have c10b1 : decide (300 < (rd_L2 l0_1 x3_2).length) = true := decide_eq_true (by omega)
  clear c10
  obtain rfl := Option.some.inj H
  have hcz11_0 : wr.cell? ⟨gb160, 0, none⟩ = some (.slice A0_0 l0_0.length c0_0) := (blk_cell BK160.out 0).trans rfl
  have hcz11_1 : wr.cell? ⟨gb160, 1, none⟩ = some (.slice A0_1 l0_1.length c0_1) := (blk_cell BK160.out 1).trans rfl
  have hfz11_0 := blk_frozen BK160.out 0
  have hfz11_1 := blk_frozen BK160.out 1
  have p161 : 0 ≤ (x3_2 : Int) := of_decide_eq_true as_
  have q161 : x3_2 < (l0_1.length : Int) := of_decide_eq_true as_
  obtain ⟨ad161, A161_0, c161_0, e161, hx161_0, hl161_0, hi161_0⟩ := at_L2 HR0_1.out x3_2 p161 q161
  cases e161
  replace hx161_0 := cl_ HB.out hx161_0
  have HR161_0 := Aside0.mk hi161_0
  have HC161_0 := Aside0.mk hl161_0
  clear hi161_0 hl161_0
  replace p161 := eq_true p161
  replace q161 := eq_true q161
  go_wp2
  go_ret
  exact ⟨by first | rfl | (simp [errW_none, errW_some] <;> rfl) | (simp [*, errW_none, errW_some] <;> rfl), hb_ HB.out⟩
 rw [if_neg c10] at H
 have c10b0 : decide (300 < ((rd_L2 l0_1 x3_2).length : Int)) = false := decide_eq_false c10
 have c10b1 : decide (300 < (rd_L2 l0_1 x3_2).length) = false := decide_eq_false (by omega)
 clear c10
 have H' := Aside0.mk H
 clear H
 have hcz12_0 : wr.cell? ⟨gb160, 0, none⟩ = some (.slice A0_0 l0_0.length c0_0) := (blk_cell BK160.out 0).trans rfl
 have hcz12_1 : wr.cell? ⟨gb160, 1, none⟩ = some (.slice A0_1 l0_1.length c0_1) := (blk_cell BK160.out 1).trans rfl
 have hfz12_0 := blk_frozen BK160.out 0
 have hfz12_1 := blk_frozen BK160.out 1
 have p161 : 0 ≤ (x3_2 : Int) := of_decide_eq_true as_
 have q161 : x3_2 < (l0_1.length : Int) := of_decide_eq_true as_
 obtain ⟨ad161, A161_0, c161_0, e161, hx161_0, hl161_0, hi161_0⟩ := at_L2 HR0_1.out x3_2 p161 q161
 cases e161
 replace hx161_0 := cl_ HB.out hx161_0
 have HR161_0 := Aside0.mk hi161_0
 have HC161_0 := Aside0.mk hl161_0
 clear hi161_0 hl161_0
 replace p161 := eq_true p161
 replace q161 := eq_true q161
 go_wp2
 go_roundg k2
 case measure => have := HJ1.out; have := HK2.out; omega
 case rel => exact ⟨(wrap64 (x3_2 + 1)), rf_, H', ⟨by have := HJ1.out; have := HK2.out; omega⟩, ⟨bd_ BK160.out⟩, ⟨hb_ HB.out⟩⟩
end Go.Proofs.Ytphklaajolpieaa.Print
