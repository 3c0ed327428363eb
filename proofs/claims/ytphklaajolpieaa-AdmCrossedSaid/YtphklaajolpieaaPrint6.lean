-- Written by ownprint.py (this session's) with the kit's print.py: functions, contracts, rows; Lean checks it.
import Derived.Test.YtphklaajolpieaaPrint0
import Derived.Test.YtphklaajolpieaaHSq
namespace Go.Proofs.Ytphklaajolpieaa.Print
open Go.RowKit Go.Proofs.YtphklaajolpieaaW.PrintWords Go.Proofs.YtphklaajolpieaaW.PrintLast Go.Proofs.YtphklaajolpieaaW.PrintMore
attribute [local go_sem] max2_int min2_int max_two min_two max_three min_three max_four min_four   -- for this text's walks alone
set_option linter.unusedVariables false
set_option linter.unusedSimpArgs false
def fencepostref10_At.f (l0_0 : List Int) (l0_1 : List (List (S36))) (l1_0 : List Int) (l1_1 : List (S49)) (a2 : Int) : Option (Int × Int × Int × Int × Int × Bool) := if a2 < 0 then (some (0, 0, 0, 0, 0, false)) else (if a2 ≥ (l1_1.length : Int) then (some (0, 0, 0, 0, 0, false)) else (if 0 ≤ a2 then (if a2 < (l1_1.length : Int) then (if a2 < (l0_1.length : Int) then (if ((rd_T49 l1_1 a2).f0) ≥ ((rd_L2 l0_1 a2).length : Int) then (some (0, 0, 0, 0, 0, false)) else (if 0 ≤ ((rd_T49 l1_1 a2).f0) then (if ((rd_T49 l1_1 a2).f0) < ((rd_L2 l0_1 a2).length : Int) then (some ((rd_T36 (rd_L2 l0_1 a2) ((rd_T49 l1_1 a2).f0)).f0, (rd_T36 (rd_L2 l0_1 a2) ((rd_T49 l1_1 a2).f0)).f1, (rd_T36 (rd_L2 l0_1 a2) ((rd_T49 l1_1 a2).f0)).f2, (rd_T36 (rd_L2 l0_1 a2) ((rd_T49 l1_1 a2).f0)).f3, (rd_T36 (rd_L2 l0_1 a2) ((rd_T49 l1_1 a2).f0)).f4, true)) else (none)) else (none))) else (none)) else (none)) else (none)))
def fencepostref10_At.T1 : Bool × List (List Nat × List Nat) := (true, [([], []), ([0], [0]), ([1], [1]), ([2], [2]), ([2], [2]), ([4, 2], [2, 4]), ([5, 2], [2, 5]), ([3, 6, 2], [2, 3, 6]), ([2, 7], [2, 7]), ([8, 2], [8]), ([9], [9]), ([10, 9], [9, 10]), ([9], [9]), ([11, 12, 9], [9, 11, 12]), ([13, 9], [9, 13]), ([14, 9], [9, 14]), ([9], [9]), ([16, 9], [9, 16]), ([9], [9]), ([17, 18, 9], [9, 17, 18]), ([19, 9], [9, 19]), ([20, 9], [9, 20]), ([15, 21, 9], [9, 15, 21]), ([9, 22], [9, 22])])
def fencepostref10_At.B1 : List Nat := [0, 1, 3, 7, 7, 23, 55, 127, 255, 511, 1023, 2047, 1023, 8191, 16383, 32767, 1023, 66559, 1023, 459775, 984063, 2032639, 4194303, 8388607]
theorem fencepostref10_At.tab1 : rtab .any (opsOf Try.f24 1) = fencepostref10_At.T1 := by kernel_rfl
theorem fencepostref10_At.bits1 : waitsOk fencepostref10_At.T1.2 fencepostref10_At.B1 = true := by kernel_rfl
def fencepostref10_At.T3 : Bool × List (List Nat × List Nat) := (true, [([], []), ([0], [0]), ([], []), ([1, 2], [1, 2]), ([3], [3]), ([], []), ([5], [5]), ([], []), ([6, 7], [6, 7]), ([8], [8]), ([9], [9]), ([4, 10], [4, 10]), ([11], [11]), ([12, 0, 1, 2, 3, 4, 5, 6, 7, 8, 9, 10, 11, 12], [12]), ([13, 0, 1, 2, 3, 4, 5, 6, 7, 8, 9, 10, 11, 12, 13], [])])
def fencepostref10_At.B3 : List Nat := [0, 1, 0, 7, 15, 0, 32, 0, 224, 480, 992, 2047, 4095, 8191, 16383]
theorem fencepostref10_At.tab3 : rtab .any (opsOf Try.f24 3) = fencepostref10_At.T3 := by kernel_rfl
theorem fencepostref10_At.bits3 : waitsOk fencepostref10_At.T3.2 fencepostref10_At.B3 = true := by kernel_rfl
set_option maxHeartbeats 8000000 in
set_option maxRecDepth 100000 in
theorem fencepostref10_At.calls (A0_0 : Option Addr) (c0_0 : Nat) (l0_0 : List Int) (A0_1 : Option Addr) (c0_1 : Nat) (l0_1 : List (List (S36))) (A1_0 : Option Addr) (c1_0 : Nat) (l1_0 : List Int) (A1_1 : Option Addr) (c1_1 : Nat) (l1_1 : List (S49)) (a2 : Int) (r1 : Int) (r2 : Int) (r3 : Int) (r4 : Int) (r5 : Int) (r6 : Bool) (w : World) (hr0_0 : Kd.C (Kd.int .i64) w A0_0 l0_0.length l0_0) (hc0_0 : l0_0.length ≤ c0_0) (hr0_1 : Kd.C (Kd.slice 36 k36) w A0_1 l0_1.length l0_1) (hc0_1 : l0_1.length ≤ c0_1) (hr1_0 : Kd.C (Kd.int .i64) w A1_0 l1_0.length l1_0) (hc1_0 : l1_0.length ≤ c1_0) (hr1_1 : Kd.C k49 w A1_1 l1_1.length l1_1) (hc1_1 : l1_1.length ≤ c1_1) (h : fencepostref10_At.f l0_0 l0_1 l1_0 l1_1 a2 = some (r1, r2, r3, r4, r5, r6)) :
 Calls Try.prog 24 #[.agg #[.slice A0_0 l0_0.length c0_0, .slice A0_1 l0_1.length c0_1], .agg #[.slice A1_0 l1_0.length c1_0, .slice A1_1 l1_1.length c1_1], .int .i64 a2] w fun e w' => e = .returned (.tuple #[.agg #[.int .i64 r1, .int .i64 r2, .int .i64 r3, .int .i64 r4, .int .i64 r5], .bool r6]) ∧ Below w.heap.size w w' := by
 have hu25 := Try.underlying25
 have hu41 := Try.underlying41
 have hu36 := Try.underlying36
 have HR0_0 := Aside0.mk hr0_0
 have HC0_0 := Aside0.mk hc0_0
 clear hr0_0 hc0_0
 have HR0_1 := Aside0.mk hr0_1
 have HC0_1 := Aside0.mk hc0_1
 clear hr0_1 hc0_1
 have HR1_0 := Aside0.mk hr1_0
 have HC1_0 := Aside0.mk hc1_0
 clear hr1_0 hc1_0
 have HR1_1 := Aside0.mk hr1_1
 have HC1_1 := Aside0.mk hc1_1
 clear hr1_1 hc1_1
 have HB := Aside0.mk (Below.refl w.heap.size w)
 have H : (if a2 < 0 then (some (0, 0, 0, 0, 0, false)) else (if a2 ≥ (l1_1.length : Int) then (some (0, 0, 0, 0, 0, false)) else (if 0 ≤ a2 then (if a2 < (l1_1.length : Int) then (if a2 < (l0_1.length : Int) then (if ((rd_T49 l1_1 a2).f0) ≥ ((rd_L2 l0_1 a2).length : Int) then (some (0, 0, 0, 0, 0, false)) else (if 0 ≤ ((rd_T49 l1_1 a2).f0) then (if ((rd_T49 l1_1 a2).f0) < ((rd_L2 l0_1 a2).length : Int) then (some ((rd_T36 (rd_L2 l0_1 a2) ((rd_T49 l1_1 a2).f0)).f0, (rd_T36 (rd_L2 l0_1 a2) ((rd_T49 l1_1 a2).f0)).f1, (rd_T36 (rd_L2 l0_1 a2) ((rd_T49 l1_1 a2).f0)).f2, (rd_T36 (rd_L2 l0_1 a2) ((rd_T49 l1_1 a2).f0)).f3, (rd_T36 (rd_L2 l0_1 a2) ((rd_T49 l1_1 a2).f0)).f4, true)) else (none)) else (none))) else (none)) else (none)) else (none)))) = some (r1, r2, r3, r4, r5, r6) := h
 clear h
 by_cases c4 : a2 < 0
 ·rw [if_pos c4] at H
  have c4b0 : decide (a2 < 0) = true := decide_eq_true c4
  clear c4
  simp only [Option.some.injEq, Prod.mk.injEq] at H
  obtain ⟨rfl, rfl, rfl, rfl, rfl, rfl⟩ := H
  go_enter Try.func24, Try.ntmps24
  try go_wp2_with (first | ((with_reducible refine gate_dst (N := 3) rfl ?_); (try (refine gate_guard (by rfl) ?_; dsimp only)); refine box_event ?hg (N := 3) ?hd (cs := #[.slice A0_0 l0_0.length c0_0, .slice A0_1 l0_1.length c0_1]) (t := 25) ?hr ?_; (case hd => rfl); (case hg => rfl); (case hr => first | (go_simp; done) | (go_simp; rfl)); intro gb255 hg w5 hbox hb; have n0_ := Aside0.mk (below_step (hb_ HB.out) hb); have n1_ := Aside0.mk (hbox); have n2_ := Aside0.mk (gs_ hg (hb_ HB.out)); have n3_ := Aside0.mk (gs_ hg (hb_ HB.out)); clear HB; have HB := n0_; have BK255 := n1_; have GW255 := n2_; have GE255 := n3_; clear n0_ n1_ n2_ n3_; clear hb hbox hg) | ((with_reducible refine gate_dst (N := 4) rfl ?_); (try (refine gate_guard (by rfl) ?_; dsimp only)); refine box_event ?hg (N := 4) ?hd (cs := #[.slice A1_0 l1_0.length c1_0, .slice A1_1 l1_1.length c1_1]) (t := 41) ?hr ?_; (case hd => rfl); (case hg => rfl); (case hr => first | (go_simp; done) | (go_simp; rfl)); intro gb256 hg w6 hbox hb; have n0_ := Aside0.mk (bb_ BK255.out hb); have n1_ := Aside0.mk (below_step (hb_ HB.out) hb); have n2_ := Aside0.mk (hbox); have n3_ := Aside0.mk (gs_ hg (hb_ HB.out)); have n4_ := Aside0.mk (gs_ hg (hb_ HB.out)); have n5_ := Aside0.mk (gn_ hg BK255.out); have n6_ := Aside0.mk (gn_ hg BK255.out).symm; clear BK255; clear HB; have BK255 := n0_; have HB := n1_; have BK256 := n2_; have GW256 := n3_; have GE256 := n4_; have NB255_256 := n5_; have NB256_255 := n6_; clear n0_ n1_ n2_ n3_ n4_ n5_ n6_; clear hb hbox hg) | ((with_reducible refine gate_dst (N := 6) rfl ?_); (try (refine gate_guard (by rfl) ?_; dsimp only)); refine box_event ?hg (N := 6) ?hd (cs := #[.int .i64 0, .int .i64 0, .int .i64 0, .int .i64 0, .int .i64 0]) (t := 36) ?hr ?_; (case hd => rfl); (case hg => rfl); (case hr => first | (go_simp; done) | (go_simp; rfl)); intro gb257 hg w7 hbox hb; have n0_ := Aside0.mk (bb_ BK255.out hb); have n1_ := Aside0.mk (bb_ BK256.out hb); have n2_ := Aside0.mk (below_step (hb_ HB.out) hb); have n3_ := Aside0.mk (hbox); have n4_ := Aside0.mk (gs_ hg (hb_ HB.out)); have n5_ := Aside0.mk (gs_ hg (hb_ HB.out)); have n6_ := Aside0.mk (gn_ hg BK255.out); have n7_ := Aside0.mk (gn_ hg BK255.out).symm; have n8_ := Aside0.mk (gn_ hg BK256.out); have n9_ := Aside0.mk (gn_ hg BK256.out).symm; clear BK255; clear BK256; clear HB; have BK255 := n0_; have BK256 := n1_; have HB := n2_; have BK257 := n3_; have GW257 := n4_; have GE257 := n5_; have NB255_257 := n6_; have NB257_255 := n7_; have NB256_257 := n8_; have NB257_256 := n9_; clear n0_ n1_ n2_ n3_ n4_ n5_ n6_ n7_ n8_ n9_; clear hb hbox hg))
  have n0_ := Aside0.mk (blk_drew BK255.out)
  have n1_ := Aside0.mk (blk_drew BK256.out)
  have n2_ := Aside0.mk (blk_drew BK257.out)
  have n3_ := Aside0.mk (below_drew1 HB.out)
  clear BK255
  clear BK256
  clear BK257
  clear HB
  have BK255 := n0_
  have BK256 := n1_
  have BK257 := n2_
  have HB := n3_
  clear n0_ n1_ n2_ n3_
  refine start_ (n := 24) (S := fun w' => True) (ds := []) (lb_ 24 0) (by kernel_rfl) rfl rfl trivial (fun hHeld => ?_); refine with_tabW fencepostref10_At.tab1 fencepostref10_At.bits1 (fun HT_ HW_ => ?_)
  generalize w7.drew = w8 at BK255 BK256 BK257 HB hHeld ⊢
  refine pure_ (i := 0) (N := some 8) (v := ?_) (a' := ?_) (lb_ 24 1) rfl rfl (any_of HT_.out (by kernel_rfl)) (fun _ _ _ h => h) (Or.inl ⟨by rfl, ?_⟩) ?_ ?_; rotate_left; intro w'; go_simp; with_reducible rfl; rotate_left; simp only [Act.put, List.setIfInBounds_toArray, List.set_cons_zero, List.set_cons_succ, i64_w, i32_w]; rfl
  refine pure_ (i := 1) (N := some 9) (v := ?_) (a' := ?_) (lb_ 24 3) rfl rfl (any_of HT_.out (by kernel_rfl)) (fun _ _ _ h => h) (Or.inl ⟨by rfl, ?_⟩) ?_ ?_; rotate_left; intro w'; go_simp; with_reducible rfl; rotate_left; simp only [Act.put, List.setIfInBounds_toArray, List.set_cons_zero, List.set_cons_succ, i64_w, i32_w]; rfl
  refine pure_ (i := 2) (N := some 10) (v := ?_) (a' := ?_) (lb_ 24 7) rfl rfl (any_of HT_.out (by kernel_rfl)) (fun _ _ _ h => h) (Or.inl ⟨by rfl, ?_⟩) ?_ ?_; rotate_left; intro w'; go_simp; with_reducible rfl; rotate_left; simp only [Act.put, List.setIfInBounds_toArray, List.set_cons_zero, List.set_cons_succ, i64_w, i32_w]; rfl
  refine pure_ (i := 3) (N := some 11) (v := undef) (a' := ?_) (lb_ 24 15) rfl rfl (any_of HT_.out (by kernel_rfl)) (fun _ _ _ h => h) (Or.inr ⟨by rfl, rfl⟩) ?_ ?_
  rotate_left
  ·simp only [Act.put, List.setIfInBounds_toArray, List.set_cons_zero, List.set_cons_succ, i64_w, i32_w]
   rfl
  refine pure_ (i := 4) (N := some 12) (v := undef) (a' := ?_) (lb_ 24 31) rfl rfl (any_of HT_.out (by kernel_rfl)) (fun _ _ _ h => h) (Or.inr ⟨by rfl, rfl⟩) ?_ ?_
  rotate_left
  ·simp only [Act.put, List.setIfInBounds_toArray, List.set_cons_zero, List.set_cons_succ, i64_w, i32_w]
   rfl
  refine pure_ (i := 5) (N := some 13) (v := undef) (a' := ?_) (lb_ 24 63) rfl rfl (any_of HT_.out (by kernel_rfl)) (fun _ _ _ h => h) (Or.inr ⟨by rfl, rfl⟩) ?_ ?_
  rotate_left
  ·simp only [Act.put, List.setIfInBounds_toArray, List.set_cons_zero, List.set_cons_succ, i64_w, i32_w]
   rfl
  refine pure_ (i := 6) (N := some 14) (v := undef) (a' := ?_) (lb_ 24 127) rfl rfl (any_of HT_.out (by kernel_rfl)) (fun _ _ _ h => h) (Or.inr ⟨by rfl, rfl⟩) ?_ ?_
  rotate_left
  ·simp only [Act.put, List.setIfInBounds_toArray, List.set_cons_zero, List.set_cons_succ, i64_w, i32_w]
   rfl
  refine pure_ (i := 7) (N := some 15) (v := undef) (a' := ?_) (lb_ 24 255) rfl rfl (any_of HT_.out (by kernel_rfl)) (fun _ _ _ h => h) (Or.inr ⟨by rfl, rfl⟩) ?_ ?_
  rotate_left
  ·simp only [Act.put, List.setIfInBounds_toArray, List.set_cons_zero, List.set_cons_succ, i64_w, i32_w]
   rfl
  refine pure_ (i := 8) (N := some 16) (v := ?_) (a' := ?_) (lb_ 24 511) rfl rfl (any_of HT_.out (by kernel_rfl)) (fun _ _ _ h => h) (Or.inl ⟨by rfl, ?_⟩) ?_ ?_; rotate_left; intro w'; go_simp; with_reducible rfl; rotate_left; simp only [Act.put, List.setIfInBounds_toArray, List.set_cons_zero, List.set_cons_succ, i64_w, i32_w]; rfl
  refine pure_ (i := 9) (N := some 17) (v := ?_) (a' := ?_) (lb_ 24 1023) rfl rfl (any_of HT_.out (by kernel_rfl)) (fun _ _ _ h => h) (Or.inl ⟨by rfl, ?_⟩) ?_ ?_; rotate_left; intro w'; go_simp; with_reducible rfl; rotate_left; simp only [Act.put, List.setIfInBounds_toArray, List.set_cons_zero, List.set_cons_succ, i64_w, i32_w]; rfl
  refine pure_ (i := 10) (N := some 18) (v := undef) (a' := ?_) (lb_ 24 2047) rfl rfl (any_of HT_.out (by kernel_rfl)) (fun _ _ _ h => h) (Or.inr ⟨by rfl, rfl⟩) ?_ ?_
  rotate_left
  ·simp only [Act.put, List.setIfInBounds_toArray, List.set_cons_zero, List.set_cons_succ, i64_w, i32_w]
   rfl
  refine pure_ (i := 11) (N := some 19) (v := undef) (a' := ?_) (lb_ 24 4095) rfl rfl (any_of HT_.out (by kernel_rfl)) (fun _ _ _ h => h) (Or.inr ⟨by rfl, rfl⟩) ?_ ?_
  rotate_left
  ·simp only [Act.put, List.setIfInBounds_toArray, List.set_cons_zero, List.set_cons_succ, i64_w, i32_w]
   rfl
  refine pure_ (i := 12) (N := some 20) (v := undef) (a' := ?_) (lb_ 24 8191) rfl rfl (any_of HT_.out (by kernel_rfl)) (fun _ _ _ h => h) (Or.inr ⟨by rfl, rfl⟩) ?_ ?_
  rotate_left
  ·simp only [Act.put, List.setIfInBounds_toArray, List.set_cons_zero, List.set_cons_succ, i64_w, i32_w]
   rfl
  refine pure_ (i := 13) (N := some 21) (v := undef) (a' := ?_) (lb_ 24 16383) rfl rfl (any_of HT_.out (by kernel_rfl)) (fun _ _ _ h => h) (Or.inr ⟨by rfl, rfl⟩) ?_ ?_
  rotate_left
  ·simp only [Act.put, List.setIfInBounds_toArray, List.set_cons_zero, List.set_cons_succ, i64_w, i32_w]
   rfl
  refine pure_ (i := 14) (N := some 22) (v := undef) (a' := ?_) (lb_ 24 32767) rfl rfl (any_of HT_.out (by kernel_rfl)) (fun _ _ _ h => h) (Or.inr ⟨by rfl, rfl⟩) ?_ ?_
  rotate_left
  ·simp only [Act.put, List.setIfInBounds_toArray, List.set_cons_zero, List.set_cons_succ, i64_w, i32_w]
   rfl
  refine pure_ (i := 15) (N := some 23) (v := undef) (a' := ?_) (lb_ 24 65535) rfl rfl (any_of HT_.out (by kernel_rfl)) (fun _ _ _ h => h) (Or.inr ⟨by rfl, rfl⟩) ?_ ?_
  rotate_left
  ·simp only [Act.put, List.setIfInBounds_toArray, List.set_cons_zero, List.set_cons_succ, i64_w, i32_w]
   rfl
  refine pure_ (i := 16) (N := some 24) (v := undef) (a' := ?_) (lb_ 24 131071) rfl rfl (any_of HT_.out (by kernel_rfl)) (fun _ _ _ h => h) (Or.inr ⟨by rfl, rfl⟩) ?_ ?_
  rotate_left
  ·simp only [Act.put, List.setIfInBounds_toArray, List.set_cons_zero, List.set_cons_succ, i64_w, i32_w]
   rfl
  refine pure_ (i := 17) (N := some 25) (v := undef) (a' := ?_) (lb_ 24 262143) rfl rfl (any_of HT_.out (by kernel_rfl)) (fun _ _ _ h => h) (Or.inr ⟨by rfl, rfl⟩) ?_ ?_
  rotate_left
  ·simp only [Act.put, List.setIfInBounds_toArray, List.set_cons_zero, List.set_cons_succ, i64_w, i32_w]
   rfl
  refine pure_ (i := 18) (N := some 26) (v := undef) (a' := ?_) (lb_ 24 524287) rfl rfl (any_of HT_.out (by kernel_rfl)) (fun _ _ _ h => h) (Or.inr ⟨by rfl, rfl⟩) ?_ ?_
  rotate_left
  ·simp only [Act.put, List.setIfInBounds_toArray, List.set_cons_zero, List.set_cons_succ, i64_w, i32_w]
   rfl
  refine pure_ (i := 19) (N := some 27) (v := undef) (a' := ?_) (lb_ 24 1048575) rfl rfl (any_of HT_.out (by kernel_rfl)) (fun _ _ _ h => h) (Or.inr ⟨by rfl, rfl⟩) ?_ ?_
  rotate_left
  ·simp only [Act.put, List.setIfInBounds_toArray, List.set_cons_zero, List.set_cons_succ, i64_w, i32_w]
   rfl
  refine pure_ (i := 20) (N := some 28) (v := undef) (a' := ?_) (lb_ 24 2097151) rfl rfl (any_of HT_.out (by kernel_rfl)) (fun _ _ _ h => h) (Or.inr ⟨by rfl, rfl⟩) ?_ ?_
  rotate_left
  ·simp only [Act.put, List.setIfInBounds_toArray, List.set_cons_zero, List.set_cons_succ, i64_w, i32_w]
   rfl
  refine pure_ (i := 21) (N := some 29) (v := undef) (a' := ?_) (lb_ 24 4194303) rfl rfl (any_of HT_.out (by kernel_rfl)) (fun _ _ _ h => h) (Or.inr ⟨by rfl, rfl⟩) ?_ ?_
  rotate_left
  ·simp only [Act.put, List.setIfInBounds_toArray, List.set_cons_zero, List.set_cons_succ, i64_w, i32_w]
   rfl
  refine pure_ (i := 22) (N := some 30) (v := undef) (a' := ?_) (lb_ 24 8388607) rfl rfl (any_of HT_.out (by kernel_rfl)) (fun _ _ _ h => h) (Or.inr ⟨by rfl, rfl⟩) ?_ ?_
  rotate_left
  ·simp only [Act.put, List.setIfInBounds_toArray, List.set_cons_zero, List.set_cons_succ, i64_w, i32_w]
   rfl
  refine pure_ (i := 23) (N := some 31) (v := ?_) (a' := ?_) (lb_ 24 16777215) rfl rfl (any_of HT_.out (by kernel_rfl)) (fun _ _ _ h => h) (Or.inl ⟨by rfl, ?_⟩) ?_ ?_; rotate_left; intro w'; go_simp; with_reducible rfl; rotate_left; simp only [Act.put, List.setIfInBounds_toArray, List.set_cons_zero, List.set_cons_succ, i64_w, i32_w]; rfl
  refine done_ (done_of HT_.out (by kernel_rfl)) ?_
  have hnb9 := NB257_255.out
  have hnc9 := NB255_257.out
  have hnb10 := NB257_256.out
  have hnc10 := NB256_257.out
  have hcz11_0 : w8.cell? ⟨gb257, 0, none⟩ = some (.int .i64 0) := (blk_cell BK257.out 0).trans rfl
  have hcz11_1 : w8.cell? ⟨gb257, 1, none⟩ = some (.int .i64 0) := (blk_cell BK257.out 1).trans rfl
  have hcz11_2 : w8.cell? ⟨gb257, 2, none⟩ = some (.int .i64 0) := (blk_cell BK257.out 2).trans rfl
  have hcz11_3 : w8.cell? ⟨gb257, 3, none⟩ = some (.int .i64 0) := (blk_cell BK257.out 3).trans rfl
  have hcz11_4 : w8.cell? ⟨gb257, 4, none⟩ = some (.int .i64 0) := (blk_cell BK257.out 4).trans rfl
  have hfz11_0 := blk_frozen BK257.out 0
  have hfz11_1 := blk_frozen BK257.out 1
  have hfz11_2 := blk_frozen BK257.out 2
  have hfz11_3 := blk_frozen BK257.out 3
  have hfz11_4 := blk_frozen BK257.out 4
  try go_wp2
  refine bodyPost_ret (results_ct rfl _ _ gb257 36 #[.int .i64 0, .int .i64 0, .int .i64 0, .int .i64 0, .int .i64 0] (0, 0) _ rfl (by exact bp5_ BK257.out) Try.underlying36 rfl (by kernel_rfl)) rfl ?_
  exact ⟨by first | rfl | (simp [errW_none, errW_some] <;> rfl) | (simp [*, errW_none, errW_some] <;> rfl), hb_ HB.out⟩
 rw [if_neg c4] at H
 have c4b0 : decide (a2 < 0) = false := decide_eq_false c4
 clear c4
 by_cases c12 : a2 ≥ (l1_1.length : Int)
 ·rw [if_pos c12] at H
  have c12b0 : decide ((l1_1.length : Int) ≤ a2) = true := decide_eq_true c12
  clear c12
  simp only [Option.some.injEq, Prod.mk.injEq] at H
  obtain ⟨rfl, rfl, rfl, rfl, rfl, rfl⟩ := H
  go_enter Try.func24, Try.ntmps24
  try go_wp2_with (first | ((with_reducible refine gate_dst (N := 3) rfl ?_); (try (refine gate_guard (by rfl) ?_; dsimp only)); refine box_event ?hg (N := 3) ?hd (cs := #[.slice A0_0 l0_0.length c0_0, .slice A0_1 l0_1.length c0_1]) (t := 25) ?hr ?_; (case hd => rfl); (case hg => rfl); (case hr => first | (go_simp; done) | (go_simp; rfl)); intro gb255 hg w13 hbox hb; have n0_ := Aside0.mk (below_step (hb_ HB.out) hb); have n1_ := Aside0.mk (hbox); have n2_ := Aside0.mk (gs_ hg (hb_ HB.out)); have n3_ := Aside0.mk (gs_ hg (hb_ HB.out)); clear HB; have HB := n0_; have BK255 := n1_; have GW255 := n2_; have GE255 := n3_; clear n0_ n1_ n2_ n3_; clear hb hbox hg) | ((with_reducible refine gate_dst (N := 4) rfl ?_); (try (refine gate_guard (by rfl) ?_; dsimp only)); refine box_event ?hg (N := 4) ?hd (cs := #[.slice A1_0 l1_0.length c1_0, .slice A1_1 l1_1.length c1_1]) (t := 41) ?hr ?_; (case hd => rfl); (case hg => rfl); (case hr => first | (go_simp; done) | (go_simp; rfl)); intro gb256 hg w14 hbox hb; have n0_ := Aside0.mk (bb_ BK255.out hb); have n1_ := Aside0.mk (below_step (hb_ HB.out) hb); have n2_ := Aside0.mk (hbox); have n3_ := Aside0.mk (gs_ hg (hb_ HB.out)); have n4_ := Aside0.mk (gs_ hg (hb_ HB.out)); have n5_ := Aside0.mk (gn_ hg BK255.out); have n6_ := Aside0.mk (gn_ hg BK255.out).symm; clear BK255; clear HB; have BK255 := n0_; have HB := n1_; have BK256 := n2_; have GW256 := n3_; have GE256 := n4_; have NB255_256 := n5_; have NB256_255 := n6_; clear n0_ n1_ n2_ n3_ n4_ n5_ n6_; clear hb hbox hg) | ((with_reducible refine gate_dst (N := 6) rfl ?_); (try (refine gate_guard (by rfl) ?_; dsimp only)); refine box_event ?hg (N := 6) ?hd (cs := #[.int .i64 0, .int .i64 0, .int .i64 0, .int .i64 0, .int .i64 0]) (t := 36) ?hr ?_; (case hd => rfl); (case hg => rfl); (case hr => first | (go_simp; done) | (go_simp; rfl)); intro gb257 hg w15 hbox hb; have n0_ := Aside0.mk (bb_ BK255.out hb); have n1_ := Aside0.mk (bb_ BK256.out hb); have n2_ := Aside0.mk (below_step (hb_ HB.out) hb); have n3_ := Aside0.mk (hbox); have n4_ := Aside0.mk (gs_ hg (hb_ HB.out)); have n5_ := Aside0.mk (gs_ hg (hb_ HB.out)); have n6_ := Aside0.mk (gn_ hg BK255.out); have n7_ := Aside0.mk (gn_ hg BK255.out).symm; have n8_ := Aside0.mk (gn_ hg BK256.out); have n9_ := Aside0.mk (gn_ hg BK256.out).symm; clear BK255; clear BK256; clear HB; have BK255 := n0_; have BK256 := n1_; have HB := n2_; have BK257 := n3_; have GW257 := n4_; have GE257 := n5_; have NB255_257 := n6_; have NB257_255 := n7_; have NB256_257 := n8_; have NB257_256 := n9_; clear n0_ n1_ n2_ n3_ n4_ n5_ n6_ n7_ n8_ n9_; clear hb hbox hg))
  have n0_ := Aside0.mk (blk_drew BK255.out)
  have n1_ := Aside0.mk (blk_drew BK256.out)
  have n2_ := Aside0.mk (blk_drew BK257.out)
  have n3_ := Aside0.mk (below_drew1 HB.out)
  clear BK255
  clear BK256
  clear BK257
  clear HB
  have BK255 := n0_
  have BK256 := n1_
  have BK257 := n2_
  have HB := n3_
  clear n0_ n1_ n2_ n3_
  refine start_ (n := 24) (S := fun w' => w'.cell? ⟨gb256, 0, none⟩ = some (.slice A1_0 l1_0.length c1_0) ∧ w'.cell? ⟨gb256, 1, none⟩ = some (.slice A1_1 l1_1.length c1_1)) (ds := []) (lb_ 24 0) (by kernel_rfl) rfl rfl ⟨(blk_cell BK256.out 0).trans rfl, (blk_cell BK256.out 1).trans rfl⟩ (fun hHeld => ?_); refine with_tabW fencepostref10_At.tab1 fencepostref10_At.bits1 (fun HT_ HW_ => ?_)
  generalize w15.drew = w16 at BK255 BK256 BK257 HB hHeld ⊢
  refine pure_ (i := 0) (N := some 8) (v := ?_) (a' := ?_) (lb_ 24 1) rfl rfl (any_of HT_.out (by kernel_rfl)) (fun _ _ _ h => h) (Or.inl ⟨by rfl, ?_⟩) ?_ ?_; rotate_left; intro w'; go_simp; with_reducible rfl; rotate_left; simp only [Act.put, List.setIfInBounds_toArray, List.set_cons_zero, List.set_cons_succ, i64_w, i32_w]; rfl
  refine pure_ (i := 1) (N := some 9) (v := ?_) (a' := ?_) (lb_ 24 3) rfl rfl (any_of HT_.out (by kernel_rfl)) (fun _ _ _ h => h) (Or.inl ⟨by rfl, ?_⟩) ?_ ?_; rotate_left; intro w'; go_simp; with_reducible rfl; rotate_left; simp only [Act.put, List.setIfInBounds_toArray, List.set_cons_zero, List.set_cons_succ, i64_w, i32_w]; rfl
  refine pure_ (i := 2) (N := some 10) (v := ?_) (a' := ?_) (lb_ 24 7) rfl rfl (any_of HT_.out (by kernel_rfl)) (fun _ _ _ h => h) (Or.inl ⟨by rfl, ?_⟩) ?_ ?_; rotate_left; intro w'; go_simp; with_reducible rfl; rotate_left; simp only [Act.put, List.setIfInBounds_toArray, List.set_cons_zero, List.set_cons_succ, i64_w, i32_w]; rfl
  refine pure_ (i := 3) (N := some 11) (v := ?_) (a' := ?_) (lb_ 24 15) rfl rfl (any_of HT_.out (by kernel_rfl)) (fun _ _ _ h => h) (Or.inl ⟨by rfl, ?_⟩) ?_ ?_; rotate_left; intro w'; go_simp; with_reducible rfl; rotate_left; simp only [Act.put, List.setIfInBounds_toArray, List.set_cons_zero, List.set_cons_succ, i64_w, i32_w]; rfl
  refine pure_ (i := 4) (N := some 12) (v := ?_) (a' := ?_) (lb_ 24 31) rfl rfl (any_of HT_.out (by kernel_rfl)) (fun _ _ _ h => h) (Or.inl ⟨by rfl, ?_⟩) ?_ ?_; rotate_left; intro w'; go_simp; with_reducible rfl; rotate_left; simp only [Act.put, List.setIfInBounds_toArray, List.set_cons_zero, List.set_cons_succ, i64_w, i32_w]; rfl
  refine take_ (i := 5) (N := some 13) (v := ?_) (a' := ?_) (lb_ 24 63) rfl rfl (take_ofW HT_.out HW_.out (by kernel_rfl)) (fun _ _ _ h => h) (Or.inl ⟨by rfl, ?_⟩) hHeld ?_ ?_; rotate_left; rintro w' ⟨s0, s1⟩; go_simp; with_reducible rfl; rotate_left; simp only [Act.put, List.setIfInBounds_toArray, List.set_cons_zero, List.set_cons_succ, i64_w, i32_w]; rfl
  refine pure_ (i := 6) (N := some 14) (v := ?_) (a' := ?_) (lb_ 24 127) rfl rfl (any_of HT_.out (by kernel_rfl)) (fun _ _ _ h => h) (Or.inl ⟨by rfl, ?_⟩) ?_ ?_; rotate_left; intro w'; go_simp; with_reducible rfl; rotate_left; simp only [Act.put, List.setIfInBounds_toArray, List.set_cons_zero, List.set_cons_succ, i64_w, i32_w]; rfl
  refine pure_ (i := 7) (N := some 15) (v := ?_) (a' := ?_) (lb_ 24 255) rfl rfl (any_of HT_.out (by kernel_rfl)) (fun _ _ _ h => h) (Or.inl ⟨by rfl, ?_⟩) ?_ ?_; rotate_left; intro w'; go_simp; with_reducible rfl; rotate_left; simp only [Act.put, List.setIfInBounds_toArray, List.set_cons_zero, List.set_cons_succ, i64_w, i32_w]; rfl
  refine pure_ (i := 8) (N := some 16) (v := ?_) (a' := ?_) (lb_ 24 511) rfl rfl (any_of HT_.out (by kernel_rfl)) (fun _ _ _ h => h) (Or.inl ⟨by rfl, ?_⟩) ?_ ?_; rotate_left; intro w'; go_simp; with_reducible rfl; rotate_left; simp only [Act.put, List.setIfInBounds_toArray, List.set_cons_zero, List.set_cons_succ, i64_w, i32_w]; rfl
  refine pure_ (i := 9) (N := some 17) (v := ?_) (a' := ?_) (lb_ 24 1023) rfl rfl (any_of HT_.out (by kernel_rfl)) (fun _ _ _ h => h) (Or.inl ⟨by rfl, ?_⟩) ?_ ?_; rotate_left; intro w'; go_simp; with_reducible rfl; rotate_left; simp only [Act.put, List.setIfInBounds_toArray, List.set_cons_zero, List.set_cons_succ, i64_w, i32_w]; rfl
  refine pure_ (i := 10) (N := some 18) (v := undef) (a' := ?_) (lb_ 24 2047) rfl rfl (any_of HT_.out (by kernel_rfl)) (fun _ _ _ h => h) (Or.inr ⟨by rfl, rfl⟩) ?_ ?_
  rotate_left
  ·simp only [Act.put, List.setIfInBounds_toArray, List.set_cons_zero, List.set_cons_succ, i64_w, i32_w]
   rfl
  refine pure_ (i := 11) (N := some 19) (v := undef) (a' := ?_) (lb_ 24 4095) rfl rfl (any_of HT_.out (by kernel_rfl)) (fun _ _ _ h => h) (Or.inr ⟨by rfl, rfl⟩) ?_ ?_
  rotate_left
  ·simp only [Act.put, List.setIfInBounds_toArray, List.set_cons_zero, List.set_cons_succ, i64_w, i32_w]
   rfl
  refine pure_ (i := 12) (N := some 20) (v := undef) (a' := ?_) (lb_ 24 8191) rfl rfl (any_of HT_.out (by kernel_rfl)) (fun _ _ _ h => h) (Or.inr ⟨by rfl, rfl⟩) ?_ ?_
  rotate_left
  ·simp only [Act.put, List.setIfInBounds_toArray, List.set_cons_zero, List.set_cons_succ, i64_w, i32_w]
   rfl
  refine pure_ (i := 13) (N := some 21) (v := undef) (a' := ?_) (lb_ 24 16383) rfl rfl (any_of HT_.out (by kernel_rfl)) (fun _ _ _ h => h) (Or.inr ⟨by rfl, rfl⟩) ?_ ?_
  rotate_left
  ·simp only [Act.put, List.setIfInBounds_toArray, List.set_cons_zero, List.set_cons_succ, i64_w, i32_w]
   rfl
  refine pure_ (i := 14) (N := some 22) (v := undef) (a' := ?_) (lb_ 24 32767) rfl rfl (any_of HT_.out (by kernel_rfl)) (fun _ _ _ h => h) (Or.inr ⟨by rfl, rfl⟩) ?_ ?_
  rotate_left
  ·simp only [Act.put, List.setIfInBounds_toArray, List.set_cons_zero, List.set_cons_succ, i64_w, i32_w]
   rfl
  refine pure_ (i := 15) (N := some 23) (v := undef) (a' := ?_) (lb_ 24 65535) rfl rfl (any_of HT_.out (by kernel_rfl)) (fun _ _ _ h => h) (Or.inr ⟨by rfl, rfl⟩) ?_ ?_
  rotate_left
  ·simp only [Act.put, List.setIfInBounds_toArray, List.set_cons_zero, List.set_cons_succ, i64_w, i32_w]
   rfl
  refine pure_ (i := 16) (N := some 24) (v := undef) (a' := ?_) (lb_ 24 131071) rfl rfl (any_of HT_.out (by kernel_rfl)) (fun _ _ _ h => h) (Or.inr ⟨by rfl, rfl⟩) ?_ ?_
  rotate_left
  ·simp only [Act.put, List.setIfInBounds_toArray, List.set_cons_zero, List.set_cons_succ, i64_w, i32_w]
   rfl
  refine pure_ (i := 17) (N := some 25) (v := undef) (a' := ?_) (lb_ 24 262143) rfl rfl (any_of HT_.out (by kernel_rfl)) (fun _ _ _ h => h) (Or.inr ⟨by rfl, rfl⟩) ?_ ?_
  rotate_left
  ·simp only [Act.put, List.setIfInBounds_toArray, List.set_cons_zero, List.set_cons_succ, i64_w, i32_w]
   rfl
  refine pure_ (i := 18) (N := some 26) (v := undef) (a' := ?_) (lb_ 24 524287) rfl rfl (any_of HT_.out (by kernel_rfl)) (fun _ _ _ h => h) (Or.inr ⟨by rfl, rfl⟩) ?_ ?_
  rotate_left
  ·simp only [Act.put, List.setIfInBounds_toArray, List.set_cons_zero, List.set_cons_succ, i64_w, i32_w]
   rfl
  refine pure_ (i := 19) (N := some 27) (v := undef) (a' := ?_) (lb_ 24 1048575) rfl rfl (any_of HT_.out (by kernel_rfl)) (fun _ _ _ h => h) (Or.inr ⟨by rfl, rfl⟩) ?_ ?_
  rotate_left
  ·simp only [Act.put, List.setIfInBounds_toArray, List.set_cons_zero, List.set_cons_succ, i64_w, i32_w]
   rfl
  refine pure_ (i := 20) (N := some 28) (v := undef) (a' := ?_) (lb_ 24 2097151) rfl rfl (any_of HT_.out (by kernel_rfl)) (fun _ _ _ h => h) (Or.inr ⟨by rfl, rfl⟩) ?_ ?_
  rotate_left
  ·simp only [Act.put, List.setIfInBounds_toArray, List.set_cons_zero, List.set_cons_succ, i64_w, i32_w]
   rfl
  refine pure_ (i := 21) (N := some 29) (v := undef) (a' := ?_) (lb_ 24 4194303) rfl rfl (any_of HT_.out (by kernel_rfl)) (fun _ _ _ h => h) (Or.inr ⟨by rfl, rfl⟩) ?_ ?_
  rotate_left
  ·simp only [Act.put, List.setIfInBounds_toArray, List.set_cons_zero, List.set_cons_succ, i64_w, i32_w]
   rfl
  refine pure_ (i := 22) (N := some 30) (v := undef) (a' := ?_) (lb_ 24 8388607) rfl rfl (any_of HT_.out (by kernel_rfl)) (fun _ _ _ h => h) (Or.inr ⟨by rfl, rfl⟩) ?_ ?_
  rotate_left
  ·simp only [Act.put, List.setIfInBounds_toArray, List.set_cons_zero, List.set_cons_succ, i64_w, i32_w]
   rfl
  refine pure_ (i := 23) (N := some 31) (v := ?_) (a' := ?_) (lb_ 24 16777215) rfl rfl (any_of HT_.out (by kernel_rfl)) (fun _ _ _ h => h) (Or.inl ⟨by rfl, ?_⟩) ?_ ?_; rotate_left; intro w'; go_simp; with_reducible rfl; rotate_left; simp only [Act.put, List.setIfInBounds_toArray, List.set_cons_zero, List.set_cons_succ, i64_w, i32_w]; rfl
  refine done_ (done_of HT_.out (by kernel_rfl)) ?_
  have hnb17 := NB257_255.out
  have hnc17 := NB255_257.out
  have hnb18 := NB257_256.out
  have hnc18 := NB256_257.out
  have hcz19_0 : w16.cell? ⟨gb257, 0, none⟩ = some (.int .i64 0) := (blk_cell BK257.out 0).trans rfl
  have hcz19_1 : w16.cell? ⟨gb257, 1, none⟩ = some (.int .i64 0) := (blk_cell BK257.out 1).trans rfl
  have hcz19_2 : w16.cell? ⟨gb257, 2, none⟩ = some (.int .i64 0) := (blk_cell BK257.out 2).trans rfl
  have hcz19_3 : w16.cell? ⟨gb257, 3, none⟩ = some (.int .i64 0) := (blk_cell BK257.out 3).trans rfl
  have hcz19_4 : w16.cell? ⟨gb257, 4, none⟩ = some (.int .i64 0) := (blk_cell BK257.out 4).trans rfl
  have hfz19_0 := blk_frozen BK257.out 0
  have hfz19_1 := blk_frozen BK257.out 1
  have hfz19_2 := blk_frozen BK257.out 2
  have hfz19_3 := blk_frozen BK257.out 3
  have hfz19_4 := blk_frozen BK257.out 4
  try go_wp2
  refine bodyPost_ret (results_ct rfl _ _ gb257 36 #[.int .i64 0, .int .i64 0, .int .i64 0, .int .i64 0, .int .i64 0] (0, 0) _ rfl (by exact bp5_ BK257.out) Try.underlying36 rfl (by kernel_rfl)) rfl ?_
  exact ⟨by first | rfl | (simp [errW_none, errW_some] <;> rfl) | (simp [*, errW_none, errW_some] <;> rfl), hb_ HB.out⟩
 rw [if_neg c12] at H
 have c12b0 : decide ((l1_1.length : Int) ≤ a2) = false := decide_eq_false c12
 clear c12
 by_cases c20 : 0 ≤ a2
 rotate_left
 ·rw [if_neg c20] at H
  exact absurd H (by simp)
 rw [if_pos c20] at H
 have c20b0 : decide (0 ≤ a2) = true := decide_eq_true c20
 clear c20
 by_cases c21 : a2 < (l1_1.length : Int)
 rotate_left
 ·rw [if_neg c21] at H
  exact absurd H (by simp)
 rw [if_pos c21] at H
 have c21b0 : decide (a2 < (l1_1.length : Int)) = true := decide_eq_true c21
 clear c21
 by_cases c22 : a2 < (l0_1.length : Int)
 rotate_left
 ·rw [if_neg c22] at H
  exact absurd H (by simp)
 rw [if_pos c22] at H
 have c22b0 : decide (a2 < (l0_1.length : Int)) = true := decide_eq_true c22
 clear c22
 by_cases c23 : ((rd_T49 l1_1 a2).f0) ≥ ((rd_L2 l0_1 a2).length : Int)
 ·rw [if_pos c23] at H
  have c23b0 : decide (((rd_L2 l0_1 a2).length : Int) ≤ ((rd_T49 l1_1 a2).f0)) = true := decide_eq_true c23
  clear c23
  simp only [Option.some.injEq, Prod.mk.injEq] at H
  obtain ⟨rfl, rfl, rfl, rfl, rfl, rfl⟩ := H
  go_enter Try.func24, Try.ntmps24
  try go_wp2_with (first | ((with_reducible refine gate_dst (N := 3) rfl ?_); (try (refine gate_guard (by rfl) ?_; dsimp only)); refine box_event ?hg (N := 3) ?hd (cs := #[.slice A0_0 l0_0.length c0_0, .slice A0_1 l0_1.length c0_1]) (t := 25) ?hr ?_; (case hd => rfl); (case hg => rfl); (case hr => first | (go_simp; done) | (go_simp; rfl)); intro gb255 hg w24 hbox hb; have n0_ := Aside0.mk (below_step (hb_ HB.out) hb); have n1_ := Aside0.mk (hbox); have n2_ := Aside0.mk (gs_ hg (hb_ HB.out)); have n3_ := Aside0.mk (gs_ hg (hb_ HB.out)); clear HB; have HB := n0_; have BK255 := n1_; have GW255 := n2_; have GE255 := n3_; clear n0_ n1_ n2_ n3_; clear hb hbox hg) | ((with_reducible refine gate_dst (N := 4) rfl ?_); (try (refine gate_guard (by rfl) ?_; dsimp only)); refine box_event ?hg (N := 4) ?hd (cs := #[.slice A1_0 l1_0.length c1_0, .slice A1_1 l1_1.length c1_1]) (t := 41) ?hr ?_; (case hd => rfl); (case hg => rfl); (case hr => first | (go_simp; done) | (go_simp; rfl)); intro gb256 hg w25 hbox hb; have n0_ := Aside0.mk (bb_ BK255.out hb); have n1_ := Aside0.mk (below_step (hb_ HB.out) hb); have n2_ := Aside0.mk (hbox); have n3_ := Aside0.mk (gs_ hg (hb_ HB.out)); have n4_ := Aside0.mk (gs_ hg (hb_ HB.out)); have n5_ := Aside0.mk (gn_ hg BK255.out); have n6_ := Aside0.mk (gn_ hg BK255.out).symm; clear BK255; clear HB; have BK255 := n0_; have HB := n1_; have BK256 := n2_; have GW256 := n3_; have GE256 := n4_; have NB255_256 := n5_; have NB256_255 := n6_; clear n0_ n1_ n2_ n3_ n4_ n5_ n6_; clear hb hbox hg) | ((with_reducible refine gate_dst (N := 6) rfl ?_); (try (refine gate_guard (by rfl) ?_; dsimp only)); refine box_event ?hg (N := 6) ?hd (cs := #[.int .i64 0, .int .i64 0, .int .i64 0, .int .i64 0, .int .i64 0]) (t := 36) ?hr ?_; (case hd => rfl); (case hg => rfl); (case hr => first | (go_simp; done) | (go_simp; rfl)); intro gb257 hg w26 hbox hb; have n0_ := Aside0.mk (bb_ BK255.out hb); have n1_ := Aside0.mk (bb_ BK256.out hb); have n2_ := Aside0.mk (below_step (hb_ HB.out) hb); have n3_ := Aside0.mk (hbox); have n4_ := Aside0.mk (gs_ hg (hb_ HB.out)); have n5_ := Aside0.mk (gs_ hg (hb_ HB.out)); have n6_ := Aside0.mk (gn_ hg BK255.out); have n7_ := Aside0.mk (gn_ hg BK255.out).symm; have n8_ := Aside0.mk (gn_ hg BK256.out); have n9_ := Aside0.mk (gn_ hg BK256.out).symm; clear BK255; clear BK256; clear HB; have BK255 := n0_; have BK256 := n1_; have HB := n2_; have BK257 := n3_; have GW257 := n4_; have GE257 := n5_; have NB255_257 := n6_; have NB257_255 := n7_; have NB256_257 := n8_; have NB257_256 := n9_; clear n0_ n1_ n2_ n3_ n4_ n5_ n6_ n7_ n8_ n9_; clear hb hbox hg))
  have n0_ := Aside0.mk (blk_drew BK255.out)
  have n1_ := Aside0.mk (blk_drew BK256.out)
  have n2_ := Aside0.mk (blk_drew BK257.out)
  have n3_ := Aside0.mk (below_drew1 HB.out)
  clear BK255
  clear BK256
  clear BK257
  clear HB
  have BK255 := n0_
  have BK256 := n1_
  have BK257 := n2_
  have HB := n3_
  clear n0_ n1_ n2_ n3_
  have p258 : 0 ≤ (a2 : Int) := of_decide_eq_true as_
  have q258 : a2 < (l1_1.length : Int) := of_decide_eq_true as_
  obtain ⟨ad258, A258_1, c258_1, A258_3, c258_3, e258, hx258_0, hx258_1, hx258_2, hx258_3, hl258_1, hi258_1, hl258_3, hi258_3⟩ := at_T49 HR1_1.out a2 p258 q258
  have hw258_3 := hx258_3
  have hw258_2 := hx258_2
  have hw258_1 := hx258_1
  have hw258_0 := hx258_0
  cases e258
  replace hx258_0 := cl_ HB.out hx258_0
  replace hx258_1 := cl_ HB.out hx258_1
  replace hx258_2 := cl_ HB.out hx258_2
  replace hx258_3 := cl_ HB.out hx258_3
  have HR258_1 := Aside0.mk hi258_1
  have HC258_1 := Aside0.mk hl258_1
  clear hi258_1 hl258_1
  have HR258_3 := Aside0.mk hi258_3
  have HC258_3 := Aside0.mk hl258_3
  clear hi258_3 hl258_3
  replace p258 := eq_true p258
  replace q258 := eq_true q258
  have p259 : 0 ≤ (a2 : Int) := of_decide_eq_true as_
  have q259 : a2 < (l0_1.length : Int) := of_decide_eq_true as_
  obtain ⟨ad259, A259_0, c259_0, e259, hx259_0, hl259_0, hi259_0⟩ := at_L2 HR0_1.out a2 p259 q259
  have hw259_0 := hx259_0
  cases e259
  replace hx259_0 := cl_ HB.out hx259_0
  have HR259_0 := Aside0.mk hi259_0
  have HC259_0 := Aside0.mk hl259_0
  clear hi259_0 hl259_0
  replace p259 := eq_true p259
  replace q259 := eq_true q259
  refine start_ (n := 24) (S := fun w' => w'.cell? ⟨gb256, 0, none⟩ = some (.slice A1_0 l1_0.length c1_0) ∧ w'.cell? ⟨gb256, 1, none⟩ = some (.slice (some ad258) l1_1.length c1_1) ∧ w'.cell? ⟨gb255, 0, none⟩ = some (.slice A0_0 l0_0.length c0_0) ∧ w'.cell? ⟨gb255, 1, none⟩ = some (.slice (some ad259) l0_1.length c0_1) ∧ w'.cell? (ad258.add ((a2).toNat * 4)) = some (.int .i64 ((rd_T49 l1_1 a2).f0)) ∧ w'.cell? ⟨(ad258.add ((a2).toNat * 4)).block, (ad258.add ((a2).toNat * 4)).off + 1, none⟩ = some (.slice A258_1 ((rd_T49 l1_1 a2).f1).length c258_1) ∧ w'.cell? ⟨(ad258.add ((a2).toNat * 4)).block, (ad258.add ((a2).toNat * 4)).off + 2, none⟩ = some (.bool ((rd_T49 l1_1 a2).f2)) ∧ w'.cell? ⟨(ad258.add ((a2).toNat * 4)).block, (ad258.add ((a2).toNat * 4)).off + 3, none⟩ = some (.slice A258_3 ((rd_T49 l1_1 a2).f3).length c258_3) ∧ w'.cell? (ad259.add (a2).toNat) = some (.slice A259_0 (rd_L2 l0_1 a2).length c259_0)) (ds := []) (lb_ 24 0) (by kernel_rfl) rfl rfl ⟨(blk_cell BK256.out 0).trans rfl, (blk_cell BK256.out 1).trans rfl, (blk_cell BK255.out 0).trans rfl, (blk_cell BK255.out 1).trans rfl, ((HB.out.cell (World.block_lt_of_cell? w _ hw258_0)).trans hw258_0), ((HB.out.cell (World.block_lt_of_cell? w _ hw258_1)).trans hw258_1), ((HB.out.cell (World.block_lt_of_cell? w _ hw258_2)).trans hw258_2), ((HB.out.cell (World.block_lt_of_cell? w _ hw258_3)).trans hw258_3), ((HB.out.cell (World.block_lt_of_cell? w _ hw259_0)).trans hw259_0)⟩ (fun hHeld => ?_); refine with_tabW fencepostref10_At.tab1 fencepostref10_At.bits1 (fun HT_ HW_ => ?_)
  generalize w26.drew = w27 at BK255 BK256 BK257 HB HR258_1 HR258_3 HR259_0 hx258_0 hx258_1 hx258_2 hx258_3 hx259_0 hHeld ⊢
  refine pure_ (i := 0) (N := some 8) (v := ?_) (a' := ?_) (lb_ 24 1) rfl rfl (any_of HT_.out (by kernel_rfl)) (fun _ _ _ h => h) (Or.inl ⟨by rfl, ?_⟩) ?_ ?_; rotate_left; intro w'; go_simp; with_reducible rfl; rotate_left; simp only [Act.put, List.setIfInBounds_toArray, List.set_cons_zero, List.set_cons_succ, i64_w, i32_w]; rfl
  refine pure_ (i := 1) (N := some 9) (v := ?_) (a' := ?_) (lb_ 24 3) rfl rfl (any_of HT_.out (by kernel_rfl)) (fun _ _ _ h => h) (Or.inl ⟨by rfl, ?_⟩) ?_ ?_; rotate_left; intro w'; go_simp; with_reducible rfl; rotate_left; simp only [Act.put, List.setIfInBounds_toArray, List.set_cons_zero, List.set_cons_succ, i64_w, i32_w]; rfl
  refine pure_ (i := 2) (N := some 10) (v := ?_) (a' := ?_) (lb_ 24 7) rfl rfl (any_of HT_.out (by kernel_rfl)) (fun _ _ _ h => h) (Or.inl ⟨by rfl, ?_⟩) ?_ ?_; rotate_left; intro w'; go_simp; with_reducible rfl; rotate_left; simp only [Act.put, List.setIfInBounds_toArray, List.set_cons_zero, List.set_cons_succ, i64_w, i32_w]; rfl
  refine pure_ (i := 3) (N := some 11) (v := ?_) (a' := ?_) (lb_ 24 15) rfl rfl (any_of HT_.out (by kernel_rfl)) (fun _ _ _ h => h) (Or.inl ⟨by rfl, ?_⟩) ?_ ?_; rotate_left; intro w'; go_simp; with_reducible rfl; rotate_left; simp only [Act.put, List.setIfInBounds_toArray, List.set_cons_zero, List.set_cons_succ, i64_w, i32_w]; rfl
  refine pure_ (i := 4) (N := some 12) (v := ?_) (a' := ?_) (lb_ 24 31) rfl rfl (any_of HT_.out (by kernel_rfl)) (fun _ _ _ h => h) (Or.inl ⟨by rfl, ?_⟩) ?_ ?_; rotate_left; intro w'; go_simp; with_reducible rfl; rotate_left; simp only [Act.put, List.setIfInBounds_toArray, List.set_cons_zero, List.set_cons_succ, i64_w, i32_w]; rfl
  refine take_ (i := 5) (N := some 13) (v := ?_) (a' := ?_) (lb_ 24 63) rfl rfl (take_ofW HT_.out HW_.out (by kernel_rfl)) (fun _ _ _ h => h) (Or.inl ⟨by rfl, ?_⟩) hHeld ?_ ?_; rotate_left; rintro w' ⟨s0, s1, s2, s3, s4, s5, s6, s7, s8⟩; go_simp; with_reducible rfl; rotate_left; simp only [Act.put, List.setIfInBounds_toArray, List.set_cons_zero, List.set_cons_succ, i64_w, i32_w]; rfl
  refine pure_ (i := 6) (N := some 14) (v := ?_) (a' := ?_) (lb_ 24 127) rfl rfl (any_of HT_.out (by kernel_rfl)) (fun _ _ _ h => h) (Or.inl ⟨by rfl, ?_⟩) ?_ ?_; rotate_left; intro w'; go_simp; with_reducible rfl; rotate_left; simp only [Act.put, List.setIfInBounds_toArray, List.set_cons_zero, List.set_cons_succ, i64_w, i32_w]; rfl
  refine pure_ (i := 7) (N := some 15) (v := ?_) (a' := ?_) (lb_ 24 255) rfl rfl (any_of HT_.out (by kernel_rfl)) (fun _ _ _ h => h) (Or.inl ⟨by rfl, ?_⟩) ?_ ?_; rotate_left; intro w'; go_simp; with_reducible rfl; rotate_left; simp only [Act.put, List.setIfInBounds_toArray, List.set_cons_zero, List.set_cons_succ, i64_w, i32_w]; rfl
  refine pure_ (i := 8) (N := some 16) (v := ?_) (a' := ?_) (lb_ 24 511) rfl rfl (any_of HT_.out (by kernel_rfl)) (fun _ _ _ h => h) (Or.inl ⟨by rfl, ?_⟩) ?_ ?_; rotate_left; intro w'; go_simp; with_reducible rfl; rotate_left; simp only [Act.put, List.setIfInBounds_toArray, List.set_cons_zero, List.set_cons_succ, i64_w, i32_w]; rfl
  refine pure_ (i := 9) (N := some 17) (v := ?_) (a' := ?_) (lb_ 24 1023) rfl rfl (any_of HT_.out (by kernel_rfl)) (fun _ _ _ h => h) (Or.inl ⟨by rfl, ?_⟩) ?_ ?_; rotate_left; intro w'; go_simp; with_reducible rfl; rotate_left; simp only [Act.put, List.setIfInBounds_toArray, List.set_cons_zero, List.set_cons_succ, i64_w, i32_w]; rfl
  refine pure_ (i := 10) (N := some 18) (v := ?_) (a' := ?_) (lb_ 24 2047) rfl rfl (any_of HT_.out (by kernel_rfl)) (fun _ _ _ h => h) (Or.inl ⟨by rfl, ?_⟩) ?_ ?_; rotate_left; intro w'; go_simp; with_reducible rfl; rotate_left; simp only [Act.put, List.setIfInBounds_toArray, List.set_cons_zero, List.set_cons_succ, i64_w, i32_w]; rfl
  refine pure_ (i := 12) (N := some 20) (v := ?_) (a' := ?_) (lb_ 24 6143) rfl rfl (any_of HT_.out (by kernel_rfl)) (fun _ _ _ h => h) (Or.inl ⟨by rfl, ?_⟩) ?_ ?_; rotate_left; intro w'; go_simp; with_reducible rfl; rotate_left; simp only [Act.put, List.setIfInBounds_toArray, List.set_cons_zero, List.set_cons_succ, i64_w, i32_w]; rfl
  refine pure_ (i := 16) (N := some 24) (v := ?_) (a' := ?_) (lb_ 24 71679) rfl rfl (any_of HT_.out (by kernel_rfl)) (fun _ _ _ h => h) (Or.inl ⟨by rfl, ?_⟩) ?_ ?_; rotate_left; intro w'; go_simp; with_reducible rfl; rotate_left; simp only [Act.put, List.setIfInBounds_toArray, List.set_cons_zero, List.set_cons_succ, i64_w, i32_w]; rfl
  refine pure_ (i := 18) (N := some 26) (v := ?_) (a' := ?_) (lb_ 24 333823) rfl rfl (any_of HT_.out (by kernel_rfl)) (fun _ _ _ h => h) (Or.inl ⟨by rfl, ?_⟩) ?_ ?_; rotate_left; intro w'; go_simp; with_reducible rfl; rotate_left; simp only [Act.put, List.setIfInBounds_toArray, List.set_cons_zero, List.set_cons_succ, i64_w, i32_w]; rfl
  refine take_ (i := 11) (N := some 19) (v := ?_) (a' := ?_) (lb_ 24 335871) rfl rfl (take_ofW HT_.out HW_.out (by kernel_rfl)) (fun _ _ _ h => h) (Or.inl ⟨by rfl, ?_⟩) hHeld ?_ ?_; rotate_left; rintro w' ⟨s0, s1, s2, s3, s4, s5, s6, s7, s8⟩; go_simp; with_reducible rfl; rotate_left; simp only [Act.put, List.setIfInBounds_toArray, List.set_cons_zero, List.set_cons_succ, i64_w, i32_w]; rfl
  refine pure_ (i := 13) (N := some 21) (v := ?_) (a' := ?_) (lb_ 24 344063) rfl rfl (any_of HT_.out (by kernel_rfl)) (fun _ _ _ h => h) (Or.inl ⟨by rfl, ?_⟩) ?_ ?_; rotate_left; intro w'; go_simp; with_reducible rfl; rotate_left; simp only [Act.put, List.setIfInBounds_toArray, List.set_cons_zero, List.set_cons_succ, i64_w, i32_w]; rfl
  refine pure_ (i := 14) (N := some 22) (v := ?_) (a' := ?_) (lb_ 24 360447) rfl rfl (any_of HT_.out (by kernel_rfl)) (fun _ _ _ h => h) (Or.inl ⟨by rfl, ?_⟩) ?_ ?_; rotate_left; intro w'; go_simp; with_reducible rfl; rotate_left; simp only [Act.put, List.setIfInBounds_toArray, List.set_cons_zero, List.set_cons_succ, i64_w, i32_w]; rfl
  refine take_ (i := 15) (N := some 23) (v := ?_) (a' := ?_) (lb_ 24 393215) rfl rfl (take_ofW HT_.out HW_.out (by kernel_rfl)) (fun _ _ _ h => h) (Or.inl ⟨by rfl, ?_⟩) hHeld ?_ ?_; rotate_left; rintro w' ⟨s0, s1, s2, s3, s4, s5, s6, s7, s8⟩; go_simp; with_reducible rfl; rotate_left; simp only [Act.put, List.setIfInBounds_toArray, List.set_cons_zero, List.set_cons_succ, i64_w, i32_w]; rfl
  refine take_ (i := 17) (N := some 25) (v := ?_) (a' := ?_) (lb_ 24 524287) rfl rfl (take_ofW HT_.out HW_.out (by kernel_rfl)) (fun _ _ _ h => h) (Or.inl ⟨by rfl, ?_⟩) hHeld ?_ ?_; rotate_left; rintro w' ⟨s0, s1, s2, s3, s4, s5, s6, s7, s8⟩; go_simp; with_reducible rfl; rotate_left; simp only [Act.put, List.setIfInBounds_toArray, List.set_cons_zero, List.set_cons_succ, i64_w, i32_w]; rfl
  refine pure_ (i := 19) (N := some 27) (v := ?_) (a' := ?_) (lb_ 24 1048575) rfl rfl (any_of HT_.out (by kernel_rfl)) (fun _ _ _ h => h) (Or.inl ⟨by rfl, ?_⟩) ?_ ?_; rotate_left; intro w'; go_simp; with_reducible rfl; rotate_left; simp only [Act.put, List.setIfInBounds_toArray, List.set_cons_zero, List.set_cons_succ, i64_w, i32_w]; rfl
  refine take_ (i := 20) (N := some 28) (v := ?_) (a' := ?_) (lb_ 24 2097151) rfl rfl (take_ofW HT_.out HW_.out (by kernel_rfl)) (fun _ _ _ h => h) (Or.inl ⟨by rfl, ?_⟩) hHeld ?_ ?_; rotate_left; rintro w' ⟨s0, s1, s2, s3, s4, s5, s6, s7, s8⟩; go_simp; with_reducible rfl; rotate_left; simp only [Act.put, List.setIfInBounds_toArray, List.set_cons_zero, List.set_cons_succ, i64_w, i32_w]; rfl
  refine pure_ (i := 21) (N := some 29) (v := ?_) (a' := ?_) (lb_ 24 4194303) rfl rfl (any_of HT_.out (by kernel_rfl)) (fun _ _ _ h => h) (Or.inl ⟨by rfl, ?_⟩) ?_ ?_; rotate_left; intro w'; go_simp; with_reducible rfl; rotate_left; simp only [Act.put, List.setIfInBounds_toArray, List.set_cons_zero, List.set_cons_succ, i64_w, i32_w]; rfl
  refine pure_ (i := 22) (N := some 30) (v := ?_) (a' := ?_) (lb_ 24 8388607) rfl rfl (any_of HT_.out (by kernel_rfl)) (fun _ _ _ h => h) (Or.inl ⟨by rfl, ?_⟩) ?_ ?_; rotate_left; intro w'; go_simp; with_reducible rfl; rotate_left; simp only [Act.put, List.setIfInBounds_toArray, List.set_cons_zero, List.set_cons_succ, i64_w, i32_w]; rfl
  refine pure_ (i := 23) (N := some 31) (v := ?_) (a' := ?_) (lb_ 24 16777215) rfl rfl (any_of HT_.out (by kernel_rfl)) (fun _ _ _ h => h) (Or.inl ⟨by rfl, ?_⟩) ?_ ?_; rotate_left; intro w'; go_simp; with_reducible rfl; rotate_left; simp only [Act.put, List.setIfInBounds_toArray, List.set_cons_zero, List.set_cons_succ, i64_w, i32_w]; rfl
  refine done_ (done_of HT_.out (by kernel_rfl)) ?_
  have hnb28 := NB257_255.out
  have hnc28 := NB255_257.out
  have hnb29 := NB257_256.out
  have hnc29 := NB256_257.out
  have hcz30_0 : w27.cell? ⟨gb257, 0, none⟩ = some (.int .i64 0) := (blk_cell BK257.out 0).trans rfl
  have hcz30_1 : w27.cell? ⟨gb257, 1, none⟩ = some (.int .i64 0) := (blk_cell BK257.out 1).trans rfl
  have hcz30_2 : w27.cell? ⟨gb257, 2, none⟩ = some (.int .i64 0) := (blk_cell BK257.out 2).trans rfl
  have hcz30_3 : w27.cell? ⟨gb257, 3, none⟩ = some (.int .i64 0) := (blk_cell BK257.out 3).trans rfl
  have hcz30_4 : w27.cell? ⟨gb257, 4, none⟩ = some (.int .i64 0) := (blk_cell BK257.out 4).trans rfl
  have hfz30_0 := blk_frozen BK257.out 0
  have hfz30_1 := blk_frozen BK257.out 1
  have hfz30_2 := blk_frozen BK257.out 2
  have hfz30_3 := blk_frozen BK257.out 3
  have hfz30_4 := blk_frozen BK257.out 4
  try go_wp2
  refine bodyPost_ret (results_ct rfl _ _ gb257 36 #[.int .i64 0, .int .i64 0, .int .i64 0, .int .i64 0, .int .i64 0] (0, 0) _ rfl (by exact bp5_ BK257.out) Try.underlying36 rfl (by kernel_rfl)) rfl ?_
  exact ⟨by first | rfl | (simp [errW_none, errW_some] <;> rfl) | (simp [*, errW_none, errW_some] <;> rfl), hb_ HB.out⟩
 rw [if_neg c23] at H
 have c23b0 : decide (((rd_L2 l0_1 a2).length : Int) ≤ ((rd_T49 l1_1 a2).f0)) = false := decide_eq_false c23
 clear c23
 by_cases c31 : 0 ≤ ((rd_T49 l1_1 a2).f0)
 rotate_left
 ·rw [if_neg c31] at H
  exact absurd H (by simp)
 rw [if_pos c31] at H
 have c31b0 : decide (0 ≤ ((rd_T49 l1_1 a2).f0)) = true := decide_eq_true c31
 clear c31
 by_cases c32 : ((rd_T49 l1_1 a2).f0) < ((rd_L2 l0_1 a2).length : Int)
 rotate_left
 ·rw [if_neg c32] at H
  exact absurd H (by simp)
 rw [if_pos c32] at H
 have c32b0 : decide (((rd_T49 l1_1 a2).f0) < ((rd_L2 l0_1 a2).length : Int)) = true := decide_eq_true c32
 clear c32
 simp only [Option.some.injEq, Prod.mk.injEq] at H
 obtain ⟨rfl, rfl, rfl, rfl, rfl, rfl⟩ := H
 go_enter Try.func24, Try.ntmps24
 try go_wp2_with (first | ((with_reducible refine gate_dst (N := 3) rfl ?_); (try (refine gate_guard (by rfl) ?_; dsimp only)); refine box_event ?hg (N := 3) ?hd (cs := #[.slice A0_0 l0_0.length c0_0, .slice A0_1 l0_1.length c0_1]) (t := 25) ?hr ?_; (case hd => rfl); (case hg => rfl); (case hr => first | (go_simp; done) | (go_simp; rfl)); intro gb255 hg w33 hbox hb; have n0_ := Aside0.mk (below_step (hb_ HB.out) hb); have n1_ := Aside0.mk (hbox); have n2_ := Aside0.mk (gs_ hg (hb_ HB.out)); have n3_ := Aside0.mk (gs_ hg (hb_ HB.out)); clear HB; have HB := n0_; have BK255 := n1_; have GW255 := n2_; have GE255 := n3_; clear n0_ n1_ n2_ n3_; clear hb hbox hg) | ((with_reducible refine gate_dst (N := 4) rfl ?_); (try (refine gate_guard (by rfl) ?_; dsimp only)); refine box_event ?hg (N := 4) ?hd (cs := #[.slice A1_0 l1_0.length c1_0, .slice A1_1 l1_1.length c1_1]) (t := 41) ?hr ?_; (case hd => rfl); (case hg => rfl); (case hr => first | (go_simp; done) | (go_simp; rfl)); intro gb256 hg w34 hbox hb; have n0_ := Aside0.mk (bb_ BK255.out hb); have n1_ := Aside0.mk (below_step (hb_ HB.out) hb); have n2_ := Aside0.mk (hbox); have n3_ := Aside0.mk (gs_ hg (hb_ HB.out)); have n4_ := Aside0.mk (gs_ hg (hb_ HB.out)); have n5_ := Aside0.mk (gn_ hg BK255.out); have n6_ := Aside0.mk (gn_ hg BK255.out).symm; clear BK255; clear HB; have BK255 := n0_; have HB := n1_; have BK256 := n2_; have GW256 := n3_; have GE256 := n4_; have NB255_256 := n5_; have NB256_255 := n6_; clear n0_ n1_ n2_ n3_ n4_ n5_ n6_; clear hb hbox hg) | ((with_reducible refine gate_dst (N := 6) rfl ?_); (try (refine gate_guard (by rfl) ?_; dsimp only)); refine box_event ?hg (N := 6) ?hd (cs := #[.int .i64 0, .int .i64 0, .int .i64 0, .int .i64 0, .int .i64 0]) (t := 36) ?hr ?_; (case hd => rfl); (case hg => rfl); (case hr => first | (go_simp; done) | (go_simp; rfl)); intro gb257 hg w35 hbox hb; have n0_ := Aside0.mk (bb_ BK255.out hb); have n1_ := Aside0.mk (bb_ BK256.out hb); have n2_ := Aside0.mk (below_step (hb_ HB.out) hb); have n3_ := Aside0.mk (hbox); have n4_ := Aside0.mk (gs_ hg (hb_ HB.out)); have n5_ := Aside0.mk (gs_ hg (hb_ HB.out)); have n6_ := Aside0.mk (gn_ hg BK255.out); have n7_ := Aside0.mk (gn_ hg BK255.out).symm; have n8_ := Aside0.mk (gn_ hg BK256.out); have n9_ := Aside0.mk (gn_ hg BK256.out).symm; clear BK255; clear BK256; clear HB; have BK255 := n0_; have BK256 := n1_; have HB := n2_; have BK257 := n3_; have GW257 := n4_; have GE257 := n5_; have NB255_257 := n6_; have NB257_255 := n7_; have NB256_257 := n8_; have NB257_256 := n9_; clear n0_ n1_ n2_ n3_ n4_ n5_ n6_ n7_ n8_ n9_; clear hb hbox hg))
 have n0_ := Aside0.mk (blk_drew BK255.out)
 have n1_ := Aside0.mk (blk_drew BK256.out)
 have n2_ := Aside0.mk (blk_drew BK257.out)
 have n3_ := Aside0.mk (below_drew1 HB.out)
 clear BK255
 clear BK256
 clear BK257
 clear HB
 have BK255 := n0_
 have BK256 := n1_
 have BK257 := n2_
 have HB := n3_
 clear n0_ n1_ n2_ n3_
 have p258 : 0 ≤ (a2 : Int) := of_decide_eq_true as_
 have q258 : a2 < (l1_1.length : Int) := of_decide_eq_true as_
 obtain ⟨ad258, A258_1, c258_1, A258_3, c258_3, e258, hx258_0, hx258_1, hx258_2, hx258_3, hl258_1, hi258_1, hl258_3, hi258_3⟩ := at_T49 HR1_1.out a2 p258 q258
 have hw258_3 := hx258_3
 have hw258_2 := hx258_2
 have hw258_1 := hx258_1
 have hw258_0 := hx258_0
 cases e258
 replace hx258_0 := cl_ HB.out hx258_0
 replace hx258_1 := cl_ HB.out hx258_1
 replace hx258_2 := cl_ HB.out hx258_2
 replace hx258_3 := cl_ HB.out hx258_3
 have HR258_1 := Aside0.mk hi258_1
 have HC258_1 := Aside0.mk hl258_1
 clear hi258_1 hl258_1
 have HR258_3 := Aside0.mk hi258_3
 have HC258_3 := Aside0.mk hl258_3
 clear hi258_3 hl258_3
 replace p258 := eq_true p258
 replace q258 := eq_true q258
 have p259 : 0 ≤ (a2 : Int) := of_decide_eq_true as_
 have q259 : a2 < (l0_1.length : Int) := of_decide_eq_true as_
 obtain ⟨ad259, A259_0, c259_0, e259, hx259_0, hl259_0, hi259_0⟩ := at_L2 HR0_1.out a2 p259 q259
 have hw259_0 := hx259_0
 cases e259
 replace hx259_0 := cl_ HB.out hx259_0
 have HR259_0 := Aside0.mk hi259_0
 have HC259_0 := Aside0.mk hl259_0
 clear hi259_0 hl259_0
 replace p259 := eq_true p259
 replace q259 := eq_true q259
 refine start_ (n := 24) (S := fun w' => w'.cell? ⟨gb256, 0, none⟩ = some (.slice A1_0 l1_0.length c1_0) ∧ w'.cell? ⟨gb256, 1, none⟩ = some (.slice (some ad258) l1_1.length c1_1) ∧ w'.cell? ⟨gb255, 0, none⟩ = some (.slice A0_0 l0_0.length c0_0) ∧ w'.cell? ⟨gb255, 1, none⟩ = some (.slice (some ad259) l0_1.length c0_1) ∧ w'.cell? (ad258.add ((a2).toNat * 4)) = some (.int .i64 ((rd_T49 l1_1 a2).f0)) ∧ w'.cell? ⟨(ad258.add ((a2).toNat * 4)).block, (ad258.add ((a2).toNat * 4)).off + 1, none⟩ = some (.slice A258_1 ((rd_T49 l1_1 a2).f1).length c258_1) ∧ w'.cell? ⟨(ad258.add ((a2).toNat * 4)).block, (ad258.add ((a2).toNat * 4)).off + 2, none⟩ = some (.bool ((rd_T49 l1_1 a2).f2)) ∧ w'.cell? ⟨(ad258.add ((a2).toNat * 4)).block, (ad258.add ((a2).toNat * 4)).off + 3, none⟩ = some (.slice A258_3 ((rd_T49 l1_1 a2).f3).length c258_3) ∧ w'.cell? (ad259.add (a2).toNat) = some (.slice A259_0 (rd_L2 l0_1 a2).length c259_0)) (ds := []) (lb_ 24 0) (by kernel_rfl) rfl rfl ⟨(blk_cell BK256.out 0).trans rfl, (blk_cell BK256.out 1).trans rfl, (blk_cell BK255.out 0).trans rfl, (blk_cell BK255.out 1).trans rfl, ((HB.out.cell (World.block_lt_of_cell? w _ hw258_0)).trans hw258_0), ((HB.out.cell (World.block_lt_of_cell? w _ hw258_1)).trans hw258_1), ((HB.out.cell (World.block_lt_of_cell? w _ hw258_2)).trans hw258_2), ((HB.out.cell (World.block_lt_of_cell? w _ hw258_3)).trans hw258_3), ((HB.out.cell (World.block_lt_of_cell? w _ hw259_0)).trans hw259_0)⟩ (fun hHeld => ?_); refine with_tabW fencepostref10_At.tab1 fencepostref10_At.bits1 (fun HT_ HW_ => ?_)
 generalize w35.drew = w36 at BK255 BK256 BK257 HB HR258_1 HR258_3 HR259_0 hx258_0 hx258_1 hx258_2 hx258_3 hx259_0 hHeld ⊢
 refine pure_ (i := 0) (N := some 8) (v := ?_) (a' := ?_) (lb_ 24 1) rfl rfl (any_of HT_.out (by kernel_rfl)) (fun _ _ _ h => h) (Or.inl ⟨by rfl, ?_⟩) ?_ ?_; rotate_left; intro w'; go_simp; with_reducible rfl; rotate_left; simp only [Act.put, List.setIfInBounds_toArray, List.set_cons_zero, List.set_cons_succ, i64_w, i32_w]; rfl
 refine pure_ (i := 1) (N := some 9) (v := ?_) (a' := ?_) (lb_ 24 3) rfl rfl (any_of HT_.out (by kernel_rfl)) (fun _ _ _ h => h) (Or.inl ⟨by rfl, ?_⟩) ?_ ?_; rotate_left; intro w'; go_simp; with_reducible rfl; rotate_left; simp only [Act.put, List.setIfInBounds_toArray, List.set_cons_zero, List.set_cons_succ, i64_w, i32_w]; rfl
 refine pure_ (i := 2) (N := some 10) (v := ?_) (a' := ?_) (lb_ 24 7) rfl rfl (any_of HT_.out (by kernel_rfl)) (fun _ _ _ h => h) (Or.inl ⟨by rfl, ?_⟩) ?_ ?_; rotate_left; intro w'; go_simp; with_reducible rfl; rotate_left; simp only [Act.put, List.setIfInBounds_toArray, List.set_cons_zero, List.set_cons_succ, i64_w, i32_w]; rfl
 refine pure_ (i := 3) (N := some 11) (v := ?_) (a' := ?_) (lb_ 24 15) rfl rfl (any_of HT_.out (by kernel_rfl)) (fun _ _ _ h => h) (Or.inl ⟨by rfl, ?_⟩) ?_ ?_; rotate_left; intro w'; go_simp; with_reducible rfl; rotate_left; simp only [Act.put, List.setIfInBounds_toArray, List.set_cons_zero, List.set_cons_succ, i64_w, i32_w]; rfl
 refine pure_ (i := 4) (N := some 12) (v := ?_) (a' := ?_) (lb_ 24 31) rfl rfl (any_of HT_.out (by kernel_rfl)) (fun _ _ _ h => h) (Or.inl ⟨by rfl, ?_⟩) ?_ ?_; rotate_left; intro w'; go_simp; with_reducible rfl; rotate_left; simp only [Act.put, List.setIfInBounds_toArray, List.set_cons_zero, List.set_cons_succ, i64_w, i32_w]; rfl
 refine take_ (i := 5) (N := some 13) (v := ?_) (a' := ?_) (lb_ 24 63) rfl rfl (take_ofW HT_.out HW_.out (by kernel_rfl)) (fun _ _ _ h => h) (Or.inl ⟨by rfl, ?_⟩) hHeld ?_ ?_; rotate_left; rintro w' ⟨s0, s1, s2, s3, s4, s5, s6, s7, s8⟩; go_simp; with_reducible rfl; rotate_left; simp only [Act.put, List.setIfInBounds_toArray, List.set_cons_zero, List.set_cons_succ, i64_w, i32_w]; rfl
 refine pure_ (i := 6) (N := some 14) (v := ?_) (a' := ?_) (lb_ 24 127) rfl rfl (any_of HT_.out (by kernel_rfl)) (fun _ _ _ h => h) (Or.inl ⟨by rfl, ?_⟩) ?_ ?_; rotate_left; intro w'; go_simp; with_reducible rfl; rotate_left; simp only [Act.put, List.setIfInBounds_toArray, List.set_cons_zero, List.set_cons_succ, i64_w, i32_w]; rfl
 refine pure_ (i := 7) (N := some 15) (v := ?_) (a' := ?_) (lb_ 24 255) rfl rfl (any_of HT_.out (by kernel_rfl)) (fun _ _ _ h => h) (Or.inl ⟨by rfl, ?_⟩) ?_ ?_; rotate_left; intro w'; go_simp; with_reducible rfl; rotate_left; simp only [Act.put, List.setIfInBounds_toArray, List.set_cons_zero, List.set_cons_succ, i64_w, i32_w]; rfl
 refine pure_ (i := 8) (N := some 16) (v := ?_) (a' := ?_) (lb_ 24 511) rfl rfl (any_of HT_.out (by kernel_rfl)) (fun _ _ _ h => h) (Or.inl ⟨by rfl, ?_⟩) ?_ ?_; rotate_left; intro w'; go_simp; with_reducible rfl; rotate_left; simp only [Act.put, List.setIfInBounds_toArray, List.set_cons_zero, List.set_cons_succ, i64_w, i32_w]; rfl
 refine pure_ (i := 9) (N := some 17) (v := ?_) (a' := ?_) (lb_ 24 1023) rfl rfl (any_of HT_.out (by kernel_rfl)) (fun _ _ _ h => h) (Or.inl ⟨by rfl, ?_⟩) ?_ ?_; rotate_left; intro w'; go_simp; with_reducible rfl; rotate_left; simp only [Act.put, List.setIfInBounds_toArray, List.set_cons_zero, List.set_cons_succ, i64_w, i32_w]; rfl
 refine pure_ (i := 10) (N := some 18) (v := ?_) (a' := ?_) (lb_ 24 2047) rfl rfl (any_of HT_.out (by kernel_rfl)) (fun _ _ _ h => h) (Or.inl ⟨by rfl, ?_⟩) ?_ ?_; rotate_left; intro w'; go_simp; with_reducible rfl; rotate_left; simp only [Act.put, List.setIfInBounds_toArray, List.set_cons_zero, List.set_cons_succ, i64_w, i32_w]; rfl
 refine pure_ (i := 12) (N := some 20) (v := ?_) (a' := ?_) (lb_ 24 6143) rfl rfl (any_of HT_.out (by kernel_rfl)) (fun _ _ _ h => h) (Or.inl ⟨by rfl, ?_⟩) ?_ ?_; rotate_left; intro w'; go_simp; with_reducible rfl; rotate_left; simp only [Act.put, List.setIfInBounds_toArray, List.set_cons_zero, List.set_cons_succ, i64_w, i32_w]; rfl
 refine pure_ (i := 16) (N := some 24) (v := ?_) (a' := ?_) (lb_ 24 71679) rfl rfl (any_of HT_.out (by kernel_rfl)) (fun _ _ _ h => h) (Or.inl ⟨by rfl, ?_⟩) ?_ ?_; rotate_left; intro w'; go_simp; with_reducible rfl; rotate_left; simp only [Act.put, List.setIfInBounds_toArray, List.set_cons_zero, List.set_cons_succ, i64_w, i32_w]; rfl
 refine pure_ (i := 18) (N := some 26) (v := ?_) (a' := ?_) (lb_ 24 333823) rfl rfl (any_of HT_.out (by kernel_rfl)) (fun _ _ _ h => h) (Or.inl ⟨by rfl, ?_⟩) ?_ ?_; rotate_left; intro w'; go_simp; with_reducible rfl; rotate_left; simp only [Act.put, List.setIfInBounds_toArray, List.set_cons_zero, List.set_cons_succ, i64_w, i32_w]; rfl
 refine take_ (i := 11) (N := some 19) (v := ?_) (a' := ?_) (lb_ 24 335871) rfl rfl (take_ofW HT_.out HW_.out (by kernel_rfl)) (fun _ _ _ h => h) (Or.inl ⟨by rfl, ?_⟩) hHeld ?_ ?_; rotate_left; rintro w' ⟨s0, s1, s2, s3, s4, s5, s6, s7, s8⟩; go_simp; with_reducible rfl; rotate_left; simp only [Act.put, List.setIfInBounds_toArray, List.set_cons_zero, List.set_cons_succ, i64_w, i32_w]; rfl
 refine pure_ (i := 13) (N := some 21) (v := ?_) (a' := ?_) (lb_ 24 344063) rfl rfl (any_of HT_.out (by kernel_rfl)) (fun _ _ _ h => h) (Or.inl ⟨by rfl, ?_⟩) ?_ ?_; rotate_left; intro w'; go_simp; with_reducible rfl; rotate_left; simp only [Act.put, List.setIfInBounds_toArray, List.set_cons_zero, List.set_cons_succ, i64_w, i32_w]; rfl
 refine pure_ (i := 14) (N := some 22) (v := ?_) (a' := ?_) (lb_ 24 360447) rfl rfl (any_of HT_.out (by kernel_rfl)) (fun _ _ _ h => h) (Or.inl ⟨by rfl, ?_⟩) ?_ ?_; rotate_left; intro w'; go_simp; with_reducible rfl; rotate_left; simp only [Act.put, List.setIfInBounds_toArray, List.set_cons_zero, List.set_cons_succ, i64_w, i32_w]; rfl
 refine take_ (i := 15) (N := some 23) (v := ?_) (a' := ?_) (lb_ 24 393215) rfl rfl (take_ofW HT_.out HW_.out (by kernel_rfl)) (fun _ _ _ h => h) (Or.inl ⟨by rfl, ?_⟩) hHeld ?_ ?_; rotate_left; rintro w' ⟨s0, s1, s2, s3, s4, s5, s6, s7, s8⟩; go_simp; with_reducible rfl; rotate_left; simp only [Act.put, List.setIfInBounds_toArray, List.set_cons_zero, List.set_cons_succ, i64_w, i32_w]; rfl
 refine take_ (i := 17) (N := some 25) (v := ?_) (a' := ?_) (lb_ 24 524287) rfl rfl (take_ofW HT_.out HW_.out (by kernel_rfl)) (fun _ _ _ h => h) (Or.inl ⟨by rfl, ?_⟩) hHeld ?_ ?_; rotate_left; rintro w' ⟨s0, s1, s2, s3, s4, s5, s6, s7, s8⟩; go_simp; with_reducible rfl; rotate_left; simp only [Act.put, List.setIfInBounds_toArray, List.set_cons_zero, List.set_cons_succ, i64_w, i32_w]; rfl
 refine pure_ (i := 19) (N := some 27) (v := ?_) (a' := ?_) (lb_ 24 1048575) rfl rfl (any_of HT_.out (by kernel_rfl)) (fun _ _ _ h => h) (Or.inl ⟨by rfl, ?_⟩) ?_ ?_; rotate_left; intro w'; go_simp; with_reducible rfl; rotate_left; simp only [Act.put, List.setIfInBounds_toArray, List.set_cons_zero, List.set_cons_succ, i64_w, i32_w]; rfl
 refine take_ (i := 20) (N := some 28) (v := ?_) (a' := ?_) (lb_ 24 2097151) rfl rfl (take_ofW HT_.out HW_.out (by kernel_rfl)) (fun _ _ _ h => h) (Or.inl ⟨by rfl, ?_⟩) hHeld ?_ ?_; rotate_left; rintro w' ⟨s0, s1, s2, s3, s4, s5, s6, s7, s8⟩; go_simp; with_reducible rfl; rotate_left; simp only [Act.put, List.setIfInBounds_toArray, List.set_cons_zero, List.set_cons_succ, i64_w, i32_w]; rfl
 refine pure_ (i := 21) (N := some 29) (v := ?_) (a' := ?_) (lb_ 24 4194303) rfl rfl (any_of HT_.out (by kernel_rfl)) (fun _ _ _ h => h) (Or.inl ⟨by rfl, ?_⟩) ?_ ?_; rotate_left; intro w'; go_simp; with_reducible rfl; rotate_left; simp only [Act.put, List.setIfInBounds_toArray, List.set_cons_zero, List.set_cons_succ, i64_w, i32_w]; rfl
 refine pure_ (i := 22) (N := some 30) (v := ?_) (a' := ?_) (lb_ 24 8388607) rfl rfl (any_of HT_.out (by kernel_rfl)) (fun _ _ _ h => h) (Or.inl ⟨by rfl, ?_⟩) ?_ ?_; rotate_left; intro w'; go_simp; with_reducible rfl; rotate_left; simp only [Act.put, List.setIfInBounds_toArray, List.set_cons_zero, List.set_cons_succ, i64_w, i32_w]; rfl
 refine pure_ (i := 23) (N := some 31) (v := ?_) (a' := ?_) (lb_ 24 16777215) rfl rfl (any_of HT_.out (by kernel_rfl)) (fun _ _ _ h => h) (Or.inl ⟨by rfl, ?_⟩) ?_ ?_; rotate_left; intro w'; go_simp; with_reducible rfl; rotate_left; simp only [Act.put, List.setIfInBounds_toArray, List.set_cons_zero, List.set_cons_succ, i64_w, i32_w]; rfl
 refine done_ (done_of HT_.out (by kernel_rfl)) ?_
 try go_wp2
 have n0_ := Aside0.mk (blk_drew BK255.out)
 have n1_ := Aside0.mk (blk_drew BK256.out)
 have n2_ := Aside0.mk (blk_drew BK257.out)
 have n3_ := Aside0.mk (below_drew1 HB.out)
 clear BK255
 clear BK256
 clear BK257
 clear HB
 have BK255 := n0_
 have BK256 := n1_
 have BK257 := n2_
 have HB := n3_
 clear n0_ n1_ n2_ n3_
 have p260 : 0 ≤ (a2 : Int) := of_decide_eq_true as_
 have q260 : a2 < (l0_1.length : Int) := of_decide_eq_true as_
 obtain ⟨ad260, A260_0, c260_0, e260, hx260_0, hl260_0, hi260_0⟩ := at_L2 HR0_1.out a2 p260 q260
 have hw260_0 := hx260_0
 obtain rfl : ad259 = ad260 := (by injection e260)
 replace hx260_0 := cl_ HB.out hx260_0
 have HR260_0 := Aside0.mk hi260_0
 have HC260_0 := Aside0.mk hl260_0
 clear hi260_0 hl260_0
 replace p260 := eq_true p260
 replace q260 := eq_true q260
 have p261 : 0 ≤ (a2 : Int) := of_decide_eq_true as_
 have q261 : a2 < (l1_1.length : Int) := of_decide_eq_true as_
 obtain ⟨ad261, A261_1, c261_1, A261_3, c261_3, e261, hx261_0, hx261_1, hx261_2, hx261_3, hl261_1, hi261_1, hl261_3, hi261_3⟩ := at_T49 HR1_1.out a2 p261 q261
 have hw261_3 := hx261_3
 have hw261_2 := hx261_2
 have hw261_1 := hx261_1
 have hw261_0 := hx261_0
 obtain rfl : ad258 = ad261 := (by injection e261)
 replace hx261_0 := cl_ HB.out hx261_0
 replace hx261_1 := cl_ HB.out hx261_1
 replace hx261_2 := cl_ HB.out hx261_2
 replace hx261_3 := cl_ HB.out hx261_3
 have HR261_1 := Aside0.mk hi261_1
 have HC261_1 := Aside0.mk hl261_1
 clear hi261_1 hl261_1
 have HR261_3 := Aside0.mk hi261_3
 have HC261_3 := Aside0.mk hl261_3
 clear hi261_3 hl261_3
 replace p261 := eq_true p261
 replace q261 := eq_true q261
 have p262 : 0 ≤ (((rd_T49 l1_1 a2).f0) : Int) := of_decide_eq_true as_
 have q262 : ((rd_T49 l1_1 a2).f0) < ((rd_L2 l0_1 a2).length : Int) := of_decide_eq_true as_
 obtain ⟨ad262, e262, hx262_0, hx262_1, hx262_2, hx262_3, hx262_4⟩ := at_T36 HR260_0.out ((rd_T49 l1_1 a2).f0) p262 q262
 have hw262_4 := hx262_4
 have hw262_3 := hx262_3
 have hw262_2 := hx262_2
 have hw262_1 := hx262_1
 have hw262_0 := hx262_0
 cases e262
 replace hx262_0 := cl_ HB.out hx262_0
 replace hx262_1 := cl_ HB.out hx262_1
 replace hx262_2 := cl_ HB.out hx262_2
 replace hx262_3 := cl_ HB.out hx262_3
 replace hx262_4 := cl_ HB.out hx262_4
 replace p262 := eq_true p262
 replace q262 := eq_true q262
 refine start_ (n := 15) (S := fun w' => w'.cell? ⟨gb255, 0, none⟩ = some (.slice A0_0 l0_0.length c0_0) ∧ w'.cell? ⟨gb255, 1, none⟩ = some (.slice (some ad259) l0_1.length c0_1) ∧ w'.cell? ⟨gb256, 0, none⟩ = some (.slice A1_0 l1_0.length c1_0) ∧ w'.cell? ⟨gb256, 1, none⟩ = some (.slice (some ad258) l1_1.length c1_1) ∧ w'.cell? (ad259.add (a2).toNat) = some (.slice (some ad262) (rd_L2 l0_1 a2).length c260_0) ∧ w'.cell? (ad258.add ((a2).toNat * 4)) = some (.int .i64 ((rd_T49 l1_1 a2).f0)) ∧ w'.cell? ⟨(ad258.add ((a2).toNat * 4)).block, (ad258.add ((a2).toNat * 4)).off + 1, none⟩ = some (.slice A261_1 ((rd_T49 l1_1 a2).f1).length c261_1) ∧ w'.cell? ⟨(ad258.add ((a2).toNat * 4)).block, (ad258.add ((a2).toNat * 4)).off + 2, none⟩ = some (.bool ((rd_T49 l1_1 a2).f2)) ∧ w'.cell? ⟨(ad258.add ((a2).toNat * 4)).block, (ad258.add ((a2).toNat * 4)).off + 3, none⟩ = some (.slice A261_3 ((rd_T49 l1_1 a2).f3).length c261_3) ∧ w'.cell? (ad262.add ((((rd_T49 l1_1 a2).f0)).toNat * 5)) = some (.int .i64 ((rd_T36 (rd_L2 l0_1 a2) ((rd_T49 l1_1 a2).f0)).f0)) ∧ w'.cell? ⟨(ad262.add ((((rd_T49 l1_1 a2).f0)).toNat * 5)).block, (ad262.add ((((rd_T49 l1_1 a2).f0)).toNat * 5)).off + 1, none⟩ = some (.int .i64 ((rd_T36 (rd_L2 l0_1 a2) ((rd_T49 l1_1 a2).f0)).f1)) ∧ w'.cell? ⟨(ad262.add ((((rd_T49 l1_1 a2).f0)).toNat * 5)).block, (ad262.add ((((rd_T49 l1_1 a2).f0)).toNat * 5)).off + 2, none⟩ = some (.int .i64 ((rd_T36 (rd_L2 l0_1 a2) ((rd_T49 l1_1 a2).f0)).f2)) ∧ w'.cell? ⟨(ad262.add ((((rd_T49 l1_1 a2).f0)).toNat * 5)).block, (ad262.add ((((rd_T49 l1_1 a2).f0)).toNat * 5)).off + 3, none⟩ = some (.int .i64 ((rd_T36 (rd_L2 l0_1 a2) ((rd_T49 l1_1 a2).f0)).f3)) ∧ w'.cell? ⟨(ad262.add ((((rd_T49 l1_1 a2).f0)).toNat * 5)).block, (ad262.add ((((rd_T49 l1_1 a2).f0)).toNat * 5)).off + 4, none⟩ = some (.int .i64 ((rd_T36 (rd_L2 l0_1 a2) ((rd_T49 l1_1 a2).f0)).f4))) (ds := []) (lb_ 15 0) (by kernel_rfl) rfl rfl ⟨(blk_cell BK255.out 0).trans rfl, (blk_cell BK255.out 1).trans rfl, (blk_cell BK256.out 0).trans rfl, (blk_cell BK256.out 1).trans rfl, ((HB.out.cell (World.block_lt_of_cell? w _ hw260_0)).trans hw260_0), ((HB.out.cell (World.block_lt_of_cell? w _ hw261_0)).trans hw261_0), ((HB.out.cell (World.block_lt_of_cell? w _ hw261_1)).trans hw261_1), ((HB.out.cell (World.block_lt_of_cell? w _ hw261_2)).trans hw261_2), ((HB.out.cell (World.block_lt_of_cell? w _ hw261_3)).trans hw261_3), ((HB.out.cell (World.block_lt_of_cell? w _ hw262_0)).trans hw262_0), ((HB.out.cell (World.block_lt_of_cell? w _ hw262_1)).trans hw262_1), ((HB.out.cell (World.block_lt_of_cell? w _ hw262_2)).trans hw262_2), ((HB.out.cell (World.block_lt_of_cell? w _ hw262_3)).trans hw262_3), ((HB.out.cell (World.block_lt_of_cell? w _ hw262_4)).trans hw262_4)⟩ (fun hHeld => ?_); refine with_tabW fencepostref10_At.tab3 fencepostref10_At.bits3 (fun HT_ HW_ => ?_)
 generalize w36.drew = w37 at BK255 BK256 BK257 HB HR260_0 HR261_1 HR261_3 hx260_0 hx261_0 hx261_1 hx261_2 hx261_3 hx262_0 hx262_1 hx262_2 hx262_3 hx262_4 hHeld ⊢
 refine pure_ (i := 0) (N := some 33) (v := ?_) (a' := ?_) (lb_ 15 1) rfl rfl (any_of HT_.out (by kernel_rfl)) (fun _ _ _ h => h) (Or.inl ⟨by rfl, ?_⟩) ?_ ?_; rotate_left; intro w'; go_simp; with_reducible rfl; rotate_left; simp only [Act.put, List.setIfInBounds_toArray, List.set_cons_zero, List.set_cons_succ, i64_w, i32_w]; rfl
 refine pure_ (i := 2) (N := some 35) (v := ?_) (a' := ?_) (lb_ 15 5) rfl rfl (any_of HT_.out (by kernel_rfl)) (fun _ _ _ h => h) (Or.inl ⟨by rfl, ?_⟩) ?_ ?_; rotate_left; intro w'; go_simp; with_reducible rfl; rotate_left; simp only [Act.put, List.setIfInBounds_toArray, List.set_cons_zero, List.set_cons_succ, i64_w, i32_w]; rfl
 refine pure_ (i := 5) (N := some 38) (v := ?_) (a' := ?_) (lb_ 15 37) rfl rfl (any_of HT_.out (by kernel_rfl)) (fun _ _ _ h => h) (Or.inl ⟨by rfl, ?_⟩) ?_ ?_; rotate_left; intro w'; go_simp; with_reducible rfl; rotate_left; simp only [Act.put, List.setIfInBounds_toArray, List.set_cons_zero, List.set_cons_succ, i64_w, i32_w]; rfl
 refine pure_ (i := 7) (N := some 40) (v := ?_) (a' := ?_) (lb_ 15 165) rfl rfl (any_of HT_.out (by kernel_rfl)) (fun _ _ _ h => h) (Or.inl ⟨by rfl, ?_⟩) ?_ ?_; rotate_left; intro w'; go_simp; with_reducible rfl; rotate_left; simp only [Act.put, List.setIfInBounds_toArray, List.set_cons_zero, List.set_cons_succ, i64_w, i32_w]; rfl
 refine take_ (i := 1) (N := some 34) (v := ?_) (a' := ?_) (lb_ 15 167) rfl rfl (take_ofW HT_.out HW_.out (by kernel_rfl)) (fun _ _ _ h => h) (Or.inl ⟨by rfl, ?_⟩) hHeld ?_ ?_; rotate_left; rintro w' ⟨s0, s1, s2, s3, s4, s5, s6, s7, s8, s9, s10, s11, s12, s13⟩; go_simp; with_reducible rfl; rotate_left; simp only [Act.put, List.setIfInBounds_toArray, List.set_cons_zero, List.set_cons_succ, i64_w, i32_w]; rfl
 refine pure_ (i := 3) (N := some 36) (v := ?_) (a' := ?_) (lb_ 15 175) rfl rfl (any_of HT_.out (by kernel_rfl)) (fun _ _ _ h => h) (Or.inl ⟨by rfl, ?_⟩) ?_ ?_; rotate_left; intro w'; go_simp; with_reducible rfl; rotate_left; simp only [Act.put, List.setIfInBounds_toArray, List.set_cons_zero, List.set_cons_succ, i64_w, i32_w]; rfl
 refine take_ (i := 4) (N := some 37) (v := ?_) (a' := ?_) (lb_ 15 191) rfl rfl (take_ofW HT_.out HW_.out (by kernel_rfl)) (fun _ _ _ h => h) (Or.inl ⟨by rfl, ?_⟩) hHeld ?_ ?_; rotate_left; rintro w' ⟨s0, s1, s2, s3, s4, s5, s6, s7, s8, s9, s10, s11, s12, s13⟩; go_simp; with_reducible rfl; rotate_left; simp only [Act.put, List.setIfInBounds_toArray, List.set_cons_zero, List.set_cons_succ, i64_w, i32_w]; rfl
 refine take_ (i := 6) (N := some 39) (v := ?_) (a' := ?_) (lb_ 15 255) rfl rfl (take_ofW HT_.out HW_.out (by kernel_rfl)) (fun _ _ _ h => h) (Or.inl ⟨by rfl, ?_⟩) hHeld ?_ ?_; rotate_left; rintro w' ⟨s0, s1, s2, s3, s4, s5, s6, s7, s8, s9, s10, s11, s12, s13⟩; go_simp; with_reducible rfl; rotate_left; simp only [Act.put, List.setIfInBounds_toArray, List.set_cons_zero, List.set_cons_succ, i64_w, i32_w]; rfl
 refine pure_ (i := 8) (N := some 41) (v := ?_) (a' := ?_) (lb_ 15 511) rfl rfl (any_of HT_.out (by kernel_rfl)) (fun _ _ _ h => h) (Or.inl ⟨by rfl, ?_⟩) ?_ ?_; rotate_left; intro w'; go_simp; with_reducible rfl; rotate_left; simp only [Act.put, List.setIfInBounds_toArray, List.set_cons_zero, List.set_cons_succ, i64_w, i32_w]; rfl
 refine pure_ (i := 9) (N := some 42) (v := ?_) (a' := ?_) (lb_ 15 1023) rfl rfl (any_of HT_.out (by kernel_rfl)) (fun _ _ _ h => h) (Or.inl ⟨by rfl, ?_⟩) ?_ ?_; rotate_left; intro w'; go_simp; with_reducible rfl; rotate_left; simp only [Act.put, List.setIfInBounds_toArray, List.set_cons_zero, List.set_cons_succ, i64_w, i32_w]; rfl
 refine take_ (i := 10) (N := some 43) (v := ?_) (a' := ?_) (lb_ 15 2047) rfl rfl (take_ofW HT_.out HW_.out (by kernel_rfl)) (fun _ _ _ h => h) (Or.inl ⟨by rfl, ?_⟩) hHeld ?_ ?_; rotate_left; rintro w' ⟨s0, s1, s2, s3, s4, s5, s6, s7, s8, s9, s10, s11, s12, s13⟩; go_simp; with_reducible rfl; rotate_left; simp only [Act.put, List.setIfInBounds_toArray, List.set_cons_zero, List.set_cons_succ, i64_w, i32_w]; rfl
 refine pure_ (i := 11) (N := some 44) (v := ?_) (a' := ?_) (lb_ 15 4095) rfl rfl (any_of HT_.out (by kernel_rfl)) (fun _ _ _ h => h) (Or.inl ⟨by rfl, ?_⟩) ?_ ?_; rotate_left; intro w'; go_simp; with_reducible rfl; rotate_left; simp only [Act.put, List.setIfInBounds_toArray, List.set_cons_zero, List.set_cons_succ, i64_w, i32_w]; rfl
 refine take_ (i := 12) (N := some 45) (v := ?_) (a' := ?_) (lb_ 15 8191) rfl rfl (take_ofW HT_.out HW_.out (by kernel_rfl)) (fun _ _ _ h => h) (Or.inl ⟨by rfl, ?_⟩) hHeld ?_ ?_; rotate_left; rintro w' ⟨s0, s1, s2, s3, s4, s5, s6, s7, s8, s9, s10, s11, s12, s13⟩; go_simp; with_reducible rfl; rotate_left; simp only [Act.put, List.setIfInBounds_toArray, List.set_cons_zero, List.set_cons_succ, i64_w, i32_w]; rfl
 refine one_ (i := 13) (N := none) (lb_ 15 16383) rfl rfl (one_of HT_.out (by kernel_rfl)) (by decide) (fun K hK => ?_)
 have hs38 : w37.cell? ⟨gb257, 0, none⟩ = some (.int .i64 0) := (blk_cell BK257.out 0).trans rfl
 have hfs38 := blk_frozen BK257.out 0
 have hns38_0 := NB255_257.out
 have hns38_1 := NB256_257.out
 have hms38_0 := NB257_255.out
 have hms38_1 := NB257_256.out
 have hs39 : w37.cell? ⟨gb257, 1, none⟩ = some (.int .i64 0) := (blk_cell BK257.out 1).trans rfl
 have hfs39 := blk_frozen BK257.out 1
 have hns39_0 := NB255_257.out
 have hns39_1 := NB256_257.out
 have hms39_0 := NB257_255.out
 have hms39_1 := NB257_256.out
 have hs40 : w37.cell? ⟨gb257, 2, none⟩ = some (.int .i64 0) := (blk_cell BK257.out 2).trans rfl
 have hfs40 := blk_frozen BK257.out 2
 have hns40_0 := NB255_257.out
 have hns40_1 := NB256_257.out
 have hms40_0 := NB257_255.out
 have hms40_1 := NB257_256.out
 have hs41 : w37.cell? ⟨gb257, 3, none⟩ = some (.int .i64 0) := (blk_cell BK257.out 3).trans rfl
 have hfs41 := blk_frozen BK257.out 3
 have hns41_0 := NB255_257.out
 have hns41_1 := NB256_257.out
 have hms41_0 := NB257_255.out
 have hms41_1 := NB257_256.out
 have hs42 : w37.cell? ⟨gb257, 4, none⟩ = some (.int .i64 0) := (blk_cell BK257.out 4).trans rfl
 have hfs42 := blk_frozen BK257.out 4
 have hns42_0 := NB255_257.out
 have hns42_1 := NB256_257.out
 have hms42_0 := NB257_255.out
 have hms42_1 := NB257_256.out
 refine skip_ (w1 := ?_) (by rfl) rfl ?_ ?_
 rotate_left
 ·go_simp
  rfl
 refine hK.out _ _ ⟨((cell_far (p := ⟨gb257, _, none⟩) NB255_257.out _).trans (((cell_far (p := ⟨gb257, _, none⟩) NB255_257.out _).trans (((cell_far (p := ⟨gb257, _, none⟩) NB255_257.out _).trans (((cell_far (p := ⟨gb257, _, none⟩) NB255_257.out _).trans (((cell_far (p := ⟨gb257, _, none⟩) NB255_257.out _).trans (hHeld.1)))))))))), ((cell_far (p := ⟨gb257, _, none⟩) NB255_257.out _).trans (((cell_far (p := ⟨gb257, _, none⟩) NB255_257.out _).trans (((cell_far (p := ⟨gb257, _, none⟩) NB255_257.out _).trans (((cell_far (p := ⟨gb257, _, none⟩) NB255_257.out _).trans (((cell_far (p := ⟨gb257, _, none⟩) NB255_257.out _).trans (hHeld.2.1)))))))))), ((cell_far (p := ⟨gb257, _, none⟩) NB256_257.out _).trans (((cell_far (p := ⟨gb257, _, none⟩) NB256_257.out _).trans (((cell_far (p := ⟨gb257, _, none⟩) NB256_257.out _).trans (((cell_far (p := ⟨gb257, _, none⟩) NB256_257.out _).trans (((cell_far (p := ⟨gb257, _, none⟩) NB256_257.out _).trans (hHeld.2.2.1)))))))))), ((cell_far (p := ⟨gb257, _, none⟩) NB256_257.out _).trans (((cell_far (p := ⟨gb257, _, none⟩) NB256_257.out _).trans (((cell_far (p := ⟨gb257, _, none⟩) NB256_257.out _).trans (((cell_far (p := ⟨gb257, _, none⟩) NB256_257.out _).trans (((cell_far (p := ⟨gb257, _, none⟩) NB256_257.out _).trans (hHeld.2.2.2.1)))))))))), ((cell_far (p := ⟨gb257, _, none⟩) (by first | exact Nat.ne_of_lt (bk_ hw260_0 GW257.out) | (rw [add_block]; exact Nat.ne_of_lt (bk_ hw260_0 GW257.out)) | (show (Addr.add _ _).block ≠ _; rw [add_block]; exact Nat.ne_of_lt (bk_ hw260_0 GW257.out)) | (dsimp only; exact Nat.ne_of_lt (bk_ hw260_0 GW257.out))) _).trans (((cell_far (p := ⟨gb257, _, none⟩) (by first | exact Nat.ne_of_lt (bk_ hw260_0 GW257.out) | (rw [add_block]; exact Nat.ne_of_lt (bk_ hw260_0 GW257.out)) | (show (Addr.add _ _).block ≠ _; rw [add_block]; exact Nat.ne_of_lt (bk_ hw260_0 GW257.out)) | (dsimp only; exact Nat.ne_of_lt (bk_ hw260_0 GW257.out))) _).trans (((cell_far (p := ⟨gb257, _, none⟩) (by first | exact Nat.ne_of_lt (bk_ hw260_0 GW257.out) | (rw [add_block]; exact Nat.ne_of_lt (bk_ hw260_0 GW257.out)) | (show (Addr.add _ _).block ≠ _; rw [add_block]; exact Nat.ne_of_lt (bk_ hw260_0 GW257.out)) | (dsimp only; exact Nat.ne_of_lt (bk_ hw260_0 GW257.out))) _).trans (((cell_far (p := ⟨gb257, _, none⟩) (by first | exact Nat.ne_of_lt (bk_ hw260_0 GW257.out) | (rw [add_block]; exact Nat.ne_of_lt (bk_ hw260_0 GW257.out)) | (show (Addr.add _ _).block ≠ _; rw [add_block]; exact Nat.ne_of_lt (bk_ hw260_0 GW257.out)) | (dsimp only; exact Nat.ne_of_lt (bk_ hw260_0 GW257.out))) _).trans (((cell_far (p := ⟨gb257, _, none⟩) (by first | exact Nat.ne_of_lt (bk_ hw260_0 GW257.out) | (rw [add_block]; exact Nat.ne_of_lt (bk_ hw260_0 GW257.out)) | (show (Addr.add _ _).block ≠ _; rw [add_block]; exact Nat.ne_of_lt (bk_ hw260_0 GW257.out)) | (dsimp only; exact Nat.ne_of_lt (bk_ hw260_0 GW257.out))) _).trans (hHeld.2.2.2.2.1)))))))))), ((cell_far (p := ⟨gb257, _, none⟩) (by first | exact Nat.ne_of_lt (bk_ hw261_0 GW257.out) | (rw [add_block]; exact Nat.ne_of_lt (bk_ hw261_0 GW257.out)) | (show (Addr.add _ _).block ≠ _; rw [add_block]; exact Nat.ne_of_lt (bk_ hw261_0 GW257.out)) | (dsimp only; exact Nat.ne_of_lt (bk_ hw261_0 GW257.out))) _).trans (((cell_far (p := ⟨gb257, _, none⟩) (by first | exact Nat.ne_of_lt (bk_ hw261_0 GW257.out) | (rw [add_block]; exact Nat.ne_of_lt (bk_ hw261_0 GW257.out)) | (show (Addr.add _ _).block ≠ _; rw [add_block]; exact Nat.ne_of_lt (bk_ hw261_0 GW257.out)) | (dsimp only; exact Nat.ne_of_lt (bk_ hw261_0 GW257.out))) _).trans (((cell_far (p := ⟨gb257, _, none⟩) (by first | exact Nat.ne_of_lt (bk_ hw261_0 GW257.out) | (rw [add_block]; exact Nat.ne_of_lt (bk_ hw261_0 GW257.out)) | (show (Addr.add _ _).block ≠ _; rw [add_block]; exact Nat.ne_of_lt (bk_ hw261_0 GW257.out)) | (dsimp only; exact Nat.ne_of_lt (bk_ hw261_0 GW257.out))) _).trans (((cell_far (p := ⟨gb257, _, none⟩) (by first | exact Nat.ne_of_lt (bk_ hw261_0 GW257.out) | (rw [add_block]; exact Nat.ne_of_lt (bk_ hw261_0 GW257.out)) | (show (Addr.add _ _).block ≠ _; rw [add_block]; exact Nat.ne_of_lt (bk_ hw261_0 GW257.out)) | (dsimp only; exact Nat.ne_of_lt (bk_ hw261_0 GW257.out))) _).trans (((cell_far (p := ⟨gb257, _, none⟩) (by first | exact Nat.ne_of_lt (bk_ hw261_0 GW257.out) | (rw [add_block]; exact Nat.ne_of_lt (bk_ hw261_0 GW257.out)) | (show (Addr.add _ _).block ≠ _; rw [add_block]; exact Nat.ne_of_lt (bk_ hw261_0 GW257.out)) | (dsimp only; exact Nat.ne_of_lt (bk_ hw261_0 GW257.out))) _).trans (hHeld.2.2.2.2.2.1)))))))))), ((cell_far (p := ⟨gb257, _, none⟩) (by first | exact Nat.ne_of_lt (bk_ hw261_1 GW257.out) | (rw [add_block]; exact Nat.ne_of_lt (bk_ hw261_1 GW257.out)) | (show (Addr.add _ _).block ≠ _; rw [add_block]; exact Nat.ne_of_lt (bk_ hw261_1 GW257.out)) | (dsimp only; exact Nat.ne_of_lt (bk_ hw261_1 GW257.out))) _).trans (((cell_far (p := ⟨gb257, _, none⟩) (by first | exact Nat.ne_of_lt (bk_ hw261_1 GW257.out) | (rw [add_block]; exact Nat.ne_of_lt (bk_ hw261_1 GW257.out)) | (show (Addr.add _ _).block ≠ _; rw [add_block]; exact Nat.ne_of_lt (bk_ hw261_1 GW257.out)) | (dsimp only; exact Nat.ne_of_lt (bk_ hw261_1 GW257.out))) _).trans (((cell_far (p := ⟨gb257, _, none⟩) (by first | exact Nat.ne_of_lt (bk_ hw261_1 GW257.out) | (rw [add_block]; exact Nat.ne_of_lt (bk_ hw261_1 GW257.out)) | (show (Addr.add _ _).block ≠ _; rw [add_block]; exact Nat.ne_of_lt (bk_ hw261_1 GW257.out)) | (dsimp only; exact Nat.ne_of_lt (bk_ hw261_1 GW257.out))) _).trans (((cell_far (p := ⟨gb257, _, none⟩) (by first | exact Nat.ne_of_lt (bk_ hw261_1 GW257.out) | (rw [add_block]; exact Nat.ne_of_lt (bk_ hw261_1 GW257.out)) | (show (Addr.add _ _).block ≠ _; rw [add_block]; exact Nat.ne_of_lt (bk_ hw261_1 GW257.out)) | (dsimp only; exact Nat.ne_of_lt (bk_ hw261_1 GW257.out))) _).trans (((cell_far (p := ⟨gb257, _, none⟩) (by first | exact Nat.ne_of_lt (bk_ hw261_1 GW257.out) | (rw [add_block]; exact Nat.ne_of_lt (bk_ hw261_1 GW257.out)) | (show (Addr.add _ _).block ≠ _; rw [add_block]; exact Nat.ne_of_lt (bk_ hw261_1 GW257.out)) | (dsimp only; exact Nat.ne_of_lt (bk_ hw261_1 GW257.out))) _).trans (hHeld.2.2.2.2.2.2.1)))))))))), ((cell_far (p := ⟨gb257, _, none⟩) (by first | exact Nat.ne_of_lt (bk_ hw261_2 GW257.out) | (rw [add_block]; exact Nat.ne_of_lt (bk_ hw261_2 GW257.out)) | (show (Addr.add _ _).block ≠ _; rw [add_block]; exact Nat.ne_of_lt (bk_ hw261_2 GW257.out)) | (dsimp only; exact Nat.ne_of_lt (bk_ hw261_2 GW257.out))) _).trans (((cell_far (p := ⟨gb257, _, none⟩) (by first | exact Nat.ne_of_lt (bk_ hw261_2 GW257.out) | (rw [add_block]; exact Nat.ne_of_lt (bk_ hw261_2 GW257.out)) | (show (Addr.add _ _).block ≠ _; rw [add_block]; exact Nat.ne_of_lt (bk_ hw261_2 GW257.out)) | (dsimp only; exact Nat.ne_of_lt (bk_ hw261_2 GW257.out))) _).trans (((cell_far (p := ⟨gb257, _, none⟩) (by first | exact Nat.ne_of_lt (bk_ hw261_2 GW257.out) | (rw [add_block]; exact Nat.ne_of_lt (bk_ hw261_2 GW257.out)) | (show (Addr.add _ _).block ≠ _; rw [add_block]; exact Nat.ne_of_lt (bk_ hw261_2 GW257.out)) | (dsimp only; exact Nat.ne_of_lt (bk_ hw261_2 GW257.out))) _).trans (((cell_far (p := ⟨gb257, _, none⟩) (by first | exact Nat.ne_of_lt (bk_ hw261_2 GW257.out) | (rw [add_block]; exact Nat.ne_of_lt (bk_ hw261_2 GW257.out)) | (show (Addr.add _ _).block ≠ _; rw [add_block]; exact Nat.ne_of_lt (bk_ hw261_2 GW257.out)) | (dsimp only; exact Nat.ne_of_lt (bk_ hw261_2 GW257.out))) _).trans (((cell_far (p := ⟨gb257, _, none⟩) (by first | exact Nat.ne_of_lt (bk_ hw261_2 GW257.out) | (rw [add_block]; exact Nat.ne_of_lt (bk_ hw261_2 GW257.out)) | (show (Addr.add _ _).block ≠ _; rw [add_block]; exact Nat.ne_of_lt (bk_ hw261_2 GW257.out)) | (dsimp only; exact Nat.ne_of_lt (bk_ hw261_2 GW257.out))) _).trans (hHeld.2.2.2.2.2.2.2.1)))))))))), ((cell_far (p := ⟨gb257, _, none⟩) (by first | exact Nat.ne_of_lt (bk_ hw261_3 GW257.out) | (rw [add_block]; exact Nat.ne_of_lt (bk_ hw261_3 GW257.out)) | (show (Addr.add _ _).block ≠ _; rw [add_block]; exact Nat.ne_of_lt (bk_ hw261_3 GW257.out)) | (dsimp only; exact Nat.ne_of_lt (bk_ hw261_3 GW257.out))) _).trans (((cell_far (p := ⟨gb257, _, none⟩) (by first | exact Nat.ne_of_lt (bk_ hw261_3 GW257.out) | (rw [add_block]; exact Nat.ne_of_lt (bk_ hw261_3 GW257.out)) | (show (Addr.add _ _).block ≠ _; rw [add_block]; exact Nat.ne_of_lt (bk_ hw261_3 GW257.out)) | (dsimp only; exact Nat.ne_of_lt (bk_ hw261_3 GW257.out))) _).trans (((cell_far (p := ⟨gb257, _, none⟩) (by first | exact Nat.ne_of_lt (bk_ hw261_3 GW257.out) | (rw [add_block]; exact Nat.ne_of_lt (bk_ hw261_3 GW257.out)) | (show (Addr.add _ _).block ≠ _; rw [add_block]; exact Nat.ne_of_lt (bk_ hw261_3 GW257.out)) | (dsimp only; exact Nat.ne_of_lt (bk_ hw261_3 GW257.out))) _).trans (((cell_far (p := ⟨gb257, _, none⟩) (by first | exact Nat.ne_of_lt (bk_ hw261_3 GW257.out) | (rw [add_block]; exact Nat.ne_of_lt (bk_ hw261_3 GW257.out)) | (show (Addr.add _ _).block ≠ _; rw [add_block]; exact Nat.ne_of_lt (bk_ hw261_3 GW257.out)) | (dsimp only; exact Nat.ne_of_lt (bk_ hw261_3 GW257.out))) _).trans (((cell_far (p := ⟨gb257, _, none⟩) (by first | exact Nat.ne_of_lt (bk_ hw261_3 GW257.out) | (rw [add_block]; exact Nat.ne_of_lt (bk_ hw261_3 GW257.out)) | (show (Addr.add _ _).block ≠ _; rw [add_block]; exact Nat.ne_of_lt (bk_ hw261_3 GW257.out)) | (dsimp only; exact Nat.ne_of_lt (bk_ hw261_3 GW257.out))) _).trans (hHeld.2.2.2.2.2.2.2.2.1)))))))))), ((cell_far (p := ⟨gb257, _, none⟩) (by first | exact Nat.ne_of_lt (bk_ hw262_0 GW257.out) | (rw [add_block]; exact Nat.ne_of_lt (bk_ hw262_0 GW257.out)) | (show (Addr.add _ _).block ≠ _; rw [add_block]; exact Nat.ne_of_lt (bk_ hw262_0 GW257.out)) | (dsimp only; exact Nat.ne_of_lt (bk_ hw262_0 GW257.out))) _).trans (((cell_far (p := ⟨gb257, _, none⟩) (by first | exact Nat.ne_of_lt (bk_ hw262_0 GW257.out) | (rw [add_block]; exact Nat.ne_of_lt (bk_ hw262_0 GW257.out)) | (show (Addr.add _ _).block ≠ _; rw [add_block]; exact Nat.ne_of_lt (bk_ hw262_0 GW257.out)) | (dsimp only; exact Nat.ne_of_lt (bk_ hw262_0 GW257.out))) _).trans (((cell_far (p := ⟨gb257, _, none⟩) (by first | exact Nat.ne_of_lt (bk_ hw262_0 GW257.out) | (rw [add_block]; exact Nat.ne_of_lt (bk_ hw262_0 GW257.out)) | (show (Addr.add _ _).block ≠ _; rw [add_block]; exact Nat.ne_of_lt (bk_ hw262_0 GW257.out)) | (dsimp only; exact Nat.ne_of_lt (bk_ hw262_0 GW257.out))) _).trans (((cell_far (p := ⟨gb257, _, none⟩) (by first | exact Nat.ne_of_lt (bk_ hw262_0 GW257.out) | (rw [add_block]; exact Nat.ne_of_lt (bk_ hw262_0 GW257.out)) | (show (Addr.add _ _).block ≠ _; rw [add_block]; exact Nat.ne_of_lt (bk_ hw262_0 GW257.out)) | (dsimp only; exact Nat.ne_of_lt (bk_ hw262_0 GW257.out))) _).trans (((cell_far (p := ⟨gb257, _, none⟩) (by first | exact Nat.ne_of_lt (bk_ hw262_0 GW257.out) | (rw [add_block]; exact Nat.ne_of_lt (bk_ hw262_0 GW257.out)) | (show (Addr.add _ _).block ≠ _; rw [add_block]; exact Nat.ne_of_lt (bk_ hw262_0 GW257.out)) | (dsimp only; exact Nat.ne_of_lt (bk_ hw262_0 GW257.out))) _).trans (hHeld.2.2.2.2.2.2.2.2.2.1)))))))))), ((cell_far (p := ⟨gb257, _, none⟩) (by first | exact Nat.ne_of_lt (bk_ hw262_1 GW257.out) | (rw [add_block]; exact Nat.ne_of_lt (bk_ hw262_1 GW257.out)) | (show (Addr.add _ _).block ≠ _; rw [add_block]; exact Nat.ne_of_lt (bk_ hw262_1 GW257.out)) | (dsimp only; exact Nat.ne_of_lt (bk_ hw262_1 GW257.out))) _).trans (((cell_far (p := ⟨gb257, _, none⟩) (by first | exact Nat.ne_of_lt (bk_ hw262_1 GW257.out) | (rw [add_block]; exact Nat.ne_of_lt (bk_ hw262_1 GW257.out)) | (show (Addr.add _ _).block ≠ _; rw [add_block]; exact Nat.ne_of_lt (bk_ hw262_1 GW257.out)) | (dsimp only; exact Nat.ne_of_lt (bk_ hw262_1 GW257.out))) _).trans (((cell_far (p := ⟨gb257, _, none⟩) (by first | exact Nat.ne_of_lt (bk_ hw262_1 GW257.out) | (rw [add_block]; exact Nat.ne_of_lt (bk_ hw262_1 GW257.out)) | (show (Addr.add _ _).block ≠ _; rw [add_block]; exact Nat.ne_of_lt (bk_ hw262_1 GW257.out)) | (dsimp only; exact Nat.ne_of_lt (bk_ hw262_1 GW257.out))) _).trans (((cell_far (p := ⟨gb257, _, none⟩) (by first | exact Nat.ne_of_lt (bk_ hw262_1 GW257.out) | (rw [add_block]; exact Nat.ne_of_lt (bk_ hw262_1 GW257.out)) | (show (Addr.add _ _).block ≠ _; rw [add_block]; exact Nat.ne_of_lt (bk_ hw262_1 GW257.out)) | (dsimp only; exact Nat.ne_of_lt (bk_ hw262_1 GW257.out))) _).trans (((cell_far (p := ⟨gb257, _, none⟩) (by first | exact Nat.ne_of_lt (bk_ hw262_1 GW257.out) | (rw [add_block]; exact Nat.ne_of_lt (bk_ hw262_1 GW257.out)) | (show (Addr.add _ _).block ≠ _; rw [add_block]; exact Nat.ne_of_lt (bk_ hw262_1 GW257.out)) | (dsimp only; exact Nat.ne_of_lt (bk_ hw262_1 GW257.out))) _).trans (hHeld.2.2.2.2.2.2.2.2.2.2.1)))))))))), ((cell_far (p := ⟨gb257, _, none⟩) (by first | exact Nat.ne_of_lt (bk_ hw262_2 GW257.out) | (rw [add_block]; exact Nat.ne_of_lt (bk_ hw262_2 GW257.out)) | (show (Addr.add _ _).block ≠ _; rw [add_block]; exact Nat.ne_of_lt (bk_ hw262_2 GW257.out)) | (dsimp only; exact Nat.ne_of_lt (bk_ hw262_2 GW257.out))) _).trans (((cell_far (p := ⟨gb257, _, none⟩) (by first | exact Nat.ne_of_lt (bk_ hw262_2 GW257.out) | (rw [add_block]; exact Nat.ne_of_lt (bk_ hw262_2 GW257.out)) | (show (Addr.add _ _).block ≠ _; rw [add_block]; exact Nat.ne_of_lt (bk_ hw262_2 GW257.out)) | (dsimp only; exact Nat.ne_of_lt (bk_ hw262_2 GW257.out))) _).trans (((cell_far (p := ⟨gb257, _, none⟩) (by first | exact Nat.ne_of_lt (bk_ hw262_2 GW257.out) | (rw [add_block]; exact Nat.ne_of_lt (bk_ hw262_2 GW257.out)) | (show (Addr.add _ _).block ≠ _; rw [add_block]; exact Nat.ne_of_lt (bk_ hw262_2 GW257.out)) | (dsimp only; exact Nat.ne_of_lt (bk_ hw262_2 GW257.out))) _).trans (((cell_far (p := ⟨gb257, _, none⟩) (by first | exact Nat.ne_of_lt (bk_ hw262_2 GW257.out) | (rw [add_block]; exact Nat.ne_of_lt (bk_ hw262_2 GW257.out)) | (show (Addr.add _ _).block ≠ _; rw [add_block]; exact Nat.ne_of_lt (bk_ hw262_2 GW257.out)) | (dsimp only; exact Nat.ne_of_lt (bk_ hw262_2 GW257.out))) _).trans (((cell_far (p := ⟨gb257, _, none⟩) (by first | exact Nat.ne_of_lt (bk_ hw262_2 GW257.out) | (rw [add_block]; exact Nat.ne_of_lt (bk_ hw262_2 GW257.out)) | (show (Addr.add _ _).block ≠ _; rw [add_block]; exact Nat.ne_of_lt (bk_ hw262_2 GW257.out)) | (dsimp only; exact Nat.ne_of_lt (bk_ hw262_2 GW257.out))) _).trans (hHeld.2.2.2.2.2.2.2.2.2.2.2.1)))))))))), ((cell_far (p := ⟨gb257, _, none⟩) (by first | exact Nat.ne_of_lt (bk_ hw262_3 GW257.out) | (rw [add_block]; exact Nat.ne_of_lt (bk_ hw262_3 GW257.out)) | (show (Addr.add _ _).block ≠ _; rw [add_block]; exact Nat.ne_of_lt (bk_ hw262_3 GW257.out)) | (dsimp only; exact Nat.ne_of_lt (bk_ hw262_3 GW257.out))) _).trans (((cell_far (p := ⟨gb257, _, none⟩) (by first | exact Nat.ne_of_lt (bk_ hw262_3 GW257.out) | (rw [add_block]; exact Nat.ne_of_lt (bk_ hw262_3 GW257.out)) | (show (Addr.add _ _).block ≠ _; rw [add_block]; exact Nat.ne_of_lt (bk_ hw262_3 GW257.out)) | (dsimp only; exact Nat.ne_of_lt (bk_ hw262_3 GW257.out))) _).trans (((cell_far (p := ⟨gb257, _, none⟩) (by first | exact Nat.ne_of_lt (bk_ hw262_3 GW257.out) | (rw [add_block]; exact Nat.ne_of_lt (bk_ hw262_3 GW257.out)) | (show (Addr.add _ _).block ≠ _; rw [add_block]; exact Nat.ne_of_lt (bk_ hw262_3 GW257.out)) | (dsimp only; exact Nat.ne_of_lt (bk_ hw262_3 GW257.out))) _).trans (((cell_far (p := ⟨gb257, _, none⟩) (by first | exact Nat.ne_of_lt (bk_ hw262_3 GW257.out) | (rw [add_block]; exact Nat.ne_of_lt (bk_ hw262_3 GW257.out)) | (show (Addr.add _ _).block ≠ _; rw [add_block]; exact Nat.ne_of_lt (bk_ hw262_3 GW257.out)) | (dsimp only; exact Nat.ne_of_lt (bk_ hw262_3 GW257.out))) _).trans (((cell_far (p := ⟨gb257, _, none⟩) (by first | exact Nat.ne_of_lt (bk_ hw262_3 GW257.out) | (rw [add_block]; exact Nat.ne_of_lt (bk_ hw262_3 GW257.out)) | (show (Addr.add _ _).block ≠ _; rw [add_block]; exact Nat.ne_of_lt (bk_ hw262_3 GW257.out)) | (dsimp only; exact Nat.ne_of_lt (bk_ hw262_3 GW257.out))) _).trans (hHeld.2.2.2.2.2.2.2.2.2.2.2.2.1)))))))))), ((cell_far (p := ⟨gb257, _, none⟩) (by first | exact Nat.ne_of_lt (bk_ hw262_4 GW257.out) | (rw [add_block]; exact Nat.ne_of_lt (bk_ hw262_4 GW257.out)) | (show (Addr.add _ _).block ≠ _; rw [add_block]; exact Nat.ne_of_lt (bk_ hw262_4 GW257.out)) | (dsimp only; exact Nat.ne_of_lt (bk_ hw262_4 GW257.out))) _).trans (((cell_far (p := ⟨gb257, _, none⟩) (by first | exact Nat.ne_of_lt (bk_ hw262_4 GW257.out) | (rw [add_block]; exact Nat.ne_of_lt (bk_ hw262_4 GW257.out)) | (show (Addr.add _ _).block ≠ _; rw [add_block]; exact Nat.ne_of_lt (bk_ hw262_4 GW257.out)) | (dsimp only; exact Nat.ne_of_lt (bk_ hw262_4 GW257.out))) _).trans (((cell_far (p := ⟨gb257, _, none⟩) (by first | exact Nat.ne_of_lt (bk_ hw262_4 GW257.out) | (rw [add_block]; exact Nat.ne_of_lt (bk_ hw262_4 GW257.out)) | (show (Addr.add _ _).block ≠ _; rw [add_block]; exact Nat.ne_of_lt (bk_ hw262_4 GW257.out)) | (dsimp only; exact Nat.ne_of_lt (bk_ hw262_4 GW257.out))) _).trans (((cell_far (p := ⟨gb257, _, none⟩) (by first | exact Nat.ne_of_lt (bk_ hw262_4 GW257.out) | (rw [add_block]; exact Nat.ne_of_lt (bk_ hw262_4 GW257.out)) | (show (Addr.add _ _).block ≠ _; rw [add_block]; exact Nat.ne_of_lt (bk_ hw262_4 GW257.out)) | (dsimp only; exact Nat.ne_of_lt (bk_ hw262_4 GW257.out))) _).trans (((cell_far (p := ⟨gb257, _, none⟩) (by first | exact Nat.ne_of_lt (bk_ hw262_4 GW257.out) | (rw [add_block]; exact Nat.ne_of_lt (bk_ hw262_4 GW257.out)) | (show (Addr.add _ _).block ≠ _; rw [add_block]; exact Nat.ne_of_lt (bk_ hw262_4 GW257.out)) | (dsimp only; exact Nat.ne_of_lt (bk_ hw262_4 GW257.out))) _).trans (hHeld.2.2.2.2.2.2.2.2.2.2.2.2.2))))))))))⟩ (fun hHeld => ?_)
 clear hK K
 refine pure_ (i := 14) (N := some 7) (v := ?_) (a' := ?_) (lb_ 15 32767) rfl rfl (any_of HT_.out (by kernel_rfl)) (fun _ _ _ h => h) (Or.inl ⟨by rfl, ?_⟩) ?_ ?_; rotate_left; intro w'; go_simp; with_reducible rfl; rotate_left; simp only [Act.put, List.setIfInBounds_toArray, List.set_cons_zero, List.set_cons_succ, i64_w, i32_w]; rfl
 refine done_ (done_of HT_.out (by kernel_rfl)) ?_
 try go_wp2
 refine bodyPost_ret (results_ct rfl _ _ gb257 36 #[.int .i64 ((rd_T36 (rd_L2 l0_1 a2) ((rd_T49 l1_1 a2).f0)).f0), .int .i64 ((rd_T36 (rd_L2 l0_1 a2) ((rd_T49 l1_1 a2).f0)).f1), .int .i64 ((rd_T36 (rd_L2 l0_1 a2) ((rd_T49 l1_1 a2).f0)).f2), .int .i64 ((rd_T36 (rd_L2 l0_1 a2) ((rd_T49 l1_1 a2).f0)).f3), .int .i64 ((rd_T36 (rd_L2 l0_1 a2) ((rd_T49 l1_1 a2).f0)).f4)] (0, 0) _ rfl (by exact bp5_ BK257.out) Try.underlying36 rfl (by kernel_rfl)) rfl ?_
 exact ⟨by first | rfl | (simp [errW_none, errW_some] <;> rfl) | (simp [*, errW_none, errW_some] <;> rfl), hb_ HB.out⟩
end Go.Proofs.Ytphklaajolpieaa.Print
