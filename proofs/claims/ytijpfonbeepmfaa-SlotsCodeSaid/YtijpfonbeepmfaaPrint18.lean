-- Written by ownprint.py (this session's) with the kit's print.py: functions, contracts, rows; Lean checks it.
import Derived.Test.YtijpfonbeepmfaaPrint0
import Derived.Test.YtijpfonbeepmfaaPrint9
import Derived.Test.YtijpfonbeepmfaaPrint10
import Derived.Test.YtijpfonbeepmfaaPrint16
import Derived.Test.YtijpfonbeepmfaaPrint17
import Derived.Test.YtijpfonbeepmfaaHSq
namespace Go.Proofs.Ytijpfonbeepmfaa.Print
open Go.RowKit Go.Proofs.YtijpfonbeepmfaaW.PrintWords Go.Proofs.YtijpfonbeepmfaaW.PrintLast Go.Proofs.YtijpfonbeepmfaaW.PrintMore
attribute [local go_sem] max2_int min2_int max_two min_two max_three min_three max_four min_four   -- for this text's walks alone
set_option linter.unusedVariables false
set_option linter.unusedSimpArgs false
mutual
def fencepostref07_step.j0 : Nat → List (S60) → List ByteArray → Int → ByteArray → ByteArray → ByteArray → Int → Int → Int → Int → Int → Int → Option (Int × Int × Int × Int × Int)
 | 0, _, _, _, _, _, _, _, _, _, _, _, _ => none
 | k + 1, x0, x2, x258000, x258001, x258002, x258003, x258004, x259000, x259001, x259002, x259003, x259004 => if x258002.toList = ([] : List UInt8) then (fencepostref07_step.j1 k x0 x258000 x258001 x258002 x258003 x258004 x259000 x259001 x259002 x259003 x259004) else ((fencepostref07_place.f k x2 x258002).bind fun t260 => (fencepostref07_step.j1 k x0 x258000 x258001 x258002 x258003 x258004 x259000 x259001 t260 x259003 x259004))
def fencepostref07_step.j1 : Nat → List (S60) → Int → ByteArray → ByteArray → ByteArray → Int → Int → Int → Int → Int → Int → Option (Int × Int × Int × Int × Int)
 | 0, _, _, _, _, _, _, _, _, _, _, _ => none
 | k + 1, x0, x258000, x258001, x258002, x258003, x258004, x259000, x259001, x259002, x259003, x259004 => fencepostref07_step.l0 k x0 0 x258000 x258001 x258002 x258003 x258004 x259000 x259001 x259002 x259003 x259004
def fencepostref07_step.l0 : Nat → List (S60) → Int → Int → ByteArray → ByteArray → ByteArray → Int → Int → Int → Int → Int → Int → Option (Int × Int × Int × Int × Int)
 | 0, _, _, _, _, _, _, _, _, _, _, _, _ => none
 | k + 1, x0, x9, x258000, x258001, x258002, x258003, x258004, x259000, x259001, x259002, x259003, x259004 => if x9 < (x0.length : Int) then ((fencepostref04_Jump.f x258000 x258001 x258002 x258003 x258004).bind fun t261 => (if t261 = true then (if 0 ≤ x9 then (if ((rd_T60 x0 x9).f0) = 11 then (if ((rd_T60 x0 x9).f3).toList = x258003.toList then (if x9 ≤ (x0.length : Int) then ((fencepostref07_ahead.f k (x0.take (x9 : Int).toNat)).bind fun t268 => (fencepostref07_step.l0 k x0 (wrap64 (x9 + 1)) x258000 x258001 x258002 x258003 x258004 x259000 x259001 x259002 x259003 t268)) else (none)) else (fencepostref07_step.l0 k x0 (wrap64 (x9 + 1)) x258000 x258001 x258002 x258003 x258004 x259000 x259001 x259002 x259003 x259004)) else (fencepostref07_step.l0 k x0 (wrap64 (x9 + 1)) x258000 x258001 x258002 x258003 x258004 x259000 x259001 x259002 x259003 x259004)) else (none)) else (fencepostref07_step.l0 k x0 (wrap64 (x9 + 1)) x258000 x258001 x258002 x258003 x258004 x259000 x259001 x259002 x259003 x259004))) else (some (x259000, x259001, x259002, x259003, x259004))
end
def fencepostref07_step.f (k : Nat) (l0 : List (S60)) (a1 : Int) (l2 : List ByteArray) : Option (Int × Int × Int × Int × Int) := if 0 ≤ a1 then (if a1 < (l0.length : Int) then (if ((rd_T60 l0 a1).f1).toList = ([] : List UInt8) then (fencepostref07_step.j0 k l0 l2 ((rd_T60 l0 a1).f0) ((rd_T60 l0 a1).f1) ((rd_T60 l0 a1).f2) ((rd_T60 l0 a1).f3) ((rd_T60 l0 a1).f4) ((rd_T60 l0 a1).f0) 0 0 ((rd_T60 l0 a1).f4) 0) else ((fencepostref02_Reg.f k ((rd_T60 l0 a1).f1)).bind fun t259 => (fencepostref07_step.j0 k l0 l2 ((rd_T60 l0 a1).f0) ((rd_T60 l0 a1).f1) ((rd_T60 l0 a1).f2) ((rd_T60 l0 a1).f3) ((rd_T60 l0 a1).f4) ((rd_T60 l0 a1).f0) t259 0 ((rd_T60 l0 a1).f4) 0))) else (none)) else (none)
def fencepostref07_step.T10 : Bool × List (List Nat × List Nat) := (true, [([], []), ([0], [0]), ([1, 1], [1]), ([2], [2]), ([2], [2]), ([3, 4, 2], [2, 3, 4]), ([5, 2], [2, 5]), ([6, 2], [2, 6]), ([7, 2], [2, 7]), ([2, 8], [2, 8]), ([9, 2], [9]), ([10], [10]), ([10], [10]), ([11, 12, 10], [10, 11, 12]), ([13, 10], [10, 13]), ([14, 10], [10, 14]), ([10], [10]), ([16, 10], [10, 16]), ([15, 17, 10], [10, 15, 17]), ([10, 18], [10, 18])])
def fencepostref07_step.B10 : List Nat := [0, 1, 3, 7, 7, 31, 63, 127, 255, 511, 1023, 2047, 2047, 8191, 16383, 32767, 2047, 67583, 262143, 524287]
theorem fencepostref07_step.tab10 : rtab .any (opsOf Try.f47 10) = fencepostref07_step.T10 := by kernel_rfl
theorem fencepostref07_step.bits10 : waitsOk fencepostref07_step.T10.2 fencepostref07_step.B10 = true := by kernel_rfl
set_option maxHeartbeats 8000000 in
set_option maxRecDepth 100000 in
theorem fencepostref07_step.calls (k : Nat) (A0 : Option Addr) (c0 : Nat) (l0 : List (S60)) (a1 : Int) (A2 : Option Addr) (c2 : Nat) (l2 : List ByteArray) (r1 : Int) (r2 : Int) (r3 : Int) (r4 : Int) (r5 : Int) (w : World) (hr0 : Kd.C k60 w A0 l0.length l0) (hc0 : l0.length ≤ c0) (hr2 : Kd.C Kd.string w A2 l2.length l2) (hc2 : l2.length ≤ c2) (h : fencepostref07_step.f k l0 a1 l2 = some (r1, r2, r3, r4, r5)) :
 Calls Try.prog 47 #[.slice A0 l0.length c0, .int .i64 a1, .slice A2 l2.length c2] w fun e w' => e = .returned (.agg #[.int .i64 r1, .int .i64 r2, .int .i64 r3, .int .i64 r4, .int .i64 r5]) ∧ Below w.heap.size w w' := by
 have hu53 := Try.underlying53
 have hu60 := Try.underlying60
 have HR0 := Aside0.mk hr0
 have HC0 := Aside0.mk hc0
 clear hr0 hc0
 have HR2 := Aside0.mk hr2
 have HC2 := Aside0.mk hc2
 clear hr2 hc2
 have HB := Aside0.mk (Below.refl w.heap.size w)
 have H : (if 0 ≤ a1 then (if a1 < (l0.length : Int) then (if ((rd_T60 l0 a1).f1).toList = ([] : List UInt8) then (fencepostref07_step.j0 k l0 l2 ((rd_T60 l0 a1).f0) ((rd_T60 l0 a1).f1) ((rd_T60 l0 a1).f2) ((rd_T60 l0 a1).f3) ((rd_T60 l0 a1).f4) ((rd_T60 l0 a1).f0) 0 0 ((rd_T60 l0 a1).f4) 0) else ((fencepostref02_Reg.f k ((rd_T60 l0 a1).f1)).bind fun t259 => (fencepostref07_step.j0 k l0 l2 ((rd_T60 l0 a1).f0) ((rd_T60 l0 a1).f1) ((rd_T60 l0 a1).f2) ((rd_T60 l0 a1).f3) ((rd_T60 l0 a1).f4) ((rd_T60 l0 a1).f0) t259 0 ((rd_T60 l0 a1).f4) 0))) else (none)) else (none)) = some (r1, r2, r3, r4, r5) := h
 clear h
 by_cases c4 : 0 ≤ a1
 rotate_left
 ·rw [if_neg c4] at H
  exact absurd H (by simp)
 rw [if_pos c4] at H
 have c4b0 : decide (0 ≤ a1) = true := decide_eq_true c4
 clear c4
 by_cases c5 : a1 < (l0.length : Int)
 rotate_left
 ·rw [if_neg c5] at H
  exact absurd H (by simp)
 rw [if_pos c5] at H
 have c5b0 : decide (a1 < (l0.length : Int)) = true := decide_eq_true c5
 clear c5
 have HC6 := Aside0.mk H
 clear H
 go_enter Try.func47, Try.ntmps47
 (try simp only [List.append_eq, List.cons_append, List.nil_append])
 go_upto_if 21 with (first | ((with_reducible refine gate_dst (N := 6) rfl ?_); refine box_event ?hg (N := 6) ?hd (cs := #[.int .i64 0, .int .i64 0, .int .i64 0, .int .i64 0, .int .i64 0]) (t := 53) ?hr ?_; (case hd => rfl); (case hg => rfl); (case hr => first | (go_simp; done) | (go_simp; rfl)); intro gb255 hg w7 hbox hb; have n0_ := Aside0.mk (below_step (hb_ HB.out) hb); have n1_ := Aside0.mk (hbox); have n2_ := Aside0.mk (gs_ hg (hb_ HB.out)); have n3_ := Aside0.mk (gs_ hg (hb_ HB.out)); clear HB; have HB := n0_; have BK255 := n1_; have GW255 := n2_; have GE255 := n3_; clear n0_ n1_ n2_ n3_; clear hb hbox hg; have p256 : 0 ≤ (a1 : Int) := of_decide_eq_true as_; have q256 : a1 < (l0.length : Int) := of_decide_eq_true as_; obtain ⟨ad256, e256, hx256_0, hx256_1, hx256_2, hx256_3, hx256_4⟩ := at_T60 HR0.out a1 p256 q256; cases e256; replace hx256_0 := cl_ HB.out hx256_0; replace hx256_1 := cl_ HB.out hx256_1; replace hx256_2 := cl_ HB.out hx256_2; replace hx256_3 := cl_ HB.out hx256_3; replace hx256_4 := cl_ HB.out hx256_4; replace p256 := eq_true p256; replace q256 := eq_true q256) | ((with_reducible refine gate_dst (N := 7) rfl ?_); refine box_event ?hg (N := 7) ?hd (cs := #[.int .i64 0, .string (⟨#[]⟩ : ByteArray), .string (⟨#[]⟩ : ByteArray), .string (⟨#[]⟩ : ByteArray), .int .i64 0]) (t := 60) ?hr ?_; (case hd => rfl); (case hg => rfl); (case hr => first | (go_simp; done) | (go_simp; rfl)); intro gb257 hg w8 hbox hb; have n0_ := Aside0.mk (bb_ BK255.out hb); have n1_ := Aside0.mk (below_step (hb_ HB.out) hb); have n2_ := Aside0.mk (hbox); have n3_ := Aside0.mk (gs_ hg (hb_ HB.out)); have n4_ := Aside0.mk (gs_ hg (hb_ HB.out)); have n5_ := Aside0.mk (gn_ hg BK255.out); have n6_ := Aside0.mk (gn_ hg BK255.out).symm; clear BK255; clear HB; have BK255 := n0_; have HB := n1_; have BK257 := n2_; have GW257 := n3_; have GE257 := n4_; have NB255_257 := n5_; have NB257_255 := n6_; clear n0_ n1_ n2_ n3_ n4_ n5_ n6_; clear hb hbox hg; have hnb9 := NB257_255.out; have hnc9 := NB255_257.out; have hcz10_0 : w8.cell? ⟨gb257, 0, none⟩ = some (.int .i64 0) := (blk_cell BK257.out 0).trans rfl; have hcz10_1 : w8.cell? ⟨gb257, 1, none⟩ = some (.string (⟨#[]⟩ : ByteArray)) := (blk_cell BK257.out 1).trans rfl; have hcz10_2 : w8.cell? ⟨gb257, 2, none⟩ = some (.string (⟨#[]⟩ : ByteArray)) := (blk_cell BK257.out 2).trans rfl; have hcz10_3 : w8.cell? ⟨gb257, 3, none⟩ = some (.string (⟨#[]⟩ : ByteArray)) := (blk_cell BK257.out 3).trans rfl; have hcz10_4 : w8.cell? ⟨gb257, 4, none⟩ = some (.int .i64 0) := (blk_cell BK257.out 4).trans rfl; have hfz10_0 := blk_frozen BK257.out 0; have hfz10_1 := blk_frozen BK257.out 1; have hfz10_2 := blk_frozen BK257.out 2; have hfz10_3 := blk_frozen BK257.out 3; have hfz10_4 := blk_frozen BK257.out 4) | ((with_reducible refine gate_dst (N := 8) rfl ?_); refine box_event ?hg (N := 8) ?hd (cs := #[.int .i64 0, .int .i64 0, .int .i64 0, .int .i64 0, .int .i64 0]) (t := 53) ?hr ?_; (case hd => rfl); (case hg => rfl); (case hr => first | (go_simp; done) | (go_simp; rfl)); intro gb258 hg w11 hbox hb; have n0_ := Aside0.mk (blk_below (g := gb255) (o := .cells #[.int .i64 0, .int .i64 0, .int .i64 0, .int .i64 0, .int .i64 0] 53 (0, 0)) (by exact bf5_ BK255.out NB255_257.out) hb); have n1_ := Aside0.mk (blk_below (g := gb257) (o := .cells #[.int .i64 ((rd_T60 l0 a1).f0), .string ((rd_T60 l0 a1).f1), .string ((rd_T60 l0 a1).f2), .string ((rd_T60 l0 a1).f3), .int .i64 ((rd_T60 l0 a1).f4)] 60 (0, 0)) (by exact bp5_ BK257.out) hb); have n2_ := Aside0.mk (below_step (hb_ HB.out) hb); have n3_ := Aside0.mk (hbox); have n4_ := Aside0.mk (gs_ hg (hb_ HB.out)); have n5_ := Aside0.mk (gs_ hg (hb_ HB.out)); have n6_ := Aside0.mk ((by rw [hg]; exact Nat.ne_of_lt (blk_lt (g := gb255) (o := .cells #[.int .i64 0, .int .i64 0, .int .i64 0, .int .i64 0, .int .i64 0] 53 (0, 0)) (by exact bf5_ BK255.out NB255_257.out)) : gb255 ≠ gb258)); have n7_ := Aside0.mk ((by rw [hg]; exact Nat.ne_of_gt (blk_lt (g := gb255) (o := .cells #[.int .i64 0, .int .i64 0, .int .i64 0, .int .i64 0, .int .i64 0] 53 (0, 0)) (by exact bf5_ BK255.out NB255_257.out)) : gb258 ≠ gb255)); have n8_ := Aside0.mk ((by rw [hg]; exact Nat.ne_of_lt (blk_lt (g := gb257) (o := .cells #[.int .i64 ((rd_T60 l0 a1).f0), .string ((rd_T60 l0 a1).f1), .string ((rd_T60 l0 a1).f2), .string ((rd_T60 l0 a1).f3), .int .i64 ((rd_T60 l0 a1).f4)] 60 (0, 0)) (by exact bp5_ BK257.out)) : gb257 ≠ gb258)); have n9_ := Aside0.mk ((by rw [hg]; exact Nat.ne_of_gt (blk_lt (g := gb257) (o := .cells #[.int .i64 ((rd_T60 l0 a1).f0), .string ((rd_T60 l0 a1).f1), .string ((rd_T60 l0 a1).f2), .string ((rd_T60 l0 a1).f3), .int .i64 ((rd_T60 l0 a1).f4)] 60 (0, 0)) (by exact bp5_ BK257.out)) : gb258 ≠ gb257)); clear BK255; clear BK257; clear HB; have BK255 := n0_; have BK257 := n1_; have HB := n2_; have BK258 := n3_; have GW258 := n4_; have GE258 := n5_; have NB255_258 := n6_; have NB258_255 := n7_; have NB257_258 := n8_; have NB258_257 := n9_; clear n0_ n1_ n2_ n3_ n4_ n5_ n6_ n7_ n8_ n9_; clear hb hbox hg; have hnb12 := NB258_255.out; have hnc12 := NB255_258.out; have hnb13 := NB258_257.out; have hnc13 := NB257_258.out; have hcz14_0 : w11.cell? ⟨gb258, 0, none⟩ = some (.int .i64 0) := (blk_cell BK258.out 0).trans rfl; have hcz14_1 : w11.cell? ⟨gb258, 1, none⟩ = some (.int .i64 0) := (blk_cell BK258.out 1).trans rfl; have hcz14_2 : w11.cell? ⟨gb258, 2, none⟩ = some (.int .i64 0) := (blk_cell BK258.out 2).trans rfl; have hcz14_3 : w11.cell? ⟨gb258, 3, none⟩ = some (.int .i64 0) := (blk_cell BK258.out 3).trans rfl; have hcz14_4 : w11.cell? ⟨gb258, 4, none⟩ = some (.int .i64 0) := (blk_cell BK258.out 4).trans rfl; have hfz14_0 := blk_frozen BK258.out 0; have hfz14_1 := blk_frozen BK258.out 1; have hfz14_2 := blk_frozen BK258.out 2; have hfz14_3 := blk_frozen BK258.out 3; have hfz14_4 := blk_frozen BK258.out 4; have hcz15_0 : w11.cell? ⟨gb257, 0, none⟩ = some (.int .i64 ((rd_T60 l0 a1).f0)) := (blk_cell BK257.out 0).trans rfl; have hcz15_1 : w11.cell? ⟨gb257, 1, none⟩ = some (.string ((rd_T60 l0 a1).f1)) := (blk_cell BK257.out 1).trans rfl; have hcz15_2 : w11.cell? ⟨gb257, 2, none⟩ = some (.string ((rd_T60 l0 a1).f2)) := (blk_cell BK257.out 2).trans rfl; have hcz15_3 : w11.cell? ⟨gb257, 3, none⟩ = some (.string ((rd_T60 l0 a1).f3)) := (blk_cell BK257.out 3).trans rfl; have hcz15_4 : w11.cell? ⟨gb257, 4, none⟩ = some (.int .i64 ((rd_T60 l0 a1).f4)) := (blk_cell BK257.out 4).trans rfl; have hfz15_0 := blk_frozen BK257.out 0; have hfz15_1 := blk_frozen BK257.out 1; have hfz15_2 := blk_frozen BK257.out 2; have hfz15_3 := blk_frozen BK257.out 3; have hfz15_4 := blk_frozen BK257.out 4))
 (try simp only [Act.put, List.setIfInBounds_toArray, List.set_cons_zero, List.set_cons_succ])
 go_cut [] (fun wc => ∃ (kq : Nat) (x259001_5 : Int), Aside0 (fencepostref07_step.j0 kq l0 l2 ((rd_T60 l0 a1).f0) ((rd_T60 l0 a1).f1) ((rd_T60 l0 a1).f2) ((rd_T60 l0 a1).f3) ((rd_T60 l0 a1).f4) ((rd_T60 l0 a1).f0) x259001_5 0 ((rd_T60 l0 a1).f4) 0 = some (r1, r2, r3, r4, r5)) ∧ Aside0 (kq ≤ k) ∧ Aside0 (wc.heap[gb255]? = some (.cells #[.int .i64 0, .int .i64 0, .int .i64 0, .int .i64 0, .int .i64 0] 53 (0, 0))) ∧ Aside0 (wc.heap[gb257]? = some (.cells #[.int .i64 ((rd_T60 l0 a1).f0), .string ((rd_T60 l0 a1).f1), .string ((rd_T60 l0 a1).f2), .string ((rd_T60 l0 a1).f3), .int .i64 ((rd_T60 l0 a1).f4)] 60 (0, 0))) ∧ Aside0 (wc.heap[gb258]? = some (.cells #[.int .i64 ((rd_T60 l0 a1).f0), .int .i64 x259001_5, .int .i64 0, .int .i64 ((rd_T60 l0 a1).f4), .int .i64 0] 53 (0, 0))) ∧ Aside0 (Below w.heap.size w wc))
 case first =>
  have H := HC6.out
  clear HC6
  by_cases c16 : ((rd_T60 l0 a1).f1).toList = ([] : List UInt8)
  ·rw [if_pos c16] at H
   have c16b0 : (((rd_T60 l0 a1).f1).toList == ([] : List UInt8)) = true := beq_iff_eq.mpr c16
   have c16b0e := emp2 c16b0
   have c16b1 : (((rd_T60 l0 a1).f1).toList != ([] : List UInt8)) = false := bne_eq_false_iff_eq.mpr c16
   clear c16
   (first | rw [c16b0] | (simp only [i64_w, i32_w]; rw [c16b0]) | rw [c16b0e] | skip)
   have H' := Aside0.mk H
   clear H
   go_wp2
   go_meet
   case rel => exact ⟨_, (0), H', ⟨by first | omega | exact Nat.le_refl _⟩, ⟨by exact bf5_ BK255.out NB255_258.out⟩, ⟨by exact bf5_ BK257.out NB257_258.out⟩, ⟨by exact bp5_ BK258.out⟩, ⟨hb_ HB.out⟩⟩
  rw [if_neg c16] at H
  have c16b0 : (((rd_T60 l0 a1).f1).toList == ([] : List UInt8)) = false := beq_eq_false_iff_ne.mpr c16
  have c16b0e := emp2 c16b0
  have c16b1 : (((rd_T60 l0 a1).f1).toList != ([] : List UInt8)) = true := bne_iff_ne.mpr c16
  (first | rw [c16b0] | (simp only [i64_w, i32_w]; rw [c16b0]) | rw [c16b0e] | skip)
  replace H := Option.bind_eq_some_iff.mp H
  obtain ⟨t259, A170, H⟩ := H
  replace H : (fencepostref07_step.j0 k l0 l2 ((rd_T60 l0 a1).f0) ((rd_T60 l0 a1).f1) ((rd_T60 l0 a1).f2) ((rd_T60 l0 a1).f3) ((rd_T60 l0 a1).f4) ((rd_T60 l0 a1).f0) t259 0 ((rd_T60 l0 a1).f4) 0) = some (r1, r2, r3, r4, r5) := H
  have A17 := Aside0.mk A170
  clear A170
  have H' := Aside0.mk H
  clear H
  have hnb18 := NB257_255.out
  have hnc18 := NB255_257.out
  have hnb19 := NB257_258.out
  have hnc19 := NB258_257.out
  have hcz20_0 : w11.cell? ⟨gb257, 0, none⟩ = some (.int .i64 ((rd_T60 l0 a1).f0)) := (blk_cell BK257.out 0).trans rfl
  have hcz20_1 : w11.cell? ⟨gb257, 1, none⟩ = some (.string ((rd_T60 l0 a1).f1)) := (blk_cell BK257.out 1).trans rfl
  have hcz20_2 : w11.cell? ⟨gb257, 2, none⟩ = some (.string ((rd_T60 l0 a1).f2)) := (blk_cell BK257.out 2).trans rfl
  have hcz20_3 : w11.cell? ⟨gb257, 3, none⟩ = some (.string ((rd_T60 l0 a1).f3)) := (blk_cell BK257.out 3).trans rfl
  have hcz20_4 : w11.cell? ⟨gb257, 4, none⟩ = some (.int .i64 ((rd_T60 l0 a1).f4)) := (blk_cell BK257.out 4).trans rfl
  have hfz20_0 := blk_frozen BK257.out 0
  have hfz20_1 := blk_frozen BK257.out 1
  have hfz20_2 := blk_frozen BK257.out 2
  have hfz20_3 := blk_frozen BK257.out 3
  have hfz20_4 := blk_frozen BK257.out 4
  go_wp2_with (first | ((with_reducible refine gate_callee (f := 57) rfl ?_); refine goesL_ (some 24) rfl rfl Try.func57 (by kernel_rfl) rfl #[.string ((rd_T60 l0 a1).f1)] rfl ar_ ?_; (with_reducible refine (fencepostref02_Reg.calls k ((rd_T60 l0 a1).f1) t259 _ A17.out).mono ?_); rintro e w21 ⟨rfl, hb⟩; refine ⟨_, rfl, ?_⟩; have n0_ := Aside0.mk (blk_below (g := gb255) (o := .cells #[.int .i64 0, .int .i64 0, .int .i64 0, .int .i64 0, .int .i64 0] 53 (0, 0)) (by exact bf5_ BK255.out NB255_258.out) hb); have n1_ := Aside0.mk (blk_below (g := gb257) (o := .cells #[.int .i64 ((rd_T60 l0 a1).f0), .string ((rd_T60 l0 a1).f1), .string ((rd_T60 l0 a1).f2), .string ((rd_T60 l0 a1).f3), .int .i64 ((rd_T60 l0 a1).f4)] 60 (0, 0)) (by exact bf5_ BK257.out NB257_258.out) hb); have n2_ := Aside0.mk (blk_below (g := gb258) (o := .cells #[.int .i64 ((rd_T60 l0 a1).f0), .int .i64 0, .int .i64 0, .int .i64 ((rd_T60 l0 a1).f4), .int .i64 0] 53 (0, 0)) (by exact bp5_ BK258.out) hb); have n3_ := Aside0.mk (below_step (hb_ HB.out) hb); clear BK255; clear BK257; clear BK258; clear HB; have BK255 := n0_; have BK257 := n1_; have BK258 := n2_; have HB := n3_; clear n0_ n1_ n2_ n3_; (try clear hb); (try clear hb2); (try clear hk); (try clear hi); have hnb22 := NB258_255.out; have hnc22 := NB255_258.out; have hcz23_0 : w21.cell? ⟨gb258, 0, none⟩ = some (.int .i64 ((rd_T60 l0 a1).f0)) := (blk_cell BK258.out 0).trans rfl; have hcz23_1 : w21.cell? ⟨gb258, 1, none⟩ = some (.int .i64 0) := (blk_cell BK258.out 1).trans rfl; have hcz23_2 : w21.cell? ⟨gb258, 2, none⟩ = some (.int .i64 0) := (blk_cell BK258.out 2).trans rfl; have hcz23_3 : w21.cell? ⟨gb258, 3, none⟩ = some (.int .i64 ((rd_T60 l0 a1).f4)) := (blk_cell BK258.out 3).trans rfl; have hcz23_4 : w21.cell? ⟨gb258, 4, none⟩ = some (.int .i64 0) := (blk_cell BK258.out 4).trans rfl; have hfz23_0 := blk_frozen BK258.out 0; have hfz23_1 := blk_frozen BK258.out 1; have hfz23_2 := blk_frozen BK258.out 2; have hfz23_3 := blk_frozen BK258.out 3; have hfz23_4 := blk_frozen BK258.out 4))
  go_meet
  case rel => exact ⟨_, (t259), H', ⟨by first | omega | exact Nat.le_refl _⟩, ⟨by (with_reducible repeat (first | refine blk_drewN ?_ _ | refine blk_drew ?_ | refine blk_alloc ?_ _)); refine blk_far ?_ NB255_258.out _; (with_reducible repeat (first | refine blk_drewN ?_ _ | refine blk_drew ?_ | refine blk_alloc ?_ _)); exact BK255.out⟩, ⟨by (with_reducible repeat (first | refine blk_drewN ?_ _ | refine blk_drew ?_ | refine blk_alloc ?_ _)); refine blk_far ?_ NB257_258.out _; (with_reducible repeat (first | refine blk_drewN ?_ _ | refine blk_drew ?_ | refine blk_alloc ?_ _)); exact BK257.out⟩, ⟨by (with_reducible repeat (first | refine blk_drewN ?_ _ | refine blk_drew ?_ | refine blk_alloc ?_ _)); refine blk_put (cs := #[.int .i64 ((rd_T60 l0 a1).f0), .int .i64 0, .int .i64 0, .int .i64 ((rd_T60 l0 a1).f4), .int .i64 0]) ?_ 1 _ rfl; (with_reducible repeat (first | refine blk_drewN ?_ _ | refine blk_drew ?_ | refine blk_alloc ?_ _)); exact BK258.out⟩, ⟨hb_ HB.out⟩⟩
 clear HC6
 try clear c2
 try clear c4
 try clear c4b0
 try clear c5
 try clear c5b0
 try clear hcz10_0
 try clear hcz10_1
 try clear hcz10_2
 try clear hcz10_3
 try clear hcz10_4
 try clear hcz14_0
 try clear hcz14_1
 try clear hcz14_2
 try clear hcz14_3
 try clear hcz14_4
 try clear hcz15_0
 try clear hcz15_1
 try clear hcz15_2
 try clear hcz15_3
 try clear hcz15_4
 try clear hfz10_0
 try clear hfz10_1
 try clear hfz10_2
 try clear hfz10_3
 try clear hfz10_4
 try clear hfz14_0
 try clear hfz14_1
 try clear hfz14_2
 try clear hfz14_3
 try clear hfz14_4
 try clear hfz15_0
 try clear hfz15_1
 try clear hfz15_2
 try clear hfz15_3
 try clear hfz15_4
 try clear hx256_0
 try clear hx256_1
 try clear hx256_2
 try clear hx256_3
 try clear hx256_4
 try clear p256
 try clear q256
 obtain ⟨kq, x259001_5, HA, HJ5, BK255, BK257, BK258, HB⟩ := hcut
 cases kq with
 | zero => exact absurd HA.out (by simp [fencepostref07_step.j0])
 | succ kj5 => ?_
 have H := HA.out
 clear HA
 simp only [fencepostref07_step.j0] at H
 have HC24 := Aside0.mk H
 clear H
 have hnb25 := NB257_255.out
 have hnc25 := NB255_257.out
 have hnb26 := NB257_258.out
 have hnc26 := NB258_257.out
 have hcz27_0 : wc.cell? ⟨gb257, 0, none⟩ = some (.int .i64 ((rd_T60 l0 a1).f0)) := (blk_cell BK257.out 0).trans rfl
 have hcz27_1 : wc.cell? ⟨gb257, 1, none⟩ = some (.string ((rd_T60 l0 a1).f1)) := (blk_cell BK257.out 1).trans rfl
 have hcz27_2 : wc.cell? ⟨gb257, 2, none⟩ = some (.string ((rd_T60 l0 a1).f2)) := (blk_cell BK257.out 2).trans rfl
 have hcz27_3 : wc.cell? ⟨gb257, 3, none⟩ = some (.string ((rd_T60 l0 a1).f3)) := (blk_cell BK257.out 3).trans rfl
 have hcz27_4 : wc.cell? ⟨gb257, 4, none⟩ = some (.int .i64 ((rd_T60 l0 a1).f4)) := (blk_cell BK257.out 4).trans rfl
 have hfz27_0 := blk_frozen BK257.out 0
 have hfz27_1 := blk_frozen BK257.out 1
 have hfz27_2 := blk_frozen BK257.out 2
 have hfz27_3 := blk_frozen BK257.out 3
 have hfz27_4 := blk_frozen BK257.out 4
 go_upto_if 28 with (fail)
 go_cut [] (fun wc => ∃ (kq : Nat) (x259002_23 : Int), Aside0 (fencepostref07_step.j1 kq l0 ((rd_T60 l0 a1).f0) ((rd_T60 l0 a1).f1) ((rd_T60 l0 a1).f2) ((rd_T60 l0 a1).f3) ((rd_T60 l0 a1).f4) ((rd_T60 l0 a1).f0) x259001_5 x259002_23 ((rd_T60 l0 a1).f4) 0 = some (r1, r2, r3, r4, r5)) ∧ Aside0 (kq ≤ kj5) ∧ Aside0 (wc.heap[gb255]? = some (.cells #[.int .i64 0, .int .i64 0, .int .i64 0, .int .i64 0, .int .i64 0] 53 (0, 0))) ∧ Aside0 (wc.heap[gb257]? = some (.cells #[.int .i64 ((rd_T60 l0 a1).f0), .string ((rd_T60 l0 a1).f1), .string ((rd_T60 l0 a1).f2), .string ((rd_T60 l0 a1).f3), .int .i64 ((rd_T60 l0 a1).f4)] 60 (0, 0))) ∧ Aside0 (wc.heap[gb258]? = some (.cells #[.int .i64 ((rd_T60 l0 a1).f0), .int .i64 x259001_5, .int .i64 x259002_23, .int .i64 ((rd_T60 l0 a1).f4), .int .i64 0] 53 (0, 0))) ∧ Aside0 (Below w.heap.size w wc))
 case first =>
  have H := HC24.out
  clear HC24
  by_cases c28 : ((rd_T60 l0 a1).f2).toList = ([] : List UInt8)
  ·rw [if_pos c28] at H
   have c28b0 : (((rd_T60 l0 a1).f2).toList == ([] : List UInt8)) = true := beq_iff_eq.mpr c28
   have c28b0e := emp2 c28b0
   have c28b1 : (((rd_T60 l0 a1).f2).toList != ([] : List UInt8)) = false := bne_eq_false_iff_eq.mpr c28
   clear c28
   (first | rw [c28b0] | (simp only [i64_w, i32_w]; rw [c28b0]) | rw [c28b0e] | skip)
   have H' := Aside0.mk H
   clear H
   go_wp2
   go_meet
   case rel => exact ⟨_, (0), H', ⟨by have := HJ5.out; first | omega | exact Nat.le_refl _⟩, ⟨bd_ BK255.out⟩, ⟨bd_ BK257.out⟩, ⟨bd_ BK258.out⟩, ⟨hb_ HB.out⟩⟩
  rw [if_neg c28] at H
  have c28b0 : (((rd_T60 l0 a1).f2).toList == ([] : List UInt8)) = false := beq_eq_false_iff_ne.mpr c28
  have c28b0e := emp2 c28b0
  have c28b1 : (((rd_T60 l0 a1).f2).toList != ([] : List UInt8)) = true := bne_iff_ne.mpr c28
  (first | rw [c28b0] | (simp only [i64_w, i32_w]; rw [c28b0]) | rw [c28b0e] | skip)
  replace H := Option.bind_eq_some_iff.mp H
  obtain ⟨t260, A290, H⟩ := H
  replace H : (fencepostref07_step.j1 kj5 l0 ((rd_T60 l0 a1).f0) ((rd_T60 l0 a1).f1) ((rd_T60 l0 a1).f2) ((rd_T60 l0 a1).f3) ((rd_T60 l0 a1).f4) ((rd_T60 l0 a1).f0) x259001_5 t260 ((rd_T60 l0 a1).f4) 0) = some (r1, r2, r3, r4, r5) := H
  have A29 := Aside0.mk A290
  clear A290
  have H' := Aside0.mk H
  clear H
  have hnb30 := NB257_255.out
  have hnc30 := NB255_257.out
  have hnb31 := NB257_258.out
  have hnc31 := NB258_257.out
  have hcz32_0 : wc.cell? ⟨gb257, 0, none⟩ = some (.int .i64 ((rd_T60 l0 a1).f0)) := (blk_cell BK257.out 0).trans rfl
  have hcz32_1 : wc.cell? ⟨gb257, 1, none⟩ = some (.string ((rd_T60 l0 a1).f1)) := (blk_cell BK257.out 1).trans rfl
  have hcz32_2 : wc.cell? ⟨gb257, 2, none⟩ = some (.string ((rd_T60 l0 a1).f2)) := (blk_cell BK257.out 2).trans rfl
  have hcz32_3 : wc.cell? ⟨gb257, 3, none⟩ = some (.string ((rd_T60 l0 a1).f3)) := (blk_cell BK257.out 3).trans rfl
  have hcz32_4 : wc.cell? ⟨gb257, 4, none⟩ = some (.int .i64 ((rd_T60 l0 a1).f4)) := (blk_cell BK257.out 4).trans rfl
  have hfz32_0 := blk_frozen BK257.out 0
  have hfz32_1 := blk_frozen BK257.out 1
  have hfz32_2 := blk_frozen BK257.out 2
  have hfz32_3 := blk_frozen BK257.out 3
  have hfz32_4 := blk_frozen BK257.out 4
  go_wp2_with (first | ((with_reducible refine gate_callee (f := 46) rfl ?_); refine goesL_ (some 32) rfl rfl Try.func46 (by kernel_rfl) rfl #[.slice A2 l2.length c2, .string ((rd_T60 l0 a1).f2)] rfl ar_ ?_; (with_reducible refine (fencepostref07_place.calls kj5 _ _ l2 ((rd_T60 l0 a1).f2) t260 _ ?side1 ?side2 A29.out).mono ?_); (case side1 => exact cd_ (Kd.C_below HR2.out HB.out)); (case side2 => exact HC2.out); rintro e w' ⟨rfl, ⟨nd, rfl⟩⟩; refine ⟨_, rfl, ?_⟩; (try (rw [drewN_self wc]; generalize hq_ : World.drewN wc _ = wc; have n0_ : Aside0 (wc.heap[gb255]? = some (.cells #[.int .i64 0, .int .i64 0, .int .i64 0, .int .i64 0, .int .i64 0] 53 (0, 0))) := ⟨by rw [← hq_]; exact (bd_ BK255.out)⟩; have n1_ : Aside0 (wc.heap[gb257]? = some (.cells #[.int .i64 ((rd_T60 l0 a1).f0), .string ((rd_T60 l0 a1).f1), .string ((rd_T60 l0 a1).f2), .string ((rd_T60 l0 a1).f3), .int .i64 ((rd_T60 l0 a1).f4)] 60 (0, 0))) := ⟨by rw [← hq_]; exact (bd_ BK257.out)⟩; have n2_ : Aside0 (wc.heap[gb258]? = some (.cells #[.int .i64 ((rd_T60 l0 a1).f0), .int .i64 x259001_5, .int .i64 0, .int .i64 ((rd_T60 l0 a1).f4), .int .i64 0] 53 (0, 0))) := ⟨by rw [← hq_]; exact (bd_ BK258.out)⟩; have n3_ : Aside0 (Below w.heap.size w wc) := ⟨by rw [← hq_]; exact (hb_ HB.out)⟩; clear BK255 BK257 BK258 HB hq_; have BK255 := n0_; have BK257 := n1_; have BK258 := n2_; have HB := n3_; clear n0_ n1_ n2_ n3_)); have hnb33 := NB258_255.out; have hnc33 := NB255_258.out; have hcz34_0 : wc.cell? ⟨gb258, 0, none⟩ = some (.int .i64 ((rd_T60 l0 a1).f0)) := (blk_cell BK258.out 0).trans rfl; have hcz34_1 : wc.cell? ⟨gb258, 1, none⟩ = some (.int .i64 x259001_5) := (blk_cell BK258.out 1).trans rfl; have hcz34_2 : wc.cell? ⟨gb258, 2, none⟩ = some (.int .i64 0) := (blk_cell BK258.out 2).trans rfl; have hcz34_3 : wc.cell? ⟨gb258, 3, none⟩ = some (.int .i64 ((rd_T60 l0 a1).f4)) := (blk_cell BK258.out 3).trans rfl; have hcz34_4 : wc.cell? ⟨gb258, 4, none⟩ = some (.int .i64 0) := (blk_cell BK258.out 4).trans rfl; have hfz34_0 := blk_frozen BK258.out 0; have hfz34_1 := blk_frozen BK258.out 1; have hfz34_2 := blk_frozen BK258.out 2; have hfz34_3 := blk_frozen BK258.out 3; have hfz34_4 := blk_frozen BK258.out 4))
  go_meet
  case rel => exact ⟨_, (t260), H', ⟨by have := HJ5.out; first | omega | exact Nat.le_refl _⟩, ⟨by (with_reducible repeat (first | refine blk_drewN ?_ _ | refine blk_drew ?_ | refine blk_alloc ?_ _)); refine blk_far ?_ NB255_258.out _; (with_reducible repeat (first | refine blk_drewN ?_ _ | refine blk_drew ?_ | refine blk_alloc ?_ _)); exact BK255.out⟩, ⟨by (with_reducible repeat (first | refine blk_drewN ?_ _ | refine blk_drew ?_ | refine blk_alloc ?_ _)); refine blk_far ?_ NB257_258.out _; (with_reducible repeat (first | refine blk_drewN ?_ _ | refine blk_drew ?_ | refine blk_alloc ?_ _)); exact BK257.out⟩, ⟨by (with_reducible repeat (first | refine blk_drewN ?_ _ | refine blk_drew ?_ | refine blk_alloc ?_ _)); refine blk_put (cs := #[.int .i64 ((rd_T60 l0 a1).f0), .int .i64 x259001_5, .int .i64 0, .int .i64 ((rd_T60 l0 a1).f4), .int .i64 0]) ?_ 2 _ rfl; (with_reducible repeat (first | refine blk_drewN ?_ _ | refine blk_drew ?_ | refine blk_alloc ?_ _)); exact BK258.out⟩, ⟨hb_ HB.out⟩⟩
 clear HC24
 try clear c2
 try clear c4
 try clear c4b0
 try clear c5
 try clear c5b0
 try clear hcz10_0
 try clear hcz10_1
 try clear hcz10_2
 try clear hcz10_3
 try clear hcz10_4
 try clear hcz14_0
 try clear hcz14_1
 try clear hcz14_2
 try clear hcz14_3
 try clear hcz14_4
 try clear hcz15_0
 try clear hcz15_1
 try clear hcz15_2
 try clear hcz15_3
 try clear hcz15_4
 try clear hcz27_0
 try clear hcz27_1
 try clear hcz27_2
 try clear hcz27_3
 try clear hcz27_4
 try clear hfz10_0
 try clear hfz10_1
 try clear hfz10_2
 try clear hfz10_3
 try clear hfz10_4
 try clear hfz14_0
 try clear hfz14_1
 try clear hfz14_2
 try clear hfz14_3
 try clear hfz14_4
 try clear hfz15_0
 try clear hfz15_1
 try clear hfz15_2
 try clear hfz15_3
 try clear hfz15_4
 try clear hfz27_0
 try clear hfz27_1
 try clear hfz27_2
 try clear hfz27_3
 try clear hfz27_4
 try clear hx256_0
 try clear hx256_1
 try clear hx256_2
 try clear hx256_3
 try clear hx256_4
 try clear p256
 try clear q256
 obtain ⟨kq, x259002_23, HA, HJ23, BK255, BK257, BK258, HB⟩ := hcut
 cases kq with
 | zero => exact absurd HA.out (by simp [fencepostref07_step.j1])
 | succ kj23 => ?_
 have H := HA.out
 clear HA
 simp only [fencepostref07_step.j1] at H
 have H' := Aside0.mk H
 clear H
 go_wp2
 go_loopg [9] kj23 (fun kq v9 w' => ∃ (x9_3 : Int) (x259004_3 : Int), v9 = .int .i64 x9_3 ∧ Aside0 (fencepostref07_step.l0 kq l0 x9_3 ((rd_T60 l0 a1).f0) ((rd_T60 l0 a1).f1) ((rd_T60 l0 a1).f2) ((rd_T60 l0 a1).f3) ((rd_T60 l0 a1).f4) ((rd_T60 l0 a1).f0) x259001_5 x259002_23 ((rd_T60 l0 a1).f4) x259004_3 = some (r1, r2, r3, r4, r5)) ∧ Aside0 (kq ≤ kj23) ∧ Aside0 (w'.heap[gb255]? = some (.cells #[.int .i64 0, .int .i64 0, .int .i64 0, .int .i64 0, .int .i64 0] 53 (0, 0))) ∧ Aside0 (w'.heap[gb257]? = some (.cells #[.int .i64 ((rd_T60 l0 a1).f0), .string ((rd_T60 l0 a1).f1), .string ((rd_T60 l0 a1).f2), .string ((rd_T60 l0 a1).f3), .int .i64 ((rd_T60 l0 a1).f4)] 60 (0, 0))) ∧ Aside0 (w'.heap[gb258]? = some (.cells #[.int .i64 ((rd_T60 l0 a1).f0), .int .i64 x259001_5, .int .i64 x259002_23, .int .i64 ((rd_T60 l0 a1).f4), .int .i64 x259004_3] 53 (0, 0))) ∧ Aside0 (Below w.heap.size w w'))
 case atStart => exact ⟨(0), (0), rf_, H', ⟨Nat.le_refl _⟩, ⟨bd_ BK255.out⟩, ⟨bd_ BK257.out⟩, ⟨bd_ BK258.out⟩, ⟨hb_ HB.out⟩⟩
 clear H'
 try clear c2
 try clear c4
 try clear c4b0
 try clear c5
 try clear c5b0
 try clear hcz10_0
 try clear hcz10_1
 try clear hcz10_2
 try clear hcz10_3
 try clear hcz10_4
 try clear hcz14_0
 try clear hcz14_1
 try clear hcz14_2
 try clear hcz14_3
 try clear hcz14_4
 try clear hcz15_0
 try clear hcz15_1
 try clear hcz15_2
 try clear hcz15_3
 try clear hcz15_4
 try clear hcz27_0
 try clear hcz27_1
 try clear hcz27_2
 try clear hcz27_3
 try clear hcz27_4
 try clear hfz10_0
 try clear hfz10_1
 try clear hfz10_2
 try clear hfz10_3
 try clear hfz10_4
 try clear hfz14_0
 try clear hfz14_1
 try clear hfz14_2
 try clear hfz14_3
 try clear hfz14_4
 try clear hfz15_0
 try clear hfz15_1
 try clear hfz15_2
 try clear hfz15_3
 try clear hfz15_4
 try clear hfz27_0
 try clear hfz27_1
 try clear hfz27_2
 try clear hfz27_3
 try clear hfz27_4
 try clear hx256_0
 try clear hx256_1
 try clear hx256_2
 try clear hx256_3
 try clear hx256_4
 try clear p256
 try clear q256
 obtain ⟨x9_3, x259004_3, rfl, HA, HK3, BK255, BK257, BK258, HB⟩ := hrel
 cases gk with
 | zero => exact absurd HA.out (by simp [fencepostref07_step.l0])
 | succ k3 => ?_
 have H := HA.out
 clear HA
 simp only [fencepostref07_step.l0] at H
 by_cases c35 : x9_3 < (l0.length : Int)
 rotate_left
 ·rw [if_neg c35] at H
  have c35b0 : decide (x9_3 < (l0.length : Int)) = false := decide_eq_false c35
  clear c35
  simp only [Option.some.injEq, Prod.mk.injEq] at H
  obtain ⟨rfl, rfl, rfl, rfl, rfl⟩ := H
  have hnb56 := NB258_255.out
  have hnc56 := NB255_258.out
  have hnb57 := NB258_257.out
  have hnc57 := NB257_258.out
  have hcz58_0 : wr.cell? ⟨gb258, 0, none⟩ = some (.int .i64 ((rd_T60 l0 a1).f0)) := (blk_cell BK258.out 0).trans rfl
  have hcz58_1 : wr.cell? ⟨gb258, 1, none⟩ = some (.int .i64 x259001_5) := (blk_cell BK258.out 1).trans rfl
  have hcz58_2 : wr.cell? ⟨gb258, 2, none⟩ = some (.int .i64 x259002_23) := (blk_cell BK258.out 2).trans rfl
  have hcz58_3 : wr.cell? ⟨gb258, 3, none⟩ = some (.int .i64 ((rd_T60 l0 a1).f4)) := (blk_cell BK258.out 3).trans rfl
  have hcz58_4 : wr.cell? ⟨gb258, 4, none⟩ = some (.int .i64 x259004_3) := (blk_cell BK258.out 4).trans rfl
  have hfz58_0 := blk_frozen BK258.out 0
  have hfz58_1 := blk_frozen BK258.out 1
  have hfz58_2 := blk_frozen BK258.out 2
  have hfz58_3 := blk_frozen BK258.out 3
  have hfz58_4 := blk_frozen BK258.out 4
  have hnb59 := NB255_257.out
  have hnc59 := NB257_255.out
  have hcz60_0 : wr.cell? ⟨gb255, 0, none⟩ = some (.int .i64 0) := (blk_cell BK255.out 0).trans rfl
  have hcz60_1 : wr.cell? ⟨gb255, 1, none⟩ = some (.int .i64 0) := (blk_cell BK255.out 1).trans rfl
  have hcz60_2 : wr.cell? ⟨gb255, 2, none⟩ = some (.int .i64 0) := (blk_cell BK255.out 2).trans rfl
  have hcz60_3 : wr.cell? ⟨gb255, 3, none⟩ = some (.int .i64 0) := (blk_cell BK255.out 3).trans rfl
  have hcz60_4 : wr.cell? ⟨gb255, 4, none⟩ = some (.int .i64 0) := (blk_cell BK255.out 4).trans rfl
  have hfz60_0 := blk_frozen BK255.out 0
  have hfz60_1 := blk_frozen BK255.out 1
  have hfz60_2 := blk_frozen BK255.out 2
  have hfz60_3 := blk_frozen BK255.out 3
  have hfz60_4 := blk_frozen BK255.out 4
  go_wp2
  refine bodyPost_ret (results_cell_row rfl _ _ gb255 53 #[.int .i64 ((rd_T60 l0 a1).f0), .int .i64 x259001_5, .int .i64 x259002_23, .int .i64 ((rd_T60 l0 a1).f4), .int .i64 x259004_3] (0, 0) _ rfl (by exact bp5_ BK255.out) Try.underlying53 rfl (by kernel_rfl)) rfl ?_
  exact ⟨by first | rfl | (simp [errW_none, errW_some] <;> rfl) | (simp [*, errW_none, errW_some] <;> rfl), hb_ HB.out⟩
 rw [if_pos c35] at H
 have c35b0 : decide (x9_3 < (l0.length : Int)) = true := decide_eq_true c35
 clear c35
 replace H := Option.bind_eq_some_iff.mp H
 obtain ⟨t261, A360, H⟩ := H
 replace H : (if t261 = true then (if 0 ≤ x9_3 then (if ((rd_T60 l0 x9_3).f0) = 11 then (if ((rd_T60 l0 x9_3).f3).toList = ((rd_T60 l0 a1).f3).toList then (if x9_3 ≤ (l0.length : Int) then ((fencepostref07_ahead.f k3 (l0.take (x9_3 : Int).toNat)).bind fun t268 => (fencepostref07_step.l0 k3 l0 (wrap64 (x9_3 + 1)) ((rd_T60 l0 a1).f0) ((rd_T60 l0 a1).f1) ((rd_T60 l0 a1).f2) ((rd_T60 l0 a1).f3) ((rd_T60 l0 a1).f4) ((rd_T60 l0 a1).f0) x259001_5 x259002_23 ((rd_T60 l0 a1).f4) t268)) else (none)) else (fencepostref07_step.l0 k3 l0 (wrap64 (x9_3 + 1)) ((rd_T60 l0 a1).f0) ((rd_T60 l0 a1).f1) ((rd_T60 l0 a1).f2) ((rd_T60 l0 a1).f3) ((rd_T60 l0 a1).f4) ((rd_T60 l0 a1).f0) x259001_5 x259002_23 ((rd_T60 l0 a1).f4) x259004_3)) else (fencepostref07_step.l0 k3 l0 (wrap64 (x9_3 + 1)) ((rd_T60 l0 a1).f0) ((rd_T60 l0 a1).f1) ((rd_T60 l0 a1).f2) ((rd_T60 l0 a1).f3) ((rd_T60 l0 a1).f4) ((rd_T60 l0 a1).f0) x259001_5 x259002_23 ((rd_T60 l0 a1).f4) x259004_3)) else (none)) else (fencepostref07_step.l0 k3 l0 (wrap64 (x9_3 + 1)) ((rd_T60 l0 a1).f0) ((rd_T60 l0 a1).f1) ((rd_T60 l0 a1).f2) ((rd_T60 l0 a1).f3) ((rd_T60 l0 a1).f4) ((rd_T60 l0 a1).f0) x259001_5 x259002_23 ((rd_T60 l0 a1).f4) x259004_3)) = some (r1, r2, r3, r4, r5) := H
 have A36 := Aside0.mk A360
 clear A360
 by_cases c37 : t261 = true
 rotate_left
 ·replace c37 := Bool.eq_false_iff.mpr c37
  subst c37
  have H1 : (fencepostref07_step.l0 k3 l0 (wrap64 (x9_3 + 1)) ((rd_T60 l0 a1).f0) ((rd_T60 l0 a1).f1) ((rd_T60 l0 a1).f2) ((rd_T60 l0 a1).f3) ((rd_T60 l0 a1).f4) ((rd_T60 l0 a1).f0) x259001_5 x259002_23 ((rd_T60 l0 a1).f4) x259004_3) = some (r1, r2, r3, r4, r5) := by rw [if_neg (show ¬ (false = true) by decide)] at H; exact H
  clear H
  have H := H1
  clear H1
  have H' := Aside0.mk H
  clear H
  try go_wp2
  have n0_ := Aside0.mk (blk_drew BK255.out)
  have n1_ := Aside0.mk (blk_drew BK257.out)
  have n2_ := Aside0.mk (blk_drew BK258.out)
  have n3_ := Aside0.mk (below_drew1 HB.out)
  clear BK255
  clear BK257
  clear BK258
  clear HB
  have BK255 := n0_
  have BK257 := n1_
  have BK258 := n2_
  have HB := n3_
  clear n0_ n1_ n2_ n3_
  refine start_ (n := 20) (S := fun w' => w'.cell? ⟨gb257, 0, none⟩ = some (.int .i64 ((rd_T60 l0 a1).f0)) ∧ w'.cell? ⟨gb257, 1, none⟩ = some (.string ((rd_T60 l0 a1).f1)) ∧ w'.cell? ⟨gb257, 2, none⟩ = some (.string ((rd_T60 l0 a1).f2)) ∧ w'.cell? ⟨gb257, 3, none⟩ = some (.string ((rd_T60 l0 a1).f3)) ∧ w'.cell? ⟨gb257, 4, none⟩ = some (.int .i64 ((rd_T60 l0 a1).f4))) (ds := []) (lb_ 20 0) (by kernel_rfl) rfl rfl ⟨(blk_cell BK257.out 0).trans rfl, (blk_cell BK257.out 1).trans rfl, (blk_cell BK257.out 2).trans rfl, (blk_cell BK257.out 3).trans rfl, (blk_cell BK257.out 4).trans rfl⟩ (fun hHeld => ?_); refine with_tabW fencepostref07_step.tab10 fencepostref07_step.bits10 (fun HT_ HW_ => ?_)
  generalize wr.drew = w54 at BK255 BK257 BK258 HB hHeld ⊢
  refine take_ (i := 0) (N := some 40) (v := ?_) (a' := ?_) (lb_ 20 1) rfl rfl (take_ofW HT_.out HW_.out (by kernel_rfl)) (fun _ _ _ h => h) (Or.inl ⟨by rfl, ?_⟩) hHeld ?_ ?_; rotate_left; rintro w' ⟨s0, s1, s2, s3, s4⟩; go_simp; with_reducible rfl; rotate_left; simp only [Act.put, List.setIfInBounds_toArray, List.set_cons_zero, List.set_cons_succ, i64_w, i32_w]; rfl
  refine one_ (i := 1) (N := some 41) (lb_ 20 3) rfl rfl (one_of HT_.out (by kernel_rfl)) (by decide) (fun K hK => ?_)
  refine goes_ Try.func58 (by kernel_rfl) rfl #[.agg #[.int .i64 ((rd_T60 l0 a1).f0), .string ((rd_T60 l0 a1).f1), .string ((rd_T60 l0 a1).f2), .string ((rd_T60 l0 a1).f3), .int .i64 ((rd_T60 l0 a1).f4)]] (by rfl) rfl rfl ar_ ?_
  with_reducible refine (fencepostref04_Jump.calls ((rd_T60 l0 a1).f0) ((rd_T60 l0 a1).f1) ((rd_T60 l0 a1).f2) ((rd_T60 l0 a1).f3) ((rd_T60 l0 a1).f4) false _ A36.out).mono ?_
  rintro e w55 ⟨rfl, hb⟩
  refine ⟨_, rfl, ?_⟩
  have n0_ := Aside0.mk (bb_ BK255.out hb)
  have n1_ := Aside0.mk (bb_ BK257.out hb)
  have n2_ := Aside0.mk (bb_ BK258.out hb)
  have n3_ := Aside0.mk (below_step (hb_ HB.out) hb)
  clear BK255
  clear BK257
  clear BK258
  clear HB
  have BK255 := n0_
  have BK257 := n1_
  have BK258 := n2_
  have HB := n3_
  clear n0_ n1_ n2_ n3_
  (try clear hb)
  (try clear hb2)
  (try clear hk)
  (try clear hi)
  refine hK.out _ _ ⟨(blk_cell BK257.out 0).trans rfl, (blk_cell BK257.out 1).trans rfl, (blk_cell BK257.out 2).trans rfl, (blk_cell BK257.out 3).trans rfl, (blk_cell BK257.out 4).trans rfl⟩ (fun hHeld => ?_)
  clear hK K
  refine norm_ (a' := ?_) ?_ ?_
  rotate_left
  ·show Act.put _ (some 41) _ = _
   simp only [Act.put, List.setIfInBounds_toArray, List.set_cons_zero, List.set_cons_succ, i64_w, i32_w]
   rfl
  refine pure_ (i := 2) (N := some 42) (v := ?_) (a' := ?_) (lb_ 20 7) rfl rfl (any_of HT_.out (by kernel_rfl)) (fun _ _ _ h => h) (Or.inl ⟨by rfl, ?_⟩) ?_ ?_; rotate_left; intro w'; go_simp; with_reducible rfl; rotate_left; simp only [Act.put, List.setIfInBounds_toArray, List.set_cons_zero, List.set_cons_succ, i64_w, i32_w]; rfl
  refine pure_ (i := 3) (N := some 43) (v := undef) (a' := ?_) (lb_ 20 15) rfl rfl (any_of HT_.out (by kernel_rfl)) (fun _ _ _ h => h) (Or.inr ⟨by rfl, rfl⟩) ?_ ?_
  rotate_left
  ·simp only [Act.put, List.setIfInBounds_toArray, List.set_cons_zero, List.set_cons_succ, i64_w, i32_w]
   rfl
  refine pure_ (i := 4) (N := some 44) (v := undef) (a' := ?_) (lb_ 20 31) rfl rfl (any_of HT_.out (by kernel_rfl)) (fun _ _ _ h => h) (Or.inr ⟨by rfl, rfl⟩) ?_ ?_
  rotate_left
  ·simp only [Act.put, List.setIfInBounds_toArray, List.set_cons_zero, List.set_cons_succ, i64_w, i32_w]
   rfl
  refine pure_ (i := 5) (N := some 45) (v := undef) (a' := ?_) (lb_ 20 63) rfl rfl (any_of HT_.out (by kernel_rfl)) (fun _ _ _ h => h) (Or.inr ⟨by rfl, rfl⟩) ?_ ?_
  rotate_left
  ·simp only [Act.put, List.setIfInBounds_toArray, List.set_cons_zero, List.set_cons_succ, i64_w, i32_w]
   rfl
  refine pure_ (i := 6) (N := some 46) (v := undef) (a' := ?_) (lb_ 20 127) rfl rfl (any_of HT_.out (by kernel_rfl)) (fun _ _ _ h => h) (Or.inr ⟨by rfl, rfl⟩) ?_ ?_
  rotate_left
  ·simp only [Act.put, List.setIfInBounds_toArray, List.set_cons_zero, List.set_cons_succ, i64_w, i32_w]
   rfl
  refine pure_ (i := 7) (N := some 47) (v := undef) (a' := ?_) (lb_ 20 255) rfl rfl (any_of HT_.out (by kernel_rfl)) (fun _ _ _ h => h) (Or.inr ⟨by rfl, rfl⟩) ?_ ?_
  rotate_left
  ·simp only [Act.put, List.setIfInBounds_toArray, List.set_cons_zero, List.set_cons_succ, i64_w, i32_w]
   rfl
  refine pure_ (i := 8) (N := some 48) (v := undef) (a' := ?_) (lb_ 20 511) rfl rfl (any_of HT_.out (by kernel_rfl)) (fun _ _ _ h => h) (Or.inr ⟨by rfl, rfl⟩) ?_ ?_
  rotate_left
  ·simp only [Act.put, List.setIfInBounds_toArray, List.set_cons_zero, List.set_cons_succ, i64_w, i32_w]
   rfl
  refine pure_ (i := 9) (N := some 49) (v := ?_) (a' := ?_) (lb_ 20 1023) rfl rfl (any_of HT_.out (by kernel_rfl)) (fun _ _ _ h => h) (Or.inl ⟨by rfl, ?_⟩) ?_ ?_; rotate_left; intro w'; go_simp; with_reducible rfl; rotate_left; simp only [Act.put, List.setIfInBounds_toArray, List.set_cons_zero, List.set_cons_succ, i64_w, i32_w]; rfl
  refine pure_ (i := 10) (N := some 50) (v := ?_) (a' := ?_) (lb_ 20 2047) rfl rfl (any_of HT_.out (by kernel_rfl)) (fun _ _ _ h => h) (Or.inl ⟨by rfl, ?_⟩) ?_ ?_; rotate_left; intro w'; go_simp; with_reducible rfl; rotate_left; simp only [Act.put, List.setIfInBounds_toArray, List.set_cons_zero, List.set_cons_succ, i64_w, i32_w]; rfl
  refine pure_ (i := 11) (N := some 51) (v := undef) (a' := ?_) (lb_ 20 4095) rfl rfl (any_of HT_.out (by kernel_rfl)) (fun _ _ _ h => h) (Or.inr ⟨by rfl, rfl⟩) ?_ ?_
  rotate_left
  ·simp only [Act.put, List.setIfInBounds_toArray, List.set_cons_zero, List.set_cons_succ, i64_w, i32_w]
   rfl
  refine pure_ (i := 12) (N := some 52) (v := undef) (a' := ?_) (lb_ 20 8191) rfl rfl (any_of HT_.out (by kernel_rfl)) (fun _ _ _ h => h) (Or.inr ⟨by rfl, rfl⟩) ?_ ?_
  rotate_left
  ·simp only [Act.put, List.setIfInBounds_toArray, List.set_cons_zero, List.set_cons_succ, i64_w, i32_w]
   rfl
  refine pure_ (i := 13) (N := some 53) (v := undef) (a' := ?_) (lb_ 20 16383) rfl rfl (any_of HT_.out (by kernel_rfl)) (fun _ _ _ h => h) (Or.inr ⟨by rfl, rfl⟩) ?_ ?_
  rotate_left
  ·simp only [Act.put, List.setIfInBounds_toArray, List.set_cons_zero, List.set_cons_succ, i64_w, i32_w]
   rfl
  refine pure_ (i := 14) (N := some 54) (v := undef) (a' := ?_) (lb_ 20 32767) rfl rfl (any_of HT_.out (by kernel_rfl)) (fun _ _ _ h => h) (Or.inr ⟨by rfl, rfl⟩) ?_ ?_
  rotate_left
  ·simp only [Act.put, List.setIfInBounds_toArray, List.set_cons_zero, List.set_cons_succ, i64_w, i32_w]
   rfl
  refine pure_ (i := 15) (N := some 55) (v := undef) (a' := ?_) (lb_ 20 65535) rfl rfl (any_of HT_.out (by kernel_rfl)) (fun _ _ _ h => h) (Or.inr ⟨by rfl, rfl⟩) ?_ ?_
  rotate_left
  ·simp only [Act.put, List.setIfInBounds_toArray, List.set_cons_zero, List.set_cons_succ, i64_w, i32_w]
   rfl
  refine pure_ (i := 16) (N := some 56) (v := undef) (a' := ?_) (lb_ 20 131071) rfl rfl (any_of HT_.out (by kernel_rfl)) (fun _ _ _ h => h) (Or.inr ⟨by rfl, rfl⟩) ?_ ?_
  rotate_left
  ·simp only [Act.put, List.setIfInBounds_toArray, List.set_cons_zero, List.set_cons_succ, i64_w, i32_w]
   rfl
  refine pure_ (i := 17) (N := some 57) (v := undef) (a' := ?_) (lb_ 20 262143) rfl rfl (any_of HT_.out (by kernel_rfl)) (fun _ _ _ h => h) (Or.inr ⟨by rfl, rfl⟩) ?_ ?_
  rotate_left
  ·simp only [Act.put, List.setIfInBounds_toArray, List.set_cons_zero, List.set_cons_succ, i64_w, i32_w]
   rfl
  refine pure_ (i := 18) (N := some 58) (v := undef) (a' := ?_) (lb_ 20 524287) rfl rfl (any_of HT_.out (by kernel_rfl)) (fun _ _ _ h => h) (Or.inr ⟨by rfl, rfl⟩) ?_ ?_
  rotate_left
  ·simp only [Act.put, List.setIfInBounds_toArray, List.set_cons_zero, List.set_cons_succ, i64_w, i32_w]
   rfl
  refine pure_ (i := 19) (N := some 59) (v := ?_) (a' := ?_) (lb_ 20 1048575) rfl rfl (any_of HT_.out (by kernel_rfl)) (fun _ _ _ h => h) (Or.inl ⟨by rfl, ?_⟩) ?_ ?_; rotate_left; intro w'; go_simp; with_reducible rfl; rotate_left; simp only [Act.put, List.setIfInBounds_toArray, List.set_cons_zero, List.set_cons_succ, i64_w, i32_w]; rfl
  refine done_ (done_of HT_.out (by kernel_rfl)) ?_
  try go_wp2
  go_roundg k3
  case measure => have := HJ5.out; have := HJ23.out; have := HK3.out; omega
  case rel => exact ⟨(wrap64 (x9_3 + 1)), (x259004_3), rf_, H', ⟨by have := HJ5.out; have := HJ23.out; have := HK3.out; omega⟩, ⟨bd_ BK255.out⟩, ⟨bd_ BK257.out⟩, ⟨bd_ BK258.out⟩, ⟨hb_ HB.out⟩⟩
 subst c37
 have H1 : (if 0 ≤ x9_3 then (if ((rd_T60 l0 x9_3).f0) = 11 then (if ((rd_T60 l0 x9_3).f3).toList = ((rd_T60 l0 a1).f3).toList then (if x9_3 ≤ (l0.length : Int) then ((fencepostref07_ahead.f k3 (l0.take (x9_3 : Int).toNat)).bind fun t268 => (fencepostref07_step.l0 k3 l0 (wrap64 (x9_3 + 1)) ((rd_T60 l0 a1).f0) ((rd_T60 l0 a1).f1) ((rd_T60 l0 a1).f2) ((rd_T60 l0 a1).f3) ((rd_T60 l0 a1).f4) ((rd_T60 l0 a1).f0) x259001_5 x259002_23 ((rd_T60 l0 a1).f4) t268)) else (none)) else (fencepostref07_step.l0 k3 l0 (wrap64 (x9_3 + 1)) ((rd_T60 l0 a1).f0) ((rd_T60 l0 a1).f1) ((rd_T60 l0 a1).f2) ((rd_T60 l0 a1).f3) ((rd_T60 l0 a1).f4) ((rd_T60 l0 a1).f0) x259001_5 x259002_23 ((rd_T60 l0 a1).f4) x259004_3)) else (fencepostref07_step.l0 k3 l0 (wrap64 (x9_3 + 1)) ((rd_T60 l0 a1).f0) ((rd_T60 l0 a1).f1) ((rd_T60 l0 a1).f2) ((rd_T60 l0 a1).f3) ((rd_T60 l0 a1).f4) ((rd_T60 l0 a1).f0) x259001_5 x259002_23 ((rd_T60 l0 a1).f4) x259004_3)) else (none)) = some (r1, r2, r3, r4, r5) := by rw [if_pos rfl] at H; exact H
 clear H
 have H := H1
 clear H1
 by_cases c38 : 0 ≤ x9_3
 rotate_left
 ·rw [if_neg c38] at H
  exact absurd H (by simp)
 rw [if_pos c38] at H
 have c38b0 : decide (0 ≤ x9_3) = true := decide_eq_true c38
 clear c38
 by_cases c39 : ((rd_T60 l0 x9_3).f0) = 11
 rotate_left
 ·rw [if_neg c39] at H
  have c39b0 : (((rd_T60 l0 x9_3).f0) == 11) = false := beq_eq_false_iff_ne.mpr c39
  have c39b1 : (((rd_T60 l0 x9_3).f0) != 11) = true := bne_iff_ne.mpr c39
  have H' := Aside0.mk H
  clear H
  try go_wp2
  have n0_ := Aside0.mk (blk_drew BK255.out)
  have n1_ := Aside0.mk (blk_drew BK257.out)
  have n2_ := Aside0.mk (blk_drew BK258.out)
  have n3_ := Aside0.mk (below_drew1 HB.out)
  clear BK255
  clear BK257
  clear BK258
  clear HB
  have BK255 := n0_
  have BK257 := n1_
  have BK258 := n2_
  have HB := n3_
  clear n0_ n1_ n2_ n3_
  have p262 : 0 ≤ (x9_3 : Int) := of_decide_eq_true as_
  have q262 : x9_3 < (l0.length : Int) := of_decide_eq_true as_
  obtain ⟨ad262, e262, hx262_0, hx262_1, hx262_2, hx262_3, hx262_4⟩ := at_T60 HR0.out x9_3 p262 q262
  have hw262_4 := hx262_4
  have hw262_3 := hx262_3
  have hw262_2 := hx262_2
  have hw262_1 := hx262_1
  have hw262_0 := hx262_0
  obtain rfl : ad256 = ad262 := (by injection e262)
  replace hx262_0 := cl_ HB.out hx262_0
  replace hx262_1 := cl_ HB.out hx262_1
  replace hx262_2 := cl_ HB.out hx262_2
  replace hx262_3 := cl_ HB.out hx262_3
  replace hx262_4 := cl_ HB.out hx262_4
  replace p262 := eq_true p262
  replace q262 := eq_true q262
  refine start_ (n := 20) (S := fun w' => w'.cell? ⟨gb257, 0, none⟩ = some (.int .i64 ((rd_T60 l0 a1).f0)) ∧ w'.cell? ⟨gb257, 1, none⟩ = some (.string ((rd_T60 l0 a1).f1)) ∧ w'.cell? ⟨gb257, 2, none⟩ = some (.string ((rd_T60 l0 a1).f2)) ∧ w'.cell? ⟨gb257, 3, none⟩ = some (.string ((rd_T60 l0 a1).f3)) ∧ w'.cell? ⟨gb257, 4, none⟩ = some (.int .i64 ((rd_T60 l0 a1).f4)) ∧ w'.cell? (ad256.add ((x9_3).toNat * 5)) = some (.int .i64 ((rd_T60 l0 x9_3).f0)) ∧ w'.cell? ⟨(ad256.add ((x9_3).toNat * 5)).block, (ad256.add ((x9_3).toNat * 5)).off + 1, none⟩ = some (.string ((rd_T60 l0 x9_3).f1)) ∧ w'.cell? ⟨(ad256.add ((x9_3).toNat * 5)).block, (ad256.add ((x9_3).toNat * 5)).off + 2, none⟩ = some (.string ((rd_T60 l0 x9_3).f2)) ∧ w'.cell? ⟨(ad256.add ((x9_3).toNat * 5)).block, (ad256.add ((x9_3).toNat * 5)).off + 3, none⟩ = some (.string ((rd_T60 l0 x9_3).f3)) ∧ w'.cell? ⟨(ad256.add ((x9_3).toNat * 5)).block, (ad256.add ((x9_3).toNat * 5)).off + 4, none⟩ = some (.int .i64 ((rd_T60 l0 x9_3).f4))) (ds := []) (lb_ 20 0) (by kernel_rfl) rfl rfl ⟨(blk_cell BK257.out 0).trans rfl, (blk_cell BK257.out 1).trans rfl, (blk_cell BK257.out 2).trans rfl, (blk_cell BK257.out 3).trans rfl, (blk_cell BK257.out 4).trans rfl, ((HB.out.cell (World.block_lt_of_cell? w _ hw262_0)).trans hw262_0), ((HB.out.cell (World.block_lt_of_cell? w _ hw262_1)).trans hw262_1), ((HB.out.cell (World.block_lt_of_cell? w _ hw262_2)).trans hw262_2), ((HB.out.cell (World.block_lt_of_cell? w _ hw262_3)).trans hw262_3), ((HB.out.cell (World.block_lt_of_cell? w _ hw262_4)).trans hw262_4)⟩ (fun hHeld => ?_); refine with_tabW fencepostref07_step.tab10 fencepostref07_step.bits10 (fun HT_ HW_ => ?_)
  generalize wr.drew = w52 at BK255 BK257 BK258 HB hx262_0 hx262_1 hx262_2 hx262_3 hx262_4 hHeld ⊢
  refine take_ (i := 0) (N := some 40) (v := ?_) (a' := ?_) (lb_ 20 1) rfl rfl (take_ofW HT_.out HW_.out (by kernel_rfl)) (fun _ _ _ h => h) (Or.inl ⟨by rfl, ?_⟩) hHeld ?_ ?_; rotate_left; rintro w' ⟨s0, s1, s2, s3, s4, s5, s6, s7, s8, s9⟩; go_simp; with_reducible rfl; rotate_left; simp only [Act.put, List.setIfInBounds_toArray, List.set_cons_zero, List.set_cons_succ, i64_w, i32_w]; rfl
  refine one_ (i := 1) (N := some 41) (lb_ 20 3) rfl rfl (one_of HT_.out (by kernel_rfl)) (by decide) (fun K hK => ?_)
  refine goes_ Try.func58 (by kernel_rfl) rfl #[.agg #[.int .i64 ((rd_T60 l0 a1).f0), .string ((rd_T60 l0 a1).f1), .string ((rd_T60 l0 a1).f2), .string ((rd_T60 l0 a1).f3), .int .i64 ((rd_T60 l0 a1).f4)]] (by rfl) rfl rfl ar_ ?_
  with_reducible refine (fencepostref04_Jump.calls ((rd_T60 l0 a1).f0) ((rd_T60 l0 a1).f1) ((rd_T60 l0 a1).f2) ((rd_T60 l0 a1).f3) ((rd_T60 l0 a1).f4) true _ A36.out).mono ?_
  rintro e w53 ⟨rfl, hb⟩
  refine ⟨_, rfl, ?_⟩
  have n0_ := Aside0.mk (bb_ BK255.out hb)
  have n1_ := Aside0.mk (bb_ BK257.out hb)
  have n2_ := Aside0.mk (bb_ BK258.out hb)
  have n3_ := Aside0.mk (below_step (hb_ HB.out) hb)
  clear BK255
  clear BK257
  clear BK258
  clear HB
  have BK255 := n0_
  have BK257 := n1_
  have BK258 := n2_
  have HB := n3_
  clear n0_ n1_ n2_ n3_
  (try clear hb)
  (try clear hb2)
  (try clear hk)
  (try clear hi)
  refine hK.out _ _ ⟨(blk_cell BK257.out 0).trans rfl, (blk_cell BK257.out 1).trans rfl, (blk_cell BK257.out 2).trans rfl, (blk_cell BK257.out 3).trans rfl, (blk_cell BK257.out 4).trans rfl, ((HB.out.cell (World.block_lt_of_cell? w _ hw262_0)).trans hw262_0), ((HB.out.cell (World.block_lt_of_cell? w _ hw262_1)).trans hw262_1), ((HB.out.cell (World.block_lt_of_cell? w _ hw262_2)).trans hw262_2), ((HB.out.cell (World.block_lt_of_cell? w _ hw262_3)).trans hw262_3), ((HB.out.cell (World.block_lt_of_cell? w _ hw262_4)).trans hw262_4)⟩ (fun hHeld => ?_)
  clear hK K
  refine norm_ (a' := ?_) ?_ ?_
  rotate_left
  ·show Act.put _ (some 41) _ = _
   simp only [Act.put, List.setIfInBounds_toArray, List.set_cons_zero, List.set_cons_succ, i64_w, i32_w]
   rfl
  refine pure_ (i := 2) (N := some 42) (v := ?_) (a' := ?_) (lb_ 20 7) rfl rfl (any_of HT_.out (by kernel_rfl)) (fun _ _ _ h => h) (Or.inl ⟨by rfl, ?_⟩) ?_ ?_; rotate_left; intro w'; go_simp; with_reducible rfl; rotate_left; simp only [Act.put, List.setIfInBounds_toArray, List.set_cons_zero, List.set_cons_succ, i64_w, i32_w]; rfl
  refine pure_ (i := 3) (N := some 43) (v := ?_) (a' := ?_) (lb_ 20 15) rfl rfl (any_of HT_.out (by kernel_rfl)) (fun _ _ _ h => h) (Or.inl ⟨by rfl, ?_⟩) ?_ ?_; rotate_left; intro w'; go_simp; with_reducible rfl; rotate_left; simp only [Act.put, List.setIfInBounds_toArray, List.set_cons_zero, List.set_cons_succ, i64_w, i32_w]; rfl
  refine pure_ (i := 4) (N := some 44) (v := ?_) (a' := ?_) (lb_ 20 31) rfl rfl (any_of HT_.out (by kernel_rfl)) (fun _ _ _ h => h) (Or.inl ⟨by rfl, ?_⟩) ?_ ?_; rotate_left; intro w'; go_simp; with_reducible rfl; rotate_left; simp only [Act.put, List.setIfInBounds_toArray, List.set_cons_zero, List.set_cons_succ, i64_w, i32_w]; rfl
  refine pure_ (i := 5) (N := some 45) (v := ?_) (a' := ?_) (lb_ 20 63) rfl rfl (any_of HT_.out (by kernel_rfl)) (fun _ _ _ h => h) (Or.inl ⟨by rfl, ?_⟩) ?_ ?_; rotate_left; intro w'; go_simp; with_reducible rfl; rotate_left; simp only [Act.put, List.setIfInBounds_toArray, List.set_cons_zero, List.set_cons_succ, i64_w, i32_w]; rfl
  refine pure_ (i := 6) (N := some 46) (v := ?_) (a' := ?_) (lb_ 20 127) rfl rfl (any_of HT_.out (by kernel_rfl)) (fun _ _ _ h => h) (Or.inl ⟨by rfl, ?_⟩) ?_ ?_; rotate_left; intro w'; go_simp; with_reducible rfl; rotate_left; simp only [Act.put, List.setIfInBounds_toArray, List.set_cons_zero, List.set_cons_succ, i64_w, i32_w]; rfl
  refine take_ (i := 7) (N := some 47) (v := ?_) (a' := ?_) (lb_ 20 255) rfl rfl (take_ofW HT_.out HW_.out (by kernel_rfl)) (fun _ _ _ h => h) (Or.inl ⟨by rfl, ?_⟩) hHeld ?_ ?_; rotate_left; rintro w' ⟨s0, s1, s2, s3, s4, s5, s6, s7, s8, s9⟩; go_simp; with_reducible rfl; rotate_left; simp only [Act.put, List.setIfInBounds_toArray, List.set_cons_zero, List.set_cons_succ, i64_w, i32_w]; rfl
  refine pure_ (i := 8) (N := some 48) (v := ?_) (a' := ?_) (lb_ 20 511) rfl rfl (any_of HT_.out (by kernel_rfl)) (fun _ _ _ h => h) (Or.inl ⟨by rfl, ?_⟩) ?_ ?_; rotate_left; intro w'; go_simp; with_reducible rfl; rotate_left; simp only [Act.put, List.setIfInBounds_toArray, List.set_cons_zero, List.set_cons_succ, i64_w, i32_w]; rfl
  refine pure_ (i := 9) (N := some 49) (v := ?_) (a' := ?_) (lb_ 20 1023) rfl rfl (any_of HT_.out (by kernel_rfl)) (fun _ _ _ h => h) (Or.inl ⟨by rfl, ?_⟩) ?_ ?_; rotate_left; intro w'; go_simp; with_reducible rfl; rotate_left; simp only [Act.put, List.setIfInBounds_toArray, List.set_cons_zero, List.set_cons_succ, i64_w, i32_w]; rfl
  refine pure_ (i := 10) (N := some 50) (v := ?_) (a' := ?_) (lb_ 20 2047) rfl rfl (any_of HT_.out (by kernel_rfl)) (fun _ _ _ h => h) (Or.inl ⟨by rfl, ?_⟩) ?_ ?_; rotate_left; intro w'; go_simp; with_reducible rfl; rotate_left; simp only [Act.put, List.setIfInBounds_toArray, List.set_cons_zero, List.set_cons_succ, i64_w, i32_w]; rfl
  refine pure_ (i := 11) (N := some 51) (v := undef) (a' := ?_) (lb_ 20 4095) rfl rfl (any_of HT_.out (by kernel_rfl)) (fun _ _ _ h => h) (Or.inr ⟨by rfl, rfl⟩) ?_ ?_
  rotate_left
  ·simp only [Act.put, List.setIfInBounds_toArray, List.set_cons_zero, List.set_cons_succ, i64_w, i32_w]
   rfl
  refine pure_ (i := 12) (N := some 52) (v := undef) (a' := ?_) (lb_ 20 8191) rfl rfl (any_of HT_.out (by kernel_rfl)) (fun _ _ _ h => h) (Or.inr ⟨by rfl, rfl⟩) ?_ ?_
  rotate_left
  ·simp only [Act.put, List.setIfInBounds_toArray, List.set_cons_zero, List.set_cons_succ, i64_w, i32_w]
   rfl
  refine pure_ (i := 13) (N := some 53) (v := undef) (a' := ?_) (lb_ 20 16383) rfl rfl (any_of HT_.out (by kernel_rfl)) (fun _ _ _ h => h) (Or.inr ⟨by rfl, rfl⟩) ?_ ?_
  rotate_left
  ·simp only [Act.put, List.setIfInBounds_toArray, List.set_cons_zero, List.set_cons_succ, i64_w, i32_w]
   rfl
  refine pure_ (i := 14) (N := some 54) (v := undef) (a' := ?_) (lb_ 20 32767) rfl rfl (any_of HT_.out (by kernel_rfl)) (fun _ _ _ h => h) (Or.inr ⟨by rfl, rfl⟩) ?_ ?_
  rotate_left
  ·simp only [Act.put, List.setIfInBounds_toArray, List.set_cons_zero, List.set_cons_succ, i64_w, i32_w]
   rfl
  refine pure_ (i := 15) (N := some 55) (v := undef) (a' := ?_) (lb_ 20 65535) rfl rfl (any_of HT_.out (by kernel_rfl)) (fun _ _ _ h => h) (Or.inr ⟨by rfl, rfl⟩) ?_ ?_
  rotate_left
  ·simp only [Act.put, List.setIfInBounds_toArray, List.set_cons_zero, List.set_cons_succ, i64_w, i32_w]
   rfl
  refine pure_ (i := 16) (N := some 56) (v := undef) (a' := ?_) (lb_ 20 131071) rfl rfl (any_of HT_.out (by kernel_rfl)) (fun _ _ _ h => h) (Or.inr ⟨by rfl, rfl⟩) ?_ ?_
  rotate_left
  ·simp only [Act.put, List.setIfInBounds_toArray, List.set_cons_zero, List.set_cons_succ, i64_w, i32_w]
   rfl
  refine pure_ (i := 17) (N := some 57) (v := undef) (a' := ?_) (lb_ 20 262143) rfl rfl (any_of HT_.out (by kernel_rfl)) (fun _ _ _ h => h) (Or.inr ⟨by rfl, rfl⟩) ?_ ?_
  rotate_left
  ·simp only [Act.put, List.setIfInBounds_toArray, List.set_cons_zero, List.set_cons_succ, i64_w, i32_w]
   rfl
  refine pure_ (i := 18) (N := some 58) (v := undef) (a' := ?_) (lb_ 20 524287) rfl rfl (any_of HT_.out (by kernel_rfl)) (fun _ _ _ h => h) (Or.inr ⟨by rfl, rfl⟩) ?_ ?_
  rotate_left
  ·simp only [Act.put, List.setIfInBounds_toArray, List.set_cons_zero, List.set_cons_succ, i64_w, i32_w]
   rfl
  refine pure_ (i := 19) (N := some 59) (v := ?_) (a' := ?_) (lb_ 20 1048575) rfl rfl (any_of HT_.out (by kernel_rfl)) (fun _ _ _ h => h) (Or.inl ⟨by rfl, ?_⟩) ?_ ?_; rotate_left; intro w'; go_simp; with_reducible rfl; rotate_left; simp only [Act.put, List.setIfInBounds_toArray, List.set_cons_zero, List.set_cons_succ, i64_w, i32_w]; rfl
  refine done_ (done_of HT_.out (by kernel_rfl)) ?_
  try go_wp2
  go_roundg k3
  case measure => have := HJ5.out; have := HJ23.out; have := HK3.out; omega
  case rel => exact ⟨(wrap64 (x9_3 + 1)), (x259004_3), rf_, H', ⟨by have := HJ5.out; have := HJ23.out; have := HK3.out; omega⟩, ⟨bd_ BK255.out⟩, ⟨bd_ BK257.out⟩, ⟨bd_ BK258.out⟩, ⟨hb_ HB.out⟩⟩
 rw [if_pos c39] at H
 have c39b0 : (((rd_T60 l0 x9_3).f0) == 11) = true := beq_iff_eq.mpr c39
 have c39b1 : (((rd_T60 l0 x9_3).f0) != 11) = false := bne_eq_false_iff_eq.mpr c39
 clear c39
 by_cases c40 : ((rd_T60 l0 x9_3).f3).toList = ((rd_T60 l0 a1).f3).toList
 rotate_left
 ·rw [if_neg c40] at H
  have c40b0 : (((rd_T60 l0 x9_3).f3).toList == ((rd_T60 l0 a1).f3).toList) = false := beq_eq_false_iff_ne.mpr c40
  have c40b1 : (((rd_T60 l0 x9_3).f3).toList != ((rd_T60 l0 a1).f3).toList) = true := bne_iff_ne.mpr c40
  have H' := Aside0.mk H
  clear H
  try go_wp2
  have n0_ := Aside0.mk (blk_drew BK255.out)
  have n1_ := Aside0.mk (blk_drew BK257.out)
  have n2_ := Aside0.mk (blk_drew BK258.out)
  have n3_ := Aside0.mk (below_drew1 HB.out)
  clear BK255
  clear BK257
  clear BK258
  clear HB
  have BK255 := n0_
  have BK257 := n1_
  have BK258 := n2_
  have HB := n3_
  clear n0_ n1_ n2_ n3_
  have p262 : 0 ≤ (x9_3 : Int) := of_decide_eq_true as_
  have q262 : x9_3 < (l0.length : Int) := of_decide_eq_true as_
  obtain ⟨ad262, e262, hx262_0, hx262_1, hx262_2, hx262_3, hx262_4⟩ := at_T60 HR0.out x9_3 p262 q262
  have hw262_4 := hx262_4
  have hw262_3 := hx262_3
  have hw262_2 := hx262_2
  have hw262_1 := hx262_1
  have hw262_0 := hx262_0
  obtain rfl : ad256 = ad262 := (by injection e262)
  replace hx262_0 := cl_ HB.out hx262_0
  replace hx262_1 := cl_ HB.out hx262_1
  replace hx262_2 := cl_ HB.out hx262_2
  replace hx262_3 := cl_ HB.out hx262_3
  replace hx262_4 := cl_ HB.out hx262_4
  replace p262 := eq_true p262
  replace q262 := eq_true q262
  have p263 : 0 ≤ (x9_3 : Int) := of_decide_eq_true as_
  have q263 : x9_3 < (l0.length : Int) := of_decide_eq_true as_
  obtain ⟨ad263, e263, hx263_0, hx263_1, hx263_2, hx263_3, hx263_4⟩ := at_T60 HR0.out x9_3 p263 q263
  have hw263_4 := hx263_4
  have hw263_3 := hx263_3
  have hw263_2 := hx263_2
  have hw263_1 := hx263_1
  have hw263_0 := hx263_0
  obtain rfl : ad256 = ad263 := (by injection e263)
  replace hx263_0 := cl_ HB.out hx263_0
  replace hx263_1 := cl_ HB.out hx263_1
  replace hx263_2 := cl_ HB.out hx263_2
  replace hx263_3 := cl_ HB.out hx263_3
  replace hx263_4 := cl_ HB.out hx263_4
  replace p263 := eq_true p263
  replace q263 := eq_true q263
  refine start_ (n := 20) (S := fun w' => w'.cell? ⟨gb257, 0, none⟩ = some (.int .i64 ((rd_T60 l0 a1).f0)) ∧ w'.cell? ⟨gb257, 1, none⟩ = some (.string ((rd_T60 l0 a1).f1)) ∧ w'.cell? ⟨gb257, 2, none⟩ = some (.string ((rd_T60 l0 a1).f2)) ∧ w'.cell? ⟨gb257, 3, none⟩ = some (.string ((rd_T60 l0 a1).f3)) ∧ w'.cell? ⟨gb257, 4, none⟩ = some (.int .i64 ((rd_T60 l0 a1).f4)) ∧ w'.cell? (ad256.add ((x9_3).toNat * 5)) = some (.int .i64 ((rd_T60 l0 x9_3).f0)) ∧ w'.cell? ⟨(ad256.add ((x9_3).toNat * 5)).block, (ad256.add ((x9_3).toNat * 5)).off + 1, none⟩ = some (.string ((rd_T60 l0 x9_3).f1)) ∧ w'.cell? ⟨(ad256.add ((x9_3).toNat * 5)).block, (ad256.add ((x9_3).toNat * 5)).off + 2, none⟩ = some (.string ((rd_T60 l0 x9_3).f2)) ∧ w'.cell? ⟨(ad256.add ((x9_3).toNat * 5)).block, (ad256.add ((x9_3).toNat * 5)).off + 3, none⟩ = some (.string ((rd_T60 l0 x9_3).f3)) ∧ w'.cell? ⟨(ad256.add ((x9_3).toNat * 5)).block, (ad256.add ((x9_3).toNat * 5)).off + 4, none⟩ = some (.int .i64 ((rd_T60 l0 x9_3).f4)) ∧ w'.cell? (ad256.add ((x9_3).toNat * 5)) = some (.int .i64 ((rd_T60 l0 x9_3).f0)) ∧ w'.cell? ⟨(ad256.add ((x9_3).toNat * 5)).block, (ad256.add ((x9_3).toNat * 5)).off + 1, none⟩ = some (.string ((rd_T60 l0 x9_3).f1)) ∧ w'.cell? ⟨(ad256.add ((x9_3).toNat * 5)).block, (ad256.add ((x9_3).toNat * 5)).off + 2, none⟩ = some (.string ((rd_T60 l0 x9_3).f2)) ∧ w'.cell? ⟨(ad256.add ((x9_3).toNat * 5)).block, (ad256.add ((x9_3).toNat * 5)).off + 3, none⟩ = some (.string ((rd_T60 l0 x9_3).f3)) ∧ w'.cell? ⟨(ad256.add ((x9_3).toNat * 5)).block, (ad256.add ((x9_3).toNat * 5)).off + 4, none⟩ = some (.int .i64 ((rd_T60 l0 x9_3).f4))) (ds := []) (lb_ 20 0) (by kernel_rfl) rfl rfl ⟨(blk_cell BK257.out 0).trans rfl, (blk_cell BK257.out 1).trans rfl, (blk_cell BK257.out 2).trans rfl, (blk_cell BK257.out 3).trans rfl, (blk_cell BK257.out 4).trans rfl, ((HB.out.cell (World.block_lt_of_cell? w _ hw262_0)).trans hw262_0), ((HB.out.cell (World.block_lt_of_cell? w _ hw262_1)).trans hw262_1), ((HB.out.cell (World.block_lt_of_cell? w _ hw262_2)).trans hw262_2), ((HB.out.cell (World.block_lt_of_cell? w _ hw262_3)).trans hw262_3), ((HB.out.cell (World.block_lt_of_cell? w _ hw262_4)).trans hw262_4), ((HB.out.cell (World.block_lt_of_cell? w _ hw263_0)).trans hw263_0), ((HB.out.cell (World.block_lt_of_cell? w _ hw263_1)).trans hw263_1), ((HB.out.cell (World.block_lt_of_cell? w _ hw263_2)).trans hw263_2), ((HB.out.cell (World.block_lt_of_cell? w _ hw263_3)).trans hw263_3), ((HB.out.cell (World.block_lt_of_cell? w _ hw263_4)).trans hw263_4)⟩ (fun hHeld => ?_); refine with_tabW fencepostref07_step.tab10 fencepostref07_step.bits10 (fun HT_ HW_ => ?_)
  generalize wr.drew = w50 at BK255 BK257 BK258 HB hx262_0 hx262_1 hx262_2 hx262_3 hx262_4 hx263_0 hx263_1 hx263_2 hx263_3 hx263_4 hHeld ⊢
  refine take_ (i := 0) (N := some 40) (v := ?_) (a' := ?_) (lb_ 20 1) rfl rfl (take_ofW HT_.out HW_.out (by kernel_rfl)) (fun _ _ _ h => h) (Or.inl ⟨by rfl, ?_⟩) hHeld ?_ ?_; rotate_left; rintro w' ⟨s0, s1, s2, s3, s4, s5, s6, s7, s8, s9, s10, s11, s12, s13, s14⟩; go_simp; with_reducible rfl; rotate_left; simp only [Act.put, List.setIfInBounds_toArray, List.set_cons_zero, List.set_cons_succ, i64_w, i32_w]; rfl
  refine one_ (i := 1) (N := some 41) (lb_ 20 3) rfl rfl (one_of HT_.out (by kernel_rfl)) (by decide) (fun K hK => ?_)
  refine goes_ Try.func58 (by kernel_rfl) rfl #[.agg #[.int .i64 ((rd_T60 l0 a1).f0), .string ((rd_T60 l0 a1).f1), .string ((rd_T60 l0 a1).f2), .string ((rd_T60 l0 a1).f3), .int .i64 ((rd_T60 l0 a1).f4)]] (by rfl) rfl rfl ar_ ?_
  with_reducible refine (fencepostref04_Jump.calls ((rd_T60 l0 a1).f0) ((rd_T60 l0 a1).f1) ((rd_T60 l0 a1).f2) ((rd_T60 l0 a1).f3) ((rd_T60 l0 a1).f4) true _ A36.out).mono ?_
  rintro e w51 ⟨rfl, hb⟩
  refine ⟨_, rfl, ?_⟩
  have n0_ := Aside0.mk (bb_ BK255.out hb)
  have n1_ := Aside0.mk (bb_ BK257.out hb)
  have n2_ := Aside0.mk (bb_ BK258.out hb)
  have n3_ := Aside0.mk (below_step (hb_ HB.out) hb)
  clear BK255
  clear BK257
  clear BK258
  clear HB
  have BK255 := n0_
  have BK257 := n1_
  have BK258 := n2_
  have HB := n3_
  clear n0_ n1_ n2_ n3_
  (try clear hb)
  (try clear hb2)
  (try clear hk)
  (try clear hi)
  refine hK.out _ _ ⟨(blk_cell BK257.out 0).trans rfl, (blk_cell BK257.out 1).trans rfl, (blk_cell BK257.out 2).trans rfl, (blk_cell BK257.out 3).trans rfl, (blk_cell BK257.out 4).trans rfl, ((HB.out.cell (World.block_lt_of_cell? w _ hw262_0)).trans hw262_0), ((HB.out.cell (World.block_lt_of_cell? w _ hw262_1)).trans hw262_1), ((HB.out.cell (World.block_lt_of_cell? w _ hw262_2)).trans hw262_2), ((HB.out.cell (World.block_lt_of_cell? w _ hw262_3)).trans hw262_3), ((HB.out.cell (World.block_lt_of_cell? w _ hw262_4)).trans hw262_4), ((HB.out.cell (World.block_lt_of_cell? w _ hw263_0)).trans hw263_0), ((HB.out.cell (World.block_lt_of_cell? w _ hw263_1)).trans hw263_1), ((HB.out.cell (World.block_lt_of_cell? w _ hw263_2)).trans hw263_2), ((HB.out.cell (World.block_lt_of_cell? w _ hw263_3)).trans hw263_3), ((HB.out.cell (World.block_lt_of_cell? w _ hw263_4)).trans hw263_4)⟩ (fun hHeld => ?_)
  clear hK K
  refine norm_ (a' := ?_) ?_ ?_
  rotate_left
  ·show Act.put _ (some 41) _ = _
   simp only [Act.put, List.setIfInBounds_toArray, List.set_cons_zero, List.set_cons_succ, i64_w, i32_w]
   rfl
  refine pure_ (i := 2) (N := some 42) (v := ?_) (a' := ?_) (lb_ 20 7) rfl rfl (any_of HT_.out (by kernel_rfl)) (fun _ _ _ h => h) (Or.inl ⟨by rfl, ?_⟩) ?_ ?_; rotate_left; intro w'; go_simp; with_reducible rfl; rotate_left; simp only [Act.put, List.setIfInBounds_toArray, List.set_cons_zero, List.set_cons_succ, i64_w, i32_w]; rfl
  refine pure_ (i := 3) (N := some 43) (v := ?_) (a' := ?_) (lb_ 20 15) rfl rfl (any_of HT_.out (by kernel_rfl)) (fun _ _ _ h => h) (Or.inl ⟨by rfl, ?_⟩) ?_ ?_; rotate_left; intro w'; go_simp; with_reducible rfl; rotate_left; simp only [Act.put, List.setIfInBounds_toArray, List.set_cons_zero, List.set_cons_succ, i64_w, i32_w]; rfl
  refine pure_ (i := 4) (N := some 44) (v := ?_) (a' := ?_) (lb_ 20 31) rfl rfl (any_of HT_.out (by kernel_rfl)) (fun _ _ _ h => h) (Or.inl ⟨by rfl, ?_⟩) ?_ ?_; rotate_left; intro w'; go_simp; with_reducible rfl; rotate_left; simp only [Act.put, List.setIfInBounds_toArray, List.set_cons_zero, List.set_cons_succ, i64_w, i32_w]; rfl
  refine pure_ (i := 5) (N := some 45) (v := ?_) (a' := ?_) (lb_ 20 63) rfl rfl (any_of HT_.out (by kernel_rfl)) (fun _ _ _ h => h) (Or.inl ⟨by rfl, ?_⟩) ?_ ?_; rotate_left; intro w'; go_simp; with_reducible rfl; rotate_left; simp only [Act.put, List.setIfInBounds_toArray, List.set_cons_zero, List.set_cons_succ, i64_w, i32_w]; rfl
  refine pure_ (i := 6) (N := some 46) (v := ?_) (a' := ?_) (lb_ 20 127) rfl rfl (any_of HT_.out (by kernel_rfl)) (fun _ _ _ h => h) (Or.inl ⟨by rfl, ?_⟩) ?_ ?_; rotate_left; intro w'; go_simp; with_reducible rfl; rotate_left; simp only [Act.put, List.setIfInBounds_toArray, List.set_cons_zero, List.set_cons_succ, i64_w, i32_w]; rfl
  refine take_ (i := 7) (N := some 47) (v := ?_) (a' := ?_) (lb_ 20 255) rfl rfl (take_ofW HT_.out HW_.out (by kernel_rfl)) (fun _ _ _ h => h) (Or.inl ⟨by rfl, ?_⟩) hHeld ?_ ?_; rotate_left; rintro w' ⟨s0, s1, s2, s3, s4, s5, s6, s7, s8, s9, s10, s11, s12, s13, s14⟩; go_simp; with_reducible rfl; rotate_left; simp only [Act.put, List.setIfInBounds_toArray, List.set_cons_zero, List.set_cons_succ, i64_w, i32_w]; rfl
  refine pure_ (i := 8) (N := some 48) (v := ?_) (a' := ?_) (lb_ 20 511) rfl rfl (any_of HT_.out (by kernel_rfl)) (fun _ _ _ h => h) (Or.inl ⟨by rfl, ?_⟩) ?_ ?_; rotate_left; intro w'; go_simp; with_reducible rfl; rotate_left; simp only [Act.put, List.setIfInBounds_toArray, List.set_cons_zero, List.set_cons_succ, i64_w, i32_w]; rfl
  refine pure_ (i := 9) (N := some 49) (v := ?_) (a' := ?_) (lb_ 20 1023) rfl rfl (any_of HT_.out (by kernel_rfl)) (fun _ _ _ h => h) (Or.inl ⟨by rfl, ?_⟩) ?_ ?_; rotate_left; intro w'; go_simp; with_reducible rfl; rotate_left; simp only [Act.put, List.setIfInBounds_toArray, List.set_cons_zero, List.set_cons_succ, i64_w, i32_w]; rfl
  refine pure_ (i := 10) (N := some 50) (v := ?_) (a' := ?_) (lb_ 20 2047) rfl rfl (any_of HT_.out (by kernel_rfl)) (fun _ _ _ h => h) (Or.inl ⟨by rfl, ?_⟩) ?_ ?_; rotate_left; intro w'; go_simp; with_reducible rfl; rotate_left; simp only [Act.put, List.setIfInBounds_toArray, List.set_cons_zero, List.set_cons_succ, i64_w, i32_w]; rfl
  refine pure_ (i := 11) (N := some 51) (v := ?_) (a' := ?_) (lb_ 20 4095) rfl rfl (any_of HT_.out (by kernel_rfl)) (fun _ _ _ h => h) (Or.inl ⟨by rfl, ?_⟩) ?_ ?_; rotate_left; intro w'; go_simp; with_reducible rfl; rotate_left; simp only [Act.put, List.setIfInBounds_toArray, List.set_cons_zero, List.set_cons_succ, i64_w, i32_w]; rfl
  refine pure_ (i := 12) (N := some 52) (v := ?_) (a' := ?_) (lb_ 20 8191) rfl rfl (any_of HT_.out (by kernel_rfl)) (fun _ _ _ h => h) (Or.inl ⟨by rfl, ?_⟩) ?_ ?_; rotate_left; intro w'; go_simp; with_reducible rfl; rotate_left; simp only [Act.put, List.setIfInBounds_toArray, List.set_cons_zero, List.set_cons_succ, i64_w, i32_w]; rfl
  refine pure_ (i := 13) (N := some 53) (v := ?_) (a' := ?_) (lb_ 20 16383) rfl rfl (any_of HT_.out (by kernel_rfl)) (fun _ _ _ h => h) (Or.inl ⟨by rfl, ?_⟩) ?_ ?_; rotate_left; intro w'; go_simp; with_reducible rfl; rotate_left; simp only [Act.put, List.setIfInBounds_toArray, List.set_cons_zero, List.set_cons_succ, i64_w, i32_w]; rfl
  refine pure_ (i := 14) (N := some 54) (v := ?_) (a' := ?_) (lb_ 20 32767) rfl rfl (any_of HT_.out (by kernel_rfl)) (fun _ _ _ h => h) (Or.inl ⟨by rfl, ?_⟩) ?_ ?_; rotate_left; intro w'; go_simp; with_reducible rfl; rotate_left; simp only [Act.put, List.setIfInBounds_toArray, List.set_cons_zero, List.set_cons_succ, i64_w, i32_w]; rfl
  refine pure_ (i := 16) (N := some 56) (v := ?_) (a' := ?_) (lb_ 20 98303) rfl rfl (any_of HT_.out (by kernel_rfl)) (fun _ _ _ h => h) (Or.inl ⟨by rfl, ?_⟩) ?_ ?_; rotate_left; intro w'; go_simp; with_reducible rfl; rotate_left; simp only [Act.put, List.setIfInBounds_toArray, List.set_cons_zero, List.set_cons_succ, i64_w, i32_w]; rfl
  refine take_ (i := 15) (N := some 55) (v := ?_) (a' := ?_) (lb_ 20 131071) rfl rfl (take_ofW HT_.out HW_.out (by kernel_rfl)) (fun _ _ _ h => h) (Or.inl ⟨by rfl, ?_⟩) hHeld ?_ ?_; rotate_left; rintro w' ⟨s0, s1, s2, s3, s4, s5, s6, s7, s8, s9, s10, s11, s12, s13, s14⟩; go_simp; with_reducible rfl; rotate_left; simp only [Act.put, List.setIfInBounds_toArray, List.set_cons_zero, List.set_cons_succ, i64_w, i32_w]; rfl
  refine take_ (i := 17) (N := some 57) (v := ?_) (a' := ?_) (lb_ 20 262143) rfl rfl (take_ofW HT_.out HW_.out (by kernel_rfl)) (fun _ _ _ h => h) (Or.inl ⟨by rfl, ?_⟩) hHeld ?_ ?_; rotate_left; rintro w' ⟨s0, s1, s2, s3, s4, s5, s6, s7, s8, s9, s10, s11, s12, s13, s14⟩; go_simp; with_reducible rfl; rotate_left; simp only [Act.put, List.setIfInBounds_toArray, List.set_cons_zero, List.set_cons_succ, i64_w, i32_w]; rfl
  refine pure_ (i := 18) (N := some 58) (v := ?_) (a' := ?_) (lb_ 20 524287) rfl rfl (any_of HT_.out (by kernel_rfl)) (fun _ _ _ h => h) (Or.inl ⟨by rfl, ?_⟩) ?_ ?_; rotate_left; intro w'; go_simp; with_reducible rfl; rotate_left; simp only [Act.put, List.setIfInBounds_toArray, List.set_cons_zero, List.set_cons_succ, i64_w, i32_w]; rfl
  refine pure_ (i := 19) (N := some 59) (v := ?_) (a' := ?_) (lb_ 20 1048575) rfl rfl (any_of HT_.out (by kernel_rfl)) (fun _ _ _ h => h) (Or.inl ⟨by rfl, ?_⟩) ?_ ?_; rotate_left; intro w'; go_simp; with_reducible rfl; rotate_left; simp only [Act.put, List.setIfInBounds_toArray, List.set_cons_zero, List.set_cons_succ, i64_w, i32_w]; rfl
  refine done_ (done_of HT_.out (by kernel_rfl)) ?_
  try go_wp2
  go_roundg k3
  case measure => have := HJ5.out; have := HJ23.out; have := HK3.out; omega
  case rel => exact ⟨(wrap64 (x9_3 + 1)), (x259004_3), rf_, H', ⟨by have := HJ5.out; have := HJ23.out; have := HK3.out; omega⟩, ⟨bd_ BK255.out⟩, ⟨bd_ BK257.out⟩, ⟨bd_ BK258.out⟩, ⟨hb_ HB.out⟩⟩
 rw [if_pos c40] at H
 have c40b0 : (((rd_T60 l0 x9_3).f3).toList == ((rd_T60 l0 a1).f3).toList) = true := beq_iff_eq.mpr c40
 have c40b1 : (((rd_T60 l0 x9_3).f3).toList != ((rd_T60 l0 a1).f3).toList) = false := bne_eq_false_iff_eq.mpr c40
 clear c40
 have c41b0 := eq_true (of_decide_eq_true as_ : 0 ≤ x9_3)
 by_cases c42 : x9_3 ≤ (l0.length : Int)
 rotate_left
 ·rw [if_neg c42] at H
  exact absurd H (by simp)
 rw [if_pos c42] at H
 have c42b0 := eq_true c42
 have c42b1 : decide (x9_3 ≤ (l0.length : Int)) = true := decide_eq_true c42
 clear c42
 obtain ⟨y264, hy264⟩ : ∃ y_ : List (S60), y_ = (l0.take (x9_3 : Int).toNat) := ⟨_, rfl⟩
 replace H : ((fencepostref07_ahead.f k3 y264).bind fun t268 => (fencepostref07_step.l0 k3 l0 (wrap64 (x9_3 + 1)) ((rd_T60 l0 a1).f0) ((rd_T60 l0 a1).f1) ((rd_T60 l0 a1).f2) ((rd_T60 l0 a1).f3) ((rd_T60 l0 a1).f4) ((rd_T60 l0 a1).f0) x259001_5 x259002_23 ((rd_T60 l0 a1).f4) t268)) = some (r1, r2, r3, r4, r5) := by first | (rw [hy264]; with_reducible exact H) | (have H2_ := (Option.bind_some _ _).symm.trans H; rw [hy264]; with_reducible exact H2_) | (have H2_ := (Option.bind_some _ _).symm.trans H; with_reducible exact H2_) | with_reducible exact H | (rw [hy264]; exact H) | exact H
 have Ny264 := Aside0.mk hy264
 clear hy264
 replace H := Option.bind_eq_some_iff.mp H
 obtain ⟨t268, A430, H⟩ := H
 replace H : (fencepostref07_step.l0 k3 l0 (wrap64 (x9_3 + 1)) ((rd_T60 l0 a1).f0) ((rd_T60 l0 a1).f1) ((rd_T60 l0 a1).f2) ((rd_T60 l0 a1).f3) ((rd_T60 l0 a1).f4) ((rd_T60 l0 a1).f0) x259001_5 x259002_23 ((rd_T60 l0 a1).f4) t268) = some (r1, r2, r3, r4, r5) := H
 have A43 := Aside0.mk A430
 clear A430
 have H' := Aside0.mk H
 clear H
 try go_wp2
 have n0_ := Aside0.mk (blk_drew BK255.out)
 have n1_ := Aside0.mk (blk_drew BK257.out)
 have n2_ := Aside0.mk (blk_drew BK258.out)
 have n3_ := Aside0.mk (below_drew1 HB.out)
 clear BK255
 clear BK257
 clear BK258
 clear HB
 have BK255 := n0_
 have BK257 := n1_
 have BK258 := n2_
 have HB := n3_
 clear n0_ n1_ n2_ n3_
 have p262 : 0 ≤ (x9_3 : Int) := of_decide_eq_true as_
 have q262 : x9_3 < (l0.length : Int) := of_decide_eq_true as_
 obtain ⟨ad262, e262, hx262_0, hx262_1, hx262_2, hx262_3, hx262_4⟩ := at_T60 HR0.out x9_3 p262 q262
 have hw262_4 := hx262_4
 have hw262_3 := hx262_3
 have hw262_2 := hx262_2
 have hw262_1 := hx262_1
 have hw262_0 := hx262_0
 obtain rfl : ad256 = ad262 := (by injection e262)
 replace hx262_0 := cl_ HB.out hx262_0
 replace hx262_1 := cl_ HB.out hx262_1
 replace hx262_2 := cl_ HB.out hx262_2
 replace hx262_3 := cl_ HB.out hx262_3
 replace hx262_4 := cl_ HB.out hx262_4
 replace p262 := eq_true p262
 replace q262 := eq_true q262
 have p263 : 0 ≤ (x9_3 : Int) := of_decide_eq_true as_
 have q263 : x9_3 < (l0.length : Int) := of_decide_eq_true as_
 obtain ⟨ad263, e263, hx263_0, hx263_1, hx263_2, hx263_3, hx263_4⟩ := at_T60 HR0.out x9_3 p263 q263
 have hw263_4 := hx263_4
 have hw263_3 := hx263_3
 have hw263_2 := hx263_2
 have hw263_1 := hx263_1
 have hw263_0 := hx263_0
 obtain rfl : ad256 = ad263 := (by injection e263)
 replace hx263_0 := cl_ HB.out hx263_0
 replace hx263_1 := cl_ HB.out hx263_1
 replace hx263_2 := cl_ HB.out hx263_2
 replace hx263_3 := cl_ HB.out hx263_3
 replace hx263_4 := cl_ HB.out hx263_4
 replace p263 := eq_true p263
 replace q263 := eq_true q263
 refine start_ (n := 20) (S := fun w' => w'.cell? ⟨gb257, 0, none⟩ = some (.int .i64 ((rd_T60 l0 a1).f0)) ∧ w'.cell? ⟨gb257, 1, none⟩ = some (.string ((rd_T60 l0 a1).f1)) ∧ w'.cell? ⟨gb257, 2, none⟩ = some (.string ((rd_T60 l0 a1).f2)) ∧ w'.cell? ⟨gb257, 3, none⟩ = some (.string ((rd_T60 l0 a1).f3)) ∧ w'.cell? ⟨gb257, 4, none⟩ = some (.int .i64 ((rd_T60 l0 a1).f4)) ∧ w'.cell? (ad256.add ((x9_3).toNat * 5)) = some (.int .i64 ((rd_T60 l0 x9_3).f0)) ∧ w'.cell? ⟨(ad256.add ((x9_3).toNat * 5)).block, (ad256.add ((x9_3).toNat * 5)).off + 1, none⟩ = some (.string ((rd_T60 l0 x9_3).f1)) ∧ w'.cell? ⟨(ad256.add ((x9_3).toNat * 5)).block, (ad256.add ((x9_3).toNat * 5)).off + 2, none⟩ = some (.string ((rd_T60 l0 x9_3).f2)) ∧ w'.cell? ⟨(ad256.add ((x9_3).toNat * 5)).block, (ad256.add ((x9_3).toNat * 5)).off + 3, none⟩ = some (.string ((rd_T60 l0 x9_3).f3)) ∧ w'.cell? ⟨(ad256.add ((x9_3).toNat * 5)).block, (ad256.add ((x9_3).toNat * 5)).off + 4, none⟩ = some (.int .i64 ((rd_T60 l0 x9_3).f4)) ∧ w'.cell? (ad256.add ((x9_3).toNat * 5)) = some (.int .i64 ((rd_T60 l0 x9_3).f0)) ∧ w'.cell? ⟨(ad256.add ((x9_3).toNat * 5)).block, (ad256.add ((x9_3).toNat * 5)).off + 1, none⟩ = some (.string ((rd_T60 l0 x9_3).f1)) ∧ w'.cell? ⟨(ad256.add ((x9_3).toNat * 5)).block, (ad256.add ((x9_3).toNat * 5)).off + 2, none⟩ = some (.string ((rd_T60 l0 x9_3).f2)) ∧ w'.cell? ⟨(ad256.add ((x9_3).toNat * 5)).block, (ad256.add ((x9_3).toNat * 5)).off + 3, none⟩ = some (.string ((rd_T60 l0 x9_3).f3)) ∧ w'.cell? ⟨(ad256.add ((x9_3).toNat * 5)).block, (ad256.add ((x9_3).toNat * 5)).off + 4, none⟩ = some (.int .i64 ((rd_T60 l0 x9_3).f4))) (ds := []) (lb_ 20 0) (by kernel_rfl) rfl rfl ⟨(blk_cell BK257.out 0).trans rfl, (blk_cell BK257.out 1).trans rfl, (blk_cell BK257.out 2).trans rfl, (blk_cell BK257.out 3).trans rfl, (blk_cell BK257.out 4).trans rfl, ((HB.out.cell (World.block_lt_of_cell? w _ hw262_0)).trans hw262_0), ((HB.out.cell (World.block_lt_of_cell? w _ hw262_1)).trans hw262_1), ((HB.out.cell (World.block_lt_of_cell? w _ hw262_2)).trans hw262_2), ((HB.out.cell (World.block_lt_of_cell? w _ hw262_3)).trans hw262_3), ((HB.out.cell (World.block_lt_of_cell? w _ hw262_4)).trans hw262_4), ((HB.out.cell (World.block_lt_of_cell? w _ hw263_0)).trans hw263_0), ((HB.out.cell (World.block_lt_of_cell? w _ hw263_1)).trans hw263_1), ((HB.out.cell (World.block_lt_of_cell? w _ hw263_2)).trans hw263_2), ((HB.out.cell (World.block_lt_of_cell? w _ hw263_3)).trans hw263_3), ((HB.out.cell (World.block_lt_of_cell? w _ hw263_4)).trans hw263_4)⟩ (fun hHeld => ?_); refine with_tabW fencepostref07_step.tab10 fencepostref07_step.bits10 (fun HT_ HW_ => ?_)
 generalize wr.drew = w44 at BK255 BK257 BK258 HB hx262_0 hx262_1 hx262_2 hx262_3 hx262_4 hx263_0 hx263_1 hx263_2 hx263_3 hx263_4 hHeld ⊢
 refine take_ (i := 0) (N := some 40) (v := ?_) (a' := ?_) (lb_ 20 1) rfl rfl (take_ofW HT_.out HW_.out (by kernel_rfl)) (fun _ _ _ h => h) (Or.inl ⟨by rfl, ?_⟩) hHeld ?_ ?_; rotate_left; rintro w' ⟨s0, s1, s2, s3, s4, s5, s6, s7, s8, s9, s10, s11, s12, s13, s14⟩; go_simp; with_reducible rfl; rotate_left; simp only [Act.put, List.setIfInBounds_toArray, List.set_cons_zero, List.set_cons_succ, i64_w, i32_w]; rfl
 refine one_ (i := 1) (N := some 41) (lb_ 20 3) rfl rfl (one_of HT_.out (by kernel_rfl)) (by decide) (fun K hK => ?_)
 refine goes_ Try.func58 (by kernel_rfl) rfl #[.agg #[.int .i64 ((rd_T60 l0 a1).f0), .string ((rd_T60 l0 a1).f1), .string ((rd_T60 l0 a1).f2), .string ((rd_T60 l0 a1).f3), .int .i64 ((rd_T60 l0 a1).f4)]] (by rfl) rfl rfl ar_ ?_
 with_reducible refine (fencepostref04_Jump.calls ((rd_T60 l0 a1).f0) ((rd_T60 l0 a1).f1) ((rd_T60 l0 a1).f2) ((rd_T60 l0 a1).f3) ((rd_T60 l0 a1).f4) true _ A36.out).mono ?_
 rintro e w45 ⟨rfl, hb⟩
 refine ⟨_, rfl, ?_⟩
 have n0_ := Aside0.mk (bb_ BK255.out hb)
 have n1_ := Aside0.mk (bb_ BK257.out hb)
 have n2_ := Aside0.mk (bb_ BK258.out hb)
 have n3_ := Aside0.mk (below_step (hb_ HB.out) hb)
 clear BK255
 clear BK257
 clear BK258
 clear HB
 have BK255 := n0_
 have BK257 := n1_
 have BK258 := n2_
 have HB := n3_
 clear n0_ n1_ n2_ n3_
 (try clear hb)
 (try clear hb2)
 (try clear hk)
 (try clear hi)
 refine hK.out _ _ ⟨(blk_cell BK257.out 0).trans rfl, (blk_cell BK257.out 1).trans rfl, (blk_cell BK257.out 2).trans rfl, (blk_cell BK257.out 3).trans rfl, (blk_cell BK257.out 4).trans rfl, ((HB.out.cell (World.block_lt_of_cell? w _ hw262_0)).trans hw262_0), ((HB.out.cell (World.block_lt_of_cell? w _ hw262_1)).trans hw262_1), ((HB.out.cell (World.block_lt_of_cell? w _ hw262_2)).trans hw262_2), ((HB.out.cell (World.block_lt_of_cell? w _ hw262_3)).trans hw262_3), ((HB.out.cell (World.block_lt_of_cell? w _ hw262_4)).trans hw262_4), ((HB.out.cell (World.block_lt_of_cell? w _ hw263_0)).trans hw263_0), ((HB.out.cell (World.block_lt_of_cell? w _ hw263_1)).trans hw263_1), ((HB.out.cell (World.block_lt_of_cell? w _ hw263_2)).trans hw263_2), ((HB.out.cell (World.block_lt_of_cell? w _ hw263_3)).trans hw263_3), ((HB.out.cell (World.block_lt_of_cell? w _ hw263_4)).trans hw263_4)⟩ (fun hHeld => ?_)
 clear hK K
 refine norm_ (a' := ?_) ?_ ?_
 rotate_left
 ·show Act.put _ (some 41) _ = _
  simp only [Act.put, List.setIfInBounds_toArray, List.set_cons_zero, List.set_cons_succ, i64_w, i32_w]
  rfl
 refine pure_ (i := 2) (N := some 42) (v := ?_) (a' := ?_) (lb_ 20 7) rfl rfl (any_of HT_.out (by kernel_rfl)) (fun _ _ _ h => h) (Or.inl ⟨by rfl, ?_⟩) ?_ ?_; rotate_left; intro w'; go_simp; with_reducible rfl; rotate_left; simp only [Act.put, List.setIfInBounds_toArray, List.set_cons_zero, List.set_cons_succ, i64_w, i32_w]; rfl
 refine pure_ (i := 3) (N := some 43) (v := ?_) (a' := ?_) (lb_ 20 15) rfl rfl (any_of HT_.out (by kernel_rfl)) (fun _ _ _ h => h) (Or.inl ⟨by rfl, ?_⟩) ?_ ?_; rotate_left; intro w'; go_simp; with_reducible rfl; rotate_left; simp only [Act.put, List.setIfInBounds_toArray, List.set_cons_zero, List.set_cons_succ, i64_w, i32_w]; rfl
 refine pure_ (i := 4) (N := some 44) (v := ?_) (a' := ?_) (lb_ 20 31) rfl rfl (any_of HT_.out (by kernel_rfl)) (fun _ _ _ h => h) (Or.inl ⟨by rfl, ?_⟩) ?_ ?_; rotate_left; intro w'; go_simp; with_reducible rfl; rotate_left; simp only [Act.put, List.setIfInBounds_toArray, List.set_cons_zero, List.set_cons_succ, i64_w, i32_w]; rfl
 refine pure_ (i := 5) (N := some 45) (v := ?_) (a' := ?_) (lb_ 20 63) rfl rfl (any_of HT_.out (by kernel_rfl)) (fun _ _ _ h => h) (Or.inl ⟨by rfl, ?_⟩) ?_ ?_; rotate_left; intro w'; go_simp; with_reducible rfl; rotate_left; simp only [Act.put, List.setIfInBounds_toArray, List.set_cons_zero, List.set_cons_succ, i64_w, i32_w]; rfl
 refine pure_ (i := 6) (N := some 46) (v := ?_) (a' := ?_) (lb_ 20 127) rfl rfl (any_of HT_.out (by kernel_rfl)) (fun _ _ _ h => h) (Or.inl ⟨by rfl, ?_⟩) ?_ ?_; rotate_left; intro w'; go_simp; with_reducible rfl; rotate_left; simp only [Act.put, List.setIfInBounds_toArray, List.set_cons_zero, List.set_cons_succ, i64_w, i32_w]; rfl
 refine take_ (i := 7) (N := some 47) (v := ?_) (a' := ?_) (lb_ 20 255) rfl rfl (take_ofW HT_.out HW_.out (by kernel_rfl)) (fun _ _ _ h => h) (Or.inl ⟨by rfl, ?_⟩) hHeld ?_ ?_; rotate_left; rintro w' ⟨s0, s1, s2, s3, s4, s5, s6, s7, s8, s9, s10, s11, s12, s13, s14⟩; go_simp; with_reducible rfl; rotate_left; simp only [Act.put, List.setIfInBounds_toArray, List.set_cons_zero, List.set_cons_succ, i64_w, i32_w]; rfl
 refine pure_ (i := 8) (N := some 48) (v := ?_) (a' := ?_) (lb_ 20 511) rfl rfl (any_of HT_.out (by kernel_rfl)) (fun _ _ _ h => h) (Or.inl ⟨by rfl, ?_⟩) ?_ ?_; rotate_left; intro w'; go_simp; with_reducible rfl; rotate_left; simp only [Act.put, List.setIfInBounds_toArray, List.set_cons_zero, List.set_cons_succ, i64_w, i32_w]; rfl
 refine pure_ (i := 9) (N := some 49) (v := ?_) (a' := ?_) (lb_ 20 1023) rfl rfl (any_of HT_.out (by kernel_rfl)) (fun _ _ _ h => h) (Or.inl ⟨by rfl, ?_⟩) ?_ ?_; rotate_left; intro w'; go_simp; with_reducible rfl; rotate_left; simp only [Act.put, List.setIfInBounds_toArray, List.set_cons_zero, List.set_cons_succ, i64_w, i32_w]; rfl
 refine pure_ (i := 10) (N := some 50) (v := ?_) (a' := ?_) (lb_ 20 2047) rfl rfl (any_of HT_.out (by kernel_rfl)) (fun _ _ _ h => h) (Or.inl ⟨by rfl, ?_⟩) ?_ ?_; rotate_left; intro w'; go_simp; with_reducible rfl; rotate_left; simp only [Act.put, List.setIfInBounds_toArray, List.set_cons_zero, List.set_cons_succ, i64_w, i32_w]; rfl
 refine pure_ (i := 11) (N := some 51) (v := ?_) (a' := ?_) (lb_ 20 4095) rfl rfl (any_of HT_.out (by kernel_rfl)) (fun _ _ _ h => h) (Or.inl ⟨by rfl, ?_⟩) ?_ ?_; rotate_left; intro w'; go_simp; with_reducible rfl; rotate_left; simp only [Act.put, List.setIfInBounds_toArray, List.set_cons_zero, List.set_cons_succ, i64_w, i32_w]; rfl
 refine pure_ (i := 12) (N := some 52) (v := ?_) (a' := ?_) (lb_ 20 8191) rfl rfl (any_of HT_.out (by kernel_rfl)) (fun _ _ _ h => h) (Or.inl ⟨by rfl, ?_⟩) ?_ ?_; rotate_left; intro w'; go_simp; with_reducible rfl; rotate_left; simp only [Act.put, List.setIfInBounds_toArray, List.set_cons_zero, List.set_cons_succ, i64_w, i32_w]; rfl
 refine pure_ (i := 13) (N := some 53) (v := ?_) (a' := ?_) (lb_ 20 16383) rfl rfl (any_of HT_.out (by kernel_rfl)) (fun _ _ _ h => h) (Or.inl ⟨by rfl, ?_⟩) ?_ ?_; rotate_left; intro w'; go_simp; with_reducible rfl; rotate_left; simp only [Act.put, List.setIfInBounds_toArray, List.set_cons_zero, List.set_cons_succ, i64_w, i32_w]; rfl
 refine pure_ (i := 14) (N := some 54) (v := ?_) (a' := ?_) (lb_ 20 32767) rfl rfl (any_of HT_.out (by kernel_rfl)) (fun _ _ _ h => h) (Or.inl ⟨by rfl, ?_⟩) ?_ ?_; rotate_left; intro w'; go_simp; with_reducible rfl; rotate_left; simp only [Act.put, List.setIfInBounds_toArray, List.set_cons_zero, List.set_cons_succ, i64_w, i32_w]; rfl
 refine pure_ (i := 16) (N := some 56) (v := ?_) (a' := ?_) (lb_ 20 98303) rfl rfl (any_of HT_.out (by kernel_rfl)) (fun _ _ _ h => h) (Or.inl ⟨by rfl, ?_⟩) ?_ ?_; rotate_left; intro w'; go_simp; with_reducible rfl; rotate_left; simp only [Act.put, List.setIfInBounds_toArray, List.set_cons_zero, List.set_cons_succ, i64_w, i32_w]; rfl
 refine take_ (i := 15) (N := some 55) (v := ?_) (a' := ?_) (lb_ 20 131071) rfl rfl (take_ofW HT_.out HW_.out (by kernel_rfl)) (fun _ _ _ h => h) (Or.inl ⟨by rfl, ?_⟩) hHeld ?_ ?_; rotate_left; rintro w' ⟨s0, s1, s2, s3, s4, s5, s6, s7, s8, s9, s10, s11, s12, s13, s14⟩; go_simp; with_reducible rfl; rotate_left; simp only [Act.put, List.setIfInBounds_toArray, List.set_cons_zero, List.set_cons_succ, i64_w, i32_w]; rfl
 refine take_ (i := 17) (N := some 57) (v := ?_) (a' := ?_) (lb_ 20 262143) rfl rfl (take_ofW HT_.out HW_.out (by kernel_rfl)) (fun _ _ _ h => h) (Or.inl ⟨by rfl, ?_⟩) hHeld ?_ ?_; rotate_left; rintro w' ⟨s0, s1, s2, s3, s4, s5, s6, s7, s8, s9, s10, s11, s12, s13, s14⟩; go_simp; with_reducible rfl; rotate_left; simp only [Act.put, List.setIfInBounds_toArray, List.set_cons_zero, List.set_cons_succ, i64_w, i32_w]; rfl
 refine pure_ (i := 18) (N := some 58) (v := ?_) (a' := ?_) (lb_ 20 524287) rfl rfl (any_of HT_.out (by kernel_rfl)) (fun _ _ _ h => h) (Or.inl ⟨by rfl, ?_⟩) ?_ ?_; rotate_left; intro w'; go_simp; with_reducible rfl; rotate_left; simp only [Act.put, List.setIfInBounds_toArray, List.set_cons_zero, List.set_cons_succ, i64_w, i32_w]; rfl
 refine pure_ (i := 19) (N := some 59) (v := ?_) (a' := ?_) (lb_ 20 1048575) rfl rfl (any_of HT_.out (by kernel_rfl)) (fun _ _ _ h => h) (Or.inl ⟨by rfl, ?_⟩) ?_ ?_; rotate_left; intro w'; go_simp; with_reducible rfl; rotate_left; simp only [Act.put, List.setIfInBounds_toArray, List.set_cons_zero, List.set_cons_succ, i64_w, i32_w]; rfl
 refine done_ (done_of HT_.out (by kernel_rfl)) ?_
 have q46 : (x9_3 : Int) ≤ ((l0.length : Int) : Int) := of_decide_eq_true as_
 obtain ⟨i046, hi046, _, hsz46, _⟩ := info_parts info60
 have hroom46 : l0.length ≤ c0 := HC0.out
 have hC46 : Kd.C k60 _ (some ad256) l0.length l0 := HR0.out
 have hcut46 := cut_to (P := Try.prog) 56 60 .i64 Try.underlying56 hi046 (some ad256) l0.length c0 x9_3 (of_decide_eq_true as_) q46 hroom46
 have hr46 := Kd.C_take (m := (x9_3 : Int).toNat) hC46 (by omega)
 have hy46 : y264.length = (x9_3 : Int).toNat := (by rw [Ny264.out, List.length_take]; omega)
 rw [← Ny264.out] at hr46
 rw [← hy46] at hcut46
 have HR267 := Aside0.mk hr46
 have HC267 := Aside0.mk (show y264.length ≤ c0 from by omega)
 clear hr46 hC46 hroom46 hi046 hsz46
 have KY46 := Aside0.mk hy46
 clear hy46
 replace q46 := eq_true q46
 try go_wp2_with (first | ((with_reducible refine gate_callee (f := 59) rfl ?_); refine goesL_ (some 63) rfl rfl Try.func59 (by kernel_rfl) rfl #[.slice (some ad256) y264.length c0] rfl ar_ ?_; (with_reducible refine (fencepostref07_ahead.calls k3 _ _ y264 t268 _ ?side1 ?side2 A43.out).mono ?_); (case side1 => exact cd_ (Kd.C_below HR267.out HB.out)); (case side2 => exact HC267.out); rintro e w' ⟨rfl, ⟨nd, rfl⟩⟩; refine ⟨_, rfl, ?_⟩; (try (rw [drewN_self w45]; generalize hq_ : World.drewN w45 _ = w45; have n0_ : Aside0 (w45.heap[gb255]? = some (.cells #[.int .i64 0, .int .i64 0, .int .i64 0, .int .i64 0, .int .i64 0] 53 (0, 0))) := ⟨by rw [← hq_]; exact (bd_ BK255.out)⟩; have n1_ : Aside0 (w45.heap[gb257]? = some (.cells #[.int .i64 ((rd_T60 l0 a1).f0), .string ((rd_T60 l0 a1).f1), .string ((rd_T60 l0 a1).f2), .string ((rd_T60 l0 a1).f3), .int .i64 ((rd_T60 l0 a1).f4)] 60 (0, 0))) := ⟨by rw [← hq_]; exact (bd_ BK257.out)⟩; have n2_ : Aside0 (w45.heap[gb258]? = some (.cells #[.int .i64 ((rd_T60 l0 a1).f0), .int .i64 x259001_5, .int .i64 x259002_23, .int .i64 ((rd_T60 l0 a1).f4), .int .i64 x259004_3] 53 (0, 0))) := ⟨by rw [← hq_]; exact (bd_ BK258.out)⟩; have n3_ : Aside0 (Below w.heap.size w w45) := ⟨by rw [← hq_]; exact (hb_ HB.out)⟩; clear BK255 BK257 BK258 HB hq_; have BK255 := n0_; have BK257 := n1_; have BK258 := n2_; have HB := n3_; clear n0_ n1_ n2_ n3_)); have hnb47 := NB258_255.out; have hnc47 := NB255_258.out; have hnb48 := NB258_257.out; have hnc48 := NB257_258.out; have hcz49_0 : w45.cell? ⟨gb258, 0, none⟩ = some (.int .i64 ((rd_T60 l0 a1).f0)) := (blk_cell BK258.out 0).trans rfl; have hcz49_1 : w45.cell? ⟨gb258, 1, none⟩ = some (.int .i64 x259001_5) := (blk_cell BK258.out 1).trans rfl; have hcz49_2 : w45.cell? ⟨gb258, 2, none⟩ = some (.int .i64 x259002_23) := (blk_cell BK258.out 2).trans rfl; have hcz49_3 : w45.cell? ⟨gb258, 3, none⟩ = some (.int .i64 ((rd_T60 l0 a1).f4)) := (blk_cell BK258.out 3).trans rfl; have hcz49_4 : w45.cell? ⟨gb258, 4, none⟩ = some (.int .i64 x259004_3) := (blk_cell BK258.out 4).trans rfl; have hfz49_0 := blk_frozen BK258.out 0; have hfz49_1 := blk_frozen BK258.out 1; have hfz49_2 := blk_frozen BK258.out 2; have hfz49_3 := blk_frozen BK258.out 3; have hfz49_4 := blk_frozen BK258.out 4))
 go_roundg k3
 case measure => have := HJ5.out; have := HJ23.out; have := HK3.out; omega
 case rel => exact ⟨(wrap64 (x9_3 + 1)), (t268), rf_, H', ⟨by have := HJ5.out; have := HJ23.out; have := HK3.out; omega⟩, ⟨by (with_reducible repeat (first | refine blk_drewN ?_ _ | refine blk_drew ?_ | refine blk_alloc ?_ _)); refine blk_far ?_ NB255_258.out _; (with_reducible repeat (first | refine blk_drewN ?_ _ | refine blk_drew ?_ | refine blk_alloc ?_ _)); exact BK255.out⟩, ⟨by (with_reducible repeat (first | refine blk_drewN ?_ _ | refine blk_drew ?_ | refine blk_alloc ?_ _)); refine blk_far ?_ NB257_258.out _; (with_reducible repeat (first | refine blk_drewN ?_ _ | refine blk_drew ?_ | refine blk_alloc ?_ _)); exact BK257.out⟩, ⟨by (with_reducible repeat (first | refine blk_drewN ?_ _ | refine blk_drew ?_ | refine blk_alloc ?_ _)); refine blk_put (cs := #[.int .i64 ((rd_T60 l0 a1).f0), .int .i64 x259001_5, .int .i64 x259002_23, .int .i64 ((rd_T60 l0 a1).f4), .int .i64 x259004_3]) ?_ 4 _ rfl; (with_reducible repeat (first | refine blk_drewN ?_ _ | refine blk_drew ?_ | refine blk_alloc ?_ _)); exact BK258.out⟩, ⟨hb_ HB.out⟩⟩
end Go.Proofs.Ytijpfonbeepmfaa.Print
