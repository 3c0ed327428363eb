-- Written by ownprint.py (this session's) with the kit's print.py: functions, contracts, rows; Lean checks it.
import Derived.Test.YtijpfonbeepmfaaPrint0
import Derived.Test.YtijpfonbeepmfaaPrint10
import Derived.Test.YtijpfonbeepmfaaPrint11
import Derived.Test.YtijpfonbeepmfaaPrint12
import Derived.Test.YtijpfonbeepmfaaHSq
namespace Go.Proofs.Ytijpfonbeepmfaa.Print
open Go.RowKit Go.Proofs.YtijpfonbeepmfaaW.PrintWords Go.Proofs.YtijpfonbeepmfaaW.PrintLast Go.Proofs.YtijpfonbeepmfaaW.PrintMore
attribute [local go_sem] max2_int min2_int max_two min_two max_three min_three max_four min_four   -- for this text's walks alone
set_option linter.unusedVariables false
set_option linter.unusedSimpArgs false
mutual
def fencepostref04_line.j0 : Nat → List (S60) → Int → Bool → Int → ByteArray → ByteArray → ByteArray → Int → Option (Int)
 | 0, _, _, _, _, _, _, _, _ => none
 | k + 1, x0, x1, x27, x176000, x176001, x176002, x176003, x176004 => if x27 = true then (some 21) else (if x176000 = 6 then (if x1 > 0 then (if 0 ≤ (wrap64 (x1 - 1)) then (if (wrap64 (x1 - 1)) < (x0.length : Int) then (fencepostref04_line.j1 k x0 x1 (((rd_T60 x0 (wrap64 (x1 - 1))).f0) == 6) x176000 x176001 x176002 x176003 x176004) else (none)) else (none)) else (fencepostref04_line.j1 k x0 x1 false x176000 x176001 x176002 x176003 x176004)) else (fencepostref04_line.j1 k x0 x1 false x176000 x176001 x176002 x176003 x176004))
def fencepostref04_line.j1 : Nat → List (S60) → Int → Bool → Int → ByteArray → ByteArray → ByteArray → Int → Option (Int)
 | 0, _, _, _, _, _, _, _, _ => none
 | k + 1, x0, x1, x43, x176000, x176001, x176002, x176003, x176004 => if x43 = true then (some 23) else ((fencepostref04_Jump.f x176000 x176001 x176002 x176003 x176004).bind fun t183 => (if t183 = true then (if 0 ≤ (wrap64 (x1 + 1)) then (if (wrap64 (x1 + 1)) ≤ (x0.length : Int) then ((fencepostref04_labels.f k (x0.drop ((wrap64 (x1 + 1)) : Int).toNat) x176003).bind fun t188 => (fencepostref04_line.j2 k x0 x1 (t188 == 0) x176000 x176001 x176002 x176003 x176004)) else (none)) else (none)) else (fencepostref04_line.j2 k x0 x1 false x176000 x176001 x176002 x176003 x176004)))
def fencepostref04_line.j2 : Nat → List (S60) → Int → Bool → Int → ByteArray → ByteArray → ByteArray → Int → Option (Int)
 | 0, _, _, _, _, _, _, _, _ => none
 | k + 1, x0, x1, x55, x176000, x176001, x176002, x176003, x176004 => if x55 = true then (some 22) else (fencepostref04_line.l0 k x0 x1 0 0 0 x176000 x176001 x176002 x176003 x176004)
def fencepostref04_line.l0 : Nat → List (S60) → Int → Int → Int → Int → Int → ByteArray → ByteArray → ByteArray → Int → Option (Int)
 | 0, _, _, _, _, _, _, _, _, _, _ => none
 | k + 1, x0, x1, x6, x7, x8, x176000, x176001, x176002, x176003, x176004 => if x8 < x1 then (if 0 ≤ x8 then (if x8 < (x0.length : Int) then ((fencepostref04_Instr.f ((rd_T60 x0 x8).f0) ((rd_T60 x0 x8).f1) ((rd_T60 x0 x8).f2) ((rd_T60 x0 x8).f3) ((rd_T60 x0 x8).f4)).bind fun t191 => (if t191 = true then (if ((rd_T60 x0 x8).f0) = 11 then (fencepostref04_line.l0 k x0 x1 (wrap64 (x6 + 1)) (wrap64 (x7 + 1)) (wrap64 (x8 + 1)) x176000 x176001 x176002 x176003 x176004) else (fencepostref04_line.l0 k x0 x1 (wrap64 (x6 + 1)) x7 (wrap64 (x8 + 1)) x176000 x176001 x176002 x176003 x176004)) else (if ((rd_T60 x0 x8).f0) = 11 then (fencepostref04_line.l0 k x0 x1 x6 (wrap64 (x7 + 1)) (wrap64 (x8 + 1)) x176000 x176001 x176002 x176003 x176004) else (fencepostref04_line.l0 k x0 x1 x6 x7 (wrap64 (x8 + 1)) x176000 x176001 x176002 x176003 x176004)))) else (none)) else (none)) else ((fencepostref04_Instr.f x176000 x176001 x176002 x176003 x176004).bind fun t189 => (if t189 = true then (if x6 ≥ 8 then (some 5) else (if x176000 = 11 then (if x7 ≥ 8 then (some 5) else (some 0)) else (some 0))) else (if x176000 = 11 then (if x7 ≥ 8 then (some 5) else (some 0)) else (some 0))))
end
def fencepostref04_line.f (k : Nat) (l0 : List (S60)) (a1 : Int) : Option (Int) := if 0 ≤ a1 then (if a1 < (l0.length : Int) then ((fencepostref03_Right.f k ((rd_T60 l0 a1).f0) ((rd_T60 l0 a1).f1) ((rd_T60 l0 a1).f2) ((rd_T60 l0 a1).f3) ((rd_T60 l0 a1).f4)).bind fun t176 => (if t176 = true then (if ((rd_T60 l0 a1).f0) = 11 then (if a1 ≤ (l0.length : Int) then ((fencepostref04_labels.f k (l0.take (a1 : Int).toNat) ((rd_T60 l0 a1).f3)).bind fun t181 => (fencepostref04_line.j0 k l0 a1 (decide (t181 > 0)) ((rd_T60 l0 a1).f0) ((rd_T60 l0 a1).f1) ((rd_T60 l0 a1).f2) ((rd_T60 l0 a1).f3) ((rd_T60 l0 a1).f4))) else (none)) else (fencepostref04_line.j0 k l0 a1 false ((rd_T60 l0 a1).f0) ((rd_T60 l0 a1).f1) ((rd_T60 l0 a1).f2) ((rd_T60 l0 a1).f3) ((rd_T60 l0 a1).f4))) else (some 11))) else (none)) else (none)
def fencepostref04_line.T4 : Bool × List (List Nat × List Nat) := (true, [([], []), ([0], [0]), ([1], [1]), ([2], [2]), ([3], [3]), ([3], [3]), ([4, 5, 3], [3, 4, 5]), ([3], [3]), ([7, 3], [3, 7]), ([6, 8, 3, 3], [3, 6, 8]), ([9, 3], [3, 9]), ([3, 10], [3, 10])])
def fencepostref04_line.B4 : List Nat := [0, 1, 3, 7, 15, 15, 63, 15, 143, 511, 1023, 2047]
theorem fencepostref04_line.tab4 : rtab .any (opsOf Try.f54 4) = fencepostref04_line.T4 := by kernel_rfl
theorem fencepostref04_line.bits4 : waitsOk fencepostref04_line.T4.2 fencepostref04_line.B4 = true := by kernel_rfl
def fencepostref04_line.T8 : Bool × List (List Nat × List Nat) := (true, [([], []), ([0], [0]), ([1, 1], [1]), ([2], [2]), ([2], [2]), ([4, 2], [2, 4]), ([3, 5, 2], [2, 3, 5]), ([2], [2]), ([7, 2], [2, 7]), ([6, 8, 2, 2], [2, 6, 8]), ([9, 2], [2, 9]), ([2, 10], [2, 10])])
def fencepostref04_line.B8 : List Nat := [0, 1, 3, 7, 7, 23, 63, 7, 135, 511, 1023, 2047]
theorem fencepostref04_line.tab8 : rtab .any (opsOf Try.f54 8) = fencepostref04_line.T8 := by kernel_rfl
theorem fencepostref04_line.bits8 : waitsOk fencepostref04_line.T8.2 fencepostref04_line.B8 = true := by kernel_rfl
set_option maxHeartbeats 8000000 in
set_option maxRecDepth 100000 in
theorem fencepostref04_line.calls (k : Nat) (A0 : Option Addr) (c0 : Nat) (l0 : List (S60)) (a1 : Int) (r : Int) (w : World) (hr0 : Kd.C k60 w A0 l0.length l0) (hc0 : l0.length ≤ c0) (h : fencepostref04_line.f k l0 a1 = some r) :
 Calls Try.prog 54 #[.slice A0 l0.length c0, .int .i64 a1] w fun e w' => e = .returned (.int .i64 r) ∧ Below w.heap.size w w' := by
 have hu60 := Try.underlying60
 have HR0 := Aside0.mk hr0
 have HC0 := Aside0.mk hc0
 clear hr0 hc0
 have HB := Aside0.mk (Below.refl w.heap.size w)
 have H : (if 0 ≤ a1 then (if a1 < (l0.length : Int) then ((fencepostref03_Right.f k ((rd_T60 l0 a1).f0) ((rd_T60 l0 a1).f1) ((rd_T60 l0 a1).f2) ((rd_T60 l0 a1).f3) ((rd_T60 l0 a1).f4)).bind fun t176 => (if t176 = true then (if ((rd_T60 l0 a1).f0) = 11 then (if a1 ≤ (l0.length : Int) then ((fencepostref04_labels.f k (l0.take (a1 : Int).toNat) ((rd_T60 l0 a1).f3)).bind fun t181 => (fencepostref04_line.j0 k l0 a1 (decide (t181 > 0)) ((rd_T60 l0 a1).f0) ((rd_T60 l0 a1).f1) ((rd_T60 l0 a1).f2) ((rd_T60 l0 a1).f3) ((rd_T60 l0 a1).f4))) else (none)) else (fencepostref04_line.j0 k l0 a1 false ((rd_T60 l0 a1).f0) ((rd_T60 l0 a1).f1) ((rd_T60 l0 a1).f2) ((rd_T60 l0 a1).f3) ((rd_T60 l0 a1).f4))) else (some 11))) else (none)) else (none)) = some r := h
 clear h
 by_cases c3 : 0 ≤ a1
 rotate_left
 ·rw [if_neg c3] at H
  exact absurd H (by simp)
 rw [if_pos c3] at H
 have c3b0 : decide (0 ≤ a1) = true := decide_eq_true c3
 clear c3
 by_cases c4 : a1 < (l0.length : Int)
 rotate_left
 ·rw [if_neg c4] at H
  exact absurd H (by simp)
 rw [if_pos c4] at H
 have c4b0 : decide (a1 < (l0.length : Int)) = true := decide_eq_true c4
 clear c4
 replace H := Option.bind_eq_some_iff.mp H
 obtain ⟨t176, A50, H⟩ := H
 replace H : (if t176 = true then (if ((rd_T60 l0 a1).f0) = 11 then (if a1 ≤ (l0.length : Int) then ((fencepostref04_labels.f k (l0.take (a1 : Int).toNat) ((rd_T60 l0 a1).f3)).bind fun t181 => (fencepostref04_line.j0 k l0 a1 (decide (t181 > 0)) ((rd_T60 l0 a1).f0) ((rd_T60 l0 a1).f1) ((rd_T60 l0 a1).f2) ((rd_T60 l0 a1).f3) ((rd_T60 l0 a1).f4))) else (none)) else (fencepostref04_line.j0 k l0 a1 false ((rd_T60 l0 a1).f0) ((rd_T60 l0 a1).f1) ((rd_T60 l0 a1).f2) ((rd_T60 l0 a1).f3) ((rd_T60 l0 a1).f4))) else (some 11)) = some r := H
 have A5 := Aside0.mk A50
 clear A50
 by_cases c6 : t176 = true
 rotate_left
 ·replace c6 := Bool.eq_false_iff.mpr c6
  subst c6
  have H1 : (some 11) = some r := by rw [if_neg (show ¬ (false = true) by decide)] at H; exact H
  clear H
  have H := H1
  clear H1
  obtain rfl := Option.some.inj H
  have p174 : 0 ≤ (a1 : Int) := of_decide_eq_true as_
  have q174 : a1 < (l0.length : Int) := of_decide_eq_true as_
  obtain ⟨ad174, e174, hx174_0, hx174_1, hx174_2, hx174_3, hx174_4⟩ := at_T60 HR0.out a1 p174 q174
  cases e174
  replace p174 := eq_true p174
  replace q174 := eq_true q174
  go_enter Try.func54, Try.ntmps54
  (try simp only [List.append_eq, List.cons_append, List.nil_append])
  go_wp2_with (first | ((with_reducible refine gate_dst (N := 5) rfl ?_); refine box_event ?hg (N := 5) ?hd (cs := #[.int .i64 0, .string (⟨#[]⟩ : ByteArray), .string (⟨#[]⟩ : ByteArray), .string (⟨#[]⟩ : ByteArray), .int .i64 0]) (t := 60) ?hr ?_; (case hd => rfl); (case hg => rfl); (case hr => first | (go_simp; done) | (go_simp; rfl)); intro gb175 hg w80 hbox hb; have n0_ := Aside0.mk (below_step (hb_ HB.out) hb); have n1_ := Aside0.mk (hbox); have n2_ := Aside0.mk (gs_ hg (hb_ HB.out)); have n3_ := Aside0.mk (gs_ hg (hb_ HB.out)); clear HB; have HB := n0_; have BK175 := n1_; have GW175 := n2_; have GE175 := n3_; clear n0_ n1_ n2_ n3_; clear hb hbox hg; have hcz81_0 : w80.cell? ⟨gb175, 0, none⟩ = some (.int .i64 0) := (blk_cell BK175.out 0).trans rfl; have hcz81_1 : w80.cell? ⟨gb175, 1, none⟩ = some (.string (⟨#[]⟩ : ByteArray)) := (blk_cell BK175.out 1).trans rfl; have hcz81_2 : w80.cell? ⟨gb175, 2, none⟩ = some (.string (⟨#[]⟩ : ByteArray)) := (blk_cell BK175.out 2).trans rfl; have hcz81_3 : w80.cell? ⟨gb175, 3, none⟩ = some (.string (⟨#[]⟩ : ByteArray)) := (blk_cell BK175.out 3).trans rfl; have hcz81_4 : w80.cell? ⟨gb175, 4, none⟩ = some (.int .i64 0) := (blk_cell BK175.out 4).trans rfl; have hfz81_0 := blk_frozen BK175.out 0; have hfz81_1 := blk_frozen BK175.out 1; have hfz81_2 := blk_frozen BK175.out 2; have hfz81_3 := blk_frozen BK175.out 3; have hfz81_4 := blk_frozen BK175.out 4) | ((with_reducible refine gate_callee (f := 61) rfl ?_); refine goesL_ (some 14) rfl rfl Try.func61 (by kernel_rfl) rfl #[.agg #[.int .i64 ((rd_T60 l0 a1).f0), .string ((rd_T60 l0 a1).f1), .string ((rd_T60 l0 a1).f2), .string ((rd_T60 l0 a1).f3), .int .i64 ((rd_T60 l0 a1).f4)]] rfl ar_ ?_; (with_reducible refine (fencepostref03_Right.calls k ((rd_T60 l0 a1).f0) ((rd_T60 l0 a1).f1) ((rd_T60 l0 a1).f2) ((rd_T60 l0 a1).f3) ((rd_T60 l0 a1).f4) false _ A5.out).mono ?_); rintro e w82 ⟨rfl, hb⟩; refine ⟨_, rfl, ?_⟩; have n0_ := Aside0.mk (blk_below (g := gb175) (o := .cells #[.int .i64 ((rd_T60 l0 a1).f0), .string ((rd_T60 l0 a1).f1), .string ((rd_T60 l0 a1).f2), .string ((rd_T60 l0 a1).f3), .int .i64 ((rd_T60 l0 a1).f4)] 60 (0, 0)) (by exact bp5_ BK175.out) hb); have n1_ := Aside0.mk (below_step (hb_ HB.out) hb); clear BK175; clear HB; have BK175 := n0_; have HB := n1_; clear n0_ n1_; (try clear hb); (try clear hb2); (try clear hk); (try clear hi)))
  go_ret
  exact ⟨by first | rfl | (simp [errW_none, errW_some] <;> rfl) | (simp [*, errW_none, errW_some] <;> rfl), hb_ HB.out⟩
 subst c6
 have H1 : (if ((rd_T60 l0 a1).f0) = 11 then (if a1 ≤ (l0.length : Int) then ((fencepostref04_labels.f k (l0.take (a1 : Int).toNat) ((rd_T60 l0 a1).f3)).bind fun t181 => (fencepostref04_line.j0 k l0 a1 (decide (t181 > 0)) ((rd_T60 l0 a1).f0) ((rd_T60 l0 a1).f1) ((rd_T60 l0 a1).f2) ((rd_T60 l0 a1).f3) ((rd_T60 l0 a1).f4))) else (none)) else (fencepostref04_line.j0 k l0 a1 false ((rd_T60 l0 a1).f0) ((rd_T60 l0 a1).f1) ((rd_T60 l0 a1).f2) ((rd_T60 l0 a1).f3) ((rd_T60 l0 a1).f4))) = some r := by rw [if_pos rfl] at H; exact H
 clear H
 have H := H1
 clear H1
 have HC7 := Aside0.mk H
 clear H
 have p174 : 0 ≤ (a1 : Int) := of_decide_eq_true as_
 have q174 : a1 < (l0.length : Int) := of_decide_eq_true as_
 obtain ⟨ad174, e174, hx174_0, hx174_1, hx174_2, hx174_3, hx174_4⟩ := at_T60 HR0.out a1 p174 q174
 cases e174
 replace p174 := eq_true p174
 replace q174 := eq_true q174
 go_enter Try.func54, Try.ntmps54
 (try simp only [List.append_eq, List.cons_append, List.nil_append])
 go_upto_region 4 with (first | ((with_reducible refine gate_dst (N := 5) rfl ?_); refine box_event ?hg (N := 5) ?hd (cs := #[.int .i64 0, .string (⟨#[]⟩ : ByteArray), .string (⟨#[]⟩ : ByteArray), .string (⟨#[]⟩ : ByteArray), .int .i64 0]) (t := 60) ?hr ?_; (case hd => rfl); (case hg => rfl); (case hr => first | (go_simp; done) | (go_simp; rfl)); intro gb175 hg w8 hbox hb; have n0_ := Aside0.mk (below_step (hb_ HB.out) hb); have n1_ := Aside0.mk (hbox); have n2_ := Aside0.mk (gs_ hg (hb_ HB.out)); have n3_ := Aside0.mk (gs_ hg (hb_ HB.out)); clear HB; have HB := n0_; have BK175 := n1_; have GW175 := n2_; have GE175 := n3_; clear n0_ n1_ n2_ n3_; clear hb hbox hg; have hcz9_0 : w8.cell? ⟨gb175, 0, none⟩ = some (.int .i64 0) := (blk_cell BK175.out 0).trans rfl; have hcz9_1 : w8.cell? ⟨gb175, 1, none⟩ = some (.string (⟨#[]⟩ : ByteArray)) := (blk_cell BK175.out 1).trans rfl; have hcz9_2 : w8.cell? ⟨gb175, 2, none⟩ = some (.string (⟨#[]⟩ : ByteArray)) := (blk_cell BK175.out 2).trans rfl; have hcz9_3 : w8.cell? ⟨gb175, 3, none⟩ = some (.string (⟨#[]⟩ : ByteArray)) := (blk_cell BK175.out 3).trans rfl; have hcz9_4 : w8.cell? ⟨gb175, 4, none⟩ = some (.int .i64 0) := (blk_cell BK175.out 4).trans rfl; have hfz9_0 := blk_frozen BK175.out 0; have hfz9_1 := blk_frozen BK175.out 1; have hfz9_2 := blk_frozen BK175.out 2; have hfz9_3 := blk_frozen BK175.out 3; have hfz9_4 := blk_frozen BK175.out 4) | ((with_reducible refine gate_callee (f := 61) rfl ?_); refine goesL_ (some 14) rfl rfl Try.func61 (by kernel_rfl) rfl #[.agg #[.int .i64 ((rd_T60 l0 a1).f0), .string ((rd_T60 l0 a1).f1), .string ((rd_T60 l0 a1).f2), .string ((rd_T60 l0 a1).f3), .int .i64 ((rd_T60 l0 a1).f4)]] rfl ar_ ?_; (with_reducible refine (fencepostref03_Right.calls k ((rd_T60 l0 a1).f0) ((rd_T60 l0 a1).f1) ((rd_T60 l0 a1).f2) ((rd_T60 l0 a1).f3) ((rd_T60 l0 a1).f4) true _ A5.out).mono ?_); rintro e w10 ⟨rfl, hb⟩; refine ⟨_, rfl, ?_⟩; have n0_ := Aside0.mk (blk_below (g := gb175) (o := .cells #[.int .i64 ((rd_T60 l0 a1).f0), .string ((rd_T60 l0 a1).f1), .string ((rd_T60 l0 a1).f2), .string ((rd_T60 l0 a1).f3), .int .i64 ((rd_T60 l0 a1).f4)] 60 (0, 0)) (by exact bp5_ BK175.out) hb); have n1_ := Aside0.mk (below_step (hb_ HB.out) hb); clear BK175; clear HB; have BK175 := n0_; have HB := n1_; clear n0_ n1_; (try clear hb); (try clear hb2); (try clear hk); (try clear hi)))
 (try simp only [Act.put, List.setIfInBounds_toArray, List.set_cons_zero, List.set_cons_succ])
 go_cut [27] (fun v27 wc => ∃ (kq : Nat) (x27_6 : Bool), v27 = .bool x27_6 ∧ Aside0 (fencepostref04_line.j0 kq l0 a1 x27_6 ((rd_T60 l0 a1).f0) ((rd_T60 l0 a1).f1) ((rd_T60 l0 a1).f2) ((rd_T60 l0 a1).f3) ((rd_T60 l0 a1).f4) = some r) ∧ Aside0 (kq ≤ k) ∧ Aside0 (wc.heap[gb175]? = some (.cells #[.int .i64 ((rd_T60 l0 a1).f0), .string ((rd_T60 l0 a1).f1), .string ((rd_T60 l0 a1).f2), .string ((rd_T60 l0 a1).f3), .int .i64 ((rd_T60 l0 a1).f4)] 60 (0, 0))) ∧ Aside0 (Below w.heap.size w wc))
 case first =>
  have H := HC7.out
  clear HC7
  by_cases c11 : ((rd_T60 l0 a1).f0) = 11
  rotate_left
  ·rw [if_neg c11] at H
   have c11b0 : (((rd_T60 l0 a1).f0) == 11) = false := beq_eq_false_iff_ne.mpr c11
   have c11b1 : (((rd_T60 l0 a1).f0) != 11) = true := bne_iff_ne.mpr c11
   (first | rw [c11b0] | (simp only [i64_w, i32_w]; rw [c11b0]) | skip)
   have H' := Aside0.mk H
   clear H
   try go_wp2
   have n0_ := Aside0.mk (blk_drew BK175.out)
   have n1_ := Aside0.mk (below_drew1 HB.out)
   clear BK175
   clear HB
   have BK175 := n0_
   have HB := n1_
   clear n0_ n1_
   refine start_ (n := 12) (S := fun w' => w'.cell? ⟨gb175, 0, none⟩ = some (.int .i64 ((rd_T60 l0 a1).f0)) ∧ w'.cell? ⟨gb175, 1, none⟩ = some (.string ((rd_T60 l0 a1).f1)) ∧ w'.cell? ⟨gb175, 2, none⟩ = some (.string ((rd_T60 l0 a1).f2)) ∧ w'.cell? ⟨gb175, 3, none⟩ = some (.string ((rd_T60 l0 a1).f3)) ∧ w'.cell? ⟨gb175, 4, none⟩ = some (.int .i64 ((rd_T60 l0 a1).f4))) (ds := []) (lb_ 12 0) (by kernel_rfl) rfl rfl ⟨(blk_cell BK175.out 0).trans rfl, (blk_cell BK175.out 1).trans rfl, (blk_cell BK175.out 2).trans rfl, (blk_cell BK175.out 3).trans rfl, (blk_cell BK175.out 4).trans rfl⟩ (fun hHeld => ?_); refine with_tabW fencepostref04_line.tab4 fencepostref04_line.bits4 (fun HT_ HW_ => ?_)
   generalize w10.drew = w17 at BK175 HB hHeld ⊢
   refine pure_ (i := 0) (N := some 16) (v := ?_) (a' := ?_) (lb_ 12 1) rfl rfl (any_of HT_.out (by kernel_rfl)) (fun _ _ _ h => h) (Or.inl ⟨by rfl, ?_⟩) ?_ ?_; rotate_left; intro w'; go_simp; with_reducible rfl; rotate_left; simp only [Act.put, List.setIfInBounds_toArray, List.set_cons_zero, List.set_cons_succ, i64_w, i32_w]; rfl
   refine take_ (i := 1) (N := some 17) (v := ?_) (a' := ?_) (lb_ 12 3) rfl rfl (take_ofW HT_.out HW_.out (by kernel_rfl)) (fun _ _ _ h => h) (Or.inl ⟨by rfl, ?_⟩) hHeld ?_ ?_; rotate_left; rintro w' ⟨s0, s1, s2, s3, s4⟩; go_simp; with_reducible rfl; rotate_left; simp only [Act.put, List.setIfInBounds_toArray, List.set_cons_zero, List.set_cons_succ, i64_w, i32_w]; rfl
   refine pure_ (i := 2) (N := some 18) (v := ?_) (a' := ?_) (lb_ 12 7) rfl rfl (any_of HT_.out (by kernel_rfl)) (fun _ _ _ h => h) (Or.inl ⟨by rfl, ?_⟩) ?_ ?_; rotate_left; intro w'; go_simp; with_reducible rfl; rotate_left; simp only [Act.put, List.setIfInBounds_toArray, List.set_cons_zero, List.set_cons_succ, i64_w, i32_w]; rfl
   refine pure_ (i := 3) (N := some 19) (v := ?_) (a' := ?_) (lb_ 12 15) rfl rfl (any_of HT_.out (by kernel_rfl)) (fun _ _ _ h => h) (Or.inl ⟨by rfl, ?_⟩) ?_ ?_; rotate_left; intro w'; go_simp; with_reducible rfl; rotate_left; simp only [Act.put, List.setIfInBounds_toArray, List.set_cons_zero, List.set_cons_succ, i64_w, i32_w]; rfl
   refine pure_ (i := 4) (N := some 20) (v := undef) (a' := ?_) (lb_ 12 31) rfl rfl (any_of HT_.out (by kernel_rfl)) (fun _ _ _ h => h) (Or.inr ⟨by rfl, rfl⟩) ?_ ?_
   rotate_left
   ·simp only [Act.put, List.setIfInBounds_toArray, List.set_cons_zero, List.set_cons_succ, i64_w, i32_w]
    rfl
   refine pure_ (i := 5) (N := some 21) (v := undef) (a' := ?_) (lb_ 12 63) rfl rfl (any_of HT_.out (by kernel_rfl)) (fun _ _ _ h => h) (Or.inr ⟨by rfl, rfl⟩) ?_ ?_
   rotate_left
   ·simp only [Act.put, List.setIfInBounds_toArray, List.set_cons_zero, List.set_cons_succ, i64_w, i32_w]
    rfl
   refine pure_ (i := 6) (N := some 22) (v := undef) (a' := ?_) (lb_ 12 127) rfl rfl (any_of HT_.out (by kernel_rfl)) (fun _ _ _ h => h) (Or.inr ⟨by rfl, rfl⟩) ?_ ?_
   rotate_left
   ·simp only [Act.put, List.setIfInBounds_toArray, List.set_cons_zero, List.set_cons_succ, i64_w, i32_w]
    rfl
   refine pure_ (i := 7) (N := some 23) (v := undef) (a' := ?_) (lb_ 12 255) rfl rfl (any_of HT_.out (by kernel_rfl)) (fun _ _ _ h => h) (Or.inr ⟨by rfl, rfl⟩) ?_ ?_
   rotate_left
   ·simp only [Act.put, List.setIfInBounds_toArray, List.set_cons_zero, List.set_cons_succ, i64_w, i32_w]
    rfl
   refine pure_ (i := 8) (N := some 24) (v := undef) (a' := ?_) (lb_ 12 511) rfl rfl (any_of HT_.out (by kernel_rfl)) (fun _ _ _ h => h) (Or.inr ⟨by rfl, rfl⟩) ?_ ?_
   rotate_left
   ·simp only [Act.put, List.setIfInBounds_toArray, List.set_cons_zero, List.set_cons_succ, i64_w, i32_w]
    rfl
   refine pure_ (i := 9) (N := some 25) (v := undef) (a' := ?_) (lb_ 12 1023) rfl rfl (any_of HT_.out (by kernel_rfl)) (fun _ _ _ h => h) (Or.inr ⟨by rfl, rfl⟩) ?_ ?_
   rotate_left
   ·simp only [Act.put, List.setIfInBounds_toArray, List.set_cons_zero, List.set_cons_succ, i64_w, i32_w]
    rfl
   refine pure_ (i := 10) (N := some 26) (v := undef) (a' := ?_) (lb_ 12 2047) rfl rfl (any_of HT_.out (by kernel_rfl)) (fun _ _ _ h => h) (Or.inr ⟨by rfl, rfl⟩) ?_ ?_
   rotate_left
   ·simp only [Act.put, List.setIfInBounds_toArray, List.set_cons_zero, List.set_cons_succ, i64_w, i32_w]
    rfl
   refine pure_ (i := 11) (N := some 27) (v := ?_) (a' := ?_) (lb_ 12 4095) rfl rfl (any_of HT_.out (by kernel_rfl)) (fun _ _ _ h => h) (Or.inl ⟨by rfl, ?_⟩) ?_ ?_; rotate_left; intro w'; go_simp; with_reducible rfl; rotate_left; simp only [Act.put, List.setIfInBounds_toArray, List.set_cons_zero, List.set_cons_succ, i64_w, i32_w]; rfl
   refine done_ (done_of HT_.out (by kernel_rfl)) ?_
   try go_wp2
   go_meet
   case rel => exact ⟨_, (false), rf_, H', ⟨by first | omega | exact Nat.le_refl _⟩, ⟨bd_ BK175.out⟩, ⟨hb_ HB.out⟩⟩
  rw [if_pos c11] at H
  have c11b0 : (((rd_T60 l0 a1).f0) == 11) = true := beq_iff_eq.mpr c11
  have c11b1 : (((rd_T60 l0 a1).f0) != 11) = false := bne_eq_false_iff_eq.mpr c11
  clear c11
  (first | rw [c11b0] | (simp only [i64_w, i32_w]; rw [c11b0]) | skip)
  have c12b0 := eq_true (of_decide_eq_true as_ : 0 ≤ a1)
  by_cases c13 : a1 ≤ (l0.length : Int)
  rotate_left
  ·rw [if_neg c13] at H
   exact absurd H (by simp)
  rw [if_pos c13] at H
  have c13b0 := eq_true c13
  have c13b1 : decide (a1 ≤ (l0.length : Int)) = true := decide_eq_true c13
  clear c13
  obtain ⟨y177, hy177⟩ : ∃ y_ : List (S60), y_ = (l0.take (a1 : Int).toNat) := ⟨_, rfl⟩
  replace H : ((fencepostref04_labels.f k y177 ((rd_T60 l0 a1).f3)).bind fun t181 => (fencepostref04_line.j0 k l0 a1 (decide (t181 > 0)) ((rd_T60 l0 a1).f0) ((rd_T60 l0 a1).f1) ((rd_T60 l0 a1).f2) ((rd_T60 l0 a1).f3) ((rd_T60 l0 a1).f4))) = some r := by first | (rw [hy177]; with_reducible exact H) | (have H2_ := (Option.bind_some _ _).symm.trans H; rw [hy177]; with_reducible exact H2_) | (have H2_ := (Option.bind_some _ _).symm.trans H; with_reducible exact H2_) | with_reducible exact H | (rw [hy177]; exact H) | exact H
  have Ny177 := Aside0.mk hy177
  clear hy177
  replace H := Option.bind_eq_some_iff.mp H
  obtain ⟨t181, A140, H⟩ := H
  replace H : (fencepostref04_line.j0 k l0 a1 (decide (t181 > 0)) ((rd_T60 l0 a1).f0) ((rd_T60 l0 a1).f1) ((rd_T60 l0 a1).f2) ((rd_T60 l0 a1).f3) ((rd_T60 l0 a1).f4)) = some r := H
  have A14 := Aside0.mk A140
  clear A140
  have H' := Aside0.mk H
  clear H
  try go_wp2
  have n0_ := Aside0.mk (blk_drew BK175.out)
  have n1_ := Aside0.mk (below_drew1 HB.out)
  clear BK175
  clear HB
  have BK175 := n0_
  have HB := n1_
  clear n0_ n1_
  have q16 : (a1 : Int) ≤ ((l0.length : Int) : Int) := of_decide_eq_true as_
  obtain ⟨i016, hi016, _, hsz16, _⟩ := info_parts info60
  have hroom16 : l0.length ≤ c0 := HC0.out
  have hC16 : Kd.C k60 _ (some ad174) l0.length l0 := HR0.out
  have hcut16 := cut_to (P := Try.prog) 56 60 .i64 Try.underlying56 hi016 (some ad174) l0.length c0 a1 (of_decide_eq_true as_) q16 hroom16
  have hr16 := Kd.C_take (m := (a1 : Int).toNat) hC16 (by omega)
  have hy16 : y177.length = (a1 : Int).toNat := (by rw [Ny177.out, List.length_take]; omega)
  rw [← Ny177.out] at hr16
  rw [← hy16] at hcut16
  have HR180 := Aside0.mk hr16
  have HC180 := Aside0.mk (show y177.length ≤ c0 from by omega)
  clear hr16 hC16 hroom16 hi016 hsz16
  have KY16 := Aside0.mk hy16
  clear hy16
  replace q16 := eq_true q16
  refine start_ (n := 12) (S := fun w' => w'.cell? ⟨gb175, 0, none⟩ = some (.int .i64 ((rd_T60 l0 a1).f0)) ∧ w'.cell? ⟨gb175, 1, none⟩ = some (.string ((rd_T60 l0 a1).f1)) ∧ w'.cell? ⟨gb175, 2, none⟩ = some (.string ((rd_T60 l0 a1).f2)) ∧ w'.cell? ⟨gb175, 3, none⟩ = some (.string ((rd_T60 l0 a1).f3)) ∧ w'.cell? ⟨gb175, 4, none⟩ = some (.int .i64 ((rd_T60 l0 a1).f4))) (ds := []) (lb_ 12 0) (by kernel_rfl) rfl rfl ⟨(blk_cell BK175.out 0).trans rfl, (blk_cell BK175.out 1).trans rfl, (blk_cell BK175.out 2).trans rfl, (blk_cell BK175.out 3).trans rfl, (blk_cell BK175.out 4).trans rfl⟩ (fun hHeld => ?_); refine with_tabW fencepostref04_line.tab4 fencepostref04_line.bits4 (fun HT_ HW_ => ?_)
  generalize w10.drew = w15 at BK175 HB HR180 hHeld ⊢
  refine pure_ (i := 0) (N := some 16) (v := ?_) (a' := ?_) (lb_ 12 1) rfl rfl (any_of HT_.out (by kernel_rfl)) (fun _ _ _ h => h) (Or.inl ⟨by rfl, ?_⟩) ?_ ?_; rotate_left; intro w'; go_simp; with_reducible rfl; rotate_left; simp only [Act.put, List.setIfInBounds_toArray, List.set_cons_zero, List.set_cons_succ, i64_w, i32_w]; rfl
  refine take_ (i := 1) (N := some 17) (v := ?_) (a' := ?_) (lb_ 12 3) rfl rfl (take_ofW HT_.out HW_.out (by kernel_rfl)) (fun _ _ _ h => h) (Or.inl ⟨by rfl, ?_⟩) hHeld ?_ ?_; rotate_left; rintro w' ⟨s0, s1, s2, s3, s4⟩; go_simp; with_reducible rfl; rotate_left; simp only [Act.put, List.setIfInBounds_toArray, List.set_cons_zero, List.set_cons_succ, i64_w, i32_w]; rfl
  refine pure_ (i := 2) (N := some 18) (v := ?_) (a' := ?_) (lb_ 12 7) rfl rfl (any_of HT_.out (by kernel_rfl)) (fun _ _ _ h => h) (Or.inl ⟨by rfl, ?_⟩) ?_ ?_; rotate_left; intro w'; go_simp; with_reducible rfl; rotate_left; simp only [Act.put, List.setIfInBounds_toArray, List.set_cons_zero, List.set_cons_succ, i64_w, i32_w]; rfl
  refine pure_ (i := 3) (N := some 19) (v := ?_) (a' := ?_) (lb_ 12 15) rfl rfl (any_of HT_.out (by kernel_rfl)) (fun _ _ _ h => h) (Or.inl ⟨by rfl, ?_⟩) ?_ ?_; rotate_left; intro w'; go_simp; with_reducible rfl; rotate_left; simp only [Act.put, List.setIfInBounds_toArray, List.set_cons_zero, List.set_cons_succ, i64_w, i32_w]; rfl
  refine pure_ (i := 4) (N := some 20) (v := ?_) (a' := ?_) (lb_ 12 31) rfl rfl (any_of HT_.out (by kernel_rfl)) (fun _ _ _ h => h) (Or.inl ⟨by rfl, ?_⟩) ?_ ?_; rotate_left; intro w'; go_simp; with_reducible rfl; rotate_left; simp only [Act.put, List.setIfInBounds_toArray, List.set_cons_zero, List.set_cons_succ, i64_w, i32_w]; rfl
  refine pure_ (i := 5) (N := some 21) (v := ?_) (a' := ?_) (lb_ 12 63) rfl rfl (any_of HT_.out (by kernel_rfl)) (fun _ _ _ h => h) (Or.inl ⟨by rfl, ?_⟩) ?_ ?_; rotate_left; intro w'; go_simp; with_reducible rfl; rotate_left; simp only [Act.put, List.setIfInBounds_toArray, List.set_cons_zero, List.set_cons_succ, i64_w, i32_w]; rfl
  refine pure_ (i := 6) (N := some 22) (v := ?_) (a' := ?_) (lb_ 12 127) rfl rfl (any_of HT_.out (by kernel_rfl)) (fun _ _ _ h => h) (Or.inl ⟨by rfl, ?_⟩) ?_ ?_; rotate_left; intro w'; go_simp; with_reducible rfl; rotate_left; simp only [Act.put, List.setIfInBounds_toArray, List.set_cons_zero, List.set_cons_succ, i64_w, i32_w]; rfl
  refine pure_ (i := 7) (N := some 23) (v := ?_) (a' := ?_) (lb_ 12 255) rfl rfl (any_of HT_.out (by kernel_rfl)) (fun _ _ _ h => h) (Or.inl ⟨by rfl, ?_⟩) ?_ ?_; rotate_left; intro w'; go_simp; with_reducible rfl; rotate_left; simp only [Act.put, List.setIfInBounds_toArray, List.set_cons_zero, List.set_cons_succ, i64_w, i32_w]; rfl
  refine take_ (i := 8) (N := some 24) (v := ?_) (a' := ?_) (lb_ 12 511) rfl rfl (take_ofW HT_.out HW_.out (by kernel_rfl)) (fun _ _ _ h => h) (Or.inl ⟨by rfl, ?_⟩) hHeld ?_ ?_; rotate_left; rintro w' ⟨s0, s1, s2, s3, s4⟩; go_simp; with_reducible rfl; rotate_left; simp only [Act.put, List.setIfInBounds_toArray, List.set_cons_zero, List.set_cons_succ, i64_w, i32_w]; rfl
  refine one_ (i := 9) (N := some 25) (lb_ 12 1023) rfl rfl (one_of HT_.out (by kernel_rfl)) (by decide) (fun K hK => ?_)
  refine goes_ Try.func62 (by kernel_rfl) rfl #[.slice (some ad174) y177.length c0, .string ((rd_T60 l0 a1).f3)] (by rfl) rfl rfl ar_ ?_
  with_reducible refine (fencepostref04_labels.calls k _ _ y177 ((rd_T60 l0 a1).f3) t181 _ ?side1 ?side2 A14.out).mono ?_
  (case side1 => exact cd_ (Kd.C_below HR180.out HB.out))
  (case side2 => exact HC180.out)
  rintro e w' ⟨rfl, ⟨nd, rfl⟩⟩
  refine ⟨_, rfl, ?_⟩
  refine hK.out _ _ ⟨(blk_cell BK175.out 0).trans rfl, (blk_cell BK175.out 1).trans rfl, (blk_cell BK175.out 2).trans rfl, (blk_cell BK175.out 3).trans rfl, (blk_cell BK175.out 4).trans rfl⟩ (fun hHeld => ?_)
  clear hK K
  refine norm_ (a' := ?_) ?_ ?_
  rotate_left
  ·show Act.put _ (some 25) _ = _
   simp only [Act.put, List.setIfInBounds_toArray, List.set_cons_zero, List.set_cons_succ, i64_w, i32_w]
   rfl
  refine pure_ (i := 10) (N := some 26) (v := ?_) (a' := ?_) (lb_ 12 2047) rfl rfl (any_of HT_.out (by kernel_rfl)) (fun _ _ _ h => h) (Or.inl ⟨by rfl, ?_⟩) ?_ ?_; rotate_left; intro w'; go_simp; with_reducible rfl; rotate_left; simp only [Act.put, List.setIfInBounds_toArray, List.set_cons_zero, List.set_cons_succ, i64_w, i32_w]; rfl
  refine pure_ (i := 11) (N := some 27) (v := ?_) (a' := ?_) (lb_ 12 4095) rfl rfl (any_of HT_.out (by kernel_rfl)) (fun _ _ _ h => h) (Or.inl ⟨by rfl, ?_⟩) ?_ ?_; rotate_left; intro w'; go_simp; with_reducible rfl; rotate_left; simp only [Act.put, List.setIfInBounds_toArray, List.set_cons_zero, List.set_cons_succ, i64_w, i32_w]; rfl
  refine done_ (done_of HT_.out (by kernel_rfl)) ?_
  try go_wp2
  go_meet
  case rel => exact ⟨_, (decide (t181 > 0)), rf_, H', ⟨by first | omega | exact Nat.le_refl _⟩, ⟨bd_ BK175.out⟩, ⟨hb_ HB.out⟩⟩
 clear HC7
 try clear c3
 try clear c3b0
 try clear c4
 try clear c4b0
 try clear c6
 try clear hcz9_0
 try clear hcz9_1
 try clear hcz9_2
 try clear hcz9_3
 try clear hcz9_4
 try clear hfz9_0
 try clear hfz9_1
 try clear hfz9_2
 try clear hfz9_3
 try clear hfz9_4
 try clear hx174_0
 try clear hx174_1
 try clear hx174_2
 try clear hx174_3
 try clear hx174_4
 try clear p174
 try clear q174
 obtain ⟨kq, x27_6, rfl, HA, HJ6, BK175, HB⟩ := hcut
 cases kq with
 | zero => exact absurd HA.out (by simp [fencepostref04_line.j0])
 | succ kj6 => ?_
 have H := HA.out
 clear HA
 simp only [fencepostref04_line.j0] at H
 by_cases c18 : x27_6 = true
 ·subst c18
  have H1 : (some 21) = some r := by rw [if_pos rfl] at H; exact H
  clear H
  have H := H1
  clear H1
  obtain rfl := Option.some.inj H
  go_wp2
  go_ret
  exact ⟨by first | rfl | (simp [errW_none, errW_some] <;> rfl) | (simp [*, errW_none, errW_some] <;> rfl), hb_ HB.out⟩
 replace c18 := Bool.eq_false_iff.mpr c18
 subst c18
 have H1 : (if ((rd_T60 l0 a1).f0) = 6 then (if a1 > 0 then (if 0 ≤ (wrap64 (a1 - 1)) then (if (wrap64 (a1 - 1)) < (l0.length : Int) then (fencepostref04_line.j1 kj6 l0 a1 (((rd_T60 l0 (wrap64 (a1 - 1))).f0) == 6) ((rd_T60 l0 a1).f0) ((rd_T60 l0 a1).f1) ((rd_T60 l0 a1).f2) ((rd_T60 l0 a1).f3) ((rd_T60 l0 a1).f4)) else (none)) else (none)) else (fencepostref04_line.j1 kj6 l0 a1 false ((rd_T60 l0 a1).f0) ((rd_T60 l0 a1).f1) ((rd_T60 l0 a1).f2) ((rd_T60 l0 a1).f3) ((rd_T60 l0 a1).f4))) else (fencepostref04_line.j1 kj6 l0 a1 false ((rd_T60 l0 a1).f0) ((rd_T60 l0 a1).f1) ((rd_T60 l0 a1).f2) ((rd_T60 l0 a1).f3) ((rd_T60 l0 a1).f4))) = some r := by rw [if_neg (show ¬ (false = true) by decide)] at H; exact H
 clear H
 have H := H1
 clear H1
 have HC19 := Aside0.mk H
 clear H
 go_upto_region 6 with (fail)
 go_cut [43] (fun v43 wc => ∃ (kq : Nat) (x43_18 : Bool), v43 = .bool x43_18 ∧ Aside0 (fencepostref04_line.j1 kq l0 a1 x43_18 ((rd_T60 l0 a1).f0) ((rd_T60 l0 a1).f1) ((rd_T60 l0 a1).f2) ((rd_T60 l0 a1).f3) ((rd_T60 l0 a1).f4) = some r) ∧ Aside0 (kq ≤ kj6) ∧ Aside0 (wc.heap[gb175]? = some (.cells #[.int .i64 ((rd_T60 l0 a1).f0), .string ((rd_T60 l0 a1).f1), .string ((rd_T60 l0 a1).f2), .string ((rd_T60 l0 a1).f3), .int .i64 ((rd_T60 l0 a1).f4)] 60 (0, 0))) ∧ Aside0 (Below w.heap.size w wc))
 case first =>
  have H := HC19.out
  clear HC19
  by_cases c20 : ((rd_T60 l0 a1).f0) = 6
  rotate_left
  ·rw [if_neg c20] at H
   have c20b0 : (((rd_T60 l0 a1).f0) == 6) = false := beq_eq_false_iff_ne.mpr c20
   have c20b1 : (((rd_T60 l0 a1).f0) != 6) = true := bne_iff_ne.mpr c20
   (first | rw [c20b0] | (simp only [i64_w, i32_w]; rw [c20b0]) | skip)
   have H' := Aside0.mk H
   clear H
   have hcz27_0 : wc.cell? ⟨gb175, 0, none⟩ = some (.int .i64 ((rd_T60 l0 a1).f0)) := (blk_cell BK175.out 0).trans rfl
   have hcz27_1 : wc.cell? ⟨gb175, 1, none⟩ = some (.string ((rd_T60 l0 a1).f1)) := (blk_cell BK175.out 1).trans rfl
   have hcz27_2 : wc.cell? ⟨gb175, 2, none⟩ = some (.string ((rd_T60 l0 a1).f2)) := (blk_cell BK175.out 2).trans rfl
   have hcz27_3 : wc.cell? ⟨gb175, 3, none⟩ = some (.string ((rd_T60 l0 a1).f3)) := (blk_cell BK175.out 3).trans rfl
   have hcz27_4 : wc.cell? ⟨gb175, 4, none⟩ = some (.int .i64 ((rd_T60 l0 a1).f4)) := (blk_cell BK175.out 4).trans rfl
   have hfz27_0 := blk_frozen BK175.out 0
   have hfz27_1 := blk_frozen BK175.out 1
   have hfz27_2 := blk_frozen BK175.out 2
   have hfz27_3 := blk_frozen BK175.out 3
   have hfz27_4 := blk_frozen BK175.out 4
   go_wp2
   go_meet
   case rel => exact ⟨_, (false), rf_, H', ⟨by have := HJ6.out; first | omega | exact Nat.le_refl _⟩, ⟨bd_ BK175.out⟩, ⟨hb_ HB.out⟩⟩
  rw [if_pos c20] at H
  have c20b0 : (((rd_T60 l0 a1).f0) == 6) = true := beq_iff_eq.mpr c20
  have c20b1 : (((rd_T60 l0 a1).f0) != 6) = false := bne_eq_false_iff_eq.mpr c20
  clear c20
  (first | rw [c20b0] | (simp only [i64_w, i32_w]; rw [c20b0]) | skip)
  by_cases c21 : a1 > 0
  rotate_left
  ·rw [if_neg c21] at H
   have c21b0 : decide (0 < a1) = false := decide_eq_false c21
   clear c21
   have H' := Aside0.mk H
   clear H
   have hcz26_0 : wc.cell? ⟨gb175, 0, none⟩ = some (.int .i64 ((rd_T60 l0 a1).f0)) := (blk_cell BK175.out 0).trans rfl
   have hcz26_1 : wc.cell? ⟨gb175, 1, none⟩ = some (.string ((rd_T60 l0 a1).f1)) := (blk_cell BK175.out 1).trans rfl
   have hcz26_2 : wc.cell? ⟨gb175, 2, none⟩ = some (.string ((rd_T60 l0 a1).f2)) := (blk_cell BK175.out 2).trans rfl
   have hcz26_3 : wc.cell? ⟨gb175, 3, none⟩ = some (.string ((rd_T60 l0 a1).f3)) := (blk_cell BK175.out 3).trans rfl
   have hcz26_4 : wc.cell? ⟨gb175, 4, none⟩ = some (.int .i64 ((rd_T60 l0 a1).f4)) := (blk_cell BK175.out 4).trans rfl
   have hfz26_0 := blk_frozen BK175.out 0
   have hfz26_1 := blk_frozen BK175.out 1
   have hfz26_2 := blk_frozen BK175.out 2
   have hfz26_3 := blk_frozen BK175.out 3
   have hfz26_4 := blk_frozen BK175.out 4
   go_wp2
   go_meet
   case rel => exact ⟨_, (false), rf_, H', ⟨by have := HJ6.out; first | omega | exact Nat.le_refl _⟩, ⟨bd_ BK175.out⟩, ⟨hb_ HB.out⟩⟩
  rw [if_pos c21] at H
  have c21b0 : decide (0 < a1) = true := decide_eq_true c21
  clear c21
  obtain ⟨ji22, hji22⟩ : ∃ j_ : Int, (wrap64 (a1 - 1)) = j_ := ⟨_, rfl⟩
  replace H : (if 0 ≤ (ji22) then (if (ji22) < (l0.length : Int) then (fencepostref04_line.j1 kj6 l0 a1 (((rd_T60 l0 (ji22)).f0) == 6) ((rd_T60 l0 a1).f0) ((rd_T60 l0 a1).f1) ((rd_T60 l0 a1).f2) ((rd_T60 l0 a1).f3) ((rd_T60 l0 a1).f4)) else (none)) else (none)) = some r := by first | (rw [hji22] at H; exact H) | (simp only [hji22] at H ⊢; exact H)
  have hji22w : (IntKind.i64.wrap (a1 - 1)) = ji22 := (i64_w _).trans hji22
  by_cases c23 : 0 ≤ (ji22)
  rotate_left
  ·rw [if_neg c23] at H
   exact absurd H (by simp)
  rw [if_pos c23] at H
  have c23b0 : decide (0 ≤ (ji22)) = true := decide_eq_true c23
  clear c23
  by_cases c24 : (ji22) < (l0.length : Int)
  rotate_left
  ·rw [if_neg c24] at H
   exact absurd H (by simp)
  rw [if_pos c24] at H
  have c24b0 : decide ((ji22) < (l0.length : Int)) = true := decide_eq_true c24
  clear c24
  have H' := Aside0.mk H
  clear H
  have hcz25_0 : wc.cell? ⟨gb175, 0, none⟩ = some (.int .i64 ((rd_T60 l0 a1).f0)) := (blk_cell BK175.out 0).trans rfl
  have hcz25_1 : wc.cell? ⟨gb175, 1, none⟩ = some (.string ((rd_T60 l0 a1).f1)) := (blk_cell BK175.out 1).trans rfl
  have hcz25_2 : wc.cell? ⟨gb175, 2, none⟩ = some (.string ((rd_T60 l0 a1).f2)) := (blk_cell BK175.out 2).trans rfl
  have hcz25_3 : wc.cell? ⟨gb175, 3, none⟩ = some (.string ((rd_T60 l0 a1).f3)) := (blk_cell BK175.out 3).trans rfl
  have hcz25_4 : wc.cell? ⟨gb175, 4, none⟩ = some (.int .i64 ((rd_T60 l0 a1).f4)) := (blk_cell BK175.out 4).trans rfl
  have hfz25_0 := blk_frozen BK175.out 0
  have hfz25_1 := blk_frozen BK175.out 1
  have hfz25_2 := blk_frozen BK175.out 2
  have hfz25_3 := blk_frozen BK175.out 3
  have hfz25_4 := blk_frozen BK175.out 4
  have p182 : 0 ≤ ((ji22) : Int) := of_decide_eq_true as_
  have q182 : (ji22) < (l0.length : Int) := of_decide_eq_true as_
  obtain ⟨ad182, e182, hx182_0, hx182_1, hx182_2, hx182_3, hx182_4⟩ := at_T60 HR0.out (ji22) p182 q182
  obtain rfl : ad174 = ad182 := (by injection e182)
  replace hx182_0 := cl_ HB.out hx182_0
  replace hx182_1 := cl_ HB.out hx182_1
  replace hx182_2 := cl_ HB.out hx182_2
  replace hx182_3 := cl_ HB.out hx182_3
  replace hx182_4 := cl_ HB.out hx182_4
  replace p182 := eq_true p182
  replace q182 := eq_true q182
  go_wp2
  (try subst hji22)
  go_meet
  case rel => exact ⟨_, ((((rd_T60 l0 ((wrap64 (a1 - 1)))).f0) == 6)), (by first | rfl | (simp; done) | (simp only [← hji22] <;> (first | rfl | simp)) | (simp [*]; done)), H', ⟨by have := HJ6.out; first | omega | exact Nat.le_refl _⟩, ⟨bd_ BK175.out⟩, ⟨hb_ HB.out⟩⟩
 clear HC19
 try clear c3
 try clear c3b0
 try clear c4
 try clear c4b0
 try clear c6
 try clear c18
 try clear hcz9_0
 try clear hcz9_1
 try clear hcz9_2
 try clear hcz9_3
 try clear hcz9_4
 try clear hfz9_0
 try clear hfz9_1
 try clear hfz9_2
 try clear hfz9_3
 try clear hfz9_4
 try clear hx174_0
 try clear hx174_1
 try clear hx174_2
 try clear hx174_3
 try clear hx174_4
 try clear p174
 try clear q174
 obtain ⟨kq, x43_18, rfl, HA, HJ18, BK175, HB⟩ := hcut
 cases kq with
 | zero => exact absurd HA.out (by simp [fencepostref04_line.j1])
 | succ kj18 => ?_
 have H := HA.out
 clear HA
 simp only [fencepostref04_line.j1] at H
 by_cases c28 : x43_18 = true
 ·subst c28
  have H1 : (some 23) = some r := by rw [if_pos rfl] at H; exact H
  clear H
  have H := H1
  clear H1
  obtain rfl := Option.some.inj H
  go_wp2
  go_ret
  exact ⟨by first | rfl | (simp [errW_none, errW_some] <;> rfl) | (simp [*, errW_none, errW_some] <;> rfl), hb_ HB.out⟩
 replace c28 := Bool.eq_false_iff.mpr c28
 subst c28
 have H1 : ((fencepostref04_Jump.f ((rd_T60 l0 a1).f0) ((rd_T60 l0 a1).f1) ((rd_T60 l0 a1).f2) ((rd_T60 l0 a1).f3) ((rd_T60 l0 a1).f4)).bind fun t183 => (if t183 = true then (if 0 ≤ (wrap64 (a1 + 1)) then (if (wrap64 (a1 + 1)) ≤ (l0.length : Int) then ((fencepostref04_labels.f kj18 (l0.drop ((wrap64 (a1 + 1)) : Int).toNat) ((rd_T60 l0 a1).f3)).bind fun t188 => (fencepostref04_line.j2 kj18 l0 a1 (t188 == 0) ((rd_T60 l0 a1).f0) ((rd_T60 l0 a1).f1) ((rd_T60 l0 a1).f2) ((rd_T60 l0 a1).f3) ((rd_T60 l0 a1).f4))) else (none)) else (none)) else (fencepostref04_line.j2 kj18 l0 a1 false ((rd_T60 l0 a1).f0) ((rd_T60 l0 a1).f1) ((rd_T60 l0 a1).f2) ((rd_T60 l0 a1).f3) ((rd_T60 l0 a1).f4)))) = some r := by rw [if_neg (show ¬ (false = true) by decide)] at H; exact H
 clear H
 have H := H1
 clear H1
 have HC29 := Aside0.mk H
 clear H
 go_upto_region 8 with (fail)
 go_cut [55] (fun v55 wc => ∃ (kq : Nat) (x55_28 : Bool), v55 = .bool x55_28 ∧ Aside0 (fencepostref04_line.j2 kq l0 a1 x55_28 ((rd_T60 l0 a1).f0) ((rd_T60 l0 a1).f1) ((rd_T60 l0 a1).f2) ((rd_T60 l0 a1).f3) ((rd_T60 l0 a1).f4) = some r) ∧ Aside0 (kq ≤ kj18) ∧ Aside0 (wc.heap[gb175]? = some (.cells #[.int .i64 ((rd_T60 l0 a1).f0), .string ((rd_T60 l0 a1).f1), .string ((rd_T60 l0 a1).f2), .string ((rd_T60 l0 a1).f3), .int .i64 ((rd_T60 l0 a1).f4)] 60 (0, 0))) ∧ Aside0 (Below w.heap.size w wc))
 case first =>
  have H := HC29.out
  clear HC29
  replace H := Option.bind_eq_some_iff.mp H
  obtain ⟨t183, A300, H⟩ := H
  replace H : (if t183 = true then (if 0 ≤ (wrap64 (a1 + 1)) then (if (wrap64 (a1 + 1)) ≤ (l0.length : Int) then ((fencepostref04_labels.f kj18 (l0.drop ((wrap64 (a1 + 1)) : Int).toNat) ((rd_T60 l0 a1).f3)).bind fun t188 => (fencepostref04_line.j2 kj18 l0 a1 (t188 == 0) ((rd_T60 l0 a1).f0) ((rd_T60 l0 a1).f1) ((rd_T60 l0 a1).f2) ((rd_T60 l0 a1).f3) ((rd_T60 l0 a1).f4))) else (none)) else (none)) else (fencepostref04_line.j2 kj18 l0 a1 false ((rd_T60 l0 a1).f0) ((rd_T60 l0 a1).f1) ((rd_T60 l0 a1).f2) ((rd_T60 l0 a1).f3) ((rd_T60 l0 a1).f4))) = some r := H
  have A30 := Aside0.mk A300
  clear A300
  by_cases c31 : t183 = true
  rotate_left
  ·replace c31 := Bool.eq_false_iff.mpr c31
   subst c31
   have H1 : (fencepostref04_line.j2 kj18 l0 a1 false ((rd_T60 l0 a1).f0) ((rd_T60 l0 a1).f1) ((rd_T60 l0 a1).f2) ((rd_T60 l0 a1).f3) ((rd_T60 l0 a1).f4)) = some r := by rw [if_neg (show ¬ (false = true) by decide)] at H; exact H
   clear H
   have H := H1
   clear H1
   have H' := Aside0.mk H
   clear H
   try go_wp2
   have n0_ := Aside0.mk (blk_drew BK175.out)
   have n1_ := Aside0.mk (below_drew1 HB.out)
   clear BK175
   clear HB
   have BK175 := n0_
   have HB := n1_
   clear n0_ n1_
   refine start_ (n := 12) (S := fun w' => w'.cell? ⟨gb175, 0, none⟩ = some (.int .i64 ((rd_T60 l0 a1).f0)) ∧ w'.cell? ⟨gb175, 1, none⟩ = some (.string ((rd_T60 l0 a1).f1)) ∧ w'.cell? ⟨gb175, 2, none⟩ = some (.string ((rd_T60 l0 a1).f2)) ∧ w'.cell? ⟨gb175, 3, none⟩ = some (.string ((rd_T60 l0 a1).f3)) ∧ w'.cell? ⟨gb175, 4, none⟩ = some (.int .i64 ((rd_T60 l0 a1).f4))) (ds := []) (lb_ 12 0) (by kernel_rfl) rfl rfl ⟨(blk_cell BK175.out 0).trans rfl, (blk_cell BK175.out 1).trans rfl, (blk_cell BK175.out 2).trans rfl, (blk_cell BK175.out 3).trans rfl, (blk_cell BK175.out 4).trans rfl⟩ (fun hHeld => ?_); refine with_tabW fencepostref04_line.tab8 fencepostref04_line.bits8 (fun HT_ HW_ => ?_)
   generalize wc.drew = w39 at BK175 HB hHeld ⊢
   refine take_ (i := 0) (N := some 44) (v := ?_) (a' := ?_) (lb_ 12 1) rfl rfl (take_ofW HT_.out HW_.out (by kernel_rfl)) (fun _ _ _ h => h) (Or.inl ⟨by rfl, ?_⟩) hHeld ?_ ?_; rotate_left; rintro w' ⟨s0, s1, s2, s3, s4⟩; go_simp; with_reducible rfl; rotate_left; simp only [Act.put, List.setIfInBounds_toArray, List.set_cons_zero, List.set_cons_succ, i64_w, i32_w]; rfl
   refine one_ (i := 1) (N := some 45) (lb_ 12 3) rfl rfl (one_of HT_.out (by kernel_rfl)) (by decide) (fun K hK => ?_)
   refine goes_ Try.func58 (by kernel_rfl) rfl #[.agg #[.int .i64 ((rd_T60 l0 a1).f0), .string ((rd_T60 l0 a1).f1), .string ((rd_T60 l0 a1).f2), .string ((rd_T60 l0 a1).f3), .int .i64 ((rd_T60 l0 a1).f4)]] (by rfl) rfl rfl ar_ ?_
   with_reducible refine (fencepostref04_Jump.calls ((rd_T60 l0 a1).f0) ((rd_T60 l0 a1).f1) ((rd_T60 l0 a1).f2) ((rd_T60 l0 a1).f3) ((rd_T60 l0 a1).f4) false _ A30.out).mono ?_
   rintro e w40 ⟨rfl, hb⟩
   refine ⟨_, rfl, ?_⟩
   have n0_ := Aside0.mk (bb_ BK175.out hb)
   have n1_ := Aside0.mk (below_step (hb_ HB.out) hb)
   clear BK175
   clear HB
   have BK175 := n0_
   have HB := n1_
   clear n0_ n1_
   (try clear hb)
   (try clear hb2)
   (try clear hk)
   (try clear hi)
   refine hK.out _ _ ⟨(blk_cell BK175.out 0).trans rfl, (blk_cell BK175.out 1).trans rfl, (blk_cell BK175.out 2).trans rfl, (blk_cell BK175.out 3).trans rfl, (blk_cell BK175.out 4).trans rfl⟩ (fun hHeld => ?_)
   clear hK K
   refine norm_ (a' := ?_) ?_ ?_
   rotate_left
   ·show Act.put _ (some 45) _ = _
    simp only [Act.put, List.setIfInBounds_toArray, List.set_cons_zero, List.set_cons_succ, i64_w, i32_w]
    rfl
   refine pure_ (i := 2) (N := some 46) (v := ?_) (a' := ?_) (lb_ 12 7) rfl rfl (any_of HT_.out (by kernel_rfl)) (fun _ _ _ h => h) (Or.inl ⟨by rfl, ?_⟩) ?_ ?_; rotate_left; intro w'; go_simp; with_reducible rfl; rotate_left; simp only [Act.put, List.setIfInBounds_toArray, List.set_cons_zero, List.set_cons_succ, i64_w, i32_w]; rfl
   refine pure_ (i := 3) (N := some 47) (v := undef) (a' := ?_) (lb_ 12 15) rfl rfl (any_of HT_.out (by kernel_rfl)) (fun _ _ _ h => h) (Or.inr ⟨by rfl, rfl⟩) ?_ ?_
   rotate_left
   ·simp only [Act.put, List.setIfInBounds_toArray, List.set_cons_zero, List.set_cons_succ, i64_w, i32_w]
    rfl
   refine pure_ (i := 4) (N := some 48) (v := undef) (a' := ?_) (lb_ 12 31) rfl rfl (any_of HT_.out (by kernel_rfl)) (fun _ _ _ h => h) (Or.inr ⟨by rfl, rfl⟩) ?_ ?_
   rotate_left
   ·simp only [Act.put, List.setIfInBounds_toArray, List.set_cons_zero, List.set_cons_succ, i64_w, i32_w]
    rfl
   refine pure_ (i := 5) (N := some 49) (v := undef) (a' := ?_) (lb_ 12 63) rfl rfl (any_of HT_.out (by kernel_rfl)) (fun _ _ _ h => h) (Or.inr ⟨by rfl, rfl⟩) ?_ ?_
   rotate_left
   ·simp only [Act.put, List.setIfInBounds_toArray, List.set_cons_zero, List.set_cons_succ, i64_w, i32_w]
    rfl
   refine pure_ (i := 6) (N := some 50) (v := undef) (a' := ?_) (lb_ 12 127) rfl rfl (any_of HT_.out (by kernel_rfl)) (fun _ _ _ h => h) (Or.inr ⟨by rfl, rfl⟩) ?_ ?_
   rotate_left
   ·simp only [Act.put, List.setIfInBounds_toArray, List.set_cons_zero, List.set_cons_succ, i64_w, i32_w]
    rfl
   refine pure_ (i := 7) (N := some 51) (v := undef) (a' := ?_) (lb_ 12 255) rfl rfl (any_of HT_.out (by kernel_rfl)) (fun _ _ _ h => h) (Or.inr ⟨by rfl, rfl⟩) ?_ ?_
   rotate_left
   ·simp only [Act.put, List.setIfInBounds_toArray, List.set_cons_zero, List.set_cons_succ, i64_w, i32_w]
    rfl
   refine pure_ (i := 8) (N := some 52) (v := undef) (a' := ?_) (lb_ 12 511) rfl rfl (any_of HT_.out (by kernel_rfl)) (fun _ _ _ h => h) (Or.inr ⟨by rfl, rfl⟩) ?_ ?_
   rotate_left
   ·simp only [Act.put, List.setIfInBounds_toArray, List.set_cons_zero, List.set_cons_succ, i64_w, i32_w]
    rfl
   refine pure_ (i := 9) (N := some 53) (v := undef) (a' := ?_) (lb_ 12 1023) rfl rfl (any_of HT_.out (by kernel_rfl)) (fun _ _ _ h => h) (Or.inr ⟨by rfl, rfl⟩) ?_ ?_
   rotate_left
   ·simp only [Act.put, List.setIfInBounds_toArray, List.set_cons_zero, List.set_cons_succ, i64_w, i32_w]
    rfl
   refine pure_ (i := 10) (N := some 54) (v := undef) (a' := ?_) (lb_ 12 2047) rfl rfl (any_of HT_.out (by kernel_rfl)) (fun _ _ _ h => h) (Or.inr ⟨by rfl, rfl⟩) ?_ ?_
   rotate_left
   ·simp only [Act.put, List.setIfInBounds_toArray, List.set_cons_zero, List.set_cons_succ, i64_w, i32_w]
    rfl
   refine pure_ (i := 11) (N := some 55) (v := ?_) (a' := ?_) (lb_ 12 4095) rfl rfl (any_of HT_.out (by kernel_rfl)) (fun _ _ _ h => h) (Or.inl ⟨by rfl, ?_⟩) ?_ ?_; rotate_left; intro w'; go_simp; with_reducible rfl; rotate_left; simp only [Act.put, List.setIfInBounds_toArray, List.set_cons_zero, List.set_cons_succ, i64_w, i32_w]; rfl
   refine done_ (done_of HT_.out (by kernel_rfl)) ?_
   try go_wp2
   go_meet
   case rel => exact ⟨_, (false), rf_, H', ⟨by have := HJ6.out; have := HJ18.out; first | omega | exact Nat.le_refl _⟩, ⟨bd_ BK175.out⟩, ⟨hb_ HB.out⟩⟩
  subst c31
  have H1 : (if 0 ≤ (wrap64 (a1 + 1)) then (if (wrap64 (a1 + 1)) ≤ (l0.length : Int) then ((fencepostref04_labels.f kj18 (l0.drop ((wrap64 (a1 + 1)) : Int).toNat) ((rd_T60 l0 a1).f3)).bind fun t188 => (fencepostref04_line.j2 kj18 l0 a1 (t188 == 0) ((rd_T60 l0 a1).f0) ((rd_T60 l0 a1).f1) ((rd_T60 l0 a1).f2) ((rd_T60 l0 a1).f3) ((rd_T60 l0 a1).f4))) else (none)) else (none)) = some r := by rw [if_pos rfl] at H; exact H
  clear H
  have H := H1
  clear H1
  obtain ⟨ji32, hji32⟩ : ∃ j_ : Int, (wrap64 (a1 + 1)) = j_ := ⟨_, rfl⟩
  replace H : (if 0 ≤ (ji32) then (if (ji32) ≤ (l0.length : Int) then ((fencepostref04_labels.f kj18 (l0.drop ((ji32) : Int).toNat) ((rd_T60 l0 a1).f3)).bind fun t188 => (fencepostref04_line.j2 kj18 l0 a1 (t188 == 0) ((rd_T60 l0 a1).f0) ((rd_T60 l0 a1).f1) ((rd_T60 l0 a1).f2) ((rd_T60 l0 a1).f3) ((rd_T60 l0 a1).f4))) else (none)) else (none)) = some r := by first | (rw [hji32] at H; exact H) | (simp only [hji32] at H ⊢; exact H)
  (try rw [hji32] at A30)
  have hji32w : (IntKind.i64.wrap (a1 + 1)) = ji32 := (i64_w _).trans hji32
  by_cases c33 : 0 ≤ (ji32)
  rotate_left
  ·rw [if_neg c33] at H
   exact absurd H (by simp)
  rw [if_pos c33] at H
  have c33b0 := eq_true c33
  have c33b1 : decide (0 ≤ (ji32)) = true := decide_eq_true c33
  clear c33
  by_cases c34 : (ji32) ≤ (l0.length : Int)
  rotate_left
  ·rw [if_neg c34] at H
   exact absurd H (by simp)
  rw [if_pos c34] at H
  have c34b0 := eq_true c34
  have c34b1 : decide ((ji32) ≤ (l0.length : Int)) = true := decide_eq_true c34
  clear c34
  obtain ⟨y184, hy184⟩ : ∃ y_ : List (S60), y_ = (l0.drop ((ji32) : Int).toNat) := ⟨_, rfl⟩
  replace H : ((fencepostref04_labels.f kj18 y184 ((rd_T60 l0 a1).f3)).bind fun t188 => (fencepostref04_line.j2 kj18 l0 a1 (t188 == 0) ((rd_T60 l0 a1).f0) ((rd_T60 l0 a1).f1) ((rd_T60 l0 a1).f2) ((rd_T60 l0 a1).f3) ((rd_T60 l0 a1).f4))) = some r := by first | (rw [hy184]; with_reducible exact H) | (have H2_ := (Option.bind_some _ _).symm.trans H; rw [hy184]; with_reducible exact H2_) | (have H2_ := (Option.bind_some _ _).symm.trans H; with_reducible exact H2_) | with_reducible exact H | (rw [hy184]; exact H) | exact H
  have Ny184 := Aside0.mk hy184
  clear hy184
  replace H := Option.bind_eq_some_iff.mp H
  obtain ⟨t188, A350, H⟩ := H
  replace H : (fencepostref04_line.j2 kj18 l0 a1 (t188 == 0) ((rd_T60 l0 a1).f0) ((rd_T60 l0 a1).f1) ((rd_T60 l0 a1).f2) ((rd_T60 l0 a1).f3) ((rd_T60 l0 a1).f4)) = some r := H
  have A35 := Aside0.mk A350
  clear A350
  have H' := Aside0.mk H
  clear H
  try go_wp2
  have n0_ := Aside0.mk (blk_drew BK175.out)
  have n1_ := Aside0.mk (below_drew1 HB.out)
  clear BK175
  clear HB
  have BK175 := n0_
  have HB := n1_
  clear n0_ n1_
  refine start_ (n := 12) (S := fun w' => w'.cell? ⟨gb175, 0, none⟩ = some (.int .i64 ((rd_T60 l0 a1).f0)) ∧ w'.cell? ⟨gb175, 1, none⟩ = some (.string ((rd_T60 l0 a1).f1)) ∧ w'.cell? ⟨gb175, 2, none⟩ = some (.string ((rd_T60 l0 a1).f2)) ∧ w'.cell? ⟨gb175, 3, none⟩ = some (.string ((rd_T60 l0 a1).f3)) ∧ w'.cell? ⟨gb175, 4, none⟩ = some (.int .i64 ((rd_T60 l0 a1).f4))) (ds := []) (lb_ 12 0) (by kernel_rfl) rfl rfl ⟨(blk_cell BK175.out 0).trans rfl, (blk_cell BK175.out 1).trans rfl, (blk_cell BK175.out 2).trans rfl, (blk_cell BK175.out 3).trans rfl, (blk_cell BK175.out 4).trans rfl⟩ (fun hHeld => ?_); refine with_tabW fencepostref04_line.tab8 fencepostref04_line.bits8 (fun HT_ HW_ => ?_)
  generalize wc.drew = w36 at BK175 HB hHeld ⊢
  refine take_ (i := 0) (N := some 44) (v := ?_) (a' := ?_) (lb_ 12 1) rfl rfl (take_ofW HT_.out HW_.out (by kernel_rfl)) (fun _ _ _ h => h) (Or.inl ⟨by rfl, ?_⟩) hHeld ?_ ?_; rotate_left; rintro w' ⟨s0, s1, s2, s3, s4⟩; go_simp; with_reducible rfl; rotate_left; simp only [Act.put, List.setIfInBounds_toArray, List.set_cons_zero, List.set_cons_succ, i64_w, i32_w]; rfl
  refine one_ (i := 1) (N := some 45) (lb_ 12 3) rfl rfl (one_of HT_.out (by kernel_rfl)) (by decide) (fun K hK => ?_)
  refine goes_ Try.func58 (by kernel_rfl) rfl #[.agg #[.int .i64 ((rd_T60 l0 a1).f0), .string ((rd_T60 l0 a1).f1), .string ((rd_T60 l0 a1).f2), .string ((rd_T60 l0 a1).f3), .int .i64 ((rd_T60 l0 a1).f4)]] (by rfl) rfl rfl ar_ ?_
  with_reducible refine (fencepostref04_Jump.calls ((rd_T60 l0 a1).f0) ((rd_T60 l0 a1).f1) ((rd_T60 l0 a1).f2) ((rd_T60 l0 a1).f3) ((rd_T60 l0 a1).f4) true _ A30.out).mono ?_
  rintro e w37 ⟨rfl, hb⟩
  refine ⟨_, rfl, ?_⟩
  have n0_ := Aside0.mk (bb_ BK175.out hb)
  have n1_ := Aside0.mk (below_step (hb_ HB.out) hb)
  clear BK175
  clear HB
  have BK175 := n0_
  have HB := n1_
  clear n0_ n1_
  (try clear hb)
  (try clear hb2)
  (try clear hk)
  (try clear hi)
  have q38 : ((ji32) : Int) ≤ ((l0.length : Int) : Int) := of_decide_eq_true as_
  obtain ⟨i038, hi038, _, hsz38, _⟩ := info_parts info60
  have hroom38 : l0.length ≤ c0 := HC0.out
  have hC38 : Kd.C k60 _ (some ad174) l0.length l0 := HR0.out
  have q038 : (0 : Int) ≤ ((ji32) : Int) := of_decide_eq_true as_
  have hcut38 := cut_from (P := Try.prog) 56 60 .i64 Try.underlying56 hi038 5 hsz38 (some ad174) l0.length c0 (ji32) q038 q38
  have hr38 := Kd.C_drop (m := ((ji32) : Int).toNat) (c := c0) hC38 (by omega) hroom38
  obtain ⟨A38, hA38⟩ : ∃ A1, A1 = (if c0 = ((ji32) : Int).toNat then (some ad174) else ((some ad174) : Option Addr).map (·.add (((ji32) : Int).toNat * 5))) := ⟨_, rfl⟩
  obtain ⟨c38, hc38⟩ : ∃ c1, c1 = c0 - ((ji32) : Int).toNat := ⟨_, rfl⟩
  have hy38 : y184.length = l0.length - ((ji32) : Int).toNat := (by rw [Ny184.out, List.length_drop] <;> omega)
  rw [show (l0).drop ((ji32) : Int).toNat = y184 from Ny184.out.symm] at hr38
  replace hr38 : Kd.C k60 _ A38 y184.length y184 := (by rw [hA38]; exact hr38)
  rw [← hy38, ← hA38, ← hc38] at hcut38
  have HR187 := Aside0.mk hr38
  have HC187 := Aside0.mk (show y184.length ≤ c38 from by rw [hy38, hc38]; exact Nat.sub_le_sub_right hroom38 _)
  clear hr38 hC38 hroom38 hi038 hsz38 hc38
  have KY38 := Aside0.mk hy38
  have KA38 := Aside0.mk hA38
  clear hy38 hA38
  replace q38 := eq_true q38
  refine hK.out _ _ ⟨(blk_cell BK175.out 0).trans rfl, (blk_cell BK175.out 1).trans rfl, (blk_cell BK175.out 2).trans rfl, (blk_cell BK175.out 3).trans rfl, (blk_cell BK175.out 4).trans rfl⟩ (fun hHeld => ?_)
  clear hK K
  refine norm_ (a' := ?_) ?_ ?_
  rotate_left
  ·show Act.put _ (some 45) _ = _
   simp only [Act.put, List.setIfInBounds_toArray, List.set_cons_zero, List.set_cons_succ, i64_w, i32_w]
   rfl
  refine pure_ (i := 2) (N := some 46) (v := ?_) (a' := ?_) (lb_ 12 7) rfl rfl (any_of HT_.out (by kernel_rfl)) (fun _ _ _ h => h) (Or.inl ⟨by rfl, ?_⟩) ?_ ?_; rotate_left; intro w'; go_simp; with_reducible rfl; rotate_left; simp only [Act.put, List.setIfInBounds_toArray, List.set_cons_zero, List.set_cons_succ, i64_w, i32_w]; rfl
  refine pure_ (i := 3) (N := some 47) (v := ?_) (a' := ?_) (lb_ 12 15) rfl rfl (any_of HT_.out (by kernel_rfl)) (fun _ _ _ h => h) (Or.inl ⟨by rfl, ?_⟩) ?_ ?_; rotate_left; intro w'; go_simp; with_reducible rfl; rotate_left; simp only [Act.put, List.setIfInBounds_toArray, List.set_cons_zero, List.set_cons_succ, i64_w, i32_w]; rfl
  refine pure_ (i := 4) (N := some 48) (v := ?_) (a' := ?_) (lb_ 12 31) rfl rfl (any_of HT_.out (by kernel_rfl)) (fun _ _ _ h => h) (Or.inl ⟨by rfl, ?_⟩) ?_ ?_; rotate_left; intro w'; go_simp; with_reducible rfl; rotate_left; simp only [Act.put, List.setIfInBounds_toArray, List.set_cons_zero, List.set_cons_succ, i64_w, i32_w]; rfl
  refine pure_ (i := 5) (N := some 49) (v := ?_) (a' := ?_) (lb_ 12 63) rfl rfl (any_of HT_.out (by kernel_rfl)) (fun _ _ _ h => h) (Or.inl ⟨by rfl, ?_⟩) ?_ ?_; rotate_left; intro w'; go_simp; with_reducible rfl; rotate_left; simp only [Act.put, List.setIfInBounds_toArray, List.set_cons_zero, List.set_cons_succ, i64_w, i32_w]; rfl
  refine pure_ (i := 6) (N := some 50) (v := ?_) (a' := ?_) (lb_ 12 127) rfl rfl (any_of HT_.out (by kernel_rfl)) (fun _ _ _ h => h) (Or.inl ⟨by rfl, ?_⟩) ?_ ?_; rotate_left; intro w'; go_simp; with_reducible rfl; rotate_left; simp only [Act.put, List.setIfInBounds_toArray, List.set_cons_zero, List.set_cons_succ, i64_w, i32_w]; rfl
  refine pure_ (i := 7) (N := some 51) (v := ?_) (a' := ?_) (lb_ 12 255) rfl rfl (any_of HT_.out (by kernel_rfl)) (fun _ _ _ h => h) (Or.inl ⟨by rfl, ?_⟩) ?_ ?_; rotate_left; intro w'; go_simp; with_reducible rfl; rotate_left; simp only [Act.put, List.setIfInBounds_toArray, List.set_cons_zero, List.set_cons_succ, i64_w, i32_w]; rfl
  refine take_ (i := 8) (N := some 52) (v := ?_) (a' := ?_) (lb_ 12 511) rfl rfl (take_ofW HT_.out HW_.out (by kernel_rfl)) (fun _ _ _ h => h) (Or.inl ⟨by rfl, ?_⟩) hHeld ?_ ?_; rotate_left; rintro w' ⟨s0, s1, s2, s3, s4⟩; go_simp; with_reducible rfl; rotate_left; simp only [Act.put, List.setIfInBounds_toArray, List.set_cons_zero, List.set_cons_succ, i64_w, i32_w]; rfl
  refine one_ (i := 9) (N := some 53) (lb_ 12 1023) rfl rfl (one_of HT_.out (by kernel_rfl)) (by decide) (fun K hK => ?_)
  refine goes_ Try.func62 (by kernel_rfl) rfl #[.slice A38 y184.length c38, .string ((rd_T60 l0 a1).f3)] (by rfl) rfl rfl ar_ ?_
  with_reducible refine (fencepostref04_labels.calls kj18 _ _ y184 ((rd_T60 l0 a1).f3) t188 _ ?side1 ?side2 A35.out).mono ?_
  (case side1 => exact cd_ (Kd.C_below HR187.out HB.out))
  (case side2 => exact HC187.out)
  rintro e w' ⟨rfl, ⟨nd, rfl⟩⟩
  refine ⟨_, rfl, ?_⟩
  refine hK.out _ _ ⟨(blk_cell BK175.out 0).trans rfl, (blk_cell BK175.out 1).trans rfl, (blk_cell BK175.out 2).trans rfl, (blk_cell BK175.out 3).trans rfl, (blk_cell BK175.out 4).trans rfl⟩ (fun hHeld => ?_)
  clear hK K
  refine norm_ (a' := ?_) ?_ ?_
  rotate_left
  ·show Act.put _ (some 53) _ = _
   simp only [Act.put, List.setIfInBounds_toArray, List.set_cons_zero, List.set_cons_succ, i64_w, i32_w]
   rfl
  refine pure_ (i := 10) (N := some 54) (v := ?_) (a' := ?_) (lb_ 12 2047) rfl rfl (any_of HT_.out (by kernel_rfl)) (fun _ _ _ h => h) (Or.inl ⟨by rfl, ?_⟩) ?_ ?_; rotate_left; intro w'; go_simp; with_reducible rfl; rotate_left; simp only [Act.put, List.setIfInBounds_toArray, List.set_cons_zero, List.set_cons_succ, i64_w, i32_w]; rfl
  refine pure_ (i := 11) (N := some 55) (v := ?_) (a' := ?_) (lb_ 12 4095) rfl rfl (any_of HT_.out (by kernel_rfl)) (fun _ _ _ h => h) (Or.inl ⟨by rfl, ?_⟩) ?_ ?_; rotate_left; intro w'; go_simp; with_reducible rfl; rotate_left; simp only [Act.put, List.setIfInBounds_toArray, List.set_cons_zero, List.set_cons_succ, i64_w, i32_w]; rfl
  refine done_ (done_of HT_.out (by kernel_rfl)) ?_
  try go_wp2
  (try subst hji32)
  go_meet
  case rel => exact ⟨_, ((t188 == 0)), rf_, H', ⟨by have := HJ6.out; have := HJ18.out; first | omega | exact Nat.le_refl _⟩, ⟨bd_ BK175.out⟩, ⟨hb_ HB.out⟩⟩
 clear HC29
 try clear c3
 try clear c3b0
 try clear c4
 try clear c4b0
 try clear c6
 try clear c18
 try clear c28
 try clear hcz9_0
 try clear hcz9_1
 try clear hcz9_2
 try clear hcz9_3
 try clear hcz9_4
 try clear hfz9_0
 try clear hfz9_1
 try clear hfz9_2
 try clear hfz9_3
 try clear hfz9_4
 try clear hx174_0
 try clear hx174_1
 try clear hx174_2
 try clear hx174_3
 try clear hx174_4
 try clear p174
 try clear q174
 obtain ⟨kq, x55_28, rfl, HA, HJ28, BK175, HB⟩ := hcut
 cases kq with
 | zero => exact absurd HA.out (by simp [fencepostref04_line.j2])
 | succ kj28 => ?_
 have H := HA.out
 clear HA
 simp only [fencepostref04_line.j2] at H
 by_cases c41 : x55_28 = true
 ·subst c41
  have H1 : (some 22) = some r := by rw [if_pos rfl] at H; exact H
  clear H
  have H := H1
  clear H1
  obtain rfl := Option.some.inj H
  go_wp2
  go_ret
  exact ⟨by first | rfl | (simp [errW_none, errW_some] <;> rfl) | (simp [*, errW_none, errW_some] <;> rfl), hb_ HB.out⟩
 replace c41 := Bool.eq_false_iff.mpr c41
 subst c41
 have H1 : (fencepostref04_line.l0 kj28 l0 a1 0 0 0 ((rd_T60 l0 a1).f0) ((rd_T60 l0 a1).f1) ((rd_T60 l0 a1).f2) ((rd_T60 l0 a1).f3) ((rd_T60 l0 a1).f4)) = some r := by rw [if_neg (show ¬ (false = true) by decide)] at H; exact H
 clear H
 have H := H1
 clear H1
 have H' := Aside0.mk H
 clear H
 go_wp2
 go_loopg [6, 7, 8] kj28 (fun kq v6 v7 v8 w' => ∃ (x6_4 : Int) (x7_4 : Int) (x8_4 : Int), v6 = .int .i64 x6_4 ∧ v7 = .int .i64 x7_4 ∧ v8 = .int .i64 x8_4 ∧ Aside0 (fencepostref04_line.l0 kq l0 a1 x6_4 x7_4 x8_4 ((rd_T60 l0 a1).f0) ((rd_T60 l0 a1).f1) ((rd_T60 l0 a1).f2) ((rd_T60 l0 a1).f3) ((rd_T60 l0 a1).f4) = some r) ∧ Aside0 (kq ≤ kj28) ∧ Aside0 (w'.heap[gb175]? = some (.cells #[.int .i64 ((rd_T60 l0 a1).f0), .string ((rd_T60 l0 a1).f1), .string ((rd_T60 l0 a1).f2), .string ((rd_T60 l0 a1).f3), .int .i64 ((rd_T60 l0 a1).f4)] 60 (0, 0))) ∧ Aside0 (Below w.heap.size w w'))
 case atStart => exact ⟨(0), (0), (0), rf_, rf_, rf_, H', ⟨Nat.le_refl _⟩, ⟨bd_ BK175.out⟩, ⟨hb_ HB.out⟩⟩
 clear H'
 try clear c3
 try clear c3b0
 try clear c4
 try clear c4b0
 try clear c6
 try clear c18
 try clear c28
 try clear c41
 try clear hcz9_0
 try clear hcz9_1
 try clear hcz9_2
 try clear hcz9_3
 try clear hcz9_4
 try clear hfz9_0
 try clear hfz9_1
 try clear hfz9_2
 try clear hfz9_3
 try clear hfz9_4
 try clear hx174_0
 try clear hx174_1
 try clear hx174_2
 try clear hx174_3
 try clear hx174_4
 try clear p174
 try clear q174
 obtain ⟨x6_4, x7_4, x8_4, rfl, rfl, rfl, HA, HK4, BK175, HB⟩ := hrel
 cases gk with
 | zero => exact absurd HA.out (by simp [fencepostref04_line.l0])
 | succ k4 => ?_
 have H := HA.out
 clear HA
 simp only [fencepostref04_line.l0] at H
 by_cases c42 : x8_4 < a1
 ·rw [if_pos c42] at H
  have c42b0 : decide (x8_4 < a1) = true := decide_eq_true c42
  clear c42
  by_cases c43 : 0 ≤ x8_4
  rotate_left
  ·rw [if_neg c43] at H
   exact absurd H (by simp)
  rw [if_pos c43] at H
  have c43b0 : decide (0 ≤ x8_4) = true := decide_eq_true c43
  clear c43
  by_cases c44 : x8_4 < (l0.length : Int)
  rotate_left
  ·rw [if_neg c44] at H
   exact absurd H (by simp)
  rw [if_pos c44] at H
  have c44b0 : decide (x8_4 < (l0.length : Int)) = true := decide_eq_true c44
  clear c44
  replace H := Option.bind_eq_some_iff.mp H
  obtain ⟨t191, A450, H⟩ := H
  replace H : (if t191 = true then (if ((rd_T60 l0 x8_4).f0) = 11 then (fencepostref04_line.l0 k4 l0 a1 (wrap64 (x6_4 + 1)) (wrap64 (x7_4 + 1)) (wrap64 (x8_4 + 1)) ((rd_T60 l0 a1).f0) ((rd_T60 l0 a1).f1) ((rd_T60 l0 a1).f2) ((rd_T60 l0 a1).f3) ((rd_T60 l0 a1).f4)) else (fencepostref04_line.l0 k4 l0 a1 (wrap64 (x6_4 + 1)) x7_4 (wrap64 (x8_4 + 1)) ((rd_T60 l0 a1).f0) ((rd_T60 l0 a1).f1) ((rd_T60 l0 a1).f2) ((rd_T60 l0 a1).f3) ((rd_T60 l0 a1).f4))) else (if ((rd_T60 l0 x8_4).f0) = 11 then (fencepostref04_line.l0 k4 l0 a1 x6_4 (wrap64 (x7_4 + 1)) (wrap64 (x8_4 + 1)) ((rd_T60 l0 a1).f0) ((rd_T60 l0 a1).f1) ((rd_T60 l0 a1).f2) ((rd_T60 l0 a1).f3) ((rd_T60 l0 a1).f4)) else (fencepostref04_line.l0 k4 l0 a1 x6_4 x7_4 (wrap64 (x8_4 + 1)) ((rd_T60 l0 a1).f0) ((rd_T60 l0 a1).f1) ((rd_T60 l0 a1).f2) ((rd_T60 l0 a1).f3) ((rd_T60 l0 a1).f4)))) = some r := H
  have A45 := Aside0.mk A450
  clear A450
  by_cases c46 : t191 = true
  ·subst c46
   have H1 : (if ((rd_T60 l0 x8_4).f0) = 11 then (fencepostref04_line.l0 k4 l0 a1 (wrap64 (x6_4 + 1)) (wrap64 (x7_4 + 1)) (wrap64 (x8_4 + 1)) ((rd_T60 l0 a1).f0) ((rd_T60 l0 a1).f1) ((rd_T60 l0 a1).f2) ((rd_T60 l0 a1).f3) ((rd_T60 l0 a1).f4)) else (fencepostref04_line.l0 k4 l0 a1 (wrap64 (x6_4 + 1)) x7_4 (wrap64 (x8_4 + 1)) ((rd_T60 l0 a1).f0) ((rd_T60 l0 a1).f1) ((rd_T60 l0 a1).f2) ((rd_T60 l0 a1).f3) ((rd_T60 l0 a1).f4))) = some r := by rw [if_pos rfl] at H; exact H
   clear H
   have H := H1
   clear H1
   by_cases c47 : ((rd_T60 l0 x8_4).f0) = 11
   rotate_left
   ·rw [if_neg c47] at H
    have c47b0 : (((rd_T60 l0 x8_4).f0) == 11) = false := beq_eq_false_iff_ne.mpr c47
    have c47b1 : (((rd_T60 l0 x8_4).f0) != 11) = true := bne_iff_ne.mpr c47
    have H' := Aside0.mk H
    clear H
    have p190 : 0 ≤ (x8_4 : Int) := of_decide_eq_true as_
    have q190 : x8_4 < (l0.length : Int) := of_decide_eq_true as_
    obtain ⟨ad190, e190, hx190_0, hx190_1, hx190_2, hx190_3, hx190_4⟩ := at_T60 HR0.out x8_4 p190 q190
    obtain rfl : ad174 = ad190 := (by injection e190)
    replace hx190_0 := cl_ HB.out hx190_0
    replace hx190_1 := cl_ HB.out hx190_1
    replace hx190_2 := cl_ HB.out hx190_2
    replace hx190_3 := cl_ HB.out hx190_3
    replace hx190_4 := cl_ HB.out hx190_4
    replace p190 := eq_true p190
    replace q190 := eq_true q190
    go_wp2_with (first | ((with_reducible refine gate_callee (f := 63) rfl ?_); refine goesL_ (some 65) rfl rfl Try.func63 (by kernel_rfl) rfl #[.agg #[.int .i64 ((rd_T60 l0 x8_4).f0), .string ((rd_T60 l0 x8_4).f1), .string ((rd_T60 l0 x8_4).f2), .string ((rd_T60 l0 x8_4).f3), .int .i64 ((rd_T60 l0 x8_4).f4)]] rfl ar_ ?_; (with_reducible refine (fencepostref04_Instr.calls ((rd_T60 l0 x8_4).f0) ((rd_T60 l0 x8_4).f1) ((rd_T60 l0 x8_4).f2) ((rd_T60 l0 x8_4).f3) ((rd_T60 l0 x8_4).f4) true _ A45.out).mono ?_); rintro e w49 ⟨rfl, hb⟩; refine ⟨_, rfl, ?_⟩; have n0_ := Aside0.mk (bb_ BK175.out hb); have n1_ := Aside0.mk (below_step (hb_ HB.out) hb); clear BK175; clear HB; have BK175 := n0_; have HB := n1_; clear n0_ n1_; (try clear hb); (try clear hb2); (try clear hk); (try clear hi); have p192 : 0 ≤ (x8_4 : Int) := of_decide_eq_true as_; have q192 : x8_4 < (l0.length : Int) := of_decide_eq_true as_; obtain ⟨ad192, e192, hx192_0, hx192_1, hx192_2, hx192_3, hx192_4⟩ := at_T60 HR0.out x8_4 p192 q192; obtain rfl : ad174 = ad192 := (by injection e192); replace hx192_0 := cl_ HB.out hx192_0; replace hx192_1 := cl_ HB.out hx192_1; replace hx192_2 := cl_ HB.out hx192_2; replace hx192_3 := cl_ HB.out hx192_3; replace hx192_4 := cl_ HB.out hx192_4; replace p192 := eq_true p192; replace q192 := eq_true q192))
    go_roundg k4
    case measure => have := HJ6.out; have := HJ18.out; have := HJ28.out; have := HK4.out; omega
    case rel => exact ⟨(wrap64 (x6_4 + 1)), (x7_4), (wrap64 (x8_4 + 1)), rf_, rf_, rf_, H', ⟨by have := HJ6.out; have := HJ18.out; have := HJ28.out; have := HK4.out; omega⟩, ⟨bd_ BK175.out⟩, ⟨hb_ HB.out⟩⟩
   rw [if_pos c47] at H
   have c47b0 : (((rd_T60 l0 x8_4).f0) == 11) = true := beq_iff_eq.mpr c47
   have c47b1 : (((rd_T60 l0 x8_4).f0) != 11) = false := bne_eq_false_iff_eq.mpr c47
   clear c47
   have H' := Aside0.mk H
   clear H
   have p190 : 0 ≤ (x8_4 : Int) := of_decide_eq_true as_
   have q190 : x8_4 < (l0.length : Int) := of_decide_eq_true as_
   obtain ⟨ad190, e190, hx190_0, hx190_1, hx190_2, hx190_3, hx190_4⟩ := at_T60 HR0.out x8_4 p190 q190
   obtain rfl : ad174 = ad190 := (by injection e190)
   replace hx190_0 := cl_ HB.out hx190_0
   replace hx190_1 := cl_ HB.out hx190_1
   replace hx190_2 := cl_ HB.out hx190_2
   replace hx190_3 := cl_ HB.out hx190_3
   replace hx190_4 := cl_ HB.out hx190_4
   replace p190 := eq_true p190
   replace q190 := eq_true q190
   go_wp2_with (first | ((with_reducible refine gate_callee (f := 63) rfl ?_); refine goesL_ (some 65) rfl rfl Try.func63 (by kernel_rfl) rfl #[.agg #[.int .i64 ((rd_T60 l0 x8_4).f0), .string ((rd_T60 l0 x8_4).f1), .string ((rd_T60 l0 x8_4).f2), .string ((rd_T60 l0 x8_4).f3), .int .i64 ((rd_T60 l0 x8_4).f4)]] rfl ar_ ?_; (with_reducible refine (fencepostref04_Instr.calls ((rd_T60 l0 x8_4).f0) ((rd_T60 l0 x8_4).f1) ((rd_T60 l0 x8_4).f2) ((rd_T60 l0 x8_4).f3) ((rd_T60 l0 x8_4).f4) true _ A45.out).mono ?_); rintro e w48 ⟨rfl, hb⟩; refine ⟨_, rfl, ?_⟩; have n0_ := Aside0.mk (bb_ BK175.out hb); have n1_ := Aside0.mk (below_step (hb_ HB.out) hb); clear BK175; clear HB; have BK175 := n0_; have HB := n1_; clear n0_ n1_; (try clear hb); (try clear hb2); (try clear hk); (try clear hi); have p192 : 0 ≤ (x8_4 : Int) := of_decide_eq_true as_; have q192 : x8_4 < (l0.length : Int) := of_decide_eq_true as_; obtain ⟨ad192, e192, hx192_0, hx192_1, hx192_2, hx192_3, hx192_4⟩ := at_T60 HR0.out x8_4 p192 q192; obtain rfl : ad174 = ad192 := (by injection e192); replace hx192_0 := cl_ HB.out hx192_0; replace hx192_1 := cl_ HB.out hx192_1; replace hx192_2 := cl_ HB.out hx192_2; replace hx192_3 := cl_ HB.out hx192_3; replace hx192_4 := cl_ HB.out hx192_4; replace p192 := eq_true p192; replace q192 := eq_true q192))
   go_roundg k4
   case measure => have := HJ6.out; have := HJ18.out; have := HJ28.out; have := HK4.out; omega
   case rel => exact ⟨(wrap64 (x6_4 + 1)), (wrap64 (x7_4 + 1)), (wrap64 (x8_4 + 1)), rf_, rf_, rf_, H', ⟨by have := HJ6.out; have := HJ18.out; have := HJ28.out; have := HK4.out; omega⟩, ⟨bd_ BK175.out⟩, ⟨hb_ HB.out⟩⟩
  replace c46 := Bool.eq_false_iff.mpr c46
  subst c46
  have H1 : (if ((rd_T60 l0 x8_4).f0) = 11 then (fencepostref04_line.l0 k4 l0 a1 x6_4 (wrap64 (x7_4 + 1)) (wrap64 (x8_4 + 1)) ((rd_T60 l0 a1).f0) ((rd_T60 l0 a1).f1) ((rd_T60 l0 a1).f2) ((rd_T60 l0 a1).f3) ((rd_T60 l0 a1).f4)) else (fencepostref04_line.l0 k4 l0 a1 x6_4 x7_4 (wrap64 (x8_4 + 1)) ((rd_T60 l0 a1).f0) ((rd_T60 l0 a1).f1) ((rd_T60 l0 a1).f2) ((rd_T60 l0 a1).f3) ((rd_T60 l0 a1).f4))) = some r := by rw [if_neg (show ¬ (false = true) by decide)] at H; exact H
  clear H
  have H := H1
  clear H1
  by_cases c50 : ((rd_T60 l0 x8_4).f0) = 11
  rotate_left
  ·rw [if_neg c50] at H
   have c50b0 : (((rd_T60 l0 x8_4).f0) == 11) = false := beq_eq_false_iff_ne.mpr c50
   have c50b1 : (((rd_T60 l0 x8_4).f0) != 11) = true := bne_iff_ne.mpr c50
   have H' := Aside0.mk H
   clear H
   have p190 : 0 ≤ (x8_4 : Int) := of_decide_eq_true as_
   have q190 : x8_4 < (l0.length : Int) := of_decide_eq_true as_
   obtain ⟨ad190, e190, hx190_0, hx190_1, hx190_2, hx190_3, hx190_4⟩ := at_T60 HR0.out x8_4 p190 q190
   obtain rfl : ad174 = ad190 := (by injection e190)
   replace hx190_0 := cl_ HB.out hx190_0
   replace hx190_1 := cl_ HB.out hx190_1
   replace hx190_2 := cl_ HB.out hx190_2
   replace hx190_3 := cl_ HB.out hx190_3
   replace hx190_4 := cl_ HB.out hx190_4
   replace p190 := eq_true p190
   replace q190 := eq_true q190
   go_wp2_with (first | ((with_reducible refine gate_callee (f := 63) rfl ?_); refine goesL_ (some 65) rfl rfl Try.func63 (by kernel_rfl) rfl #[.agg #[.int .i64 ((rd_T60 l0 x8_4).f0), .string ((rd_T60 l0 x8_4).f1), .string ((rd_T60 l0 x8_4).f2), .string ((rd_T60 l0 x8_4).f3), .int .i64 ((rd_T60 l0 x8_4).f4)]] rfl ar_ ?_; (with_reducible refine (fencepostref04_Instr.calls ((rd_T60 l0 x8_4).f0) ((rd_T60 l0 x8_4).f1) ((rd_T60 l0 x8_4).f2) ((rd_T60 l0 x8_4).f3) ((rd_T60 l0 x8_4).f4) false _ A45.out).mono ?_); rintro e w52 ⟨rfl, hb⟩; refine ⟨_, rfl, ?_⟩; have n0_ := Aside0.mk (bb_ BK175.out hb); have n1_ := Aside0.mk (below_step (hb_ HB.out) hb); clear BK175; clear HB; have BK175 := n0_; have HB := n1_; clear n0_ n1_; (try clear hb); (try clear hb2); (try clear hk); (try clear hi); have p193 : 0 ≤ (x8_4 : Int) := of_decide_eq_true as_; have q193 : x8_4 < (l0.length : Int) := of_decide_eq_true as_; obtain ⟨ad193, e193, hx193_0, hx193_1, hx193_2, hx193_3, hx193_4⟩ := at_T60 HR0.out x8_4 p193 q193; obtain rfl : ad174 = ad193 := (by injection e193); replace hx193_0 := cl_ HB.out hx193_0; replace hx193_1 := cl_ HB.out hx193_1; replace hx193_2 := cl_ HB.out hx193_2; replace hx193_3 := cl_ HB.out hx193_3; replace hx193_4 := cl_ HB.out hx193_4; replace p193 := eq_true p193; replace q193 := eq_true q193))
   go_roundg k4
   case measure => have := HJ6.out; have := HJ18.out; have := HJ28.out; have := HK4.out; omega
   case rel => exact ⟨(x6_4), (x7_4), (wrap64 (x8_4 + 1)), rf_, rf_, rf_, H', ⟨by have := HJ6.out; have := HJ18.out; have := HJ28.out; have := HK4.out; omega⟩, ⟨bd_ BK175.out⟩, ⟨hb_ HB.out⟩⟩
  rw [if_pos c50] at H
  have c50b0 : (((rd_T60 l0 x8_4).f0) == 11) = true := beq_iff_eq.mpr c50
  have c50b1 : (((rd_T60 l0 x8_4).f0) != 11) = false := bne_eq_false_iff_eq.mpr c50
  clear c50
  have H' := Aside0.mk H
  clear H
  have p190 : 0 ≤ (x8_4 : Int) := of_decide_eq_true as_
  have q190 : x8_4 < (l0.length : Int) := of_decide_eq_true as_
  obtain ⟨ad190, e190, hx190_0, hx190_1, hx190_2, hx190_3, hx190_4⟩ := at_T60 HR0.out x8_4 p190 q190
  obtain rfl : ad174 = ad190 := (by injection e190)
  replace hx190_0 := cl_ HB.out hx190_0
  replace hx190_1 := cl_ HB.out hx190_1
  replace hx190_2 := cl_ HB.out hx190_2
  replace hx190_3 := cl_ HB.out hx190_3
  replace hx190_4 := cl_ HB.out hx190_4
  replace p190 := eq_true p190
  replace q190 := eq_true q190
  go_wp2_with (first | ((with_reducible refine gate_callee (f := 63) rfl ?_); refine goesL_ (some 65) rfl rfl Try.func63 (by kernel_rfl) rfl #[.agg #[.int .i64 ((rd_T60 l0 x8_4).f0), .string ((rd_T60 l0 x8_4).f1), .string ((rd_T60 l0 x8_4).f2), .string ((rd_T60 l0 x8_4).f3), .int .i64 ((rd_T60 l0 x8_4).f4)]] rfl ar_ ?_; (with_reducible refine (fencepostref04_Instr.calls ((rd_T60 l0 x8_4).f0) ((rd_T60 l0 x8_4).f1) ((rd_T60 l0 x8_4).f2) ((rd_T60 l0 x8_4).f3) ((rd_T60 l0 x8_4).f4) false _ A45.out).mono ?_); rintro e w51 ⟨rfl, hb⟩; refine ⟨_, rfl, ?_⟩; have n0_ := Aside0.mk (bb_ BK175.out hb); have n1_ := Aside0.mk (below_step (hb_ HB.out) hb); clear BK175; clear HB; have BK175 := n0_; have HB := n1_; clear n0_ n1_; (try clear hb); (try clear hb2); (try clear hk); (try clear hi); have p193 : 0 ≤ (x8_4 : Int) := of_decide_eq_true as_; have q193 : x8_4 < (l0.length : Int) := of_decide_eq_true as_; obtain ⟨ad193, e193, hx193_0, hx193_1, hx193_2, hx193_3, hx193_4⟩ := at_T60 HR0.out x8_4 p193 q193; obtain rfl : ad174 = ad193 := (by injection e193); replace hx193_0 := cl_ HB.out hx193_0; replace hx193_1 := cl_ HB.out hx193_1; replace hx193_2 := cl_ HB.out hx193_2; replace hx193_3 := cl_ HB.out hx193_3; replace hx193_4 := cl_ HB.out hx193_4; replace p193 := eq_true p193; replace q193 := eq_true q193))
  go_roundg k4
  case measure => have := HJ6.out; have := HJ18.out; have := HJ28.out; have := HK4.out; omega
  case rel => exact ⟨(x6_4), (wrap64 (x7_4 + 1)), (wrap64 (x8_4 + 1)), rf_, rf_, rf_, H', ⟨by have := HJ6.out; have := HJ18.out; have := HJ28.out; have := HK4.out; omega⟩, ⟨bd_ BK175.out⟩, ⟨hb_ HB.out⟩⟩
 rw [if_neg c42] at H
 have c42b0 : decide (x8_4 < a1) = false := decide_eq_false c42
 clear c42
 replace H := Option.bind_eq_some_iff.mp H
 obtain ⟨t189, A530, H⟩ := H
 replace H : (if t189 = true then (if x6_4 ≥ 8 then (some 5) else (if ((rd_T60 l0 a1).f0) = 11 then (if x7_4 ≥ 8 then (some 5) else (some 0)) else (some 0))) else (if ((rd_T60 l0 a1).f0) = 11 then (if x7_4 ≥ 8 then (some 5) else (some 0)) else (some 0))) = some r := H
 have A53 := Aside0.mk A530
 clear A530
 by_cases c54 : t189 = true
 rotate_left
 ·replace c54 := Bool.eq_false_iff.mpr c54
  subst c54
  have H1 : (if ((rd_T60 l0 a1).f0) = 11 then (if x7_4 ≥ 8 then (some 5) else (some 0)) else (some 0)) = some r := by rw [if_neg (show ¬ (false = true) by decide)] at H; exact H
  clear H
  have H := H1
  clear H1
  by_cases c69 : ((rd_T60 l0 a1).f0) = 11
  rotate_left
  ·rw [if_neg c69] at H
   have c69b0 : (((rd_T60 l0 a1).f0) == 11) = false := beq_eq_false_iff_ne.mpr c69
   have c69b1 : (((rd_T60 l0 a1).f0) != 11) = true := bne_iff_ne.mpr c69
   obtain rfl := Option.some.inj H
   have hcz77_0 : wr.cell? ⟨gb175, 0, none⟩ = some (.int .i64 ((rd_T60 l0 a1).f0)) := (blk_cell BK175.out 0).trans rfl
   have hcz77_1 : wr.cell? ⟨gb175, 1, none⟩ = some (.string ((rd_T60 l0 a1).f1)) := (blk_cell BK175.out 1).trans rfl
   have hcz77_2 : wr.cell? ⟨gb175, 2, none⟩ = some (.string ((rd_T60 l0 a1).f2)) := (blk_cell BK175.out 2).trans rfl
   have hcz77_3 : wr.cell? ⟨gb175, 3, none⟩ = some (.string ((rd_T60 l0 a1).f3)) := (blk_cell BK175.out 3).trans rfl
   have hcz77_4 : wr.cell? ⟨gb175, 4, none⟩ = some (.int .i64 ((rd_T60 l0 a1).f4)) := (blk_cell BK175.out 4).trans rfl
   have hfz77_0 := blk_frozen BK175.out 0
   have hfz77_1 := blk_frozen BK175.out 1
   have hfz77_2 := blk_frozen BK175.out 2
   have hfz77_3 := blk_frozen BK175.out 3
   have hfz77_4 := blk_frozen BK175.out 4
   go_wp2_with (first | ((with_reducible refine gate_callee (f := 63) rfl ?_); refine goesL_ (some 77) rfl rfl Try.func63 (by kernel_rfl) rfl #[.agg #[.int .i64 ((rd_T60 l0 a1).f0), .string ((rd_T60 l0 a1).f1), .string ((rd_T60 l0 a1).f2), .string ((rd_T60 l0 a1).f3), .int .i64 ((rd_T60 l0 a1).f4)]] rfl ar_ ?_; (with_reducible refine (fencepostref04_Instr.calls ((rd_T60 l0 a1).f0) ((rd_T60 l0 a1).f1) ((rd_T60 l0 a1).f2) ((rd_T60 l0 a1).f3) ((rd_T60 l0 a1).f4) false _ A53.out).mono ?_); rintro e w78 ⟨rfl, hb⟩; refine ⟨_, rfl, ?_⟩; have n0_ := Aside0.mk (bb_ BK175.out hb); have n1_ := Aside0.mk (below_step (hb_ HB.out) hb); clear BK175; clear HB; have BK175 := n0_; have HB := n1_; clear n0_ n1_; (try clear hb); (try clear hb2); (try clear hk); (try clear hi); have hcz79_0 : w78.cell? ⟨gb175, 0, none⟩ = some (.int .i64 ((rd_T60 l0 a1).f0)) := (blk_cell BK175.out 0).trans rfl; have hcz79_1 : w78.cell? ⟨gb175, 1, none⟩ = some (.string ((rd_T60 l0 a1).f1)) := (blk_cell BK175.out 1).trans rfl; have hcz79_2 : w78.cell? ⟨gb175, 2, none⟩ = some (.string ((rd_T60 l0 a1).f2)) := (blk_cell BK175.out 2).trans rfl; have hcz79_3 : w78.cell? ⟨gb175, 3, none⟩ = some (.string ((rd_T60 l0 a1).f3)) := (blk_cell BK175.out 3).trans rfl; have hcz79_4 : w78.cell? ⟨gb175, 4, none⟩ = some (.int .i64 ((rd_T60 l0 a1).f4)) := (blk_cell BK175.out 4).trans rfl; have hfz79_0 := blk_frozen BK175.out 0; have hfz79_1 := blk_frozen BK175.out 1; have hfz79_2 := blk_frozen BK175.out 2; have hfz79_3 := blk_frozen BK175.out 3; have hfz79_4 := blk_frozen BK175.out 4))
   go_ret
   exact ⟨by first | rfl | (simp [errW_none, errW_some] <;> rfl) | (simp [*, errW_none, errW_some] <;> rfl), hb_ HB.out⟩
  rw [if_pos c69] at H
  have c69b0 : (((rd_T60 l0 a1).f0) == 11) = true := beq_iff_eq.mpr c69
  have c69b1 : (((rd_T60 l0 a1).f0) != 11) = false := bne_eq_false_iff_eq.mpr c69
  clear c69
  by_cases c70 : x7_4 ≥ 8
  ·rw [if_pos c70] at H
   have c70b0 : decide (8 ≤ x7_4) = true := decide_eq_true c70
   clear c70
   obtain rfl := Option.some.inj H
   have hcz71_0 : wr.cell? ⟨gb175, 0, none⟩ = some (.int .i64 ((rd_T60 l0 a1).f0)) := (blk_cell BK175.out 0).trans rfl
   have hcz71_1 : wr.cell? ⟨gb175, 1, none⟩ = some (.string ((rd_T60 l0 a1).f1)) := (blk_cell BK175.out 1).trans rfl
   have hcz71_2 : wr.cell? ⟨gb175, 2, none⟩ = some (.string ((rd_T60 l0 a1).f2)) := (blk_cell BK175.out 2).trans rfl
   have hcz71_3 : wr.cell? ⟨gb175, 3, none⟩ = some (.string ((rd_T60 l0 a1).f3)) := (blk_cell BK175.out 3).trans rfl
   have hcz71_4 : wr.cell? ⟨gb175, 4, none⟩ = some (.int .i64 ((rd_T60 l0 a1).f4)) := (blk_cell BK175.out 4).trans rfl
   have hfz71_0 := blk_frozen BK175.out 0
   have hfz71_1 := blk_frozen BK175.out 1
   have hfz71_2 := blk_frozen BK175.out 2
   have hfz71_3 := blk_frozen BK175.out 3
   have hfz71_4 := blk_frozen BK175.out 4
   go_wp2_with (first | ((with_reducible refine gate_callee (f := 63) rfl ?_); refine goesL_ (some 77) rfl rfl Try.func63 (by kernel_rfl) rfl #[.agg #[.int .i64 ((rd_T60 l0 a1).f0), .string ((rd_T60 l0 a1).f1), .string ((rd_T60 l0 a1).f2), .string ((rd_T60 l0 a1).f3), .int .i64 ((rd_T60 l0 a1).f4)]] rfl ar_ ?_; (with_reducible refine (fencepostref04_Instr.calls ((rd_T60 l0 a1).f0) ((rd_T60 l0 a1).f1) ((rd_T60 l0 a1).f2) ((rd_T60 l0 a1).f3) ((rd_T60 l0 a1).f4) false _ A53.out).mono ?_); rintro e w72 ⟨rfl, hb⟩; refine ⟨_, rfl, ?_⟩; have n0_ := Aside0.mk (bb_ BK175.out hb); have n1_ := Aside0.mk (below_step (hb_ HB.out) hb); clear BK175; clear HB; have BK175 := n0_; have HB := n1_; clear n0_ n1_; (try clear hb); (try clear hb2); (try clear hk); (try clear hi); have hcz73_0 : w72.cell? ⟨gb175, 0, none⟩ = some (.int .i64 ((rd_T60 l0 a1).f0)) := (blk_cell BK175.out 0).trans rfl; have hcz73_1 : w72.cell? ⟨gb175, 1, none⟩ = some (.string ((rd_T60 l0 a1).f1)) := (blk_cell BK175.out 1).trans rfl; have hcz73_2 : w72.cell? ⟨gb175, 2, none⟩ = some (.string ((rd_T60 l0 a1).f2)) := (blk_cell BK175.out 2).trans rfl; have hcz73_3 : w72.cell? ⟨gb175, 3, none⟩ = some (.string ((rd_T60 l0 a1).f3)) := (blk_cell BK175.out 3).trans rfl; have hcz73_4 : w72.cell? ⟨gb175, 4, none⟩ = some (.int .i64 ((rd_T60 l0 a1).f4)) := (blk_cell BK175.out 4).trans rfl; have hfz73_0 := blk_frozen BK175.out 0; have hfz73_1 := blk_frozen BK175.out 1; have hfz73_2 := blk_frozen BK175.out 2; have hfz73_3 := blk_frozen BK175.out 3; have hfz73_4 := blk_frozen BK175.out 4))
   go_ret
   exact ⟨by first | rfl | (simp [errW_none, errW_some] <;> rfl) | (simp [*, errW_none, errW_some] <;> rfl), hb_ HB.out⟩
  rw [if_neg c70] at H
  have c70b0 : decide (8 ≤ x7_4) = false := decide_eq_false c70
  clear c70
  obtain rfl := Option.some.inj H
  have hcz74_0 : wr.cell? ⟨gb175, 0, none⟩ = some (.int .i64 ((rd_T60 l0 a1).f0)) := (blk_cell BK175.out 0).trans rfl
  have hcz74_1 : wr.cell? ⟨gb175, 1, none⟩ = some (.string ((rd_T60 l0 a1).f1)) := (blk_cell BK175.out 1).trans rfl
  have hcz74_2 : wr.cell? ⟨gb175, 2, none⟩ = some (.string ((rd_T60 l0 a1).f2)) := (blk_cell BK175.out 2).trans rfl
  have hcz74_3 : wr.cell? ⟨gb175, 3, none⟩ = some (.string ((rd_T60 l0 a1).f3)) := (blk_cell BK175.out 3).trans rfl
  have hcz74_4 : wr.cell? ⟨gb175, 4, none⟩ = some (.int .i64 ((rd_T60 l0 a1).f4)) := (blk_cell BK175.out 4).trans rfl
  have hfz74_0 := blk_frozen BK175.out 0
  have hfz74_1 := blk_frozen BK175.out 1
  have hfz74_2 := blk_frozen BK175.out 2
  have hfz74_3 := blk_frozen BK175.out 3
  have hfz74_4 := blk_frozen BK175.out 4
  go_wp2_with (first | ((with_reducible refine gate_callee (f := 63) rfl ?_); refine goesL_ (some 77) rfl rfl Try.func63 (by kernel_rfl) rfl #[.agg #[.int .i64 ((rd_T60 l0 a1).f0), .string ((rd_T60 l0 a1).f1), .string ((rd_T60 l0 a1).f2), .string ((rd_T60 l0 a1).f3), .int .i64 ((rd_T60 l0 a1).f4)]] rfl ar_ ?_; (with_reducible refine (fencepostref04_Instr.calls ((rd_T60 l0 a1).f0) ((rd_T60 l0 a1).f1) ((rd_T60 l0 a1).f2) ((rd_T60 l0 a1).f3) ((rd_T60 l0 a1).f4) false _ A53.out).mono ?_); rintro e w75 ⟨rfl, hb⟩; refine ⟨_, rfl, ?_⟩; have n0_ := Aside0.mk (bb_ BK175.out hb); have n1_ := Aside0.mk (below_step (hb_ HB.out) hb); clear BK175; clear HB; have BK175 := n0_; have HB := n1_; clear n0_ n1_; (try clear hb); (try clear hb2); (try clear hk); (try clear hi); have hcz76_0 : w75.cell? ⟨gb175, 0, none⟩ = some (.int .i64 ((rd_T60 l0 a1).f0)) := (blk_cell BK175.out 0).trans rfl; have hcz76_1 : w75.cell? ⟨gb175, 1, none⟩ = some (.string ((rd_T60 l0 a1).f1)) := (blk_cell BK175.out 1).trans rfl; have hcz76_2 : w75.cell? ⟨gb175, 2, none⟩ = some (.string ((rd_T60 l0 a1).f2)) := (blk_cell BK175.out 2).trans rfl; have hcz76_3 : w75.cell? ⟨gb175, 3, none⟩ = some (.string ((rd_T60 l0 a1).f3)) := (blk_cell BK175.out 3).trans rfl; have hcz76_4 : w75.cell? ⟨gb175, 4, none⟩ = some (.int .i64 ((rd_T60 l0 a1).f4)) := (blk_cell BK175.out 4).trans rfl; have hfz76_0 := blk_frozen BK175.out 0; have hfz76_1 := blk_frozen BK175.out 1; have hfz76_2 := blk_frozen BK175.out 2; have hfz76_3 := blk_frozen BK175.out 3; have hfz76_4 := blk_frozen BK175.out 4))
  go_ret
  exact ⟨by first | rfl | (simp [errW_none, errW_some] <;> rfl) | (simp [*, errW_none, errW_some] <;> rfl), hb_ HB.out⟩
 subst c54
 have H1 : (if x6_4 ≥ 8 then (some 5) else (if ((rd_T60 l0 a1).f0) = 11 then (if x7_4 ≥ 8 then (some 5) else (some 0)) else (some 0))) = some r := by rw [if_pos rfl] at H; exact H
 clear H
 have H := H1
 clear H1
 by_cases c55 : x6_4 ≥ 8
 ·rw [if_pos c55] at H
  have c55b0 : decide (8 ≤ x6_4) = true := decide_eq_true c55
  clear c55
  obtain rfl := Option.some.inj H
  have hcz56_0 : wr.cell? ⟨gb175, 0, none⟩ = some (.int .i64 ((rd_T60 l0 a1).f0)) := (blk_cell BK175.out 0).trans rfl
  have hcz56_1 : wr.cell? ⟨gb175, 1, none⟩ = some (.string ((rd_T60 l0 a1).f1)) := (blk_cell BK175.out 1).trans rfl
  have hcz56_2 : wr.cell? ⟨gb175, 2, none⟩ = some (.string ((rd_T60 l0 a1).f2)) := (blk_cell BK175.out 2).trans rfl
  have hcz56_3 : wr.cell? ⟨gb175, 3, none⟩ = some (.string ((rd_T60 l0 a1).f3)) := (blk_cell BK175.out 3).trans rfl
  have hcz56_4 : wr.cell? ⟨gb175, 4, none⟩ = some (.int .i64 ((rd_T60 l0 a1).f4)) := (blk_cell BK175.out 4).trans rfl
  have hfz56_0 := blk_frozen BK175.out 0
  have hfz56_1 := blk_frozen BK175.out 1
  have hfz56_2 := blk_frozen BK175.out 2
  have hfz56_3 := blk_frozen BK175.out 3
  have hfz56_4 := blk_frozen BK175.out 4
  go_wp2_with (first | ((with_reducible refine gate_callee (f := 63) rfl ?_); refine goesL_ (some 77) rfl rfl Try.func63 (by kernel_rfl) rfl #[.agg #[.int .i64 ((rd_T60 l0 a1).f0), .string ((rd_T60 l0 a1).f1), .string ((rd_T60 l0 a1).f2), .string ((rd_T60 l0 a1).f3), .int .i64 ((rd_T60 l0 a1).f4)]] rfl ar_ ?_; (with_reducible refine (fencepostref04_Instr.calls ((rd_T60 l0 a1).f0) ((rd_T60 l0 a1).f1) ((rd_T60 l0 a1).f2) ((rd_T60 l0 a1).f3) ((rd_T60 l0 a1).f4) true _ A53.out).mono ?_); rintro e w57 ⟨rfl, hb⟩; refine ⟨_, rfl, ?_⟩; have n0_ := Aside0.mk (bb_ BK175.out hb); have n1_ := Aside0.mk (below_step (hb_ HB.out) hb); clear BK175; clear HB; have BK175 := n0_; have HB := n1_; clear n0_ n1_; (try clear hb); (try clear hb2); (try clear hk); (try clear hi)))
  go_ret
  exact ⟨by first | rfl | (simp [errW_none, errW_some] <;> rfl) | (simp [*, errW_none, errW_some] <;> rfl), hb_ HB.out⟩
 rw [if_neg c55] at H
 have c55b0 : decide (8 ≤ x6_4) = false := decide_eq_false c55
 clear c55
 by_cases c58 : ((rd_T60 l0 a1).f0) = 11
 rotate_left
 ·rw [if_neg c58] at H
  have c58b0 : (((rd_T60 l0 a1).f0) == 11) = false := beq_eq_false_iff_ne.mpr c58
  have c58b1 : (((rd_T60 l0 a1).f0) != 11) = true := bne_iff_ne.mpr c58
  obtain rfl := Option.some.inj H
  have hcz66_0 : wr.cell? ⟨gb175, 0, none⟩ = some (.int .i64 ((rd_T60 l0 a1).f0)) := (blk_cell BK175.out 0).trans rfl
  have hcz66_1 : wr.cell? ⟨gb175, 1, none⟩ = some (.string ((rd_T60 l0 a1).f1)) := (blk_cell BK175.out 1).trans rfl
  have hcz66_2 : wr.cell? ⟨gb175, 2, none⟩ = some (.string ((rd_T60 l0 a1).f2)) := (blk_cell BK175.out 2).trans rfl
  have hcz66_3 : wr.cell? ⟨gb175, 3, none⟩ = some (.string ((rd_T60 l0 a1).f3)) := (blk_cell BK175.out 3).trans rfl
  have hcz66_4 : wr.cell? ⟨gb175, 4, none⟩ = some (.int .i64 ((rd_T60 l0 a1).f4)) := (blk_cell BK175.out 4).trans rfl
  have hfz66_0 := blk_frozen BK175.out 0
  have hfz66_1 := blk_frozen BK175.out 1
  have hfz66_2 := blk_frozen BK175.out 2
  have hfz66_3 := blk_frozen BK175.out 3
  have hfz66_4 := blk_frozen BK175.out 4
  go_wp2_with (first | ((with_reducible refine gate_callee (f := 63) rfl ?_); refine goesL_ (some 77) rfl rfl Try.func63 (by kernel_rfl) rfl #[.agg #[.int .i64 ((rd_T60 l0 a1).f0), .string ((rd_T60 l0 a1).f1), .string ((rd_T60 l0 a1).f2), .string ((rd_T60 l0 a1).f3), .int .i64 ((rd_T60 l0 a1).f4)]] rfl ar_ ?_; (with_reducible refine (fencepostref04_Instr.calls ((rd_T60 l0 a1).f0) ((rd_T60 l0 a1).f1) ((rd_T60 l0 a1).f2) ((rd_T60 l0 a1).f3) ((rd_T60 l0 a1).f4) true _ A53.out).mono ?_); rintro e w67 ⟨rfl, hb⟩; refine ⟨_, rfl, ?_⟩; have n0_ := Aside0.mk (bb_ BK175.out hb); have n1_ := Aside0.mk (below_step (hb_ HB.out) hb); clear BK175; clear HB; have BK175 := n0_; have HB := n1_; clear n0_ n1_; (try clear hb); (try clear hb2); (try clear hk); (try clear hi); have hcz68_0 : w67.cell? ⟨gb175, 0, none⟩ = some (.int .i64 ((rd_T60 l0 a1).f0)) := (blk_cell BK175.out 0).trans rfl; have hcz68_1 : w67.cell? ⟨gb175, 1, none⟩ = some (.string ((rd_T60 l0 a1).f1)) := (blk_cell BK175.out 1).trans rfl; have hcz68_2 : w67.cell? ⟨gb175, 2, none⟩ = some (.string ((rd_T60 l0 a1).f2)) := (blk_cell BK175.out 2).trans rfl; have hcz68_3 : w67.cell? ⟨gb175, 3, none⟩ = some (.string ((rd_T60 l0 a1).f3)) := (blk_cell BK175.out 3).trans rfl; have hcz68_4 : w67.cell? ⟨gb175, 4, none⟩ = some (.int .i64 ((rd_T60 l0 a1).f4)) := (blk_cell BK175.out 4).trans rfl; have hfz68_0 := blk_frozen BK175.out 0; have hfz68_1 := blk_frozen BK175.out 1; have hfz68_2 := blk_frozen BK175.out 2; have hfz68_3 := blk_frozen BK175.out 3; have hfz68_4 := blk_frozen BK175.out 4))
  go_ret
  exact ⟨by first | rfl | (simp [errW_none, errW_some] <;> rfl) | (simp [*, errW_none, errW_some] <;> rfl), hb_ HB.out⟩
 rw [if_pos c58] at H
 have c58b0 : (((rd_T60 l0 a1).f0) == 11) = true := beq_iff_eq.mpr c58
 have c58b1 : (((rd_T60 l0 a1).f0) != 11) = false := bne_eq_false_iff_eq.mpr c58
 clear c58
 by_cases c59 : x7_4 ≥ 8
 ·rw [if_pos c59] at H
  have c59b0 : decide (8 ≤ x7_4) = true := decide_eq_true c59
  clear c59
  obtain rfl := Option.some.inj H
  have hcz60_0 : wr.cell? ⟨gb175, 0, none⟩ = some (.int .i64 ((rd_T60 l0 a1).f0)) := (blk_cell BK175.out 0).trans rfl
  have hcz60_1 : wr.cell? ⟨gb175, 1, none⟩ = some (.string ((rd_T60 l0 a1).f1)) := (blk_cell BK175.out 1).trans rfl
  have hcz60_2 : wr.cell? ⟨gb175, 2, none⟩ = some (.string ((rd_T60 l0 a1).f2)) := (blk_cell BK175.out 2).trans rfl
  have hcz60_3 : wr.cell? ⟨gb175, 3, none⟩ = some (.string ((rd_T60 l0 a1).f3)) := (blk_cell BK175.out 3).trans rfl
  have hcz60_4 : wr.cell? ⟨gb175, 4, none⟩ = some (.int .i64 ((rd_T60 l0 a1).f4)) := (blk_cell BK175.out 4).trans rfl
  have hfz60_0 := blk_frozen BK175.out 0
  have hfz60_1 := blk_frozen BK175.out 1
  have hfz60_2 := blk_frozen BK175.out 2
  have hfz60_3 := blk_frozen BK175.out 3
  have hfz60_4 := blk_frozen BK175.out 4
  go_wp2_with (first | ((with_reducible refine gate_callee (f := 63) rfl ?_); refine goesL_ (some 77) rfl rfl Try.func63 (by kernel_rfl) rfl #[.agg #[.int .i64 ((rd_T60 l0 a1).f0), .string ((rd_T60 l0 a1).f1), .string ((rd_T60 l0 a1).f2), .string ((rd_T60 l0 a1).f3), .int .i64 ((rd_T60 l0 a1).f4)]] rfl ar_ ?_; (with_reducible refine (fencepostref04_Instr.calls ((rd_T60 l0 a1).f0) ((rd_T60 l0 a1).f1) ((rd_T60 l0 a1).f2) ((rd_T60 l0 a1).f3) ((rd_T60 l0 a1).f4) true _ A53.out).mono ?_); rintro e w61 ⟨rfl, hb⟩; refine ⟨_, rfl, ?_⟩; have n0_ := Aside0.mk (bb_ BK175.out hb); have n1_ := Aside0.mk (below_step (hb_ HB.out) hb); clear BK175; clear HB; have BK175 := n0_; have HB := n1_; clear n0_ n1_; (try clear hb); (try clear hb2); (try clear hk); (try clear hi); have hcz62_0 : w61.cell? ⟨gb175, 0, none⟩ = some (.int .i64 ((rd_T60 l0 a1).f0)) := (blk_cell BK175.out 0).trans rfl; have hcz62_1 : w61.cell? ⟨gb175, 1, none⟩ = some (.string ((rd_T60 l0 a1).f1)) := (blk_cell BK175.out 1).trans rfl; have hcz62_2 : w61.cell? ⟨gb175, 2, none⟩ = some (.string ((rd_T60 l0 a1).f2)) := (blk_cell BK175.out 2).trans rfl; have hcz62_3 : w61.cell? ⟨gb175, 3, none⟩ = some (.string ((rd_T60 l0 a1).f3)) := (blk_cell BK175.out 3).trans rfl; have hcz62_4 : w61.cell? ⟨gb175, 4, none⟩ = some (.int .i64 ((rd_T60 l0 a1).f4)) := (blk_cell BK175.out 4).trans rfl; have hfz62_0 := blk_frozen BK175.out 0; have hfz62_1 := blk_frozen BK175.out 1; have hfz62_2 := blk_frozen BK175.out 2; have hfz62_3 := blk_frozen BK175.out 3; have hfz62_4 := blk_frozen BK175.out 4))
  go_ret
  exact ⟨by first | rfl | (simp [errW_none, errW_some] <;> rfl) | (simp [*, errW_none, errW_some] <;> rfl), hb_ HB.out⟩
 rw [if_neg c59] at H
 have c59b0 : decide (8 ≤ x7_4) = false := decide_eq_false c59
 clear c59
 obtain rfl := Option.some.inj H
 have hcz63_0 : wr.cell? ⟨gb175, 0, none⟩ = some (.int .i64 ((rd_T60 l0 a1).f0)) := (blk_cell BK175.out 0).trans rfl
 have hcz63_1 : wr.cell? ⟨gb175, 1, none⟩ = some (.string ((rd_T60 l0 a1).f1)) := (blk_cell BK175.out 1).trans rfl
 have hcz63_2 : wr.cell? ⟨gb175, 2, none⟩ = some (.string ((rd_T60 l0 a1).f2)) := (blk_cell BK175.out 2).trans rfl
 have hcz63_3 : wr.cell? ⟨gb175, 3, none⟩ = some (.string ((rd_T60 l0 a1).f3)) := (blk_cell BK175.out 3).trans rfl
 have hcz63_4 : wr.cell? ⟨gb175, 4, none⟩ = some (.int .i64 ((rd_T60 l0 a1).f4)) := (blk_cell BK175.out 4).trans rfl
 have hfz63_0 := blk_frozen BK175.out 0
 have hfz63_1 := blk_frozen BK175.out 1
 have hfz63_2 := blk_frozen BK175.out 2
 have hfz63_3 := blk_frozen BK175.out 3
 have hfz63_4 := blk_frozen BK175.out 4
 go_wp2_with (first | ((with_reducible refine gate_callee (f := 63) rfl ?_); refine goesL_ (some 77) rfl rfl Try.func63 (by kernel_rfl) rfl #[.agg #[.int .i64 ((rd_T60 l0 a1).f0), .string ((rd_T60 l0 a1).f1), .string ((rd_T60 l0 a1).f2), .string ((rd_T60 l0 a1).f3), .int .i64 ((rd_T60 l0 a1).f4)]] rfl ar_ ?_; (with_reducible refine (fencepostref04_Instr.calls ((rd_T60 l0 a1).f0) ((rd_T60 l0 a1).f1) ((rd_T60 l0 a1).f2) ((rd_T60 l0 a1).f3) ((rd_T60 l0 a1).f4) true _ A53.out).mono ?_); rintro e w64 ⟨rfl, hb⟩; refine ⟨_, rfl, ?_⟩; have n0_ := Aside0.mk (bb_ BK175.out hb); have n1_ := Aside0.mk (below_step (hb_ HB.out) hb); clear BK175; clear HB; have BK175 := n0_; have HB := n1_; clear n0_ n1_; (try clear hb); (try clear hb2); (try clear hk); (try clear hi); have hcz65_0 : w64.cell? ⟨gb175, 0, none⟩ = some (.int .i64 ((rd_T60 l0 a1).f0)) := (blk_cell BK175.out 0).trans rfl; have hcz65_1 : w64.cell? ⟨gb175, 1, none⟩ = some (.string ((rd_T60 l0 a1).f1)) := (blk_cell BK175.out 1).trans rfl; have hcz65_2 : w64.cell? ⟨gb175, 2, none⟩ = some (.string ((rd_T60 l0 a1).f2)) := (blk_cell BK175.out 2).trans rfl; have hcz65_3 : w64.cell? ⟨gb175, 3, none⟩ = some (.string ((rd_T60 l0 a1).f3)) := (blk_cell BK175.out 3).trans rfl; have hcz65_4 : w64.cell? ⟨gb175, 4, none⟩ = some (.int .i64 ((rd_T60 l0 a1).f4)) := (blk_cell BK175.out 4).trans rfl; have hfz65_0 := blk_frozen BK175.out 0; have hfz65_1 := blk_frozen BK175.out 1; have hfz65_2 := blk_frozen BK175.out 2; have hfz65_3 := blk_frozen BK175.out 3; have hfz65_4 := blk_frozen BK175.out 4))
 go_ret
 exact ⟨by first | rfl | (simp [errW_none, errW_some] <;> rfl) | (simp [*, errW_none, errW_some] <;> rfl), hb_ HB.out⟩
end Go.Proofs.Ytijpfonbeepmfaa.Print
