-- Written by ownprint.py (this session's) with the kit's print.py: functions, contracts, rows; Lean checks it.
import Derived.Test.YtijpfonbeepmfaaPrint0
import Derived.Test.YtijpfonbeepmfaaPrint10
import Derived.Test.YtijpfonbeepmfaaPrint13
import Derived.Test.YtijpfonbeepmfaaPrint14
import Derived.Test.YtijpfonbeepmfaaPrint15
import Derived.Test.YtijpfonbeepmfaaHSq
namespace Go.Proofs.Ytijpfonbeepmfaa.Print
open Go.RowKit Go.Proofs.YtijpfonbeepmfaaW.PrintWords Go.Proofs.YtijpfonbeepmfaaW.PrintLast Go.Proofs.YtijpfonbeepmfaaW.PrintMore
attribute [local go_sem] max2_int min2_int max_two min_two max_three min_three max_four min_four   -- for this text's walks alone
set_option linter.unusedVariables false
set_option linter.unusedSimpArgs false
mutual
def fencepostref04_Check.l0 : Nat → Int → ByteArray → List (S62) → List (S58) → Bool → List (S64) → Option (Int × Int × Int)
 | 0, _, _, _, _, _, _ => none
 | k + 1, x6, x234000, x234001, x234002, x234003, x234004 => if x6 < (x234002.length : Int) then (fencepostref04_Check.l1 k x6 0 x234000 x234001 x234002 x234003 x234004) else (fencepostref04_Check.l2 k 0 x234000 x234001 x234002 x234003 x234004)
def fencepostref04_Check.l1 : Nat → Int → Int → ByteArray → List (S62) → List (S58) → Bool → List (S64) → Option (Int × Int × Int)
 | 0, _, _, _, _, _, _, _ => none
 | k + 1, x6, x7, x234000, x234001, x234002, x234003, x234004 => if 0 ≤ x6 then (if x6 < (x234002.length : Int) then (if x7 < (((rd_T58 x234002 x6).f0).length : Int) then ((fencepostref04_line.f k ((rd_T58 x234002 x6).f0) x7).bind fun t237 => (if t237 = 0 then (fencepostref04_Check.l1 k x6 (wrap64 (x7 + 1)) x234000 x234001 x234002 x234003 x234004) else (some (x6, x7, t237)))) else (fencepostref04_Check.l0 k (wrap64 (x6 + 1)) x234000 x234001 x234002 x234003 x234004)) else (none)) else (none)
def fencepostref04_Check.l2 : Nat → Int → ByteArray → List (S62) → List (S58) → Bool → List (S64) → Option (Int × Int × Int)
 | 0, _, _, _, _, _, _ => none
 | k + 1, x9, x234000, x234001, x234002, x234003, x234004 => if x9 < (x234004.length : Int) then (if 0 ≤ x9 then (if x9 ≥ 6 then (some ((x234002.length : Int), x9, 5)) else ((fencepostref03_Asked.f k ((rd_T64 x234004 x9).f0) ((rd_T64 x234004 x9).f1) ((rd_T64 x234004 x9).f2)).bind fun t243 => (if t243 = true then (if ((rd_T64 x234004 x9).f0) ≥ (x234002.length : Int) then (some ((x234002.length : Int), x9, 22)) else (fencepostref04_Check.l2 k (wrap64 (x9 + 1)) x234000 x234001 x234002 x234003 x234004)) else (some ((x234002.length : Int), x9, 1))))) else (none)) else ((fencepostref04_locs.f k x234000 x234001 x234002 x234003 x234004).bind fun t238 => (if (t238.length : Int) > 4 then (some ((-1), (-1), 5)) else (some (0, 0, 0))))
end
def fencepostref04_Check.f (k : Nat) (a0_0 : ByteArray) (l0_1 : List (S62)) (l0_2 : List (S58)) (a0_3 : Bool) (l0_4 : List (S64)) : Option (Int × Int × Int) := (fencepostref04_head.f k a0_0 l0_1 l0_2 a0_3 l0_4).bind fun t234 => (if t234 = 0 then (fencepostref04_Check.l0 k 0 a0_0 l0_1 l0_2 a0_3 l0_4) else (some ((-1), (-1), t234)))
set_option maxHeartbeats 8000000 in
set_option maxRecDepth 100000 in
theorem fencepostref04_Check.calls (k : Nat) (a0_0 : ByteArray) (A0_1 : Option Addr) (c0_1 : Nat) (l0_1 : List (S62)) (A0_2 : Option Addr) (c0_2 : Nat) (l0_2 : List (S58)) (a0_3 : Bool) (A0_4 : Option Addr) (c0_4 : Nat) (l0_4 : List (S64)) (r1 : Int) (r2 : Int) (r3 : Int) (w : World) (hr0_1 : Kd.C k62 w A0_1 l0_1.length l0_1) (hc0_1 : l0_1.length ≤ c0_1) (hr0_2 : Kd.C k58 w A0_2 l0_2.length l0_2) (hc0_2 : l0_2.length ≤ c0_2) (hr0_4 : Kd.C k64 w A0_4 l0_4.length l0_4) (hc0_4 : l0_4.length ≤ c0_4) (h : fencepostref04_Check.f k a0_0 l0_1 l0_2 a0_3 l0_4 = some (r1, r2, r3)) :
 Calls Try.prog 44 #[.agg #[.string a0_0, .slice A0_1 l0_1.length c0_1, .slice A0_2 l0_2.length c0_2, .bool a0_3, .slice A0_4 l0_4.length c0_4]] w fun e w' => e = .returned (.tuple #[.int .i64 r1, .int .i64 r2, .int .i64 r3]) ∧ Below w.heap.size w w' := by
 have hu30 := Try.underlying30
 have hu64 := Try.underlying64
 have HR0_1 := Aside0.mk hr0_1
 have HC0_1 := Aside0.mk hc0_1
 clear hr0_1 hc0_1
 have HR0_2 := Aside0.mk hr0_2
 have HC0_2 := Aside0.mk hc0_2
 clear hr0_2 hc0_2
 have HR0_4 := Aside0.mk hr0_4
 have HC0_4 := Aside0.mk hc0_4
 clear hr0_4 hc0_4
 have HB := Aside0.mk (Below.refl w.heap.size w)
 have H : ((fencepostref04_head.f k a0_0 l0_1 l0_2 a0_3 l0_4).bind fun t234 => (if t234 = 0 then (fencepostref04_Check.l0 k 0 a0_0 l0_1 l0_2 a0_3 l0_4) else (some ((-1), (-1), t234)))) = some (r1, r2, r3) := h
 clear h
 replace H := Option.bind_eq_some_iff.mp H
 obtain ⟨t234, A20, H⟩ := H
 replace H : (if t234 = 0 then (fencepostref04_Check.l0 k 0 a0_0 l0_1 l0_2 a0_3 l0_4) else (some ((-1), (-1), t234))) = some (r1, r2, r3) := H
 have A2 := Aside0.mk A20
 clear A20
 by_cases c3 : t234 = 0
 rotate_left
 ·rw [if_neg c3] at H
  have c3b0 : (t234 == 0) = false := beq_eq_false_iff_ne.mpr c3
  have c3b1 : (t234 != 0) = true := bne_iff_ne.mpr c3
  simp only [Option.some.injEq, Prod.mk.injEq] at H
  obtain ⟨rfl, rfl, rfl⟩ := H
  go_enter Try.func44, Try.ntmps44
  (try simp only [List.append_eq, List.cons_append, List.nil_append])
  go_wp2_with (first | ((with_reducible refine gate_dst (N := 1) rfl ?_); refine box_event ?hg (N := 1) ?hd (cs := #[.string a0_0, .slice A0_1 l0_1.length c0_1, .slice A0_2 l0_2.length c0_2, .bool a0_3, .slice A0_4 l0_4.length c0_4]) (t := 30) ?hr ?_; (case hd => rfl); (case hg => rfl); (case hr => first | (go_simp; done) | (go_simp; rfl)); intro gb233 hg w59 hbox hb; have n0_ := Aside0.mk (below_step (hb_ HB.out) hb); have n1_ := Aside0.mk (hbox); have n2_ := Aside0.mk (gs_ hg (hb_ HB.out)); have n3_ := Aside0.mk (gs_ hg (hb_ HB.out)); clear HB; have HB := n0_; have BK233 := n1_; have GW233 := n2_; have GE233 := n3_; clear n0_ n1_ n2_ n3_; clear hb hbox hg; have hcz60_0 : w59.cell? ⟨gb233, 0, none⟩ = some (.string a0_0) := (blk_cell BK233.out 0).trans rfl; have hcz60_1 : w59.cell? ⟨gb233, 1, none⟩ = some (.slice A0_1 l0_1.length c0_1) := (blk_cell BK233.out 1).trans rfl; have hcz60_2 : w59.cell? ⟨gb233, 2, none⟩ = some (.slice A0_2 l0_2.length c0_2) := (blk_cell BK233.out 2).trans rfl; have hcz60_3 : w59.cell? ⟨gb233, 3, none⟩ = some (.bool a0_3) := (blk_cell BK233.out 3).trans rfl; have hcz60_4 : w59.cell? ⟨gb233, 4, none⟩ = some (.slice A0_4 l0_4.length c0_4) := (blk_cell BK233.out 4).trans rfl; have hfz60_0 := blk_frozen BK233.out 0; have hfz60_1 := blk_frozen BK233.out 1; have hfz60_2 := blk_frozen BK233.out 2; have hfz60_3 := blk_frozen BK233.out 3; have hfz60_4 := blk_frozen BK233.out 4) | ((with_reducible refine gate_callee (f := 53) rfl ?_); refine goesL_ (some 12) rfl rfl Try.func53 (by kernel_rfl) rfl #[.agg #[.string a0_0, .slice A0_1 l0_1.length c0_1, .slice A0_2 l0_2.length c0_2, .bool a0_3, .slice A0_4 l0_4.length c0_4]] rfl ar_ ?_; (with_reducible refine (fencepostref04_head.calls k a0_0 _ _ l0_1 _ _ l0_2 a0_3 _ _ l0_4 t234 _ ?side1 ?side2 ?side3 ?side4 ?side5 ?side6 A2.out).mono ?_); (case side1 => exact cd_ (Kd.C_below HR0_1.out HB.out)); (case side2 => exact HC0_1.out); (case side3 => exact cd_ (Kd.C_below HR0_2.out HB.out)); (case side4 => exact HC0_2.out); (case side5 => exact cd_ (Kd.C_below HR0_4.out HB.out)); (case side6 => exact HC0_4.out); rintro e w61 ⟨rfl, hb⟩; refine ⟨_, rfl, ?_⟩; have n0_ := Aside0.mk (bb_ BK233.out hb); have n1_ := Aside0.mk (below_step (hb_ HB.out) hb); clear BK233; clear HB; have BK233 := n0_; have HB := n1_; clear n0_ n1_; (try clear hb); (try clear hb2); (try clear hk); (try clear hi)))
  go_ret3
  exact ⟨by first | rfl | (simp [errW_none, errW_some] <;> rfl) | (simp [*, errW_none, errW_some] <;> rfl), hb_ HB.out⟩
 rw [if_pos c3] at H
 have c3b0 : (t234 == 0) = true := beq_iff_eq.mpr c3
 have c3b1 : (t234 != 0) = false := bne_eq_false_iff_eq.mpr c3
 clear c3
 have H' := Aside0.mk H
 clear H
 go_enter Try.func44, Try.ntmps44
 (try simp only [List.append_eq, List.cons_append, List.nil_append])
 go_wp2_with (first | ((with_reducible refine gate_dst (N := 1) rfl ?_); refine box_event ?hg (N := 1) ?hd (cs := #[.string a0_0, .slice A0_1 l0_1.length c0_1, .slice A0_2 l0_2.length c0_2, .bool a0_3, .slice A0_4 l0_4.length c0_4]) (t := 30) ?hr ?_; (case hd => rfl); (case hg => rfl); (case hr => first | (go_simp; done) | (go_simp; rfl)); intro gb233 hg w4 hbox hb; have n0_ := Aside0.mk (below_step (hb_ HB.out) hb); have n1_ := Aside0.mk (hbox); have n2_ := Aside0.mk (gs_ hg (hb_ HB.out)); have n3_ := Aside0.mk (gs_ hg (hb_ HB.out)); clear HB; have HB := n0_; have BK233 := n1_; have GW233 := n2_; have GE233 := n3_; clear n0_ n1_ n2_ n3_; clear hb hbox hg; have hcz5_0 : w4.cell? ⟨gb233, 0, none⟩ = some (.string a0_0) := (blk_cell BK233.out 0).trans rfl; have hcz5_1 : w4.cell? ⟨gb233, 1, none⟩ = some (.slice A0_1 l0_1.length c0_1) := (blk_cell BK233.out 1).trans rfl; have hcz5_2 : w4.cell? ⟨gb233, 2, none⟩ = some (.slice A0_2 l0_2.length c0_2) := (blk_cell BK233.out 2).trans rfl; have hcz5_3 : w4.cell? ⟨gb233, 3, none⟩ = some (.bool a0_3) := (blk_cell BK233.out 3).trans rfl; have hcz5_4 : w4.cell? ⟨gb233, 4, none⟩ = some (.slice A0_4 l0_4.length c0_4) := (blk_cell BK233.out 4).trans rfl; have hfz5_0 := blk_frozen BK233.out 0; have hfz5_1 := blk_frozen BK233.out 1; have hfz5_2 := blk_frozen BK233.out 2; have hfz5_3 := blk_frozen BK233.out 3; have hfz5_4 := blk_frozen BK233.out 4) | ((with_reducible refine gate_callee (f := 53) rfl ?_); refine goesL_ (some 12) rfl rfl Try.func53 (by kernel_rfl) rfl #[.agg #[.string a0_0, .slice A0_1 l0_1.length c0_1, .slice A0_2 l0_2.length c0_2, .bool a0_3, .slice A0_4 l0_4.length c0_4]] rfl ar_ ?_; (with_reducible refine (fencepostref04_head.calls k a0_0 _ _ l0_1 _ _ l0_2 a0_3 _ _ l0_4 t234 _ ?side1 ?side2 ?side3 ?side4 ?side5 ?side6 A2.out).mono ?_); (case side1 => exact cd_ (Kd.C_below HR0_1.out HB.out)); (case side2 => exact HC0_1.out); (case side3 => exact cd_ (Kd.C_below HR0_2.out HB.out)); (case side4 => exact HC0_2.out); (case side5 => exact cd_ (Kd.C_below HR0_4.out HB.out)); (case side6 => exact HC0_4.out); rintro e w6 ⟨rfl, hb⟩; refine ⟨_, rfl, ?_⟩; have n0_ := Aside0.mk (bb_ BK233.out hb); have n1_ := Aside0.mk (below_step (hb_ HB.out) hb); clear BK233; clear HB; have BK233 := n0_; have HB := n1_; clear n0_ n1_; (try clear hb); (try clear hb2); (try clear hk); (try clear hi)))
 go_loopg [6] k (fun kq v6 w' => ∃ (x6_1 : Int), v6 = .int .i64 x6_1 ∧ Aside0 (fencepostref04_Check.l0 kq x6_1 a0_0 l0_1 l0_2 a0_3 l0_4 = some (r1, r2, r3)) ∧ Aside0 (kq ≤ k) ∧ Aside0 (w'.heap[gb233]? = some (.cells #[.string a0_0, (.slice A0_1 l0_1.length c0_1), (.slice A0_2 l0_2.length c0_2), .bool a0_3, (.slice A0_4 l0_4.length c0_4)] 30 (0, 0))) ∧ Aside0 (Below w.heap.size w w'))
 case atStart => exact ⟨(0), rf_, H', ⟨Nat.le_refl _⟩, ⟨bd_ BK233.out⟩, ⟨hb_ HB.out⟩⟩
 clear H'
 try clear c3
 try clear c3b0
 try clear c3b1
 try clear hcz5_0
 try clear hcz5_1
 try clear hcz5_2
 try clear hcz5_3
 try clear hcz5_4
 try clear hfz5_0
 try clear hfz5_1
 try clear hfz5_2
 try clear hfz5_3
 try clear hfz5_4
 obtain ⟨x6_1, rfl, HA, HK1, BK233, HB⟩ := hrel
 cases gk with
 | zero => exact absurd HA.out (by simp [fencepostref04_Check.l0])
 | succ k1 => ?_
 have H := HA.out
 clear HA
 simp only [fencepostref04_Check.l0] at H
 by_cases c7 : x6_1 < (l0_2.length : Int)
 ·rw [if_pos c7] at H
  have c7b0 : decide (x6_1 < (l0_2.length : Int)) = true := decide_eq_true c7
  clear c7
  have H' := Aside0.mk H
  clear H
  have hcz8_0 : wr.cell? ⟨gb233, 0, none⟩ = some (.string a0_0) := (blk_cell BK233.out 0).trans rfl
  have hcz8_1 : wr.cell? ⟨gb233, 1, none⟩ = some (.slice A0_1 l0_1.length c0_1) := (blk_cell BK233.out 1).trans rfl
  have hcz8_2 : wr.cell? ⟨gb233, 2, none⟩ = some (.slice A0_2 l0_2.length c0_2) := (blk_cell BK233.out 2).trans rfl
  have hcz8_3 : wr.cell? ⟨gb233, 3, none⟩ = some (.bool a0_3) := (blk_cell BK233.out 3).trans rfl
  have hcz8_4 : wr.cell? ⟨gb233, 4, none⟩ = some (.slice A0_4 l0_4.length c0_4) := (blk_cell BK233.out 4).trans rfl
  have hfz8_0 := blk_frozen BK233.out 0
  have hfz8_1 := blk_frozen BK233.out 1
  have hfz8_2 := blk_frozen BK233.out 2
  have hfz8_3 := blk_frozen BK233.out 3
  have hfz8_4 := blk_frozen BK233.out 4
  go_wp2
  go_loopg [7] k1 (fun kq v7 w' => ∃ (x7_2 : Int), v7 = .int .i64 x7_2 ∧ Aside0 (fencepostref04_Check.l1 kq x6_1 x7_2 a0_0 l0_1 l0_2 a0_3 l0_4 = some (r1, r2, r3)) ∧ Aside0 (kq ≤ k1) ∧ Aside0 (w'.heap[gb233]? = some (.cells #[.string a0_0, (.slice A0_1 l0_1.length c0_1), (.slice A0_2 l0_2.length c0_2), .bool a0_3, (.slice A0_4 l0_4.length c0_4)] 30 (0, 0))) ∧ Aside0 (Below w.heap.size w w'))
  case atStart => exact ⟨(0), rf_, H', ⟨Nat.le_refl _⟩, ⟨bd_ BK233.out⟩, ⟨hb_ HB.out⟩⟩
  clear H'
  try clear c3
  try clear c3b0
  try clear c3b1
  try clear c7
  try clear c7b0
  try clear hcz5_0
  try clear hcz5_1
  try clear hcz5_2
  try clear hcz5_3
  try clear hcz5_4
  try clear hcz8_0
  try clear hcz8_1
  try clear hcz8_2
  try clear hcz8_3
  try clear hcz8_4
  try clear hfz5_0
  try clear hfz5_1
  try clear hfz5_2
  try clear hfz5_3
  try clear hfz5_4
  try clear hfz8_0
  try clear hfz8_1
  try clear hfz8_2
  try clear hfz8_3
  try clear hfz8_4
  obtain ⟨x7_2, rfl, HA, HK2, BK233, HB⟩ := hrel
  cases gk with
  | zero => exact absurd HA.out (by simp [fencepostref04_Check.l1])
  | succ k2 => ?_
  have H := HA.out
  clear HA
  simp only [fencepostref04_Check.l1] at H
  by_cases c9 : 0 ≤ x6_1
  rotate_left
  ·rw [if_neg c9] at H
   exact absurd H (by simp)
  rw [if_pos c9] at H
  have c9b0 : decide (0 ≤ x6_1) = true := decide_eq_true c9
  clear c9
  by_cases c10 : x6_1 < (l0_2.length : Int)
  rotate_left
  ·rw [if_neg c10] at H
   exact absurd H (by simp)
  rw [if_pos c10] at H
  have c10b0 : decide (x6_1 < (l0_2.length : Int)) = true := decide_eq_true c10
  clear c10
  by_cases c11 : x7_2 < (((rd_T58 l0_2 x6_1).f0).length : Int)
  rotate_left
  ·rw [if_neg c11] at H
   have c11b0 : decide (x7_2 < (((rd_T58 l0_2 x6_1).f0).length : Int)) = false := decide_eq_false c11
   clear c11
   have H' := Aside0.mk H
   clear H
   have hcz18_0 : wr.cell? ⟨gb233, 0, none⟩ = some (.string a0_0) := (blk_cell BK233.out 0).trans rfl
   have hcz18_1 : wr.cell? ⟨gb233, 1, none⟩ = some (.slice A0_1 l0_1.length c0_1) := (blk_cell BK233.out 1).trans rfl
   have hcz18_2 : wr.cell? ⟨gb233, 2, none⟩ = some (.slice A0_2 l0_2.length c0_2) := (blk_cell BK233.out 2).trans rfl
   have hcz18_3 : wr.cell? ⟨gb233, 3, none⟩ = some (.bool a0_3) := (blk_cell BK233.out 3).trans rfl
   have hcz18_4 : wr.cell? ⟨gb233, 4, none⟩ = some (.slice A0_4 l0_4.length c0_4) := (blk_cell BK233.out 4).trans rfl
   have hfz18_0 := blk_frozen BK233.out 0
   have hfz18_1 := blk_frozen BK233.out 1
   have hfz18_2 := blk_frozen BK233.out 2
   have hfz18_3 := blk_frozen BK233.out 3
   have hfz18_4 := blk_frozen BK233.out 4
   have p235 : 0 ≤ (x6_1 : Int) := of_decide_eq_true as_
   have q235 : x6_1 < (l0_2.length : Int) := of_decide_eq_true as_
   obtain ⟨ad235, A235_0, c235_0, e235, hx235_0, hl235_0, hi235_0⟩ := at_T58 HR0_2.out x6_1 p235 q235
   cases e235
   replace hx235_0 := cl_ HB.out hx235_0
   have HR235_0 := Aside0.mk hi235_0
   have HC235_0 := Aside0.mk hl235_0
   clear hi235_0 hl235_0
   replace p235 := eq_true p235
   replace q235 := eq_true q235
   go_wp2
   go_roundg k2
   case measure => have := HK1.out; have := HK2.out; omega
   case rel => exact ⟨(wrap64 (x6_1 + 1)), rf_, H', ⟨by have := HK1.out; have := HK2.out; omega⟩, ⟨bd_ BK233.out⟩, ⟨hb_ HB.out⟩⟩
  rw [if_pos c11] at H
  have c11b0 : decide (x7_2 < (((rd_T58 l0_2 x6_1).f0).length : Int)) = true := decide_eq_true c11
  clear c11
  replace H := Option.bind_eq_some_iff.mp H
  obtain ⟨t237, A120, H⟩ := H
  replace H : (if t237 = 0 then (fencepostref04_Check.l1 k2 x6_1 (wrap64 (x7_2 + 1)) a0_0 l0_1 l0_2 a0_3 l0_4) else (some (x6_1, x7_2, t237))) = some (r1, r2, r3) := H
  have A12 := Aside0.mk A120
  clear A120
  by_cases c13 : t237 = 0
  rotate_left
  ·rw [if_neg c13] at H
   have c13b0 : (t237 == 0) = false := beq_eq_false_iff_ne.mpr c13
   have c13b1 : (t237 != 0) = true := bne_iff_ne.mpr c13
   simp only [Option.some.injEq, Prod.mk.injEq] at H
   obtain ⟨rfl, rfl, rfl⟩ := H
   have hcz16_0 : wr.cell? ⟨gb233, 0, none⟩ = some (.string a0_0) := (blk_cell BK233.out 0).trans rfl
   have hcz16_1 : wr.cell? ⟨gb233, 1, none⟩ = some (.slice A0_1 l0_1.length c0_1) := (blk_cell BK233.out 1).trans rfl
   have hcz16_2 : wr.cell? ⟨gb233, 2, none⟩ = some (.slice A0_2 l0_2.length c0_2) := (blk_cell BK233.out 2).trans rfl
   have hcz16_3 : wr.cell? ⟨gb233, 3, none⟩ = some (.bool a0_3) := (blk_cell BK233.out 3).trans rfl
   have hcz16_4 : wr.cell? ⟨gb233, 4, none⟩ = some (.slice A0_4 l0_4.length c0_4) := (blk_cell BK233.out 4).trans rfl
   have hfz16_0 := blk_frozen BK233.out 0
   have hfz16_1 := blk_frozen BK233.out 1
   have hfz16_2 := blk_frozen BK233.out 2
   have hfz16_3 := blk_frozen BK233.out 3
   have hfz16_4 := blk_frozen BK233.out 4
   have p235 : 0 ≤ (x6_1 : Int) := of_decide_eq_true as_
   have q235 : x6_1 < (l0_2.length : Int) := of_decide_eq_true as_
   obtain ⟨ad235, A235_0, c235_0, e235, hx235_0, hl235_0, hi235_0⟩ := at_T58 HR0_2.out x6_1 p235 q235
   cases e235
   replace hx235_0 := cl_ HB.out hx235_0
   have HR235_0 := Aside0.mk hi235_0
   have HC235_0 := Aside0.mk hl235_0
   clear hi235_0 hl235_0
   replace p235 := eq_true p235
   replace q235 := eq_true q235
   have p236 : 0 ≤ (x6_1 : Int) := of_decide_eq_true as_
   have q236 : x6_1 < (l0_2.length : Int) := of_decide_eq_true as_
   obtain ⟨ad236, A236_0, c236_0, e236, hx236_0, hl236_0, hi236_0⟩ := at_T58 HR0_2.out x6_1 p236 q236
   obtain rfl : ad235 = ad236 := (by injection e236)
   replace hx236_0 := cl_ HB.out hx236_0
   have HR236_0 := Aside0.mk hi236_0
   have HC236_0 := Aside0.mk hl236_0
   clear hi236_0 hl236_0
   replace p236 := eq_true p236
   replace q236 := eq_true q236
   have ea_ := Option.some.inj (hx235_0.symm.trans hx236_0)
   injection ea_ with ea_ en_ ec_
   subst ea_
   subst ec_
   clear en_
   go_wp2_with (first | ((with_reducible refine gate_callee (f := 54) rfl ?_); refine goesL_ (some 41) rfl rfl Try.func54 (by kernel_rfl) rfl #[.slice A235_0 ((rd_T58 l0_2 x6_1).f0).length c235_0, .int .i64 x7_2] rfl ar_ ?_; (with_reducible refine (fencepostref04_line.calls k2 _ _ ((rd_T58 l0_2 x6_1).f0) x7_2 t237 _ ?side1 ?side2 A12.out).mono ?_); (case side1 => exact cd_ (Kd.C_below HR236_0.out HB.out)); (case side2 => exact HC236_0.out); rintro e w17 ⟨rfl, hb⟩; refine ⟨_, rfl, ?_⟩; have n0_ := Aside0.mk (bb_ BK233.out hb); have n1_ := Aside0.mk (below_step (hb_ HB.out) hb); clear BK233; clear HB; have BK233 := n0_; have HB := n1_; clear n0_ n1_; (try clear hb); (try clear hb2); (try clear hk); (try clear hi)))
   go_ret3
   exact ⟨by first | rfl | (simp [errW_none, errW_some] <;> rfl) | (simp [*, errW_none, errW_some] <;> rfl), hb_ HB.out⟩
  rw [if_pos c13] at H
  have c13b0 : (t237 == 0) = true := beq_iff_eq.mpr c13
  have c13b1 : (t237 != 0) = false := bne_eq_false_iff_eq.mpr c13
  clear c13
  have H' := Aside0.mk H
  clear H
  have hcz14_0 : wr.cell? ⟨gb233, 0, none⟩ = some (.string a0_0) := (blk_cell BK233.out 0).trans rfl
  have hcz14_1 : wr.cell? ⟨gb233, 1, none⟩ = some (.slice A0_1 l0_1.length c0_1) := (blk_cell BK233.out 1).trans rfl
  have hcz14_2 : wr.cell? ⟨gb233, 2, none⟩ = some (.slice A0_2 l0_2.length c0_2) := (blk_cell BK233.out 2).trans rfl
  have hcz14_3 : wr.cell? ⟨gb233, 3, none⟩ = some (.bool a0_3) := (blk_cell BK233.out 3).trans rfl
  have hcz14_4 : wr.cell? ⟨gb233, 4, none⟩ = some (.slice A0_4 l0_4.length c0_4) := (blk_cell BK233.out 4).trans rfl
  have hfz14_0 := blk_frozen BK233.out 0
  have hfz14_1 := blk_frozen BK233.out 1
  have hfz14_2 := blk_frozen BK233.out 2
  have hfz14_3 := blk_frozen BK233.out 3
  have hfz14_4 := blk_frozen BK233.out 4
  have p235 : 0 ≤ (x6_1 : Int) := of_decide_eq_true as_
  have q235 : x6_1 < (l0_2.length : Int) := of_decide_eq_true as_
  obtain ⟨ad235, A235_0, c235_0, e235, hx235_0, hl235_0, hi235_0⟩ := at_T58 HR0_2.out x6_1 p235 q235
  cases e235
  replace hx235_0 := cl_ HB.out hx235_0
  have HR235_0 := Aside0.mk hi235_0
  have HC235_0 := Aside0.mk hl235_0
  clear hi235_0 hl235_0
  replace p235 := eq_true p235
  replace q235 := eq_true q235
  have p236 : 0 ≤ (x6_1 : Int) := of_decide_eq_true as_
  have q236 : x6_1 < (l0_2.length : Int) := of_decide_eq_true as_
  obtain ⟨ad236, A236_0, c236_0, e236, hx236_0, hl236_0, hi236_0⟩ := at_T58 HR0_2.out x6_1 p236 q236
  obtain rfl : ad235 = ad236 := (by injection e236)
  replace hx236_0 := cl_ HB.out hx236_0
  have HR236_0 := Aside0.mk hi236_0
  have HC236_0 := Aside0.mk hl236_0
  clear hi236_0 hl236_0
  replace p236 := eq_true p236
  replace q236 := eq_true q236
  have ea_ := Option.some.inj (hx235_0.symm.trans hx236_0)
  injection ea_ with ea_ en_ ec_
  subst ea_
  subst ec_
  clear en_
  go_wp2_with (first | ((with_reducible refine gate_callee (f := 54) rfl ?_); refine goesL_ (some 41) rfl rfl Try.func54 (by kernel_rfl) rfl #[.slice A235_0 ((rd_T58 l0_2 x6_1).f0).length c235_0, .int .i64 x7_2] rfl ar_ ?_; (with_reducible refine (fencepostref04_line.calls k2 _ _ ((rd_T58 l0_2 x6_1).f0) x7_2 t237 _ ?side1 ?side2 A12.out).mono ?_); (case side1 => exact cd_ (Kd.C_below HR236_0.out HB.out)); (case side2 => exact HC236_0.out); rintro e w15 ⟨rfl, hb⟩; refine ⟨_, rfl, ?_⟩; have n0_ := Aside0.mk (bb_ BK233.out hb); have n1_ := Aside0.mk (below_step (hb_ HB.out) hb); clear BK233; clear HB; have BK233 := n0_; have HB := n1_; clear n0_ n1_; (try clear hb); (try clear hb2); (try clear hk); (try clear hi)))
  go_roundg k2
  case measure => have := HK1.out; have := HK2.out; omega
  case rel => exact ⟨(wrap64 (x7_2 + 1)), rf_, H', ⟨by have := HK1.out; have := HK2.out; omega⟩, ⟨bd_ BK233.out⟩, ⟨hb_ HB.out⟩⟩
 rw [if_neg c7] at H
 have c7b0 : decide (x6_1 < (l0_2.length : Int)) = false := decide_eq_false c7
 clear c7
 have H' := Aside0.mk H
 clear H
 have hcz19_0 : wr.cell? ⟨gb233, 0, none⟩ = some (.string a0_0) := (blk_cell BK233.out 0).trans rfl
 have hcz19_1 : wr.cell? ⟨gb233, 1, none⟩ = some (.slice A0_1 l0_1.length c0_1) := (blk_cell BK233.out 1).trans rfl
 have hcz19_2 : wr.cell? ⟨gb233, 2, none⟩ = some (.slice A0_2 l0_2.length c0_2) := (blk_cell BK233.out 2).trans rfl
 have hcz19_3 : wr.cell? ⟨gb233, 3, none⟩ = some (.bool a0_3) := (blk_cell BK233.out 3).trans rfl
 have hcz19_4 : wr.cell? ⟨gb233, 4, none⟩ = some (.slice A0_4 l0_4.length c0_4) := (blk_cell BK233.out 4).trans rfl
 have hfz19_0 := blk_frozen BK233.out 0
 have hfz19_1 := blk_frozen BK233.out 1
 have hfz19_2 := blk_frozen BK233.out 2
 have hfz19_3 := blk_frozen BK233.out 3
 have hfz19_4 := blk_frozen BK233.out 4
 go_wp2
 go_loopg [9] k1 (fun kq v9 w' => ∃ (x9_2 : Int), v9 = .int .i64 x9_2 ∧ Aside0 (fencepostref04_Check.l2 kq x9_2 a0_0 l0_1 l0_2 a0_3 l0_4 = some (r1, r2, r3)) ∧ Aside0 (kq ≤ k1) ∧ Aside0 (w'.heap[gb233]? = some (.cells #[.string a0_0, (.slice A0_1 l0_1.length c0_1), (.slice A0_2 l0_2.length c0_2), .bool a0_3, (.slice A0_4 l0_4.length c0_4)] 30 (0, 0))) ∧ Aside0 (Below w.heap.size w w'))
 case atStart => exact ⟨(0), rf_, H', ⟨Nat.le_refl _⟩, ⟨bd_ BK233.out⟩, ⟨hb_ HB.out⟩⟩
 clear H'
 try clear c3
 try clear c3b0
 try clear c3b1
 try clear c7
 try clear c7b0
 try clear hcz19_0
 try clear hcz19_1
 try clear hcz19_2
 try clear hcz19_3
 try clear hcz19_4
 try clear hcz5_0
 try clear hcz5_1
 try clear hcz5_2
 try clear hcz5_3
 try clear hcz5_4
 try clear hfz19_0
 try clear hfz19_1
 try clear hfz19_2
 try clear hfz19_3
 try clear hfz19_4
 try clear hfz5_0
 try clear hfz5_1
 try clear hfz5_2
 try clear hfz5_3
 try clear hfz5_4
 obtain ⟨x9_2, rfl, HA, HK2, BK233, HB⟩ := hrel
 cases gk with
 | zero => exact absurd HA.out (by simp [fencepostref04_Check.l2])
 | succ k2 => ?_
 have H := HA.out
 clear HA
 simp only [fencepostref04_Check.l2] at H
 by_cases c20 : x9_2 < (l0_4.length : Int)
 rotate_left
 ·rw [if_neg c20] at H
  have c20b0 : decide (x9_2 < (l0_4.length : Int)) = false := decide_eq_false c20
  clear c20
  replace H := Option.bind_eq_some_iff.mp H
  obtain ⟨t238, A510, H⟩ := H
  replace H : (if (t238.length : Int) > 4 then (some ((-1), (-1), 5)) else (some (0, 0, 0))) = some (r1, r2, r3) := H
  have A51 := Aside0.mk A510
  clear A510
  by_cases c52 : (t238.length : Int) > 4
  ·rw [if_pos c52] at H
   have c52b0 : decide (4 < (t238.length : Int)) = true := decide_eq_true c52
   have c52b1 : decide (4 < t238.length) = true := decide_eq_true (by omega)
   clear c52
   simp only [Option.some.injEq, Prod.mk.injEq] at H
   obtain ⟨rfl, rfl, rfl⟩ := H
   have hcz53_0 : wr.cell? ⟨gb233, 0, none⟩ = some (.string a0_0) := (blk_cell BK233.out 0).trans rfl
   have hcz53_1 : wr.cell? ⟨gb233, 1, none⟩ = some (.slice A0_1 l0_1.length c0_1) := (blk_cell BK233.out 1).trans rfl
   have hcz53_2 : wr.cell? ⟨gb233, 2, none⟩ = some (.slice A0_2 l0_2.length c0_2) := (blk_cell BK233.out 2).trans rfl
   have hcz53_3 : wr.cell? ⟨gb233, 3, none⟩ = some (.bool a0_3) := (blk_cell BK233.out 3).trans rfl
   have hcz53_4 : wr.cell? ⟨gb233, 4, none⟩ = some (.slice A0_4 l0_4.length c0_4) := (blk_cell BK233.out 4).trans rfl
   have hfz53_0 := blk_frozen BK233.out 0
   have hfz53_1 := blk_frozen BK233.out 1
   have hfz53_2 := blk_frozen BK233.out 2
   have hfz53_3 := blk_frozen BK233.out 3
   have hfz53_4 := blk_frozen BK233.out 4
   go_wp2_with (first | ((with_reducible refine gate_callee (f := 56) rfl ?_); refine goesL_ (some 83) rfl rfl Try.func56 (by kernel_rfl) rfl #[.agg #[.string a0_0, .slice A0_1 l0_1.length c0_1, .slice A0_2 l0_2.length c0_2, .bool a0_3, .slice A0_4 l0_4.length c0_4]] rfl ar_ ?_; (with_reducible refine (fencepostref04_locs.calls k2 a0_0 _ _ l0_1 _ _ l0_2 a0_3 _ _ l0_4 t238 _ ?side1 ?side2 ?side3 ?side4 ?side5 ?side6 A51.out).mono ?_); (case side1 => exact cd_ (Kd.C_below HR0_1.out HB.out)); (case side2 => exact HC0_1.out); (case side3 => exact cd_ (Kd.C_below HR0_2.out HB.out)); (case side4 => exact HC0_2.out); (case side5 => exact cd_ (Kd.C_below HR0_4.out HB.out)); (case side6 => exact HC0_4.out); rintro e w54 ⟨v239, rfl, ho0, hb⟩; refine ⟨_, rfl, ?_⟩; have n0_ := Aside0.mk (Kd.R_lower ho0 (below_size (hb_ HB.out))); have n1_ := Aside0.mk (bb_ BK233.out hb); have n2_ := Aside0.mk (below_step (hb_ HB.out) hb); clear BK233; clear HB; have HO240 := n0_; have BK233 := n1_; have HB := n2_; clear n0_ n1_ n2_; (try clear hb); (try clear hb2); (try clear hk); (try clear hi); (try clear ho0); obtain ⟨Ao55, co55, eo55⟩ := Kd.R_slice HO240.out; subst eo55))
   go_ret3
   exact ⟨by first | rfl | (simp [errW_none, errW_some] <;> rfl) | (simp [*, errW_none, errW_some] <;> rfl), hb_ HB.out⟩
  rw [if_neg c52] at H
  have c52b0 : decide (4 < (t238.length : Int)) = false := decide_eq_false c52
  have c52b1 : decide (4 < t238.length) = false := decide_eq_false (by omega)
  clear c52
  simp only [Option.some.injEq, Prod.mk.injEq] at H
  obtain ⟨rfl, rfl, rfl⟩ := H
  have hcz56_0 : wr.cell? ⟨gb233, 0, none⟩ = some (.string a0_0) := (blk_cell BK233.out 0).trans rfl
  have hcz56_1 : wr.cell? ⟨gb233, 1, none⟩ = some (.slice A0_1 l0_1.length c0_1) := (blk_cell BK233.out 1).trans rfl
  have hcz56_2 : wr.cell? ⟨gb233, 2, none⟩ = some (.slice A0_2 l0_2.length c0_2) := (blk_cell BK233.out 2).trans rfl
  have hcz56_3 : wr.cell? ⟨gb233, 3, none⟩ = some (.bool a0_3) := (blk_cell BK233.out 3).trans rfl
  have hcz56_4 : wr.cell? ⟨gb233, 4, none⟩ = some (.slice A0_4 l0_4.length c0_4) := (blk_cell BK233.out 4).trans rfl
  have hfz56_0 := blk_frozen BK233.out 0
  have hfz56_1 := blk_frozen BK233.out 1
  have hfz56_2 := blk_frozen BK233.out 2
  have hfz56_3 := blk_frozen BK233.out 3
  have hfz56_4 := blk_frozen BK233.out 4
  go_wp2_with (first | ((with_reducible refine gate_callee (f := 56) rfl ?_); refine goesL_ (some 83) rfl rfl Try.func56 (by kernel_rfl) rfl #[.agg #[.string a0_0, .slice A0_1 l0_1.length c0_1, .slice A0_2 l0_2.length c0_2, .bool a0_3, .slice A0_4 l0_4.length c0_4]] rfl ar_ ?_; (with_reducible refine (fencepostref04_locs.calls k2 a0_0 _ _ l0_1 _ _ l0_2 a0_3 _ _ l0_4 t238 _ ?side1 ?side2 ?side3 ?side4 ?side5 ?side6 A51.out).mono ?_); (case side1 => exact cd_ (Kd.C_below HR0_1.out HB.out)); (case side2 => exact HC0_1.out); (case side3 => exact cd_ (Kd.C_below HR0_2.out HB.out)); (case side4 => exact HC0_2.out); (case side5 => exact cd_ (Kd.C_below HR0_4.out HB.out)); (case side6 => exact HC0_4.out); rintro e w57 ⟨v239, rfl, ho0, hb⟩; refine ⟨_, rfl, ?_⟩; have n0_ := Aside0.mk (Kd.R_lower ho0 (below_size (hb_ HB.out))); have n1_ := Aside0.mk (bb_ BK233.out hb); have n2_ := Aside0.mk (below_step (hb_ HB.out) hb); clear BK233; clear HB; have HO240 := n0_; have BK233 := n1_; have HB := n2_; clear n0_ n1_ n2_; (try clear hb); (try clear hb2); (try clear hk); (try clear hi); (try clear ho0); obtain ⟨Ao58, co58, eo58⟩ := Kd.R_slice HO240.out; subst eo58))
  go_ret3
  exact ⟨by first | rfl | (simp [errW_none, errW_some] <;> rfl) | (simp [*, errW_none, errW_some] <;> rfl), hb_ HB.out⟩
 rw [if_pos c20] at H
 have c20b0 : decide (x9_2 < (l0_4.length : Int)) = true := decide_eq_true c20
 clear c20
 by_cases c21 : 0 ≤ x9_2
 rotate_left
 ·rw [if_neg c21] at H
  exact absurd H (by simp)
 rw [if_pos c21] at H
 have c21b0 : decide (0 ≤ x9_2) = true := decide_eq_true c21
 clear c21
 by_cases c22 : x9_2 ≥ 6
 ·rw [if_pos c22] at H
  have c22b0 : decide (6 ≤ x9_2) = true := decide_eq_true c22
  clear c22
  simp only [Option.some.injEq, Prod.mk.injEq] at H
  obtain ⟨rfl, rfl, rfl⟩ := H
  have hcz23_0 : wr.cell? ⟨gb233, 0, none⟩ = some (.string a0_0) := (blk_cell BK233.out 0).trans rfl
  have hcz23_1 : wr.cell? ⟨gb233, 1, none⟩ = some (.slice A0_1 l0_1.length c0_1) := (blk_cell BK233.out 1).trans rfl
  have hcz23_2 : wr.cell? ⟨gb233, 2, none⟩ = some (.slice A0_2 l0_2.length c0_2) := (blk_cell BK233.out 2).trans rfl
  have hcz23_3 : wr.cell? ⟨gb233, 3, none⟩ = some (.bool a0_3) := (blk_cell BK233.out 3).trans rfl
  have hcz23_4 : wr.cell? ⟨gb233, 4, none⟩ = some (.slice A0_4 l0_4.length c0_4) := (blk_cell BK233.out 4).trans rfl
  have hfz23_0 := blk_frozen BK233.out 0
  have hfz23_1 := blk_frozen BK233.out 1
  have hfz23_2 := blk_frozen BK233.out 2
  have hfz23_3 := blk_frozen BK233.out 3
  have hfz23_4 := blk_frozen BK233.out 4
  have p241 : 0 ≤ (x9_2 : Int) := of_decide_eq_true as_
  have q241 : x9_2 < (l0_4.length : Int) := of_decide_eq_true as_
  obtain ⟨ad241, e241, hx241_0, hx241_1, hx241_2⟩ := at_T64 HR0_4.out x9_2 p241 q241
  cases e241
  replace hx241_0 := cl_ HB.out hx241_0
  replace hx241_1 := cl_ HB.out hx241_1
  replace hx241_2 := cl_ HB.out hx241_2
  replace p241 := eq_true p241
  replace q241 := eq_true q241
  go_wp2_with (first | ((with_reducible refine gate_dst (N := 10) rfl ?_); refine box_event ?hg (N := 10) ?hd (cs := #[.int .i64 0, .string (⟨#[]⟩ : ByteArray), .int .i64 0]) (t := 64) ?hr ?_; (case hd => rfl); (case hg => rfl); (case hr => first | (go_simp; done) | (go_simp; rfl)); intro gb242 hg w24 hbox hb; have n0_ := Aside0.mk (bb_ BK233.out hb); have n1_ := Aside0.mk (below_step (hb_ HB.out) hb); have n2_ := Aside0.mk (hbox); have n3_ := Aside0.mk (gs_ hg (hb_ HB.out)); have n4_ := Aside0.mk (gs_ hg (hb_ HB.out)); have n5_ := Aside0.mk (gn_ hg BK233.out); have n6_ := Aside0.mk (gn_ hg BK233.out).symm; clear BK233; clear HB; have BK233 := n0_; have HB := n1_; have BK242 := n2_; have GW242 := n3_; have GE242 := n4_; have NB233_242 := n5_; have NB242_233 := n6_; clear n0_ n1_ n2_ n3_ n4_ n5_ n6_; clear hb hbox hg; have hnb25 := NB242_233.out; have hnc25 := NB233_242.out; have hcz26_0 : w24.cell? ⟨gb242, 0, none⟩ = some (.int .i64 0) := (blk_cell BK242.out 0).trans rfl; have hcz26_1 : w24.cell? ⟨gb242, 1, none⟩ = some (.string (⟨#[]⟩ : ByteArray)) := (blk_cell BK242.out 1).trans rfl; have hcz26_2 : w24.cell? ⟨gb242, 2, none⟩ = some (.int .i64 0) := (blk_cell BK242.out 2).trans rfl; have hfz26_0 := blk_frozen BK242.out 0; have hfz26_1 := blk_frozen BK242.out 1; have hfz26_2 := blk_frozen BK242.out 2; have hcz27_0 : w24.cell? ⟨gb233, 0, none⟩ = some (.string a0_0) := (blk_cell BK233.out 0).trans rfl; have hcz27_1 : w24.cell? ⟨gb233, 1, none⟩ = some (.slice A0_1 l0_1.length c0_1) := (blk_cell BK233.out 1).trans rfl; have hcz27_2 : w24.cell? ⟨gb233, 2, none⟩ = some (.slice A0_2 l0_2.length c0_2) := (blk_cell BK233.out 2).trans rfl; have hcz27_3 : w24.cell? ⟨gb233, 3, none⟩ = some (.bool a0_3) := (blk_cell BK233.out 3).trans rfl; have hcz27_4 : w24.cell? ⟨gb233, 4, none⟩ = some (.slice (some ad241) l0_4.length c0_4) := (blk_cell BK233.out 4).trans rfl; have hfz27_0 := blk_frozen BK233.out 0; have hfz27_1 := blk_frozen BK233.out 1; have hfz27_2 := blk_frozen BK233.out 2; have hfz27_3 := blk_frozen BK233.out 3; have hfz27_4 := blk_frozen BK233.out 4))
  go_ret3
  exact ⟨by first | rfl | (simp [errW_none, errW_some] <;> rfl) | (simp [*, errW_none, errW_some] <;> rfl), hb_ HB.out⟩
 rw [if_neg c22] at H
 have c22b0 : decide (6 ≤ x9_2) = false := decide_eq_false c22
 clear c22
 replace H := Option.bind_eq_some_iff.mp H
 obtain ⟨t243, A280, H⟩ := H
 replace H : (if t243 = true then (if ((rd_T64 l0_4 x9_2).f0) ≥ (l0_2.length : Int) then (some ((l0_2.length : Int), x9_2, 22)) else (fencepostref04_Check.l2 k2 (wrap64 (x9_2 + 1)) a0_0 l0_1 l0_2 a0_3 l0_4)) else (some ((l0_2.length : Int), x9_2, 1))) = some (r1, r2, r3) := H
 have A28 := Aside0.mk A280
 clear A280
 by_cases c29 : t243 = true
 rotate_left
 ·replace c29 := Bool.eq_false_iff.mpr c29
  subst c29
  have H1 : (some ((l0_2.length : Int), x9_2, 1)) = some (r1, r2, r3) := by rw [if_neg (show ¬ (false = true) by decide)] at H; exact H
  clear H
  have H := H1
  clear H1
  simp only [Option.some.injEq, Prod.mk.injEq] at H
  obtain ⟨rfl, rfl, rfl⟩ := H
  have hcz45_0 : wr.cell? ⟨gb233, 0, none⟩ = some (.string a0_0) := (blk_cell BK233.out 0).trans rfl
  have hcz45_1 : wr.cell? ⟨gb233, 1, none⟩ = some (.slice A0_1 l0_1.length c0_1) := (blk_cell BK233.out 1).trans rfl
  have hcz45_2 : wr.cell? ⟨gb233, 2, none⟩ = some (.slice A0_2 l0_2.length c0_2) := (blk_cell BK233.out 2).trans rfl
  have hcz45_3 : wr.cell? ⟨gb233, 3, none⟩ = some (.bool a0_3) := (blk_cell BK233.out 3).trans rfl
  have hcz45_4 : wr.cell? ⟨gb233, 4, none⟩ = some (.slice A0_4 l0_4.length c0_4) := (blk_cell BK233.out 4).trans rfl
  have hfz45_0 := blk_frozen BK233.out 0
  have hfz45_1 := blk_frozen BK233.out 1
  have hfz45_2 := blk_frozen BK233.out 2
  have hfz45_3 := blk_frozen BK233.out 3
  have hfz45_4 := blk_frozen BK233.out 4
  have p241 : 0 ≤ (x9_2 : Int) := of_decide_eq_true as_
  have q241 : x9_2 < (l0_4.length : Int) := of_decide_eq_true as_
  obtain ⟨ad241, e241, hx241_0, hx241_1, hx241_2⟩ := at_T64 HR0_4.out x9_2 p241 q241
  cases e241
  replace hx241_0 := cl_ HB.out hx241_0
  replace hx241_1 := cl_ HB.out hx241_1
  replace hx241_2 := cl_ HB.out hx241_2
  replace p241 := eq_true p241
  replace q241 := eq_true q241
  go_wp2_with (first | ((with_reducible refine gate_dst (N := 10) rfl ?_); refine box_event ?hg (N := 10) ?hd (cs := #[.int .i64 0, .string (⟨#[]⟩ : ByteArray), .int .i64 0]) (t := 64) ?hr ?_; (case hd => rfl); (case hg => rfl); (case hr => first | (go_simp; done) | (go_simp; rfl)); intro gb242 hg w46 hbox hb; have n0_ := Aside0.mk (bb_ BK233.out hb); have n1_ := Aside0.mk (below_step (hb_ HB.out) hb); have n2_ := Aside0.mk (hbox); have n3_ := Aside0.mk (gs_ hg (hb_ HB.out)); have n4_ := Aside0.mk (gs_ hg (hb_ HB.out)); have n5_ := Aside0.mk (gn_ hg BK233.out); have n6_ := Aside0.mk (gn_ hg BK233.out).symm; clear BK233; clear HB; have BK233 := n0_; have HB := n1_; have BK242 := n2_; have GW242 := n3_; have GE242 := n4_; have NB233_242 := n5_; have NB242_233 := n6_; clear n0_ n1_ n2_ n3_ n4_ n5_ n6_; clear hb hbox hg; have hnb47 := NB242_233.out; have hnc47 := NB233_242.out; have hcz48_0 : w46.cell? ⟨gb242, 0, none⟩ = some (.int .i64 0) := (blk_cell BK242.out 0).trans rfl; have hcz48_1 : w46.cell? ⟨gb242, 1, none⟩ = some (.string (⟨#[]⟩ : ByteArray)) := (blk_cell BK242.out 1).trans rfl; have hcz48_2 : w46.cell? ⟨gb242, 2, none⟩ = some (.int .i64 0) := (blk_cell BK242.out 2).trans rfl; have hfz48_0 := blk_frozen BK242.out 0; have hfz48_1 := blk_frozen BK242.out 1; have hfz48_2 := blk_frozen BK242.out 2) | ((with_reducible refine gate_callee (f := 55) rfl ?_); refine goesL_ (some 66) rfl rfl Try.func55 (by kernel_rfl) rfl #[.agg #[.int .i64 ((rd_T64 l0_4 x9_2).f0), .string ((rd_T64 l0_4 x9_2).f1), .int .i64 ((rd_T64 l0_4 x9_2).f2)]] rfl ar_ ?_; (with_reducible refine (fencepostref03_Asked.calls k2 ((rd_T64 l0_4 x9_2).f0) ((rd_T64 l0_4 x9_2).f1) ((rd_T64 l0_4 x9_2).f2) false _ A28.out).mono ?_); rintro e w49 ⟨rfl, hb⟩; refine ⟨_, rfl, ?_⟩; have n0_ := Aside0.mk (blk_below (g := gb233) (o := .cells #[.string a0_0, .slice A0_1 l0_1.length c0_1, .slice A0_2 l0_2.length c0_2, .bool a0_3, .slice (some ad241) l0_4.length c0_4] 30 (0, 0)) (by (with_reducible repeat (first | refine blk_drewN ?_ _ | refine blk_drew ?_ | refine blk_alloc ?_ _)); refine blk_far ?_ NB233_242.out _; (with_reducible repeat (first | refine blk_drewN ?_ _ | refine blk_drew ?_ | refine blk_alloc ?_ _)); refine blk_far ?_ NB233_242.out _; (with_reducible repeat (first | refine blk_drewN ?_ _ | refine blk_drew ?_ | refine blk_alloc ?_ _)); refine blk_far ?_ NB233_242.out _; (with_reducible repeat (first | refine blk_drewN ?_ _ | refine blk_drew ?_ | refine blk_alloc ?_ _)); exact BK233.out) hb); have n1_ := Aside0.mk (blk_below (g := gb242) (o := .cells #[.int .i64 ((rd_T64 l0_4 x9_2).f0), .string ((rd_T64 l0_4 x9_2).f1), .int .i64 ((rd_T64 l0_4 x9_2).f2)] 64 (0, 0)) (by (with_reducible repeat (first | refine blk_drewN ?_ _ | refine blk_drew ?_ | refine blk_alloc ?_ _)); refine blk_put (cs := #[.int .i64 ((rd_T64 l0_4 x9_2).f0), .string ((rd_T64 l0_4 x9_2).f1), .int .i64 0]) ?_ 2 _ rfl; (with_reducible repeat (first | refine blk_drewN ?_ _ | refine blk_drew ?_ | refine blk_alloc ?_ _)); refine blk_put (cs := #[.int .i64 ((rd_T64 l0_4 x9_2).f0), .string (⟨#[]⟩ : ByteArray), .int .i64 0]) ?_ 1 _ rfl; (with_reducible repeat (first | refine blk_drewN ?_ _ | refine blk_drew ?_ | refine blk_alloc ?_ _)); refine blk_put (cs := #[.int .i64 0, .string (⟨#[]⟩ : ByteArray), .int .i64 0]) ?_ 0 _ rfl; (with_reducible repeat (first | refine blk_drewN ?_ _ | refine blk_drew ?_ | refine blk_alloc ?_ _)); exact BK242.out) hb); have n2_ := Aside0.mk (below_step (hb_ HB.out) hb); clear BK233; clear BK242; clear HB; have BK233 := n0_; have BK242 := n1_; have HB := n2_; clear n0_ n1_ n2_; (try clear hb); (try clear hb2); (try clear hk); (try clear hi); have hcz50_0 : w49.cell? ⟨gb233, 0, none⟩ = some (.string a0_0) := (blk_cell BK233.out 0).trans rfl; have hcz50_1 : w49.cell? ⟨gb233, 1, none⟩ = some (.slice A0_1 l0_1.length c0_1) := (blk_cell BK233.out 1).trans rfl; have hcz50_2 : w49.cell? ⟨gb233, 2, none⟩ = some (.slice A0_2 l0_2.length c0_2) := (blk_cell BK233.out 2).trans rfl; have hcz50_3 : w49.cell? ⟨gb233, 3, none⟩ = some (.bool a0_3) := (blk_cell BK233.out 3).trans rfl; have hcz50_4 : w49.cell? ⟨gb233, 4, none⟩ = some (.slice (some ad241) l0_4.length c0_4) := (blk_cell BK233.out 4).trans rfl; have hfz50_0 := blk_frozen BK233.out 0; have hfz50_1 := blk_frozen BK233.out 1; have hfz50_2 := blk_frozen BK233.out 2; have hfz50_3 := blk_frozen BK233.out 3; have hfz50_4 := blk_frozen BK233.out 4))
  go_ret3
  exact ⟨by first | rfl | (simp [errW_none, errW_some] <;> rfl) | (simp [*, errW_none, errW_some] <;> rfl), hb_ HB.out⟩
 subst c29
 have H1 : (if ((rd_T64 l0_4 x9_2).f0) ≥ (l0_2.length : Int) then (some ((l0_2.length : Int), x9_2, 22)) else (fencepostref04_Check.l2 k2 (wrap64 (x9_2 + 1)) a0_0 l0_1 l0_2 a0_3 l0_4)) = some (r1, r2, r3) := by rw [if_pos rfl] at H; exact H
 clear H
 have H := H1
 clear H1
 by_cases c30 : ((rd_T64 l0_4 x9_2).f0) ≥ (l0_2.length : Int)
 ·rw [if_pos c30] at H
  have c30b0 : decide ((l0_2.length : Int) ≤ ((rd_T64 l0_4 x9_2).f0)) = true := decide_eq_true c30
  clear c30
  simp only [Option.some.injEq, Prod.mk.injEq] at H
  obtain ⟨rfl, rfl, rfl⟩ := H
  have hcz31_0 : wr.cell? ⟨gb233, 0, none⟩ = some (.string a0_0) := (blk_cell BK233.out 0).trans rfl
  have hcz31_1 : wr.cell? ⟨gb233, 1, none⟩ = some (.slice A0_1 l0_1.length c0_1) := (blk_cell BK233.out 1).trans rfl
  have hcz31_2 : wr.cell? ⟨gb233, 2, none⟩ = some (.slice A0_2 l0_2.length c0_2) := (blk_cell BK233.out 2).trans rfl
  have hcz31_3 : wr.cell? ⟨gb233, 3, none⟩ = some (.bool a0_3) := (blk_cell BK233.out 3).trans rfl
  have hcz31_4 : wr.cell? ⟨gb233, 4, none⟩ = some (.slice A0_4 l0_4.length c0_4) := (blk_cell BK233.out 4).trans rfl
  have hfz31_0 := blk_frozen BK233.out 0
  have hfz31_1 := blk_frozen BK233.out 1
  have hfz31_2 := blk_frozen BK233.out 2
  have hfz31_3 := blk_frozen BK233.out 3
  have hfz31_4 := blk_frozen BK233.out 4
  have p241 : 0 ≤ (x9_2 : Int) := of_decide_eq_true as_
  have q241 : x9_2 < (l0_4.length : Int) := of_decide_eq_true as_
  obtain ⟨ad241, e241, hx241_0, hx241_1, hx241_2⟩ := at_T64 HR0_4.out x9_2 p241 q241
  cases e241
  replace hx241_0 := cl_ HB.out hx241_0
  replace hx241_1 := cl_ HB.out hx241_1
  replace hx241_2 := cl_ HB.out hx241_2
  replace p241 := eq_true p241
  replace q241 := eq_true q241
  go_wp2_with (first | ((with_reducible refine gate_dst (N := 10) rfl ?_); refine box_event ?hg (N := 10) ?hd (cs := #[.int .i64 0, .string (⟨#[]⟩ : ByteArray), .int .i64 0]) (t := 64) ?hr ?_; (case hd => rfl); (case hg => rfl); (case hr => first | (go_simp; done) | (go_simp; rfl)); intro gb242 hg w32 hbox hb; have n0_ := Aside0.mk (bb_ BK233.out hb); have n1_ := Aside0.mk (below_step (hb_ HB.out) hb); have n2_ := Aside0.mk (hbox); have n3_ := Aside0.mk (gs_ hg (hb_ HB.out)); have n4_ := Aside0.mk (gs_ hg (hb_ HB.out)); have n5_ := Aside0.mk (gn_ hg BK233.out); have n6_ := Aside0.mk (gn_ hg BK233.out).symm; clear BK233; clear HB; have BK233 := n0_; have HB := n1_; have BK242 := n2_; have GW242 := n3_; have GE242 := n4_; have NB233_242 := n5_; have NB242_233 := n6_; clear n0_ n1_ n2_ n3_ n4_ n5_ n6_; clear hb hbox hg; have hnb33 := NB242_233.out; have hnc33 := NB233_242.out; have hcz34_0 : w32.cell? ⟨gb242, 0, none⟩ = some (.int .i64 0) := (blk_cell BK242.out 0).trans rfl; have hcz34_1 : w32.cell? ⟨gb242, 1, none⟩ = some (.string (⟨#[]⟩ : ByteArray)) := (blk_cell BK242.out 1).trans rfl; have hcz34_2 : w32.cell? ⟨gb242, 2, none⟩ = some (.int .i64 0) := (blk_cell BK242.out 2).trans rfl; have hfz34_0 := blk_frozen BK242.out 0; have hfz34_1 := blk_frozen BK242.out 1; have hfz34_2 := blk_frozen BK242.out 2) | ((with_reducible refine gate_callee (f := 55) rfl ?_); refine goesL_ (some 66) rfl rfl Try.func55 (by kernel_rfl) rfl #[.agg #[.int .i64 ((rd_T64 l0_4 x9_2).f0), .string ((rd_T64 l0_4 x9_2).f1), .int .i64 ((rd_T64 l0_4 x9_2).f2)]] rfl ar_ ?_; (with_reducible refine (fencepostref03_Asked.calls k2 ((rd_T64 l0_4 x9_2).f0) ((rd_T64 l0_4 x9_2).f1) ((rd_T64 l0_4 x9_2).f2) true _ A28.out).mono ?_); rintro e w35 ⟨rfl, hb⟩; refine ⟨_, rfl, ?_⟩; have n0_ := Aside0.mk (blk_below (g := gb233) (o := .cells #[.string a0_0, .slice A0_1 l0_1.length c0_1, .slice A0_2 l0_2.length c0_2, .bool a0_3, .slice (some ad241) l0_4.length c0_4] 30 (0, 0)) (by (with_reducible repeat (first | refine blk_drewN ?_ _ | refine blk_drew ?_ | refine blk_alloc ?_ _)); refine blk_far ?_ NB233_242.out _; (with_reducible repeat (first | refine blk_drewN ?_ _ | refine blk_drew ?_ | refine blk_alloc ?_ _)); refine blk_far ?_ NB233_242.out _; (with_reducible repeat (first | refine blk_drewN ?_ _ | refine blk_drew ?_ | refine blk_alloc ?_ _)); refine blk_far ?_ NB233_242.out _; (with_reducible repeat (first | refine blk_drewN ?_ _ | refine blk_drew ?_ | refine blk_alloc ?_ _)); exact BK233.out) hb); have n1_ := Aside0.mk (blk_below (g := gb242) (o := .cells #[.int .i64 ((rd_T64 l0_4 x9_2).f0), .string ((rd_T64 l0_4 x9_2).f1), .int .i64 ((rd_T64 l0_4 x9_2).f2)] 64 (0, 0)) (by (with_reducible repeat (first | refine blk_drewN ?_ _ | refine blk_drew ?_ | refine blk_alloc ?_ _)); refine blk_put (cs := #[.int .i64 ((rd_T64 l0_4 x9_2).f0), .string ((rd_T64 l0_4 x9_2).f1), .int .i64 0]) ?_ 2 _ rfl; (with_reducible repeat (first | refine blk_drewN ?_ _ | refine blk_drew ?_ | refine blk_alloc ?_ _)); refine blk_put (cs := #[.int .i64 ((rd_T64 l0_4 x9_2).f0), .string (⟨#[]⟩ : ByteArray), .int .i64 0]) ?_ 1 _ rfl; (with_reducible repeat (first | refine blk_drewN ?_ _ | refine blk_drew ?_ | refine blk_alloc ?_ _)); refine blk_put (cs := #[.int .i64 0, .string (⟨#[]⟩ : ByteArray), .int .i64 0]) ?_ 0 _ rfl; (with_reducible repeat (first | refine blk_drewN ?_ _ | refine blk_drew ?_ | refine blk_alloc ?_ _)); exact BK242.out) hb); have n2_ := Aside0.mk (below_step (hb_ HB.out) hb); clear BK233; clear BK242; clear HB; have BK233 := n0_; have BK242 := n1_; have HB := n2_; clear n0_ n1_ n2_; (try clear hb); (try clear hb2); (try clear hk); (try clear hi); have hcz36_0 : w35.cell? ⟨gb242, 0, none⟩ = some (.int .i64 ((rd_T64 l0_4 x9_2).f0)) := (blk_cell BK242.out 0).trans rfl; have hcz36_1 : w35.cell? ⟨gb242, 1, none⟩ = some (.string ((rd_T64 l0_4 x9_2).f1)) := (blk_cell BK242.out 1).trans rfl; have hcz36_2 : w35.cell? ⟨gb242, 2, none⟩ = some (.int .i64 ((rd_T64 l0_4 x9_2).f2)) := (blk_cell BK242.out 2).trans rfl; have hfz36_0 := blk_frozen BK242.out 0; have hfz36_1 := blk_frozen BK242.out 1; have hfz36_2 := blk_frozen BK242.out 2; have hcz37_0 : w35.cell? ⟨gb233, 0, none⟩ = some (.string a0_0) := (blk_cell BK233.out 0).trans rfl; have hcz37_1 : w35.cell? ⟨gb233, 1, none⟩ = some (.slice A0_1 l0_1.length c0_1) := (blk_cell BK233.out 1).trans rfl; have hcz37_2 : w35.cell? ⟨gb233, 2, none⟩ = some (.slice A0_2 l0_2.length c0_2) := (blk_cell BK233.out 2).trans rfl; have hcz37_3 : w35.cell? ⟨gb233, 3, none⟩ = some (.bool a0_3) := (blk_cell BK233.out 3).trans rfl; have hcz37_4 : w35.cell? ⟨gb233, 4, none⟩ = some (.slice (some ad241) l0_4.length c0_4) := (blk_cell BK233.out 4).trans rfl; have hfz37_0 := blk_frozen BK233.out 0; have hfz37_1 := blk_frozen BK233.out 1; have hfz37_2 := blk_frozen BK233.out 2; have hfz37_3 := blk_frozen BK233.out 3; have hfz37_4 := blk_frozen BK233.out 4))
  go_ret3
  exact ⟨by first | rfl | (simp [errW_none, errW_some] <;> rfl) | (simp [*, errW_none, errW_some] <;> rfl), hb_ HB.out⟩
 rw [if_neg c30] at H
 have c30b0 : decide ((l0_2.length : Int) ≤ ((rd_T64 l0_4 x9_2).f0)) = false := decide_eq_false c30
 clear c30
 have H' := Aside0.mk H
 clear H
 have hcz38_0 : wr.cell? ⟨gb233, 0, none⟩ = some (.string a0_0) := (blk_cell BK233.out 0).trans rfl
 have hcz38_1 : wr.cell? ⟨gb233, 1, none⟩ = some (.slice A0_1 l0_1.length c0_1) := (blk_cell BK233.out 1).trans rfl
 have hcz38_2 : wr.cell? ⟨gb233, 2, none⟩ = some (.slice A0_2 l0_2.length c0_2) := (blk_cell BK233.out 2).trans rfl
 have hcz38_3 : wr.cell? ⟨gb233, 3, none⟩ = some (.bool a0_3) := (blk_cell BK233.out 3).trans rfl
 have hcz38_4 : wr.cell? ⟨gb233, 4, none⟩ = some (.slice A0_4 l0_4.length c0_4) := (blk_cell BK233.out 4).trans rfl
 have hfz38_0 := blk_frozen BK233.out 0
 have hfz38_1 := blk_frozen BK233.out 1
 have hfz38_2 := blk_frozen BK233.out 2
 have hfz38_3 := blk_frozen BK233.out 3
 have hfz38_4 := blk_frozen BK233.out 4
 have p241 : 0 ≤ (x9_2 : Int) := of_decide_eq_true as_
 have q241 : x9_2 < (l0_4.length : Int) := of_decide_eq_true as_
 obtain ⟨ad241, e241, hx241_0, hx241_1, hx241_2⟩ := at_T64 HR0_4.out x9_2 p241 q241
 cases e241
 replace hx241_0 := cl_ HB.out hx241_0
 replace hx241_1 := cl_ HB.out hx241_1
 replace hx241_2 := cl_ HB.out hx241_2
 replace p241 := eq_true p241
 replace q241 := eq_true q241
 go_wp2_with (first | ((with_reducible refine gate_dst (N := 10) rfl ?_); refine box_event ?hg (N := 10) ?hd (cs := #[.int .i64 0, .string (⟨#[]⟩ : ByteArray), .int .i64 0]) (t := 64) ?hr ?_; (case hd => rfl); (case hg => rfl); (case hr => first | (go_simp; done) | (go_simp; rfl)); intro gb242 hg w39 hbox hb; have n0_ := Aside0.mk (bb_ BK233.out hb); have n1_ := Aside0.mk (below_step (hb_ HB.out) hb); have n2_ := Aside0.mk (hbox); have n3_ := Aside0.mk (gs_ hg (hb_ HB.out)); have n4_ := Aside0.mk (gs_ hg (hb_ HB.out)); have n5_ := Aside0.mk (gn_ hg BK233.out); have n6_ := Aside0.mk (gn_ hg BK233.out).symm; clear BK233; clear HB; have BK233 := n0_; have HB := n1_; have BK242 := n2_; have GW242 := n3_; have GE242 := n4_; have NB233_242 := n5_; have NB242_233 := n6_; clear n0_ n1_ n2_ n3_ n4_ n5_ n6_; clear hb hbox hg; have hnb40 := NB242_233.out; have hnc40 := NB233_242.out; have hcz41_0 : w39.cell? ⟨gb242, 0, none⟩ = some (.int .i64 0) := (blk_cell BK242.out 0).trans rfl; have hcz41_1 : w39.cell? ⟨gb242, 1, none⟩ = some (.string (⟨#[]⟩ : ByteArray)) := (blk_cell BK242.out 1).trans rfl; have hcz41_2 : w39.cell? ⟨gb242, 2, none⟩ = some (.int .i64 0) := (blk_cell BK242.out 2).trans rfl; have hfz41_0 := blk_frozen BK242.out 0; have hfz41_1 := blk_frozen BK242.out 1; have hfz41_2 := blk_frozen BK242.out 2) | ((with_reducible refine gate_callee (f := 55) rfl ?_); refine goesL_ (some 66) rfl rfl Try.func55 (by kernel_rfl) rfl #[.agg #[.int .i64 ((rd_T64 l0_4 x9_2).f0), .string ((rd_T64 l0_4 x9_2).f1), .int .i64 ((rd_T64 l0_4 x9_2).f2)]] rfl ar_ ?_; (with_reducible refine (fencepostref03_Asked.calls k2 ((rd_T64 l0_4 x9_2).f0) ((rd_T64 l0_4 x9_2).f1) ((rd_T64 l0_4 x9_2).f2) true _ A28.out).mono ?_); rintro e w42 ⟨rfl, hb⟩; refine ⟨_, rfl, ?_⟩; have n0_ := Aside0.mk (blk_below (g := gb233) (o := .cells #[.string a0_0, .slice A0_1 l0_1.length c0_1, .slice A0_2 l0_2.length c0_2, .bool a0_3, .slice (some ad241) l0_4.length c0_4] 30 (0, 0)) (by (with_reducible repeat (first | refine blk_drewN ?_ _ | refine blk_drew ?_ | refine blk_alloc ?_ _)); refine blk_far ?_ NB233_242.out _; (with_reducible repeat (first | refine blk_drewN ?_ _ | refine blk_drew ?_ | refine blk_alloc ?_ _)); refine blk_far ?_ NB233_242.out _; (with_reducible repeat (first | refine blk_drewN ?_ _ | refine blk_drew ?_ | refine blk_alloc ?_ _)); refine blk_far ?_ NB233_242.out _; (with_reducible repeat (first | refine blk_drewN ?_ _ | refine blk_drew ?_ | refine blk_alloc ?_ _)); exact BK233.out) hb); have n1_ := Aside0.mk (blk_below (g := gb242) (o := .cells #[.int .i64 ((rd_T64 l0_4 x9_2).f0), .string ((rd_T64 l0_4 x9_2).f1), .int .i64 ((rd_T64 l0_4 x9_2).f2)] 64 (0, 0)) (by (with_reducible repeat (first | refine blk_drewN ?_ _ | refine blk_drew ?_ | refine blk_alloc ?_ _)); refine blk_put (cs := #[.int .i64 ((rd_T64 l0_4 x9_2).f0), .string ((rd_T64 l0_4 x9_2).f1), .int .i64 0]) ?_ 2 _ rfl; (with_reducible repeat (first | refine blk_drewN ?_ _ | refine blk_drew ?_ | refine blk_alloc ?_ _)); refine blk_put (cs := #[.int .i64 ((rd_T64 l0_4 x9_2).f0), .string (⟨#[]⟩ : ByteArray), .int .i64 0]) ?_ 1 _ rfl; (with_reducible repeat (first | refine blk_drewN ?_ _ | refine blk_drew ?_ | refine blk_alloc ?_ _)); refine blk_put (cs := #[.int .i64 0, .string (⟨#[]⟩ : ByteArray), .int .i64 0]) ?_ 0 _ rfl; (with_reducible repeat (first | refine blk_drewN ?_ _ | refine blk_drew ?_ | refine blk_alloc ?_ _)); exact BK242.out) hb); have n2_ := Aside0.mk (below_step (hb_ HB.out) hb); clear BK233; clear BK242; clear HB; have BK233 := n0_; have BK242 := n1_; have HB := n2_; clear n0_ n1_ n2_; (try clear hb); (try clear hb2); (try clear hk); (try clear hi); have hcz43_0 : w42.cell? ⟨gb242, 0, none⟩ = some (.int .i64 ((rd_T64 l0_4 x9_2).f0)) := (blk_cell BK242.out 0).trans rfl; have hcz43_1 : w42.cell? ⟨gb242, 1, none⟩ = some (.string ((rd_T64 l0_4 x9_2).f1)) := (blk_cell BK242.out 1).trans rfl; have hcz43_2 : w42.cell? ⟨gb242, 2, none⟩ = some (.int .i64 ((rd_T64 l0_4 x9_2).f2)) := (blk_cell BK242.out 2).trans rfl; have hfz43_0 := blk_frozen BK242.out 0; have hfz43_1 := blk_frozen BK242.out 1; have hfz43_2 := blk_frozen BK242.out 2; have hcz44_0 : w42.cell? ⟨gb233, 0, none⟩ = some (.string a0_0) := (blk_cell BK233.out 0).trans rfl; have hcz44_1 : w42.cell? ⟨gb233, 1, none⟩ = some (.slice A0_1 l0_1.length c0_1) := (blk_cell BK233.out 1).trans rfl; have hcz44_2 : w42.cell? ⟨gb233, 2, none⟩ = some (.slice A0_2 l0_2.length c0_2) := (blk_cell BK233.out 2).trans rfl; have hcz44_3 : w42.cell? ⟨gb233, 3, none⟩ = some (.bool a0_3) := (blk_cell BK233.out 3).trans rfl; have hcz44_4 : w42.cell? ⟨gb233, 4, none⟩ = some (.slice (some ad241) l0_4.length c0_4) := (blk_cell BK233.out 4).trans rfl; have hfz44_0 := blk_frozen BK233.out 0; have hfz44_1 := blk_frozen BK233.out 1; have hfz44_2 := blk_frozen BK233.out 2; have hfz44_3 := blk_frozen BK233.out 3; have hfz44_4 := blk_frozen BK233.out 4))
 go_roundg k2
 case measure => have := HK1.out; have := HK2.out; omega
 case rel => exact ⟨(wrap64 (x9_2 + 1)), rf_, H', ⟨by have := HK1.out; have := HK2.out; omega⟩, ⟨bd_ BK233.out⟩, ⟨hb_ HB.out⟩⟩
def fencepostref04_Right.f (k : Nat) (a0_0 : ByteArray) (l0_1 : List (S62)) (l0_2 : List (S58)) (a0_3 : Bool) (l0_4 : List (S64)) : Option (Bool) := (fencepostref04_Check.f k a0_0 l0_1 l0_2 a0_3 l0_4).bind fun bt245 => (some (bt245.2.2 == 0))
set_option maxHeartbeats 8000000 in
set_option maxRecDepth 100000 in
theorem fencepostref04_Right.calls (k : Nat) (a0_0 : ByteArray) (A0_1 : Option Addr) (c0_1 : Nat) (l0_1 : List (S62)) (A0_2 : Option Addr) (c0_2 : Nat) (l0_2 : List (S58)) (a0_3 : Bool) (A0_4 : Option Addr) (c0_4 : Nat) (l0_4 : List (S64)) (r : Bool) (w : World) (hr0_1 : Kd.C k62 w A0_1 l0_1.length l0_1) (hc0_1 : l0_1.length ≤ c0_1) (hr0_2 : Kd.C k58 w A0_2 l0_2.length l0_2) (hc0_2 : l0_2.length ≤ c0_2) (hr0_4 : Kd.C k64 w A0_4 l0_4.length l0_4) (hc0_4 : l0_4.length ≤ c0_4) (h : fencepostref04_Right.f k a0_0 l0_1 l0_2 a0_3 l0_4 = some r) :
 Calls Try.prog 27 #[.agg #[.string a0_0, .slice A0_1 l0_1.length c0_1, .slice A0_2 l0_2.length c0_2, .bool a0_3, .slice A0_4 l0_4.length c0_4]] w fun e w' => e = .returned (.bool r) ∧ Below w.heap.size w w' := by
 have hu30 := Try.underlying30
 have HR0_1 := Aside0.mk hr0_1
 have HC0_1 := Aside0.mk hc0_1
 clear hr0_1 hc0_1
 have HR0_2 := Aside0.mk hr0_2
 have HC0_2 := Aside0.mk hc0_2
 clear hr0_2 hc0_2
 have HR0_4 := Aside0.mk hr0_4
 have HC0_4 := Aside0.mk hc0_4
 clear hr0_4 hc0_4
 have HB := Aside0.mk (Below.refl w.heap.size w)
 have H : ((fencepostref04_Check.f k a0_0 l0_1 l0_2 a0_3 l0_4).bind fun bt245 => (some (bt245.2.2 == 0))) = some r := h
 clear h
 replace H := Option.bind_eq_some_iff.mp H
 obtain ⟨⟨t245, t246, t247⟩, A20, H⟩ := H
 replace H : (some (t247 == 0)) = some r := H
 have A2 := Aside0.mk A20
 clear A20
 obtain rfl := Option.some.inj H
 go_enter Try.func27, Try.ntmps27
 go_wp2_with (first | ((with_reducible refine gate_dst (N := 1) rfl ?_); refine box_event ?hg (N := 1) ?hd (cs := #[.string a0_0, .slice A0_1 l0_1.length c0_1, .slice A0_2 l0_2.length c0_2, .bool a0_3, .slice A0_4 l0_4.length c0_4]) (t := 30) ?hr ?_; (case hd => rfl); (case hg => rfl); (case hr => first | (go_simp; done) | (go_simp; rfl)); intro gb244 hg w3 hbox hb; have n0_ := Aside0.mk (below_step (hb_ HB.out) hb); have n1_ := Aside0.mk (hbox); have n2_ := Aside0.mk (gs_ hg (hb_ HB.out)); have n3_ := Aside0.mk (gs_ hg (hb_ HB.out)); clear HB; have HB := n0_; have BK244 := n1_; have GW244 := n2_; have GE244 := n3_; clear n0_ n1_ n2_ n3_; clear hb hbox hg; have hcz4_0 : w3.cell? ⟨gb244, 0, none⟩ = some (.string a0_0) := (blk_cell BK244.out 0).trans rfl; have hcz4_1 : w3.cell? ⟨gb244, 1, none⟩ = some (.slice A0_1 l0_1.length c0_1) := (blk_cell BK244.out 1).trans rfl; have hcz4_2 : w3.cell? ⟨gb244, 2, none⟩ = some (.slice A0_2 l0_2.length c0_2) := (blk_cell BK244.out 2).trans rfl; have hcz4_3 : w3.cell? ⟨gb244, 3, none⟩ = some (.bool a0_3) := (blk_cell BK244.out 3).trans rfl; have hcz4_4 : w3.cell? ⟨gb244, 4, none⟩ = some (.slice A0_4 l0_4.length c0_4) := (blk_cell BK244.out 4).trans rfl; have hfz4_0 := blk_frozen BK244.out 0; have hfz4_1 := blk_frozen BK244.out 1; have hfz4_2 := blk_frozen BK244.out 2; have hfz4_3 := blk_frozen BK244.out 3; have hfz4_4 := blk_frozen BK244.out 4) | ((with_reducible refine gate_callee (f := 44) rfl ?_); refine goesL_ (some 8) rfl rfl Try.func44 (by kernel_rfl) rfl #[.agg #[.string a0_0, .slice A0_1 l0_1.length c0_1, .slice A0_2 l0_2.length c0_2, .bool a0_3, .slice A0_4 l0_4.length c0_4]] rfl ar_ ?_; (with_reducible refine (fencepostref04_Check.calls k a0_0 _ _ l0_1 _ _ l0_2 a0_3 _ _ l0_4 t245 t246 t247 _ ?side1 ?side2 ?side3 ?side4 ?side5 ?side6 A2.out).mono ?_); (case side1 => exact cd_ (Kd.C_below HR0_1.out HB.out)); (case side2 => exact HC0_1.out); (case side3 => exact cd_ (Kd.C_below HR0_2.out HB.out)); (case side4 => exact HC0_2.out); (case side5 => exact cd_ (Kd.C_below HR0_4.out HB.out)); (case side6 => exact HC0_4.out); rintro e w5 ⟨rfl, hb⟩; refine ⟨_, rfl, ?_⟩; have n0_ := Aside0.mk (bb_ BK244.out hb); have n1_ := Aside0.mk (below_step (hb_ HB.out) hb); clear BK244; clear HB; have BK244 := n0_; have HB := n1_; clear n0_ n1_; (try clear hb); (try clear hb2); (try clear hk); (try clear hi)))
 go_ret
 exact ⟨by first | rfl | (simp [errW_none, errW_some] <;> rfl) | (simp [*, errW_none, errW_some] <;> rfl), hb_ HB.out⟩
def fencepostref04_Locs.f (k : Nat) (a0_0 : ByteArray) (l0_1 : List (S62)) (l0_2 : List (S58)) (a0_3 : Bool) (l0_4 : List (S64)) : Option (List ByteArray) := (fencepostref04_Right.f k a0_0 l0_1 l0_2 a0_3 l0_4).bind fun t249 => (if t249 = true then ((fencepostref04_locs.f k a0_0 l0_1 l0_2 a0_3 l0_4).bind fun t250 => (some t250)) else (some ([] : List ByteArray)))
set_option maxHeartbeats 8000000 in
set_option maxRecDepth 100000 in
theorem fencepostref04_Locs.calls (k : Nat) (a0_0 : ByteArray) (A0_1 : Option Addr) (c0_1 : Nat) (l0_1 : List (S62)) (A0_2 : Option Addr) (c0_2 : Nat) (l0_2 : List (S58)) (a0_3 : Bool) (A0_4 : Option Addr) (c0_4 : Nat) (l0_4 : List (S64)) (r : List ByteArray) (w : World) (hr0_1 : Kd.C k62 w A0_1 l0_1.length l0_1) (hc0_1 : l0_1.length ≤ c0_1) (hr0_2 : Kd.C k58 w A0_2 l0_2.length l0_2) (hc0_2 : l0_2.length ≤ c0_2) (hr0_4 : Kd.C k64 w A0_4 l0_4.length l0_4) (hc0_4 : l0_4.length ≤ c0_4) (h : fencepostref04_Locs.f k a0_0 l0_1 l0_2 a0_3 l0_4 = some r) :
 Calls Try.prog 45 #[.agg #[.string a0_0, .slice A0_1 l0_1.length c0_1, .slice A0_2 l0_2.length c0_2, .bool a0_3, .slice A0_4 l0_4.length c0_4]] w fun e w' => ∃ v0_ : Value, e = .returned (v0_) ∧ Kd.R Kd.string 9 w' w.heap.size (fun _ => True) v0_ r ∧ Below w.heap.size w w' := by
 have hu30 := Try.underlying30
 have HR0_1 := Aside0.mk hr0_1
 have HC0_1 := Aside0.mk hc0_1
 clear hr0_1 hc0_1
 have HR0_2 := Aside0.mk hr0_2
 have HC0_2 := Aside0.mk hc0_2
 clear hr0_2 hc0_2
 have HR0_4 := Aside0.mk hr0_4
 have HC0_4 := Aside0.mk hc0_4
 clear hr0_4 hc0_4
 have HB := Aside0.mk (Below.refl w.heap.size w)
 have H : ((fencepostref04_Right.f k a0_0 l0_1 l0_2 a0_3 l0_4).bind fun t249 => (if t249 = true then ((fencepostref04_locs.f k a0_0 l0_1 l0_2 a0_3 l0_4).bind fun t250 => (some t250)) else (some ([] : List ByteArray)))) = some r := h
 clear h
 replace H := Option.bind_eq_some_iff.mp H
 obtain ⟨t249, A20, H⟩ := H
 replace H : (if t249 = true then ((fencepostref04_locs.f k a0_0 l0_1 l0_2 a0_3 l0_4).bind fun t250 => (some t250)) else (some ([] : List ByteArray))) = some r := H
 have A2 := Aside0.mk A20
 clear A20
 by_cases c3 : t249 = true
 rotate_left
 ·replace c3 := Bool.eq_false_iff.mpr c3
  subst c3
  have H1 : (some ([] : List ByteArray)) = some r := by rw [if_neg (show ¬ (false = true) by decide)] at H; exact H
  clear H
  have H := H1
  clear H1
  obtain rfl := Option.some.inj H
  go_enter Try.func45, Try.ntmps45
  go_wp2_with (first | ((with_reducible refine gate_dst (N := 1) rfl ?_); refine box_event ?hg (N := 1) ?hd (cs := #[.string a0_0, .slice A0_1 l0_1.length c0_1, .slice A0_2 l0_2.length c0_2, .bool a0_3, .slice A0_4 l0_4.length c0_4]) (t := 30) ?hr ?_; (case hd => rfl); (case hg => rfl); (case hr => first | (go_simp; done) | (go_simp; rfl)); intro gb248 hg w10 hbox hb; have n0_ := Aside0.mk (below_step (hb_ HB.out) hb); have n1_ := Aside0.mk (hbox); have n2_ := Aside0.mk (gs_ hg (hb_ HB.out)); have n3_ := Aside0.mk (gs_ hg (hb_ HB.out)); clear HB; have HB := n0_; have BK248 := n1_; have GW248 := n2_; have GE248 := n3_; clear n0_ n1_ n2_ n3_; clear hb hbox hg; have hcz11_0 : w10.cell? ⟨gb248, 0, none⟩ = some (.string a0_0) := (blk_cell BK248.out 0).trans rfl; have hcz11_1 : w10.cell? ⟨gb248, 1, none⟩ = some (.slice A0_1 l0_1.length c0_1) := (blk_cell BK248.out 1).trans rfl; have hcz11_2 : w10.cell? ⟨gb248, 2, none⟩ = some (.slice A0_2 l0_2.length c0_2) := (blk_cell BK248.out 2).trans rfl; have hcz11_3 : w10.cell? ⟨gb248, 3, none⟩ = some (.bool a0_3) := (blk_cell BK248.out 3).trans rfl; have hcz11_4 : w10.cell? ⟨gb248, 4, none⟩ = some (.slice A0_4 l0_4.length c0_4) := (blk_cell BK248.out 4).trans rfl; have hfz11_0 := blk_frozen BK248.out 0; have hfz11_1 := blk_frozen BK248.out 1; have hfz11_2 := blk_frozen BK248.out 2; have hfz11_3 := blk_frozen BK248.out 3; have hfz11_4 := blk_frozen BK248.out 4) | ((with_reducible refine gate_callee (f := 27) rfl ?_); refine goesL_ (some 4) rfl rfl Try.func27 (by kernel_rfl) rfl #[.agg #[.string a0_0, .slice A0_1 l0_1.length c0_1, .slice A0_2 l0_2.length c0_2, .bool a0_3, .slice A0_4 l0_4.length c0_4]] rfl ar_ ?_; (with_reducible refine (fencepostref04_Right.calls k a0_0 _ _ l0_1 _ _ l0_2 a0_3 _ _ l0_4 false _ ?side1 ?side2 ?side3 ?side4 ?side5 ?side6 A2.out).mono ?_); (case side1 => exact cd_ (Kd.C_below HR0_1.out HB.out)); (case side2 => exact HC0_1.out); (case side3 => exact cd_ (Kd.C_below HR0_2.out HB.out)); (case side4 => exact HC0_2.out); (case side5 => exact cd_ (Kd.C_below HR0_4.out HB.out)); (case side6 => exact HC0_4.out); rintro e w12 ⟨rfl, hb⟩; refine ⟨_, rfl, ?_⟩; have n0_ := Aside0.mk (bb_ BK248.out hb); have n1_ := Aside0.mk (below_step (hb_ HB.out) hb); clear BK248; clear HB; have BK248 := n0_; have HB := n1_; clear n0_ n1_; (try clear hb); (try clear hb2); (try clear hk); (try clear hi)))
  go_ret
  exact ⟨_, by first | rfl | (simp [errW_none, errW_some] <;> rfl) | (simp [*, errW_none, errW_some] <;> rfl), by first | exact Kd.R_nil _ _ _ _ _ | exact Kd.N_nil _ _ _ _ _ | exact Kd.V_nil _ _ _ _ _ | exact Kd.Q_nil _ _ _ _ _ | exact Kd.S_nil _ _ _ _ _, hb_ HB.out⟩
 subst c3
 have H1 : ((fencepostref04_locs.f k a0_0 l0_1 l0_2 a0_3 l0_4).bind fun t250 => (some t250)) = some r := by rw [if_pos rfl] at H; exact H
 clear H
 have H := H1
 clear H1
 replace H := Option.bind_eq_some_iff.mp H
 obtain ⟨t250, A40, H⟩ := H
 replace H : (some t250) = some r := H
 have A4 := Aside0.mk A40
 clear A40
 obtain rfl := Option.some.inj H
 go_enter Try.func45, Try.ntmps45
 go_wp2_with (first | ((with_reducible refine gate_dst (N := 1) rfl ?_); refine box_event ?hg (N := 1) ?hd (cs := #[.string a0_0, .slice A0_1 l0_1.length c0_1, .slice A0_2 l0_2.length c0_2, .bool a0_3, .slice A0_4 l0_4.length c0_4]) (t := 30) ?hr ?_; (case hd => rfl); (case hg => rfl); (case hr => first | (go_simp; done) | (go_simp; rfl)); intro gb248 hg w5 hbox hb; have n0_ := Aside0.mk (below_step (hb_ HB.out) hb); have n1_ := Aside0.mk (hbox); have n2_ := Aside0.mk (gs_ hg (hb_ HB.out)); have n3_ := Aside0.mk (gs_ hg (hb_ HB.out)); clear HB; have HB := n0_; have BK248 := n1_; have GW248 := n2_; have GE248 := n3_; clear n0_ n1_ n2_ n3_; clear hb hbox hg; have hcz6_0 : w5.cell? ⟨gb248, 0, none⟩ = some (.string a0_0) := (blk_cell BK248.out 0).trans rfl; have hcz6_1 : w5.cell? ⟨gb248, 1, none⟩ = some (.slice A0_1 l0_1.length c0_1) := (blk_cell BK248.out 1).trans rfl; have hcz6_2 : w5.cell? ⟨gb248, 2, none⟩ = some (.slice A0_2 l0_2.length c0_2) := (blk_cell BK248.out 2).trans rfl; have hcz6_3 : w5.cell? ⟨gb248, 3, none⟩ = some (.bool a0_3) := (blk_cell BK248.out 3).trans rfl; have hcz6_4 : w5.cell? ⟨gb248, 4, none⟩ = some (.slice A0_4 l0_4.length c0_4) := (blk_cell BK248.out 4).trans rfl; have hfz6_0 := blk_frozen BK248.out 0; have hfz6_1 := blk_frozen BK248.out 1; have hfz6_2 := blk_frozen BK248.out 2; have hfz6_3 := blk_frozen BK248.out 3; have hfz6_4 := blk_frozen BK248.out 4) | ((with_reducible refine gate_callee (f := 27) rfl ?_); refine goesL_ (some 4) rfl rfl Try.func27 (by kernel_rfl) rfl #[.agg #[.string a0_0, .slice A0_1 l0_1.length c0_1, .slice A0_2 l0_2.length c0_2, .bool a0_3, .slice A0_4 l0_4.length c0_4]] rfl ar_ ?_; (with_reducible refine (fencepostref04_Right.calls k a0_0 _ _ l0_1 _ _ l0_2 a0_3 _ _ l0_4 true _ ?side1 ?side2 ?side3 ?side4 ?side5 ?side6 A2.out).mono ?_); (case side1 => exact cd_ (Kd.C_below HR0_1.out HB.out)); (case side2 => exact HC0_1.out); (case side3 => exact cd_ (Kd.C_below HR0_2.out HB.out)); (case side4 => exact HC0_2.out); (case side5 => exact cd_ (Kd.C_below HR0_4.out HB.out)); (case side6 => exact HC0_4.out); rintro e w7 ⟨rfl, hb⟩; refine ⟨_, rfl, ?_⟩; have n0_ := Aside0.mk (bb_ BK248.out hb); have n1_ := Aside0.mk (below_step (hb_ HB.out) hb); clear BK248; clear HB; have BK248 := n0_; have HB := n1_; clear n0_ n1_; (try clear hb); (try clear hb2); (try clear hk); (try clear hi); have hcz8_0 : w7.cell? ⟨gb248, 0, none⟩ = some (.string a0_0) := (blk_cell BK248.out 0).trans rfl; have hcz8_1 : w7.cell? ⟨gb248, 1, none⟩ = some (.slice A0_1 l0_1.length c0_1) := (blk_cell BK248.out 1).trans rfl; have hcz8_2 : w7.cell? ⟨gb248, 2, none⟩ = some (.slice A0_2 l0_2.length c0_2) := (blk_cell BK248.out 2).trans rfl; have hcz8_3 : w7.cell? ⟨gb248, 3, none⟩ = some (.bool a0_3) := (blk_cell BK248.out 3).trans rfl; have hcz8_4 : w7.cell? ⟨gb248, 4, none⟩ = some (.slice A0_4 l0_4.length c0_4) := (blk_cell BK248.out 4).trans rfl; have hfz8_0 := blk_frozen BK248.out 0; have hfz8_1 := blk_frozen BK248.out 1; have hfz8_2 := blk_frozen BK248.out 2; have hfz8_3 := blk_frozen BK248.out 3; have hfz8_4 := blk_frozen BK248.out 4) | ((with_reducible refine gate_callee (f := 56) rfl ?_); refine goesL_ (some 7) rfl rfl Try.func56 (by kernel_rfl) rfl #[.agg #[.string a0_0, .slice A0_1 l0_1.length c0_1, .slice A0_2 l0_2.length c0_2, .bool a0_3, .slice A0_4 l0_4.length c0_4]] rfl ar_ ?_; (with_reducible refine (fencepostref04_locs.calls k a0_0 _ _ l0_1 _ _ l0_2 a0_3 _ _ l0_4 t250 _ ?side1 ?side2 ?side3 ?side4 ?side5 ?side6 A4.out).mono ?_); (case side1 => exact cd_ (Kd.C_below HR0_1.out HB.out)); (case side2 => exact HC0_1.out); (case side3 => exact cd_ (Kd.C_below HR0_2.out HB.out)); (case side4 => exact HC0_2.out); (case side5 => exact cd_ (Kd.C_below HR0_4.out HB.out)); (case side6 => exact HC0_4.out); rintro e w9 ⟨v251, rfl, ho0, hb⟩; refine ⟨_, rfl, ?_⟩; have n0_ := Aside0.mk (Kd.R_lower ho0 (below_size (hb_ HB.out))); have n1_ := Aside0.mk (bb_ BK248.out hb); have n2_ := Aside0.mk (below_step (hb_ HB.out) hb); clear BK248; clear HB; have HO252 := n0_; have BK248 := n1_; have HB := n2_; clear n0_ n1_ n2_; (try clear hb); (try clear hb2); (try clear hk); (try clear hi); (try clear ho0)))
 go_ret
 exact ⟨_, by first | rfl | (simp [errW_none, errW_some] <;> rfl) | (simp [*, errW_none, errW_some] <;> rfl), rd_ HO252.out, hb_ HB.out⟩
def fencepostref07_place.l0 : Nat → List ByteArray → ByteArray → Int → Option (Int)
 | 0, _, _, _ => none
 | k + 1, x0, x1, x5 => if x5 < (x0.length : Int) then (if 0 ≤ x5 then (if (rdOf ByteArray.empty x0 x5).toList = x1.toList then (some x5) else (fencepostref07_place.l0 k x0 x1 (wrap64 (x5 + 1)))) else (none)) else (some 0)
def fencepostref07_place.f (k : Nat) (l0 : List ByteArray) (a1 : ByteArray) : Option (Int) := fencepostref07_place.l0 k l0 a1 0
set_option maxHeartbeats 8000000 in
set_option maxRecDepth 100000 in
theorem fencepostref07_place.calls (k : Nat) (A0 : Option Addr) (c0 : Nat) (l0 : List ByteArray) (a1 : ByteArray) (r : Int) (w : World) (hr0 : Kd.C Kd.string w A0 l0.length l0) (hc0 : l0.length ≤ c0) (h : fencepostref07_place.f k l0 a1 = some r) :
 Calls Try.prog 46 #[.slice A0 l0.length c0, .string a1] w fun e w' => e = .returned (.int .i64 r) ∧ Drawn0 w w' := by
 have HR0 := Aside0.mk hr0
 have HC0 := Aside0.mk hc0
 clear hr0 hc0
 have H : (fencepostref07_place.l0 k l0 a1 0) = some r := h
 clear h
 have H' := Aside0.mk H
 clear H
 go_enter Try.func46, Try.ntmps46
 go_wp2
 go_loopg [5] k (fun kq v5 w' => ∃ (x5_1 : Int), v5 = .int .i64 x5_1 ∧ Aside0 (fencepostref07_place.l0 kq l0 a1 x5_1 = some r) ∧ Aside0 (kq ≤ k) ∧ Drawn0 w w')
 case atStart => exact ⟨(0), rf_, H', ⟨Nat.le_refl _⟩, by repeat (first | exact Drawn0.refl _ | apply Drawn0.step)⟩
 clear H'
 obtain ⟨x5_1, rfl, HA, HK1, ⟨m1, rfl⟩⟩ := hrel
 cases gk with
 | zero => exact absurd HA.out (by simp [fencepostref07_place.l0])
 | succ k1 => ?_
 have H := HA.out
 clear HA
 simp only [fencepostref07_place.l0] at H
 by_cases c3 : x5_1 < (l0.length : Int)
 rotate_left
 ·rw [if_neg c3] at H
  have c3b0 : decide (x5_1 < (l0.length : Int)) = false := decide_eq_false c3
  clear c3
  obtain rfl := Option.some.inj H
  go_wp2
  go_ret
  exact ⟨by first | rfl | (simp; done) | (simp [*]; done), by repeat (first | exact Drawn0.refl _ | apply Drawn0.step)⟩
 rw [if_pos c3] at H
 have c3b0 : decide (x5_1 < (l0.length : Int)) = true := decide_eq_true c3
 clear c3
 by_cases c4 : 0 ≤ x5_1
 rotate_left
 ·rw [if_neg c4] at H
  exact absurd H (by simp)
 rw [if_pos c4] at H
 have c4b0 : decide (0 ≤ x5_1) = true := decide_eq_true c4
 clear c4
 by_cases c5 : (rdOf ByteArray.empty l0 x5_1).toList = a1.toList
 ·rw [if_pos c5] at H
  have c5b0 : ((rdOf ByteArray.empty l0 x5_1).toList == a1.toList) = true := beq_iff_eq.mpr c5
  have c5b1 : ((rdOf ByteArray.empty l0 x5_1).toList != a1.toList) = false := bne_eq_false_iff_eq.mpr c5
  clear c5
  obtain rfl := Option.some.inj H
  have p253 : 0 ≤ (x5_1 : Int) := of_decide_eq_true as_
  have q253 : x5_1 < (l0.length : Int) := of_decide_eq_true as_
  obtain ⟨ad253, e253, hx253_0⟩ := Kd.at_string HR0.out x5_1 p253 q253
  cases e253
  replace p253 := eq_true p253
  replace q253 := eq_true q253
  go_wp2
  go_ret
  exact ⟨by first | rfl | (simp; done) | (simp [*]; done), by repeat (first | exact Drawn0.refl _ | apply Drawn0.step)⟩
 rw [if_neg c5] at H
 have c5b0 : ((rdOf ByteArray.empty l0 x5_1).toList == a1.toList) = false := beq_eq_false_iff_ne.mpr c5
 have c5b1 : ((rdOf ByteArray.empty l0 x5_1).toList != a1.toList) = true := bne_iff_ne.mpr c5
 have H' := Aside0.mk H
 clear H
 have p253 : 0 ≤ (x5_1 : Int) := of_decide_eq_true as_
 have q253 : x5_1 < (l0.length : Int) := of_decide_eq_true as_
 obtain ⟨ad253, e253, hx253_0⟩ := Kd.at_string HR0.out x5_1 p253 q253
 cases e253
 replace p253 := eq_true p253
 replace q253 := eq_true q253
 go_wp2
 go_roundg k1
 case measure => have := HK1.out; omega
 case rel => exact ⟨(wrap64 (x5_1 + 1)), rf_, H', ⟨by have := HK1.out; omega⟩, by repeat (first | exact Drawn0.refl _ | apply Drawn0.step)⟩
end Go.Proofs.Ytijpfonbeepmfaa.Print
