-- Written by ownprint.py (this session's) with the kit's print.py: functions, contracts, rows; Lean checks it.
import Derived.Test.YtijpfonbeepmfaaPrint0
import Derived.Test.YtijpfonbeepmfaaPrint14
import Derived.Test.YtijpfonbeepmfaaHSq
namespace Go.Proofs.Ytijpfonbeepmfaa.Print
open Go.RowKit Go.Proofs.YtijpfonbeepmfaaW.PrintWords Go.Proofs.YtijpfonbeepmfaaW.PrintLast Go.Proofs.YtijpfonbeepmfaaW.PrintMore
attribute [local go_sem] max2_int min2_int max_two min_two max_three min_three max_four min_four   -- for this text's walks alone
set_option linter.unusedVariables false
set_option linter.unusedSimpArgs false
mutual
def fencepostref04_locs.l0 : Nat → List ByteArray → Int → ByteArray → List (S62) → List (S58) → Bool → List (S64) → Option (List ByteArray)
 | 0, _, _, _, _, _, _, _ => none
 | k + 1, x3, x4, x218000, x218001, x218002, x218003, x218004 => if x4 < (x218001.length : Int) then (if 0 ≤ x4 then ((fencepostref04_put.f k x3 ((rd_T62 x218001 x4).f0)).bind fun t219 => (fencepostref04_locs.l0 k t219 (wrap64 (x4 + 1)) x218000 x218001 x218002 x218003 x218004)) else (none)) else (fencepostref04_locs.l1 k x3 0 x218000 x218001 x218002 x218003 x218004)
def fencepostref04_locs.l1 : Nat → List ByteArray → Int → ByteArray → List (S62) → List (S58) → Bool → List (S64) → Option (List ByteArray)
 | 0, _, _, _, _, _, _, _ => none
 | k + 1, x3, x5, x218000, x218001, x218002, x218003, x218004 => if x5 < (x218002.length : Int) then (fencepostref04_locs.l2 k x3 x5 0 x218000 x218001 x218002 x218003 x218004) else (fencepostref04_locs.l3 k x3 0 x218000 x218001 x218002 x218003 x218004)
def fencepostref04_locs.l2 : Nat → List ByteArray → Int → Int → ByteArray → List (S62) → List (S58) → Bool → List (S64) → Option (List ByteArray)
 | 0, _, _, _, _, _, _, _, _ => none
 | k + 1, x3, x5, x6, x218000, x218001, x218002, x218003, x218004 => if 0 ≤ x5 then (if x5 < (x218002.length : Int) then (if x6 < (((rd_T58 x218002 x5).f0).length : Int) then (if 0 ≤ x6 then ((fencepostref04_put.f k x3 ((rd_T60 ((rd_T58 x218002 x5).f0) x6).f2)).bind fun t225 => (fencepostref04_locs.l2 k t225 x5 (wrap64 (x6 + 1)) x218000 x218001 x218002 x218003 x218004)) else (none)) else (fencepostref04_locs.l1 k x3 (wrap64 (x5 + 1)) x218000 x218001 x218002 x218003 x218004)) else (none)) else (none)
def fencepostref04_locs.l3 : Nat → List ByteArray → Int → ByteArray → List (S62) → List (S58) → Bool → List (S64) → Option (List ByteArray)
 | 0, _, _, _, _, _, _, _ => none
 | k + 1, x3, x7, x218000, x218001, x218002, x218003, x218004 => if x7 < (x218004.length : Int) then (if 0 ≤ x7 then (if ((rd_T64 x218004 x7).f0) = (-1) then ((fencepostref04_put.f k x3 ((rd_T64 x218004 x7).f1)).bind fun t230 => (fencepostref04_locs.l3 k t230 (wrap64 (x7 + 1)) x218000 x218001 x218002 x218003 x218004)) else (fencepostref04_locs.l3 k x3 (wrap64 (x7 + 1)) x218000 x218001 x218002 x218003 x218004)) else (none)) else (some x3)
end
def fencepostref04_locs.f (k : Nat) (a0_0 : ByteArray) (l0_1 : List (S62)) (l0_2 : List (S58)) (a0_3 : Bool) (l0_4 : List (S64)) : Option (List ByteArray) := fencepostref04_locs.l0 k ([] : List ByteArray) 0 a0_0 l0_1 l0_2 a0_3 l0_4
set_option maxHeartbeats 8000000 in
set_option maxRecDepth 100000 in
theorem fencepostref04_locs.calls (k : Nat) (a0_0 : ByteArray) (A0_1 : Option Addr) (c0_1 : Nat) (l0_1 : List (S62)) (A0_2 : Option Addr) (c0_2 : Nat) (l0_2 : List (S58)) (a0_3 : Bool) (A0_4 : Option Addr) (c0_4 : Nat) (l0_4 : List (S64)) (r : List ByteArray) (w : World) (hr0_1 : Kd.C k62 w A0_1 l0_1.length l0_1) (hc0_1 : l0_1.length ≤ c0_1) (hr0_2 : Kd.C k58 w A0_2 l0_2.length l0_2) (hc0_2 : l0_2.length ≤ c0_2) (hr0_4 : Kd.C k64 w A0_4 l0_4.length l0_4) (hc0_4 : l0_4.length ≤ c0_4) (h : fencepostref04_locs.f k a0_0 l0_1 l0_2 a0_3 l0_4 = some r) :
 Calls Try.prog 56 #[.agg #[.string a0_0, .slice A0_1 l0_1.length c0_1, .slice A0_2 l0_2.length c0_2, .bool a0_3, .slice A0_4 l0_4.length c0_4]] w fun e w' => ∃ v0_ : Value, e = .returned (v0_) ∧ Kd.R Kd.string 9 w' w.heap.size (fun _ => True) v0_ r ∧ Below w.heap.size w w' := by
 have hu30 := Try.underlying30
 have HR0_1 := Aside0.mk hr0_1
 have HC0_1 := Aside0.mk hc0_1
 clear hr0_1 hc0_1
 have HR0_2 := Aside0.mk hr0_2
 have HC0_2 := Aside0.mk hc0_2
 clear hr0_2 hc0_2
 have HR0_4 := Aside0.mk hr0_4
 have HC0_4 := Aside0.mk hc0_4
 clear hr0_4 hc0_4
 have HB := Aside0.mk (Below.refl w.heap.size w)
 have H : (fencepostref04_locs.l0 k ([] : List ByteArray) 0 a0_0 l0_1 l0_2 a0_3 l0_4) = some r := h
 clear h
 have H' := Aside0.mk H
 clear H
 go_enter Try.func56, Try.ntmps56
 (try simp only [List.append_eq, List.cons_append, List.nil_append])
 go_wp2_with (first | ((with_reducible refine gate_dst (N := 1) rfl ?_); refine box_event ?hg (N := 1) ?hd (cs := #[.string a0_0, .slice A0_1 l0_1.length c0_1, .slice A0_2 l0_2.length c0_2, .bool a0_3, .slice A0_4 l0_4.length c0_4]) (t := 30) ?hr ?_; (case hd => rfl); (case hg => rfl); (case hr => first | (go_simp; done) | (go_simp; rfl)); intro gb217 hg w2 hbox hb; have n0_ := Aside0.mk (below_step (hb_ HB.out) hb); have n1_ := Aside0.mk (hbox); have n2_ := Aside0.mk (gs_ hg (hb_ HB.out)); have n3_ := Aside0.mk (gs_ hg (hb_ HB.out)); clear HB; have HB := n0_; have BK217 := n1_; have GW217 := n2_; have GE217 := n3_; clear n0_ n1_ n2_ n3_; clear hb hbox hg))
 go_loopg [3, 4] k (fun kq v3 v4 w' => ∃ (x3_1 : List ByteArray) (x4_1 : Int), v4 = .int .i64 x4_1 ∧ Aside0 (fencepostref04_locs.l0 kq x3_1 x4_1 a0_0 l0_1 l0_2 a0_3 l0_4 = some r) ∧ Aside0 (kq ≤ k) ∧ Aside0 (Kd.R Kd.string 9 w' w.heap.size (fun _ => True) v3 x3_1) ∧ Aside0 (w'.heap[gb217]? = some (.cells #[.string a0_0, (.slice A0_1 l0_1.length c0_1), (.slice A0_2 l0_2.length c0_2), .bool a0_3, (.slice A0_4 l0_4.length c0_4)] 30 (0, 0))) ∧ Aside0 (Below w.heap.size w w'))
 case atStart => exact ⟨(([] : List ByteArray)), (0), rf_, H', ⟨Nat.le_refl _⟩, ⟨by first | exact Kd.R_nil _ _ _ _ _ | exact Kd.N_nil _ _ _ _ _ | exact Kd.V_nil _ _ _ _ _ | exact Kd.Q_nil _ _ _ _ _ | exact Kd.S_nil _ _ _ _ _⟩, ⟨bd_ BK217.out⟩, ⟨hb_ HB.out⟩⟩
 clear H'
 obtain ⟨x3_1, x4_1, rfl, HA, HK1, HO_3, BK217, HB⟩ := hrel
 cases gk with
 | zero => exact absurd HA.out (by simp [fencepostref04_locs.l0])
 | succ k1 => ?_
 have H := HA.out
 clear HA
 simp only [fencepostref04_locs.l0] at H
 by_cases c3 : x4_1 < (l0_1.length : Int)
 ·rw [if_pos c3] at H
  have c3b0 : decide (x4_1 < (l0_1.length : Int)) = true := decide_eq_true c3
  clear c3
  by_cases c4 : 0 ≤ x4_1
  rotate_left
  ·rw [if_neg c4] at H
   exact absurd H (by simp)
  rw [if_pos c4] at H
  have c4b0 : decide (0 ≤ x4_1) = true := decide_eq_true c4
  clear c4
  replace H := Option.bind_eq_some_iff.mp H
  obtain ⟨t219, A50, H⟩ := H
  replace H : (fencepostref04_locs.l0 k1 t219 (wrap64 (x4_1 + 1)) a0_0 l0_1 l0_2 a0_3 l0_4) = some r := H
  have A5 := Aside0.mk A50
  clear A50
  have H' := Aside0.mk H
  clear H
  have hcz6_0 : wr.cell? ⟨gb217, 0, none⟩ = some (.string a0_0) := (blk_cell BK217.out 0).trans rfl
  have hcz6_1 : wr.cell? ⟨gb217, 1, none⟩ = some (.slice A0_1 l0_1.length c0_1) := (blk_cell BK217.out 1).trans rfl
  have hcz6_2 : wr.cell? ⟨gb217, 2, none⟩ = some (.slice A0_2 l0_2.length c0_2) := (blk_cell BK217.out 2).trans rfl
  have hcz6_3 : wr.cell? ⟨gb217, 3, none⟩ = some (.bool a0_3) := (blk_cell BK217.out 3).trans rfl
  have hcz6_4 : wr.cell? ⟨gb217, 4, none⟩ = some (.slice A0_4 l0_4.length c0_4) := (blk_cell BK217.out 4).trans rfl
  have hfz6_0 := blk_frozen BK217.out 0
  have hfz6_1 := blk_frozen BK217.out 1
  have hfz6_2 := blk_frozen BK217.out 2
  have hfz6_3 := blk_frozen BK217.out 3
  have hfz6_4 := blk_frozen BK217.out 4
  have p218 : 0 ≤ (x4_1 : Int) := of_decide_eq_true as_
  have q218 : x4_1 < (l0_1.length : Int) := of_decide_eq_true as_
  obtain ⟨ad218, e218, hx218_0, hx218_1⟩ := at_T62 HR0_1.out x4_1 p218 q218
  cases e218
  replace hx218_0 := cl_ HB.out hx218_0
  replace hx218_1 := cl_ HB.out hx218_1
  replace p218 := eq_true p218
  replace q218 := eq_true q218
  obtain ⟨Ao7, co7, eo7⟩ := Kd.R_slice HO_3.out
  subst eo7
  go_wp2_with (first | ((with_reducible refine gate_callee (f := 64) rfl ?_); refine goesL_ (some 22) rfl rfl Try.func64 (by kernel_rfl) rfl #[.slice Ao7 x3_1.length co7, .string ((rd_T62 l0_1 x4_1).f0)] rfl ar_ ?_; (with_reducible refine (fencepostref04_put.calls k1 _ _ x3_1 ((rd_T62 l0_1 x4_1).f0) t219 _ ?side1 ?side2 A5.out).mono ?_); (case side1 => repeat (first | exact (Kd.R_reads' HO_3.out).2.2 | (with_reducible refine Kd.C_alloc ?_ _) | (with_reducible refine Kd.C_drewN ?_ _) | (with_reducible refine Kd.C_drew ?_))); (case side2 => exact (Kd.R_reads' HO_3.out).2.1); rintro e w8 ⟨v220, rfl, ho0, hb⟩; refine ⟨_, rfl, ?_⟩; have n0_ := Aside0.mk (Kd.R_elder' (rd_ HO_3.out) (Kd.R_base ho0) hb); have n1_ := Aside0.mk (Kd.R_lower (Kd.R_new' ho0 (Kd.R_lt (rd_ HO_3.out))) (below_size (hb_ HB.out))); have n2_ := Aside0.mk (bb_ BK217.out hb); have n3_ := Aside0.mk (below_step (hb_ HB.out) hb); clear HO_3; clear BK217; clear HB; have HO_3 := n0_; have HO221 := n1_; have BK217 := n2_; have HB := n3_; clear n0_ n1_ n2_ n3_; (try clear hb); (try clear hb2); (try clear hk); (try clear hi); (try clear ho0)))
  go_roundg k1
  case measure => have := HK1.out; omega
  case rel => exact ⟨(t219), (wrap64 (x4_1 + 1)), rf_, H', ⟨by have := HK1.out; omega⟩, ⟨by (with_reducible repeat (first | apply Kd.R_alloc | apply Kd.R_drewN | apply Kd.R_drew)); exact Kd.R_mono HO221.out (fun _ hk => trivial)⟩, ⟨bd_ BK217.out⟩, ⟨hb_ HB.out⟩⟩
 rw [if_neg c3] at H
 have c3b0 : decide (x4_1 < (l0_1.length : Int)) = false := decide_eq_false c3
 clear c3
 have H' := Aside0.mk H
 clear H
 have hcz9_0 : wr.cell? ⟨gb217, 0, none⟩ = some (.string a0_0) := (blk_cell BK217.out 0).trans rfl
 have hcz9_1 : wr.cell? ⟨gb217, 1, none⟩ = some (.slice A0_1 l0_1.length c0_1) := (blk_cell BK217.out 1).trans rfl
 have hcz9_2 : wr.cell? ⟨gb217, 2, none⟩ = some (.slice A0_2 l0_2.length c0_2) := (blk_cell BK217.out 2).trans rfl
 have hcz9_3 : wr.cell? ⟨gb217, 3, none⟩ = some (.bool a0_3) := (blk_cell BK217.out 3).trans rfl
 have hcz9_4 : wr.cell? ⟨gb217, 4, none⟩ = some (.slice A0_4 l0_4.length c0_4) := (blk_cell BK217.out 4).trans rfl
 have hfz9_0 := blk_frozen BK217.out 0
 have hfz9_1 := blk_frozen BK217.out 1
 have hfz9_2 := blk_frozen BK217.out 2
 have hfz9_3 := blk_frozen BK217.out 3
 have hfz9_4 := blk_frozen BK217.out 4
 go_wp2
 go_loopg [3, 5] k1 (fun kq v3 v5 w' => ∃ (x3_2 : List ByteArray) (x5_2 : Int), v5 = .int .i64 x5_2 ∧ Aside0 (fencepostref04_locs.l1 kq x3_2 x5_2 a0_0 l0_1 l0_2 a0_3 l0_4 = some r) ∧ Aside0 (kq ≤ k1) ∧ Aside0 (Kd.R Kd.string 9 w' w.heap.size (fun _ => True) v3 x3_2) ∧ Aside0 (w'.heap[gb217]? = some (.cells #[.string a0_0, (.slice A0_1 l0_1.length c0_1), (.slice A0_2 l0_2.length c0_2), .bool a0_3, (.slice A0_4 l0_4.length c0_4)] 30 (0, 0))) ∧ Aside0 (Below w.heap.size w w'))
 case atStart => exact ⟨(x3_1), (0), rf_, H', ⟨Nat.le_refl _⟩, ⟨rd_ HO_3.out⟩, ⟨bd_ BK217.out⟩, ⟨hb_ HB.out⟩⟩
 clear H'
 try clear c3
 try clear c3b0
 try clear hcz9_0
 try clear hcz9_1
 try clear hcz9_2
 try clear hcz9_3
 try clear hcz9_4
 try clear hfz9_0
 try clear hfz9_1
 try clear hfz9_2
 try clear hfz9_3
 try clear hfz9_4
 obtain ⟨x3_2, x5_2, rfl, HA, HK2, HO_3, BK217, HB⟩ := hrel
 cases gk with
 | zero => exact absurd HA.out (by simp [fencepostref04_locs.l1])
 | succ k2 => ?_
 have H := HA.out
 clear HA
 simp only [fencepostref04_locs.l1] at H
 by_cases c10 : x5_2 < (l0_2.length : Int)
 ·rw [if_pos c10] at H
  have c10b0 : decide (x5_2 < (l0_2.length : Int)) = true := decide_eq_true c10
  clear c10
  have H' := Aside0.mk H
  clear H
  have hcz11_0 : wr.cell? ⟨gb217, 0, none⟩ = some (.string a0_0) := (blk_cell BK217.out 0).trans rfl
  have hcz11_1 : wr.cell? ⟨gb217, 1, none⟩ = some (.slice A0_1 l0_1.length c0_1) := (blk_cell BK217.out 1).trans rfl
  have hcz11_2 : wr.cell? ⟨gb217, 2, none⟩ = some (.slice A0_2 l0_2.length c0_2) := (blk_cell BK217.out 2).trans rfl
  have hcz11_3 : wr.cell? ⟨gb217, 3, none⟩ = some (.bool a0_3) := (blk_cell BK217.out 3).trans rfl
  have hcz11_4 : wr.cell? ⟨gb217, 4, none⟩ = some (.slice A0_4 l0_4.length c0_4) := (blk_cell BK217.out 4).trans rfl
  have hfz11_0 := blk_frozen BK217.out 0
  have hfz11_1 := blk_frozen BK217.out 1
  have hfz11_2 := blk_frozen BK217.out 2
  have hfz11_3 := blk_frozen BK217.out 3
  have hfz11_4 := blk_frozen BK217.out 4
  go_wp2
  go_loopg [3, 6] k2 (fun kq v3 v6 w' => ∃ (x3_3 : List ByteArray) (x6_3 : Int), v6 = .int .i64 x6_3 ∧ Aside0 (fencepostref04_locs.l2 kq x3_3 x5_2 x6_3 a0_0 l0_1 l0_2 a0_3 l0_4 = some r) ∧ Aside0 (kq ≤ k2) ∧ Aside0 (Kd.R Kd.string 9 w' w.heap.size (fun _ => True) v3 x3_3) ∧ Aside0 (w'.heap[gb217]? = some (.cells #[.string a0_0, (.slice A0_1 l0_1.length c0_1), (.slice A0_2 l0_2.length c0_2), .bool a0_3, (.slice A0_4 l0_4.length c0_4)] 30 (0, 0))) ∧ Aside0 (Below w.heap.size w w'))
  case atStart => exact ⟨(x3_2), (0), rf_, H', ⟨Nat.le_refl _⟩, ⟨rd_ HO_3.out⟩, ⟨bd_ BK217.out⟩, ⟨hb_ HB.out⟩⟩
  clear H'
  try clear c3
  try clear c3b0
  try clear c10
  try clear c10b0
  try clear hcz11_0
  try clear hcz11_1
  try clear hcz11_2
  try clear hcz11_3
  try clear hcz11_4
  try clear hcz9_0
  try clear hcz9_1
  try clear hcz9_2
  try clear hcz9_3
  try clear hcz9_4
  try clear hfz11_0
  try clear hfz11_1
  try clear hfz11_2
  try clear hfz11_3
  try clear hfz11_4
  try clear hfz9_0
  try clear hfz9_1
  try clear hfz9_2
  try clear hfz9_3
  try clear hfz9_4
  obtain ⟨x3_3, x6_3, rfl, HA, HK3, HO_3, BK217, HB⟩ := hrel
  cases gk with
  | zero => exact absurd HA.out (by simp [fencepostref04_locs.l2])
  | succ k3 => ?_
  have H := HA.out
  clear HA
  simp only [fencepostref04_locs.l2] at H
  by_cases c12 : 0 ≤ x5_2
  rotate_left
  ·rw [if_neg c12] at H
   exact absurd H (by simp)
  rw [if_pos c12] at H
  have c12b0 : decide (0 ≤ x5_2) = true := decide_eq_true c12
  clear c12
  by_cases c13 : x5_2 < (l0_2.length : Int)
  rotate_left
  ·rw [if_neg c13] at H
   exact absurd H (by simp)
  rw [if_pos c13] at H
  have c13b0 : decide (x5_2 < (l0_2.length : Int)) = true := decide_eq_true c13
  clear c13
  by_cases c14 : x6_3 < (((rd_T58 l0_2 x5_2).f0).length : Int)
  rotate_left
  ·rw [if_neg c14] at H
   have c14b0 : decide (x6_3 < (((rd_T58 l0_2 x5_2).f0).length : Int)) = false := decide_eq_false c14
   clear c14
   have H' := Aside0.mk H
   clear H
   have hcz20_0 : wr.cell? ⟨gb217, 0, none⟩ = some (.string a0_0) := (blk_cell BK217.out 0).trans rfl
   have hcz20_1 : wr.cell? ⟨gb217, 1, none⟩ = some (.slice A0_1 l0_1.length c0_1) := (blk_cell BK217.out 1).trans rfl
   have hcz20_2 : wr.cell? ⟨gb217, 2, none⟩ = some (.slice A0_2 l0_2.length c0_2) := (blk_cell BK217.out 2).trans rfl
   have hcz20_3 : wr.cell? ⟨gb217, 3, none⟩ = some (.bool a0_3) := (blk_cell BK217.out 3).trans rfl
   have hcz20_4 : wr.cell? ⟨gb217, 4, none⟩ = some (.slice A0_4 l0_4.length c0_4) := (blk_cell BK217.out 4).trans rfl
   have hfz20_0 := blk_frozen BK217.out 0
   have hfz20_1 := blk_frozen BK217.out 1
   have hfz20_2 := blk_frozen BK217.out 2
   have hfz20_3 := blk_frozen BK217.out 3
   have hfz20_4 := blk_frozen BK217.out 4
   have p222 : 0 ≤ (x5_2 : Int) := of_decide_eq_true as_
   have q222 : x5_2 < (l0_2.length : Int) := of_decide_eq_true as_
   obtain ⟨ad222, A222_0, c222_0, e222, hx222_0, hl222_0, hi222_0⟩ := at_T58 HR0_2.out x5_2 p222 q222
   cases e222
   replace hx222_0 := cl_ HB.out hx222_0
   have HR222_0 := Aside0.mk hi222_0
   have HC222_0 := Aside0.mk hl222_0
   clear hi222_0 hl222_0
   replace p222 := eq_true p222
   replace q222 := eq_true q222
   go_wp2
   go_roundg k3
   case measure => have := HK1.out; have := HK2.out; have := HK3.out; omega
   case rel => exact ⟨(x3_3), (wrap64 (x5_2 + 1)), rf_, H', ⟨by have := HK1.out; have := HK2.out; have := HK3.out; omega⟩, ⟨rd_ HO_3.out⟩, ⟨bd_ BK217.out⟩, ⟨hb_ HB.out⟩⟩
  rw [if_pos c14] at H
  have c14b0 : decide (x6_3 < (((rd_T58 l0_2 x5_2).f0).length : Int)) = true := decide_eq_true c14
  clear c14
  by_cases c15 : 0 ≤ x6_3
  rotate_left
  ·rw [if_neg c15] at H
   exact absurd H (by simp)
  rw [if_pos c15] at H
  have c15b0 : decide (0 ≤ x6_3) = true := decide_eq_true c15
  clear c15
  replace H := Option.bind_eq_some_iff.mp H
  obtain ⟨t225, A160, H⟩ := H
  replace H : (fencepostref04_locs.l2 k3 t225 x5_2 (wrap64 (x6_3 + 1)) a0_0 l0_1 l0_2 a0_3 l0_4) = some r := H
  have A16 := Aside0.mk A160
  clear A160
  have H' := Aside0.mk H
  clear H
  have hcz17_0 : wr.cell? ⟨gb217, 0, none⟩ = some (.string a0_0) := (blk_cell BK217.out 0).trans rfl
  have hcz17_1 : wr.cell? ⟨gb217, 1, none⟩ = some (.slice A0_1 l0_1.length c0_1) := (blk_cell BK217.out 1).trans rfl
  have hcz17_2 : wr.cell? ⟨gb217, 2, none⟩ = some (.slice A0_2 l0_2.length c0_2) := (blk_cell BK217.out 2).trans rfl
  have hcz17_3 : wr.cell? ⟨gb217, 3, none⟩ = some (.bool a0_3) := (blk_cell BK217.out 3).trans rfl
  have hcz17_4 : wr.cell? ⟨gb217, 4, none⟩ = some (.slice A0_4 l0_4.length c0_4) := (blk_cell BK217.out 4).trans rfl
  have hfz17_0 := blk_frozen BK217.out 0
  have hfz17_1 := blk_frozen BK217.out 1
  have hfz17_2 := blk_frozen BK217.out 2
  have hfz17_3 := blk_frozen BK217.out 3
  have hfz17_4 := blk_frozen BK217.out 4
  have p222 : 0 ≤ (x5_2 : Int) := of_decide_eq_true as_
  have q222 : x5_2 < (l0_2.length : Int) := of_decide_eq_true as_
  obtain ⟨ad222, A222_0, c222_0, e222, hx222_0, hl222_0, hi222_0⟩ := at_T58 HR0_2.out x5_2 p222 q222
  cases e222
  replace hx222_0 := cl_ HB.out hx222_0
  have HR222_0 := Aside0.mk hi222_0
  have HC222_0 := Aside0.mk hl222_0
  clear hi222_0 hl222_0
  replace p222 := eq_true p222
  replace q222 := eq_true q222
  have p223 : 0 ≤ (x5_2 : Int) := of_decide_eq_true as_
  have q223 : x5_2 < (l0_2.length : Int) := of_decide_eq_true as_
  obtain ⟨ad223, A223_0, c223_0, e223, hx223_0, hl223_0, hi223_0⟩ := at_T58 HR0_2.out x5_2 p223 q223
  obtain rfl : ad222 = ad223 := (by injection e223)
  replace hx223_0 := cl_ HB.out hx223_0
  have HR223_0 := Aside0.mk hi223_0
  have HC223_0 := Aside0.mk hl223_0
  clear hi223_0 hl223_0
  replace p223 := eq_true p223
  replace q223 := eq_true q223
  have ea_ := Option.some.inj (hx222_0.symm.trans hx223_0)
  injection ea_ with ea_ en_ ec_
  subst ea_
  subst ec_
  clear en_
  have p224 : 0 ≤ (x6_3 : Int) := of_decide_eq_true as_
  have q224 : x6_3 < (((rd_T58 l0_2 x5_2).f0).length : Int) := of_decide_eq_true as_
  obtain ⟨ad224, e224, hx224_0, hx224_1, hx224_2, hx224_3, hx224_4⟩ := at_T60 HR223_0.out x6_3 p224 q224
  cases e224
  replace hx224_0 := cl_ HB.out hx224_0
  replace hx224_1 := cl_ HB.out hx224_1
  replace hx224_2 := cl_ HB.out hx224_2
  replace hx224_3 := cl_ HB.out hx224_3
  replace hx224_4 := cl_ HB.out hx224_4
  replace p224 := eq_true p224
  replace q224 := eq_true q224
  obtain ⟨Ao18, co18, eo18⟩ := Kd.R_slice HO_3.out
  subst eo18
  go_wp2_with (first | ((with_reducible refine gate_callee (f := 64) rfl ?_); refine goesL_ (some 52) rfl rfl Try.func64 (by kernel_rfl) rfl #[.slice Ao18 x3_3.length co18, .string ((rd_T60 ((rd_T58 l0_2 x5_2).f0) x6_3).f2)] rfl ar_ ?_; (with_reducible refine (fencepostref04_put.calls k3 _ _ x3_3 ((rd_T60 ((rd_T58 l0_2 x5_2).f0) x6_3).f2) t225 _ ?side1 ?side2 A16.out).mono ?_); (case side1 => repeat (first | exact (Kd.R_reads' HO_3.out).2.2 | (with_reducible refine Kd.C_alloc ?_ _) | (with_reducible refine Kd.C_drewN ?_ _) | (with_reducible refine Kd.C_drew ?_))); (case side2 => exact (Kd.R_reads' HO_3.out).2.1); rintro e w19 ⟨v226, rfl, ho0, hb⟩; refine ⟨_, rfl, ?_⟩; have n0_ := Aside0.mk (Kd.R_elder' (rd_ HO_3.out) (Kd.R_base ho0) hb); have n1_ := Aside0.mk (Kd.R_lower (Kd.R_new' ho0 (Kd.R_lt (rd_ HO_3.out))) (below_size (hb_ HB.out))); have n2_ := Aside0.mk (bb_ BK217.out hb); have n3_ := Aside0.mk (below_step (hb_ HB.out) hb); clear HO_3; clear BK217; clear HB; have HO_3 := n0_; have HO227 := n1_; have BK217 := n2_; have HB := n3_; clear n0_ n1_ n2_ n3_; (try clear hb); (try clear hb2); (try clear hk); (try clear hi); (try clear ho0)))
  go_roundg k3
  case measure => have := HK1.out; have := HK2.out; have := HK3.out; omega
  case rel => exact ⟨(t225), (wrap64 (x6_3 + 1)), rf_, H', ⟨by have := HK1.out; have := HK2.out; have := HK3.out; omega⟩, ⟨by (with_reducible repeat (first | apply Kd.R_alloc | apply Kd.R_drewN | apply Kd.R_drew)); exact Kd.R_mono HO227.out (fun _ hk => trivial)⟩, ⟨bd_ BK217.out⟩, ⟨hb_ HB.out⟩⟩
 rw [if_neg c10] at H
 have c10b0 : decide (x5_2 < (l0_2.length : Int)) = false := decide_eq_false c10
 clear c10
 have H' := Aside0.mk H
 clear H
 have hcz21_0 : wr.cell? ⟨gb217, 0, none⟩ = some (.string a0_0) := (blk_cell BK217.out 0).trans rfl
 have hcz21_1 : wr.cell? ⟨gb217, 1, none⟩ = some (.slice A0_1 l0_1.length c0_1) := (blk_cell BK217.out 1).trans rfl
 have hcz21_2 : wr.cell? ⟨gb217, 2, none⟩ = some (.slice A0_2 l0_2.length c0_2) := (blk_cell BK217.out 2).trans rfl
 have hcz21_3 : wr.cell? ⟨gb217, 3, none⟩ = some (.bool a0_3) := (blk_cell BK217.out 3).trans rfl
 have hcz21_4 : wr.cell? ⟨gb217, 4, none⟩ = some (.slice A0_4 l0_4.length c0_4) := (blk_cell BK217.out 4).trans rfl
 have hfz21_0 := blk_frozen BK217.out 0
 have hfz21_1 := blk_frozen BK217.out 1
 have hfz21_2 := blk_frozen BK217.out 2
 have hfz21_3 := blk_frozen BK217.out 3
 have hfz21_4 := blk_frozen BK217.out 4
 go_wp2
 go_loopg [3, 7] k2 (fun kq v3 v7 w' => ∃ (x3_3 : List ByteArray) (x7_3 : Int), v7 = .int .i64 x7_3 ∧ Aside0 (fencepostref04_locs.l3 kq x3_3 x7_3 a0_0 l0_1 l0_2 a0_3 l0_4 = some r) ∧ Aside0 (kq ≤ k2) ∧ Aside0 (Kd.R Kd.string 9 w' w.heap.size (fun _ => True) v3 x3_3) ∧ Aside0 (w'.heap[gb217]? = some (.cells #[.string a0_0, (.slice A0_1 l0_1.length c0_1), (.slice A0_2 l0_2.length c0_2), .bool a0_3, (.slice A0_4 l0_4.length c0_4)] 30 (0, 0))) ∧ Aside0 (Below w.heap.size w w'))
 case atStart => exact ⟨(x3_2), (0), rf_, H', ⟨Nat.le_refl _⟩, ⟨rd_ HO_3.out⟩, ⟨bd_ BK217.out⟩, ⟨hb_ HB.out⟩⟩
 clear H'
 try clear c3
 try clear c3b0
 try clear c10
 try clear c10b0
 try clear hcz21_0
 try clear hcz21_1
 try clear hcz21_2
 try clear hcz21_3
 try clear hcz21_4
 try clear hcz9_0
 try clear hcz9_1
 try clear hcz9_2
 try clear hcz9_3
 try clear hcz9_4
 try clear hfz21_0
 try clear hfz21_1
 try clear hfz21_2
 try clear hfz21_3
 try clear hfz21_4
 try clear hfz9_0
 try clear hfz9_1
 try clear hfz9_2
 try clear hfz9_3
 try clear hfz9_4
 obtain ⟨x3_3, x7_3, rfl, HA, HK3, HO_3, BK217, HB⟩ := hrel
 cases gk with
 | zero => exact absurd HA.out (by simp [fencepostref04_locs.l3])
 | succ k3 => ?_
 have H := HA.out
 clear HA
 simp only [fencepostref04_locs.l3] at H
 by_cases c22 : x7_3 < (l0_4.length : Int)
 rotate_left
 ·rw [if_neg c22] at H
  have c22b0 : decide (x7_3 < (l0_4.length : Int)) = false := decide_eq_false c22
  clear c22
  obtain rfl := Option.some.inj H
  have hcz30_0 : wr.cell? ⟨gb217, 0, none⟩ = some (.string a0_0) := (blk_cell BK217.out 0).trans rfl
  have hcz30_1 : wr.cell? ⟨gb217, 1, none⟩ = some (.slice A0_1 l0_1.length c0_1) := (blk_cell BK217.out 1).trans rfl
  have hcz30_2 : wr.cell? ⟨gb217, 2, none⟩ = some (.slice A0_2 l0_2.length c0_2) := (blk_cell BK217.out 2).trans rfl
  have hcz30_3 : wr.cell? ⟨gb217, 3, none⟩ = some (.bool a0_3) := (blk_cell BK217.out 3).trans rfl
  have hcz30_4 : wr.cell? ⟨gb217, 4, none⟩ = some (.slice A0_4 l0_4.length c0_4) := (blk_cell BK217.out 4).trans rfl
  have hfz30_0 := blk_frozen BK217.out 0
  have hfz30_1 := blk_frozen BK217.out 1
  have hfz30_2 := blk_frozen BK217.out 2
  have hfz30_3 := blk_frozen BK217.out 3
  have hfz30_4 := blk_frozen BK217.out 4
  go_wp2
  go_ret
  exact ⟨_, by first | rfl | (simp [errW_none, errW_some] <;> rfl) | (simp [*, errW_none, errW_some] <;> rfl), rd_ HO_3.out, hb_ HB.out⟩
 rw [if_pos c22] at H
 have c22b0 : decide (x7_3 < (l0_4.length : Int)) = true := decide_eq_true c22
 clear c22
 by_cases c23 : 0 ≤ x7_3
 rotate_left
 ·rw [if_neg c23] at H
  exact absurd H (by simp)
 rw [if_pos c23] at H
 have c23b0 : decide (0 ≤ x7_3) = true := decide_eq_true c23
 clear c23
 by_cases c24 : ((rd_T64 l0_4 x7_3).f0) = (-1)
 rotate_left
 ·rw [if_neg c24] at H
  have c24b0 : (((rd_T64 l0_4 x7_3).f0) == (-1)) = false := beq_eq_false_iff_ne.mpr c24
  have c24b1 : (((rd_T64 l0_4 x7_3).f0) != (-1)) = true := bne_iff_ne.mpr c24
  have H' := Aside0.mk H
  clear H
  have hcz29_0 : wr.cell? ⟨gb217, 0, none⟩ = some (.string a0_0) := (blk_cell BK217.out 0).trans rfl
  have hcz29_1 : wr.cell? ⟨gb217, 1, none⟩ = some (.slice A0_1 l0_1.length c0_1) := (blk_cell BK217.out 1).trans rfl
  have hcz29_2 : wr.cell? ⟨gb217, 2, none⟩ = some (.slice A0_2 l0_2.length c0_2) := (blk_cell BK217.out 2).trans rfl
  have hcz29_3 : wr.cell? ⟨gb217, 3, none⟩ = some (.bool a0_3) := (blk_cell BK217.out 3).trans rfl
  have hcz29_4 : wr.cell? ⟨gb217, 4, none⟩ = some (.slice A0_4 l0_4.length c0_4) := (blk_cell BK217.out 4).trans rfl
  have hfz29_0 := blk_frozen BK217.out 0
  have hfz29_1 := blk_frozen BK217.out 1
  have hfz29_2 := blk_frozen BK217.out 2
  have hfz29_3 := blk_frozen BK217.out 3
  have hfz29_4 := blk_frozen BK217.out 4
  have p228 : 0 ≤ (x7_3 : Int) := of_decide_eq_true as_
  have q228 : x7_3 < (l0_4.length : Int) := of_decide_eq_true as_
  obtain ⟨ad228, e228, hx228_0, hx228_1, hx228_2⟩ := at_T64 HR0_4.out x7_3 p228 q228
  cases e228
  replace hx228_0 := cl_ HB.out hx228_0
  replace hx228_1 := cl_ HB.out hx228_1
  replace hx228_2 := cl_ HB.out hx228_2
  replace p228 := eq_true p228
  replace q228 := eq_true q228
  go_wp2
  go_roundg k3
  case measure => have := HK1.out; have := HK2.out; have := HK3.out; omega
  case rel => exact ⟨(x3_3), (wrap64 (x7_3 + 1)), rf_, H', ⟨by have := HK1.out; have := HK2.out; have := HK3.out; omega⟩, ⟨rd_ HO_3.out⟩, ⟨bd_ BK217.out⟩, ⟨hb_ HB.out⟩⟩
 rw [if_pos c24] at H
 have c24b0 : (((rd_T64 l0_4 x7_3).f0) == (-1)) = true := beq_iff_eq.mpr c24
 have c24b1 : (((rd_T64 l0_4 x7_3).f0) != (-1)) = false := bne_eq_false_iff_eq.mpr c24
 clear c24
 replace H := Option.bind_eq_some_iff.mp H
 obtain ⟨t230, A250, H⟩ := H
 replace H : (fencepostref04_locs.l3 k3 t230 (wrap64 (x7_3 + 1)) a0_0 l0_1 l0_2 a0_3 l0_4) = some r := H
 have A25 := Aside0.mk A250
 clear A250
 have H' := Aside0.mk H
 clear H
 have hcz26_0 : wr.cell? ⟨gb217, 0, none⟩ = some (.string a0_0) := (blk_cell BK217.out 0).trans rfl
 have hcz26_1 : wr.cell? ⟨gb217, 1, none⟩ = some (.slice A0_1 l0_1.length c0_1) := (blk_cell BK217.out 1).trans rfl
 have hcz26_2 : wr.cell? ⟨gb217, 2, none⟩ = some (.slice A0_2 l0_2.length c0_2) := (blk_cell BK217.out 2).trans rfl
 have hcz26_3 : wr.cell? ⟨gb217, 3, none⟩ = some (.bool a0_3) := (blk_cell BK217.out 3).trans rfl
 have hcz26_4 : wr.cell? ⟨gb217, 4, none⟩ = some (.slice A0_4 l0_4.length c0_4) := (blk_cell BK217.out 4).trans rfl
 have hfz26_0 := blk_frozen BK217.out 0
 have hfz26_1 := blk_frozen BK217.out 1
 have hfz26_2 := blk_frozen BK217.out 2
 have hfz26_3 := blk_frozen BK217.out 3
 have hfz26_4 := blk_frozen BK217.out 4
 have p228 : 0 ≤ (x7_3 : Int) := of_decide_eq_true as_
 have q228 : x7_3 < (l0_4.length : Int) := of_decide_eq_true as_
 obtain ⟨ad228, e228, hx228_0, hx228_1, hx228_2⟩ := at_T64 HR0_4.out x7_3 p228 q228
 cases e228
 replace hx228_0 := cl_ HB.out hx228_0
 replace hx228_1 := cl_ HB.out hx228_1
 replace hx228_2 := cl_ HB.out hx228_2
 replace p228 := eq_true p228
 replace q228 := eq_true q228
 have p229 : 0 ≤ (x7_3 : Int) := of_decide_eq_true as_
 have q229 : x7_3 < (l0_4.length : Int) := of_decide_eq_true as_
 obtain ⟨ad229, e229, hx229_0, hx229_1, hx229_2⟩ := at_T64 HR0_4.out x7_3 p229 q229
 obtain rfl : ad228 = ad229 := (by injection e229)
 replace hx229_0 := cl_ HB.out hx229_0
 replace hx229_1 := cl_ HB.out hx229_1
 replace hx229_2 := cl_ HB.out hx229_2
 replace p229 := eq_true p229
 replace q229 := eq_true q229
 obtain ⟨Ao27, co27, eo27⟩ := Kd.R_slice HO_3.out
 subst eo27
 go_wp2_with (first | ((with_reducible refine gate_callee (f := 64) rfl ?_); refine goesL_ (some 74) rfl rfl Try.func64 (by kernel_rfl) rfl #[.slice Ao27 x3_3.length co27, .string ((rd_T64 l0_4 x7_3).f1)] rfl ar_ ?_; (with_reducible refine (fencepostref04_put.calls k3 _ _ x3_3 ((rd_T64 l0_4 x7_3).f1) t230 _ ?side1 ?side2 A25.out).mono ?_); (case side1 => repeat (first | exact (Kd.R_reads' HO_3.out).2.2 | (with_reducible refine Kd.C_alloc ?_ _) | (with_reducible refine Kd.C_drewN ?_ _) | (with_reducible refine Kd.C_drew ?_))); (case side2 => exact (Kd.R_reads' HO_3.out).2.1); rintro e w28 ⟨v231, rfl, ho0, hb⟩; refine ⟨_, rfl, ?_⟩; have n0_ := Aside0.mk (Kd.R_elder' (rd_ HO_3.out) (Kd.R_base ho0) hb); have n1_ := Aside0.mk (Kd.R_lower (Kd.R_new' ho0 (Kd.R_lt (rd_ HO_3.out))) (below_size (hb_ HB.out))); have n2_ := Aside0.mk (bb_ BK217.out hb); have n3_ := Aside0.mk (below_step (hb_ HB.out) hb); clear HO_3; clear BK217; clear HB; have HO_3 := n0_; have HO232 := n1_; have BK217 := n2_; have HB := n3_; clear n0_ n1_ n2_ n3_; (try clear hb); (try clear hb2); (try clear hk); (try clear hi); (try clear ho0)))
 go_roundg k3
 case measure => have := HK1.out; have := HK2.out; have := HK3.out; omega
 case rel => exact ⟨(t230), (wrap64 (x7_3 + 1)), rf_, H', ⟨by have := HK1.out; have := HK2.out; have := HK3.out; omega⟩, ⟨by (with_reducible repeat (first | apply Kd.R_alloc | apply Kd.R_drewN | apply Kd.R_drew)); exact Kd.R_mono HO232.out (fun _ hk => trivial)⟩, ⟨bd_ BK217.out⟩, ⟨hb_ HB.out⟩⟩
end Go.Proofs.Ytijpfonbeepmfaa.Print
