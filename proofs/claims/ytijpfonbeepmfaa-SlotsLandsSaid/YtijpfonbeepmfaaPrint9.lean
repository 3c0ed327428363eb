-- Written by ownprint.py (this session's) with the kit's print.py: functions, contracts, rows; Lean checks it.
import Derived.Test.YtijpfonbeepmfaaPrint0
import Derived.Test.YtijpfonbeepmfaaPrint8
import Derived.Test.YtijpfonbeepmfaaHSq
namespace Go.Proofs.Ytijpfonbeepmfaa.Print
open Go.RowKit Go.Proofs.YtijpfonbeepmfaaW.PrintWords Go.Proofs.YtijpfonbeepmfaaW.PrintLast Go.Proofs.YtijpfonbeepmfaaW.PrintMore
attribute [local go_sem] max2_int min2_int max_two min_two max_three min_three max_four min_four   -- for this text's walks alone
set_option linter.unusedVariables false
set_option linter.unusedSimpArgs false
mutual
def fencepostref07_Right.j0 : Nat → Bool → List Int → List (List (S53)) → Option (Bool)
 | 0, _, _, _ => none
 | k + 1, x20, x149000, x149001 => if x20 = true then (some false) else (fencepostref07_Right.l0 k 0 x149000 x149001)
def fencepostref07_Right.l0 : Nat → Int → List Int → List (List (S53)) → Option (Bool)
 | 0, _, _, _ => none
 | k + 1, x3, x149000, x149001 => if x3 < (x149001.length : Int) then (if 0 ≤ x3 then (if ((rd_L3 x149001 x3).length : Int) > 80 then (some false) else (fencepostref07_Right.l1 k x3 0 x149000 x149001)) else (none)) else (some true)
def fencepostref07_Right.l1 : Nat → Int → Int → List Int → List (List (S53)) → Option (Bool)
 | 0, _, _, _, _ => none
 | k + 1, x3, x4, x149000, x149001 => if 0 ≤ x3 then (if x3 < (x149001.length : Int) then (if x4 < ((rd_L3 x149001 x3).length : Int) then (if 0 ≤ x4 then ((fencepostref07_right.f k x149000 x149001 ((rd_T53 (rd_L3 x149001 x3) x4).f0) ((rd_T53 (rd_L3 x149001 x3) x4).f1) ((rd_T53 (rd_L3 x149001 x3) x4).f2) ((rd_T53 (rd_L3 x149001 x3) x4).f3) ((rd_T53 (rd_L3 x149001 x3) x4).f4) x4 ((rd_L3 x149001 x3).length : Int)).bind fun t154 => (if t154 = true then (fencepostref07_Right.l1 k x3 (wrap64 (x4 + 1)) x149000 x149001) else (some false))) else (none)) else (fencepostref07_Right.l0 k (wrap64 (x3 + 1)) x149000 x149001)) else (none)) else (none)
end
def fencepostref07_Right.f (k : Nat) (l0_0 : List Int) (l0_1 : List (List (S53))) : Option (Bool) := if (l0_0.length : Int) > 4 then (fencepostref07_Right.j0 k true l0_0 l0_1) else (if (l0_1.length : Int) < 1 then (fencepostref07_Right.j0 k true l0_0 l0_1) else (fencepostref07_Right.j0 k (decide ((l0_1.length : Int) > 3)) l0_0 l0_1))
def fencepostref07_Right.T11 : Bool × List (List Nat × List Nat) := (true, [([], []), ([], []), ([1], [1]), ([], []), ([2, 3], [2, 3]), ([4], [4]), ([], []), ([5, 6], [5, 6]), ([7], [7]), ([], []), ([], []), ([10], [10]), ([], []), ([11, 12], [11, 12]), ([13], [13]), ([14], [14]), ([0, 8, 9, 15], [0, 8, 9, 15]), ([16], [16])])
def fencepostref07_Right.B11 : List Nat := [0, 0, 2, 0, 14, 30, 0, 126, 254, 0, 0, 1024, 0, 7168, 15360, 31744, 65535, 131071]
theorem fencepostref07_Right.tab11 : rtab .any (opsOf Try.f32 11) = fencepostref07_Right.T11 := by kernel_rfl
theorem fencepostref07_Right.bits11 : waitsOk fencepostref07_Right.T11.2 fencepostref07_Right.B11 = true := by kernel_rfl
set_option maxHeartbeats 8000000 in
set_option maxRecDepth 100000 in
theorem fencepostref07_Right.calls (k : Nat) (A0_0 : Option Addr) (c0_0 : Nat) (l0_0 : List Int) (A0_1 : Option Addr) (c0_1 : Nat) (l0_1 : List (List (S53))) (r : Bool) (w : World) (hr0_0 : Kd.C (Kd.int .i64) w A0_0 l0_0.length l0_0) (hc0_0 : l0_0.length ≤ c0_0) (hr0_1 : Kd.C (Kd.slice 53 k53) w A0_1 l0_1.length l0_1) (hc0_1 : l0_1.length ≤ c0_1) (h : fencepostref07_Right.f k l0_0 l0_1 = some r) :
 Calls Try.prog 32 #[.agg #[.slice A0_0 l0_0.length c0_0, .slice A0_1 l0_1.length c0_1]] w fun e w' => e = .returned (.bool r) ∧ Below w.heap.size w w' := by
 have hu25 := Try.underlying25
 have hu53 := Try.underlying53
 have HR0_0 := Aside0.mk hr0_0
 have HC0_0 := Aside0.mk hc0_0
 clear hr0_0 hc0_0
 have HR0_1 := Aside0.mk hr0_1
 have HC0_1 := Aside0.mk hc0_1
 clear hr0_1 hc0_1
 have HB := Aside0.mk (Below.refl w.heap.size w)
 have H : (if (l0_0.length : Int) > 4 then (fencepostref07_Right.j0 k true l0_0 l0_1) else (if (l0_1.length : Int) < 1 then (fencepostref07_Right.j0 k true l0_0 l0_1) else (fencepostref07_Right.j0 k (decide ((l0_1.length : Int) > 3)) l0_0 l0_1))) = some r := h
 clear h
 have HC2 := Aside0.mk H
 clear H
 go_enter Try.func32, Try.ntmps32
 go_upto_region 1 with (first | ((with_reducible refine gate_dst (N := 1) rfl ?_); (try (refine gate_guard (by rfl) ?_; dsimp only)); refine box_event ?hg (N := 1) ?hd (cs := #[.slice A0_0 l0_0.length c0_0, .slice A0_1 l0_1.length c0_1]) (t := 25) ?hr ?_; (case hd => rfl); (case hg => rfl); (case hr => first | (go_simp; done) | (go_simp; rfl)); intro gb148 hg w3 hbox hb; have n0_ := Aside0.mk (below_step (hb_ HB.out) hb); have n1_ := Aside0.mk (hbox); have n2_ := Aside0.mk (gs_ hg (hb_ HB.out)); have n3_ := Aside0.mk (gs_ hg (hb_ HB.out)); clear HB; have HB := n0_; have BK148 := n1_; have GW148 := n2_; have GE148 := n3_; clear n0_ n1_ n2_ n3_; clear hb hbox hg))
 (try simp only [Act.put, List.setIfInBounds_toArray, List.set_cons_zero, List.set_cons_succ])
 go_cut [20] (fun v20 wc => ∃ (kq : Nat) (x20_1 : Bool), v20 = .bool x20_1 ∧ Aside0 (fencepostref07_Right.j0 kq x20_1 l0_0 l0_1 = some r) ∧ Aside0 (kq ≤ k) ∧ Aside0 (wc.heap[gb148]? = some (.cells #[(.slice A0_0 l0_0.length c0_0), (.slice A0_1 l0_1.length c0_1)] 25 (0, 0))) ∧ Aside0 (Below w.heap.size w wc))
 case first =>
  have H := HC2.out
  clear HC2
  by_cases c4 : (l0_0.length : Int) > 4
  ·rw [if_pos c4] at H
   have c4b0 : decide (4 < (l0_0.length : Int)) = true := decide_eq_true c4
   have c4b1 : decide (4 < l0_0.length) = true := decide_eq_true (by omega)
   clear c4
   (first | rw [c4b0] | (simp only [i64_w, i32_w]; rw [c4b0]) | skip)
   have H' := Aside0.mk H
   clear H
   have hcz5_0 : w3.cell? ⟨gb148, 0, none⟩ = some (.slice A0_0 l0_0.length c0_0) := (blk_cell BK148.out 0).trans rfl
   have hcz5_1 : w3.cell? ⟨gb148, 1, none⟩ = some (.slice A0_1 l0_1.length c0_1) := (blk_cell BK148.out 1).trans rfl
   have hfz5_0 := blk_frozen BK148.out 0
   have hfz5_1 := blk_frozen BK148.out 1
   go_wp2
   go_meet
   case rel => exact ⟨_, (true), rf_, H', ⟨by first | omega | exact Nat.le_refl _⟩, ⟨bd_ BK148.out⟩, ⟨hb_ HB.out⟩⟩
  rw [if_neg c4] at H
  have c4b0 : decide (4 < (l0_0.length : Int)) = false := decide_eq_false c4
  have c4b1 : decide (4 < l0_0.length) = false := decide_eq_false (by omega)
  clear c4
  (first | rw [c4b0] | (simp only [i64_w, i32_w]; rw [c4b0]) | skip)
  by_cases c6 : (l0_1.length : Int) < 1
  ·rw [if_pos c6] at H
   have c6b0 : decide ((l0_1.length : Int) < 1) = true := decide_eq_true c6
   have c6b1 : decide (l0_1.length < 1) = true := decide_eq_true (by omega)
   clear c6
   have H' := Aside0.mk H
   clear H
   have hcz7_0 : w3.cell? ⟨gb148, 0, none⟩ = some (.slice A0_0 l0_0.length c0_0) := (blk_cell BK148.out 0).trans rfl
   have hcz7_1 : w3.cell? ⟨gb148, 1, none⟩ = some (.slice A0_1 l0_1.length c0_1) := (blk_cell BK148.out 1).trans rfl
   have hfz7_0 := blk_frozen BK148.out 0
   have hfz7_1 := blk_frozen BK148.out 1
   go_wp2
   go_meet
   case rel => exact ⟨_, (true), rf_, H', ⟨by first | omega | exact Nat.le_refl _⟩, ⟨bd_ BK148.out⟩, ⟨hb_ HB.out⟩⟩
  rw [if_neg c6] at H
  have c6b0 : decide ((l0_1.length : Int) < 1) = false := decide_eq_false c6
  have c6b1 : decide (l0_1.length < 1) = false := decide_eq_false (by omega)
  clear c6
  have H' := Aside0.mk H
  clear H
  have hcz8_0 : w3.cell? ⟨gb148, 0, none⟩ = some (.slice A0_0 l0_0.length c0_0) := (blk_cell BK148.out 0).trans rfl
  have hcz8_1 : w3.cell? ⟨gb148, 1, none⟩ = some (.slice A0_1 l0_1.length c0_1) := (blk_cell BK148.out 1).trans rfl
  have hfz8_0 := blk_frozen BK148.out 0
  have hfz8_1 := blk_frozen BK148.out 1
  go_wp2
  go_meet
  case rel => exact ⟨_, (decide ((l0_1.length : Int) > 3)), rf_, H', ⟨by first | omega | exact Nat.le_refl _⟩, ⟨bd_ BK148.out⟩, ⟨hb_ HB.out⟩⟩
 clear HC2
 obtain ⟨kq, x20_1, rfl, HA, HJ1, BK148, HB⟩ := hcut
 cases kq with
 | zero => exact absurd HA.out (by simp [fencepostref07_Right.j0])
 | succ kj1 => ?_
 have H := HA.out
 clear HA
 simp only [fencepostref07_Right.j0] at H
 by_cases c9 : x20_1 = true
 ·subst c9
  have H1 : (some false) = some r := by rw [if_pos rfl] at H; exact H
  clear H
  have H := H1
  clear H1
  obtain rfl := Option.some.inj H
  go_wp2
  go_ret
  exact ⟨by first | rfl | (simp [errW_none, errW_some] <;> rfl) | (simp [*, errW_none, errW_some] <;> rfl), hb_ HB.out⟩
 replace c9 := Bool.eq_false_iff.mpr c9
 subst c9
 have H1 : (fencepostref07_Right.l0 kj1 0 l0_0 l0_1) = some r := by rw [if_neg (show ¬ (false = true) by decide)] at H; exact H
 clear H
 have H := H1
 clear H1
 have H' := Aside0.mk H
 clear H
 go_wp2
 go_loopg [3] kj1 (fun kq v3 w' => ∃ (x3_2 : Int), v3 = .int .i64 x3_2 ∧ Aside0 (fencepostref07_Right.l0 kq x3_2 l0_0 l0_1 = some r) ∧ Aside0 (kq ≤ kj1) ∧ Aside0 (w'.heap[gb148]? = some (.cells #[(.slice A0_0 l0_0.length c0_0), (.slice A0_1 l0_1.length c0_1)] 25 (0, 0))) ∧ Aside0 (Below w.heap.size w w'))
 case atStart => exact ⟨(0), rf_, H', ⟨Nat.le_refl _⟩, ⟨bd_ BK148.out⟩, ⟨hb_ HB.out⟩⟩
 clear H'
 try clear c9
 obtain ⟨x3_2, rfl, HA, HK2, BK148, HB⟩ := hrel
 cases gk with
 | zero => exact absurd HA.out (by simp [fencepostref07_Right.l0])
 | succ k2 => ?_
 have H := HA.out
 clear HA
 simp only [fencepostref07_Right.l0] at H
 by_cases c10 : x3_2 < (l0_1.length : Int)
 rotate_left
 ·rw [if_neg c10] at H
  have c10b0 : decide (x3_2 < (l0_1.length : Int)) = false := decide_eq_false c10
  clear c10
  obtain rfl := Option.some.inj H
  have hcz28_0 : wr.cell? ⟨gb148, 0, none⟩ = some (.slice A0_0 l0_0.length c0_0) := (blk_cell BK148.out 0).trans rfl
  have hcz28_1 : wr.cell? ⟨gb148, 1, none⟩ = some (.slice A0_1 l0_1.length c0_1) := (blk_cell BK148.out 1).trans rfl
  have hfz28_0 := blk_frozen BK148.out 0
  have hfz28_1 := blk_frozen BK148.out 1
  go_wp2
  go_ret
  exact ⟨by first | rfl | (simp [errW_none, errW_some] <;> rfl) | (simp [*, errW_none, errW_some] <;> rfl), hb_ HB.out⟩
 rw [if_pos c10] at H
 have c10b0 : decide (x3_2 < (l0_1.length : Int)) = true := decide_eq_true c10
 clear c10
 by_cases c11 : 0 ≤ x3_2
 rotate_left
 ·rw [if_neg c11] at H
  exact absurd H (by simp)
 rw [if_pos c11] at H
 have c11b0 : decide (0 ≤ x3_2) = true := decide_eq_true c11
 clear c11
 by_cases c12 : ((rd_L3 l0_1 x3_2).length : Int) > 80
 ·rw [if_pos c12] at H
  have c12b0 : decide (80 < ((rd_L3 l0_1 x3_2).length : Int)) = true := decide_eq_true c12
  have c12b1 : decide (80 < (rd_L3 l0_1 x3_2).length) = true := decide_eq_true (by omega)
  clear c12
  obtain rfl := Option.some.inj H
  have hcz13_0 : wr.cell? ⟨gb148, 0, none⟩ = some (.slice A0_0 l0_0.length c0_0) := (blk_cell BK148.out 0).trans rfl
  have hcz13_1 : wr.cell? ⟨gb148, 1, none⟩ = some (.slice A0_1 l0_1.length c0_1) := (blk_cell BK148.out 1).trans rfl
  have hfz13_0 := blk_frozen BK148.out 0
  have hfz13_1 := blk_frozen BK148.out 1
  have p149 : 0 ≤ (x3_2 : Int) := of_decide_eq_true as_
  have q149 : x3_2 < (l0_1.length : Int) := of_decide_eq_true as_
  obtain ⟨ad149, A149_0, c149_0, e149, hx149_0, hl149_0, hi149_0⟩ := at_L3 HR0_1.out x3_2 p149 q149
  cases e149
  replace hx149_0 := cl_ HB.out hx149_0
  have HR149_0 := Aside0.mk hi149_0
  have HC149_0 := Aside0.mk hl149_0
  clear hi149_0 hl149_0
  replace p149 := eq_true p149
  replace q149 := eq_true q149
  go_wp2
  go_ret
  exact ⟨by first | rfl | (simp [errW_none, errW_some] <;> rfl) | (simp [*, errW_none, errW_some] <;> rfl), hb_ HB.out⟩
 rw [if_neg c12] at H
 have c12b0 : decide (80 < ((rd_L3 l0_1 x3_2).length : Int)) = false := decide_eq_false c12
 have c12b1 : decide (80 < (rd_L3 l0_1 x3_2).length) = false := decide_eq_false (by omega)
 clear c12
 have H' := Aside0.mk H
 clear H
 have hcz14_0 : wr.cell? ⟨gb148, 0, none⟩ = some (.slice A0_0 l0_0.length c0_0) := (blk_cell BK148.out 0).trans rfl
 have hcz14_1 : wr.cell? ⟨gb148, 1, none⟩ = some (.slice A0_1 l0_1.length c0_1) := (blk_cell BK148.out 1).trans rfl
 have hfz14_0 := blk_frozen BK148.out 0
 have hfz14_1 := blk_frozen BK148.out 1
 have p149 : 0 ≤ (x3_2 : Int) := of_decide_eq_true as_
 have q149 : x3_2 < (l0_1.length : Int) := of_decide_eq_true as_
 obtain ⟨ad149, A149_0, c149_0, e149, hx149_0, hl149_0, hi149_0⟩ := at_L3 HR0_1.out x3_2 p149 q149
 cases e149
 replace hx149_0 := cl_ HB.out hx149_0
 have HR149_0 := Aside0.mk hi149_0
 have HC149_0 := Aside0.mk hl149_0
 clear hi149_0 hl149_0
 replace p149 := eq_true p149
 replace q149 := eq_true q149
 go_wp2
 go_loopg [4] k2 (fun kq v4 w' => ∃ (x4_3 : Int), v4 = .int .i64 x4_3 ∧ Aside0 (fencepostref07_Right.l1 kq x3_2 x4_3 l0_0 l0_1 = some r) ∧ Aside0 (kq ≤ k2) ∧ Aside0 (w'.heap[gb148]? = some (.cells #[(.slice A0_0 l0_0.length c0_0), (.slice (some ad149) l0_1.length c0_1)] 25 (0, 0))) ∧ Aside0 (Below w.heap.size w w'))
 case atStart => exact ⟨(0), rf_, H', ⟨Nat.le_refl _⟩, ⟨bd_ BK148.out⟩, ⟨hb_ HB.out⟩⟩
 clear H'
 try clear c9
 try clear c10
 try clear c10b0
 try clear c11
 try clear c11b0
 try clear c12
 try clear c12b0
 try clear c12b1
 try clear hcz14_0
 try clear hcz14_1
 try clear hfz14_0
 try clear hfz14_1
 try clear hx149_0
 try clear p149
 try clear q149
 obtain ⟨x4_3, rfl, HA, HK3, BK148, HB⟩ := hrel
 cases gk with
 | zero => exact absurd HA.out (by simp [fencepostref07_Right.l1])
 | succ k3 => ?_
 have H := HA.out
 clear HA
 simp only [fencepostref07_Right.l1] at H
 by_cases c15 : 0 ≤ x3_2
 rotate_left
 ·rw [if_neg c15] at H
  exact absurd H (by simp)
 rw [if_pos c15] at H
 have c15b0 : decide (0 ≤ x3_2) = true := decide_eq_true c15
 clear c15
 by_cases c16 : x3_2 < (l0_1.length : Int)
 rotate_left
 ·rw [if_neg c16] at H
  exact absurd H (by simp)
 rw [if_pos c16] at H
 have c16b0 : decide (x3_2 < (l0_1.length : Int)) = true := decide_eq_true c16
 clear c16
 by_cases c17 : x4_3 < ((rd_L3 l0_1 x3_2).length : Int)
 rotate_left
 ·rw [if_neg c17] at H
  have c17b0 : decide (x4_3 < ((rd_L3 l0_1 x3_2).length : Int)) = false := decide_eq_false c17
  clear c17
  have H' := Aside0.mk H
  clear H
  have hcz27_0 : wr.cell? ⟨gb148, 0, none⟩ = some (.slice A0_0 l0_0.length c0_0) := (blk_cell BK148.out 0).trans rfl
  have hcz27_1 : wr.cell? ⟨gb148, 1, none⟩ = some (.slice (some ad149) l0_1.length c0_1) := (blk_cell BK148.out 1).trans rfl
  have hfz27_0 := blk_frozen BK148.out 0
  have hfz27_1 := blk_frozen BK148.out 1
  have p150 : 0 ≤ (x3_2 : Int) := of_decide_eq_true as_
  have q150 : x3_2 < (l0_1.length : Int) := of_decide_eq_true as_
  obtain ⟨ad150, A150_0, c150_0, e150, hx150_0, hl150_0, hi150_0⟩ := at_L3 HR0_1.out x3_2 p150 q150
  obtain rfl : ad149 = ad150 := (by injection e150)
  replace hx150_0 := cl_ HB.out hx150_0
  have HR150_0 := Aside0.mk hi150_0
  have HC150_0 := Aside0.mk hl150_0
  clear hi150_0 hl150_0
  replace p150 := eq_true p150
  replace q150 := eq_true q150
  go_wp2
  go_roundg k3
  case measure => have := HJ1.out; have := HK2.out; have := HK3.out; omega
  case rel => exact ⟨(wrap64 (x3_2 + 1)), rf_, H', ⟨by have := HJ1.out; have := HK2.out; have := HK3.out; omega⟩, ⟨bd_ BK148.out⟩, ⟨hb_ HB.out⟩⟩
 rw [if_pos c17] at H
 have c17b0 : decide (x4_3 < ((rd_L3 l0_1 x3_2).length : Int)) = true := decide_eq_true c17
 clear c17
 by_cases c18 : 0 ≤ x4_3
 rotate_left
 ·rw [if_neg c18] at H
  exact absurd H (by simp)
 rw [if_pos c18] at H
 have c18b0 : decide (0 ≤ x4_3) = true := decide_eq_true c18
 clear c18
 replace H := Option.bind_eq_some_iff.mp H
 obtain ⟨t154, A190, H⟩ := H
 replace H : (if t154 = true then (fencepostref07_Right.l1 k3 x3_2 (wrap64 (x4_3 + 1)) l0_0 l0_1) else (some false)) = some r := H
 have A19 := Aside0.mk A190
 clear A190
 by_cases c20 : t154 = true
 rotate_left
 ·replace c20 := Bool.eq_false_iff.mpr c20
  subst c20
  have H1 : (some false) = some r := by rw [if_neg (show ¬ (false = true) by decide)] at H; exact H
  clear H
  have H := H1
  clear H1
  obtain rfl := Option.some.inj H
  have hcz24_0 : wr.cell? ⟨gb148, 0, none⟩ = some (.slice A0_0 l0_0.length c0_0) := (blk_cell BK148.out 0).trans rfl
  have hcz24_1 : wr.cell? ⟨gb148, 1, none⟩ = some (.slice (some ad149) l0_1.length c0_1) := (blk_cell BK148.out 1).trans rfl
  have hfz24_0 := blk_frozen BK148.out 0
  have hfz24_1 := blk_frozen BK148.out 1
  have p150 : 0 ≤ (x3_2 : Int) := of_decide_eq_true as_
  have q150 : x3_2 < (l0_1.length : Int) := of_decide_eq_true as_
  obtain ⟨ad150, A150_0, c150_0, e150, hx150_0, hl150_0, hi150_0⟩ := at_L3 HR0_1.out x3_2 p150 q150
  obtain rfl : ad149 = ad150 := (by injection e150)
  replace hx150_0 := cl_ HB.out hx150_0
  have HR150_0 := Aside0.mk hi150_0
  have HC150_0 := Aside0.mk hl150_0
  clear hi150_0 hl150_0
  replace p150 := eq_true p150
  replace q150 := eq_true q150
  try go_wp2
  have n0_ := Aside0.mk (blk_drew BK148.out)
  have n1_ := Aside0.mk (below_drew1 HB.out)
  clear BK148
  clear HB
  have BK148 := n0_
  have HB := n1_
  clear n0_ n1_
  have p151 : 0 ≤ (x3_2 : Int) := of_decide_eq_true as_
  have q151 : x3_2 < (l0_1.length : Int) := of_decide_eq_true as_
  obtain ⟨ad151, A151_0, c151_0, e151, hx151_0, hl151_0, hi151_0⟩ := at_L3 HR0_1.out x3_2 p151 q151
  have hw151_0 := hx151_0
  obtain rfl : ad149 = ad151 := (by injection e151)
  replace hx151_0 := cl_ HB.out hx151_0
  have HR151_0 := Aside0.mk hi151_0
  have HC151_0 := Aside0.mk hl151_0
  clear hi151_0 hl151_0
  replace p151 := eq_true p151
  replace q151 := eq_true q151
  have p152 : 0 ≤ (x4_3 : Int) := of_decide_eq_true as_
  have q152 : x4_3 < ((rd_L3 l0_1 x3_2).length : Int) := of_decide_eq_true as_
  obtain ⟨ad152, e152, hx152_0, hx152_1, hx152_2, hx152_3, hx152_4⟩ := at_T53 HR151_0.out x4_3 p152 q152
  have hw152_4 := hx152_4
  have hw152_3 := hx152_3
  have hw152_2 := hx152_2
  have hw152_1 := hx152_1
  have hw152_0 := hx152_0
  cases e152
  replace hx152_0 := cl_ HB.out hx152_0
  replace hx152_1 := cl_ HB.out hx152_1
  replace hx152_2 := cl_ HB.out hx152_2
  replace hx152_3 := cl_ HB.out hx152_3
  replace hx152_4 := cl_ HB.out hx152_4
  replace p152 := eq_true p152
  replace q152 := eq_true q152
  have p153 : 0 ≤ (x3_2 : Int) := of_decide_eq_true as_
  have q153 : x3_2 < (l0_1.length : Int) := of_decide_eq_true as_
  obtain ⟨ad153, A153_0, c153_0, e153, hx153_0, hl153_0, hi153_0⟩ := at_L3 HR0_1.out x3_2 p153 q153
  have hw153_0 := hx153_0
  obtain rfl : ad149 = ad153 := (by injection e153)
  replace hx153_0 := cl_ HB.out hx153_0
  have HR153_0 := Aside0.mk hi153_0
  have HC153_0 := Aside0.mk hl153_0
  clear hi153_0 hl153_0
  replace p153 := eq_true p153
  replace q153 := eq_true q153
  have ea_ := Option.some.inj (hx151_0.symm.trans hx153_0)
  injection ea_ with ea_ en_ ec_
  subst ea_
  subst ec_
  clear en_
  refine start_ (n := 18) (S := fun w' => w'.cell? ⟨gb148, 0, none⟩ = some (.slice A0_0 l0_0.length c0_0) ∧ w'.cell? ⟨gb148, 1, none⟩ = some (.slice (some ad149) l0_1.length c0_1) ∧ w'.cell? (ad149.add (x3_2).toNat) = some (.slice (some ad152) (rd_L3 l0_1 x3_2).length c151_0) ∧ w'.cell? (ad152.add ((x4_3).toNat * 5)) = some (.int .i64 ((rd_T53 (rd_L3 l0_1 x3_2) x4_3).f0)) ∧ w'.cell? ⟨(ad152.add ((x4_3).toNat * 5)).block, (ad152.add ((x4_3).toNat * 5)).off + 1, none⟩ = some (.int .i64 ((rd_T53 (rd_L3 l0_1 x3_2) x4_3).f1)) ∧ w'.cell? ⟨(ad152.add ((x4_3).toNat * 5)).block, (ad152.add ((x4_3).toNat * 5)).off + 2, none⟩ = some (.int .i64 ((rd_T53 (rd_L3 l0_1 x3_2) x4_3).f2)) ∧ w'.cell? ⟨(ad152.add ((x4_3).toNat * 5)).block, (ad152.add ((x4_3).toNat * 5)).off + 3, none⟩ = some (.int .i64 ((rd_T53 (rd_L3 l0_1 x3_2) x4_3).f3)) ∧ w'.cell? ⟨(ad152.add ((x4_3).toNat * 5)).block, (ad152.add ((x4_3).toNat * 5)).off + 4, none⟩ = some (.int .i64 ((rd_T53 (rd_L3 l0_1 x3_2) x4_3).f4)) ∧ w'.cell? (ad149.add (x3_2).toNat) = some (.slice (some ad152) (rd_L3 l0_1 x3_2).length c151_0)) (ds := []) (lb_ 18 0) (by kernel_rfl) rfl rfl ⟨(blk_cell BK148.out 0).trans rfl, (blk_cell BK148.out 1).trans rfl, ((HB.out.cell (World.block_lt_of_cell? w _ hw151_0)).trans hw151_0), ((HB.out.cell (World.block_lt_of_cell? w _ hw152_0)).trans hw152_0), ((HB.out.cell (World.block_lt_of_cell? w _ hw152_1)).trans hw152_1), ((HB.out.cell (World.block_lt_of_cell? w _ hw152_2)).trans hw152_2), ((HB.out.cell (World.block_lt_of_cell? w _ hw152_3)).trans hw152_3), ((HB.out.cell (World.block_lt_of_cell? w _ hw152_4)).trans hw152_4), ((HB.out.cell (World.block_lt_of_cell? w _ hw153_0)).trans hw153_0)⟩ (fun hHeld => ?_); refine with_tabW fencepostref07_Right.tab11 fencepostref07_Right.bits11 (fun HT_ HW_ => ?_)
  generalize wr.drew = w25 at BK148 HB HR151_0 HR153_0 hx151_0 hx152_0 hx152_1 hx152_2 hx152_3 hx152_4 hx153_0 hHeld ⊢
  refine pure_ (i := 1) (N := some 46) (v := ?_) (a' := ?_) (lb_ 18 2) rfl rfl (any_of HT_.out (by kernel_rfl)) (fun _ _ _ h => h) (Or.inl ⟨by rfl, ?_⟩) ?_ ?_; rotate_left; intro w'; go_simp; with_reducible rfl; rotate_left; simp only [Act.put, List.setIfInBounds_toArray, List.set_cons_zero, List.set_cons_succ, i64_w, i32_w]; rfl
  refine pure_ (i := 3) (N := some 48) (v := ?_) (a' := ?_) (lb_ 18 10) rfl rfl (any_of HT_.out (by kernel_rfl)) (fun _ _ _ h => h) (Or.inl ⟨by rfl, ?_⟩) ?_ ?_; rotate_left; intro w'; go_simp; with_reducible rfl; rotate_left; simp only [Act.put, List.setIfInBounds_toArray, List.set_cons_zero, List.set_cons_succ, i64_w, i32_w]; rfl
  refine pure_ (i := 6) (N := some 51) (v := ?_) (a' := ?_) (lb_ 18 74) rfl rfl (any_of HT_.out (by kernel_rfl)) (fun _ _ _ h => h) (Or.inl ⟨by rfl, ?_⟩) ?_ ?_; rotate_left; intro w'; go_simp; with_reducible rfl; rotate_left; simp only [Act.put, List.setIfInBounds_toArray, List.set_cons_zero, List.set_cons_succ, i64_w, i32_w]; rfl
  refine pure_ (i := 9) (N := some 54) (v := ?_) (a' := ?_) (lb_ 18 586) rfl rfl (any_of HT_.out (by kernel_rfl)) (fun _ _ _ h => h) (Or.inl ⟨by rfl, ?_⟩) ?_ ?_; rotate_left; intro w'; go_simp; with_reducible rfl; rotate_left; simp only [Act.put, List.setIfInBounds_toArray, List.set_cons_zero, List.set_cons_succ, i64_w, i32_w]; rfl
  refine pure_ (i := 10) (N := some 55) (v := ?_) (a' := ?_) (lb_ 18 1610) rfl rfl (any_of HT_.out (by kernel_rfl)) (fun _ _ _ h => h) (Or.inl ⟨by rfl, ?_⟩) ?_ ?_; rotate_left; intro w'; go_simp; with_reducible rfl; rotate_left; simp only [Act.put, List.setIfInBounds_toArray, List.set_cons_zero, List.set_cons_succ, i64_w, i32_w]; rfl
  refine pure_ (i := 12) (N := some 57) (v := ?_) (a' := ?_) (lb_ 18 5706) rfl rfl (any_of HT_.out (by kernel_rfl)) (fun _ _ _ h => h) (Or.inl ⟨by rfl, ?_⟩) ?_ ?_; rotate_left; intro w'; go_simp; with_reducible rfl; rotate_left; simp only [Act.put, List.setIfInBounds_toArray, List.set_cons_zero, List.set_cons_succ, i64_w, i32_w]; rfl
  refine take_ (i := 0) (N := some 45) (v := ?_) (a' := ?_) (lb_ 18 5707) rfl rfl (take_ofW HT_.out HW_.out (by kernel_rfl)) (fun _ _ _ h => h) (Or.inl ⟨by rfl, ?_⟩) hHeld ?_ ?_; rotate_left; rintro w' ⟨s0, s1, s2, s3, s4, s5, s6, s7, s8⟩; go_simp; with_reducible rfl; rotate_left; simp only [Act.put, List.setIfInBounds_toArray, List.set_cons_zero, List.set_cons_succ, i64_w, i32_w]; rfl
  refine take_ (i := 2) (N := some 47) (v := ?_) (a' := ?_) (lb_ 18 5711) rfl rfl (take_ofW HT_.out HW_.out (by kernel_rfl)) (fun _ _ _ h => h) (Or.inl ⟨by rfl, ?_⟩) hHeld ?_ ?_; rotate_left; rintro w' ⟨s0, s1, s2, s3, s4, s5, s6, s7, s8⟩; go_simp; with_reducible rfl; rotate_left; simp only [Act.put, List.setIfInBounds_toArray, List.set_cons_zero, List.set_cons_succ, i64_w, i32_w]; rfl
  refine pure_ (i := 4) (N := some 49) (v := ?_) (a' := ?_) (lb_ 18 5727) rfl rfl (any_of HT_.out (by kernel_rfl)) (fun _ _ _ h => h) (Or.inl ⟨by rfl, ?_⟩) ?_ ?_; rotate_left; intro w'; go_simp; with_reducible rfl; rotate_left; simp only [Act.put, List.setIfInBounds_toArray, List.set_cons_zero, List.set_cons_succ, i64_w, i32_w]; rfl
  refine take_ (i := 5) (N := some 50) (v := ?_) (a' := ?_) (lb_ 18 5759) rfl rfl (take_ofW HT_.out HW_.out (by kernel_rfl)) (fun _ _ _ h => h) (Or.inl ⟨by rfl, ?_⟩) hHeld ?_ ?_; rotate_left; rintro w' ⟨s0, s1, s2, s3, s4, s5, s6, s7, s8⟩; go_simp; with_reducible rfl; rotate_left; simp only [Act.put, List.setIfInBounds_toArray, List.set_cons_zero, List.set_cons_succ, i64_w, i32_w]; rfl
  refine pure_ (i := 7) (N := some 52) (v := ?_) (a' := ?_) (lb_ 18 5887) rfl rfl (any_of HT_.out (by kernel_rfl)) (fun _ _ _ h => h) (Or.inl ⟨by rfl, ?_⟩) ?_ ?_; rotate_left; intro w'; go_simp; with_reducible rfl; rotate_left; simp only [Act.put, List.setIfInBounds_toArray, List.set_cons_zero, List.set_cons_succ, i64_w, i32_w]; rfl
  refine take_ (i := 8) (N := some 53) (v := ?_) (a' := ?_) (lb_ 18 6143) rfl rfl (take_ofW HT_.out HW_.out (by kernel_rfl)) (fun _ _ _ h => h) (Or.inl ⟨by rfl, ?_⟩) hHeld ?_ ?_; rotate_left; rintro w' ⟨s0, s1, s2, s3, s4, s5, s6, s7, s8⟩; go_simp; with_reducible rfl; rotate_left; simp only [Act.put, List.setIfInBounds_toArray, List.set_cons_zero, List.set_cons_succ, i64_w, i32_w]; rfl
  refine take_ (i := 11) (N := some 56) (v := ?_) (a' := ?_) (lb_ 18 8191) rfl rfl (take_ofW HT_.out HW_.out (by kernel_rfl)) (fun _ _ _ h => h) (Or.inl ⟨by rfl, ?_⟩) hHeld ?_ ?_; rotate_left; rintro w' ⟨s0, s1, s2, s3, s4, s5, s6, s7, s8⟩; go_simp; with_reducible rfl; rotate_left; simp only [Act.put, List.setIfInBounds_toArray, List.set_cons_zero, List.set_cons_succ, i64_w, i32_w]; rfl
  refine pure_ (i := 13) (N := some 58) (v := ?_) (a' := ?_) (lb_ 18 16383) rfl rfl (any_of HT_.out (by kernel_rfl)) (fun _ _ _ h => h) (Or.inl ⟨by rfl, ?_⟩) ?_ ?_; rotate_left; intro w'; go_simp; with_reducible rfl; rotate_left; simp only [Act.put, List.setIfInBounds_toArray, List.set_cons_zero, List.set_cons_succ, i64_w, i32_w]; rfl
  refine take_ (i := 14) (N := some 59) (v := ?_) (a' := ?_) (lb_ 18 32767) rfl rfl (take_ofW HT_.out HW_.out (by kernel_rfl)) (fun _ _ _ h => h) (Or.inl ⟨by rfl, ?_⟩) hHeld ?_ ?_; rotate_left; rintro w' ⟨s0, s1, s2, s3, s4, s5, s6, s7, s8⟩; go_simp; with_reducible rfl; rotate_left; simp only [Act.put, List.setIfInBounds_toArray, List.set_cons_zero, List.set_cons_succ, i64_w, i32_w]; rfl
  refine pure_ (i := 15) (N := some 60) (v := ?_) (a' := ?_) (lb_ 18 65535) rfl rfl (any_of HT_.out (by kernel_rfl)) (fun _ _ _ h => h) (Or.inl ⟨by rfl, ?_⟩) ?_ ?_; rotate_left; intro w'; go_simp; with_reducible rfl; rotate_left; simp only [Act.put, List.setIfInBounds_toArray, List.set_cons_zero, List.set_cons_succ, i64_w, i32_w]; rfl
  refine one_ (i := 16) (N := some 61) (lb_ 18 131071) rfl rfl (one_of HT_.out (by kernel_rfl)) (by decide) (fun K hK => ?_)
  refine goes_ Try.func48 (by kernel_rfl) rfl #[.agg #[.slice A0_0 l0_0.length c0_0, .slice (some ad149) l0_1.length c0_1], .agg #[.int .i64 ((rd_T53 (rd_L3 l0_1 x3_2) x4_3).f0), .int .i64 ((rd_T53 (rd_L3 l0_1 x3_2) x4_3).f1), .int .i64 ((rd_T53 (rd_L3 l0_1 x3_2) x4_3).f2), .int .i64 ((rd_T53 (rd_L3 l0_1 x3_2) x4_3).f3), .int .i64 ((rd_T53 (rd_L3 l0_1 x3_2) x4_3).f4)], .int .i64 x4_3, .int .i64 ((rd_L3 l0_1 x3_2).length : Int)] (by rfl) rfl rfl ar_ ?_
  with_reducible refine (fencepostref07_right.calls k3 _ _ l0_0 _ _ l0_1 ((rd_T53 (rd_L3 l0_1 x3_2) x4_3).f0) ((rd_T53 (rd_L3 l0_1 x3_2) x4_3).f1) ((rd_T53 (rd_L3 l0_1 x3_2) x4_3).f2) ((rd_T53 (rd_L3 l0_1 x3_2) x4_3).f3) ((rd_T53 (rd_L3 l0_1 x3_2) x4_3).f4) x4_3 ((rd_L3 l0_1 x3_2).length : Int) false _ ?side1 ?side2 ?side3 ?side4 A19.out).mono ?_
  (case side1 => exact cd_ (Kd.C_below HR0_0.out HB.out))
  (case side2 => exact HC0_0.out)
  (case side3 => exact cd_ (Kd.C_below HR0_1.out HB.out))
  (case side4 => exact HC0_1.out)
  rintro e w26 ⟨rfl, hb⟩
  refine ⟨_, rfl, ?_⟩
  have n0_ := Aside0.mk (bb_ BK148.out hb)
  have n1_ := Aside0.mk (below_step (hb_ HB.out) hb)
  clear BK148
  clear HB
  have BK148 := n0_
  have HB := n1_
  clear n0_ n1_
  (try clear hb)
  (try clear hb2)
  (try clear hk)
  (try clear hi)
  refine hK.out _ _ ⟨(blk_cell BK148.out 0).trans rfl, (blk_cell BK148.out 1).trans rfl, ((HB.out.cell (World.block_lt_of_cell? w _ hw151_0)).trans hw151_0), ((HB.out.cell (World.block_lt_of_cell? w _ hw152_0)).trans hw152_0), ((HB.out.cell (World.block_lt_of_cell? w _ hw152_1)).trans hw152_1), ((HB.out.cell (World.block_lt_of_cell? w _ hw152_2)).trans hw152_2), ((HB.out.cell (World.block_lt_of_cell? w _ hw152_3)).trans hw152_3), ((HB.out.cell (World.block_lt_of_cell? w _ hw152_4)).trans hw152_4), ((HB.out.cell (World.block_lt_of_cell? w _ hw153_0)).trans hw153_0)⟩ (fun hHeld => ?_)
  clear hK K
  refine norm_ (a' := ?_) ?_ ?_
  rotate_left
  ·show Act.put _ (some 61) _ = _
   simp only [Act.put, List.setIfInBounds_toArray, List.set_cons_zero, List.set_cons_succ, i64_w, i32_w]
   rfl
  refine pure_ (i := 17) (N := some 62) (v := ?_) (a' := ?_) (lb_ 18 262143) rfl rfl (any_of HT_.out (by kernel_rfl)) (fun _ _ _ h => h) (Or.inl ⟨by rfl, ?_⟩) ?_ ?_; rotate_left; intro w'; go_simp; with_reducible rfl; rotate_left; simp only [Act.put, List.setIfInBounds_toArray, List.set_cons_zero, List.set_cons_succ, i64_w, i32_w]; rfl
  refine done_ (done_of HT_.out (by kernel_rfl)) ?_
  try go_wp2
  go_ret
  exact ⟨by first | rfl | (simp [errW_none, errW_some] <;> rfl) | (simp [*, errW_none, errW_some] <;> rfl), hb_ HB.out⟩
 subst c20
 have H1 : (fencepostref07_Right.l1 k3 x3_2 (wrap64 (x4_3 + 1)) l0_0 l0_1) = some r := by rw [if_pos rfl] at H; exact H
 clear H
 have H := H1
 clear H1
 have H' := Aside0.mk H
 clear H
 have hcz21_0 : wr.cell? ⟨gb148, 0, none⟩ = some (.slice A0_0 l0_0.length c0_0) := (blk_cell BK148.out 0).trans rfl
 have hcz21_1 : wr.cell? ⟨gb148, 1, none⟩ = some (.slice (some ad149) l0_1.length c0_1) := (blk_cell BK148.out 1).trans rfl
 have hfz21_0 := blk_frozen BK148.out 0
 have hfz21_1 := blk_frozen BK148.out 1
 have p150 : 0 ≤ (x3_2 : Int) := of_decide_eq_true as_
 have q150 : x3_2 < (l0_1.length : Int) := of_decide_eq_true as_
 obtain ⟨ad150, A150_0, c150_0, e150, hx150_0, hl150_0, hi150_0⟩ := at_L3 HR0_1.out x3_2 p150 q150
 obtain rfl : ad149 = ad150 := (by injection e150)
 replace hx150_0 := cl_ HB.out hx150_0
 have HR150_0 := Aside0.mk hi150_0
 have HC150_0 := Aside0.mk hl150_0
 clear hi150_0 hl150_0
 replace p150 := eq_true p150
 replace q150 := eq_true q150
 try go_wp2
 have n0_ := Aside0.mk (blk_drew BK148.out)
 have n1_ := Aside0.mk (below_drew1 HB.out)
 clear BK148
 clear HB
 have BK148 := n0_
 have HB := n1_
 clear n0_ n1_
 have p151 : 0 ≤ (x3_2 : Int) := of_decide_eq_true as_
 have q151 : x3_2 < (l0_1.length : Int) := of_decide_eq_true as_
 obtain ⟨ad151, A151_0, c151_0, e151, hx151_0, hl151_0, hi151_0⟩ := at_L3 HR0_1.out x3_2 p151 q151
 have hw151_0 := hx151_0
 obtain rfl : ad149 = ad151 := (by injection e151)
 replace hx151_0 := cl_ HB.out hx151_0
 have HR151_0 := Aside0.mk hi151_0
 have HC151_0 := Aside0.mk hl151_0
 clear hi151_0 hl151_0
 replace p151 := eq_true p151
 replace q151 := eq_true q151
 have p152 : 0 ≤ (x4_3 : Int) := of_decide_eq_true as_
 have q152 : x4_3 < ((rd_L3 l0_1 x3_2).length : Int) := of_decide_eq_true as_
 obtain ⟨ad152, e152, hx152_0, hx152_1, hx152_2, hx152_3, hx152_4⟩ := at_T53 HR151_0.out x4_3 p152 q152
 have hw152_4 := hx152_4
 have hw152_3 := hx152_3
 have hw152_2 := hx152_2
 have hw152_1 := hx152_1
 have hw152_0 := hx152_0
 cases e152
 replace hx152_0 := cl_ HB.out hx152_0
 replace hx152_1 := cl_ HB.out hx152_1
 replace hx152_2 := cl_ HB.out hx152_2
 replace hx152_3 := cl_ HB.out hx152_3
 replace hx152_4 := cl_ HB.out hx152_4
 replace p152 := eq_true p152
 replace q152 := eq_true q152
 have p153 : 0 ≤ (x3_2 : Int) := of_decide_eq_true as_
 have q153 : x3_2 < (l0_1.length : Int) := of_decide_eq_true as_
 obtain ⟨ad153, A153_0, c153_0, e153, hx153_0, hl153_0, hi153_0⟩ := at_L3 HR0_1.out x3_2 p153 q153
 have hw153_0 := hx153_0
 obtain rfl : ad149 = ad153 := (by injection e153)
 replace hx153_0 := cl_ HB.out hx153_0
 have HR153_0 := Aside0.mk hi153_0
 have HC153_0 := Aside0.mk hl153_0
 clear hi153_0 hl153_0
 replace p153 := eq_true p153
 replace q153 := eq_true q153
 have ea_ := Option.some.inj (hx151_0.symm.trans hx153_0)
 injection ea_ with ea_ en_ ec_
 subst ea_
 subst ec_
 clear en_
 refine start_ (n := 18) (S := fun w' => w'.cell? ⟨gb148, 0, none⟩ = some (.slice A0_0 l0_0.length c0_0) ∧ w'.cell? ⟨gb148, 1, none⟩ = some (.slice (some ad149) l0_1.length c0_1) ∧ w'.cell? (ad149.add (x3_2).toNat) = some (.slice (some ad152) (rd_L3 l0_1 x3_2).length c151_0) ∧ w'.cell? (ad152.add ((x4_3).toNat * 5)) = some (.int .i64 ((rd_T53 (rd_L3 l0_1 x3_2) x4_3).f0)) ∧ w'.cell? ⟨(ad152.add ((x4_3).toNat * 5)).block, (ad152.add ((x4_3).toNat * 5)).off + 1, none⟩ = some (.int .i64 ((rd_T53 (rd_L3 l0_1 x3_2) x4_3).f1)) ∧ w'.cell? ⟨(ad152.add ((x4_3).toNat * 5)).block, (ad152.add ((x4_3).toNat * 5)).off + 2, none⟩ = some (.int .i64 ((rd_T53 (rd_L3 l0_1 x3_2) x4_3).f2)) ∧ w'.cell? ⟨(ad152.add ((x4_3).toNat * 5)).block, (ad152.add ((x4_3).toNat * 5)).off + 3, none⟩ = some (.int .i64 ((rd_T53 (rd_L3 l0_1 x3_2) x4_3).f3)) ∧ w'.cell? ⟨(ad152.add ((x4_3).toNat * 5)).block, (ad152.add ((x4_3).toNat * 5)).off + 4, none⟩ = some (.int .i64 ((rd_T53 (rd_L3 l0_1 x3_2) x4_3).f4)) ∧ w'.cell? (ad149.add (x3_2).toNat) = some (.slice (some ad152) (rd_L3 l0_1 x3_2).length c151_0)) (ds := []) (lb_ 18 0) (by kernel_rfl) rfl rfl ⟨(blk_cell BK148.out 0).trans rfl, (blk_cell BK148.out 1).trans rfl, ((HB.out.cell (World.block_lt_of_cell? w _ hw151_0)).trans hw151_0), ((HB.out.cell (World.block_lt_of_cell? w _ hw152_0)).trans hw152_0), ((HB.out.cell (World.block_lt_of_cell? w _ hw152_1)).trans hw152_1), ((HB.out.cell (World.block_lt_of_cell? w _ hw152_2)).trans hw152_2), ((HB.out.cell (World.block_lt_of_cell? w _ hw152_3)).trans hw152_3), ((HB.out.cell (World.block_lt_of_cell? w _ hw152_4)).trans hw152_4), ((HB.out.cell (World.block_lt_of_cell? w _ hw153_0)).trans hw153_0)⟩ (fun hHeld => ?_); refine with_tabW fencepostref07_Right.tab11 fencepostref07_Right.bits11 (fun HT_ HW_ => ?_)
 generalize wr.drew = w22 at BK148 HB HR151_0 HR153_0 hx151_0 hx152_0 hx152_1 hx152_2 hx152_3 hx152_4 hx153_0 hHeld ⊢
 refine pure_ (i := 1) (N := some 46) (v := ?_) (a' := ?_) (lb_ 18 2) rfl rfl (any_of HT_.out (by kernel_rfl)) (fun _ _ _ h => h) (Or.inl ⟨by rfl, ?_⟩) ?_ ?_; rotate_left; intro w'; go_simp; with_reducible rfl; rotate_left; simp only [Act.put, List.setIfInBounds_toArray, List.set_cons_zero, List.set_cons_succ, i64_w, i32_w]; rfl
 refine pure_ (i := 3) (N := some 48) (v := ?_) (a' := ?_) (lb_ 18 10) rfl rfl (any_of HT_.out (by kernel_rfl)) (fun _ _ _ h => h) (Or.inl ⟨by rfl, ?_⟩) ?_ ?_; rotate_left; intro w'; go_simp; with_reducible rfl; rotate_left; simp only [Act.put, List.setIfInBounds_toArray, List.set_cons_zero, List.set_cons_succ, i64_w, i32_w]; rfl
 refine pure_ (i := 6) (N := some 51) (v := ?_) (a' := ?_) (lb_ 18 74) rfl rfl (any_of HT_.out (by kernel_rfl)) (fun _ _ _ h => h) (Or.inl ⟨by rfl, ?_⟩) ?_ ?_; rotate_left; intro w'; go_simp; with_reducible rfl; rotate_left; simp only [Act.put, List.setIfInBounds_toArray, List.set_cons_zero, List.set_cons_succ, i64_w, i32_w]; rfl
 refine pure_ (i := 9) (N := some 54) (v := ?_) (a' := ?_) (lb_ 18 586) rfl rfl (any_of HT_.out (by kernel_rfl)) (fun _ _ _ h => h) (Or.inl ⟨by rfl, ?_⟩) ?_ ?_; rotate_left; intro w'; go_simp; with_reducible rfl; rotate_left; simp only [Act.put, List.setIfInBounds_toArray, List.set_cons_zero, List.set_cons_succ, i64_w, i32_w]; rfl
 refine pure_ (i := 10) (N := some 55) (v := ?_) (a' := ?_) (lb_ 18 1610) rfl rfl (any_of HT_.out (by kernel_rfl)) (fun _ _ _ h => h) (Or.inl ⟨by rfl, ?_⟩) ?_ ?_; rotate_left; intro w'; go_simp; with_reducible rfl; rotate_left; simp only [Act.put, List.setIfInBounds_toArray, List.set_cons_zero, List.set_cons_succ, i64_w, i32_w]; rfl
 refine pure_ (i := 12) (N := some 57) (v := ?_) (a' := ?_) (lb_ 18 5706) rfl rfl (any_of HT_.out (by kernel_rfl)) (fun _ _ _ h => h) (Or.inl ⟨by rfl, ?_⟩) ?_ ?_; rotate_left; intro w'; go_simp; with_reducible rfl; rotate_left; simp only [Act.put, List.setIfInBounds_toArray, List.set_cons_zero, List.set_cons_succ, i64_w, i32_w]; rfl
 refine take_ (i := 0) (N := some 45) (v := ?_) (a' := ?_) (lb_ 18 5707) rfl rfl (take_ofW HT_.out HW_.out (by kernel_rfl)) (fun _ _ _ h => h) (Or.inl ⟨by rfl, ?_⟩) hHeld ?_ ?_; rotate_left; rintro w' ⟨s0, s1, s2, s3, s4, s5, s6, s7, s8⟩; go_simp; with_reducible rfl; rotate_left; simp only [Act.put, List.setIfInBounds_toArray, List.set_cons_zero, List.set_cons_succ, i64_w, i32_w]; rfl
 refine take_ (i := 2) (N := some 47) (v := ?_) (a' := ?_) (lb_ 18 5711) rfl rfl (take_ofW HT_.out HW_.out (by kernel_rfl)) (fun _ _ _ h => h) (Or.inl ⟨by rfl, ?_⟩) hHeld ?_ ?_; rotate_left; rintro w' ⟨s0, s1, s2, s3, s4, s5, s6, s7, s8⟩; go_simp; with_reducible rfl; rotate_left; simp only [Act.put, List.setIfInBounds_toArray, List.set_cons_zero, List.set_cons_succ, i64_w, i32_w]; rfl
 refine pure_ (i := 4) (N := some 49) (v := ?_) (a' := ?_) (lb_ 18 5727) rfl rfl (any_of HT_.out (by kernel_rfl)) (fun _ _ _ h => h) (Or.inl ⟨by rfl, ?_⟩) ?_ ?_; rotate_left; intro w'; go_simp; with_reducible rfl; rotate_left; simp only [Act.put, List.setIfInBounds_toArray, List.set_cons_zero, List.set_cons_succ, i64_w, i32_w]; rfl
 refine take_ (i := 5) (N := some 50) (v := ?_) (a' := ?_) (lb_ 18 5759) rfl rfl (take_ofW HT_.out HW_.out (by kernel_rfl)) (fun _ _ _ h => h) (Or.inl ⟨by rfl, ?_⟩) hHeld ?_ ?_; rotate_left; rintro w' ⟨s0, s1, s2, s3, s4, s5, s6, s7, s8⟩; go_simp; with_reducible rfl; rotate_left; simp only [Act.put, List.setIfInBounds_toArray, List.set_cons_zero, List.set_cons_succ, i64_w, i32_w]; rfl
 refine pure_ (i := 7) (N := some 52) (v := ?_) (a' := ?_) (lb_ 18 5887) rfl rfl (any_of HT_.out (by kernel_rfl)) (fun _ _ _ h => h) (Or.inl ⟨by rfl, ?_⟩) ?_ ?_; rotate_left; intro w'; go_simp; with_reducible rfl; rotate_left; simp only [Act.put, List.setIfInBounds_toArray, List.set_cons_zero, List.set_cons_succ, i64_w, i32_w]; rfl
 refine take_ (i := 8) (N := some 53) (v := ?_) (a' := ?_) (lb_ 18 6143) rfl rfl (take_ofW HT_.out HW_.out (by kernel_rfl)) (fun _ _ _ h => h) (Or.inl ⟨by rfl, ?_⟩) hHeld ?_ ?_; rotate_left; rintro w' ⟨s0, s1, s2, s3, s4, s5, s6, s7, s8⟩; go_simp; with_reducible rfl; rotate_left; simp only [Act.put, List.setIfInBounds_toArray, List.set_cons_zero, List.set_cons_succ, i64_w, i32_w]; rfl
 refine take_ (i := 11) (N := some 56) (v := ?_) (a' := ?_) (lb_ 18 8191) rfl rfl (take_ofW HT_.out HW_.out (by kernel_rfl)) (fun _ _ _ h => h) (Or.inl ⟨by rfl, ?_⟩) hHeld ?_ ?_; rotate_left; rintro w' ⟨s0, s1, s2, s3, s4, s5, s6, s7, s8⟩; go_simp; with_reducible rfl; rotate_left; simp only [Act.put, List.setIfInBounds_toArray, List.set_cons_zero, List.set_cons_succ, i64_w, i32_w]; rfl
 refine pure_ (i := 13) (N := some 58) (v := ?_) (a' := ?_) (lb_ 18 16383) rfl rfl (any_of HT_.out (by kernel_rfl)) (fun _ _ _ h => h) (Or.inl ⟨by rfl, ?_⟩) ?_ ?_; rotate_left; intro w'; go_simp; with_reducible rfl; rotate_left; simp only [Act.put, List.setIfInBounds_toArray, List.set_cons_zero, List.set_cons_succ, i64_w, i32_w]; rfl
 refine take_ (i := 14) (N := some 59) (v := ?_) (a' := ?_) (lb_ 18 32767) rfl rfl (take_ofW HT_.out HW_.out (by kernel_rfl)) (fun _ _ _ h => h) (Or.inl ⟨by rfl, ?_⟩) hHeld ?_ ?_; rotate_left; rintro w' ⟨s0, s1, s2, s3, s4, s5, s6, s7, s8⟩; go_simp; with_reducible rfl; rotate_left; simp only [Act.put, List.setIfInBounds_toArray, List.set_cons_zero, List.set_cons_succ, i64_w, i32_w]; rfl
 refine pure_ (i := 15) (N := some 60) (v := ?_) (a' := ?_) (lb_ 18 65535) rfl rfl (any_of HT_.out (by kernel_rfl)) (fun _ _ _ h => h) (Or.inl ⟨by rfl, ?_⟩) ?_ ?_; rotate_left; intro w'; go_simp; with_reducible rfl; rotate_left; simp only [Act.put, List.setIfInBounds_toArray, List.set_cons_zero, List.set_cons_succ, i64_w, i32_w]; rfl
 refine one_ (i := 16) (N := some 61) (lb_ 18 131071) rfl rfl (one_of HT_.out (by kernel_rfl)) (by decide) (fun K hK => ?_)
 refine goes_ Try.func48 (by kernel_rfl) rfl #[.agg #[.slice A0_0 l0_0.length c0_0, .slice (some ad149) l0_1.length c0_1], .agg #[.int .i64 ((rd_T53 (rd_L3 l0_1 x3_2) x4_3).f0), .int .i64 ((rd_T53 (rd_L3 l0_1 x3_2) x4_3).f1), .int .i64 ((rd_T53 (rd_L3 l0_1 x3_2) x4_3).f2), .int .i64 ((rd_T53 (rd_L3 l0_1 x3_2) x4_3).f3), .int .i64 ((rd_T53 (rd_L3 l0_1 x3_2) x4_3).f4)], .int .i64 x4_3, .int .i64 ((rd_L3 l0_1 x3_2).length : Int)] (by rfl) rfl rfl ar_ ?_
 with_reducible refine (fencepostref07_right.calls k3 _ _ l0_0 _ _ l0_1 ((rd_T53 (rd_L3 l0_1 x3_2) x4_3).f0) ((rd_T53 (rd_L3 l0_1 x3_2) x4_3).f1) ((rd_T53 (rd_L3 l0_1 x3_2) x4_3).f2) ((rd_T53 (rd_L3 l0_1 x3_2) x4_3).f3) ((rd_T53 (rd_L3 l0_1 x3_2) x4_3).f4) x4_3 ((rd_L3 l0_1 x3_2).length : Int) true _ ?side1 ?side2 ?side3 ?side4 A19.out).mono ?_
 (case side1 => exact cd_ (Kd.C_below HR0_0.out HB.out))
 (case side2 => exact HC0_0.out)
 (case side3 => exact cd_ (Kd.C_below HR0_1.out HB.out))
 (case side4 => exact HC0_1.out)
 rintro e w23 ⟨rfl, hb⟩
 refine ⟨_, rfl, ?_⟩
 have n0_ := Aside0.mk (bb_ BK148.out hb)
 have n1_ := Aside0.mk (below_step (hb_ HB.out) hb)
 clear BK148
 clear HB
 have BK148 := n0_
 have HB := n1_
 clear n0_ n1_
 (try clear hb)
 (try clear hb2)
 (try clear hk)
 (try clear hi)
 refine hK.out _ _ ⟨(blk_cell BK148.out 0).trans rfl, (blk_cell BK148.out 1).trans rfl, ((HB.out.cell (World.block_lt_of_cell? w _ hw151_0)).trans hw151_0), ((HB.out.cell (World.block_lt_of_cell? w _ hw152_0)).trans hw152_0), ((HB.out.cell (World.block_lt_of_cell? w _ hw152_1)).trans hw152_1), ((HB.out.cell (World.block_lt_of_cell? w _ hw152_2)).trans hw152_2), ((HB.out.cell (World.block_lt_of_cell? w _ hw152_3)).trans hw152_3), ((HB.out.cell (World.block_lt_of_cell? w _ hw152_4)).trans hw152_4), ((HB.out.cell (World.block_lt_of_cell? w _ hw153_0)).trans hw153_0)⟩ (fun hHeld => ?_)
 clear hK K
 refine norm_ (a' := ?_) ?_ ?_
 rotate_left
 ·show Act.put _ (some 61) _ = _
  simp only [Act.put, List.setIfInBounds_toArray, List.set_cons_zero, List.set_cons_succ, i64_w, i32_w]
  rfl
 refine pure_ (i := 17) (N := some 62) (v := ?_) (a' := ?_) (lb_ 18 262143) rfl rfl (any_of HT_.out (by kernel_rfl)) (fun _ _ _ h => h) (Or.inl ⟨by rfl, ?_⟩) ?_ ?_; rotate_left; intro w'; go_simp; with_reducible rfl; rotate_left; simp only [Act.put, List.setIfInBounds_toArray, List.set_cons_zero, List.set_cons_succ, i64_w, i32_w]; rfl
 refine done_ (done_of HT_.out (by kernel_rfl)) ?_
 try go_wp2
 go_roundg k3
 case measure => have := HJ1.out; have := HK2.out; have := HK3.out; omega
 case rel => exact ⟨(wrap64 (x4_3 + 1)), rf_, H', ⟨by have := HJ1.out; have := HK2.out; have := HK3.out; omega⟩, ⟨bd_ BK148.out⟩, ⟨hb_ HB.out⟩⟩
end Go.Proofs.Ytijpfonbeepmfaa.Print
