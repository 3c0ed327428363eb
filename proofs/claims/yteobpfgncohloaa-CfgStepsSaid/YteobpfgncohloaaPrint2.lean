-- Written by ownprint.py (this session's) with the kit's print.py: functions, contracts, rows; Lean checks it.
import Derived.Test.YteobpfgncohloaaPrint0
import Derived.Test.YteobpfgncohloaaHSq
namespace Go.Proofs.Yteobpfgncohloaa.Print
open Go.RowKit Go.Proofs.YteobpfgncohloaaW.PrintWords Go.Proofs.YteobpfgncohloaaW.PrintLast Go.Proofs.YteobpfgncohloaaW.PrintMore
attribute [local go_sem] max2_int min2_int max_two min_two max_three min_three max_four min_four   -- for this text's walks alone
set_option linter.unusedVariables false
set_option linter.unusedSimpArgs false
mutual
def fencepostlaw07_Great.j0 : Nat → Bool → List Int → List (List (S42)) → Option (Bool)
 | 0, _, _, _ => none
 | k + 1, x13, x162000, x162001 => if x13 = true then (some true) else (fencepostlaw07_Great.l0 k 0 x162000 x162001)
def fencepostlaw07_Great.l0 : Nat → Int → List Int → List (List (S42)) → Option (Bool)
 | 0, _, _, _ => none
 | k + 1, x3, x162000, x162001 => if x3 < (x162001.length : Int) then (if 0 ≤ x3 then (if ((rd_L2 x162001 x3).length : Int) > 300 then (some true) else (fencepostlaw07_Great.l0 k (wrap64 (x3 + 1)) x162000 x162001)) else (none)) else (some false)
end
def fencepostlaw07_Great.f (k : Nat) (l0_0 : List Int) (l0_1 : List (List (S42))) : Option (Bool) := if (l0_0.length : Int) > 60 then (fencepostlaw07_Great.j0 k true l0_0 l0_1) else (fencepostlaw07_Great.j0 k (decide ((l0_1.length : Int) > 9)) l0_0 l0_1)
set_option maxHeartbeats 8000000 in
set_option maxRecDepth 100000 in
theorem fencepostlaw07_Great.calls (k : Nat) (A0_0 : Option Addr) (c0_0 : Nat) (l0_0 : List Int) (A0_1 : Option Addr) (c0_1 : Nat) (l0_1 : List (List (S42))) (r : Bool) (w : World) (hr0_0 : Kd.C (Kd.int .i64) w A0_0 l0_0.length l0_0) (hc0_0 : l0_0.length ≤ c0_0) (hr0_1 : Kd.C (Kd.slice 42 k42) w A0_1 l0_1.length l0_1) (hc0_1 : l0_1.length ≤ c0_1) (h : fencepostlaw07_Great.f k l0_0 l0_1 = some r) :
 Calls Try.prog 19 #[.agg #[.slice A0_0 l0_0.length c0_0, .slice A0_1 l0_1.length c0_1]] w fun e w' => e = .returned (.bool r) ∧ Below w.heap.size w w' := by
 have hu25 := Try.underlying25
 have HR0_0 := Aside0.mk hr0_0
 have HC0_0 := Aside0.mk hc0_0
 clear hr0_0 hc0_0
 have HR0_1 := Aside0.mk hr0_1
 have HC0_1 := Aside0.mk hc0_1
 clear hr0_1 hc0_1
 have HB := Aside0.mk (Below.refl w.heap.size w)
 have H : (if (l0_0.length : Int) > 60 then (fencepostlaw07_Great.j0 k true l0_0 l0_1) else (fencepostlaw07_Great.j0 k (decide ((l0_1.length : Int) > 9)) l0_0 l0_1)) = some r := h
 clear h
 have HC2 := Aside0.mk H
 clear H
 go_enter Try.func19, Try.ntmps19
 go_upto_region 1 with (first | ((with_reducible refine gate_dst (N := 1) rfl ?_); (try (refine gate_guard (by rfl) ?_; dsimp only)); refine box_event ?hg (N := 1) ?hd (cs := #[.slice A0_0 l0_0.length c0_0, .slice A0_1 l0_1.length c0_1]) (t := 25) ?hr ?_; (case hd => rfl); (case hg => rfl); (case hr => first | (go_simp; done) | (go_simp; rfl)); intro gb161 hg w3 hbox hb; have n0_ := Aside0.mk (below_step (hb_ HB.out) hb); have n1_ := Aside0.mk (hbox); have n2_ := Aside0.mk (gs_ hg (hb_ HB.out)); have n3_ := Aside0.mk (gs_ hg (hb_ HB.out)); clear HB; have HB := n0_; have BK161 := n1_; have GW161 := n2_; have GE161 := n3_; clear n0_ n1_ n2_ n3_; clear hb hbox hg))
 (try simp only [Act.put, List.setIfInBounds_toArray, List.set_cons_zero, List.set_cons_succ])
 go_cut [13] (fun v13 wc => ∃ (kq : Nat) (x13_1 : Bool), v13 = .bool x13_1 ∧ Aside0 (fencepostlaw07_Great.j0 kq x13_1 l0_0 l0_1 = some r) ∧ Aside0 (kq ≤ k) ∧ Aside0 (wc.heap[gb161]? = some (.cells #[(.slice A0_0 l0_0.length c0_0), (.slice A0_1 l0_1.length c0_1)] 25 (0, 0))) ∧ Aside0 (Below w.heap.size w wc))
 case first =>
  have H := HC2.out
  clear HC2
  by_cases c4 : (l0_0.length : Int) > 60
  ·rw [if_pos c4] at H
   have c4b0 : decide (60 < (l0_0.length : Int)) = true := decide_eq_true c4
   have c4b1 : decide (60 < l0_0.length) = true := decide_eq_true (by omega)
   clear c4
   (first | rw [c4b0] | (simp only [i64_w, i32_w]; rw [c4b0]) | skip)
   have H' := Aside0.mk H
   clear H
   have hcz5_0 : w3.cell? ⟨gb161, 0, none⟩ = some (.slice A0_0 l0_0.length c0_0) := (blk_cell BK161.out 0).trans rfl
   have hcz5_1 : w3.cell? ⟨gb161, 1, none⟩ = some (.slice A0_1 l0_1.length c0_1) := (blk_cell BK161.out 1).trans rfl
   have hfz5_0 := blk_frozen BK161.out 0
   have hfz5_1 := blk_frozen BK161.out 1
   go_wp2
   go_meet
   case rel => exact ⟨_, (true), rf_, H', ⟨by first | omega | exact Nat.le_refl _⟩, ⟨bd_ BK161.out⟩, ⟨hb_ HB.out⟩⟩
  rw [if_neg c4] at H
  have c4b0 : decide (60 < (l0_0.length : Int)) = false := decide_eq_false c4
  have c4b1 : decide (60 < l0_0.length) = false := decide_eq_false (by omega)
  clear c4
  (first | rw [c4b0] | (simp only [i64_w, i32_w]; rw [c4b0]) | skip)
  have H' := Aside0.mk H
  clear H
  have hcz6_0 : w3.cell? ⟨gb161, 0, none⟩ = some (.slice A0_0 l0_0.length c0_0) := (blk_cell BK161.out 0).trans rfl
  have hcz6_1 : w3.cell? ⟨gb161, 1, none⟩ = some (.slice A0_1 l0_1.length c0_1) := (blk_cell BK161.out 1).trans rfl
  have hfz6_0 := blk_frozen BK161.out 0
  have hfz6_1 := blk_frozen BK161.out 1
  go_wp2
  go_meet
  case rel => exact ⟨_, (decide ((l0_1.length : Int) > 9)), rf_, H', ⟨by first | omega | exact Nat.le_refl _⟩, ⟨bd_ BK161.out⟩, ⟨hb_ HB.out⟩⟩
 clear HC2
 obtain ⟨kq, x13_1, rfl, HA, HJ1, BK161, HB⟩ := hcut
 cases kq with
 | zero => exact absurd HA.out (by simp [fencepostlaw07_Great.j0])
 | succ kj1 => ?_
 have H := HA.out
 clear HA
 simp only [fencepostlaw07_Great.j0] at H
 by_cases c7 : x13_1 = true
 ·subst c7
  have H1 : (some true) = some r := by rw [if_pos rfl] at H; exact H
  clear H
  have H := H1
  clear H1
  obtain rfl := Option.some.inj H
  go_wp2
  go_ret
  exact ⟨by first | rfl | (simp [errW_none, errW_some] <;> rfl) | (simp [*, errW_none, errW_some] <;> rfl), hb_ HB.out⟩
 replace c7 := Bool.eq_false_iff.mpr c7
 subst c7
 have H1 : (fencepostlaw07_Great.l0 kj1 0 l0_0 l0_1) = some r := by rw [if_neg (show ¬ (false = true) by decide)] at H; exact H
 clear H
 have H := H1
 clear H1
 have H' := Aside0.mk H
 clear H
 go_wp2
 go_loopg [3] kj1 (fun kq v3 w' => ∃ (x3_2 : Int), v3 = .int .i64 x3_2 ∧ Aside0 (fencepostlaw07_Great.l0 kq x3_2 l0_0 l0_1 = some r) ∧ Aside0 (kq ≤ kj1) ∧ Aside0 (w'.heap[gb161]? = some (.cells #[(.slice A0_0 l0_0.length c0_0), (.slice A0_1 l0_1.length c0_1)] 25 (0, 0))) ∧ Aside0 (Below w.heap.size w w'))
 case atStart => exact ⟨(0), rf_, H', ⟨Nat.le_refl _⟩, ⟨bd_ BK161.out⟩, ⟨hb_ HB.out⟩⟩
 clear H'
 try clear c7
 obtain ⟨x3_2, rfl, HA, HK2, BK161, HB⟩ := hrel
 cases gk with
 | zero => exact absurd HA.out (by simp [fencepostlaw07_Great.l0])
 | succ k2 => ?_
 have H := HA.out
 clear HA
 simp only [fencepostlaw07_Great.l0] at H
 by_cases c8 : x3_2 < (l0_1.length : Int)
 rotate_left
 ·rw [if_neg c8] at H
  have c8b0 : decide (x3_2 < (l0_1.length : Int)) = false := decide_eq_false c8
  clear c8
  obtain rfl := Option.some.inj H
  have hcz13_0 : wr.cell? ⟨gb161, 0, none⟩ = some (.slice A0_0 l0_0.length c0_0) := (blk_cell BK161.out 0).trans rfl
  have hcz13_1 : wr.cell? ⟨gb161, 1, none⟩ = some (.slice A0_1 l0_1.length c0_1) := (blk_cell BK161.out 1).trans rfl
  have hfz13_0 := blk_frozen BK161.out 0
  have hfz13_1 := blk_frozen BK161.out 1
  go_wp2
  go_ret
  exact ⟨by first | rfl | (simp [errW_none, errW_some] <;> rfl) | (simp [*, errW_none, errW_some] <;> rfl), hb_ HB.out⟩
 rw [if_pos c8] at H
 have c8b0 : decide (x3_2 < (l0_1.length : Int)) = true := decide_eq_true c8
 clear c8
 by_cases c9 : 0 ≤ x3_2
 rotate_left
 ·rw [if_neg c9] at H
  exact absurd H (by simp)
 rw [if_pos c9] at H
 have c9b0 : decide (0 ≤ x3_2) = true := decide_eq_true c9
 clear c9
 by_cases c10 : ((rd_L2 l0_1 x3_2).length : Int) > 300
 ·rw [if_pos c10] at H
  have c10b0 : decide (300 < ((rd_L2 l0_1 x3_2).length : Int)) = true := decide_eq_true c10
  have c10b1 : decide (300 < (rd_L2 l0_1 x3_2).length) = true := decide_eq_true (by omega)
  clear c10
  obtain rfl := Option.some.inj H
  have hcz11_0 : wr.cell? ⟨gb161, 0, none⟩ = some (.slice A0_0 l0_0.length c0_0) := (blk_cell BK161.out 0).trans rfl
  have hcz11_1 : wr.cell? ⟨gb161, 1, none⟩ = some (.slice A0_1 l0_1.length c0_1) := (blk_cell BK161.out 1).trans rfl
  have hfz11_0 := blk_frozen BK161.out 0
  have hfz11_1 := blk_frozen BK161.out 1
  have p162 : 0 ≤ (x3_2 : Int) := of_decide_eq_true as_
  have q162 : x3_2 < (l0_1.length : Int) := of_decide_eq_true as_
  obtain ⟨ad162, A162_0, c162_0, e162, hx162_0, hl162_0, hi162_0⟩ := at_L2 HR0_1.out x3_2 p162 q162
  cases e162
  replace hx162_0 := cl_ HB.out hx162_0
  have HR162_0 := Aside0.mk hi162_0
  have HC162_0 := Aside0.mk hl162_0
  clear hi162_0 hl162_0
  replace p162 := eq_true p162
  replace q162 := eq_true q162
  go_wp2
  go_ret
  exact ⟨by first | rfl | (simp [errW_none, errW_some] <;> rfl) | (simp [*, errW_none, errW_some] <;> rfl), hb_ HB.out⟩
 rw [if_neg c10] at H
 have c10b0 : decide (300 < ((rd_L2 l0_1 x3_2).length : Int)) = false := decide_eq_false c10
 have c10b1 : decide (300 < (rd_L2 l0_1 x3_2).length) = false := decide_eq_false (by omega)
 clear c10
 have H' := Aside0.mk H
 clear H
 have hcz12_0 : wr.cell? ⟨gb161, 0, none⟩ = some (.slice A0_0 l0_0.length c0_0) := (blk_cell BK161.out 0).trans rfl
 have hcz12_1 : wr.cell? ⟨gb161, 1, none⟩ = some (.slice A0_1 l0_1.length c0_1) := (blk_cell BK161.out 1).trans rfl
 have hfz12_0 := blk_frozen BK161.out 0
 have hfz12_1 := blk_frozen BK161.out 1
 have p162 : 0 ≤ (x3_2 : Int) := of_decide_eq_true as_
 have q162 : x3_2 < (l0_1.length : Int) := of_decide_eq_true as_
 obtain ⟨ad162, A162_0, c162_0, e162, hx162_0, hl162_0, hi162_0⟩ := at_L2 HR0_1.out x3_2 p162 q162
 cases e162
 replace hx162_0 := cl_ HB.out hx162_0
 have HR162_0 := Aside0.mk hi162_0
 have HC162_0 := Aside0.mk hl162_0
 clear hi162_0 hl162_0
 replace p162 := eq_true p162
 replace q162 := eq_true q162
 go_wp2
 go_roundg k2
 case measure => have := HJ1.out; have := HK2.out; omega
 case rel => exact ⟨(wrap64 (x3_2 + 1)), rf_, H', ⟨by have := HJ1.out; have := HK2.out; omega⟩, ⟨bd_ BK161.out⟩, ⟨hb_ HB.out⟩⟩
end Go.Proofs.Yteobpfgncohloaa.Print
