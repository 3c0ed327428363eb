-- Written by ownprint.py (this session's) with the kit's print.py: functions, contracts, rows; Lean checks it.
import Derived.Test.YtphklaajolpieaaPrint0
import Derived.Test.YtphklaajolpieaaPrint1
import Derived.Test.YtphklaajolpieaaPrint3
import Derived.Test.YtphklaajolpieaaHSq
namespace Go.Proofs.Ytphklaajolpieaa.Print
open Go.RowKit Go.Proofs.YtphklaajolpieaaW.PrintWords Go.Proofs.YtphklaajolpieaaW.PrintLast Go.Proofs.YtphklaajolpieaaW.PrintMore
attribute [local go_sem] max2_int min2_int max_two min_two max_three min_three max_four min_four   -- for this text's walks alone
set_option linter.unusedVariables false
set_option linter.unusedSimpArgs false
mutual
def fencepostlaw08_Great.j0 : Nat → Bool → List Int → List (List (S36)) → Option (Bool)
 | 0, _, _, _ => none
 | k + 1, x10, x172000, x172001 => if x10 = true then (some true) else (fencepostlaw08_Great.l0 k 0 x172000 x172001)
def fencepostlaw08_Great.l0 : Nat → Int → List Int → List (List (S36)) → Option (Bool)
 | 0, _, _, _ => none
 | k + 1, x3, x172000, x172001 => if x3 < (x172001.length : Int) then (if 0 ≤ x3 then (if ((rd_L2 x172001 x3).length : Int) > 40 then (some true) else (fencepostlaw08_Great.l0 k (wrap64 (x3 + 1)) x172000 x172001)) else (none)) else (some false)
end
def fencepostlaw08_Great.f (k : Nat) (l0_0 : List Int) (l0_1 : List (List (S36))) : Option (Bool) := (fencepostlaw07_Great.f k l0_0 l0_1).bind fun t172 => (if t172 = true then (fencepostlaw08_Great.j0 k true l0_0 l0_1) else ((fencepostref07_Right.f k l0_0 l0_1).bind fun t173 => (fencepostlaw08_Great.j0 k (!t173) l0_0 l0_1)))
set_option maxHeartbeats 8000000 in
set_option maxRecDepth 100000 in
theorem fencepostlaw08_Great.calls (k : Nat) (A0_0 : Option Addr) (c0_0 : Nat) (l0_0 : List Int) (A0_1 : Option Addr) (c0_1 : Nat) (l0_1 : List (List (S36))) (r : Bool) (w : World) (hr0_0 : Kd.C (Kd.int .i64) w A0_0 l0_0.length l0_0) (hc0_0 : l0_0.length ≤ c0_0) (hr0_1 : Kd.C (Kd.slice 36 k36) w A0_1 l0_1.length l0_1) (hc0_1 : l0_1.length ≤ c0_1) (h : fencepostlaw08_Great.f k l0_0 l0_1 = some r) :
 Calls Try.prog 5 #[.agg #[.slice A0_0 l0_0.length c0_0, .slice A0_1 l0_1.length c0_1]] w fun e w' => e = .returned (.bool r) ∧ Below w.heap.size w w' := by
 have hu25 := Try.underlying25
 have HR0_0 := Aside0.mk hr0_0
 have HC0_0 := Aside0.mk hc0_0
 clear hr0_0 hc0_0
 have HR0_1 := Aside0.mk hr0_1
 have HC0_1 := Aside0.mk hc0_1
 clear hr0_1 hc0_1
 have HB := Aside0.mk (Below.refl w.heap.size w)
 have H : ((fencepostlaw07_Great.f k l0_0 l0_1).bind fun t172 => (if t172 = true then (fencepostlaw08_Great.j0 k true l0_0 l0_1) else ((fencepostref07_Right.f k l0_0 l0_1).bind fun t173 => (fencepostlaw08_Great.j0 k (!t173) l0_0 l0_1)))) = some r := h
 clear h
 have HC2 := Aside0.mk H
 clear H
 go_enter Try.func5, Try.ntmps5
 go_upto_region 1 with (first | ((with_reducible refine gate_dst (N := 1) rfl ?_); refine box_event ?hg (N := 1) ?hd (cs := #[.slice A0_0 l0_0.length c0_0, .slice A0_1 l0_1.length c0_1]) (t := 25) ?hr ?_; (case hd => rfl); (case hg => rfl); (case hr => first | (go_simp; done) | (go_simp; rfl)); intro gb171 hg w3 hbox hb; have n0_ := Aside0.mk (below_step (hb_ HB.out) hb); have n1_ := Aside0.mk (hbox); have n2_ := Aside0.mk (gs_ hg (hb_ HB.out)); have n3_ := Aside0.mk (gs_ hg (hb_ HB.out)); clear HB; have HB := n0_; have BK171 := n1_; have GW171 := n2_; have GE171 := n3_; clear n0_ n1_ n2_ n3_; clear hb hbox hg))
 (try simp only [Act.put, List.setIfInBounds_toArray, List.set_cons_zero, List.set_cons_succ])
 go_cut [10] (fun v10 wc => ∃ (kq : Nat) (x10_1 : Bool), v10 = .bool x10_1 ∧ Aside0 (fencepostlaw08_Great.j0 kq x10_1 l0_0 l0_1 = some r) ∧ Aside0 (kq ≤ k) ∧ Aside0 (wc.heap[gb171]? = some (.cells #[(.slice A0_0 l0_0.length c0_0), (.slice A0_1 l0_1.length c0_1)] 25 (0, 0))) ∧ Aside0 (Below w.heap.size w wc))
 case first =>
  have H := HC2.out
  clear HC2
  replace H := Option.bind_eq_some_iff.mp H
  obtain ⟨t172, A40, H⟩ := H
  replace H : (if t172 = true then (fencepostlaw08_Great.j0 k true l0_0 l0_1) else ((fencepostref07_Right.f k l0_0 l0_1).bind fun t173 => (fencepostlaw08_Great.j0 k (!t173) l0_0 l0_1))) = some r := H
  have A4 := Aside0.mk A40
  clear A40
  by_cases c5 : t172 = true
  ·subst c5
   have H1 : (fencepostlaw08_Great.j0 k true l0_0 l0_1) = some r := by rw [if_pos rfl] at H; exact H
   clear H
   have H := H1
   clear H1
   have H' := Aside0.mk H
   clear H
   have hcz6_0 : w3.cell? ⟨gb171, 0, none⟩ = some (.slice A0_0 l0_0.length c0_0) := (blk_cell BK171.out 0).trans rfl
   have hcz6_1 : w3.cell? ⟨gb171, 1, none⟩ = some (.slice A0_1 l0_1.length c0_1) := (blk_cell BK171.out 1).trans rfl
   have hfz6_0 := blk_frozen BK171.out 0
   have hfz6_1 := blk_frozen BK171.out 1
   go_wp2_with (first | ((with_reducible refine gate_callee (f := 11) rfl ?_); refine goesL_ (some 5) rfl rfl Try.func11 (by kernel_rfl) rfl #[.agg #[.slice A0_0 l0_0.length c0_0, .slice A0_1 l0_1.length c0_1]] rfl ar_ ?_; (with_reducible refine (fencepostlaw07_Great.calls k _ _ l0_0 _ _ l0_1 true _ ?side1 ?side2 ?side3 ?side4 A4.out).mono ?_); (case side1 => exact cd_ (Kd.C_below HR0_0.out HB.out)); (case side2 => exact HC0_0.out); (case side3 => exact cd_ (Kd.C_below HR0_1.out HB.out)); (case side4 => exact HC0_1.out); rintro e w7 ⟨rfl, hb⟩; refine ⟨_, rfl, ?_⟩; have n0_ := Aside0.mk (bb_ BK171.out hb); have n1_ := Aside0.mk (below_step (hb_ HB.out) hb); clear BK171; clear HB; have BK171 := n0_; have HB := n1_; clear n0_ n1_; (try clear hb); (try clear hb2); (try clear hk); (try clear hi)))
   go_meet
   case rel => exact ⟨_, (true), rf_, H', ⟨by first | omega | exact Nat.le_refl _⟩, ⟨bd_ BK171.out⟩, ⟨hb_ HB.out⟩⟩
  replace c5 := Bool.eq_false_iff.mpr c5
  subst c5
  have H1 : ((fencepostref07_Right.f k l0_0 l0_1).bind fun t173 => (fencepostlaw08_Great.j0 k (!t173) l0_0 l0_1)) = some r := by rw [if_neg (show ¬ (false = true) by decide)] at H; exact H
  clear H
  have H := H1
  clear H1
  replace H := Option.bind_eq_some_iff.mp H
  obtain ⟨t173, A80, H⟩ := H
  replace H : (fencepostlaw08_Great.j0 k (!t173) l0_0 l0_1) = some r := H
  have A8 := Aside0.mk A80
  clear A80
  have H' := Aside0.mk H
  clear H
  have hcz9_0 : w3.cell? ⟨gb171, 0, none⟩ = some (.slice A0_0 l0_0.length c0_0) := (blk_cell BK171.out 0).trans rfl
  have hcz9_1 : w3.cell? ⟨gb171, 1, none⟩ = some (.slice A0_1 l0_1.length c0_1) := (blk_cell BK171.out 1).trans rfl
  have hfz9_0 := blk_frozen BK171.out 0
  have hfz9_1 := blk_frozen BK171.out 1
  go_wp2_with (first | ((with_reducible refine gate_callee (f := 11) rfl ?_); refine goesL_ (some 5) rfl rfl Try.func11 (by kernel_rfl) rfl #[.agg #[.slice A0_0 l0_0.length c0_0, .slice A0_1 l0_1.length c0_1]] rfl ar_ ?_; (with_reducible refine (fencepostlaw07_Great.calls k _ _ l0_0 _ _ l0_1 false _ ?side1 ?side2 ?side3 ?side4 A4.out).mono ?_); (case side1 => exact cd_ (Kd.C_below HR0_0.out HB.out)); (case side2 => exact HC0_0.out); (case side3 => exact cd_ (Kd.C_below HR0_1.out HB.out)); (case side4 => exact HC0_1.out); rintro e w10 ⟨rfl, hb⟩; refine ⟨_, rfl, ?_⟩; have n0_ := Aside0.mk (bb_ BK171.out hb); have n1_ := Aside0.mk (below_step (hb_ HB.out) hb); clear BK171; clear HB; have BK171 := n0_; have HB := n1_; clear n0_ n1_; (try clear hb); (try clear hb2); (try clear hk); (try clear hi); have hcz11_0 : w10.cell? ⟨gb171, 0, none⟩ = some (.slice A0_0 l0_0.length c0_0) := (blk_cell BK171.out 0).trans rfl; have hcz11_1 : w10.cell? ⟨gb171, 1, none⟩ = some (.slice A0_1 l0_1.length c0_1) := (blk_cell BK171.out 1).trans rfl; have hfz11_0 := blk_frozen BK171.out 0; have hfz11_1 := blk_frozen BK171.out 1) | (go_at_call 12; (with_reducible refine (fencepostref07_Right.calls k _ _ l0_0 _ _ l0_1 t173 _ ?side1 ?side2 ?side3 ?side4 A8.out).mono ?_); (case side1 => exact cd_ (Kd.C_below HR0_0.out HB.out)); (case side2 => exact HC0_0.out); (case side3 => exact cd_ (Kd.C_below HR0_1.out HB.out)); (case side4 => exact HC0_1.out); rintro e w12 ⟨rfl, hb⟩; have n0_ := Aside0.mk (bb_ BK171.out hb); have n1_ := Aside0.mk (below_step (hb_ HB.out) hb); clear BK171; clear HB; have BK171 := n0_; have HB := n1_; clear n0_ n1_; (try clear hb); (try clear hb2); (try clear hk); (try clear hi)))
  go_meet
  case rel => exact ⟨_, (!t173), rf_, H', ⟨by first | omega | exact Nat.le_refl _⟩, ⟨bd_ BK171.out⟩, ⟨hb_ HB.out⟩⟩
 clear HC2
 obtain ⟨kq, x10_1, rfl, HA, HJ1, BK171, HB⟩ := hcut
 cases kq with
 | zero => exact absurd HA.out (by simp [fencepostlaw08_Great.j0])
 | succ kj1 => ?_
 have H := HA.out
 clear HA
 simp only [fencepostlaw08_Great.j0] at H
 by_cases c13 : x10_1 = true
 ·subst c13
  have H1 : (some true) = some r := by rw [if_pos rfl] at H; exact H
  clear H
  have H := H1
  clear H1
  obtain rfl := Option.some.inj H
  go_wp2
  go_ret
  exact ⟨by first | rfl | (simp [errW_none, errW_some] <;> rfl) | (simp [*, errW_none, errW_some] <;> rfl), hb_ HB.out⟩
 replace c13 := Bool.eq_false_iff.mpr c13
 subst c13
 have H1 : (fencepostlaw08_Great.l0 kj1 0 l0_0 l0_1) = some r := by rw [if_neg (show ¬ (false = true) by decide)] at H; exact H
 clear H
 have H := H1
 clear H1
 have H' := Aside0.mk H
 clear H
 go_wp2
 go_loopg [3] kj1 (fun kq v3 w' => ∃ (x3_2 : Int), v3 = .int .i64 x3_2 ∧ Aside0 (fencepostlaw08_Great.l0 kq x3_2 l0_0 l0_1 = some r) ∧ Aside0 (kq ≤ kj1) ∧ Aside0 (w'.heap[gb171]? = some (.cells #[(.slice A0_0 l0_0.length c0_0), (.slice A0_1 l0_1.length c0_1)] 25 (0, 0))) ∧ Aside0 (Below w.heap.size w w'))
 case atStart => exact ⟨(0), rf_, H', ⟨Nat.le_refl _⟩, ⟨bd_ BK171.out⟩, ⟨hb_ HB.out⟩⟩
 clear H'
 try clear c13
 obtain ⟨x3_2, rfl, HA, HK2, BK171, HB⟩ := hrel
 cases gk with
 | zero => exact absurd HA.out (by simp [fencepostlaw08_Great.l0])
 | succ k2 => ?_
 have H := HA.out
 clear HA
 simp only [fencepostlaw08_Great.l0] at H
 by_cases c14 : x3_2 < (l0_1.length : Int)
 rotate_left
 ·rw [if_neg c14] at H
  have c14b0 : decide (x3_2 < (l0_1.length : Int)) = false := decide_eq_false c14
  clear c14
  obtain rfl := Option.some.inj H
  have hcz19_0 : wr.cell? ⟨gb171, 0, none⟩ = some (.slice A0_0 l0_0.length c0_0) := (blk_cell BK171.out 0).trans rfl
  have hcz19_1 : wr.cell? ⟨gb171, 1, none⟩ = some (.slice A0_1 l0_1.length c0_1) := (blk_cell BK171.out 1).trans rfl
  have hfz19_0 := blk_frozen BK171.out 0
  have hfz19_1 := blk_frozen BK171.out 1
  go_wp2
  go_ret
  exact ⟨by first | rfl | (simp [errW_none, errW_some] <;> rfl) | (simp [*, errW_none, errW_some] <;> rfl), hb_ HB.out⟩
 rw [if_pos c14] at H
 have c14b0 : decide (x3_2 < (l0_1.length : Int)) = true := decide_eq_true c14
 clear c14
 by_cases c15 : 0 ≤ x3_2
 rotate_left
 ·rw [if_neg c15] at H
  exact absurd H (by simp)
 rw [if_pos c15] at H
 have c15b0 : decide (0 ≤ x3_2) = true := decide_eq_true c15
 clear c15
 by_cases c16 : ((rd_L2 l0_1 x3_2).length : Int) > 40
 ·rw [if_pos c16] at H
  have c16b0 : decide (40 < ((rd_L2 l0_1 x3_2).length : Int)) = true := decide_eq_true c16
  have c16b1 : decide (40 < (rd_L2 l0_1 x3_2).length) = true := decide_eq_true (by omega)
  clear c16
  obtain rfl := Option.some.inj H
  have hcz17_0 : wr.cell? ⟨gb171, 0, none⟩ = some (.slice A0_0 l0_0.length c0_0) := (blk_cell BK171.out 0).trans rfl
  have hcz17_1 : wr.cell? ⟨gb171, 1, none⟩ = some (.slice A0_1 l0_1.length c0_1) := (blk_cell BK171.out 1).trans rfl
  have hfz17_0 := blk_frozen BK171.out 0
  have hfz17_1 := blk_frozen BK171.out 1
  have p174 : 0 ≤ (x3_2 : Int) := of_decide_eq_true as_
  have q174 : x3_2 < (l0_1.length : Int) := of_decide_eq_true as_
  obtain ⟨ad174, A174_0, c174_0, e174, hx174_0, hl174_0, hi174_0⟩ := at_L2 HR0_1.out x3_2 p174 q174
  cases e174
  replace hx174_0 := cl_ HB.out hx174_0
  have HR174_0 := Aside0.mk hi174_0
  have HC174_0 := Aside0.mk hl174_0
  clear hi174_0 hl174_0
  replace p174 := eq_true p174
  replace q174 := eq_true q174
  go_wp2
  go_ret
  exact ⟨by first | rfl | (simp [errW_none, errW_some] <;> rfl) | (simp [*, errW_none, errW_some] <;> rfl), hb_ HB.out⟩
 rw [if_neg c16] at H
 have c16b0 : decide (40 < ((rd_L2 l0_1 x3_2).length : Int)) = false := decide_eq_false c16
 have c16b1 : decide (40 < (rd_L2 l0_1 x3_2).length) = false := decide_eq_false (by omega)
 clear c16
 have H' := Aside0.mk H
 clear H
 have hcz18_0 : wr.cell? ⟨gb171, 0, none⟩ = some (.slice A0_0 l0_0.length c0_0) := (blk_cell BK171.out 0).trans rfl
 have hcz18_1 : wr.cell? ⟨gb171, 1, none⟩ = some (.slice A0_1 l0_1.length c0_1) := (blk_cell BK171.out 1).trans rfl
 have hfz18_0 := blk_frozen BK171.out 0
 have hfz18_1 := blk_frozen BK171.out 1
 have p174 : 0 ≤ (x3_2 : Int) := of_decide_eq_true as_
 have q174 : x3_2 < (l0_1.length : Int) := of_decide_eq_true as_
 obtain ⟨ad174, A174_0, c174_0, e174, hx174_0, hl174_0, hi174_0⟩ := at_L2 HR0_1.out x3_2 p174 q174
 cases e174
 replace hx174_0 := cl_ HB.out hx174_0
 have HR174_0 := Aside0.mk hi174_0
 have HC174_0 := Aside0.mk hl174_0
 clear hi174_0 hl174_0
 replace p174 := eq_true p174
 replace q174 := eq_true q174
 go_wp2
 go_roundg k2
 case measure => have := HJ1.out; have := HK2.out; omega
 case rel => exact ⟨(wrap64 (x3_2 + 1)), rf_, H', ⟨by have := HJ1.out; have := HK2.out; omega⟩, ⟨bd_ BK171.out⟩, ⟨hb_ HB.out⟩⟩
def fencepostref10_Begin.l0 : Nat → Int → List Int → List (List (S36)) → List Int → List (S49) → Option (List Int × (List (S49)))
 | 0, _, _, _, _, _ => none
 | k + 1, x4, x176000, x176001, x184000, x184001 => if x4 < (x176001.length : Int) then (if 4 ≤ 35184372088832 then (if x184001.length < 2199023255552 then (fencepostref10_Begin.l0 k (wrap64 (x4 + 1)) x176000 x176001 x184000 (x184001 ++ [(⟨0, (List.replicate 4 0), false, ([] : List (S66))⟩ : S49)])) else (none)) else (none)) else (some (x184000, x184001))
def fencepostref10_Begin.f (k : Nat) (l0_0 : List Int) (l0_1 : List (List (S36))) : Option (List Int × (List (S49))) := (some (([] : List Int) : List Int)).bind fun y177 => (if y177.length + l0_0.length < 17592186044416 then (fencepostref10_Begin.l0 k 0 l0_0 l0_1 (y177 ++ l0_0) ([] : List (S49))) else (none))
def fencepostref10_Begin.T5 : Bool × List (List Nat × List Nat) := (true, [([], []), ([0], [0]), ([], []), ([2], [2]), ([3], [3]), ([1, 4], [1, 4]), ([0, 1, 2, 3, 4, 5], []), ([6, 5, 5, 0, 1, 2, 3, 4, 5], [5, 6])])
def fencepostref10_Begin.B5 : List Nat := [0, 1, 0, 4, 12, 31, 63, 127]
theorem fencepostref10_Begin.tab5 : rtab .any (opsOf Try.f13 5) = fencepostref10_Begin.T5 := by kernel_rfl
theorem fencepostref10_Begin.bits5 : waitsOk fencepostref10_Begin.T5.2 fencepostref10_Begin.B5 = true := by kernel_rfl
set_option maxHeartbeats 8000000 in
set_option maxRecDepth 100000 in
theorem fencepostref10_Begin.calls (k : Nat) (A0_0 : Option Addr) (c0_0 : Nat) (l0_0 : List Int) (A0_1 : Option Addr) (c0_1 : Nat) (l0_1 : List (List (S36))) (r1 : List Int) (r2 : List (S49)) (w : World) (hr0_0 : Kd.C (Kd.int .i64) w A0_0 l0_0.length l0_0) (hc0_0 : l0_0.length ≤ c0_0) (hr0_1 : Kd.C (Kd.slice 36 k36) w A0_1 l0_1.length l0_1) (hc0_1 : l0_1.length ≤ c0_1) (h : fencepostref10_Begin.f k l0_0 l0_1 = some (r1, r2)) :
 Calls Try.prog 13 #[.agg #[.slice A0_0 l0_0.length c0_0, .slice A0_1 l0_1.length c0_1]] w fun e w' => ∃ v0_ v1_ : Value, e = .returned (.agg #[v0_, v1_]) ∧ Kd.R (Kd.int .i64) 3 w' w.heap.size (fun _ => True) v0_ r1 ∧ Kd.S k49 49 w' w.heap.size (fun k_ => some k_ ≠ (v0_ : Value).ownBlock) v1_ r2 ∧ Below w.heap.size w w' := by
 have hu25 := Try.underlying25
 have hu41 := Try.underlying41
 have hu49 := Try.underlying49
 have HR0_0 := Aside0.mk hr0_0
 have HC0_0 := Aside0.mk hc0_0
 clear hr0_0 hc0_0
 have HR0_1 := Aside0.mk hr0_1
 have HC0_1 := Aside0.mk hc0_1
 clear hr0_1 hc0_1
 have HB := Aside0.mk (Below.refl w.heap.size w)
 have H : ((some (([] : List Int) : List Int)).bind fun y177 => (if y177.length + l0_0.length < 17592186044416 then (fencepostref10_Begin.l0 k 0 l0_0 l0_1 (y177 ++ l0_0) ([] : List (S49))) else (none))) = some (r1, r2) := h
 clear h
 obtain ⟨y177, hy177⟩ : ∃ y_ : List Int, y_ = (([] : List Int)) := ⟨_, rfl⟩
 replace H : (if y177.length + l0_0.length < 17592186044416 then (fencepostref10_Begin.l0 k 0 l0_0 l0_1 (y177 ++ l0_0) ([] : List (S49))) else (none)) = some (r1, r2) := by first | (rw [hy177]; with_reducible exact H) | (have H2_ := (Option.bind_some _ _).symm.trans H; rw [hy177]; with_reducible exact H2_) | (have H2_ := (Option.bind_some _ _).symm.trans H; with_reducible exact H2_) | with_reducible exact H | (rw [hy177]; exact H) | exact H
 have Ny177 := Aside0.mk hy177
 clear hy177
 by_cases c2 : y177.length + l0_0.length < 17592186044416
 rotate_left
 ·rw [if_neg c2] at H
  exact absurd H (by simp)
 rw [if_pos c2] at H
 have LMc2 := Aside0.mk c2
 clear c2
 obtain ⟨y180, hy180⟩ : ∃ y_ : List Int, y_ = (y177 ++ l0_0) := ⟨_, rfl⟩
 replace H : (fencepostref10_Begin.l0 k 0 l0_0 l0_1 y180 ([] : List (S49))) = some (r1, r2) := by first | (rw [hy180]; with_reducible exact H) | (have H2_ := (Option.bind_some _ _).symm.trans H; rw [hy180]; with_reducible exact H2_) | (have H2_ := (Option.bind_some _ _).symm.trans H; with_reducible exact H2_) | with_reducible exact H | (rw [hy180]; exact H) | exact H
 have Ny180 := Aside0.mk hy180
 clear hy180
 have H' := Aside0.mk H
 clear H
 go_enter Try.func13, Try.ntmps13
 go_wp2_with (first | ((with_reducible refine gate_dst (N := 1) rfl ?_); refine box_event ?hg (N := 1) ?hd (cs := #[.slice A0_0 l0_0.length c0_0, .slice A0_1 l0_1.length c0_1]) (t := 25) ?hr ?_; (case hd => rfl); (case hg => rfl); (case hr => first | (go_simp; done) | (go_simp; rfl)); intro gb175 hg w3 hbox hb; have n0_ := Aside0.mk (below_step (hb_ HB.out) hb); have n1_ := Aside0.mk (hbox); have n2_ := Aside0.mk (gs_ hg (hb_ HB.out)); have n3_ := Aside0.mk (gs_ hg (hb_ HB.out)); clear HB; have HB := n0_; have BK175 := n1_; have GW175 := n2_; have GE175 := n3_; clear n0_ n1_ n2_ n3_; clear hb hbox hg) | ((with_reducible refine gate_dst (N := 2) rfl ?_); refine box_event ?hg (N := 2) ?hd (cs := #[.slice none 0 0, .slice none 0 0]) (t := 41) ?hr ?_; (case hd => rfl); (case hg => rfl); (case hr => first | (go_simp; done) | (go_simp; rfl)); intro gb176 hg w4 hbox hb; have n0_ := Aside0.mk (bb_ BK175.out hb); have n1_ := Aside0.mk (below_step (hb_ HB.out) hb); have n2_ := Aside0.mk (hbox); have n3_ := Aside0.mk (gs_ hg (hb_ HB.out)); have n4_ := Aside0.mk (gs_ hg (hb_ HB.out)); have n5_ := Aside0.mk (gn_ hg BK175.out); have n6_ := Aside0.mk (gn_ hg BK175.out).symm; clear BK175; clear HB; have BK175 := n0_; have HB := n1_; have BK176 := n2_; have GW176 := n3_; have GE176 := n4_; have NB175_176 := n5_; have NB176_175 := n6_; clear n0_ n1_ n2_ n3_ n4_ n5_ n6_; clear hb hbox hg) | ((with_reducible refine gate_dst (N := 5) rfl ?_); refine Kd.R_lit (Kd.int .i64) _ 3 ?hg (N := 5) ?hd (xs := ([] : List Int)) (inner := []) (ok := fun _ => True) (okp := fun _ => True) ?hr ?hp (fun _ hk => hk) trivial (Below.refl _ _) (Nat.le_refl _) (by simp) ?_; (case hd => rfl); (case hg => rfl); (case hr => first | (go_simp; done) | (go_simp; rfl)); (case hp => exact (Reps.none _ _)); intro v178 w5 ho6 hb hg_ hnew_; clear hg_ hnew_; (first | rw [← Ny177.out] at ho6 | (simp only [Int.reduceToNat] at ho6; rw [← Ny177.out] at ho6)); have n0_ := Aside0.mk (Kd.R_lower ho6 (below_size (hb_ HB.out))); have n1_ := Aside0.mk (bb_ BK175.out hb); have n2_ := Aside0.mk (bb_ BK176.out hb); have n3_ := Aside0.mk (below_step (hb_ HB.out) hb); clear BK175; clear BK176; clear HB; have HO179 := n0_; have BK175 := n1_; have BK176 := n2_; have HB := n3_; clear n0_ n1_ n2_ n3_; clear hb ho6; have hnb7 := NB175_176.out; have hnc7 := NB176_175.out; have hcz8_0 : w5.cell? ⟨gb175, 0, none⟩ = some (.slice A0_0 l0_0.length c0_0) := (blk_cell BK175.out 0).trans rfl; have hcz8_1 : w5.cell? ⟨gb175, 1, none⟩ = some (.slice A0_1 l0_1.length c0_1) := (blk_cell BK175.out 1).trans rfl; have hfz8_0 := blk_frozen BK175.out 0; have hfz8_1 := blk_frozen BK175.out 1) | ((with_reducible refine gate_builtin (b := .append) (xs := #[.tmp 5, .tmp 7]) rfl ?_); at_builtin; refine Kd.R_append_rows (Kd.int .i64) (w0 := w) w.heap.size rfl (.tmp 5) (.tmp 7) 22 3 (.int .i64 0) 8 rfl Try.underlying22 info3 rfl (by decide) (by omega) v178 y177 l0_0 _ _ _ (fun _ => True) (fun _ => False) rfl rfl ?aO ?aR (fun _ _ h => h) (fun _ h => h.elim) ?aF ?aB ?aS ?aL ?_; (case aR => repeat (first | exact (Kd.C_below HR0_0.out HB.out) | (with_reducible refine Kd.C_alloc ?_ _) | (with_reducible refine Kd.C_drewN ?_ _) | (with_reducible refine Kd.C_drew ?_))); (case aB => exact (hb_ HB.out)); (case aF => exact (fun _ _ => trivial)); (case aO => exact (rd_ HO179.out)); (case aS => exact (below_size (hb_ HB.out))); (case aL => have := LMc2.out; omega); intro v181 w9 ho hb hg hat; rw [← Ny180.out] at ho; have n0_ := Aside0.mk (blk_grown (g := gb175) (o := .cells #[.slice A0_0 l0_0.length c0_0, .slice A0_1 l0_1.length c0_1] 25 (0, 0)) (bd_ BK175.out) hg (Kd.R_ne HO179.out BK175.out (by decide))); have n1_ := Aside0.mk (blk_grown (g := gb176) (o := .cells #[.slice none 0 0, .slice none 0 0] 41 (0, 0)) (bd_ BK176.out) hg (Kd.R_ne HO179.out BK176.out (by decide))); have n2_ := Aside0.mk (hb); have n3_ := Aside0.mk (ho); clear BK175; clear BK176; clear HB; clear HO179; have BK175 := n0_; have BK176 := n1_; have HB := n2_; have HO182 := n3_; clear n0_ n1_ n2_ n3_; clear ho hb hg hat; obtain ⟨Ao10, co10, eo10⟩ := Kd.R_slice HO182.out; subst eo10) | ((with_reducible refine gate_dst (N := 3) rfl ?_); refine box_event ?hg (N := 3) ?hd (cs := #[.slice none 0 0, .slice none 0 0]) (t := 41) ?hr ?_; (case hd => rfl); (case hg => rfl); (case hr => first | (go_simp; done) | (go_simp; rfl)); intro gb183 hg w11 hbox hb; have n0_ := Aside0.mk (Kd.R_below (rd_ HO182.out) hb); have n1_ := Aside0.mk (bb_ BK175.out hb); have n2_ := Aside0.mk (bb_ BK176.out hb); have n3_ := Aside0.mk (below_step (hb_ HB.out) hb); have n4_ := Aside0.mk (hbox); have n5_ := Aside0.mk (gs_ hg (hb_ HB.out)); have n6_ := Aside0.mk (gs_ hg (hb_ HB.out)); have n7_ := Aside0.mk (gn_ hg BK175.out); have n8_ := Aside0.mk (gn_ hg BK175.out).symm; have n9_ := Aside0.mk (gn_ hg BK176.out); have n10_ := Aside0.mk (gn_ hg BK176.out).symm; clear HO182; clear BK175; clear BK176; clear HB; have HO182 := n0_; have BK175 := n1_; have BK176 := n2_; have HB := n3_; have BK183 := n4_; have GW183 := n5_; have GE183 := n6_; have NB175_183 := n7_; have NB183_175 := n8_; have NB176_183 := n9_; have NB183_176 := n10_; clear n0_ n1_ n2_ n3_ n4_ n5_ n6_ n7_ n8_ n9_ n10_; clear hb hbox hg; have hnb12 := NB183_175.out; have hnc12 := NB175_183.out; have hnb13 := NB183_176.out; have hnc13 := NB176_183.out; have hcz14_0 : w11.cell? ⟨gb183, 0, none⟩ = some (.slice none 0 0) := (blk_cell BK183.out 0).trans rfl; have hcz14_1 : w11.cell? ⟨gb183, 1, none⟩ = some (.slice none 0 0) := (blk_cell BK183.out 1).trans rfl; have hfz14_0 := blk_frozen BK183.out 0; have hfz14_1 := blk_frozen BK183.out 1))
 go_loopg [4] k (fun kq v4 w' => ∃ (x4_1 : Int) (x184001_1 : List (S49)) (u184001 : Value), v4 = .int .i64 x4_1 ∧ Aside0 (fencepostref10_Begin.l0 kq x4_1 l0_0 l0_1 y180 x184001_1 = some (r1, r2)) ∧ Aside0 (kq ≤ k) ∧ Aside0 (Kd.R (Kd.int .i64) 3 w' w.heap.size (fun _ => True) (.slice Ao10 y180.length co10) y180) ∧ Aside0 (Kd.S k49 49 w' w.heap.size (fun k_ => some k_ ≠ ((.slice Ao10 y180.length co10) : Value).ownBlock) u184001 x184001_1) ∧ Aside0 (w'.heap[gb175]? = some (.cells #[(.slice A0_0 l0_0.length c0_0), (.slice A0_1 l0_1.length c0_1)] 25 (0, 0))) ∧ Aside0 (w'.heap[gb176]? = some (.cells #[(.slice none 0 0), (.slice none 0 0)] 41 (0, 0))) ∧ Aside0 (w'.heap[gb183]? = some (.cells #[(.slice Ao10 y180.length co10), u184001] 41 (0, 0))) ∧ Aside0 (Below w.heap.size w w'))
 case atStart => exact ⟨(0), (([] : List (S49))), (.slice none 0 0), rf_, H', ⟨Nat.le_refl _⟩, ⟨by (with_reducible repeat (first | apply Kd.R_alloc | apply Kd.R_drewN | apply Kd.R_drew)); exact Kd.R_mono (Kd.R_far (p := ⟨gb183, 1, none⟩) (Kd.R_far (p := ⟨gb183, 0, none⟩) (Kd.R_types HO182.out BK183.out (by decide)) (fun _ hk => hk.2) (.slice Ao10 y180.length co10)) (fun _ hk => hk.2) (.slice none 0 0)) (fun _ hk => trivial)⟩, ⟨by first | exact Kd.S_nil _ _ _ _ _ | exact Kd.N_nil _ _ _ _ _ | exact Kd.V_nil _ _ _ _ _ | exact Kd.Q_nil _ _ _ _ _ | exact Kd.R_nil _ _ _ _ _⟩, ⟨by (with_reducible repeat (first | refine blk_drewN ?_ _ | refine blk_drew ?_ | refine blk_alloc ?_ _)); refine blk_far ?_ NB175_183.out _; (with_reducible repeat (first | refine blk_drewN ?_ _ | refine blk_drew ?_ | refine blk_alloc ?_ _)); refine blk_far ?_ NB175_183.out _; (with_reducible repeat (first | refine blk_drewN ?_ _ | refine blk_drew ?_ | refine blk_alloc ?_ _)); exact BK175.out⟩, ⟨by (with_reducible repeat (first | refine blk_drewN ?_ _ | refine blk_drew ?_ | refine blk_alloc ?_ _)); refine blk_far ?_ NB176_183.out _; (with_reducible repeat (first | refine blk_drewN ?_ _ | refine blk_drew ?_ | refine blk_alloc ?_ _)); refine blk_far ?_ NB176_183.out _; (with_reducible repeat (first | refine blk_drewN ?_ _ | refine blk_drew ?_ | refine blk_alloc ?_ _)); exact BK176.out⟩, ⟨by (with_reducible repeat (first | refine blk_drewN ?_ _ | refine blk_drew ?_ | refine blk_alloc ?_ _)); refine blk_put (cs := #[.slice Ao10 y180.length co10, .slice none 0 0]) ?_ 1 _ rfl; (with_reducible repeat (first | refine blk_drewN ?_ _ | refine blk_drew ?_ | refine blk_alloc ?_ _)); refine blk_put (cs := #[.slice none 0 0, .slice none 0 0]) ?_ 0 _ rfl; (with_reducible repeat (first | refine blk_drewN ?_ _ | refine blk_drew ?_ | refine blk_alloc ?_ _)); exact BK183.out⟩, ⟨hb_ HB.out⟩⟩
 clear H'
 try clear c2
 try clear hcz14_0
 try clear hcz14_1
 try clear hcz8_0
 try clear hcz8_1
 try clear hfz14_0
 try clear hfz14_1
 try clear hfz8_0
 try clear hfz8_1
 obtain ⟨x4_1, x184001_1, u184001, rfl, HA, HK1, HO_184000, HO_184001, BK175, BK176, BK183, HB⟩ := hrel
 cases gk with
 | zero => exact absurd HA.out (by simp [fencepostref10_Begin.l0])
 | succ k1 => ?_
 have H := HA.out
 clear HA
 simp only [fencepostref10_Begin.l0] at H
 by_cases c15 : x4_1 < (l0_1.length : Int)
 rotate_left
 ·rw [if_neg c15] at H
  have c15b0 : decide (x4_1 < (l0_1.length : Int)) = false := decide_eq_false c15
  clear c15
  simp only [Option.some.injEq, Prod.mk.injEq] at H
  obtain ⟨rfl, rfl⟩ := H
  have hnb28 := NB175_176.out
  have hnc28 := NB176_175.out
  have hnb29 := NB175_183.out
  have hnc29 := NB183_175.out
  have hcz30_0 : wr.cell? ⟨gb175, 0, none⟩ = some (.slice A0_0 l0_0.length c0_0) := (blk_cell BK175.out 0).trans rfl
  have hcz30_1 : wr.cell? ⟨gb175, 1, none⟩ = some (.slice A0_1 l0_1.length c0_1) := (blk_cell BK175.out 1).trans rfl
  have hfz30_0 := blk_frozen BK175.out 0
  have hfz30_1 := blk_frozen BK175.out 1
  have hnb31 := NB183_176.out
  have hnc31 := NB176_183.out
  have hcz32_0 : wr.cell? ⟨gb183, 0, none⟩ = some (.slice Ao10 y180.length co10) := (blk_cell BK183.out 0).trans rfl
  have hcz32_1 : wr.cell? ⟨gb183, 1, none⟩ = some (u184001) := (blk_cell BK183.out 1).trans rfl
  have hfz32_0 := blk_frozen BK183.out 0
  have hfz32_1 := blk_frozen BK183.out 1
  have hcz33_0 : wr.cell? ⟨gb176, 0, none⟩ = some (.slice none 0 0) := (blk_cell BK176.out 0).trans rfl
  have hcz33_1 : wr.cell? ⟨gb176, 1, none⟩ = some (.slice none 0 0) := (blk_cell BK176.out 1).trans rfl
  have hfz33_0 := blk_frozen BK176.out 0
  have hfz33_1 := blk_frozen BK176.out 1
  obtain ⟨Ao34, co34, eo34⟩ := Kd.S_slice HO_184001.out
  subst eo34
  go_wp2
  refine bodyPost_ret (results_cell_row rfl _ _ gb176 41 #[.slice Ao10 y180.length co10, .slice Ao34 x184001_1.length co34] (0, 0) _ rfl (by (with_reducible repeat (first | refine blk_drewN ?_ _ | refine blk_drew ?_ | refine blk_alloc ?_ _)); refine blk_put (cs := #[.slice Ao10 y180.length co10, .slice none 0 0]) ?_ 1 _ rfl; (with_reducible repeat (first | refine blk_drewN ?_ _ | refine blk_drew ?_ | refine blk_alloc ?_ _)); refine blk_put (cs := #[.slice none 0 0, .slice none 0 0]) ?_ 0 _ rfl; (with_reducible repeat (first | refine blk_drewN ?_ _ | refine blk_drew ?_ | refine blk_alloc ?_ _)); exact BK176.out) Try.underlying41 rfl (by kernel_rfl)) rfl ?_
  exact ⟨_, _, by first | rfl | (simp [errW_none, errW_some] <;> rfl) | (simp [*, errW_none, errW_some] <;> rfl), by (with_reducible repeat (first | apply Kd.R_alloc | apply Kd.R_drewN | apply Kd.R_drew)); exact Kd.R_mono (Kd.R_far (p := ⟨gb176, 1, none⟩) (Kd.R_far (p := ⟨gb176, 0, none⟩) (Kd.R_types HO_184000.out BK176.out (by decide)) (fun _ hk => hk.2) (.slice Ao10 y180.length co10)) (fun _ hk => hk.2) (.slice Ao34 x184001_1.length co34)) (fun _ hk => trivial), by (with_reducible repeat (first | apply Kd.S_alloc | apply Kd.S_drewN | apply Kd.S_drew)); exact Kd.S_mono (Kd.S_far (p := ⟨gb176, 1, none⟩) (Kd.S_far (p := ⟨gb176, 0, none⟩) (Kd.S_types HO_184001.out BK176.out (by decide)) (fun _ hk => hk.2) (.slice Ao10 y180.length co10)) (fun _ hk => hk.2) (.slice Ao34 x184001_1.length co34)) (fun _ hk => hk.1), hb_ HB.out⟩
 rw [if_pos c15] at H
 have c15b0 : decide (x4_1 < (l0_1.length : Int)) = true := decide_eq_true c15
 clear c15
 by_cases c16 : 4 ≤ 35184372088832
 rotate_left
 ·rw [if_neg c16] at H
  exact absurd H (by simp)
 rw [if_pos c16] at H
 have c16b0 := eq_true c16
 have c16b1 : decide (4 ≤ 35184372088832) = true := decide_eq_true c16
 clear c16
 obtain ⟨y184, hy184⟩ : ∃ y_ : List Int, y_ = (List.replicate 4 0) := ⟨_, rfl⟩
 replace H : (if x184001_1.length < 2199023255552 then (fencepostref10_Begin.l0 k1 (wrap64 (x4_1 + 1)) l0_0 l0_1 y180 (x184001_1 ++ [(⟨0, y184, false, ([] : List (S66))⟩ : S49)])) else (none)) = some (r1, r2) := by first | (rw [hy184]; with_reducible exact H) | (have H2_ := (Option.bind_some _ _).symm.trans H; rw [hy184]; with_reducible exact H2_) | (have H2_ := (Option.bind_some _ _).symm.trans H; with_reducible exact H2_) | with_reducible exact H | (rw [hy184]; exact H) | exact H
 have Ny184 := Aside0.mk hy184
 clear hy184
 by_cases c17 : x184001_1.length < 2199023255552
 rotate_left
 ·rw [if_neg c17] at H
  exact absurd H (by simp)
 rw [if_pos c17] at H
 have LMc17 := Aside0.mk c17
 clear c17
 obtain ⟨y187, hy187⟩ : ∃ y_ : List (S49), y_ = (x184001_1 ++ [(⟨0, y184, false, ([] : List (S66))⟩ : S49)]) := ⟨_, rfl⟩
 replace H : (fencepostref10_Begin.l0 k1 (wrap64 (x4_1 + 1)) l0_0 l0_1 y180 y187) = some (r1, r2) := by first | (rw [hy187]; with_reducible exact H) | (have H2_ := (Option.bind_some _ _).symm.trans H; rw [hy187]; with_reducible exact H2_) | (have H2_ := (Option.bind_some _ _).symm.trans H; with_reducible exact H2_) | with_reducible exact H | (rw [hy187]; exact H) | exact H
 have Ny187 := Aside0.mk hy187
 clear hy187
 have H' := Aside0.mk H
 clear H
 have hnb18 := NB175_176.out
 have hnc18 := NB176_175.out
 have hnb19 := NB175_183.out
 have hnc19 := NB183_175.out
 have hcz20_0 : wr.cell? ⟨gb175, 0, none⟩ = some (.slice A0_0 l0_0.length c0_0) := (blk_cell BK175.out 0).trans rfl
 have hcz20_1 : wr.cell? ⟨gb175, 1, none⟩ = some (.slice A0_1 l0_1.length c0_1) := (blk_cell BK175.out 1).trans rfl
 have hfz20_0 := blk_frozen BK175.out 0
 have hfz20_1 := blk_frozen BK175.out 1
 try go_wp2
 have n0_ := Aside0.mk (Kd.R_drew HO_184000.out)
 have n1_ := Aside0.mk (Kd.S_drew HO_184001.out)
 have n2_ := Aside0.mk (blk_drew BK175.out)
 have n3_ := Aside0.mk (blk_drew BK176.out)
 have n4_ := Aside0.mk (blk_drew BK183.out)
 have n5_ := Aside0.mk (below_drew1 HB.out)
 clear HO_184000
 clear HO_184001
 clear BK175
 clear BK176
 clear BK183
 clear HB
 have HO_184000 := n0_
 have HO_184001 := n1_
 have BK175 := n2_
 have BK176 := n3_
 have BK183 := n4_
 have HB := n5_
 clear n0_ n1_ n2_ n3_ n4_ n5_
 refine start_ (n := 8) (S := fun w' => w'.cell? ⟨gb183, 0, none⟩ = some (.slice Ao10 y180.length co10) ∧ w'.cell? ⟨gb183, 1, none⟩ = some (u184001)) (ds := [7]) #[false, false, false, false, false, false, false, false] (by kernel_rfl) rfl rfl ⟨(blk_cell BK183.out 0).trans rfl, (blk_cell BK183.out 1).trans rfl⟩ (fun hHeld => ?_); refine with_tabW fencepostref10_Begin.tab5 fencepostref10_Begin.bits5 (fun HT_ HW_ => ?_)
 generalize wr.drew = w21 at HO_184000 HO_184001 BK175 BK176 BK183 HB hHeld ⊢
 refine pure_ (i := 0) (N := some 17) (v := ?_) (a' := ?_) #[true, false, false, false, false, false, false, false] rfl rfl (any_of HT_.out (by kernel_rfl)) (fun _ _ _ h => h) (Or.inl ⟨by rfl, ?_⟩) ?_ ?_; rotate_left; intro w'; go_simp; with_reducible rfl; rotate_left; simp only [Act.put, List.setIfInBounds_toArray, List.set_cons_zero, List.set_cons_succ, i64_w, i32_w]; rfl
 refine take_ (i := 1) (N := some 18) (v := ?_) (a' := ?_) #[true, true, false, false, false, false, false, false] rfl rfl (take_ofW HT_.out HW_.out (by kernel_rfl)) (fun _ _ _ h => h) (Or.inl ⟨by rfl, ?_⟩) hHeld ?_ ?_; rotate_left; rintro w' ⟨s0, s1⟩; go_simp; with_reducible rfl; rotate_left; simp only [Act.put, List.setIfInBounds_toArray, List.set_cons_zero, List.set_cons_succ, i64_w, i32_w]; rfl
 refine one_ (i := 2) (N := some 19) #[true, true, true, false, false, false, false, false] rfl rfl (one_of HT_.out (by kernel_rfl)) (by decide) (fun K hK => ?_)
 refine Kd.R_make_step (Kd.int .i64) _ 3 (by rfl) (N := 19) rfl 22 _ _ rfl 4 rfl rfl Try.underlying22 (.int .i64 0) 8 info3 rfl (by decide) (by omega) 0 (ok := fun _ => True) (okp := fun _ => True) rfl (fun _ hk => hk) trivial (by omega) (by omega) (Below.refl _ _) (Nat.le_refl _) ?_
 intro v185 w22 ho23 hb hg_ hnew_
 clear hg_ hnew_
 (first | rw [← Ny184.out] at ho23 | (simp only [Int.reduceToNat] at ho23; rw [← Ny184.out] at ho23))
 have n0_ := Aside0.mk (Kd.R_elder' (rd_ HO_184000.out) (Kd.R_base ho23) hb)
 have n1_ := Aside0.mk (Kd.S_elder' (sd_ HO_184001.out) (Kd.R_base ho23) hb)
 have n2_ := Aside0.mk (Kd.R_lower (Kd.R_new' ho23 (Kd.R_lt (rd_ HO_184000.out))) (below_size (hb_ HB.out)))
 have n3_ := Aside0.mk (bb_ BK175.out hb)
 have n4_ := Aside0.mk (bb_ BK176.out hb)
 have n5_ := Aside0.mk (bb_ BK183.out hb)
 have n6_ := Aside0.mk (below_step (hb_ HB.out) hb)
 clear HO_184000
 clear HO_184001
 clear BK175
 clear BK176
 clear BK183
 clear HB
 have HO_184000 := n0_
 have HO_184001 := n1_
 have HO186 := n2_
 have BK175 := n3_
 have BK176 := n4_
 have BK183 := n5_
 have HB := n6_
 clear n0_ n1_ n2_ n3_ n4_ n5_ n6_
 clear hb ho23
 obtain ⟨Ao24, co24, eo24⟩ := Kd.R_slice HO186.out
 (first | subst eo24 | (injection eo24 with f1_ f2_ f3_; have f4_ := f1_.symm; have f5_ := f3_.symm; clear f1_ f2_ f3_; subst f4_; subst f5_))
 refine hK.out _ _ ⟨(blk_cell BK183.out 0).trans rfl, (blk_cell BK183.out 1).trans rfl⟩ (fun hHeld => ?_)
 clear hK K
 refine norm_ (a' := ?_) ?_ ?_
 rotate_left
 ·show Act.put _ (some 19) _ = _
  simp only [Act.put, List.setIfInBounds_toArray, List.set_cons_zero, List.set_cons_succ, i64_w, i32_w]
  rfl
 refine pure_ (i := 3) (N := some 20) (v := ?_) (a' := ?_) #[true, true, true, true, false, false, false, false] rfl rfl (any_of HT_.out (by kernel_rfl)) (fun _ _ _ h => h) (Or.inl ⟨by rfl, ?_⟩) ?_ ?_; rotate_left; intro w'; go_simp; with_reducible rfl; rotate_left; simp only [Act.put, List.setIfInBounds_toArray, List.set_cons_zero, List.set_cons_succ, i64_w, i32_w]; rfl
 refine one_ (i := 4) (N := some 21) #[true, true, true, true, true, false, false, false] rfl rfl (one_of HT_.out (by kernel_rfl)) (by decide) (fun K hK => ?_)
 refine value_ (w1 := ?_) (v := ?_) (by rfl) rfl ?_ ?_
 rotate_left 2
 ·go_simp
  constructor
  ·rfl
  rfl
 refine hK.out _ _ ⟨(blk_cell (blk_alloc BK183.out _) 0).trans rfl, (blk_cell (blk_alloc BK183.out _) 1).trans rfl⟩ (fun hHeld => ?_)
 clear hK K
 refine norm_ (a' := ?_) ?_ ?_
 rotate_left
 ·show Act.put _ (some 21) _ = _
  simp only [Act.put, List.setIfInBounds_toArray, List.set_cons_zero, List.set_cons_succ, i64_w, i32_w]
  rfl
 refine one_ (i := 5) (N := some 22) #[true, true, true, true, true, true, false, false] rfl rfl (one_of HT_.out (by kernel_rfl)) (by decide) (fun K hK => ?_)
 refine Kd.S_append_step k49 (w0 := w) w.heap.size (by rfl) (.tmp 18) (.tmp 21) 39 49 (.agg #[(.int .i64 0), (.slice none 0 0), (.bool false), (.slice none 0 0)]) 64 rfl Try.underlying39 info49 rfl (by decide) (by omega) u184001 x184001_1 (⟨0, y184, false, ([] : List (S66))⟩ : S49) [.int .i64 0, .slice Ao24 y184.length co24, .bool false, .slice none 0 0] (fun k_ => some k_ ≠ (.slice Ao10 y180.length co10 : Value).ownBlock) (fun k_ => some k_ = (.slice Ao24 y184.length co24 : Value).ownBlock) rfl rfl ?aP (fun k_ hk_ => ((Kd.R_mono (ok' := fun k_ => ((fun k_ => some k_ ≠ (.slice Ao10 y180.length co10 : Value).ownBlock)) k_ ∧ some k_ ≠ (u184001 : Value).ownBlock) (Kd.R_apart' (HO186.out) (Kd.S_typed HO_184001.out) (by decide)) (fun k_ hk => ⟨hk.1.2, hk.2⟩))).1 k_ hk_.symm) ?aF ?aO ?aB ?aS ?aL ?_
 (case aP => exact k49_mkM _ _ _ (⟨0, y184, false, ([] : List (S66))⟩ : S49) (Kd.R_mono (Kd.R_tight rfl (Kd.R_mono (ok' := fun k_ => ((fun k_ => some k_ ≠ (.slice Ao10 y180.length co10 : Value).ownBlock)) k_ ∧ some k_ ≠ (u184001 : Value).ownBlock) (Kd.R_apart' (HO186.out) (Kd.S_typed HO_184001.out) (by decide)) (fun k_ hk => ⟨hk.1.2, hk.2⟩))) (fun _ h_ => h_)) (Kd.R_nil _ _ _ _ _))
 (case aB => exact (hb_ HB.out))
 (case aF => exact (fun k_ hk => Kd.fresh' (Kd.R_lt (rd_ HO_184000.out)) k_ hk))
 (case aO => exact (by (with_reducible repeat (first | apply Kd.S_alloc | apply Kd.S_drewN | apply Kd.S_drew)); exact Kd.S_mono HO_184001.out (fun k_ hk => ⟨hk.1, fun e_ => hk.2 e_⟩)))
 (case aS => exact (below_size (hb_ HB.out)))
 (case aL => have := LMc17.out; omega)
 intro v188 w25 ho hb hg hat
 rw [← Ny187.out] at ho
 have n0_ := Aside0.mk (Kd.R_over' (rd_ HO_184000.out) (Kd.S_typed (sd_ HO_184001.out)) (by decide) hg)
 have n1_ := Aside0.mk (blk_grown (g := gb175) (o := .cells #[.slice A0_0 l0_0.length c0_0, .slice A0_1 l0_1.length c0_1] 25 (0, 0)) (bd_ BK175.out) hg (Kd.S_ne HO_184001.out BK175.out (by decide)))
 have n2_ := Aside0.mk (blk_grown (g := gb176) (o := .cells #[.slice none 0 0, .slice none 0 0] 41 (0, 0)) (bd_ BK176.out) hg (Kd.S_ne HO_184001.out BK176.out (by decide)))
 have n3_ := Aside0.mk (blk_grown (g := gb183) (o := .cells #[.slice Ao10 y180.length co10, u184001] 41 (0, 0)) (bd_ BK183.out) hg (Kd.S_ne HO_184001.out BK183.out (by decide)))
 have n4_ := Aside0.mk (hb)
 have n5_ := Aside0.mk (ho)
 clear HO_184000
 clear BK175
 clear BK176
 clear BK183
 clear HB
 clear HO_184001
 clear HO186
 have HO_184000 := n0_
 have BK175 := n1_
 have BK176 := n2_
 have BK183 := n3_
 have HB := n4_
 have HO189 := n5_
 clear n0_ n1_ n2_ n3_ n4_ n5_
 clear ho hb hg hat
 obtain ⟨Ao26, co26, eo26⟩ := Kd.S_slice HO189.out
 (first | subst eo26 | (injection eo26 with f1_ f2_ f3_; have f4_ := f1_.symm; have f5_ := f3_.symm; clear f1_ f2_ f3_; subst f4_; subst f5_))
 refine hK.out _ _ ⟨(blk_cell BK183.out 0).trans rfl, (blk_cell BK183.out 1).trans rfl⟩ (fun hHeld => ?_)
 clear hK K
 refine norm_ (a' := ?_) ?_ ?_
 rotate_left
 ·show Act.put _ (some 22) _ = _
  simp only [Act.put, List.setIfInBounds_toArray, List.set_cons_zero, List.set_cons_succ, i64_w, i32_w]
  rfl
 refine pure_ (i := 6) (N := some 23) (v := ?_) (a' := ?_) #[true, true, true, true, true, true, true, false] rfl rfl (any_of HT_.out (by kernel_rfl)) (fun _ _ _ h => h) (Or.inl ⟨by rfl, ?_⟩) ?_ ?_; rotate_left; intro w'; go_simp; with_reducible rfl; rotate_left; simp only [Act.put, List.setIfInBounds_toArray, List.set_cons_zero, List.set_cons_succ, i64_w, i32_w]; rfl
 refine last_ (i := 7) (N := none) #[true, true, true, true, true, true, true, true] rfl rfl (one_of HT_.out (by kernel_rfl)) (by decide) (fun K hK => ?_)
 have hs27 : w25.cell? ⟨gb183, 1, none⟩ = some (u184001) := (blk_cell BK183.out 1).trans rfl
 have hfs27 := blk_frozen BK183.out 1
 have hns27_0 := NB175_183.out
 have hns27_1 := NB176_183.out
 have hms27_0 := NB183_175.out
 have hms27_1 := NB183_176.out
 refine skip_ (w1 := ?_) (by rfl) rfl ?_ ?_
 rotate_left
 ·go_simp
  rfl
 refine hK.out _ _ ?_
 clear hK K
 refine done_ (done_of HT_.out (by kernel_rfl)) ?_
 try go_wp2
 go_roundg k1
 case measure => have := HK1.out; omega
 case rel => exact ⟨(wrap64 (x4_1 + 1)), (y187), (.slice Ao26 y187.length co26), rf_, H', ⟨by have := HK1.out; omega⟩, ⟨by (with_reducible repeat (first | apply Kd.R_alloc | apply Kd.R_drewN | apply Kd.R_drew)); exact Kd.R_mono (Kd.R_far (p := ⟨gb183, 1, none⟩) (Kd.R_types HO_184000.out BK183.out (by decide)) (fun _ hk => hk.2) (.slice Ao26 y187.length co26)) (fun _ hk => trivial)⟩, ⟨by (with_reducible repeat (first | apply Kd.S_alloc | apply Kd.S_drewN | apply Kd.S_drew)); exact Kd.S_mono (Kd.S_far (p := ⟨gb183, 1, none⟩) (Kd.S_types HO189.out BK183.out (by decide)) (fun _ hk => hk.2) (.slice Ao26 y187.length co26)) (fun _ hk => hk.1)⟩, ⟨by (with_reducible repeat (first | refine blk_drewN ?_ _ | refine blk_drew ?_ | refine blk_alloc ?_ _)); refine blk_far ?_ NB175_183.out _; (with_reducible repeat (first | refine blk_drewN ?_ _ | refine blk_drew ?_ | refine blk_alloc ?_ _)); exact BK175.out⟩, ⟨by (with_reducible repeat (first | refine blk_drewN ?_ _ | refine blk_drew ?_ | refine blk_alloc ?_ _)); refine blk_far ?_ NB176_183.out _; (with_reducible repeat (first | refine blk_drewN ?_ _ | refine blk_drew ?_ | refine blk_alloc ?_ _)); exact BK176.out⟩, ⟨by (with_reducible repeat (first | refine blk_drewN ?_ _ | refine blk_drew ?_ | refine blk_alloc ?_ _)); refine blk_put (cs := #[.slice Ao10 y180.length co10, u184001]) ?_ 1 _ rfl; (with_reducible repeat (first | refine blk_drewN ?_ _ | refine blk_drew ?_ | refine blk_alloc ?_ _)); exact BK183.out⟩, ⟨hb_ HB.out⟩⟩
def fencepostref10_Own.l0 : Nat → Int → List Int → List (S49) → List Int → List (S49) → Option (List Int × (List (S49)))
 | 0, _, _, _, _, _ => none
 | k + 1, x4, x191000, x191001, x199000, x199001 => if x4 < (x191001.length : Int) then (if 0 ≤ x4 then ((some (([] : List Int) : List Int)).bind fun y201 => (if y201.length + ((rd_T49 x191001 x4).f1).length < 17592186044416 then ((some (([] : List (S66)) : List (S66))).bind fun y207 => (if y207.length + ((rd_T49 x191001 x4).f3).length < 8796093022208 then (if x199001.length < 2199023255552 then (fencepostref10_Own.l0 k (wrap64 (x4 + 1)) x191000 x191001 x199000 (x199001 ++ [(⟨(rd_T49 x191001 x4).f0, (y201 ++ ((rd_T49 x191001 x4).f1)), (rd_T49 x191001 x4).f2, (y207 ++ ((rd_T49 x191001 x4).f3))⟩ : S49)])) else (none)) else (none))) else (none))) else (none)) else (some (x199000, x199001))
def fencepostref10_Own.f (k : Nat) (l0_0 : List Int) (l0_1 : List (S49)) : Option (List Int × (List (S49))) := (some (([] : List Int) : List Int)).bind fun y192 => (if y192.length + l0_0.length < 17592186044416 then (fencepostref10_Own.l0 k 0 l0_0 l0_1 (y192 ++ l0_0) ([] : List (S49))) else (none))
set_option maxHeartbeats 8000000 in
set_option maxRecDepth 100000 in
theorem fencepostref10_Own.calls (k : Nat) (A0_0 : Option Addr) (c0_0 : Nat) (l0_0 : List Int) (A0_1 : Option Addr) (c0_1 : Nat) (l0_1 : List (S49)) (r1 : List Int) (r2 : List (S49)) (w : World) (hr0_0 : Kd.C (Kd.int .i64) w A0_0 l0_0.length l0_0) (hc0_0 : l0_0.length ≤ c0_0) (hr0_1 : Kd.C k49 w A0_1 l0_1.length l0_1) (hc0_1 : l0_1.length ≤ c0_1) (h : fencepostref10_Own.f k l0_0 l0_1 = some (r1, r2)) :
 Calls Try.prog 22 #[.agg #[.slice A0_0 l0_0.length c0_0, .slice A0_1 l0_1.length c0_1]] w fun e w' => ∃ v0_ v1_ : Value, e = .returned (.agg #[v0_, v1_]) ∧ Kd.R (Kd.int .i64) 3 w' w.heap.size (fun _ => True) v0_ r1 ∧ Kd.S k49 49 w' w.heap.size (fun k_ => some k_ ≠ (v0_ : Value).ownBlock) v1_ r2 ∧ Below w.heap.size w w' := by
 have hu41 := Try.underlying41
 have hu49 := Try.underlying49
 have HR0_0 := Aside0.mk hr0_0
 have HC0_0 := Aside0.mk hc0_0
 clear hr0_0 hc0_0
 have HR0_1 := Aside0.mk hr0_1
 have HC0_1 := Aside0.mk hc0_1
 clear hr0_1 hc0_1
 have HB := Aside0.mk (Below.refl w.heap.size w)
 have H : ((some (([] : List Int) : List Int)).bind fun y192 => (if y192.length + l0_0.length < 17592186044416 then (fencepostref10_Own.l0 k 0 l0_0 l0_1 (y192 ++ l0_0) ([] : List (S49))) else (none))) = some (r1, r2) := h
 clear h
 obtain ⟨y192, hy192⟩ : ∃ y_ : List Int, y_ = (([] : List Int)) := ⟨_, rfl⟩
 replace H : (if y192.length + l0_0.length < 17592186044416 then (fencepostref10_Own.l0 k 0 l0_0 l0_1 (y192 ++ l0_0) ([] : List (S49))) else (none)) = some (r1, r2) := by first | (rw [hy192]; with_reducible exact H) | (have H2_ := (Option.bind_some _ _).symm.trans H; rw [hy192]; with_reducible exact H2_) | (have H2_ := (Option.bind_some _ _).symm.trans H; with_reducible exact H2_) | with_reducible exact H | (rw [hy192]; exact H) | exact H
 have Ny192 := Aside0.mk hy192
 clear hy192
 by_cases c2 : y192.length + l0_0.length < 17592186044416
 rotate_left
 ·rw [if_neg c2] at H
  exact absurd H (by simp)
 rw [if_pos c2] at H
 have LMc2 := Aside0.mk c2
 clear c2
 obtain ⟨y195, hy195⟩ : ∃ y_ : List Int, y_ = (y192 ++ l0_0) := ⟨_, rfl⟩
 replace H : (fencepostref10_Own.l0 k 0 l0_0 l0_1 y195 ([] : List (S49))) = some (r1, r2) := by first | (rw [hy195]; with_reducible exact H) | (have H2_ := (Option.bind_some _ _).symm.trans H; rw [hy195]; with_reducible exact H2_) | (have H2_ := (Option.bind_some _ _).symm.trans H; with_reducible exact H2_) | with_reducible exact H | (rw [hy195]; exact H) | exact H
 have Ny195 := Aside0.mk hy195
 clear hy195
 have H' := Aside0.mk H
 clear H
 go_enter Try.func22, Try.ntmps22
 go_wp2_with (first | ((with_reducible refine gate_dst (N := 1) rfl ?_); refine box_event ?hg (N := 1) ?hd (cs := #[.slice A0_0 l0_0.length c0_0, .slice A0_1 l0_1.length c0_1]) (t := 41) ?hr ?_; (case hd => rfl); (case hg => rfl); (case hr => first | (go_simp; done) | (go_simp; rfl)); intro gb190 hg w3 hbox hb; have n0_ := Aside0.mk (below_step (hb_ HB.out) hb); have n1_ := Aside0.mk (hbox); have n2_ := Aside0.mk (gs_ hg (hb_ HB.out)); have n3_ := Aside0.mk (gs_ hg (hb_ HB.out)); clear HB; have HB := n0_; have BK190 := n1_; have GW190 := n2_; have GE190 := n3_; clear n0_ n1_ n2_ n3_; clear hb hbox hg) | ((with_reducible refine gate_dst (N := 2) rfl ?_); refine box_event ?hg (N := 2) ?hd (cs := #[.slice none 0 0, .slice none 0 0]) (t := 41) ?hr ?_; (case hd => rfl); (case hg => rfl); (case hr => first | (go_simp; done) | (go_simp; rfl)); intro gb191 hg w4 hbox hb; have n0_ := Aside0.mk (bb_ BK190.out hb); have n1_ := Aside0.mk (below_step (hb_ HB.out) hb); have n2_ := Aside0.mk (hbox); have n3_ := Aside0.mk (gs_ hg (hb_ HB.out)); have n4_ := Aside0.mk (gs_ hg (hb_ HB.out)); have n5_ := Aside0.mk (gn_ hg BK190.out); have n6_ := Aside0.mk (gn_ hg BK190.out).symm; clear BK190; clear HB; have BK190 := n0_; have HB := n1_; have BK191 := n2_; have GW191 := n3_; have GE191 := n4_; have NB190_191 := n5_; have NB191_190 := n6_; clear n0_ n1_ n2_ n3_ n4_ n5_ n6_; clear hb hbox hg) | ((with_reducible refine gate_dst (N := 6) rfl ?_); refine Kd.R_lit (Kd.int .i64) _ 3 ?hg (N := 6) ?hd (xs := ([] : List Int)) (inner := []) (ok := fun _ => True) (okp := fun _ => True) ?hr ?hp (fun _ hk => hk) trivial (Below.refl _ _) (Nat.le_refl _) (by simp) ?_; (case hd => rfl); (case hg => rfl); (case hr => first | (go_simp; done) | (go_simp; rfl)); (case hp => exact (Reps.none _ _)); intro v193 w5 ho6 hb hg_ hnew_; clear hg_ hnew_; (first | rw [← Ny192.out] at ho6 | (simp only [Int.reduceToNat] at ho6; rw [← Ny192.out] at ho6)); have n0_ := Aside0.mk (Kd.R_lower ho6 (below_size (hb_ HB.out))); have n1_ := Aside0.mk (bb_ BK190.out hb); have n2_ := Aside0.mk (bb_ BK191.out hb); have n3_ := Aside0.mk (below_step (hb_ HB.out) hb); clear BK190; clear BK191; clear HB; have HO194 := n0_; have BK190 := n1_; have BK191 := n2_; have HB := n3_; clear n0_ n1_ n2_ n3_; clear hb ho6; have hnb7 := NB190_191.out; have hnc7 := NB191_190.out; have hcz8_0 : w5.cell? ⟨gb190, 0, none⟩ = some (.slice A0_0 l0_0.length c0_0) := (blk_cell BK190.out 0).trans rfl; have hcz8_1 : w5.cell? ⟨gb190, 1, none⟩ = some (.slice A0_1 l0_1.length c0_1) := (blk_cell BK190.out 1).trans rfl; have hfz8_0 := blk_frozen BK190.out 0; have hfz8_1 := blk_frozen BK190.out 1) | ((with_reducible refine gate_builtin (b := .append) (xs := #[.tmp 6, .tmp 8]) rfl ?_); at_builtin; refine Kd.R_append_rows (Kd.int .i64) (w0 := w) w.heap.size rfl (.tmp 6) (.tmp 8) 22 3 (.int .i64 0) 8 rfl Try.underlying22 info3 rfl (by decide) (by omega) v193 y192 l0_0 _ _ _ (fun _ => True) (fun _ => False) rfl rfl ?aO ?aR (fun _ _ h => h) (fun _ h => h.elim) ?aF ?aB ?aS ?aL ?_; (case aR => repeat (first | exact (Kd.C_below HR0_0.out HB.out) | (with_reducible refine Kd.C_alloc ?_ _) | (with_reducible refine Kd.C_drewN ?_ _) | (with_reducible refine Kd.C_drew ?_))); (case aB => exact (hb_ HB.out)); (case aF => exact (fun _ _ => trivial)); (case aO => exact (rd_ HO194.out)); (case aS => exact (below_size (hb_ HB.out))); (case aL => have := LMc2.out; omega); intro v196 w9 ho hb hg hat; rw [← Ny195.out] at ho; have n0_ := Aside0.mk (blk_grown (g := gb190) (o := .cells #[.slice A0_0 l0_0.length c0_0, .slice A0_1 l0_1.length c0_1] 41 (0, 0)) (bd_ BK190.out) hg (Kd.R_ne HO194.out BK190.out (by decide))); have n1_ := Aside0.mk (blk_grown (g := gb191) (o := .cells #[.slice none 0 0, .slice none 0 0] 41 (0, 0)) (bd_ BK191.out) hg (Kd.R_ne HO194.out BK191.out (by decide))); have n2_ := Aside0.mk (hb); have n3_ := Aside0.mk (ho); clear BK190; clear BK191; clear HB; clear HO194; have BK190 := n0_; have BK191 := n1_; have HB := n2_; have HO197 := n3_; clear n0_ n1_ n2_ n3_; clear ho hb hg hat; obtain ⟨Ao10, co10, eo10⟩ := Kd.R_slice HO197.out; subst eo10) | ((with_reducible refine gate_dst (N := 3) rfl ?_); refine box_event ?hg (N := 3) ?hd (cs := #[.slice none 0 0, .slice none 0 0]) (t := 41) ?hr ?_; (case hd => rfl); (case hg => rfl); (case hr => first | (go_simp; done) | (go_simp; rfl)); intro gb198 hg w11 hbox hb; have n0_ := Aside0.mk (Kd.R_below (rd_ HO197.out) hb); have n1_ := Aside0.mk (bb_ BK190.out hb); have n2_ := Aside0.mk (bb_ BK191.out hb); have n3_ := Aside0.mk (below_step (hb_ HB.out) hb); have n4_ := Aside0.mk (hbox); have n5_ := Aside0.mk (gs_ hg (hb_ HB.out)); have n6_ := Aside0.mk (gs_ hg (hb_ HB.out)); have n7_ := Aside0.mk (gn_ hg BK190.out); have n8_ := Aside0.mk (gn_ hg BK190.out).symm; have n9_ := Aside0.mk (gn_ hg BK191.out); have n10_ := Aside0.mk (gn_ hg BK191.out).symm; clear HO197; clear BK190; clear BK191; clear HB; have HO197 := n0_; have BK190 := n1_; have BK191 := n2_; have HB := n3_; have BK198 := n4_; have GW198 := n5_; have GE198 := n6_; have NB190_198 := n7_; have NB198_190 := n8_; have NB191_198 := n9_; have NB198_191 := n10_; clear n0_ n1_ n2_ n3_ n4_ n5_ n6_ n7_ n8_ n9_ n10_; clear hb hbox hg; have hnb12 := NB198_190.out; have hnc12 := NB190_198.out; have hnb13 := NB198_191.out; have hnc13 := NB191_198.out; have hcz14_0 : w11.cell? ⟨gb198, 0, none⟩ = some (.slice none 0 0) := (blk_cell BK198.out 0).trans rfl; have hcz14_1 : w11.cell? ⟨gb198, 1, none⟩ = some (.slice none 0 0) := (blk_cell BK198.out 1).trans rfl; have hfz14_0 := blk_frozen BK198.out 0; have hfz14_1 := blk_frozen BK198.out 1))
 go_loopg [4] k (fun kq v4 w' => ∃ (x4_1 : Int) (x199001_1 : List (S49)) (u199001 : Value), v4 = .int .i64 x4_1 ∧ Aside0 (fencepostref10_Own.l0 kq x4_1 l0_0 l0_1 y195 x199001_1 = some (r1, r2)) ∧ Aside0 (kq ≤ k) ∧ Aside0 (Kd.R (Kd.int .i64) 3 w' w.heap.size (fun _ => True) (.slice Ao10 y195.length co10) y195) ∧ Aside0 (Kd.S k49 49 w' w.heap.size (fun k_ => some k_ ≠ ((.slice Ao10 y195.length co10) : Value).ownBlock) u199001 x199001_1) ∧ Aside0 (w'.heap[gb190]? = some (.cells #[(.slice A0_0 l0_0.length c0_0), (.slice A0_1 l0_1.length c0_1)] 41 (0, 0))) ∧ Aside0 (w'.heap[gb191]? = some (.cells #[(.slice none 0 0), (.slice none 0 0)] 41 (0, 0))) ∧ Aside0 (w'.heap[gb198]? = some (.cells #[(.slice Ao10 y195.length co10), u199001] 41 (0, 0))) ∧ Aside0 (Below w.heap.size w w'))
 case atStart => exact ⟨(0), (([] : List (S49))), (.slice none 0 0), rf_, H', ⟨Nat.le_refl _⟩, ⟨by (with_reducible repeat (first | apply Kd.R_alloc | apply Kd.R_drewN | apply Kd.R_drew)); exact Kd.R_mono (Kd.R_far (p := ⟨gb198, 1, none⟩) (Kd.R_far (p := ⟨gb198, 0, none⟩) (Kd.R_types HO197.out BK198.out (by decide)) (fun _ hk => hk.2) (.slice Ao10 y195.length co10)) (fun _ hk => hk.2) (.slice none 0 0)) (fun _ hk => trivial)⟩, ⟨by first | exact Kd.S_nil _ _ _ _ _ | exact Kd.N_nil _ _ _ _ _ | exact Kd.V_nil _ _ _ _ _ | exact Kd.Q_nil _ _ _ _ _ | exact Kd.R_nil _ _ _ _ _⟩, ⟨by (with_reducible repeat (first | refine blk_drewN ?_ _ | refine blk_drew ?_ | refine blk_alloc ?_ _)); refine blk_far ?_ NB190_198.out _; (with_reducible repeat (first | refine blk_drewN ?_ _ | refine blk_drew ?_ | refine blk_alloc ?_ _)); refine blk_far ?_ NB190_198.out _; (with_reducible repeat (first | refine blk_drewN ?_ _ | refine blk_drew ?_ | refine blk_alloc ?_ _)); exact BK190.out⟩, ⟨by (with_reducible repeat (first | refine blk_drewN ?_ _ | refine blk_drew ?_ | refine blk_alloc ?_ _)); refine blk_far ?_ NB191_198.out _; (with_reducible repeat (first | refine blk_drewN ?_ _ | refine blk_drew ?_ | refine blk_alloc ?_ _)); refine blk_far ?_ NB191_198.out _; (with_reducible repeat (first | refine blk_drewN ?_ _ | refine blk_drew ?_ | refine blk_alloc ?_ _)); exact BK191.out⟩, ⟨by (with_reducible repeat (first | refine blk_drewN ?_ _ | refine blk_drew ?_ | refine blk_alloc ?_ _)); refine blk_put (cs := #[.slice Ao10 y195.length co10, .slice none 0 0]) ?_ 1 _ rfl; (with_reducible repeat (first | refine blk_drewN ?_ _ | refine blk_drew ?_ | refine blk_alloc ?_ _)); refine blk_put (cs := #[.slice none 0 0, .slice none 0 0]) ?_ 0 _ rfl; (with_reducible repeat (first | refine blk_drewN ?_ _ | refine blk_drew ?_ | refine blk_alloc ?_ _)); exact BK198.out⟩, ⟨hb_ HB.out⟩⟩
 clear H'
 try clear c2
 try clear hcz14_0
 try clear hcz14_1
 try clear hcz8_0
 try clear hcz8_1
 try clear hfz14_0
 try clear hfz14_1
 try clear hfz8_0
 try clear hfz8_1
 obtain ⟨x4_1, x199001_1, u199001, rfl, HA, HK1, HO_199000, HO_199001, BK190, BK191, BK198, HB⟩ := hrel
 cases gk with
 | zero => exact absurd HA.out (by simp [fencepostref10_Own.l0])
 | succ k1 => ?_
 have H := HA.out
 clear HA
 simp only [fencepostref10_Own.l0] at H
 by_cases c15 : x4_1 < (l0_1.length : Int)
 rotate_left
 ·rw [if_neg c15] at H
  have c15b0 : decide (x4_1 < (l0_1.length : Int)) = false := decide_eq_false c15
  clear c15
  simp only [Option.some.injEq, Prod.mk.injEq] at H
  obtain ⟨rfl, rfl⟩ := H
  have hnb47 := NB190_191.out
  have hnc47 := NB191_190.out
  have hnb48 := NB190_198.out
  have hnc48 := NB198_190.out
  have hcz49_0 : wr.cell? ⟨gb190, 0, none⟩ = some (.slice A0_0 l0_0.length c0_0) := (blk_cell BK190.out 0).trans rfl
  have hcz49_1 : wr.cell? ⟨gb190, 1, none⟩ = some (.slice A0_1 l0_1.length c0_1) := (blk_cell BK190.out 1).trans rfl
  have hfz49_0 := blk_frozen BK190.out 0
  have hfz49_1 := blk_frozen BK190.out 1
  have hnb50 := NB198_191.out
  have hnc50 := NB191_198.out
  have hcz51_0 : wr.cell? ⟨gb198, 0, none⟩ = some (.slice Ao10 y195.length co10) := (blk_cell BK198.out 0).trans rfl
  have hcz51_1 : wr.cell? ⟨gb198, 1, none⟩ = some (u199001) := (blk_cell BK198.out 1).trans rfl
  have hfz51_0 := blk_frozen BK198.out 0
  have hfz51_1 := blk_frozen BK198.out 1
  have hcz52_0 : wr.cell? ⟨gb191, 0, none⟩ = some (.slice none 0 0) := (blk_cell BK191.out 0).trans rfl
  have hcz52_1 : wr.cell? ⟨gb191, 1, none⟩ = some (.slice none 0 0) := (blk_cell BK191.out 1).trans rfl
  have hfz52_0 := blk_frozen BK191.out 0
  have hfz52_1 := blk_frozen BK191.out 1
  obtain ⟨Ao53, co53, eo53⟩ := Kd.S_slice HO_199001.out
  subst eo53
  go_wp2
  refine bodyPost_ret (results_cell_row rfl _ _ gb191 41 #[.slice Ao10 y195.length co10, .slice Ao53 x199001_1.length co53] (0, 0) _ rfl (by (with_reducible repeat (first | refine blk_drewN ?_ _ | refine blk_drew ?_ | refine blk_alloc ?_ _)); refine blk_put (cs := #[.slice Ao10 y195.length co10, .slice none 0 0]) ?_ 1 _ rfl; (with_reducible repeat (first | refine blk_drewN ?_ _ | refine blk_drew ?_ | refine blk_alloc ?_ _)); refine blk_put (cs := #[.slice none 0 0, .slice none 0 0]) ?_ 0 _ rfl; (with_reducible repeat (first | refine blk_drewN ?_ _ | refine blk_drew ?_ | refine blk_alloc ?_ _)); exact BK191.out) Try.underlying41 rfl (by kernel_rfl)) rfl ?_
  exact ⟨_, _, by first | rfl | (simp [errW_none, errW_some] <;> rfl) | (simp [*, errW_none, errW_some] <;> rfl), by (with_reducible repeat (first | apply Kd.R_alloc | apply Kd.R_drewN | apply Kd.R_drew)); exact Kd.R_mono (Kd.R_far (p := ⟨gb191, 1, none⟩) (Kd.R_far (p := ⟨gb191, 0, none⟩) (Kd.R_types HO_199000.out BK191.out (by decide)) (fun _ hk => hk.2) (.slice Ao10 y195.length co10)) (fun _ hk => hk.2) (.slice Ao53 x199001_1.length co53)) (fun _ hk => trivial), by (with_reducible repeat (first | apply Kd.S_alloc | apply Kd.S_drewN | apply Kd.S_drew)); exact Kd.S_mono (Kd.S_far (p := ⟨gb191, 1, none⟩) (Kd.S_far (p := ⟨gb191, 0, none⟩) (Kd.S_types HO_199001.out BK191.out (by decide)) (fun _ hk => hk.2) (.slice Ao10 y195.length co10)) (fun _ hk => hk.2) (.slice Ao53 x199001_1.length co53)) (fun _ hk => hk.1), hb_ HB.out⟩
 rw [if_pos c15] at H
 have c15b0 : decide (x4_1 < (l0_1.length : Int)) = true := decide_eq_true c15
 clear c15
 by_cases c16 : 0 ≤ x4_1
 rotate_left
 ·rw [if_neg c16] at H
  exact absurd H (by simp)
 rw [if_pos c16] at H
 have c16b0 : decide (0 ≤ x4_1) = true := decide_eq_true c16
 clear c16
 obtain ⟨y201, hy201⟩ : ∃ y_ : List Int, y_ = (([] : List Int)) := ⟨_, rfl⟩
 replace H : (if y201.length + ((rd_T49 l0_1 x4_1).f1).length < 17592186044416 then ((some (([] : List (S66)) : List (S66))).bind fun y207 => (if y207.length + ((rd_T49 l0_1 x4_1).f3).length < 8796093022208 then (if x199001_1.length < 2199023255552 then (fencepostref10_Own.l0 k1 (wrap64 (x4_1 + 1)) l0_0 l0_1 y195 (x199001_1 ++ [(⟨(rd_T49 l0_1 x4_1).f0, (y201 ++ ((rd_T49 l0_1 x4_1).f1)), (rd_T49 l0_1 x4_1).f2, (y207 ++ ((rd_T49 l0_1 x4_1).f3))⟩ : S49)])) else (none)) else (none))) else (none)) = some (r1, r2) := by first | (rw [hy201]; with_reducible exact H) | (have H2_ := (Option.bind_some _ _).symm.trans H; rw [hy201]; with_reducible exact H2_) | (have H2_ := (Option.bind_some _ _).symm.trans H; with_reducible exact H2_) | with_reducible exact H | (rw [hy201]; exact H) | exact H
 have Ny201 := Aside0.mk hy201
 clear hy201
 by_cases c17 : y201.length + ((rd_T49 l0_1 x4_1).f1).length < 17592186044416
 rotate_left
 ·rw [if_neg c17] at H
  exact absurd H (by simp)
 rw [if_pos c17] at H
 have LMc17 := Aside0.mk c17
 clear c17
 obtain ⟨y204, hy204⟩ : ∃ y_ : List Int, y_ = (y201 ++ ((rd_T49 l0_1 x4_1).f1)) := ⟨_, rfl⟩
 replace H : ((some (([] : List (S66)) : List (S66))).bind fun y207 => (if y207.length + ((rd_T49 l0_1 x4_1).f3).length < 8796093022208 then (if x199001_1.length < 2199023255552 then (fencepostref10_Own.l0 k1 (wrap64 (x4_1 + 1)) l0_0 l0_1 y195 (x199001_1 ++ [(⟨(rd_T49 l0_1 x4_1).f0, y204, (rd_T49 l0_1 x4_1).f2, (y207 ++ ((rd_T49 l0_1 x4_1).f3))⟩ : S49)])) else (none)) else (none))) = some (r1, r2) := by first | (rw [hy204]; with_reducible exact H) | (have H2_ := (Option.bind_some _ _).symm.trans H; rw [hy204]; with_reducible exact H2_) | (have H2_ := (Option.bind_some _ _).symm.trans H; with_reducible exact H2_) | with_reducible exact H | (rw [hy204]; exact H) | exact H
 have Ny204 := Aside0.mk hy204
 clear hy204
 obtain ⟨y207, hy207⟩ : ∃ y_ : List (S66), y_ = (([] : List (S66))) := ⟨_, rfl⟩
 replace H : (if y207.length + ((rd_T49 l0_1 x4_1).f3).length < 8796093022208 then (if x199001_1.length < 2199023255552 then (fencepostref10_Own.l0 k1 (wrap64 (x4_1 + 1)) l0_0 l0_1 y195 (x199001_1 ++ [(⟨(rd_T49 l0_1 x4_1).f0, y204, (rd_T49 l0_1 x4_1).f2, (y207 ++ ((rd_T49 l0_1 x4_1).f3))⟩ : S49)])) else (none)) else (none)) = some (r1, r2) := by first | (rw [hy207]; with_reducible exact H) | (have H2_ := (Option.bind_some _ _).symm.trans H; rw [hy207]; with_reducible exact H2_) | (have H2_ := (Option.bind_some _ _).symm.trans H; with_reducible exact H2_) | with_reducible exact H | (rw [hy207]; exact H) | exact H
 have Ny207 := Aside0.mk hy207
 clear hy207
 by_cases c18 : y207.length + ((rd_T49 l0_1 x4_1).f3).length < 8796093022208
 rotate_left
 ·rw [if_neg c18] at H
  exact absurd H (by simp)
 rw [if_pos c18] at H
 have LMc18 := Aside0.mk c18
 clear c18
 obtain ⟨y210, hy210⟩ : ∃ y_ : List (S66), y_ = (y207 ++ ((rd_T49 l0_1 x4_1).f3)) := ⟨_, rfl⟩
 replace H : (if x199001_1.length < 2199023255552 then (fencepostref10_Own.l0 k1 (wrap64 (x4_1 + 1)) l0_0 l0_1 y195 (x199001_1 ++ [(⟨(rd_T49 l0_1 x4_1).f0, y204, (rd_T49 l0_1 x4_1).f2, y210⟩ : S49)])) else (none)) = some (r1, r2) := by first | (rw [hy210]; with_reducible exact H) | (have H2_ := (Option.bind_some _ _).symm.trans H; rw [hy210]; with_reducible exact H2_) | (have H2_ := (Option.bind_some _ _).symm.trans H; with_reducible exact H2_) | with_reducible exact H | (rw [hy210]; exact H) | exact H
 have Ny210 := Aside0.mk hy210
 clear hy210
 by_cases c19 : x199001_1.length < 2199023255552
 rotate_left
 ·rw [if_neg c19] at H
  exact absurd H (by simp)
 rw [if_pos c19] at H
 have LMc19 := Aside0.mk c19
 clear c19
 obtain ⟨y213, hy213⟩ : ∃ y_ : List (S49), y_ = (x199001_1 ++ [(⟨(rd_T49 l0_1 x4_1).f0, y204, (rd_T49 l0_1 x4_1).f2, y210⟩ : S49)]) := ⟨_, rfl⟩
 replace H : (fencepostref10_Own.l0 k1 (wrap64 (x4_1 + 1)) l0_0 l0_1 y195 y213) = some (r1, r2) := by first | (rw [hy213]; with_reducible exact H) | (have H2_ := (Option.bind_some _ _).symm.trans H; rw [hy213]; with_reducible exact H2_) | (have H2_ := (Option.bind_some _ _).symm.trans H; with_reducible exact H2_) | with_reducible exact H | (rw [hy213]; exact H) | exact H
 have Ny213 := Aside0.mk hy213
 clear hy213
 have H' := Aside0.mk H
 clear H
 have hnb20 := NB190_191.out
 have hnc20 := NB191_190.out
 have hnb21 := NB190_198.out
 have hnc21 := NB198_190.out
 have hcz22_0 : wr.cell? ⟨gb190, 0, none⟩ = some (.slice A0_0 l0_0.length c0_0) := (blk_cell BK190.out 0).trans rfl
 have hcz22_1 : wr.cell? ⟨gb190, 1, none⟩ = some (.slice A0_1 l0_1.length c0_1) := (blk_cell BK190.out 1).trans rfl
 have hfz22_0 := blk_frozen BK190.out 0
 have hfz22_1 := blk_frozen BK190.out 1
 have p199 : 0 ≤ (x4_1 : Int) := of_decide_eq_true as_
 have q199 : x4_1 < (l0_1.length : Int) := of_decide_eq_true as_
 obtain ⟨ad199, A199_1, c199_1, A199_3, c199_3, e199, hx199_0, hx199_1, hx199_2, hx199_3, hl199_1, hi199_1, hl199_3, hi199_3⟩ := at_T49 HR0_1.out x4_1 p199 q199
 cases e199
 replace hx199_0 := cl_ HB.out hx199_0
 replace hx199_1 := cl_ HB.out hx199_1
 replace hx199_2 := cl_ HB.out hx199_2
 replace hx199_3 := cl_ HB.out hx199_3
 have HR199_1 := Aside0.mk hi199_1
 have HC199_1 := Aside0.mk hl199_1
 clear hi199_1 hl199_1
 have HR199_3 := Aside0.mk hi199_3
 have HC199_3 := Aside0.mk hl199_3
 clear hi199_3 hl199_3
 replace p199 := eq_true p199
 replace q199 := eq_true q199
 go_wp2_with (first | ((with_reducible refine gate_dst (N := 5) rfl ?_); refine box_event ?hg (N := 5) ?hd (cs := #[.int .i64 0, .slice none 0 0, .bool false, .slice none 0 0]) (t := 49) ?hr ?_; (case hd => rfl); (case hg => rfl); (case hr => first | (go_simp; done) | (go_simp; rfl)); intro gb200 hg w23 hbox hb; have n0_ := Aside0.mk (Kd.R_below (rd_ HO_199000.out) hb); have n1_ := Aside0.mk (Kd.S_below (Kd.S_elderB (sd_ HO_199001.out) gb200 (Nat.le_of_eq hg.symm)) hb); have n2_ := Aside0.mk (bb_ BK190.out hb); have n3_ := Aside0.mk (bb_ BK191.out hb); have n4_ := Aside0.mk (bb_ BK198.out hb); have n5_ := Aside0.mk (below_step (hb_ HB.out) hb); have n6_ := Aside0.mk (hbox); have n7_ := Aside0.mk (gs_ hg (hb_ HB.out)); have n8_ := Aside0.mk (gs_ hg (hb_ HB.out)); have n9_ := Aside0.mk (gn_ hg BK190.out); have n10_ := Aside0.mk (gn_ hg BK190.out).symm; have n11_ := Aside0.mk (gn_ hg BK191.out); have n12_ := Aside0.mk (gn_ hg BK191.out).symm; have n13_ := Aside0.mk (gn_ hg BK198.out); have n14_ := Aside0.mk (gn_ hg BK198.out).symm; clear HO_199000; clear HO_199001; clear BK190; clear BK191; clear BK198; clear HB; have HO_199000 := n0_; have HO_199001 := n1_; have BK190 := n2_; have BK191 := n3_; have BK198 := n4_; have HB := n5_; have BK200 := n6_; have GW200 := n7_; have GE200 := n8_; have NB190_200 := n9_; have NB200_190 := n10_; have NB191_200 := n11_; have NB200_191 := n12_; have NB198_200 := n13_; have NB200_198 := n14_; clear n0_ n1_ n2_ n3_ n4_ n5_ n6_ n7_ n8_ n9_ n10_ n11_ n12_ n13_ n14_; clear hb hbox hg; have hnb24 := NB200_190.out; have hnc24 := NB190_200.out; have hnb25 := NB200_191.out; have hnc25 := NB191_200.out; have hnb26 := NB200_198.out; have hnc26 := NB198_200.out; have hcz27_0 : w23.cell? ⟨gb200, 0, none⟩ = some (.int .i64 0) := (blk_cell BK200.out 0).trans rfl; have hcz27_1 : w23.cell? ⟨gb200, 1, none⟩ = some (.slice none 0 0) := (blk_cell BK200.out 1).trans rfl; have hcz27_2 : w23.cell? ⟨gb200, 2, none⟩ = some (.bool false) := (blk_cell BK200.out 2).trans rfl; have hcz27_3 : w23.cell? ⟨gb200, 3, none⟩ = some (.slice none 0 0) := (blk_cell BK200.out 3).trans rfl; have hfz27_0 := blk_frozen BK200.out 0; have hfz27_1 := blk_frozen BK200.out 1; have hfz27_2 := blk_frozen BK200.out 2; have hfz27_3 := blk_frozen BK200.out 3) | ((with_reducible refine gate_dst (N := 23) rfl ?_); refine Kd.R_lit (Kd.int .i64) _ 3 ?hg (N := 23) ?hd (xs := ([] : List Int)) (inner := []) (ok := fun _ => True) (okp := fun _ => True) ?hr ?hp (fun _ hk => hk) trivial (Below.refl _ _) (Nat.le_refl _) (by simp) ?_; (case hd => rfl); (case hg => rfl); (case hr => first | (go_simp; done) | (go_simp; rfl)); (case hp => exact (Reps.none _ _)); intro v202 w28 ho29 hb hg_ hnew_; clear hg_ hnew_; (first | rw [← Ny201.out] at ho29 | (simp only [Int.reduceToNat] at ho29; rw [← Ny201.out] at ho29)); have n0_ := Aside0.mk (Kd.R_elder' (by (with_reducible repeat (first | apply Kd.R_alloc | apply Kd.R_drewN | apply Kd.R_drew)); exact (Kd.R_mono (Kd.R_far (p := ⟨gb200, 3, none⟩) (Kd.R_far (p := ⟨gb200, 2, none⟩) (Kd.R_far (p := ⟨gb200, 1, none⟩) (Kd.R_far (p := ⟨gb200, 0, none⟩) (Kd.R_types HO_199000.out BK200.out (by decide)) (fun _ hk => hk.2) (.int .i64 ((rd_T49 l0_1 x4_1).f0))) (fun _ hk => hk.2) (.slice A199_1 ((rd_T49 l0_1 x4_1).f1).length c199_1)) (fun _ hk => hk.2) (.bool ((rd_T49 l0_1 x4_1).f2))) (fun _ hk => hk.2) (.slice A199_3 ((rd_T49 l0_1 x4_1).f3).length c199_3)) (fun _ h_ => h_.1))) (Kd.R_base ho29) hb); have n1_ := Aside0.mk (Kd.S_elder' (by (with_reducible repeat (first | apply Kd.S_alloc | apply Kd.S_drewN | apply Kd.S_drew)); exact (Kd.S_mono (Kd.S_far (p := ⟨gb200, 3, none⟩) (Kd.S_far (p := ⟨gb200, 2, none⟩) (Kd.S_far (p := ⟨gb200, 1, none⟩) (Kd.S_far (p := ⟨gb200, 0, none⟩) (Kd.S_mono HO_199001.out (fun k_ hk => (⟨hk, hk.2⟩ : _ ∧ k_ ≠ gb200))) (fun _ hk => hk.2) (.int .i64 ((rd_T49 l0_1 x4_1).f0))) (fun _ hk => hk.2) (.slice A199_1 ((rd_T49 l0_1 x4_1).f1).length c199_1)) (fun _ hk => hk.2) (.bool ((rd_T49 l0_1 x4_1).f2))) (fun _ hk => hk.2) (.slice A199_3 ((rd_T49 l0_1 x4_1).f3).length c199_3)) (fun _ h_ => h_.1))) (Kd.R_base ho29) hb); have n2_ := Aside0.mk (Kd.R_lower (Kd.R_new' ho29 (Kd.R_lt (by (with_reducible repeat (first | apply Kd.R_alloc | apply Kd.R_drewN | apply Kd.R_drew)); exact (Kd.R_mono (Kd.R_far (p := ⟨gb200, 3, none⟩) (Kd.R_far (p := ⟨gb200, 2, none⟩) (Kd.R_far (p := ⟨gb200, 1, none⟩) (Kd.R_far (p := ⟨gb200, 0, none⟩) (Kd.R_types HO_199000.out BK200.out (by decide)) (fun _ hk => hk.2) (.int .i64 ((rd_T49 l0_1 x4_1).f0))) (fun _ hk => hk.2) (.slice A199_1 ((rd_T49 l0_1 x4_1).f1).length c199_1)) (fun _ hk => hk.2) (.bool ((rd_T49 l0_1 x4_1).f2))) (fun _ hk => hk.2) (.slice A199_3 ((rd_T49 l0_1 x4_1).f3).length c199_3)) (fun _ h_ => h_.1))))) (below_size (hb_ HB.out))); have n3_ := Aside0.mk (blk_below (g := gb190) (o := .cells #[.slice A0_0 l0_0.length c0_0, .slice (some ad199) l0_1.length c0_1] 41 (0, 0)) (by (with_reducible repeat (first | refine blk_drewN ?_ _ | refine blk_drew ?_ | refine blk_alloc ?_ _)); refine blk_far ?_ NB190_200.out _; (with_reducible repeat (first | refine blk_drewN ?_ _ | refine blk_drew ?_ | refine blk_alloc ?_ _)); refine blk_far ?_ NB190_200.out _; (with_reducible repeat (first | refine blk_drewN ?_ _ | refine blk_drew ?_ | refine blk_alloc ?_ _)); refine blk_far ?_ NB190_200.out _; (with_reducible repeat (first | refine blk_drewN ?_ _ | refine blk_drew ?_ | refine blk_alloc ?_ _)); refine blk_far ?_ NB190_200.out _; (with_reducible repeat (first | refine blk_drewN ?_ _ | refine blk_drew ?_ | refine blk_alloc ?_ _)); exact BK190.out) hb); have n4_ := Aside0.mk (blk_below (g := gb191) (o := .cells #[.slice none 0 0, .slice none 0 0] 41 (0, 0)) (by (with_reducible repeat (first | refine blk_drewN ?_ _ | refine blk_drew ?_ | refine blk_alloc ?_ _)); refine blk_far ?_ NB191_200.out _; (with_reducible repeat (first | refine blk_drewN ?_ _ | refine blk_drew ?_ | refine blk_alloc ?_ _)); refine blk_far ?_ NB191_200.out _; (with_reducible repeat (first | refine blk_drewN ?_ _ | refine blk_drew ?_ | refine blk_alloc ?_ _)); refine blk_far ?_ NB191_200.out _; (with_reducible repeat (first | refine blk_drewN ?_ _ | refine blk_drew ?_ | refine blk_alloc ?_ _)); refine blk_far ?_ NB191_200.out _; (with_reducible repeat (first | refine blk_drewN ?_ _ | refine blk_drew ?_ | refine blk_alloc ?_ _)); exact BK191.out) hb); have n5_ := Aside0.mk (blk_below (g := gb198) (o := .cells #[.slice Ao10 y195.length co10, u199001] 41 (0, 0)) (by (with_reducible repeat (first | refine blk_drewN ?_ _ | refine blk_drew ?_ | refine blk_alloc ?_ _)); refine blk_far ?_ NB198_200.out _; (with_reducible repeat (first | refine blk_drewN ?_ _ | refine blk_drew ?_ | refine blk_alloc ?_ _)); refine blk_far ?_ NB198_200.out _; (with_reducible repeat (first | refine blk_drewN ?_ _ | refine blk_drew ?_ | refine blk_alloc ?_ _)); refine blk_far ?_ NB198_200.out _; (with_reducible repeat (first | refine blk_drewN ?_ _ | refine blk_drew ?_ | refine blk_alloc ?_ _)); refine blk_far ?_ NB198_200.out _; (with_reducible repeat (first | refine blk_drewN ?_ _ | refine blk_drew ?_ | refine blk_alloc ?_ _)); exact BK198.out) hb); have n6_ := Aside0.mk (blk_below (g := gb200) (o := .cells #[.int .i64 ((rd_T49 l0_1 x4_1).f0), .slice A199_1 ((rd_T49 l0_1 x4_1).f1).length c199_1, .bool ((rd_T49 l0_1 x4_1).f2), .slice A199_3 ((rd_T49 l0_1 x4_1).f3).length c199_3] 49 (0, 0)) (by (with_reducible repeat (first | refine blk_drewN ?_ _ | refine blk_drew ?_ | refine blk_alloc ?_ _)); refine blk_put (cs := #[.int .i64 ((rd_T49 l0_1 x4_1).f0), .slice A199_1 ((rd_T49 l0_1 x4_1).f1).length c199_1, .bool ((rd_T49 l0_1 x4_1).f2), .slice none 0 0]) ?_ 3 _ rfl; (with_reducible repeat (first | refine blk_drewN ?_ _ | refine blk_drew ?_ | refine blk_alloc ?_ _)); refine blk_put (cs := #[.int .i64 ((rd_T49 l0_1 x4_1).f0), .slice A199_1 ((rd_T49 l0_1 x4_1).f1).length c199_1, .bool false, .slice none 0 0]) ?_ 2 _ rfl; (with_reducible repeat (first | refine blk_drewN ?_ _ | refine blk_drew ?_ | refine blk_alloc ?_ _)); refine blk_put (cs := #[.int .i64 ((rd_T49 l0_1 x4_1).f0), .slice none 0 0, .bool false, .slice none 0 0]) ?_ 1 _ rfl; (with_reducible repeat (first | refine blk_drewN ?_ _ | refine blk_drew ?_ | refine blk_alloc ?_ _)); refine blk_put (cs := #[.int .i64 0, .slice none 0 0, .bool false, .slice none 0 0]) ?_ 0 _ rfl; (with_reducible repeat (first | refine blk_drewN ?_ _ | refine blk_drew ?_ | refine blk_alloc ?_ _)); exact BK200.out) hb); have n7_ := Aside0.mk (below_step (hb_ HB.out) hb); clear HO_199000; clear HO_199001; clear BK190; clear BK191; clear BK198; clear BK200; clear HB; have HO_199000 := n0_; have HO_199001 := n1_; have HO203 := n2_; have BK190 := n3_; have BK191 := n4_; have BK198 := n5_; have BK200 := n6_; have HB := n7_; clear n0_ n1_ n2_ n3_ n4_ n5_ n6_ n7_; clear hb ho29; have hcz30_0 : w28.cell? ⟨gb200, 0, none⟩ = some (.int .i64 ((rd_T49 l0_1 x4_1).f0)) := (blk_cell BK200.out 0).trans rfl; have hcz30_1 : w28.cell? ⟨gb200, 1, none⟩ = some (.slice A199_1 ((rd_T49 l0_1 x4_1).f1).length c199_1) := (blk_cell BK200.out 1).trans rfl; have hcz30_2 : w28.cell? ⟨gb200, 2, none⟩ = some (.bool ((rd_T49 l0_1 x4_1).f2)) := (blk_cell BK200.out 2).trans rfl; have hcz30_3 : w28.cell? ⟨gb200, 3, none⟩ = some (.slice A199_3 ((rd_T49 l0_1 x4_1).f3).length c199_3) := (blk_cell BK200.out 3).trans rfl; have hfz30_0 := blk_frozen BK200.out 0; have hfz30_1 := blk_frozen BK200.out 1; have hfz30_2 := blk_frozen BK200.out 2; have hfz30_3 := blk_frozen BK200.out 3) | ((with_reducible refine gate_builtin (b := .append) (xs := #[.tmp 23, .tmp 25]) rfl ?_); at_builtin; refine Kd.R_append_rows (Kd.int .i64) (w0 := w) w.heap.size rfl (.tmp 23) (.tmp 25) 22 3 (.int .i64 0) 8 rfl Try.underlying22 info3 rfl (by decide) (by omega) v202 y201 ((rd_T49 l0_1 x4_1).f1) _ _ _ (fun k_ => some k_ ≠ (.slice Ao10 y195.length co10 : Value).ownBlock) (fun _ => False) rfl rfl ?aO ?aR (fun _ _ h => h) (fun _ h => h.elim) ?aF ?aB ?aS ?aL ?_; (case aR => repeat (first | exact (Kd.C_below HR199_1.out HB.out) | (with_reducible refine Kd.C_alloc ?_ _) | (with_reducible refine Kd.C_drewN ?_ _) | (with_reducible refine Kd.C_drew ?_))); (case aB => exact (hb_ HB.out)); (case aF => exact (fun k_ hk => Kd.fresh' (Kd.R_lt (rd_ HO_199000.out)) k_ hk)); (case aO => exact (by (with_reducible repeat (first | apply Kd.R_alloc | apply Kd.R_drewN | apply Kd.R_drew)); exact Kd.R_mono HO203.out (fun _ hk => hk.2))); (case aS => exact (below_size (hb_ HB.out))); (case aL => have := LMc17.out; omega); intro v205 w31 ho hb hg hat; rw [← Ny204.out] at ho; have n0_ := Aside0.mk (Kd.R_after (ok := (fun _ => True)) (rd_ HO_199000.out) hg hat); have n1_ := Aside0.mk (Kd.S_after (ok := (fun k_ => some k_ ≠ (.slice Ao10 y195.length co10 : Value).ownBlock ∧ k_ ≠ gb200)) (sd_ HO_199001.out) hg hat); have n2_ := Aside0.mk (blk_grown (g := gb190) (o := .cells #[.slice A0_0 l0_0.length c0_0, .slice (some ad199) l0_1.length c0_1] 41 (0, 0)) (bd_ BK190.out) hg (Kd.R_ne HO203.out BK190.out (by decide))); have n3_ := Aside0.mk (blk_grown (g := gb191) (o := .cells #[.slice none 0 0, .slice none 0 0] 41 (0, 0)) (bd_ BK191.out) hg (Kd.R_ne HO203.out BK191.out (by decide))); have n4_ := Aside0.mk (blk_grown (g := gb198) (o := .cells #[.slice Ao10 y195.length co10, u199001] 41 (0, 0)) (bd_ BK198.out) hg (Kd.R_ne HO203.out BK198.out (by decide))); have n5_ := Aside0.mk (blk_grown (g := gb200) (o := .cells #[.int .i64 ((rd_T49 l0_1 x4_1).f0), .slice A199_1 ((rd_T49 l0_1 x4_1).f1).length c199_1, .bool ((rd_T49 l0_1 x4_1).f2), .slice A199_3 ((rd_T49 l0_1 x4_1).f3).length c199_3] 49 (0, 0)) (bd_ BK200.out) hg (Kd.R_ne HO203.out BK200.out (by decide))); have n6_ := Aside0.mk (hb); have n7_ := Aside0.mk (ho); clear HO_199000; clear HO_199001; clear BK190; clear BK191; clear BK198; clear BK200; clear HB; clear HO203; have HO_199000 := n0_; have HO_199001 := n1_; have BK190 := n2_; have BK191 := n3_; have BK198 := n4_; have BK200 := n5_; have HB := n6_; have HO206 := n7_; clear n0_ n1_ n2_ n3_ n4_ n5_ n6_ n7_; clear ho hb hg hat; obtain ⟨Ao32, co32, eo32⟩ := Kd.R_slice HO206.out; subst eo32; have hcz33_0 : w31.cell? ⟨gb200, 0, none⟩ = some (.int .i64 ((rd_T49 l0_1 x4_1).f0)) := (blk_cell BK200.out 0).trans rfl; have hcz33_1 : w31.cell? ⟨gb200, 1, none⟩ = some (.slice A199_1 ((rd_T49 l0_1 x4_1).f1).length c199_1) := (blk_cell BK200.out 1).trans rfl; have hcz33_2 : w31.cell? ⟨gb200, 2, none⟩ = some (.bool ((rd_T49 l0_1 x4_1).f2)) := (blk_cell BK200.out 2).trans rfl; have hcz33_3 : w31.cell? ⟨gb200, 3, none⟩ = some (.slice A199_3 ((rd_T49 l0_1 x4_1).f3).length c199_3) := (blk_cell BK200.out 3).trans rfl; have hfz33_0 := blk_frozen BK200.out 0; have hfz33_1 := blk_frozen BK200.out 1; have hfz33_2 := blk_frozen BK200.out 2; have hfz33_3 := blk_frozen BK200.out 3) | ((with_reducible refine gate_dst (N := 28) rfl ?_); refine Kd.R_lit k66 _ 66 ?hg (N := 28) ?hd (xs := ([] : List (S66))) (inner := []) (ok := fun _ => True) (okp := fun _ => True) ?hr ?hp (fun _ hk => hk) trivial (Below.refl _ _) (Nat.le_refl _) (by simp) ?_; (case hd => rfl); (case hg => rfl); (case hr => first | (go_simp; done) | (go_simp; rfl)); (case hp => exact (Reps.none _ _)); intro v208 w34 ho35 hb hg_ hnew_; clear hg_ hnew_; (first | rw [← Ny207.out] at ho35 | (simp only [Int.reduceToNat] at ho35; rw [← Ny207.out] at ho35)); have n0_ := Aside0.mk (Kd.R_below (by (with_reducible repeat (first | apply Kd.R_alloc | apply Kd.R_drewN | apply Kd.R_drew)); exact (Kd.R_mono (Kd.R_far (p := ⟨gb200, 1, none⟩) (Kd.R_types HO_199000.out BK200.out (by decide)) (fun _ hk => hk.2) (.slice Ao32 y204.length co32)) (fun _ h_ => h_.1))) hb); have n1_ := Aside0.mk (Kd.S_elder' (by (with_reducible repeat (first | apply Kd.S_alloc | apply Kd.S_drewN | apply Kd.S_drew)); exact (Kd.S_mono (Kd.S_far (p := ⟨gb200, 1, none⟩) (Kd.S_mono HO_199001.out (fun k_ hk => (⟨hk, hk.1.2⟩ : _ ∧ k_ ≠ gb200))) (fun _ hk => hk.2) (.slice Ao32 y204.length co32)) (fun _ h_ => h_.1))) (Kd.R_base ho35) hb); have n2_ := Aside0.mk (Kd.R_below (by (with_reducible repeat (first | apply Kd.R_alloc | apply Kd.R_drewN | apply Kd.R_drew)); exact (Kd.R_mono (Kd.R_far (p := ⟨gb200, 1, none⟩) (Kd.R_types HO206.out BK200.out (by decide)) (fun _ hk => hk.2) (.slice Ao32 y204.length co32)) (fun _ h_ => h_.1))) hb); have n3_ := Aside0.mk (Kd.R_lower ho35 (below_size (hb_ HB.out))); have n4_ := Aside0.mk (blk_below (g := gb190) (o := .cells #[.slice A0_0 l0_0.length c0_0, .slice (some ad199) l0_1.length c0_1] 41 (0, 0)) (by (with_reducible repeat (first | refine blk_drewN ?_ _ | refine blk_drew ?_ | refine blk_alloc ?_ _)); refine blk_far ?_ NB190_200.out _; (with_reducible repeat (first | refine blk_drewN ?_ _ | refine blk_drew ?_ | refine blk_alloc ?_ _)); exact BK190.out) hb); have n5_ := Aside0.mk (blk_below (g := gb191) (o := .cells #[.slice none 0 0, .slice none 0 0] 41 (0, 0)) (by (with_reducible repeat (first | refine blk_drewN ?_ _ | refine blk_drew ?_ | refine blk_alloc ?_ _)); refine blk_far ?_ NB191_200.out _; (with_reducible repeat (first | refine blk_drewN ?_ _ | refine blk_drew ?_ | refine blk_alloc ?_ _)); exact BK191.out) hb); have n6_ := Aside0.mk (blk_below (g := gb198) (o := .cells #[.slice Ao10 y195.length co10, u199001] 41 (0, 0)) (by (with_reducible repeat (first | refine blk_drewN ?_ _ | refine blk_drew ?_ | refine blk_alloc ?_ _)); refine blk_far ?_ NB198_200.out _; (with_reducible repeat (first | refine blk_drewN ?_ _ | refine blk_drew ?_ | refine blk_alloc ?_ _)); exact BK198.out) hb); have n7_ := Aside0.mk (blk_below (g := gb200) (o := .cells #[.int .i64 ((rd_T49 l0_1 x4_1).f0), .slice Ao32 y204.length co32, .bool ((rd_T49 l0_1 x4_1).f2), .slice A199_3 ((rd_T49 l0_1 x4_1).f3).length c199_3] 49 (0, 0)) (by (with_reducible repeat (first | refine blk_drewN ?_ _ | refine blk_drew ?_ | refine blk_alloc ?_ _)); refine blk_put (cs := #[.int .i64 ((rd_T49 l0_1 x4_1).f0), .slice A199_1 ((rd_T49 l0_1 x4_1).f1).length c199_1, .bool ((rd_T49 l0_1 x4_1).f2), .slice A199_3 ((rd_T49 l0_1 x4_1).f3).length c199_3]) ?_ 1 _ rfl; (with_reducible repeat (first | refine blk_drewN ?_ _ | refine blk_drew ?_ | refine blk_alloc ?_ _)); exact BK200.out) hb); have n8_ := Aside0.mk (below_step (hb_ HB.out) hb); clear HO_199000; clear HO_199001; clear HO206; clear BK190; clear BK191; clear BK198; clear BK200; clear HB; have HO_199000 := n0_; have HO_199001 := n1_; have HO206 := n2_; have HO209 := n3_; have BK190 := n4_; have BK191 := n5_; have BK198 := n6_; have BK200 := n7_; have HB := n8_; clear n0_ n1_ n2_ n3_ n4_ n5_ n6_ n7_ n8_; clear hb ho35; have hcz36_0 : w34.cell? ⟨gb200, 0, none⟩ = some (.int .i64 ((rd_T49 l0_1 x4_1).f0)) := (blk_cell BK200.out 0).trans rfl; have hcz36_1 : w34.cell? ⟨gb200, 1, none⟩ = some (.slice Ao32 y204.length co32) := (blk_cell BK200.out 1).trans rfl; have hcz36_2 : w34.cell? ⟨gb200, 2, none⟩ = some (.bool ((rd_T49 l0_1 x4_1).f2)) := (blk_cell BK200.out 2).trans rfl; have hcz36_3 : w34.cell? ⟨gb200, 3, none⟩ = some (.slice A199_3 ((rd_T49 l0_1 x4_1).f3).length c199_3) := (blk_cell BK200.out 3).trans rfl; have hfz36_0 := blk_frozen BK200.out 0; have hfz36_1 := blk_frozen BK200.out 1; have hfz36_2 := blk_frozen BK200.out 2; have hfz36_3 := blk_frozen BK200.out 3) | ((with_reducible refine gate_builtin (b := .append) (xs := #[.tmp 28, .tmp 30]) rfl ?_); at_builtin; refine Kd.R_append_rows k66 (w0 := w) w.heap.size rfl (.tmp 28) (.tmp 30) 47 66 (.agg #[(.int .i64 0), (.int .i64 0)]) 16 rfl Try.underlying47 info66 rfl (by decide) (by omega) v208 y207 ((rd_T49 l0_1 x4_1).f3) _ _ _ (fun _ => True) (fun _ => False) rfl rfl ?aO ?aR (fun _ _ h => h) (fun _ h => h.elim) ?aF ?aB ?aS ?aL ?_; (case aR => repeat (first | exact (Kd.C_below HR199_3.out HB.out) | (with_reducible refine Kd.C_alloc ?_ _) | (with_reducible refine Kd.C_drewN ?_ _) | (with_reducible refine Kd.C_drew ?_))); (case aB => exact (hb_ HB.out)); (case aF => exact (fun _ _ => trivial)); (case aO => exact (rd_ HO209.out)); (case aS => exact (below_size (hb_ HB.out))); (case aL => have := LMc18.out; omega); intro v211 w37 ho hb hg hat; rw [← Ny210.out] at ho; have n0_ := Aside0.mk (Kd.R_over' (rd_ HO_199000.out) (Kd.R_typed (rd_ HO209.out)) (by decide) hg); have n1_ := Aside0.mk (Kd.S_after (ok := (fun k_ => some k_ ≠ (.slice Ao10 y195.length co10 : Value).ownBlock ∧ some k_ ≠ (.slice Ao32 y204.length co32 : Value).ownBlock ∧ k_ ≠ gb200)) (by (with_reducible repeat (first | apply Kd.S_alloc | apply Kd.S_drewN | apply Kd.S_drew)); exact Kd.S_mono HO_199001.out (fun _ hk => ⟨⟨hk.1.1.1, ⟨hk.1.2, hk.1.1.2⟩⟩, hk.2⟩)) hg hat); have n2_ := Aside0.mk (blk_grown (g := gb190) (o := .cells #[.slice A0_0 l0_0.length c0_0, .slice (some ad199) l0_1.length c0_1] 41 (0, 0)) (bd_ BK190.out) hg (Kd.R_ne HO209.out BK190.out (by decide))); have n3_ := Aside0.mk (blk_grown (g := gb191) (o := .cells #[.slice none 0 0, .slice none 0 0] 41 (0, 0)) (bd_ BK191.out) hg (Kd.R_ne HO209.out BK191.out (by decide))); have n4_ := Aside0.mk (blk_grown (g := gb198) (o := .cells #[.slice Ao10 y195.length co10, u199001] 41 (0, 0)) (bd_ BK198.out) hg (Kd.R_ne HO209.out BK198.out (by decide))); have n5_ := Aside0.mk (blk_grown (g := gb200) (o := .cells #[.int .i64 ((rd_T49 l0_1 x4_1).f0), .slice Ao32 y204.length co32, .bool ((rd_T49 l0_1 x4_1).f2), .slice A199_3 ((rd_T49 l0_1 x4_1).f3).length c199_3] 49 (0, 0)) (bd_ BK200.out) hg (Kd.R_ne HO209.out BK200.out (by decide))); have n6_ := Aside0.mk (Kd.R_over' (rd_ HO206.out) (Kd.R_typed (rd_ HO209.out)) (by decide) hg); have n7_ := Aside0.mk (hb); have n8_ := Aside0.mk (ho); clear HO_199000; clear HO_199001; clear BK190; clear BK191; clear BK198; clear BK200; clear HO206; clear HB; clear HO209; have HO_199000 := n0_; have HO_199001 := n1_; have BK190 := n2_; have BK191 := n3_; have BK198 := n4_; have BK200 := n5_; have HO206 := n6_; have HB := n7_; have HO212 := n8_; clear n0_ n1_ n2_ n3_ n4_ n5_ n6_ n7_ n8_; clear ho hb hg hat; obtain ⟨Ao38, co38, eo38⟩ := Kd.R_slice HO212.out; subst eo38; have hcz39_0 : w37.cell? ⟨gb200, 0, none⟩ = some (.int .i64 ((rd_T49 l0_1 x4_1).f0)) := (blk_cell BK200.out 0).trans rfl; have hcz39_1 : w37.cell? ⟨gb200, 1, none⟩ = some (.slice Ao32 y204.length co32) := (blk_cell BK200.out 1).trans rfl; have hcz39_2 : w37.cell? ⟨gb200, 2, none⟩ = some (.bool ((rd_T49 l0_1 x4_1).f2)) := (blk_cell BK200.out 2).trans rfl; have hcz39_3 : w37.cell? ⟨gb200, 3, none⟩ = some (.slice A199_3 ((rd_T49 l0_1 x4_1).f3).length c199_3) := (blk_cell BK200.out 3).trans rfl; have hfz39_0 := blk_frozen BK200.out 0; have hfz39_1 := blk_frozen BK200.out 1; have hfz39_2 := blk_frozen BK200.out 2; have hfz39_3 := blk_frozen BK200.out 3) | ((with_reducible refine gate_store (t := 47) (p := 32) rfl ?_); refine store_event (t := 47) (p := 32) (v := ?vo_w40) (w1 := (w37.setCell ⟨gb200, 3, none⟩ (.slice Ao38 y210.length co38))) ?hg ?ho ?hn ?hr ?_; (case ho => rfl); (case hg => rfl); (case hn => rfl); (case hr => first | (go_simp; done) | (go_simp; rfl)); intro w40 hw; have n0_ : Aside0 (Kd.R (Kd.int .i64) 3 w40 w.heap.size (fun k_ => some k_ ≠ (.slice Ao32 y204.length co32 : Value).ownBlock) (.slice Ao10 y195.length co10) y195) := ⟨(by rw [hw]; exact (by (with_reducible repeat (first | apply Kd.R_alloc | apply Kd.R_drewN | apply Kd.R_drew)); exact Kd.R_mono (Kd.R_far (p := ⟨gb200, 3, none⟩) (Kd.R_types HO_199000.out BK200.out (by decide)) (fun _ hk => hk.2) (.slice Ao38 y210.length co38)) (fun _ hk => hk.1.2)))⟩; have n1_ : Aside0 (Kd.S k49 49 w40 w.heap.size (fun k_ => some k_ ≠ (.slice Ao10 y195.length co10 : Value).ownBlock ∧ some k_ ≠ (.slice Ao32 y204.length co32 : Value).ownBlock ∧ some k_ ≠ (.slice Ao38 y210.length co38 : Value).ownBlock ∧ k_ ≠ gb200) u199001 x199001_1) := ⟨(by rw [hw]; exact (by (with_reducible repeat (first | apply Kd.S_alloc | apply Kd.S_drewN | apply Kd.S_drew)); exact Kd.S_mono (Kd.S_far (p := ⟨gb200, 3, none⟩) (Kd.S_mono HO_199001.out (fun k_ hk => (⟨hk, hk.1.2.2⟩ : _ ∧ k_ ≠ gb200))) (fun _ hk => hk.2) (.slice Ao38 y210.length co38)) (fun _ hk => ⟨hk.1.1.1, ⟨hk.1.1.2.1, ⟨hk.1.2, hk.1.1.2.2⟩⟩⟩)))⟩; have n2_ : Aside0 (Kd.R (Kd.int .i64) 3 w40 w.heap.size (fun k_ => some k_ ≠ (.slice Ao10 y195.length co10 : Value).ownBlock) (.slice Ao32 y204.length co32) y204) := ⟨(by rw [hw]; exact (by (with_reducible repeat (first | apply Kd.R_alloc | apply Kd.R_drewN | apply Kd.R_drew)); exact Kd.R_mono (Kd.R_far (p := ⟨gb200, 3, none⟩) (Kd.R_types HO206.out BK200.out (by decide)) (fun _ hk => hk.2) (.slice Ao38 y210.length co38)) (fun _ hk => hk.1)))⟩; have n3_ : Aside0 (Kd.R k66 66 w40 w.heap.size (fun _ => True) (.slice Ao38 y210.length co38) y210) := ⟨(by rw [hw]; exact (by (with_reducible repeat (first | apply Kd.R_alloc | apply Kd.R_drewN | apply Kd.R_drew)); exact Kd.R_mono (Kd.R_far (p := ⟨gb200, 3, none⟩) (Kd.R_types HO212.out BK200.out (by decide)) (fun _ hk => hk.2) (.slice Ao38 y210.length co38)) (fun _ hk => trivial)))⟩; have n4_ : Aside0 (w40.heap[gb190]? = some (.cells #[.slice A0_0 l0_0.length c0_0, .slice (some ad199) l0_1.length c0_1] 41 (0, 0))) := ⟨(by rw [hw]; exact (by (with_reducible repeat (first | refine blk_drewN ?_ _ | refine blk_drew ?_ | refine blk_alloc ?_ _)); refine blk_far ?_ NB190_200.out _; (with_reducible repeat (first | refine blk_drewN ?_ _ | refine blk_drew ?_ | refine blk_alloc ?_ _)); exact BK190.out))⟩; have n5_ : Aside0 (w40.heap[gb191]? = some (.cells #[.slice none 0 0, .slice none 0 0] 41 (0, 0))) := ⟨(by rw [hw]; exact (by (with_reducible repeat (first | refine blk_drewN ?_ _ | refine blk_drew ?_ | refine blk_alloc ?_ _)); refine blk_far ?_ NB191_200.out _; (with_reducible repeat (first | refine blk_drewN ?_ _ | refine blk_drew ?_ | refine blk_alloc ?_ _)); exact BK191.out))⟩; have n6_ : Aside0 (w40.heap[gb198]? = some (.cells #[.slice Ao10 y195.length co10, u199001] 41 (0, 0))) := ⟨(by rw [hw]; exact (by (with_reducible repeat (first | refine blk_drewN ?_ _ | refine blk_drew ?_ | refine blk_alloc ?_ _)); refine blk_far ?_ NB198_200.out _; (with_reducible repeat (first | refine blk_drewN ?_ _ | refine blk_drew ?_ | refine blk_alloc ?_ _)); exact BK198.out))⟩; have n7_ : Aside0 (w40.heap[gb200]? = some (.cells #[.int .i64 ((rd_T49 l0_1 x4_1).f0), .slice Ao32 y204.length co32, .bool ((rd_T49 l0_1 x4_1).f2), .slice Ao38 y210.length co38] 49 (0, 0))) := ⟨(by rw [hw]; exact (by (with_reducible repeat (first | refine blk_drewN ?_ _ | refine blk_drew ?_ | refine blk_alloc ?_ _)); refine blk_put (cs := #[.int .i64 ((rd_T49 l0_1 x4_1).f0), .slice Ao32 y204.length co32, .bool ((rd_T49 l0_1 x4_1).f2), .slice A199_3 ((rd_T49 l0_1 x4_1).f3).length c199_3]) ?_ 3 _ rfl; (with_reducible repeat (first | refine blk_drewN ?_ _ | refine blk_drew ?_ | refine blk_alloc ?_ _)); exact BK200.out))⟩; have n8_ : Aside0 (Below w.heap.size w w40) := ⟨(by rw [hw]; exact (hb_ HB.out))⟩; clear hw; clear HO_199000; clear HO_199001; clear HO206; clear HO212; clear BK190; clear BK191; clear BK198; clear BK200; clear HB; have HO_199000 := n0_; have HO_199001 := n1_; have HO206 := n2_; have HO212 := n3_; have BK190 := n4_; have BK191 := n5_; have BK198 := n6_; have BK200 := n7_; have HB := n8_; clear n0_ n1_ n2_ n3_ n4_ n5_ n6_ n7_ n8_; have hnb41 := NB198_191.out; have hnc41 := NB191_198.out; have hcz42_0 : w40.cell? ⟨gb198, 0, none⟩ = some (.slice Ao10 y195.length co10) := (blk_cell BK198.out 0).trans rfl; have hcz42_1 : w40.cell? ⟨gb198, 1, none⟩ = some (u199001) := (blk_cell BK198.out 1).trans rfl; have hfz42_0 := blk_frozen BK198.out 0; have hfz42_1 := blk_frozen BK198.out 1; have hcz43_0 : w40.cell? ⟨gb200, 0, none⟩ = some (.int .i64 ((rd_T49 l0_1 x4_1).f0)) := (blk_cell BK200.out 0).trans rfl; have hcz43_1 : w40.cell? ⟨gb200, 1, none⟩ = some (.slice Ao32 y204.length co32) := (blk_cell BK200.out 1).trans rfl; have hcz43_2 : w40.cell? ⟨gb200, 2, none⟩ = some (.bool ((rd_T49 l0_1 x4_1).f2)) := (blk_cell BK200.out 2).trans rfl; have hcz43_3 : w40.cell? ⟨gb200, 3, none⟩ = some (.slice Ao38 y210.length co38) := (blk_cell BK200.out 3).trans rfl; have hfz43_0 := blk_frozen BK200.out 0; have hfz43_1 := blk_frozen BK200.out 1; have hfz43_2 := blk_frozen BK200.out 2; have hfz43_3 := blk_frozen BK200.out 3) | ((with_reducible refine gate_builtin (b := .append) (xs := #[.tmp 34, .tmp 36]) rfl ?_); at_builtin; refine Kd.S_append k49 (w0 := w) w.heap.size rfl (.tmp 34) (.tmp 36) 39 49 (.agg #[(.int .i64 0), (.slice none 0 0), (.bool false), (.slice none 0 0)]) 64 rfl Try.underlying39 info49 rfl (by decide) (by omega) u199001 x199001_1 (⟨(rd_T49 l0_1 x4_1).f0, y204, (rd_T49 l0_1 x4_1).f2, y210⟩ : S49) [.int .i64 ((rd_T49 l0_1 x4_1).f0), .slice Ao32 y204.length co32, .bool ((rd_T49 l0_1 x4_1).f2), .slice Ao38 y210.length co38] (fun k_ => some k_ ≠ (.slice Ao10 y195.length co10 : Value).ownBlock ∧ k_ ≠ gb200) (fun k_ => some k_ = (.slice Ao32 y204.length co32 : Value).ownBlock ∨ some k_ = (.slice Ao38 y210.length co38 : Value).ownBlock) rfl rfl ?aP (fun k_ hk_ => hk_.elim (fun h_ => ((Kd.R_mono (ok' := fun k_ => ((fun k_ => some k_ ≠ (.slice Ao10 y195.length co10 : Value).ownBlock ∧ k_ ≠ gb200)) k_ ∧ some k_ ≠ (u199001 : Value).ownBlock) (Kd.R_types (Kd.R_apart' (HO206.out) (Kd.S_typed HO_199001.out) (by decide)) BK200.out (by decide)) (fun k_ hk => ⟨⟨hk.1.1, hk.2⟩, hk.1.2⟩))).1 k_ h_.symm) (fun h_ => ((Kd.R_mono (ok' := fun k_ => ((fun k_ => some k_ ≠ (.slice Ao10 y195.length co10 : Value).ownBlock ∧ k_ ≠ gb200)) k_ ∧ some k_ ≠ (u199001 : Value).ownBlock) (Kd.R_types (Kd.R_apart' (Kd.R_apart' (HO212.out) (Kd.R_typed HO_199000.out) (by decide)) (Kd.S_typed HO_199001.out) (by decide)) BK200.out (by decide)) (fun k_ hk => ⟨⟨hk.1.1.2, hk.2⟩, hk.1.2⟩))).1 k_ h_.symm)) ?aF ?aO ?aB ?aS ?aL ?_; (case aP => exact k49_mkM _ _ _ (⟨(rd_T49 l0_1 x4_1).f0, y204, (rd_T49 l0_1 x4_1).f2, y210⟩ : S49) (Kd.R_mono (Kd.R_tight rfl (Kd.R_mono (ok' := fun k_ => ((fun k_ => some k_ ≠ (.slice Ao10 y195.length co10 : Value).ownBlock ∧ k_ ≠ gb200)) k_ ∧ some k_ ≠ (u199001 : Value).ownBlock) (Kd.R_types (Kd.R_apart' (HO206.out) (Kd.S_typed HO_199001.out) (by decide)) BK200.out (by decide)) (fun k_ hk => ⟨⟨hk.1.1, hk.2⟩, hk.1.2⟩))) (fun _ h_ => Or.inl h_)) (Kd.R_mono (Kd.R_tight rfl (Kd.R_mono (ok' := fun k_ => ((fun k_ => some k_ ≠ (.slice Ao10 y195.length co10 : Value).ownBlock ∧ k_ ≠ gb200)) k_ ∧ some k_ ≠ (u199001 : Value).ownBlock) (Kd.R_types (Kd.R_apart' (Kd.R_apart' (HO212.out) (Kd.R_typed HO_199000.out) (by decide)) (Kd.S_typed HO_199001.out) (by decide)) BK200.out (by decide)) (fun k_ hk => ⟨⟨hk.1.1.2, hk.2⟩, hk.1.2⟩))) (fun _ h_ => Or.inr (h_)))); (case aB => exact (hb_ HB.out)); (case aF => exact (fun k_ hk => ⟨Kd.fresh' (Kd.R_lt (rd_ HO_199000.out)) k_ hk, Kd.freshB (g := gb200) (o := .cells #[.int .i64 ((rd_T49 l0_1 x4_1).f0), .slice Ao32 y204.length co32, .bool ((rd_T49 l0_1 x4_1).f2), .slice Ao38 y210.length co38] 49 (0, 0)) (bd_ BK200.out) k_ hk⟩)); (case aO => exact (by (with_reducible repeat (first | apply Kd.S_alloc | apply Kd.S_drewN | apply Kd.S_drew)); exact Kd.S_mono HO_199001.out (fun k_ hk => ⟨⟨hk.1, hk.2.2.2⟩, fun e_ => e_.elim (fun h_ => hk.2.1 h_) (fun h_ => hk.2.2.1 h_)⟩))); (case aS => exact (below_size (hb_ HB.out))); (case aL => have := LMc19.out; omega); intro v214 w44 ho hb hg hat; rw [← Ny213.out] at ho; have n0_ := Aside0.mk (Kd.R_over' (rd_ HO_199000.out) (Kd.S_typed (sd_ HO_199001.out)) (by decide) hg); have n1_ := Aside0.mk (blk_grown (g := gb190) (o := .cells #[.slice A0_0 l0_0.length c0_0, .slice (some ad199) l0_1.length c0_1] 41 (0, 0)) (bd_ BK190.out) hg (Kd.S_ne HO_199001.out BK190.out (by decide))); have n2_ := Aside0.mk (blk_grown (g := gb191) (o := .cells #[.slice none 0 0, .slice none 0 0] 41 (0, 0)) (bd_ BK191.out) hg (Kd.S_ne HO_199001.out BK191.out (by decide))); have n3_ := Aside0.mk (blk_grown (g := gb198) (o := .cells #[.slice Ao10 y195.length co10, u199001] 41 (0, 0)) (bd_ BK198.out) hg (Kd.S_ne HO_199001.out BK198.out (by decide))); have n4_ := Aside0.mk (blk_grown (g := gb200) (o := .cells #[.int .i64 ((rd_T49 l0_1 x4_1).f0), .slice Ao32 y204.length co32, .bool ((rd_T49 l0_1 x4_1).f2), .slice Ao38 y210.length co38] 49 (0, 0)) (bd_ BK200.out) hg (Kd.S_away HO_199001.out (fun _ hk => hk.2.2.2))); have n5_ := Aside0.mk (hb); have n6_ := Aside0.mk (ho); clear HO_199000; clear BK190; clear BK191; clear BK198; clear BK200; clear HB; clear HO_199001; clear HO206; clear HO212; have HO_199000 := n0_; have BK190 := n1_; have BK191 := n2_; have BK198 := n3_; have BK200 := n4_; have HB := n5_; have HO215 := n6_; clear n0_ n1_ n2_ n3_ n4_ n5_ n6_; clear ho hb hg hat; obtain ⟨Ao45, co45, eo45⟩ := Kd.S_slice HO215.out; subst eo45; have hcz46_0 : w44.cell? ⟨gb198, 0, none⟩ = some (.slice Ao10 y195.length co10) := (blk_cell BK198.out 0).trans rfl; have hcz46_1 : w44.cell? ⟨gb198, 1, none⟩ = some (u199001) := (blk_cell BK198.out 1).trans rfl; have hfz46_0 := blk_frozen BK198.out 0; have hfz46_1 := blk_frozen BK198.out 1))
 go_roundg k1
 case measure => have := HK1.out; omega
 case rel => exact ⟨(wrap64 (x4_1 + 1)), (y213), (.slice Ao45 y213.length co45), rf_, H', ⟨by have := HK1.out; omega⟩, ⟨by (with_reducible repeat (first | apply Kd.R_alloc | apply Kd.R_drewN | apply Kd.R_drew)); exact Kd.R_mono (Kd.R_far (p := ⟨gb198, 1, none⟩) (Kd.R_types HO_199000.out BK198.out (by decide)) (fun _ hk => hk.2) (.slice Ao45 y213.length co45)) (fun _ hk => trivial)⟩, ⟨by (with_reducible repeat (first | apply Kd.S_alloc | apply Kd.S_drewN | apply Kd.S_drew)); exact Kd.S_mono (Kd.S_far (p := ⟨gb198, 1, none⟩) (Kd.S_types HO215.out BK198.out (by decide)) (fun _ hk => hk.2) (.slice Ao45 y213.length co45)) (fun _ hk => hk.1.1)⟩, ⟨by (with_reducible repeat (first | refine blk_drewN ?_ _ | refine blk_drew ?_ | refine blk_alloc ?_ _)); refine blk_far ?_ NB190_198.out _; (with_reducible repeat (first | refine blk_drewN ?_ _ | refine blk_drew ?_ | refine blk_alloc ?_ _)); exact BK190.out⟩, ⟨by (with_reducible repeat (first | refine blk_drewN ?_ _ | refine blk_drew ?_ | refine blk_alloc ?_ _)); refine blk_far ?_ NB191_198.out _; (with_reducible repeat (first | refine blk_drewN ?_ _ | refine blk_drew ?_ | refine blk_alloc ?_ _)); exact BK191.out⟩, ⟨by (with_reducible repeat (first | refine blk_drewN ?_ _ | refine blk_drew ?_ | refine blk_alloc ?_ _)); refine blk_put (cs := #[.slice Ao10 y195.length co10, u199001]) ?_ 1 _ rfl; (with_reducible repeat (first | refine blk_drewN ?_ _ | refine blk_drew ?_ | refine blk_alloc ?_ _)); exact BK198.out⟩, ⟨hb_ HB.out⟩⟩
end Go.Proofs.Ytphklaajolpieaa.Print
