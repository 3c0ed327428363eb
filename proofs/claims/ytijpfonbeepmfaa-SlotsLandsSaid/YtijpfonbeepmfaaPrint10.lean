-- Written by ownprint.py (this session's) with the kit's print.py: functions, contracts, rows; Lean checks it.
import Derived.Test.YtijpfonbeepmfaaPrint0
import Derived.Test.YtijpfonbeepmfaaPrint7
import Derived.Test.YtijpfonbeepmfaaPrint9
import Derived.Test.YtijpfonbeepmfaaHSq
namespace Go.Proofs.Ytijpfonbeepmfaa.Print
open Go.RowKit Go.Proofs.YtijpfonbeepmfaaW.PrintWords Go.Proofs.YtijpfonbeepmfaaW.PrintLast Go.Proofs.YtijpfonbeepmfaaW.PrintMore
attribute [local go_sem] max2_int min2_int max_two min_two max_three min_three max_four min_four   -- for this text's walks alone
set_option linter.unusedVariables false
set_option linter.unusedSimpArgs false
mutual
def fencepostlaw08_Great.j0 : Nat → Bool → List Int → List (List (S53)) → Option (Bool)
 | 0, _, _, _ => none
 | k + 1, x10, x156000, x156001 => if x10 = true then (some true) else (fencepostlaw08_Great.l0 k 0 x156000 x156001)
def fencepostlaw08_Great.l0 : Nat → Int → List Int → List (List (S53)) → Option (Bool)
 | 0, _, _, _ => none
 | k + 1, x3, x156000, x156001 => if x3 < (x156001.length : Int) then (if 0 ≤ x3 then (if ((rd_L3 x156001 x3).length : Int) > 40 then (some true) else (fencepostlaw08_Great.l0 k (wrap64 (x3 + 1)) x156000 x156001)) else (none)) else (some false)
end
def fencepostlaw08_Great.f (k : Nat) (l0_0 : List Int) (l0_1 : List (List (S53))) : Option (Bool) := (fencepostlaw07_Great.f k l0_0 l0_1).bind fun t156 => (if t156 = true then (fencepostlaw08_Great.j0 k true l0_0 l0_1) else ((fencepostref07_Right.f k l0_0 l0_1).bind fun t157 => (fencepostlaw08_Great.j0 k (!t157) l0_0 l0_1)))
set_option maxHeartbeats 8000000 in
set_option maxRecDepth 100000 in
theorem fencepostlaw08_Great.calls (k : Nat) (A0_0 : Option Addr) (c0_0 : Nat) (l0_0 : List Int) (A0_1 : Option Addr) (c0_1 : Nat) (l0_1 : List (List (S53))) (r : Bool) (w : World) (hr0_0 : Kd.C (Kd.int .i64) w A0_0 l0_0.length l0_0) (hc0_0 : l0_0.length ≤ c0_0) (hr0_1 : Kd.C (Kd.slice 53 k53) w A0_1 l0_1.length l0_1) (hc0_1 : l0_1.length ≤ c0_1) (h : fencepostlaw08_Great.f k l0_0 l0_1 = some r) :
 Calls Try.prog 11 #[.agg #[.slice A0_0 l0_0.length c0_0, .slice A0_1 l0_1.length c0_1]] w fun e w' => e = .returned (.bool r) ∧ Below w.heap.size w w' := by
 have hu25 := Try.underlying25
 have HR0_0 := Aside0.mk hr0_0
 have HC0_0 := Aside0.mk hc0_0
 clear hr0_0 hc0_0
 have HR0_1 := Aside0.mk hr0_1
 have HC0_1 := Aside0.mk hc0_1
 clear hr0_1 hc0_1
 have HB := Aside0.mk (Below.refl w.heap.size w)
 have H : ((fencepostlaw07_Great.f k l0_0 l0_1).bind fun t156 => (if t156 = true then (fencepostlaw08_Great.j0 k true l0_0 l0_1) else ((fencepostref07_Right.f k l0_0 l0_1).bind fun t157 => (fencepostlaw08_Great.j0 k (!t157) l0_0 l0_1)))) = some r := h
 clear h
 have HC2 := Aside0.mk H
 clear H
 go_enter Try.func11, Try.ntmps11
 go_upto_region 1 with (first | ((with_reducible refine gate_dst (N := 1) rfl ?_); refine box_event ?hg (N := 1) ?hd (cs := #[.slice A0_0 l0_0.length c0_0, .slice A0_1 l0_1.length c0_1]) (t := 25) ?hr ?_; (case hd => rfl); (case hg => rfl); (case hr => first | (go_simp; done) | (go_simp; rfl)); intro gb155 hg w3 hbox hb; have n0_ := Aside0.mk (below_step (hb_ HB.out) hb); have n1_ := Aside0.mk (hbox); have n2_ := Aside0.mk (gs_ hg (hb_ HB.out)); have n3_ := Aside0.mk (gs_ hg (hb_ HB.out)); clear HB; have HB := n0_; have BK155 := n1_; have GW155 := n2_; have GE155 := n3_; clear n0_ n1_ n2_ n3_; clear hb hbox hg))
 (try simp only [Act.put, List.setIfInBounds_toArray, List.set_cons_zero, List.set_cons_succ])
 go_cut [10] (fun v10 wc => ∃ (kq : Nat) (x10_1 : Bool), v10 = .bool x10_1 ∧ Aside0 (fencepostlaw08_Great.j0 kq x10_1 l0_0 l0_1 = some r) ∧ Aside0 (kq ≤ k) ∧ Aside0 (wc.heap[gb155]? = some (.cells #[(.slice A0_0 l0_0.length c0_0), (.slice A0_1 l0_1.length c0_1)] 25 (0, 0))) ∧ Aside0 (Below w.heap.size w wc))
 case first =>
  have H := HC2.out
  clear HC2
  replace H := Option.bind_eq_some_iff.mp H
  obtain ⟨t156, A40, H⟩ := H
  replace H : (if t156 = true then (fencepostlaw08_Great.j0 k true l0_0 l0_1) else ((fencepostref07_Right.f k l0_0 l0_1).bind fun t157 => (fencepostlaw08_Great.j0 k (!t157) l0_0 l0_1))) = some r := H
  have A4 := Aside0.mk A40
  clear A40
  by_cases c5 : t156 = true
  ·subst c5
   have H1 : (fencepostlaw08_Great.j0 k true l0_0 l0_1) = some r := by rw [if_pos rfl] at H; exact H
   clear H
   have H := H1
   clear H1
   have H' := Aside0.mk H
   clear H
   have hcz6_0 : w3.cell? ⟨gb155, 0, none⟩ = some (.slice A0_0 l0_0.length c0_0) := (blk_cell BK155.out 0).trans rfl
   have hcz6_1 : w3.cell? ⟨gb155, 1, none⟩ = some (.slice A0_1 l0_1.length c0_1) := (blk_cell BK155.out 1).trans rfl
   have hfz6_0 := blk_frozen BK155.out 0
   have hfz6_1 := blk_frozen BK155.out 1
   go_wp2_with (first | ((with_reducible refine gate_callee (f := 31) rfl ?_); refine goesL_ (some 5) rfl rfl Try.func31 (by kernel_rfl) rfl #[.agg #[.slice A0_0 l0_0.length c0_0, .slice A0_1 l0_1.length c0_1]] rfl ar_ ?_; (with_reducible refine (fencepostlaw07_Great.calls k _ _ l0_0 _ _ l0_1 true _ ?side1 ?side2 ?side3 ?side4 A4.out).mono ?_); (case side1 => exact cd_ (Kd.C_below HR0_0.out HB.out)); (case side2 => exact HC0_0.out); (case side3 => exact cd_ (Kd.C_below HR0_1.out HB.out)); (case side4 => exact HC0_1.out); rintro e w7 ⟨rfl, hb⟩; refine ⟨_, rfl, ?_⟩; have n0_ := Aside0.mk (bb_ BK155.out hb); have n1_ := Aside0.mk (below_step (hb_ HB.out) hb); clear BK155; clear HB; have BK155 := n0_; have HB := n1_; clear n0_ n1_; (try clear hb); (try clear hb2); (try clear hk); (try clear hi)))
   go_meet
   case rel => exact ⟨_, (true), rf_, H', ⟨by first | omega | exact Nat.le_refl _⟩, ⟨bd_ BK155.out⟩, ⟨hb_ HB.out⟩⟩
  replace c5 := Bool.eq_false_iff.mpr c5
  subst c5
  have H1 : ((fencepostref07_Right.f k l0_0 l0_1).bind fun t157 => (fencepostlaw08_Great.j0 k (!t157) l0_0 l0_1)) = some r := by rw [if_neg (show ¬ (false = true) by decide)] at H; exact H
  clear H
  have H := H1
  clear H1
  replace H := Option.bind_eq_some_iff.mp H
  obtain ⟨t157, A80, H⟩ := H
  replace H : (fencepostlaw08_Great.j0 k (!t157) l0_0 l0_1) = some r := H
  have A8 := Aside0.mk A80
  clear A80
  have H' := Aside0.mk H
  clear H
  have hcz9_0 : w3.cell? ⟨gb155, 0, none⟩ = some (.slice A0_0 l0_0.length c0_0) := (blk_cell BK155.out 0).trans rfl
  have hcz9_1 : w3.cell? ⟨gb155, 1, none⟩ = some (.slice A0_1 l0_1.length c0_1) := (blk_cell BK155.out 1).trans rfl
  have hfz9_0 := blk_frozen BK155.out 0
  have hfz9_1 := blk_frozen BK155.out 1
  go_wp2_with (first | ((with_reducible refine gate_callee (f := 31) rfl ?_); refine goesL_ (some 5) rfl rfl Try.func31 (by kernel_rfl) rfl #[.agg #[.slice A0_0 l0_0.length c0_0, .slice A0_1 l0_1.length c0_1]] rfl ar_ ?_; (with_reducible refine (fencepostlaw07_Great.calls k _ _ l0_0 _ _ l0_1 false _ ?side1 ?side2 ?side3 ?side4 A4.out).mono ?_); (case side1 => exact cd_ (Kd.C_below HR0_0.out HB.out)); (case side2 => exact HC0_0.out); (case side3 => exact cd_ (Kd.C_below HR0_1.out HB.out)); (case side4 => exact HC0_1.out); rintro e w10 ⟨rfl, hb⟩; refine ⟨_, rfl, ?_⟩; have n0_ := Aside0.mk (bb_ BK155.out hb); have n1_ := Aside0.mk (below_step (hb_ HB.out) hb); clear BK155; clear HB; have BK155 := n0_; have HB := n1_; clear n0_ n1_; (try clear hb); (try clear hb2); (try clear hk); (try clear hi); have hcz11_0 : w10.cell? ⟨gb155, 0, none⟩ = some (.slice A0_0 l0_0.length c0_0) := (blk_cell BK155.out 0).trans rfl; have hcz11_1 : w10.cell? ⟨gb155, 1, none⟩ = some (.slice A0_1 l0_1.length c0_1) := (blk_cell BK155.out 1).trans rfl; have hfz11_0 := blk_frozen BK155.out 0; have hfz11_1 := blk_frozen BK155.out 1) | (go_at_call 32; (with_reducible refine (fencepostref07_Right.calls k _ _ l0_0 _ _ l0_1 t157 _ ?side1 ?side2 ?side3 ?side4 A8.out).mono ?_); (case side1 => exact cd_ (Kd.C_below HR0_0.out HB.out)); (case side2 => exact HC0_0.out); (case side3 => exact cd_ (Kd.C_below HR0_1.out HB.out)); (case side4 => exact HC0_1.out); rintro e w12 ⟨rfl, hb⟩; have n0_ := Aside0.mk (bb_ BK155.out hb); have n1_ := Aside0.mk (below_step (hb_ HB.out) hb); clear BK155; clear HB; have BK155 := n0_; have HB := n1_; clear n0_ n1_; (try clear hb); (try clear hb2); (try clear hk); (try clear hi)))
  go_meet
  case rel => exact ⟨_, (!t157), rf_, H', ⟨by first | omega | exact Nat.le_refl _⟩, ⟨bd_ BK155.out⟩, ⟨hb_ HB.out⟩⟩
 clear HC2
 obtain ⟨kq, x10_1, rfl, HA, HJ1, BK155, HB⟩ := hcut
 cases kq with
 | zero => exact absurd HA.out (by simp [fencepostlaw08_Great.j0])
 | succ kj1 => ?_
 have H := HA.out
 clear HA
 simp only [fencepostlaw08_Great.j0] at H
 by_cases c13 : x10_1 = true
 ·subst c13
  have H1 : (some true) = some r := by rw [if_pos rfl] at H; exact H
  clear H
  have H := H1
  clear H1
  obtain rfl := Option.some.inj H
  go_wp2
  go_ret
  exact ⟨by first | rfl | (simp [errW_none, errW_some] <;> rfl) | (simp [*, errW_none, errW_some] <;> rfl), hb_ HB.out⟩
 replace c13 := Bool.eq_false_iff.mpr c13
 subst c13
 have H1 : (fencepostlaw08_Great.l0 kj1 0 l0_0 l0_1) = some r := by rw [if_neg (show ¬ (false = true) by decide)] at H; exact H
 clear H
 have H := H1
 clear H1
 have H' := Aside0.mk H
 clear H
 go_wp2
 go_loopg [3] kj1 (fun kq v3 w' => ∃ (x3_2 : Int), v3 = .int .i64 x3_2 ∧ Aside0 (fencepostlaw08_Great.l0 kq x3_2 l0_0 l0_1 = some r) ∧ Aside0 (kq ≤ kj1) ∧ Aside0 (w'.heap[gb155]? = some (.cells #[(.slice A0_0 l0_0.length c0_0), (.slice A0_1 l0_1.length c0_1)] 25 (0, 0))) ∧ Aside0 (Below w.heap.size w w'))
 case atStart => exact ⟨(0), rf_, H', ⟨Nat.le_refl _⟩, ⟨bd_ BK155.out⟩, ⟨hb_ HB.out⟩⟩
 clear H'
 try clear c13
 obtain ⟨x3_2, rfl, HA, HK2, BK155, HB⟩ := hrel
 cases gk with
 | zero => exact absurd HA.out (by simp [fencepostlaw08_Great.l0])
 | succ k2 => ?_
 have H := HA.out
 clear HA
 simp only [fencepostlaw08_Great.l0] at H
 by_cases c14 : x3_2 < (l0_1.length : Int)
 rotate_left
 ·rw [if_neg c14] at H
  have c14b0 : decide (x3_2 < (l0_1.length : Int)) = false := decide_eq_false c14
  clear c14
  obtain rfl := Option.some.inj H
  have hcz19_0 : wr.cell? ⟨gb155, 0, none⟩ = some (.slice A0_0 l0_0.length c0_0) := (blk_cell BK155.out 0).trans rfl
  have hcz19_1 : wr.cell? ⟨gb155, 1, none⟩ = some (.slice A0_1 l0_1.length c0_1) := (blk_cell BK155.out 1).trans rfl
  have hfz19_0 := blk_frozen BK155.out 0
  have hfz19_1 := blk_frozen BK155.out 1
  go_wp2
  go_ret
  exact ⟨by first | rfl | (simp [errW_none, errW_some] <;> rfl) | (simp [*, errW_none, errW_some] <;> rfl), hb_ HB.out⟩
 rw [if_pos c14] at H
 have c14b0 : decide (x3_2 < (l0_1.length : Int)) = true := decide_eq_true c14
 clear c14
 by_cases c15 : 0 ≤ x3_2
 rotate_left
 ·rw [if_neg c15] at H
  exact absurd H (by simp)
 rw [if_pos c15] at H
 have c15b0 : decide (0 ≤ x3_2) = true := decide_eq_true c15
 clear c15
 by_cases c16 : ((rd_L3 l0_1 x3_2).length : Int) > 40
 ·rw [if_pos c16] at H
  have c16b0 : decide (40 < ((rd_L3 l0_1 x3_2).length : Int)) = true := decide_eq_true c16
  have c16b1 : decide (40 < (rd_L3 l0_1 x3_2).length) = true := decide_eq_true (by omega)
  clear c16
  obtain rfl := Option.some.inj H
  have hcz17_0 : wr.cell? ⟨gb155, 0, none⟩ = some (.slice A0_0 l0_0.length c0_0) := (blk_cell BK155.out 0).trans rfl
  have hcz17_1 : wr.cell? ⟨gb155, 1, none⟩ = some (.slice A0_1 l0_1.length c0_1) := (blk_cell BK155.out 1).trans rfl
  have hfz17_0 := blk_frozen BK155.out 0
  have hfz17_1 := blk_frozen BK155.out 1
  have p158 : 0 ≤ (x3_2 : Int) := of_decide_eq_true as_
  have q158 : x3_2 < (l0_1.length : Int) := of_decide_eq_true as_
  obtain ⟨ad158, A158_0, c158_0, e158, hx158_0, hl158_0, hi158_0⟩ := at_L3 HR0_1.out x3_2 p158 q158
  cases e158
  replace hx158_0 := cl_ HB.out hx158_0
  have HR158_0 := Aside0.mk hi158_0
  have HC158_0 := Aside0.mk hl158_0
  clear hi158_0 hl158_0
  replace p158 := eq_true p158
  replace q158 := eq_true q158
  go_wp2
  go_ret
  exact ⟨by first | rfl | (simp [errW_none, errW_some] <;> rfl) | (simp [*, errW_none, errW_some] <;> rfl), hb_ HB.out⟩
 rw [if_neg c16] at H
 have c16b0 : decide (40 < ((rd_L3 l0_1 x3_2).length : Int)) = false := decide_eq_false c16
 have c16b1 : decide (40 < (rd_L3 l0_1 x3_2).length) = false := decide_eq_false (by omega)
 clear c16
 have H' := Aside0.mk H
 clear H
 have hcz18_0 : wr.cell? ⟨gb155, 0, none⟩ = some (.slice A0_0 l0_0.length c0_0) := (blk_cell BK155.out 0).trans rfl
 have hcz18_1 : wr.cell? ⟨gb155, 1, none⟩ = some (.slice A0_1 l0_1.length c0_1) := (blk_cell BK155.out 1).trans rfl
 have hfz18_0 := blk_frozen BK155.out 0
 have hfz18_1 := blk_frozen BK155.out 1
 have p158 : 0 ≤ (x3_2 : Int) := of_decide_eq_true as_
 have q158 : x3_2 < (l0_1.length : Int) := of_decide_eq_true as_
 obtain ⟨ad158, A158_0, c158_0, e158, hx158_0, hl158_0, hi158_0⟩ := at_L3 HR0_1.out x3_2 p158 q158
 cases e158
 replace hx158_0 := cl_ HB.out hx158_0
 have HR158_0 := Aside0.mk hi158_0
 have HC158_0 := Aside0.mk hl158_0
 clear hi158_0 hl158_0
 replace p158 := eq_true p158
 replace q158 := eq_true q158
 go_wp2
 go_roundg k2
 case measure => have := HJ1.out; have := HK2.out; omega
 case rel => exact ⟨(wrap64 (x3_2 + 1)), rf_, H', ⟨by have := HJ1.out; have := HK2.out; omega⟩, ⟨bd_ BK155.out⟩, ⟨hb_ HB.out⟩⟩
def fencepostref08_Has.l0 : Nat → List Int → Int → Int → Option (Bool)
 | 0, _, _, _ => none
 | k + 1, x0, x1, x5 => if x5 < (x0.length : Int) then (if 0 ≤ x5 then (if (rd x0 x5) = x1 then (some true) else (fencepostref08_Has.l0 k x0 x1 (wrap64 (x5 + 1)))) else (none)) else (some false)
def fencepostref08_Has.f (k : Nat) (l0 : List Int) (a1 : Int) : Option (Bool) := fencepostref08_Has.l0 k l0 a1 0
set_option maxHeartbeats 8000000 in
set_option maxRecDepth 100000 in
theorem fencepostref08_Has.calls (k : Nat) (A0 : Option Addr) (c0 : Nat) (l0 : List Int) (a1 : Int) (r : Bool) (w : World) (hr0 : Kd.C (Kd.int .i64) w A0 l0.length l0) (hc0 : l0.length ≤ c0) (h : fencepostref08_Has.f k l0 a1 = some r) :
 Calls Try.prog 29 #[.slice A0 l0.length c0, .int .i64 a1] w fun e w' => e = .returned (.bool r) ∧ Drawn0 w w' := by
 have HR0 := Aside0.mk hr0
 have HC0 := Aside0.mk hc0
 clear hr0 hc0
 have H : (fencepostref08_Has.l0 k l0 a1 0) = some r := h
 clear h
 have H' := Aside0.mk H
 clear H
 go_enter Try.func29, Try.ntmps29
 go_wp2
 go_loopg [5] k (fun kq v5 w' => ∃ (x5_1 : Int), v5 = .int .i64 x5_1 ∧ Aside0 (fencepostref08_Has.l0 kq l0 a1 x5_1 = some r) ∧ Aside0 (kq ≤ k) ∧ Drawn0 w w')
 case atStart => exact ⟨(0), rf_, H', ⟨Nat.le_refl _⟩, by repeat (first | exact Drawn0.refl _ | apply Drawn0.step)⟩
 clear H'
 obtain ⟨x5_1, rfl, HA, HK1, ⟨m1, rfl⟩⟩ := hrel
 cases gk with
 | zero => exact absurd HA.out (by simp [fencepostref08_Has.l0])
 | succ k1 => ?_
 have H := HA.out
 clear HA
 simp only [fencepostref08_Has.l0] at H
 by_cases c3 : x5_1 < (l0.length : Int)
 rotate_left
 ·rw [if_neg c3] at H
  have c3b0 : decide (x5_1 < (l0.length : Int)) = false := decide_eq_false c3
  clear c3
  obtain rfl := Option.some.inj H
  go_wp2
  go_ret
  exact ⟨by first | rfl | (simp; done) | (simp [*]; done), by repeat (first | exact Drawn0.refl _ | apply Drawn0.step)⟩
 rw [if_pos c3] at H
 have c3b0 : decide (x5_1 < (l0.length : Int)) = true := decide_eq_true c3
 clear c3
 by_cases c4 : 0 ≤ x5_1
 rotate_left
 ·rw [if_neg c4] at H
  exact absurd H (by simp)
 rw [if_pos c4] at H
 have c4b0 : decide (0 ≤ x5_1) = true := decide_eq_true c4
 clear c4
 by_cases c5 : (rd l0 x5_1) = a1
 ·rw [if_pos c5] at H
  have c5b0 : ((rd l0 x5_1) == a1) = true := beq_iff_eq.mpr c5
  have c5b1 : ((rd l0 x5_1) != a1) = false := bne_eq_false_iff_eq.mpr c5
  clear c5
  obtain rfl := Option.some.inj H
  have p159 : 0 ≤ (x5_1 : Int) := of_decide_eq_true as_
  have q159 : x5_1 < (l0.length : Int) := of_decide_eq_true as_
  obtain ⟨ad159, e159, hx159_0⟩ := Kd.at_int HR0.out x5_1 p159 q159
  cases e159
  replace p159 := eq_true p159
  replace q159 := eq_true q159
  go_wp2
  go_ret
  exact ⟨by first | rfl | (simp; done) | (simp [*]; done), by repeat (first | exact Drawn0.refl _ | apply Drawn0.step)⟩
 rw [if_neg c5] at H
 have c5b0 : ((rd l0 x5_1) == a1) = false := beq_eq_false_iff_ne.mpr c5
 have c5b1 : ((rd l0 x5_1) != a1) = true := bne_iff_ne.mpr c5
 have H' := Aside0.mk H
 clear H
 have p159 : 0 ≤ (x5_1 : Int) := of_decide_eq_true as_
 have q159 : x5_1 < (l0.length : Int) := of_decide_eq_true as_
 obtain ⟨ad159, e159, hx159_0⟩ := Kd.at_int HR0.out x5_1 p159 q159
 cases e159
 replace p159 := eq_true p159
 replace q159 := eq_true q159
 go_wp2
 go_roundg k1
 case measure => have := HK1.out; omega
 case rel => exact ⟨(wrap64 (x5_1 + 1)), rf_, H', ⟨by have := HK1.out; omega⟩, by repeat (first | exact Drawn0.refl _ | apply Drawn0.step)⟩
end Go.Proofs.Ytijpfonbeepmfaa.Print
