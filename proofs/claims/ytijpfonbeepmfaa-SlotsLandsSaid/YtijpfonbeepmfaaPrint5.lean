-- Written by ownprint.py (this session's) with the kit's print.py: functions, contracts, rows; Lean checks it.
import Derived.Test.YtijpfonbeepmfaaPrint0
import Derived.Test.YtijpfonbeepmfaaPrint1
import Derived.Test.YtijpfonbeepmfaaHSq
namespace Go.Proofs.Ytijpfonbeepmfaa.Print
open Go.RowKit Go.Proofs.YtijpfonbeepmfaaW.PrintWords Go.Proofs.YtijpfonbeepmfaaW.PrintLast Go.Proofs.YtijpfonbeepmfaaW.PrintMore
attribute [local go_sem] max2_int min2_int max_two min_two max_three min_three max_four min_four   -- for this text's walks alone
set_option linter.unusedVariables false
set_option linter.unusedSimpArgs false
attribute [local go_sem high] eqA53
def fencepostref07_SameInts.l0 : Nat → List Int → List Int → Int → Option (Bool)
 | 0, _, _, _ => none
 | k + 1, x0, x1, x5 => if x5 < (x0.length : Int) then (if 0 ≤ x5 then (if x5 < (x1.length : Int) then (if (rd x0 x5) = (rd x1 x5) then (fencepostref07_SameInts.l0 k x0 x1 (wrap64 (x5 + 1))) else (some false)) else (none)) else (none)) else (some true)
def fencepostref07_SameInts.f (k : Nat) (l0 : List Int) (l1 : List Int) : Option (Bool) := if (l0.length : Int) = (l1.length : Int) then (fencepostref07_SameInts.l0 k l0 l1 0) else (some false)
set_option maxHeartbeats 8000000 in
set_option maxRecDepth 100000 in
theorem fencepostref07_SameInts.calls (k : Nat) (A0 : Option Addr) (c0 : Nat) (l0 : List Int) (A1 : Option Addr) (c1 : Nat) (l1 : List Int) (r : Bool) (w : World) (hr0 : Kd.C (Kd.int .i64) w A0 l0.length l0) (hc0 : l0.length ≤ c0) (hr1 : Kd.C (Kd.int .i64) w A1 l1.length l1) (hc1 : l1.length ≤ c1) (h : fencepostref07_SameInts.f k l0 l1 = some r) :
 Calls Try.prog 40 #[.slice A0 l0.length c0, .slice A1 l1.length c1] w fun e w' => e = .returned (.bool r) ∧ Drawn0 w w' := by
 have HR0 := Aside0.mk hr0
 have HC0 := Aside0.mk hc0
 clear hr0 hc0
 have HR1 := Aside0.mk hr1
 have HC1 := Aside0.mk hc1
 clear hr1 hc1
 have H : (if (l0.length : Int) = (l1.length : Int) then (fencepostref07_SameInts.l0 k l0 l1 0) else (some false)) = some r := h
 clear h
 by_cases c3 : (l0.length : Int) = (l1.length : Int)
 rotate_left
 ·rw [if_neg c3] at H
  have c3b0 : ((l0.length : Int) == (l1.length : Int)) = false := beq_eq_false_iff_ne.mpr c3
  have c3b1 : ((l0.length : Int) != (l1.length : Int)) = true := bne_iff_ne.mpr c3
  have c3b2 : (l0.length == l1.length) = false := by first | simpa using c3 | (simp at c3 ⊢; omega)
  obtain rfl := Option.some.inj H
  go_enter Try.func40, Try.ntmps40
  go_wp2
  repeat (go_quiet (fail); try go_wp2)
  go_ret
  exact ⟨by first | rfl | (simp; done) | (simp [*]; done), by repeat (first | exact Drawn0.refl _ | apply Drawn0.step)⟩
 rw [if_pos c3] at H
 have c3b0 : ((l0.length : Int) == (l1.length : Int)) = true := beq_iff_eq.mpr c3
 have c3b1 : ((l0.length : Int) != (l1.length : Int)) = false := bne_eq_false_iff_eq.mpr c3
 have c3b2 : (l0.length == l1.length) = true := by first | simpa using c3 | (simp at c3 ⊢; omega)
 clear c3
 have H' := Aside0.mk H
 clear H
 go_enter Try.func40, Try.ntmps40
 go_wp2
 repeat (go_quiet (fail); try go_wp2)
 go_loopg [5] k (fun kq v5 w' => ∃ (x5_1 : Int), v5 = .int .i64 x5_1 ∧ Aside0 (fencepostref07_SameInts.l0 kq l0 l1 x5_1 = some r) ∧ Aside0 (kq ≤ k) ∧ Drawn0 w w')
 case atStart => exact ⟨(0), rf_, H', ⟨Nat.le_refl _⟩, by repeat (first | exact Drawn0.refl _ | apply Drawn0.step)⟩
 clear H'
 try clear c1
 try clear c3
 try clear c3b0
 try clear c3b1
 try clear c3b2
 obtain ⟨x5_1, rfl, HA, HK1, ⟨m1, rfl⟩⟩ := hrel
 cases gk with
 | zero => exact absurd HA.out (by simp [fencepostref07_SameInts.l0])
 | succ k1 => ?_
 have H := HA.out
 clear HA
 simp only [fencepostref07_SameInts.l0] at H
 by_cases c4 : x5_1 < (l0.length : Int)
 rotate_left
 ·rw [if_neg c4] at H
  have c4b0 : decide (x5_1 < (l0.length : Int)) = false := decide_eq_false c4
  clear c4
  obtain rfl := Option.some.inj H
  go_wp2
  repeat (go_quiet (fail); try go_wp2)
  go_ret
  exact ⟨by first | rfl | (simp; done) | (simp [*]; done), by repeat (first | exact Drawn0.refl _ | apply Drawn0.step)⟩
 rw [if_pos c4] at H
 have c4b0 : decide (x5_1 < (l0.length : Int)) = true := decide_eq_true c4
 clear c4
 by_cases c5 : 0 ≤ x5_1
 rotate_left
 ·rw [if_neg c5] at H
  exact absurd H (by simp)
 rw [if_pos c5] at H
 have c5b0 : decide (0 ≤ x5_1) = true := decide_eq_true c5
 clear c5
 by_cases c6 : x5_1 < (l1.length : Int)
 rotate_left
 ·rw [if_neg c6] at H
  exact absurd H (by simp)
 rw [if_pos c6] at H
 have c6b0 : decide (x5_1 < (l1.length : Int)) = true := decide_eq_true c6
 clear c6
 by_cases c7 : (rd l0 x5_1) = (rd l1 x5_1)
 rotate_left
 ·rw [if_neg c7] at H
  have c7b0 : ((rd l0 x5_1) == (rd l1 x5_1)) = false := beq_eq_false_iff_ne.mpr c7
  have c7b1 : ((rd l0 x5_1) != (rd l1 x5_1)) = true := bne_iff_ne.mpr c7
  obtain rfl := Option.some.inj H
  have p103 : 0 ≤ (x5_1 : Int) := of_decide_eq_true as_
  have q103 : x5_1 < (l0.length : Int) := of_decide_eq_true as_
  obtain ⟨ad103, e103, hx103_0⟩ := Kd.at_int HR0.out x5_1 p103 q103
  cases e103
  replace p103 := eq_true p103
  replace q103 := eq_true q103
  have p104 : 0 ≤ (x5_1 : Int) := of_decide_eq_true as_
  have q104 : x5_1 < (l1.length : Int) := of_decide_eq_true as_
  obtain ⟨ad104, e104, hx104_0⟩ := Kd.at_int HR1.out x5_1 p104 q104
  cases e104
  replace p104 := eq_true p104
  replace q104 := eq_true q104
  go_wp2
  repeat (go_quiet (fail); try go_wp2)
  go_ret
  exact ⟨by first | rfl | (simp; done) | (simp [*]; done), by repeat (first | exact Drawn0.refl _ | apply Drawn0.step)⟩
 rw [if_pos c7] at H
 have c7b0 : ((rd l0 x5_1) == (rd l1 x5_1)) = true := beq_iff_eq.mpr c7
 have c7b1 : ((rd l0 x5_1) != (rd l1 x5_1)) = false := bne_eq_false_iff_eq.mpr c7
 clear c7
 have H' := Aside0.mk H
 clear H
 have p103 : 0 ≤ (x5_1 : Int) := of_decide_eq_true as_
 have q103 : x5_1 < (l0.length : Int) := of_decide_eq_true as_
 obtain ⟨ad103, e103, hx103_0⟩ := Kd.at_int HR0.out x5_1 p103 q103
 cases e103
 replace p103 := eq_true p103
 replace q103 := eq_true q103
 have p104 : 0 ≤ (x5_1 : Int) := of_decide_eq_true as_
 have q104 : x5_1 < (l1.length : Int) := of_decide_eq_true as_
 obtain ⟨ad104, e104, hx104_0⟩ := Kd.at_int HR1.out x5_1 p104 q104
 cases e104
 replace p104 := eq_true p104
 replace q104 := eq_true q104
 go_wp2
 repeat (go_quiet (fail); try go_wp2)
 go_roundg k1
 case measure => have := HK1.out; omega
 case rel => exact ⟨(wrap64 (x5_1 + 1)), rf_, H', ⟨by have := HK1.out; omega⟩, by repeat (first | exact Drawn0.refl _ | apply Drawn0.step)⟩
mutual
def fencepostref07_Same.j0 : Nat → Bool → List Int → List (List (S53)) → List Int → List (List (S53)) → Option (Bool)
 | 0, _, _, _, _, _ => none
 | k + 1, x21, x106000, x106001, x107000, x107001 => if x21 = true then (some false) else (fencepostref07_Same.l0 k 0 x106000 x106001 x107000 x107001)
def fencepostref07_Same.l0 : Nat → Int → List Int → List (List (S53)) → List Int → List (List (S53)) → Option (Bool)
 | 0, _, _, _, _, _ => none
 | k + 1, x5, x106000, x106001, x107000, x107001 => if x5 < (x106001.length : Int) then (if 0 ≤ x5 then (if x5 < (x107001.length : Int) then (if ((rd_L3 x106001 x5).length : Int) = ((rd_L3 x107001 x5).length : Int) then (fencepostref07_Same.l1 k x5 0 x106000 x106001 x107000 x107001) else (some false)) else (none)) else (none)) else (some true)
def fencepostref07_Same.l1 : Nat → Int → Int → List Int → List (List (S53)) → List Int → List (List (S53)) → Option (Bool)
 | 0, _, _, _, _, _, _ => none
 | k + 1, x5, x6, x106000, x106001, x107000, x107001 => if 0 ≤ x5 then (if x5 < (x106001.length : Int) then (if x6 < ((rd_L3 x106001 x5).length : Int) then (if 0 ≤ x6 then (if x5 < (x107001.length : Int) then (if x6 < ((rd_L3 x107001 x5).length : Int) then (if (!(((rd_T53 (rd_L3 x106001 x5) x6).f0) == ((rd_T53 (rd_L3 x107001 x5) x6).f0)) || (!(((rd_T53 (rd_L3 x106001 x5) x6).f1) == ((rd_T53 (rd_L3 x107001 x5) x6).f1)) || (!(((rd_T53 (rd_L3 x106001 x5) x6).f2) == ((rd_T53 (rd_L3 x107001 x5) x6).f2)) || (!(((rd_T53 (rd_L3 x106001 x5) x6).f3) == ((rd_T53 (rd_L3 x107001 x5) x6).f3)) || (!(((rd_T53 (rd_L3 x106001 x5) x6).f4) == ((rd_T53 (rd_L3 x107001 x5) x6).f4))))))) = true then (some false) else (fencepostref07_Same.l1 k x5 (wrap64 (x6 + 1)) x106000 x106001 x107000 x107001)) else (none)) else (none)) else (none)) else (fencepostref07_Same.l0 k (wrap64 (x5 + 1)) x106000 x106001 x107000 x107001)) else (none)) else (none)
end
def fencepostref07_Same.f (k : Nat) (l0_0 : List Int) (l0_1 : List (List (S53))) (l1_0 : List Int) (l1_1 : List (List (S53))) : Option (Bool) := (fencepostref07_SameInts.f k l0_0 l1_0).bind fun t107 => (if t107 = true then (fencepostref07_Same.j0 k ((l0_1.length : Int) != (l1_1.length : Int)) l0_0 l0_1 l1_0 l1_1) else (fencepostref07_Same.j0 k true l0_0 l0_1 l1_0 l1_1))
set_option maxHeartbeats 8000000 in
set_option maxRecDepth 100000 in
theorem fencepostref07_Same.calls (k : Nat) (A0_0 : Option Addr) (c0_0 : Nat) (l0_0 : List Int) (A0_1 : Option Addr) (c0_1 : Nat) (l0_1 : List (List (S53))) (A1_0 : Option Addr) (c1_0 : Nat) (l1_0 : List Int) (A1_1 : Option Addr) (c1_1 : Nat) (l1_1 : List (List (S53))) (r : Bool) (w : World) (hr0_0 : Kd.C (Kd.int .i64) w A0_0 l0_0.length l0_0) (hc0_0 : l0_0.length ≤ c0_0) (hr0_1 : Kd.C (Kd.slice 53 k53) w A0_1 l0_1.length l0_1) (hc0_1 : l0_1.length ≤ c0_1) (hr1_0 : Kd.C (Kd.int .i64) w A1_0 l1_0.length l1_0) (hc1_0 : l1_0.length ≤ c1_0) (hr1_1 : Kd.C (Kd.slice 53 k53) w A1_1 l1_1.length l1_1) (hc1_1 : l1_1.length ≤ c1_1) (h : fencepostref07_Same.f k l0_0 l0_1 l1_0 l1_1 = some r) :
 Calls Try.prog 21 #[.agg #[.slice A0_0 l0_0.length c0_0, .slice A0_1 l0_1.length c0_1], .agg #[.slice A1_0 l1_0.length c1_0, .slice A1_1 l1_1.length c1_1]] w fun e w' => e = .returned (.bool r) ∧ Below w.heap.size w w' := by
 have hu25 := Try.underlying25
 have hu53 := Try.underlying53
 have HR0_0 := Aside0.mk hr0_0
 have HC0_0 := Aside0.mk hc0_0
 clear hr0_0 hc0_0
 have HR0_1 := Aside0.mk hr0_1
 have HC0_1 := Aside0.mk hc0_1
 clear hr0_1 hc0_1
 have HR1_0 := Aside0.mk hr1_0
 have HC1_0 := Aside0.mk hc1_0
 clear hr1_0 hc1_0
 have HR1_1 := Aside0.mk hr1_1
 have HC1_1 := Aside0.mk hc1_1
 clear hr1_1 hc1_1
 have HB := Aside0.mk (Below.refl w.heap.size w)
 have H : ((fencepostref07_SameInts.f k l0_0 l1_0).bind fun t107 => (if t107 = true then (fencepostref07_Same.j0 k ((l0_1.length : Int) != (l1_1.length : Int)) l0_0 l0_1 l1_0 l1_1) else (fencepostref07_Same.j0 k true l0_0 l0_1 l1_0 l1_1))) = some r := h
 clear h
 have HC3 := Aside0.mk H
 clear H
 go_enter Try.func21, Try.ntmps21
 (try simp only [List.append_eq, List.cons_append, List.nil_append])
 go_upto_region 1 with (first | ((with_reducible refine gate_dst (N := 2) rfl ?_); (try (refine gate_guard (by rfl) ?_; dsimp only)); refine box_event ?hg (N := 2) ?hd (cs := #[.slice A0_0 l0_0.length c0_0, .slice A0_1 l0_1.length c0_1]) (t := 25) ?hr ?_; (case hd => rfl); (case hg => rfl); (case hr => first | (go_simp; done) | (go_simp; rfl)); intro gb105 hg w4 hbox hb; have n0_ := Aside0.mk (below_step (hb_ HB.out) hb); have n1_ := Aside0.mk (hbox); have n2_ := Aside0.mk (gs_ hg (hb_ HB.out)); have n3_ := Aside0.mk (gs_ hg (hb_ HB.out)); clear HB; have HB := n0_; have BK105 := n1_; have GW105 := n2_; have GE105 := n3_; clear n0_ n1_ n2_ n3_; clear hb hbox hg) | ((with_reducible refine gate_dst (N := 3) rfl ?_); (try (refine gate_guard (by rfl) ?_; dsimp only)); refine box_event ?hg (N := 3) ?hd (cs := #[.slice A1_0 l1_0.length c1_0, .slice A1_1 l1_1.length c1_1]) (t := 25) ?hr ?_; (case hd => rfl); (case hg => rfl); (case hr => first | (go_simp; done) | (go_simp; rfl)); intro gb106 hg w5 hbox hb; have n0_ := Aside0.mk (bb_ BK105.out hb); have n1_ := Aside0.mk (below_step (hb_ HB.out) hb); have n2_ := Aside0.mk (hbox); have n3_ := Aside0.mk (gs_ hg (hb_ HB.out)); have n4_ := Aside0.mk (gs_ hg (hb_ HB.out)); have n5_ := Aside0.mk (gn_ hg BK105.out); have n6_ := Aside0.mk (gn_ hg BK105.out).symm; clear BK105; clear HB; have BK105 := n0_; have HB := n1_; have BK106 := n2_; have GW106 := n3_; have GE106 := n4_; have NB105_106 := n5_; have NB106_105 := n6_; clear n0_ n1_ n2_ n3_ n4_ n5_ n6_; clear hb hbox hg))
 repeat (go_quiet (first | ((with_reducible refine gate_dst (N := 2) rfl ?_); (try (refine gate_guard (by rfl) ?_; dsimp only)); refine box_event ?hg (N := 2) ?hd (cs := #[.slice A0_0 l0_0.length c0_0, .slice A0_1 l0_1.length c0_1]) (t := 25) ?hr ?_; (case hd => rfl); (case hg => rfl); (case hr => first | (go_simp; done) | (go_simp; rfl)); intro gb105 hg w4 hbox hb; have n0_ := Aside0.mk (below_step (hb_ HB.out) hb); have n1_ := Aside0.mk (hbox); have n2_ := Aside0.mk (gs_ hg (hb_ HB.out)); have n3_ := Aside0.mk (gs_ hg (hb_ HB.out)); clear HB; have HB := n0_; have BK105 := n1_; have GW105 := n2_; have GE105 := n3_; clear n0_ n1_ n2_ n3_; clear hb hbox hg) | ((with_reducible refine gate_dst (N := 3) rfl ?_); (try (refine gate_guard (by rfl) ?_; dsimp only)); refine box_event ?hg (N := 3) ?hd (cs := #[.slice A1_0 l1_0.length c1_0, .slice A1_1 l1_1.length c1_1]) (t := 25) ?hr ?_; (case hd => rfl); (case hg => rfl); (case hr => first | (go_simp; done) | (go_simp; rfl)); intro gb106 hg w5 hbox hb; have n0_ := Aside0.mk (bb_ BK105.out hb); have n1_ := Aside0.mk (below_step (hb_ HB.out) hb); have n2_ := Aside0.mk (hbox); have n3_ := Aside0.mk (gs_ hg (hb_ HB.out)); have n4_ := Aside0.mk (gs_ hg (hb_ HB.out)); have n5_ := Aside0.mk (gn_ hg BK105.out); have n6_ := Aside0.mk (gn_ hg BK105.out).symm; clear BK105; clear HB; have BK105 := n0_; have HB := n1_; have BK106 := n2_; have GW106 := n3_; have GE106 := n4_; have NB105_106 := n5_; have NB106_105 := n6_; clear n0_ n1_ n2_ n3_ n4_ n5_ n6_; clear hb hbox hg)); go_upto_region 1 with (first | ((with_reducible refine gate_dst (N := 2) rfl ?_); (try (refine gate_guard (by rfl) ?_; dsimp only)); refine box_event ?hg (N := 2) ?hd (cs := #[.slice A0_0 l0_0.length c0_0, .slice A0_1 l0_1.length c0_1]) (t := 25) ?hr ?_; (case hd => rfl); (case hg => rfl); (case hr => first | (go_simp; done) | (go_simp; rfl)); intro gb105 hg w4 hbox hb; have n0_ := Aside0.mk (below_step (hb_ HB.out) hb); have n1_ := Aside0.mk (hbox); have n2_ := Aside0.mk (gs_ hg (hb_ HB.out)); have n3_ := Aside0.mk (gs_ hg (hb_ HB.out)); clear HB; have HB := n0_; have BK105 := n1_; have GW105 := n2_; have GE105 := n3_; clear n0_ n1_ n2_ n3_; clear hb hbox hg) | ((with_reducible refine gate_dst (N := 3) rfl ?_); (try (refine gate_guard (by rfl) ?_; dsimp only)); refine box_event ?hg (N := 3) ?hd (cs := #[.slice A1_0 l1_0.length c1_0, .slice A1_1 l1_1.length c1_1]) (t := 25) ?hr ?_; (case hd => rfl); (case hg => rfl); (case hr => first | (go_simp; done) | (go_simp; rfl)); intro gb106 hg w5 hbox hb; have n0_ := Aside0.mk (bb_ BK105.out hb); have n1_ := Aside0.mk (below_step (hb_ HB.out) hb); have n2_ := Aside0.mk (hbox); have n3_ := Aside0.mk (gs_ hg (hb_ HB.out)); have n4_ := Aside0.mk (gs_ hg (hb_ HB.out)); have n5_ := Aside0.mk (gn_ hg BK105.out); have n6_ := Aside0.mk (gn_ hg BK105.out).symm; clear BK105; clear HB; have BK105 := n0_; have HB := n1_; have BK106 := n2_; have GW106 := n3_; have GE106 := n4_; have NB105_106 := n5_; have NB106_105 := n6_; clear n0_ n1_ n2_ n3_ n4_ n5_ n6_; clear hb hbox hg)))
 (try simp only [Act.put, List.setIfInBounds_toArray, List.set_cons_zero, List.set_cons_succ])
 go_cut [21] (fun v21 wc => ∃ (kq : Nat) (x21_2 : Bool), v21 = .bool x21_2 ∧ Aside0 (fencepostref07_Same.j0 kq x21_2 l0_0 l0_1 l1_0 l1_1 = some r) ∧ Aside0 (kq ≤ k) ∧ Aside0 (wc.heap[gb105]? = some (.cells #[(.slice A0_0 l0_0.length c0_0), (.slice A0_1 l0_1.length c0_1)] 25 (0, 0))) ∧ Aside0 (wc.heap[gb106]? = some (.cells #[(.slice A1_0 l1_0.length c1_0), (.slice A1_1 l1_1.length c1_1)] 25 (0, 0))) ∧ Aside0 (Below w.heap.size w wc))
 case first =>
  have H := HC3.out
  clear HC3
  replace H := Option.bind_eq_some_iff.mp H
  obtain ⟨t107, A60, H⟩ := H
  replace H : (if t107 = true then (fencepostref07_Same.j0 k ((l0_1.length : Int) != (l1_1.length : Int)) l0_0 l0_1 l1_0 l1_1) else (fencepostref07_Same.j0 k true l0_0 l0_1 l1_0 l1_1)) = some r := H
  have A6 := Aside0.mk A60
  clear A60
  by_cases c7 : t107 = true
  rotate_left
  ·replace c7 := Bool.eq_false_iff.mpr c7
   subst c7
   have H1 : (fencepostref07_Same.j0 k true l0_0 l0_1 l1_0 l1_1) = some r := by rw [if_neg (show ¬ (false = true) by decide)] at H; exact H
   clear H
   have H := H1
   clear H1
   have H' := Aside0.mk H
   clear H
   have hnb11 := NB105_106.out
   have hnc11 := NB106_105.out
   have hcz12_0 : w5.cell? ⟨gb105, 0, none⟩ = some (.slice A0_0 l0_0.length c0_0) := (blk_cell BK105.out 0).trans rfl
   have hcz12_1 : w5.cell? ⟨gb105, 1, none⟩ = some (.slice A0_1 l0_1.length c0_1) := (blk_cell BK105.out 1).trans rfl
   have hfz12_0 := blk_frozen BK105.out 0
   have hfz12_1 := blk_frozen BK105.out 1
   have hcz13_0 : w5.cell? ⟨gb106, 0, none⟩ = some (.slice A1_0 l1_0.length c1_0) := (blk_cell BK106.out 0).trans rfl
   have hcz13_1 : w5.cell? ⟨gb106, 1, none⟩ = some (.slice A1_1 l1_1.length c1_1) := (blk_cell BK106.out 1).trans rfl
   have hfz13_0 := blk_frozen BK106.out 0
   have hfz13_1 := blk_frozen BK106.out 1
   go_wp2_with (first | (go_at_call 40; (with_reducible refine (fencepostref07_SameInts.calls k _ _ l0_0 _ _ l1_0 false _ ?side1 ?side2 ?side3 ?side4 A6.out).mono ?_); (case side1 => exact cd_ (Kd.C_below HR0_0.out HB.out)); (case side2 => exact HC0_0.out); (case side3 => exact cd_ (Kd.C_below HR1_0.out HB.out)); (case side4 => exact HC1_0.out); rintro e w' ⟨rfl, ⟨nd, rfl⟩⟩; (try first | exact ⟨rfl, _, World.drewN_drewN _ _ _⟩ | exact ⟨rfl, _, Eq.trans (World.drewN_drewN _ _ _) (congrArg (World.drewN _) (Nat.add_assoc _ _ _))⟩)))
   repeat (go_quiet (first | (go_at_call 40; (with_reducible refine (fencepostref07_SameInts.calls k _ _ l0_0 _ _ l1_0 false _ ?side1 ?side2 ?side3 ?side4 A6.out).mono ?_); (case side1 => exact cd_ (Kd.C_below HR0_0.out HB.out)); (case side2 => exact HC0_0.out); (case side3 => exact cd_ (Kd.C_below HR1_0.out HB.out)); (case side4 => exact HC1_0.out); rintro e w' ⟨rfl, ⟨nd, rfl⟩⟩; (try first | exact ⟨rfl, _, World.drewN_drewN _ _ _⟩ | exact ⟨rfl, _, Eq.trans (World.drewN_drewN _ _ _) (congrArg (World.drewN _) (Nat.add_assoc _ _ _))⟩))); try go_wp2_with (first | (go_at_call 40; (with_reducible refine (fencepostref07_SameInts.calls k _ _ l0_0 _ _ l1_0 false _ ?side1 ?side2 ?side3 ?side4 A6.out).mono ?_); (case side1 => exact cd_ (Kd.C_below HR0_0.out HB.out)); (case side2 => exact HC0_0.out); (case side3 => exact cd_ (Kd.C_below HR1_0.out HB.out)); (case side4 => exact HC1_0.out); rintro e w' ⟨rfl, ⟨nd, rfl⟩⟩; (try first | exact ⟨rfl, _, World.drewN_drewN _ _ _⟩ | exact ⟨rfl, _, Eq.trans (World.drewN_drewN _ _ _) (congrArg (World.drewN _) (Nat.add_assoc _ _ _))⟩))))
   go_meet
   case rel => exact ⟨_, (true), rf_, H', ⟨by first | omega | exact Nat.le_refl _⟩, ⟨bd_ BK105.out⟩, ⟨bd_ BK106.out⟩, ⟨hb_ HB.out⟩⟩
  subst c7
  have H1 : (fencepostref07_Same.j0 k ((l0_1.length : Int) != (l1_1.length : Int)) l0_0 l0_1 l1_0 l1_1) = some r := by rw [if_pos rfl] at H; exact H
  clear H
  have H := H1
  clear H1
  have H' := Aside0.mk H
  clear H
  have hnb8 := NB105_106.out
  have hnc8 := NB106_105.out
  have hcz9_0 : w5.cell? ⟨gb105, 0, none⟩ = some (.slice A0_0 l0_0.length c0_0) := (blk_cell BK105.out 0).trans rfl
  have hcz9_1 : w5.cell? ⟨gb105, 1, none⟩ = some (.slice A0_1 l0_1.length c0_1) := (blk_cell BK105.out 1).trans rfl
  have hfz9_0 := blk_frozen BK105.out 0
  have hfz9_1 := blk_frozen BK105.out 1
  have hcz10_0 : w5.cell? ⟨gb106, 0, none⟩ = some (.slice A1_0 l1_0.length c1_0) := (blk_cell BK106.out 0).trans rfl
  have hcz10_1 : w5.cell? ⟨gb106, 1, none⟩ = some (.slice A1_1 l1_1.length c1_1) := (blk_cell BK106.out 1).trans rfl
  have hfz10_0 := blk_frozen BK106.out 0
  have hfz10_1 := blk_frozen BK106.out 1
  go_wp2_with (first | (go_at_call 40; (with_reducible refine (fencepostref07_SameInts.calls k _ _ l0_0 _ _ l1_0 true _ ?side1 ?side2 ?side3 ?side4 A6.out).mono ?_); (case side1 => exact cd_ (Kd.C_below HR0_0.out HB.out)); (case side2 => exact HC0_0.out); (case side3 => exact cd_ (Kd.C_below HR1_0.out HB.out)); (case side4 => exact HC1_0.out); rintro e w' ⟨rfl, ⟨nd, rfl⟩⟩; (try first | exact ⟨rfl, _, World.drewN_drewN _ _ _⟩ | exact ⟨rfl, _, Eq.trans (World.drewN_drewN _ _ _) (congrArg (World.drewN _) (Nat.add_assoc _ _ _))⟩)))
  repeat (go_quiet (first | (go_at_call 40; (with_reducible refine (fencepostref07_SameInts.calls k _ _ l0_0 _ _ l1_0 true _ ?side1 ?side2 ?side3 ?side4 A6.out).mono ?_); (case side1 => exact cd_ (Kd.C_below HR0_0.out HB.out)); (case side2 => exact HC0_0.out); (case side3 => exact cd_ (Kd.C_below HR1_0.out HB.out)); (case side4 => exact HC1_0.out); rintro e w' ⟨rfl, ⟨nd, rfl⟩⟩; (try first | exact ⟨rfl, _, World.drewN_drewN _ _ _⟩ | exact ⟨rfl, _, Eq.trans (World.drewN_drewN _ _ _) (congrArg (World.drewN _) (Nat.add_assoc _ _ _))⟩))); try go_wp2_with (first | (go_at_call 40; (with_reducible refine (fencepostref07_SameInts.calls k _ _ l0_0 _ _ l1_0 true _ ?side1 ?side2 ?side3 ?side4 A6.out).mono ?_); (case side1 => exact cd_ (Kd.C_below HR0_0.out HB.out)); (case side2 => exact HC0_0.out); (case side3 => exact cd_ (Kd.C_below HR1_0.out HB.out)); (case side4 => exact HC1_0.out); rintro e w' ⟨rfl, ⟨nd, rfl⟩⟩; (try first | exact ⟨rfl, _, World.drewN_drewN _ _ _⟩ | exact ⟨rfl, _, Eq.trans (World.drewN_drewN _ _ _) (congrArg (World.drewN _) (Nat.add_assoc _ _ _))⟩))))
  go_meet
  case rel => exact ⟨_, (((l0_1.length : Int) != (l1_1.length : Int))), rf_, H', ⟨by first | omega | exact Nat.le_refl _⟩, ⟨bd_ BK105.out⟩, ⟨bd_ BK106.out⟩, ⟨hb_ HB.out⟩⟩
 clear HC3
 obtain ⟨kq, x21_2, rfl, HA, HJ2, BK105, BK106, HB⟩ := hcut
 cases kq with
 | zero => exact absurd HA.out (by simp [fencepostref07_Same.j0])
 | succ kj2 => ?_
 have H := HA.out
 clear HA
 simp only [fencepostref07_Same.j0] at H
 by_cases c14 : x21_2 = true
 ·subst c14
  have H1 : (some false) = some r := by rw [if_pos rfl] at H; exact H
  clear H
  have H := H1
  clear H1
  obtain rfl := Option.some.inj H
  go_wp2
  repeat (go_quiet (fail); try go_wp2)
  go_ret
  exact ⟨by first | rfl | (simp [errW_none, errW_some] <;> rfl) | (simp [*, errW_none, errW_some] <;> rfl), hb_ HB.out⟩
 replace c14 := Bool.eq_false_iff.mpr c14
 subst c14
 have H1 : (fencepostref07_Same.l0 kj2 0 l0_0 l0_1 l1_0 l1_1) = some r := by rw [if_neg (show ¬ (false = true) by decide)] at H; exact H
 clear H
 have H := H1
 clear H1
 have H' := Aside0.mk H
 clear H
 go_wp2
 repeat (go_quiet (fail); try go_wp2)
 go_loopg [5] kj2 (fun kq v5 w' => ∃ (x5_2 : Int), v5 = .int .i64 x5_2 ∧ Aside0 (fencepostref07_Same.l0 kq x5_2 l0_0 l0_1 l1_0 l1_1 = some r) ∧ Aside0 (kq ≤ kj2) ∧ Aside0 (w'.heap[gb105]? = some (.cells #[(.slice A0_0 l0_0.length c0_0), (.slice A0_1 l0_1.length c0_1)] 25 (0, 0))) ∧ Aside0 (w'.heap[gb106]? = some (.cells #[(.slice A1_0 l1_0.length c1_0), (.slice A1_1 l1_1.length c1_1)] 25 (0, 0))) ∧ Aside0 (Below w.heap.size w w'))
 case atStart => exact ⟨(0), rf_, H', ⟨Nat.le_refl _⟩, ⟨bd_ BK105.out⟩, ⟨bd_ BK106.out⟩, ⟨hb_ HB.out⟩⟩
 clear H'
 try clear c14
 obtain ⟨x5_2, rfl, HA, HK2, BK105, BK106, HB⟩ := hrel
 cases gk with
 | zero => exact absurd HA.out (by simp [fencepostref07_Same.l0])
 | succ k2 => ?_
 have H := HA.out
 clear HA
 simp only [fencepostref07_Same.l0] at H
 by_cases c15 : x5_2 < (l0_1.length : Int)
 rotate_left
 ·rw [if_neg c15] at H
  have c15b0 : decide (x5_2 < (l0_1.length : Int)) = false := decide_eq_false c15
  clear c15
  obtain rfl := Option.some.inj H
  have hnb40 := NB105_106.out
  have hnc40 := NB106_105.out
  have hcz41_0 : wr.cell? ⟨gb105, 0, none⟩ = some (.slice A0_0 l0_0.length c0_0) := (blk_cell BK105.out 0).trans rfl
  have hcz41_1 : wr.cell? ⟨gb105, 1, none⟩ = some (.slice A0_1 l0_1.length c0_1) := (blk_cell BK105.out 1).trans rfl
  have hfz41_0 := blk_frozen BK105.out 0
  have hfz41_1 := blk_frozen BK105.out 1
  go_wp2
  repeat (go_quiet (fail); try go_wp2)
  go_ret
  exact ⟨by first | rfl | (simp [errW_none, errW_some] <;> rfl) | (simp [*, errW_none, errW_some] <;> rfl), hb_ HB.out⟩
 rw [if_pos c15] at H
 have c15b0 : decide (x5_2 < (l0_1.length : Int)) = true := decide_eq_true c15
 clear c15
 by_cases c16 : 0 ≤ x5_2
 rotate_left
 ·rw [if_neg c16] at H
  exact absurd H (by simp)
 rw [if_pos c16] at H
 have c16b0 : decide (0 ≤ x5_2) = true := decide_eq_true c16
 clear c16
 by_cases c17 : x5_2 < (l1_1.length : Int)
 rotate_left
 ·rw [if_neg c17] at H
  exact absurd H (by simp)
 rw [if_pos c17] at H
 have c17b0 : decide (x5_2 < (l1_1.length : Int)) = true := decide_eq_true c17
 clear c17
 by_cases c18 : ((rd_L3 l0_1 x5_2).length : Int) = ((rd_L3 l1_1 x5_2).length : Int)
 rotate_left
 ·rw [if_neg c18] at H
  have c18b0 : (((rd_L3 l0_1 x5_2).length : Int) == ((rd_L3 l1_1 x5_2).length : Int)) = false := beq_eq_false_iff_ne.mpr c18
  have c18b1 : (((rd_L3 l0_1 x5_2).length : Int) != ((rd_L3 l1_1 x5_2).length : Int)) = true := bne_iff_ne.mpr c18
  have c18b2 : ((rd_L3 l0_1 x5_2).length == (rd_L3 l1_1 x5_2).length) = false := by first | simpa using c18 | (simp at c18 ⊢; omega)
  obtain rfl := Option.some.inj H
  have hnb37 := NB105_106.out
  have hnc37 := NB106_105.out
  have hcz38_0 : wr.cell? ⟨gb105, 0, none⟩ = some (.slice A0_0 l0_0.length c0_0) := (blk_cell BK105.out 0).trans rfl
  have hcz38_1 : wr.cell? ⟨gb105, 1, none⟩ = some (.slice A0_1 l0_1.length c0_1) := (blk_cell BK105.out 1).trans rfl
  have hfz38_0 := blk_frozen BK105.out 0
  have hfz38_1 := blk_frozen BK105.out 1
  have p108 : 0 ≤ (x5_2 : Int) := of_decide_eq_true as_
  have q108 : x5_2 < (l0_1.length : Int) := of_decide_eq_true as_
  obtain ⟨ad108, A108_0, c108_0, e108, hx108_0, hl108_0, hi108_0⟩ := at_L3 HR0_1.out x5_2 p108 q108
  cases e108
  replace hx108_0 := cl_ HB.out hx108_0
  have HR108_0 := Aside0.mk hi108_0
  have HC108_0 := Aside0.mk hl108_0
  clear hi108_0 hl108_0
  replace p108 := eq_true p108
  replace q108 := eq_true q108
  have hcz39_0 : wr.cell? ⟨gb106, 0, none⟩ = some (.slice A1_0 l1_0.length c1_0) := (blk_cell BK106.out 0).trans rfl
  have hcz39_1 : wr.cell? ⟨gb106, 1, none⟩ = some (.slice A1_1 l1_1.length c1_1) := (blk_cell BK106.out 1).trans rfl
  have hfz39_0 := blk_frozen BK106.out 0
  have hfz39_1 := blk_frozen BK106.out 1
  have p109 : 0 ≤ (x5_2 : Int) := of_decide_eq_true as_
  have q109 : x5_2 < (l1_1.length : Int) := of_decide_eq_true as_
  obtain ⟨ad109, A109_0, c109_0, e109, hx109_0, hl109_0, hi109_0⟩ := at_L3 HR1_1.out x5_2 p109 q109
  cases e109
  replace hx109_0 := cl_ HB.out hx109_0
  have HR109_0 := Aside0.mk hi109_0
  have HC109_0 := Aside0.mk hl109_0
  clear hi109_0 hl109_0
  replace p109 := eq_true p109
  replace q109 := eq_true q109
  go_wp2
  repeat (go_quiet (fail); try go_wp2)
  go_ret
  exact ⟨by first | rfl | (simp [errW_none, errW_some] <;> rfl) | (simp [*, errW_none, errW_some] <;> rfl), hb_ HB.out⟩
 rw [if_pos c18] at H
 have c18b0 : (((rd_L3 l0_1 x5_2).length : Int) == ((rd_L3 l1_1 x5_2).length : Int)) = true := beq_iff_eq.mpr c18
 have c18b1 : (((rd_L3 l0_1 x5_2).length : Int) != ((rd_L3 l1_1 x5_2).length : Int)) = false := bne_eq_false_iff_eq.mpr c18
 have c18b2 : ((rd_L3 l0_1 x5_2).length == (rd_L3 l1_1 x5_2).length) = true := by first | simpa using c18 | (simp at c18 ⊢; omega)
 clear c18
 have H' := Aside0.mk H
 clear H
 have hnb19 := NB105_106.out
 have hnc19 := NB106_105.out
 have hcz20_0 : wr.cell? ⟨gb105, 0, none⟩ = some (.slice A0_0 l0_0.length c0_0) := (blk_cell BK105.out 0).trans rfl
 have hcz20_1 : wr.cell? ⟨gb105, 1, none⟩ = some (.slice A0_1 l0_1.length c0_1) := (blk_cell BK105.out 1).trans rfl
 have hfz20_0 := blk_frozen BK105.out 0
 have hfz20_1 := blk_frozen BK105.out 1
 have p108 : 0 ≤ (x5_2 : Int) := of_decide_eq_true as_
 have q108 : x5_2 < (l0_1.length : Int) := of_decide_eq_true as_
 obtain ⟨ad108, A108_0, c108_0, e108, hx108_0, hl108_0, hi108_0⟩ := at_L3 HR0_1.out x5_2 p108 q108
 cases e108
 replace hx108_0 := cl_ HB.out hx108_0
 have HR108_0 := Aside0.mk hi108_0
 have HC108_0 := Aside0.mk hl108_0
 clear hi108_0 hl108_0
 replace p108 := eq_true p108
 replace q108 := eq_true q108
 have hcz21_0 : wr.cell? ⟨gb106, 0, none⟩ = some (.slice A1_0 l1_0.length c1_0) := (blk_cell BK106.out 0).trans rfl
 have hcz21_1 : wr.cell? ⟨gb106, 1, none⟩ = some (.slice A1_1 l1_1.length c1_1) := (blk_cell BK106.out 1).trans rfl
 have hfz21_0 := blk_frozen BK106.out 0
 have hfz21_1 := blk_frozen BK106.out 1
 have p109 : 0 ≤ (x5_2 : Int) := of_decide_eq_true as_
 have q109 : x5_2 < (l1_1.length : Int) := of_decide_eq_true as_
 obtain ⟨ad109, A109_0, c109_0, e109, hx109_0, hl109_0, hi109_0⟩ := at_L3 HR1_1.out x5_2 p109 q109
 cases e109
 replace hx109_0 := cl_ HB.out hx109_0
 have HR109_0 := Aside0.mk hi109_0
 have HC109_0 := Aside0.mk hl109_0
 clear hi109_0 hl109_0
 replace p109 := eq_true p109
 replace q109 := eq_true q109
 go_wp2
 repeat (go_quiet (fail); try go_wp2)
 go_loopg [6] k2 (fun kq v6 w' => ∃ (x6_3 : Int), v6 = .int .i64 x6_3 ∧ Aside0 (fencepostref07_Same.l1 kq x5_2 x6_3 l0_0 l0_1 l1_0 l1_1 = some r) ∧ Aside0 (kq ≤ k2) ∧ Aside0 (w'.heap[gb105]? = some (.cells #[(.slice A0_0 l0_0.length c0_0), (.slice (some ad108) l0_1.length c0_1)] 25 (0, 0))) ∧ Aside0 (w'.heap[gb106]? = some (.cells #[(.slice A1_0 l1_0.length c1_0), (.slice (some ad109) l1_1.length c1_1)] 25 (0, 0))) ∧ Aside0 (Below w.heap.size w w'))
 case atStart => exact ⟨(0), rf_, H', ⟨Nat.le_refl _⟩, ⟨bd_ BK105.out⟩, ⟨bd_ BK106.out⟩, ⟨hb_ HB.out⟩⟩
 clear H'
 try clear c14
 try clear c15
 try clear c15b0
 try clear c16
 try clear c16b0
 try clear c17
 try clear c17b0
 try clear c18
 try clear c18b0
 try clear c18b1
 try clear c18b2
 try clear hcz20_0
 try clear hcz20_1
 try clear hcz21_0
 try clear hcz21_1
 try clear hfz20_0
 try clear hfz20_1
 try clear hfz21_0
 try clear hfz21_1
 try clear hx108_0
 try clear hx109_0
 try clear p108
 try clear p109
 try clear q108
 try clear q109
 obtain ⟨x6_3, rfl, HA, HK3, BK105, BK106, HB⟩ := hrel
 cases gk with
 | zero => exact absurd HA.out (by simp [fencepostref07_Same.l1])
 | succ k3 => ?_
 have H := HA.out
 clear HA
 simp only [fencepostref07_Same.l1] at H
 by_cases c22 : 0 ≤ x5_2
 rotate_left
 ·rw [if_neg c22] at H
  exact absurd H (by simp)
 rw [if_pos c22] at H
 have c22b0 : decide (0 ≤ x5_2) = true := decide_eq_true c22
 clear c22
 by_cases c23 : x5_2 < (l0_1.length : Int)
 rotate_left
 ·rw [if_neg c23] at H
  exact absurd H (by simp)
 rw [if_pos c23] at H
 have c23b0 : decide (x5_2 < (l0_1.length : Int)) = true := decide_eq_true c23
 clear c23
 by_cases c24 : x6_3 < ((rd_L3 l0_1 x5_2).length : Int)
 rotate_left
 ·rw [if_neg c24] at H
  have c24b0 : decide (x6_3 < ((rd_L3 l0_1 x5_2).length : Int)) = false := decide_eq_false c24
  clear c24
  have H' := Aside0.mk H
  clear H
  have hnb35 := NB105_106.out
  have hnc35 := NB106_105.out
  have hcz36_0 : wr.cell? ⟨gb105, 0, none⟩ = some (.slice A0_0 l0_0.length c0_0) := (blk_cell BK105.out 0).trans rfl
  have hcz36_1 : wr.cell? ⟨gb105, 1, none⟩ = some (.slice (some ad108) l0_1.length c0_1) := (blk_cell BK105.out 1).trans rfl
  have hfz36_0 := blk_frozen BK105.out 0
  have hfz36_1 := blk_frozen BK105.out 1
  have p110 : 0 ≤ (x5_2 : Int) := of_decide_eq_true as_
  have q110 : x5_2 < (l0_1.length : Int) := of_decide_eq_true as_
  obtain ⟨ad110, A110_0, c110_0, e110, hx110_0, hl110_0, hi110_0⟩ := at_L3 HR0_1.out x5_2 p110 q110
  obtain rfl : ad108 = ad110 := (by injection e110)
  replace hx110_0 := cl_ HB.out hx110_0
  have HR110_0 := Aside0.mk hi110_0
  have HC110_0 := Aside0.mk hl110_0
  clear hi110_0 hl110_0
  replace p110 := eq_true p110
  replace q110 := eq_true q110
  go_wp2
  repeat (go_quiet (fail); try go_wp2)
  go_roundg k3
  case measure => have := HJ2.out; have := HK2.out; have := HK3.out; omega
  case rel => exact ⟨(wrap64 (x5_2 + 1)), rf_, H', ⟨by have := HJ2.out; have := HK2.out; have := HK3.out; omega⟩, ⟨bd_ BK105.out⟩, ⟨bd_ BK106.out⟩, ⟨hb_ HB.out⟩⟩
 rw [if_pos c24] at H
 have c24b0 : decide (x6_3 < ((rd_L3 l0_1 x5_2).length : Int)) = true := decide_eq_true c24
 clear c24
 by_cases c25 : 0 ≤ x6_3
 rotate_left
 ·rw [if_neg c25] at H
  exact absurd H (by simp)
 rw [if_pos c25] at H
 have c25b0 : decide (0 ≤ x6_3) = true := decide_eq_true c25
 clear c25
 by_cases c26 : x5_2 < (l1_1.length : Int)
 rotate_left
 ·rw [if_neg c26] at H
  exact absurd H (by simp)
 rw [if_pos c26] at H
 have c26b0 : decide (x5_2 < (l1_1.length : Int)) = true := decide_eq_true c26
 clear c26
 by_cases c27 : x6_3 < ((rd_L3 l1_1 x5_2).length : Int)
 rotate_left
 ·rw [if_neg c27] at H
  exact absurd H (by simp)
 rw [if_pos c27] at H
 have c27b0 : decide (x6_3 < ((rd_L3 l1_1 x5_2).length : Int)) = true := decide_eq_true c27
 clear c27
 by_cases c28 : (!(((rd_T53 (rd_L3 l0_1 x5_2) x6_3).f0) == ((rd_T53 (rd_L3 l1_1 x5_2) x6_3).f0)) || (!(((rd_T53 (rd_L3 l0_1 x5_2) x6_3).f1) == ((rd_T53 (rd_L3 l1_1 x5_2) x6_3).f1)) || (!(((rd_T53 (rd_L3 l0_1 x5_2) x6_3).f2) == ((rd_T53 (rd_L3 l1_1 x5_2) x6_3).f2)) || (!(((rd_T53 (rd_L3 l0_1 x5_2) x6_3).f3) == ((rd_T53 (rd_L3 l1_1 x5_2) x6_3).f3)) || (!(((rd_T53 (rd_L3 l0_1 x5_2) x6_3).f4) == ((rd_T53 (rd_L3 l1_1 x5_2) x6_3).f4))))))) = true
 ·rw [if_pos c28] at H
  have c28b0 : (!(((rd_T53 (rd_L3 l0_1 x5_2) x6_3).f0) == ((rd_T53 (rd_L3 l1_1 x5_2) x6_3).f0)) || (!(((rd_T53 (rd_L3 l0_1 x5_2) x6_3).f1) == ((rd_T53 (rd_L3 l1_1 x5_2) x6_3).f1)) || (!(((rd_T53 (rd_L3 l0_1 x5_2) x6_3).f2) == ((rd_T53 (rd_L3 l1_1 x5_2) x6_3).f2)) || (!(((rd_T53 (rd_L3 l0_1 x5_2) x6_3).f3) == ((rd_T53 (rd_L3 l1_1 x5_2) x6_3).f3)) || (!(((rd_T53 (rd_L3 l0_1 x5_2) x6_3).f4) == ((rd_T53 (rd_L3 l1_1 x5_2) x6_3).f4))))))) = true := c28
  clear c28
  obtain rfl := Option.some.inj H
  have hnb29 := NB105_106.out
  have hnc29 := NB106_105.out
  have hcz30_0 : wr.cell? ⟨gb105, 0, none⟩ = some (.slice A0_0 l0_0.length c0_0) := (blk_cell BK105.out 0).trans rfl
  have hcz30_1 : wr.cell? ⟨gb105, 1, none⟩ = some (.slice (some ad108) l0_1.length c0_1) := (blk_cell BK105.out 1).trans rfl
  have hfz30_0 := blk_frozen BK105.out 0
  have hfz30_1 := blk_frozen BK105.out 1
  have p110 : 0 ≤ (x5_2 : Int) := of_decide_eq_true as_
  have q110 : x5_2 < (l0_1.length : Int) := of_decide_eq_true as_
  obtain ⟨ad110, A110_0, c110_0, e110, hx110_0, hl110_0, hi110_0⟩ := at_L3 HR0_1.out x5_2 p110 q110
  obtain rfl : ad108 = ad110 := (by injection e110)
  replace hx110_0 := cl_ HB.out hx110_0
  have HR110_0 := Aside0.mk hi110_0
  have HC110_0 := Aside0.mk hl110_0
  clear hi110_0 hl110_0
  replace p110 := eq_true p110
  replace q110 := eq_true q110
  have p111 : 0 ≤ (x5_2 : Int) := of_decide_eq_true as_
  have q111 : x5_2 < (l0_1.length : Int) := of_decide_eq_true as_
  obtain ⟨ad111, A111_0, c111_0, e111, hx111_0, hl111_0, hi111_0⟩ := at_L3 HR0_1.out x5_2 p111 q111
  obtain rfl : ad108 = ad111 := (by injection e111)
  replace hx111_0 := cl_ HB.out hx111_0
  have HR111_0 := Aside0.mk hi111_0
  have HC111_0 := Aside0.mk hl111_0
  clear hi111_0 hl111_0
  replace p111 := eq_true p111
  replace q111 := eq_true q111
  have ea_ := Option.some.inj (hx110_0.symm.trans hx111_0)
  injection ea_ with ea_ en_ ec_
  subst ea_
  subst ec_
  clear en_
  have p112 : 0 ≤ (x6_3 : Int) := of_decide_eq_true as_
  have q112 : x6_3 < ((rd_L3 l0_1 x5_2).length : Int) := of_decide_eq_true as_
  obtain ⟨ad112, e112, hx112_0, hx112_1, hx112_2, hx112_3, hx112_4⟩ := at_T53 HR111_0.out x6_3 p112 q112
  cases e112
  replace hx112_0 := cl_ HB.out hx112_0
  replace hx112_1 := cl_ HB.out hx112_1
  replace hx112_2 := cl_ HB.out hx112_2
  replace hx112_3 := cl_ HB.out hx112_3
  replace hx112_4 := cl_ HB.out hx112_4
  replace p112 := eq_true p112
  replace q112 := eq_true q112
  have hcz31_0 : wr.cell? ⟨gb106, 0, none⟩ = some (.slice A1_0 l1_0.length c1_0) := (blk_cell BK106.out 0).trans rfl
  have hcz31_1 : wr.cell? ⟨gb106, 1, none⟩ = some (.slice (some ad109) l1_1.length c1_1) := (blk_cell BK106.out 1).trans rfl
  have hfz31_0 := blk_frozen BK106.out 0
  have hfz31_1 := blk_frozen BK106.out 1
  have p113 : 0 ≤ (x5_2 : Int) := of_decide_eq_true as_
  have q113 : x5_2 < (l1_1.length : Int) := of_decide_eq_true as_
  obtain ⟨ad113, A113_0, c113_0, e113, hx113_0, hl113_0, hi113_0⟩ := at_L3 HR1_1.out x5_2 p113 q113
  obtain rfl : ad109 = ad113 := (by injection e113)
  replace hx113_0 := cl_ HB.out hx113_0
  have HR113_0 := Aside0.mk hi113_0
  have HC113_0 := Aside0.mk hl113_0
  clear hi113_0 hl113_0
  replace p113 := eq_true p113
  replace q113 := eq_true q113
  have p114 : 0 ≤ (x6_3 : Int) := of_decide_eq_true as_
  have q114 : x6_3 < ((rd_L3 l1_1 x5_2).length : Int) := of_decide_eq_true as_
  obtain ⟨ad114, e114, hx114_0, hx114_1, hx114_2, hx114_3, hx114_4⟩ := at_T53 HR113_0.out x6_3 p114 q114
  cases e114
  replace hx114_0 := cl_ HB.out hx114_0
  replace hx114_1 := cl_ HB.out hx114_1
  replace hx114_2 := cl_ HB.out hx114_2
  replace hx114_3 := cl_ HB.out hx114_3
  replace hx114_4 := cl_ HB.out hx114_4
  replace p114 := eq_true p114
  replace q114 := eq_true q114
  go_wp2
  repeat (go_quiet (fail); try go_wp2)
  go_ret
  exact ⟨by first | rfl | (simp [errW_none, errW_some] <;> rfl) | (simp [*, errW_none, errW_some] <;> rfl), hb_ HB.out⟩
 rw [if_neg c28] at H
 have c28b0 : (!(((rd_T53 (rd_L3 l0_1 x5_2) x6_3).f0) == ((rd_T53 (rd_L3 l1_1 x5_2) x6_3).f0)) || (!(((rd_T53 (rd_L3 l0_1 x5_2) x6_3).f1) == ((rd_T53 (rd_L3 l1_1 x5_2) x6_3).f1)) || (!(((rd_T53 (rd_L3 l0_1 x5_2) x6_3).f2) == ((rd_T53 (rd_L3 l1_1 x5_2) x6_3).f2)) || (!(((rd_T53 (rd_L3 l0_1 x5_2) x6_3).f3) == ((rd_T53 (rd_L3 l1_1 x5_2) x6_3).f3)) || (!(((rd_T53 (rd_L3 l0_1 x5_2) x6_3).f4) == ((rd_T53 (rd_L3 l1_1 x5_2) x6_3).f4))))))) = false := by simpa using c28
 clear c28
 have H' := Aside0.mk H
 clear H
 have hnb32 := NB105_106.out
 have hnc32 := NB106_105.out
 have hcz33_0 : wr.cell? ⟨gb105, 0, none⟩ = some (.slice A0_0 l0_0.length c0_0) := (blk_cell BK105.out 0).trans rfl
 have hcz33_1 : wr.cell? ⟨gb105, 1, none⟩ = some (.slice (some ad108) l0_1.length c0_1) := (blk_cell BK105.out 1).trans rfl
 have hfz33_0 := blk_frozen BK105.out 0
 have hfz33_1 := blk_frozen BK105.out 1
 have p110 : 0 ≤ (x5_2 : Int) := of_decide_eq_true as_
 have q110 : x5_2 < (l0_1.length : Int) := of_decide_eq_true as_
 obtain ⟨ad110, A110_0, c110_0, e110, hx110_0, hl110_0, hi110_0⟩ := at_L3 HR0_1.out x5_2 p110 q110
 obtain rfl : ad108 = ad110 := (by injection e110)
 replace hx110_0 := cl_ HB.out hx110_0
 have HR110_0 := Aside0.mk hi110_0
 have HC110_0 := Aside0.mk hl110_0
 clear hi110_0 hl110_0
 replace p110 := eq_true p110
 replace q110 := eq_true q110
 have p111 : 0 ≤ (x5_2 : Int) := of_decide_eq_true as_
 have q111 : x5_2 < (l0_1.length : Int) := of_decide_eq_true as_
 obtain ⟨ad111, A111_0, c111_0, e111, hx111_0, hl111_0, hi111_0⟩ := at_L3 HR0_1.out x5_2 p111 q111
 obtain rfl : ad108 = ad111 := (by injection e111)
 replace hx111_0 := cl_ HB.out hx111_0
 have HR111_0 := Aside0.mk hi111_0
 have HC111_0 := Aside0.mk hl111_0
 clear hi111_0 hl111_0
 replace p111 := eq_true p111
 replace q111 := eq_true q111
 have ea_ := Option.some.inj (hx110_0.symm.trans hx111_0)
 injection ea_ with ea_ en_ ec_
 subst ea_
 subst ec_
 clear en_
 have p112 : 0 ≤ (x6_3 : Int) := of_decide_eq_true as_
 have q112 : x6_3 < ((rd_L3 l0_1 x5_2).length : Int) := of_decide_eq_true as_
 obtain ⟨ad112, e112, hx112_0, hx112_1, hx112_2, hx112_3, hx112_4⟩ := at_T53 HR111_0.out x6_3 p112 q112
 cases e112
 replace hx112_0 := cl_ HB.out hx112_0
 replace hx112_1 := cl_ HB.out hx112_1
 replace hx112_2 := cl_ HB.out hx112_2
 replace hx112_3 := cl_ HB.out hx112_3
 replace hx112_4 := cl_ HB.out hx112_4
 replace p112 := eq_true p112
 replace q112 := eq_true q112
 have hcz34_0 : wr.cell? ⟨gb106, 0, none⟩ = some (.slice A1_0 l1_0.length c1_0) := (blk_cell BK106.out 0).trans rfl
 have hcz34_1 : wr.cell? ⟨gb106, 1, none⟩ = some (.slice (some ad109) l1_1.length c1_1) := (blk_cell BK106.out 1).trans rfl
 have hfz34_0 := blk_frozen BK106.out 0
 have hfz34_1 := blk_frozen BK106.out 1
 have p113 : 0 ≤ (x5_2 : Int) := of_decide_eq_true as_
 have q113 : x5_2 < (l1_1.length : Int) := of_decide_eq_true as_
 obtain ⟨ad113, A113_0, c113_0, e113, hx113_0, hl113_0, hi113_0⟩ := at_L3 HR1_1.out x5_2 p113 q113
 obtain rfl : ad109 = ad113 := (by injection e113)
 replace hx113_0 := cl_ HB.out hx113_0
 have HR113_0 := Aside0.mk hi113_0
 have HC113_0 := Aside0.mk hl113_0
 clear hi113_0 hl113_0
 replace p113 := eq_true p113
 replace q113 := eq_true q113
 have p114 : 0 ≤ (x6_3 : Int) := of_decide_eq_true as_
 have q114 : x6_3 < ((rd_L3 l1_1 x5_2).length : Int) := of_decide_eq_true as_
 obtain ⟨ad114, e114, hx114_0, hx114_1, hx114_2, hx114_3, hx114_4⟩ := at_T53 HR113_0.out x6_3 p114 q114
 cases e114
 replace hx114_0 := cl_ HB.out hx114_0
 replace hx114_1 := cl_ HB.out hx114_1
 replace hx114_2 := cl_ HB.out hx114_2
 replace hx114_3 := cl_ HB.out hx114_3
 replace hx114_4 := cl_ HB.out hx114_4
 replace p114 := eq_true p114
 replace q114 := eq_true q114
 go_wp2
 repeat (go_quiet (fail); try go_wp2)
 go_roundg k3
 case measure => have := HJ2.out; have := HK2.out; have := HK3.out; omega
 case rel => exact ⟨(wrap64 (x6_3 + 1)), rf_, H', ⟨by have := HJ2.out; have := HK2.out; have := HK3.out; omega⟩, ⟨bd_ BK105.out⟩, ⟨bd_ BK106.out⟩, ⟨hb_ HB.out⟩⟩
end Go.Proofs.Ytijpfonbeepmfaa.Print
