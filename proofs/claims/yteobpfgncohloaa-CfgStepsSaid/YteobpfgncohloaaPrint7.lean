-- Written by ownprint.py (this session's) with the kit's print.py: functions, contracts, rows; Lean checks it.
import Derived.Test.YteobpfgncohloaaPrint0
import Derived.Test.YteobpfgncohloaaHSq
namespace Go.Proofs.Yteobpfgncohloaa.Print
open Go.RowKit Go.Proofs.YteobpfgncohloaaW.PrintWords Go.Proofs.YteobpfgncohloaaW.PrintLast Go.Proofs.YteobpfgncohloaaW.PrintMore
attribute [local go_sem] max2_int min2_int max_two min_two max_three min_three max_four min_four   -- for this text's walks alone
set_option linter.unusedVariables false
set_option linter.unusedSimpArgs false
def fencepostref10_Jumps.f (a0_0 : Int) (a0_1 : Int) (a0_2 : Int) (a0_3 : Int) (a0_4 : Int) (a1 : Bool) : Option (Bool) := if a0_0 = 8 then (some true) else (if a0_0 = 9 then (if a1 = true then (some true) else (if a0_0 = 10 then (some (!a1)) else (some false))) else (if a0_0 = 10 then (some (!a1)) else (some false)))
set_option maxHeartbeats 8000000 in
set_option maxRecDepth 100000 in
theorem fencepostref10_Jumps.calls (a0_0 : Int) (a0_1 : Int) (a0_2 : Int) (a0_3 : Int) (a0_4 : Int) (a1 : Bool) (r : Bool) (w : World) (h : fencepostref10_Jumps.f a0_0 a0_1 a0_2 a0_3 a0_4 a1 = some r) :
 Calls Try.prog 30 #[.agg #[.int .i64 a0_0, .int .i64 a0_1, .int .i64 a0_2, .int .i64 a0_3, .int .i64 a0_4], .bool a1] w fun e w' => e = .returned (.bool r) ∧ Below w.heap.size w w' := by
 have hu42 := Try.underlying42
 have HB := Aside0.mk (Below.refl w.heap.size w)
 have H : (if a0_0 = 8 then (some true) else (if a0_0 = 9 then (if a1 = true then (some true) else (if a0_0 = 10 then (some (!a1)) else (some false))) else (if a0_0 = 10 then (some (!a1)) else (some false)))) = some r := h
 clear h
 by_cases c3 : a0_0 = 8
 ·rw [if_pos c3] at H
  have c3b0 : (a0_0 == 8) = true := beq_iff_eq.mpr c3
  have c3b1 : (a0_0 != 8) = false := bne_eq_false_iff_eq.mpr c3
  clear c3
  obtain rfl := Option.some.inj H
  go_enter Try.func30, Try.ntmps30
  go_wp2_with (first | ((with_reducible refine gate_dst (N := 2) rfl ?_); refine box_event ?hg (N := 2) ?hd (cs := #[.int .i64 a0_0, .int .i64 a0_1, .int .i64 a0_2, .int .i64 a0_3, .int .i64 a0_4]) (t := 42) ?hr ?_; (case hd => rfl); (case hg => rfl); (case hr => first | (go_simp; done) | (go_simp; rfl)); intro gb226 hg w4 hbox hb; have n0_ := Aside0.mk (below_step (hb_ HB.out) hb); have n1_ := Aside0.mk (hbox); have n2_ := Aside0.mk (gs_ hg (hb_ HB.out)); have n3_ := Aside0.mk (gs_ hg (hb_ HB.out)); clear HB; have HB := n0_; have BK226 := n1_; have GW226 := n2_; have GE226 := n3_; clear n0_ n1_ n2_ n3_; clear hb hbox hg; have hcz5_0 : w4.cell? ⟨gb226, 0, none⟩ = some (.int .i64 a0_0) := (blk_cell BK226.out 0).trans rfl; have hcz5_1 : w4.cell? ⟨gb226, 1, none⟩ = some (.int .i64 a0_1) := (blk_cell BK226.out 1).trans rfl; have hcz5_2 : w4.cell? ⟨gb226, 2, none⟩ = some (.int .i64 a0_2) := (blk_cell BK226.out 2).trans rfl; have hcz5_3 : w4.cell? ⟨gb226, 3, none⟩ = some (.int .i64 a0_3) := (blk_cell BK226.out 3).trans rfl; have hcz5_4 : w4.cell? ⟨gb226, 4, none⟩ = some (.int .i64 a0_4) := (blk_cell BK226.out 4).trans rfl; have hfz5_0 := blk_frozen BK226.out 0; have hfz5_1 := blk_frozen BK226.out 1; have hfz5_2 := blk_frozen BK226.out 2; have hfz5_3 := blk_frozen BK226.out 3; have hfz5_4 := blk_frozen BK226.out 4))
  go_ret
  exact ⟨by first | rfl | (simp [errW_none, errW_some] <;> rfl) | (simp [*, errW_none, errW_some] <;> rfl), hb_ HB.out⟩
 rw [if_neg c3] at H
 have c3b0 : (a0_0 == 8) = false := beq_eq_false_iff_ne.mpr c3
 have c3b1 : (a0_0 != 8) = true := bne_iff_ne.mpr c3
 by_cases c6 : a0_0 = 9
 rotate_left
 ·rw [if_neg c6] at H
  have c6b0 : (a0_0 == 9) = false := beq_eq_false_iff_ne.mpr c6
  have c6b1 : (a0_0 != 9) = true := bne_iff_ne.mpr c6
  by_cases c15 : a0_0 = 10
  rotate_left
  ·rw [if_neg c15] at H
   have c15b0 : (a0_0 == 10) = false := beq_eq_false_iff_ne.mpr c15
   have c15b1 : (a0_0 != 10) = true := bne_iff_ne.mpr c15
   obtain rfl := Option.some.inj H
   go_enter Try.func30, Try.ntmps30
   go_wp2_with (first | ((with_reducible refine gate_dst (N := 2) rfl ?_); refine box_event ?hg (N := 2) ?hd (cs := #[.int .i64 a0_0, .int .i64 a0_1, .int .i64 a0_2, .int .i64 a0_3, .int .i64 a0_4]) (t := 42) ?hr ?_; (case hd => rfl); (case hg => rfl); (case hr => first | (go_simp; done) | (go_simp; rfl)); intro gb226 hg w18 hbox hb; have n0_ := Aside0.mk (below_step (hb_ HB.out) hb); have n1_ := Aside0.mk (hbox); have n2_ := Aside0.mk (gs_ hg (hb_ HB.out)); have n3_ := Aside0.mk (gs_ hg (hb_ HB.out)); clear HB; have HB := n0_; have BK226 := n1_; have GW226 := n2_; have GE226 := n3_; clear n0_ n1_ n2_ n3_; clear hb hbox hg; have hcz19_0 : w18.cell? ⟨gb226, 0, none⟩ = some (.int .i64 a0_0) := (blk_cell BK226.out 0).trans rfl; have hcz19_1 : w18.cell? ⟨gb226, 1, none⟩ = some (.int .i64 a0_1) := (blk_cell BK226.out 1).trans rfl; have hcz19_2 : w18.cell? ⟨gb226, 2, none⟩ = some (.int .i64 a0_2) := (blk_cell BK226.out 2).trans rfl; have hcz19_3 : w18.cell? ⟨gb226, 3, none⟩ = some (.int .i64 a0_3) := (blk_cell BK226.out 3).trans rfl; have hcz19_4 : w18.cell? ⟨gb226, 4, none⟩ = some (.int .i64 a0_4) := (blk_cell BK226.out 4).trans rfl; have hfz19_0 := blk_frozen BK226.out 0; have hfz19_1 := blk_frozen BK226.out 1; have hfz19_2 := blk_frozen BK226.out 2; have hfz19_3 := blk_frozen BK226.out 3; have hfz19_4 := blk_frozen BK226.out 4))
   go_ret
   exact ⟨by first | rfl | (simp [errW_none, errW_some] <;> rfl) | (simp [*, errW_none, errW_some] <;> rfl), hb_ HB.out⟩
  rw [if_pos c15] at H
  have c15b0 : (a0_0 == 10) = true := beq_iff_eq.mpr c15
  have c15b1 : (a0_0 != 10) = false := bne_eq_false_iff_eq.mpr c15
  clear c15
  obtain rfl := Option.some.inj H
  go_enter Try.func30, Try.ntmps30
  go_wp2_with (first | ((with_reducible refine gate_dst (N := 2) rfl ?_); refine box_event ?hg (N := 2) ?hd (cs := #[.int .i64 a0_0, .int .i64 a0_1, .int .i64 a0_2, .int .i64 a0_3, .int .i64 a0_4]) (t := 42) ?hr ?_; (case hd => rfl); (case hg => rfl); (case hr => first | (go_simp; done) | (go_simp; rfl)); intro gb226 hg w16 hbox hb; have n0_ := Aside0.mk (below_step (hb_ HB.out) hb); have n1_ := Aside0.mk (hbox); have n2_ := Aside0.mk (gs_ hg (hb_ HB.out)); have n3_ := Aside0.mk (gs_ hg (hb_ HB.out)); clear HB; have HB := n0_; have BK226 := n1_; have GW226 := n2_; have GE226 := n3_; clear n0_ n1_ n2_ n3_; clear hb hbox hg; have hcz17_0 : w16.cell? ⟨gb226, 0, none⟩ = some (.int .i64 a0_0) := (blk_cell BK226.out 0).trans rfl; have hcz17_1 : w16.cell? ⟨gb226, 1, none⟩ = some (.int .i64 a0_1) := (blk_cell BK226.out 1).trans rfl; have hcz17_2 : w16.cell? ⟨gb226, 2, none⟩ = some (.int .i64 a0_2) := (blk_cell BK226.out 2).trans rfl; have hcz17_3 : w16.cell? ⟨gb226, 3, none⟩ = some (.int .i64 a0_3) := (blk_cell BK226.out 3).trans rfl; have hcz17_4 : w16.cell? ⟨gb226, 4, none⟩ = some (.int .i64 a0_4) := (blk_cell BK226.out 4).trans rfl; have hfz17_0 := blk_frozen BK226.out 0; have hfz17_1 := blk_frozen BK226.out 1; have hfz17_2 := blk_frozen BK226.out 2; have hfz17_3 := blk_frozen BK226.out 3; have hfz17_4 := blk_frozen BK226.out 4))
  go_ret
  exact ⟨by first | rfl | (simp [errW_none, errW_some] <;> rfl) | (simp [*, errW_none, errW_some] <;> rfl), hb_ HB.out⟩
 rw [if_pos c6] at H
 have c6b0 : (a0_0 == 9) = true := beq_iff_eq.mpr c6
 have c6b1 : (a0_0 != 9) = false := bne_eq_false_iff_eq.mpr c6
 clear c6
 by_cases c7 : a1 = true
 ·subst c7
  have H1 : (some true) = some r := by rw [if_pos rfl] at H; exact H
  clear H
  have H := H1
  clear H1
  obtain rfl := Option.some.inj H
  go_enter Try.func30, Try.ntmps30
  go_wp2_with (first | ((with_reducible refine gate_dst (N := 2) rfl ?_); refine box_event ?hg (N := 2) ?hd (cs := #[.int .i64 a0_0, .int .i64 a0_1, .int .i64 a0_2, .int .i64 a0_3, .int .i64 a0_4]) (t := 42) ?hr ?_; (case hd => rfl); (case hg => rfl); (case hr => first | (go_simp; done) | (go_simp; rfl)); intro gb226 hg w8 hbox hb; have n0_ := Aside0.mk (below_step (hb_ HB.out) hb); have n1_ := Aside0.mk (hbox); have n2_ := Aside0.mk (gs_ hg (hb_ HB.out)); have n3_ := Aside0.mk (gs_ hg (hb_ HB.out)); clear HB; have HB := n0_; have BK226 := n1_; have GW226 := n2_; have GE226 := n3_; clear n0_ n1_ n2_ n3_; clear hb hbox hg; have hcz9_0 : w8.cell? ⟨gb226, 0, none⟩ = some (.int .i64 a0_0) := (blk_cell BK226.out 0).trans rfl; have hcz9_1 : w8.cell? ⟨gb226, 1, none⟩ = some (.int .i64 a0_1) := (blk_cell BK226.out 1).trans rfl; have hcz9_2 : w8.cell? ⟨gb226, 2, none⟩ = some (.int .i64 a0_2) := (blk_cell BK226.out 2).trans rfl; have hcz9_3 : w8.cell? ⟨gb226, 3, none⟩ = some (.int .i64 a0_3) := (blk_cell BK226.out 3).trans rfl; have hcz9_4 : w8.cell? ⟨gb226, 4, none⟩ = some (.int .i64 a0_4) := (blk_cell BK226.out 4).trans rfl; have hfz9_0 := blk_frozen BK226.out 0; have hfz9_1 := blk_frozen BK226.out 1; have hfz9_2 := blk_frozen BK226.out 2; have hfz9_3 := blk_frozen BK226.out 3; have hfz9_4 := blk_frozen BK226.out 4))
  go_ret
  exact ⟨by first | rfl | (simp [errW_none, errW_some] <;> rfl) | (simp [*, errW_none, errW_some] <;> rfl), hb_ HB.out⟩
 replace c7 := Bool.eq_false_iff.mpr c7
 subst c7
 have H1 : (if a0_0 = 10 then (some (!false)) else (some false)) = some r := by rw [if_neg (show ¬ (false = true) by decide)] at H; exact H
 clear H
 have H := H1
 clear H1
 by_cases c10 : a0_0 = 10
 rotate_left
 ·rw [if_neg c10] at H
  have c10b0 : (a0_0 == 10) = false := beq_eq_false_iff_ne.mpr c10
  have c10b1 : (a0_0 != 10) = true := bne_iff_ne.mpr c10
  obtain rfl := Option.some.inj H
  go_enter Try.func30, Try.ntmps30
  go_wp2_with (first | ((with_reducible refine gate_dst (N := 2) rfl ?_); refine box_event ?hg (N := 2) ?hd (cs := #[.int .i64 a0_0, .int .i64 a0_1, .int .i64 a0_2, .int .i64 a0_3, .int .i64 a0_4]) (t := 42) ?hr ?_; (case hd => rfl); (case hg => rfl); (case hr => first | (go_simp; done) | (go_simp; rfl)); intro gb226 hg w13 hbox hb; have n0_ := Aside0.mk (below_step (hb_ HB.out) hb); have n1_ := Aside0.mk (hbox); have n2_ := Aside0.mk (gs_ hg (hb_ HB.out)); have n3_ := Aside0.mk (gs_ hg (hb_ HB.out)); clear HB; have HB := n0_; have BK226 := n1_; have GW226 := n2_; have GE226 := n3_; clear n0_ n1_ n2_ n3_; clear hb hbox hg; have hcz14_0 : w13.cell? ⟨gb226, 0, none⟩ = some (.int .i64 a0_0) := (blk_cell BK226.out 0).trans rfl; have hcz14_1 : w13.cell? ⟨gb226, 1, none⟩ = some (.int .i64 a0_1) := (blk_cell BK226.out 1).trans rfl; have hcz14_2 : w13.cell? ⟨gb226, 2, none⟩ = some (.int .i64 a0_2) := (blk_cell BK226.out 2).trans rfl; have hcz14_3 : w13.cell? ⟨gb226, 3, none⟩ = some (.int .i64 a0_3) := (blk_cell BK226.out 3).trans rfl; have hcz14_4 : w13.cell? ⟨gb226, 4, none⟩ = some (.int .i64 a0_4) := (blk_cell BK226.out 4).trans rfl; have hfz14_0 := blk_frozen BK226.out 0; have hfz14_1 := blk_frozen BK226.out 1; have hfz14_2 := blk_frozen BK226.out 2; have hfz14_3 := blk_frozen BK226.out 3; have hfz14_4 := blk_frozen BK226.out 4))
  go_ret
  exact ⟨by first | rfl | (simp [errW_none, errW_some] <;> rfl) | (simp [*, errW_none, errW_some] <;> rfl), hb_ HB.out⟩
 rw [if_pos c10] at H
 have c10b0 : (a0_0 == 10) = true := beq_iff_eq.mpr c10
 have c10b1 : (a0_0 != 10) = false := bne_eq_false_iff_eq.mpr c10
 clear c10
 obtain rfl := Option.some.inj H
 go_enter Try.func30, Try.ntmps30
 go_wp2_with (first | ((with_reducible refine gate_dst (N := 2) rfl ?_); refine box_event ?hg (N := 2) ?hd (cs := #[.int .i64 a0_0, .int .i64 a0_1, .int .i64 a0_2, .int .i64 a0_3, .int .i64 a0_4]) (t := 42) ?hr ?_; (case hd => rfl); (case hg => rfl); (case hr => first | (go_simp; done) | (go_simp; rfl)); intro gb226 hg w11 hbox hb; have n0_ := Aside0.mk (below_step (hb_ HB.out) hb); have n1_ := Aside0.mk (hbox); have n2_ := Aside0.mk (gs_ hg (hb_ HB.out)); have n3_ := Aside0.mk (gs_ hg (hb_ HB.out)); clear HB; have HB := n0_; have BK226 := n1_; have GW226 := n2_; have GE226 := n3_; clear n0_ n1_ n2_ n3_; clear hb hbox hg; have hcz12_0 : w11.cell? ⟨gb226, 0, none⟩ = some (.int .i64 a0_0) := (blk_cell BK226.out 0).trans rfl; have hcz12_1 : w11.cell? ⟨gb226, 1, none⟩ = some (.int .i64 a0_1) := (blk_cell BK226.out 1).trans rfl; have hcz12_2 : w11.cell? ⟨gb226, 2, none⟩ = some (.int .i64 a0_2) := (blk_cell BK226.out 2).trans rfl; have hcz12_3 : w11.cell? ⟨gb226, 3, none⟩ = some (.int .i64 a0_3) := (blk_cell BK226.out 3).trans rfl; have hcz12_4 : w11.cell? ⟨gb226, 4, none⟩ = some (.int .i64 a0_4) := (blk_cell BK226.out 4).trans rfl; have hfz12_0 := blk_frozen BK226.out 0; have hfz12_1 := blk_frozen BK226.out 1; have hfz12_2 := blk_frozen BK226.out 2; have hfz12_3 := blk_frozen BK226.out 3; have hfz12_4 := blk_frozen BK226.out 4))
 go_ret
 exact ⟨by first | rfl | (simp [errW_none, errW_some] <;> rfl) | (simp [*, errW_none, errW_some] <;> rfl), hb_ HB.out⟩
def fencepostref09_Drain.f (l0 : List (S69)) (l1 : List Int) : Option ((List (S69)) × List Int × Bool) := (some (([] : List Int) : List Int)).bind fun y227 => (if y227.length + l1.length < 17592186044416 then ((some (y227 ++ l1 : List Int)).bind fun y230 => (if (l0.length : Int) = 0 then ((some (([] : List (S69)) : List (S69))).bind fun y233 => (if y233.length + l0.length < 8796093022208 then (some ((y233 ++ l0), y230, false)) else (none))) else (if 0 < (l0.length : Int) then (if ((rd_T69 l0 0).f0) < 0 then ((some (([] : List (S69)) : List (S69))).bind fun y240 => (if y240.length + l0.length < 8796093022208 then (some ((y240 ++ l0), y230, false)) else (none))) else (if ((rd_T69 l0 0).f0) ≥ (l1.length : Int) then ((some (([] : List (S69)) : List (S69))).bind fun y247 => (if y247.length + l0.length < 8796093022208 then (some ((y247 ++ l0), y230, false)) else (none))) else (if 0 ≤ ((rd_T69 l0 0).f0) then (if ((rd_T69 l0 0).f0) < (y230.length : Int) then ((some (([] : List (S69)) : List (S69))).bind fun y256 => (if 1 ≤ (l0.length : Int) then ((some (l0.drop 1 : List (S69))).bind fun y259 => (if y256.length + y259.length < 8796093022208 then (some ((y256 ++ y259), (y230.set (((rd_T69 l0 0).f0) : Int).toNat ((rd_T69 l0 0).f1)), true)) else (none))) else (none))) else (none)) else (none)))) else (none)))) else (none))
def fencepostref09_Drain.T4 : Bool × List (List Nat × List Nat) := (true, [([], []), ([], []), ([1], [1]), ([2], [2]), ([3], [3]), ([], []), ([5], [5]), ([6], [6]), ([7], [7]), ([0, 4, 0, 1, 2, 3, 4, 5, 6, 7, 8], [0, 4]), ([9, 8, 0, 1, 2, 3, 4, 5, 6, 7, 8], [8, 9])])
def fencepostref09_Drain.B4 : List Nat := [0, 0, 2, 6, 14, 0, 32, 96, 224, 511, 1023]
theorem fencepostref09_Drain.tab4 : rtab .any (opsOf Try.f26 4) = fencepostref09_Drain.T4 := by kernel_rfl
theorem fencepostref09_Drain.bits4 : waitsOk fencepostref09_Drain.T4.2 fencepostref09_Drain.B4 = true := by kernel_rfl
set_option maxHeartbeats 8000000 in
set_option maxRecDepth 100000 in
theorem fencepostref09_Drain.calls (A0 : Option Addr) (c0 : Nat) (l0 : List (S69)) (A1 : Option Addr) (c1 : Nat) (l1 : List Int) (r1 : List (S69)) (r2 : List Int) (r3 : Bool) (w : World) (hr0 : Kd.C k69 w A0 l0.length l0) (hc0 : l0.length ≤ c0) (hr1 : Kd.C (Kd.int .i64) w A1 l1.length l1) (hc1 : l1.length ≤ c1) (h : fencepostref09_Drain.f l0 l1 = some (r1, r2, r3)) :
 Calls Try.prog 26 #[.slice A0 l0.length c0, .slice A1 l1.length c1] w fun e w' => ∃ v0_ v1_ : Value, e = .returned (.tuple #[v0_, v1_, .bool r3]) ∧ Kd.R k69 69 w' w.heap.size (fun _ => True) v0_ r1 ∧ Kd.R (Kd.int .i64) 3 w' w.heap.size (fun _ => True) v1_ r2 ∧ Below w.heap.size w w' := by
 have HR0 := Aside0.mk hr0
 have HC0 := Aside0.mk hc0
 clear hr0 hc0
 have HR1 := Aside0.mk hr1
 have HC1 := Aside0.mk hc1
 clear hr1 hc1
 have HB := Aside0.mk (Below.refl w.heap.size w)
 have H : ((some (([] : List Int) : List Int)).bind fun y227 => (if y227.length + l1.length < 17592186044416 then ((some (y227 ++ l1 : List Int)).bind fun y230 => (if (l0.length : Int) = 0 then ((some (([] : List (S69)) : List (S69))).bind fun y233 => (if y233.length + l0.length < 8796093022208 then (some ((y233 ++ l0), y230, false)) else (none))) else (if 0 < (l0.length : Int) then (if ((rd_T69 l0 0).f0) < 0 then ((some (([] : List (S69)) : List (S69))).bind fun y240 => (if y240.length + l0.length < 8796093022208 then (some ((y240 ++ l0), y230, false)) else (none))) else (if ((rd_T69 l0 0).f0) ≥ (l1.length : Int) then ((some (([] : List (S69)) : List (S69))).bind fun y247 => (if y247.length + l0.length < 8796093022208 then (some ((y247 ++ l0), y230, false)) else (none))) else (if 0 ≤ ((rd_T69 l0 0).f0) then (if ((rd_T69 l0 0).f0) < (y230.length : Int) then ((some (([] : List (S69)) : List (S69))).bind fun y256 => (if 1 ≤ (l0.length : Int) then ((some (l0.drop 1 : List (S69))).bind fun y259 => (if y256.length + y259.length < 8796093022208 then (some ((y256 ++ y259), (y230.set (((rd_T69 l0 0).f0) : Int).toNat ((rd_T69 l0 0).f1)), true)) else (none))) else (none))) else (none)) else (none)))) else (none)))) else (none))) = some (r1, r2, r3) := h
 clear h
 obtain ⟨y227, hy227⟩ : ∃ y_ : List Int, y_ = (([] : List Int)) := ⟨_, rfl⟩
 replace H : (if y227.length + l1.length < 17592186044416 then ((some (y227 ++ l1 : List Int)).bind fun y230 => (if (l0.length : Int) = 0 then ((some (([] : List (S69)) : List (S69))).bind fun y233 => (if y233.length + l0.length < 8796093022208 then (some ((y233 ++ l0), y230, false)) else (none))) else (if 0 < (l0.length : Int) then (if ((rd_T69 l0 0).f0) < 0 then ((some (([] : List (S69)) : List (S69))).bind fun y240 => (if y240.length + l0.length < 8796093022208 then (some ((y240 ++ l0), y230, false)) else (none))) else (if ((rd_T69 l0 0).f0) ≥ (l1.length : Int) then ((some (([] : List (S69)) : List (S69))).bind fun y247 => (if y247.length + l0.length < 8796093022208 then (some ((y247 ++ l0), y230, false)) else (none))) else (if 0 ≤ ((rd_T69 l0 0).f0) then (if ((rd_T69 l0 0).f0) < (y230.length : Int) then ((some (([] : List (S69)) : List (S69))).bind fun y256 => (if 1 ≤ (l0.length : Int) then ((some (l0.drop 1 : List (S69))).bind fun y259 => (if y256.length + y259.length < 8796093022208 then (some ((y256 ++ y259), (y230.set (((rd_T69 l0 0).f0) : Int).toNat ((rd_T69 l0 0).f1)), true)) else (none))) else (none))) else (none)) else (none)))) else (none)))) else (none)) = some (r1, r2, r3) := by first | (rw [hy227]; with_reducible exact H) | (have H2_ := (Option.bind_some _ _).symm.trans H; rw [hy227]; with_reducible exact H2_) | (have H2_ := (Option.bind_some _ _).symm.trans H; with_reducible exact H2_) | with_reducible exact H | (rw [hy227]; exact H) | exact H
 have Ny227 := Aside0.mk hy227
 clear hy227
 by_cases c3 : y227.length + l1.length < 17592186044416
 rotate_left
 ·rw [if_neg c3] at H
  exact absurd H (by simp)
 rw [if_pos c3] at H
 have LMc3 := Aside0.mk c3
 clear c3
 obtain ⟨y230, hy230⟩ : ∃ y_ : List Int, y_ = (y227 ++ l1) := ⟨_, rfl⟩
 replace H : (if (l0.length : Int) = 0 then ((some (([] : List (S69)) : List (S69))).bind fun y233 => (if y233.length + l0.length < 8796093022208 then (some ((y233 ++ l0), y230, false)) else (none))) else (if 0 < (l0.length : Int) then (if ((rd_T69 l0 0).f0) < 0 then ((some (([] : List (S69)) : List (S69))).bind fun y240 => (if y240.length + l0.length < 8796093022208 then (some ((y240 ++ l0), y230, false)) else (none))) else (if ((rd_T69 l0 0).f0) ≥ (l1.length : Int) then ((some (([] : List (S69)) : List (S69))).bind fun y247 => (if y247.length + l0.length < 8796093022208 then (some ((y247 ++ l0), y230, false)) else (none))) else (if 0 ≤ ((rd_T69 l0 0).f0) then (if ((rd_T69 l0 0).f0) < (y230.length : Int) then ((some (([] : List (S69)) : List (S69))).bind fun y256 => (if 1 ≤ (l0.length : Int) then ((some (l0.drop 1 : List (S69))).bind fun y259 => (if y256.length + y259.length < 8796093022208 then (some ((y256 ++ y259), (y230.set (((rd_T69 l0 0).f0) : Int).toNat ((rd_T69 l0 0).f1)), true)) else (none))) else (none))) else (none)) else (none)))) else (none))) = some (r1, r2, r3) := by first | (rw [hy230]; with_reducible exact H) | (have H2_ := (Option.bind_some _ _).symm.trans H; rw [hy230]; with_reducible exact H2_) | (have H2_ := (Option.bind_some _ _).symm.trans H; with_reducible exact H2_) | with_reducible exact H | (rw [hy230]; exact H) | exact H
 have Ny230 := Aside0.mk hy230
 clear hy230
 by_cases c4 : (l0.length : Int) = 0
 ·rw [if_pos c4] at H
  have c4b0 : ((l0.length : Int) == 0) = true := beq_iff_eq.mpr c4
  have c4b1 : ((l0.length : Int) != 0) = false := bne_eq_false_iff_eq.mpr c4
  clear c4
  obtain ⟨y233, hy233⟩ : ∃ y_ : List (S69), y_ = (([] : List (S69))) := ⟨_, rfl⟩
  replace H : (if y233.length + l0.length < 8796093022208 then (some ((y233 ++ l0), y230, false)) else (none)) = some (r1, r2, r3) := by first | (rw [hy233]; with_reducible exact H) | (have H2_ := (Option.bind_some _ _).symm.trans H; rw [hy233]; with_reducible exact H2_) | (have H2_ := (Option.bind_some _ _).symm.trans H; with_reducible exact H2_) | with_reducible exact H | (rw [hy233]; exact H) | exact H
  have Ny233 := Aside0.mk hy233
  clear hy233
  by_cases c5 : y233.length + l0.length < 8796093022208
  rotate_left
  ·rw [if_neg c5] at H
   exact absurd H (by simp)
  rw [if_pos c5] at H
  have LMc5 := Aside0.mk c5
  clear c5
  obtain ⟨y236, hy236⟩ : ∃ y_ : List (S69), y_ = (y233 ++ l0) := ⟨_, rfl⟩
  replace H : (some (y236, y230, false)) = some (r1, r2, r3) := by first | (rw [hy236]; with_reducible exact H) | (have H2_ := (Option.bind_some _ _).symm.trans H; rw [hy236]; with_reducible exact H2_) | (have H2_ := (Option.bind_some _ _).symm.trans H; with_reducible exact H2_) | with_reducible exact H | (rw [hy236]; exact H) | exact H
  have Ny236 := Aside0.mk hy236
  clear hy236
  simp only [Option.some.injEq, Prod.mk.injEq] at H
  obtain ⟨rfl, rfl, rfl⟩ := H
  go_enter Try.func26, Try.ntmps26
  go_wp2_with (first | ((with_reducible refine gate_dst (N := 8) rfl ?_); (try (refine gate_guard (by rfl) ?_; dsimp only)); refine Kd.R_lit (Kd.int .i64) _ 3 ?hg (N := 8) ?hd (xs := ([] : List Int)) (inner := []) (ok := fun _ => True) (okp := fun _ => True) ?hr ?hp (fun _ hk => hk) trivial (Below.refl _ _) (Nat.le_refl _) (by simp) ?_; (case hd => rfl); (case hg => rfl); (case hr => first | (go_simp; done) | (go_simp; rfl)); (case hp => exact (Reps.none _ _)); intro v228 w6 ho7 hb hg_ hnew_; clear hg_ hnew_; (first | rw [← Ny227.out] at ho7 | (simp only [Int.reduceToNat] at ho7; rw [← Ny227.out] at ho7)); have n0_ := Aside0.mk (Kd.R_lower ho7 (below_size (hb_ HB.out))); have n1_ := Aside0.mk (below_step (hb_ HB.out) hb); clear HB; have HO229 := n0_; have HB := n1_; clear n0_ n1_; clear hb ho7) | ((with_reducible refine gate_builtin (b := .append) (xs := #[.tmp 8, .tmp 9]) rfl ?_); (try (refine gate_guard (by rfl) ?_; dsimp only)); at_builtin; refine Kd.R_append_rows (Kd.int .i64) (w0 := w) w.heap.size rfl (.tmp 8) (.tmp 9) 22 3 (.int .i64 0) 8 rfl Try.underlying22 info3 rfl (by decide) (by omega) v228 y227 l1 _ _ _ (fun _ => True) (fun _ => False) rfl rfl ?aO ?aR (fun _ _ h => h) (fun _ h => h.elim) ?aF ?aB ?aS ?aL ?_; (case aR => repeat (first | exact (Kd.C_below HR1.out HB.out) | (with_reducible refine Kd.C_alloc ?_ _) | (with_reducible refine Kd.C_drewN ?_ _) | (with_reducible refine Kd.C_drew ?_))); (case aB => exact (hb_ HB.out)); (case aF => exact (fun _ _ => trivial)); (case aO => exact (rd_ HO229.out)); (case aS => exact (below_size (hb_ HB.out))); (case aL => have := LMc3.out; omega); intro v231 w8 ho hb hg hat; rw [← Ny230.out] at ho; have n0_ := Aside0.mk (hb); have n1_ := Aside0.mk (ho); clear HB; clear HO229; have HB := n0_; have HO232 := n1_; clear n0_ n1_; clear ho hb hg hat) | ((with_reducible refine gate_dst (N := 30) rfl ?_); (try (refine gate_guard (by rfl) ?_; dsimp only)); refine Kd.R_lit k69 _ 69 ?hg (N := 30) ?hd (xs := ([] : List (S69))) (inner := []) (ok := fun _ => True) (okp := fun _ => True) ?hr ?hp (fun _ hk => hk) trivial (Below.refl _ _) (Nat.le_refl _) (by simp) ?_; (case hd => rfl); (case hg => rfl); (case hr => first | (go_simp; done) | (go_simp; rfl)); (case hp => exact (Reps.none _ _)); intro v234 w9 ho10 hb hg_ hnew_; clear hg_ hnew_; (first | rw [← Ny233.out] at ho10 | (simp only [Int.reduceToNat] at ho10; rw [← Ny233.out] at ho10)); have n0_ := Aside0.mk (Kd.R_below (rd_ HO232.out) hb); have n1_ := Aside0.mk (Kd.R_lower ho10 (below_size (hb_ HB.out))); have n2_ := Aside0.mk (below_step (hb_ HB.out) hb); clear HO232; clear HB; have HO232 := n0_; have HO235 := n1_; have HB := n2_; clear n0_ n1_ n2_; clear hb ho10) | ((with_reducible refine gate_builtin (b := .append) (xs := #[.tmp 30, .tmp 31]) rfl ?_); (try (refine gate_guard (by rfl) ?_; dsimp only)); at_builtin; refine Kd.R_append_rows k69 (w0 := w) w.heap.size rfl (.tmp 30) (.tmp 31) 37 69 (.agg #[(.int .i64 0), (.int .i64 0)]) 16 rfl Try.underlying37 info69 rfl (by decide) (by omega) v234 y233 l0 _ _ _ (fun _ => True) (fun _ => False) rfl rfl ?aO ?aR (fun _ _ h => h) (fun _ h => h.elim) ?aF ?aB ?aS ?aL ?_; (case aR => repeat (first | exact (Kd.C_below HR0.out HB.out) | (with_reducible refine Kd.C_alloc ?_ _) | (with_reducible refine Kd.C_drewN ?_ _) | (with_reducible refine Kd.C_drew ?_))); (case aB => exact (hb_ HB.out)); (case aF => exact (fun _ _ => trivial)); (case aO => exact (rd_ HO235.out)); (case aS => exact (below_size (hb_ HB.out))); (case aL => have := LMc5.out; omega); intro v237 w11 ho hb hg hat; rw [← Ny236.out] at ho; have n0_ := Aside0.mk (Kd.R_over' (rd_ HO232.out) (Kd.R_typed (rd_ HO235.out)) (by decide) hg); have n1_ := Aside0.mk (hb); have n2_ := Aside0.mk (ho); clear HO232; clear HB; clear HO235; have HO232 := n0_; have HB := n1_; have HO238 := n2_; clear n0_ n1_ n2_; clear ho hb hg hat))
  go_ret3
  exact ⟨_, _, by first | rfl | (simp [errW_none, errW_some] <;> rfl) | (simp [*, errW_none, errW_some] <;> rfl), rd_ HO238.out, rd_ HO232.out, hb_ HB.out⟩
 rw [if_neg c4] at H
 have c4b0 : ((l0.length : Int) == 0) = false := beq_eq_false_iff_ne.mpr c4
 have c4b1 : ((l0.length : Int) != 0) = true := bne_iff_ne.mpr c4
 have c4b2 : ¬ (l0 = []) := fun h_ => c4 (by rw [h_]; rfl)
 by_cases c12 : 0 < (l0.length : Int)
 rotate_left
 ·rw [if_neg c12] at H
  exact absurd H (by simp)
 rw [if_pos c12] at H
 have c12b0 : decide (0 < (l0.length : Int)) = true := decide_eq_true c12
 have c12b1 : decide (0 < l0.length) = true := decide_eq_true (by omega)
 clear c12
 by_cases c13 : ((rd_T69 l0 0).f0) < 0
 ·rw [if_pos c13] at H
  have c13b0 : decide (((rd_T69 l0 0).f0) < 0) = true := decide_eq_true c13
  clear c13
  obtain ⟨y240, hy240⟩ : ∃ y_ : List (S69), y_ = (([] : List (S69))) := ⟨_, rfl⟩
  replace H : (if y240.length + l0.length < 8796093022208 then (some ((y240 ++ l0), y230, false)) else (none)) = some (r1, r2, r3) := by first | (rw [hy240]; with_reducible exact H) | (have H2_ := (Option.bind_some _ _).symm.trans H; rw [hy240]; with_reducible exact H2_) | (have H2_ := (Option.bind_some _ _).symm.trans H; with_reducible exact H2_) | with_reducible exact H | (rw [hy240]; exact H) | exact H
  have Ny240 := Aside0.mk hy240
  clear hy240
  by_cases c14 : y240.length + l0.length < 8796093022208
  rotate_left
  ·rw [if_neg c14] at H
   exact absurd H (by simp)
  rw [if_pos c14] at H
  have LMc14 := Aside0.mk c14
  clear c14
  obtain ⟨y243, hy243⟩ : ∃ y_ : List (S69), y_ = (y240 ++ l0) := ⟨_, rfl⟩
  replace H : (some (y243, y230, false)) = some (r1, r2, r3) := by first | (rw [hy243]; with_reducible exact H) | (have H2_ := (Option.bind_some _ _).symm.trans H; rw [hy243]; with_reducible exact H2_) | (have H2_ := (Option.bind_some _ _).symm.trans H; with_reducible exact H2_) | with_reducible exact H | (rw [hy243]; exact H) | exact H
  have Ny243 := Aside0.mk hy243
  clear hy243
  simp only [Option.some.injEq, Prod.mk.injEq] at H
  obtain ⟨rfl, rfl, rfl⟩ := H
  go_enter Try.func26, Try.ntmps26
  go_wp2_with (first | ((with_reducible refine gate_dst (N := 8) rfl ?_); (try (refine gate_guard (by rfl) ?_; dsimp only)); refine Kd.R_lit (Kd.int .i64) _ 3 ?hg (N := 8) ?hd (xs := ([] : List Int)) (inner := []) (ok := fun _ => True) (okp := fun _ => True) ?hr ?hp (fun _ hk => hk) trivial (Below.refl _ _) (Nat.le_refl _) (by simp) ?_; (case hd => rfl); (case hg => rfl); (case hr => first | (go_simp; done) | (go_simp; rfl)); (case hp => exact (Reps.none _ _)); intro v228 w15 ho16 hb hg_ hnew_; clear hg_ hnew_; (first | rw [← Ny227.out] at ho16 | (simp only [Int.reduceToNat] at ho16; rw [← Ny227.out] at ho16)); have n0_ := Aside0.mk (Kd.R_lower ho16 (below_size (hb_ HB.out))); have n1_ := Aside0.mk (below_step (hb_ HB.out) hb); clear HB; have HO229 := n0_; have HB := n1_; clear n0_ n1_; clear hb ho16) | ((with_reducible refine gate_builtin (b := .append) (xs := #[.tmp 8, .tmp 9]) rfl ?_); (try (refine gate_guard (by rfl) ?_; dsimp only)); at_builtin; refine Kd.R_append_rows (Kd.int .i64) (w0 := w) w.heap.size rfl (.tmp 8) (.tmp 9) 22 3 (.int .i64 0) 8 rfl Try.underlying22 info3 rfl (by decide) (by omega) v228 y227 l1 _ _ _ (fun _ => True) (fun _ => False) rfl rfl ?aO ?aR (fun _ _ h => h) (fun _ h => h.elim) ?aF ?aB ?aS ?aL ?_; (case aR => repeat (first | exact (Kd.C_below HR1.out HB.out) | (with_reducible refine Kd.C_alloc ?_ _) | (with_reducible refine Kd.C_drewN ?_ _) | (with_reducible refine Kd.C_drew ?_))); (case aB => exact (hb_ HB.out)); (case aF => exact (fun _ _ => trivial)); (case aO => exact (rd_ HO229.out)); (case aS => exact (below_size (hb_ HB.out))); (case aL => have := LMc3.out; omega); intro v231 w17 ho hb hg hat; rw [← Ny230.out] at ho; have n0_ := Aside0.mk (hb); have n1_ := Aside0.mk (ho); clear HB; clear HO229; have HB := n0_; have HO232 := n1_; clear n0_ n1_; clear ho hb hg hat; have p239 : 0 ≤ (0 : Int) := (by omega); have q239 : 0 < (l0.length : Int) := of_decide_eq_true as_; obtain ⟨ad239, e239, hx239_0, hx239_1⟩ := at_T69 HR0.out 0 p239 q239; cases e239; have qi239 : (0 < l0.length) = True := eq_true (by omega); (try rw [show ((0 : Int)).toNat = 0 from rfl] at hx239_0); (try rw [show 0 * 2 = 0 from rfl] at hx239_0); (try rw [Addr.add_zero'] at hx239_0); (try rw [show ((0 : Int)).toNat = 0 from rfl] at hx239_1); (try rw [show 0 * 2 = 0 from rfl] at hx239_1); (try rw [Addr.add_zero'] at hx239_1); replace hx239_0 := cl_ HB.out hx239_0; replace hx239_1 := cl_ HB.out hx239_1; replace p239 := eq_true p239; replace q239 := eq_true q239) | ((with_reducible refine gate_dst (N := 30) rfl ?_); (try (refine gate_guard (by rfl) ?_; dsimp only)); refine Kd.R_lit k69 _ 69 ?hg (N := 30) ?hd (xs := ([] : List (S69))) (inner := []) (ok := fun _ => True) (okp := fun _ => True) ?hr ?hp (fun _ hk => hk) trivial (Below.refl _ _) (Nat.le_refl _) (by simp) ?_; (case hd => rfl); (case hg => rfl); (case hr => first | (go_simp; done) | (go_simp; rfl)); (case hp => exact (Reps.none _ _)); intro v241 w18 ho19 hb hg_ hnew_; clear hg_ hnew_; (first | rw [← Ny240.out] at ho19 | (simp only [Int.reduceToNat] at ho19; rw [← Ny240.out] at ho19)); have n0_ := Aside0.mk (Kd.R_below (rd_ HO232.out) hb); have n1_ := Aside0.mk (Kd.R_lower ho19 (below_size (hb_ HB.out))); have n2_ := Aside0.mk (below_step (hb_ HB.out) hb); clear HO232; clear HB; have HO232 := n0_; have HO242 := n1_; have HB := n2_; clear n0_ n1_ n2_; clear hb ho19) | ((with_reducible refine gate_builtin (b := .append) (xs := #[.tmp 30, .tmp 31]) rfl ?_); (try (refine gate_guard (by rfl) ?_; dsimp only)); at_builtin; refine Kd.R_append_rows k69 (w0 := w) w.heap.size rfl (.tmp 30) (.tmp 31) 37 69 (.agg #[(.int .i64 0), (.int .i64 0)]) 16 rfl Try.underlying37 info69 rfl (by decide) (by omega) v241 y240 l0 _ _ _ (fun _ => True) (fun _ => False) rfl rfl ?aO ?aR (fun _ _ h => h) (fun _ h => h.elim) ?aF ?aB ?aS ?aL ?_; (case aR => repeat (first | exact (Kd.C_below HR0.out HB.out) | (with_reducible refine Kd.C_alloc ?_ _) | (with_reducible refine Kd.C_drewN ?_ _) | (with_reducible refine Kd.C_drew ?_))); (case aB => exact (hb_ HB.out)); (case aF => exact (fun _ _ => trivial)); (case aO => exact (rd_ HO242.out)); (case aS => exact (below_size (hb_ HB.out))); (case aL => have := LMc14.out; omega); intro v244 w20 ho hb hg hat; rw [← Ny243.out] at ho; have n0_ := Aside0.mk (Kd.R_over' (rd_ HO232.out) (Kd.R_typed (rd_ HO242.out)) (by decide) hg); have n1_ := Aside0.mk (hb); have n2_ := Aside0.mk (ho); clear HO232; clear HB; clear HO242; have HO232 := n0_; have HB := n1_; have HO245 := n2_; clear n0_ n1_ n2_; clear ho hb hg hat))
  go_ret3
  exact ⟨_, _, by first | rfl | (simp [errW_none, errW_some] <;> rfl) | (simp [*, errW_none, errW_some] <;> rfl), rd_ HO245.out, rd_ HO232.out, hb_ HB.out⟩
 rw [if_neg c13] at H
 have c13b0 : decide (((rd_T69 l0 0).f0) < 0) = false := decide_eq_false c13
 clear c13
 by_cases c21 : ((rd_T69 l0 0).f0) ≥ (l1.length : Int)
 ·rw [if_pos c21] at H
  have c21b0 : decide ((l1.length : Int) ≤ ((rd_T69 l0 0).f0)) = true := decide_eq_true c21
  clear c21
  obtain ⟨y247, hy247⟩ : ∃ y_ : List (S69), y_ = (([] : List (S69))) := ⟨_, rfl⟩
  replace H : (if y247.length + l0.length < 8796093022208 then (some ((y247 ++ l0), y230, false)) else (none)) = some (r1, r2, r3) := by first | (rw [hy247]; with_reducible exact H) | (have H2_ := (Option.bind_some _ _).symm.trans H; rw [hy247]; with_reducible exact H2_) | (have H2_ := (Option.bind_some _ _).symm.trans H; with_reducible exact H2_) | with_reducible exact H | (rw [hy247]; exact H) | exact H
  have Ny247 := Aside0.mk hy247
  clear hy247
  by_cases c22 : y247.length + l0.length < 8796093022208
  rotate_left
  ·rw [if_neg c22] at H
   exact absurd H (by simp)
  rw [if_pos c22] at H
  have LMc22 := Aside0.mk c22
  clear c22
  obtain ⟨y250, hy250⟩ : ∃ y_ : List (S69), y_ = (y247 ++ l0) := ⟨_, rfl⟩
  replace H : (some (y250, y230, false)) = some (r1, r2, r3) := by first | (rw [hy250]; with_reducible exact H) | (have H2_ := (Option.bind_some _ _).symm.trans H; rw [hy250]; with_reducible exact H2_) | (have H2_ := (Option.bind_some _ _).symm.trans H; with_reducible exact H2_) | with_reducible exact H | (rw [hy250]; exact H) | exact H
  have Ny250 := Aside0.mk hy250
  clear hy250
  simp only [Option.some.injEq, Prod.mk.injEq] at H
  obtain ⟨rfl, rfl, rfl⟩ := H
  go_enter Try.func26, Try.ntmps26
  go_wp2_with (first | ((with_reducible refine gate_dst (N := 8) rfl ?_); (try (refine gate_guard (by rfl) ?_; dsimp only)); refine Kd.R_lit (Kd.int .i64) _ 3 ?hg (N := 8) ?hd (xs := ([] : List Int)) (inner := []) (ok := fun _ => True) (okp := fun _ => True) ?hr ?hp (fun _ hk => hk) trivial (Below.refl _ _) (Nat.le_refl _) (by simp) ?_; (case hd => rfl); (case hg => rfl); (case hr => first | (go_simp; done) | (go_simp; rfl)); (case hp => exact (Reps.none _ _)); intro v228 w23 ho24 hb hg_ hnew_; clear hg_ hnew_; (first | rw [← Ny227.out] at ho24 | (simp only [Int.reduceToNat] at ho24; rw [← Ny227.out] at ho24)); have n0_ := Aside0.mk (Kd.R_lower ho24 (below_size (hb_ HB.out))); have n1_ := Aside0.mk (below_step (hb_ HB.out) hb); clear HB; have HO229 := n0_; have HB := n1_; clear n0_ n1_; clear hb ho24) | ((with_reducible refine gate_builtin (b := .append) (xs := #[.tmp 8, .tmp 9]) rfl ?_); (try (refine gate_guard (by rfl) ?_; dsimp only)); at_builtin; refine Kd.R_append_rows (Kd.int .i64) (w0 := w) w.heap.size rfl (.tmp 8) (.tmp 9) 22 3 (.int .i64 0) 8 rfl Try.underlying22 info3 rfl (by decide) (by omega) v228 y227 l1 _ _ _ (fun _ => True) (fun _ => False) rfl rfl ?aO ?aR (fun _ _ h => h) (fun _ h => h.elim) ?aF ?aB ?aS ?aL ?_; (case aR => repeat (first | exact (Kd.C_below HR1.out HB.out) | (with_reducible refine Kd.C_alloc ?_ _) | (with_reducible refine Kd.C_drewN ?_ _) | (with_reducible refine Kd.C_drew ?_))); (case aB => exact (hb_ HB.out)); (case aF => exact (fun _ _ => trivial)); (case aO => exact (rd_ HO229.out)); (case aS => exact (below_size (hb_ HB.out))); (case aL => have := LMc3.out; omega); intro v231 w25 ho hb hg hat; rw [← Ny230.out] at ho; have n0_ := Aside0.mk (hb); have n1_ := Aside0.mk (ho); clear HB; clear HO229; have HB := n0_; have HO232 := n1_; clear n0_ n1_; clear ho hb hg hat; have p239 : 0 ≤ (0 : Int) := (by omega); have q239 : 0 < (l0.length : Int) := of_decide_eq_true as_; obtain ⟨ad239, e239, hx239_0, hx239_1⟩ := at_T69 HR0.out 0 p239 q239; cases e239; have qi239 : (0 < l0.length) = True := eq_true (by omega); (try rw [show ((0 : Int)).toNat = 0 from rfl] at hx239_0); (try rw [show 0 * 2 = 0 from rfl] at hx239_0); (try rw [Addr.add_zero'] at hx239_0); (try rw [show ((0 : Int)).toNat = 0 from rfl] at hx239_1); (try rw [show 0 * 2 = 0 from rfl] at hx239_1); (try rw [Addr.add_zero'] at hx239_1); replace hx239_0 := cl_ HB.out hx239_0; replace hx239_1 := cl_ HB.out hx239_1; replace p239 := eq_true p239; replace q239 := eq_true q239; have p246 : 0 ≤ (0 : Int) := (by omega); have q246 : 0 < (l0.length : Int) := of_decide_eq_true as_; obtain ⟨ad246, e246, hx246_0, hx246_1⟩ := at_T69 HR0.out 0 p246 q246; obtain rfl : ad239 = ad246 := (by injection e246); have qi246 : (0 < l0.length) = True := eq_true (by omega); (try rw [show ((0 : Int)).toNat = 0 from rfl] at hx246_0); (try rw [show 0 * 2 = 0 from rfl] at hx246_0); (try rw [Addr.add_zero'] at hx246_0); (try rw [show ((0 : Int)).toNat = 0 from rfl] at hx246_1); (try rw [show 0 * 2 = 0 from rfl] at hx246_1); (try rw [Addr.add_zero'] at hx246_1); replace hx246_0 := cl_ HB.out hx246_0; replace hx246_1 := cl_ HB.out hx246_1; replace p246 := eq_true p246; replace q246 := eq_true q246) | ((with_reducible refine gate_dst (N := 30) rfl ?_); (try (refine gate_guard (by rfl) ?_; dsimp only)); refine Kd.R_lit k69 _ 69 ?hg (N := 30) ?hd (xs := ([] : List (S69))) (inner := []) (ok := fun _ => True) (okp := fun _ => True) ?hr ?hp (fun _ hk => hk) trivial (Below.refl _ _) (Nat.le_refl _) (by simp) ?_; (case hd => rfl); (case hg => rfl); (case hr => first | (go_simp; done) | (go_simp; rfl)); (case hp => exact (Reps.none _ _)); intro v248 w26 ho27 hb hg_ hnew_; clear hg_ hnew_; (first | rw [← Ny247.out] at ho27 | (simp only [Int.reduceToNat] at ho27; rw [← Ny247.out] at ho27)); have n0_ := Aside0.mk (Kd.R_below (rd_ HO232.out) hb); have n1_ := Aside0.mk (Kd.R_lower ho27 (below_size (hb_ HB.out))); have n2_ := Aside0.mk (below_step (hb_ HB.out) hb); clear HO232; clear HB; have HO232 := n0_; have HO249 := n1_; have HB := n2_; clear n0_ n1_ n2_; clear hb ho27) | ((with_reducible refine gate_builtin (b := .append) (xs := #[.tmp 30, .tmp 31]) rfl ?_); (try (refine gate_guard (by rfl) ?_; dsimp only)); at_builtin; refine Kd.R_append_rows k69 (w0 := w) w.heap.size rfl (.tmp 30) (.tmp 31) 37 69 (.agg #[(.int .i64 0), (.int .i64 0)]) 16 rfl Try.underlying37 info69 rfl (by decide) (by omega) v248 y247 l0 _ _ _ (fun _ => True) (fun _ => False) rfl rfl ?aO ?aR (fun _ _ h => h) (fun _ h => h.elim) ?aF ?aB ?aS ?aL ?_; (case aR => repeat (first | exact (Kd.C_below HR0.out HB.out) | (with_reducible refine Kd.C_alloc ?_ _) | (with_reducible refine Kd.C_drewN ?_ _) | (with_reducible refine Kd.C_drew ?_))); (case aB => exact (hb_ HB.out)); (case aF => exact (fun _ _ => trivial)); (case aO => exact (rd_ HO249.out)); (case aS => exact (below_size (hb_ HB.out))); (case aL => have := LMc22.out; omega); intro v251 w28 ho hb hg hat; rw [← Ny250.out] at ho; have n0_ := Aside0.mk (Kd.R_over' (rd_ HO232.out) (Kd.R_typed (rd_ HO249.out)) (by decide) hg); have n1_ := Aside0.mk (hb); have n2_ := Aside0.mk (ho); clear HO232; clear HB; clear HO249; have HO232 := n0_; have HB := n1_; have HO252 := n2_; clear n0_ n1_ n2_; clear ho hb hg hat))
  go_ret3
  exact ⟨_, _, by first | rfl | (simp [errW_none, errW_some] <;> rfl) | (simp [*, errW_none, errW_some] <;> rfl), rd_ HO252.out, rd_ HO232.out, hb_ HB.out⟩
 rw [if_neg c21] at H
 have c21b0 : decide ((l1.length : Int) ≤ ((rd_T69 l0 0).f0)) = false := decide_eq_false c21
 clear c21
 by_cases c29 : 0 ≤ ((rd_T69 l0 0).f0)
 rotate_left
 ·rw [if_neg c29] at H
  exact absurd H (by simp)
 rw [if_pos c29] at H
 have c29b0 : decide (0 ≤ ((rd_T69 l0 0).f0)) = true := decide_eq_true c29
 clear c29
 by_cases c30 : ((rd_T69 l0 0).f0) < (y230.length : Int)
 rotate_left
 ·rw [if_neg c30] at H
  exact absurd H (by simp)
 rw [if_pos c30] at H
 have c30b0 : decide (((rd_T69 l0 0).f0) < (y230.length : Int)) = true := decide_eq_true c30
 clear c30
 obtain ⟨y255, hy255⟩ : ∃ y_ : List Int, y_ = (y230.set (((rd_T69 l0 0).f0) : Int).toNat ((rd_T69 l0 0).f1)) := ⟨_, rfl⟩
 replace H : ((some (([] : List (S69)) : List (S69))).bind fun y256 => (if 1 ≤ (l0.length : Int) then ((some (l0.drop 1 : List (S69))).bind fun y259 => (if y256.length + y259.length < 8796093022208 then (some ((y256 ++ y259), y255, true)) else (none))) else (none))) = some (r1, r2, r3) := by first | (rw [hy255]; with_reducible exact H) | (have H2_ := (Option.bind_some _ _).symm.trans H; rw [hy255]; with_reducible exact H2_) | (have H2_ := (Option.bind_some _ _).symm.trans H; with_reducible exact H2_) | with_reducible exact H | (rw [hy255]; exact H) | exact H
 have Ny255 := Aside0.mk hy255
 clear hy255
 obtain ⟨y256, hy256⟩ : ∃ y_ : List (S69), y_ = (([] : List (S69))) := ⟨_, rfl⟩
 replace H : (if 1 ≤ (l0.length : Int) then ((some (l0.drop 1 : List (S69))).bind fun y259 => (if y256.length + y259.length < 8796093022208 then (some ((y256 ++ y259), y255, true)) else (none))) else (none)) = some (r1, r2, r3) := by first | (rw [hy256]; with_reducible exact H) | (have H2_ := (Option.bind_some _ _).symm.trans H; rw [hy256]; with_reducible exact H2_) | (have H2_ := (Option.bind_some _ _).symm.trans H; with_reducible exact H2_) | with_reducible exact H | (rw [hy256]; exact H) | exact H
 have Ny256 := Aside0.mk hy256
 clear hy256
 by_cases c32 : 1 ≤ (l0.length : Int)
 rotate_left
 ·rw [if_neg c32] at H
  exact absurd H (by simp)
 rw [if_pos c32] at H
 have c32b0 := eq_true c32
 have c32b1 : decide (1 ≤ (l0.length : Int)) = true := decide_eq_true c32
 clear c32
 obtain ⟨y259, hy259⟩ : ∃ y_ : List (S69), y_ = (l0.drop 1) := ⟨_, rfl⟩
 replace H : (if y256.length + y259.length < 8796093022208 then (some ((y256 ++ y259), y255, true)) else (none)) = some (r1, r2, r3) := by first | (rw [hy259]; with_reducible exact H) | (have H2_ := (Option.bind_some _ _).symm.trans H; rw [hy259]; with_reducible exact H2_) | (have H2_ := (Option.bind_some _ _).symm.trans H; with_reducible exact H2_) | with_reducible exact H | (rw [hy259]; exact H) | exact H
 have Ny259 := Aside0.mk hy259
 clear hy259
 by_cases c33 : y256.length + y259.length < 8796093022208
 rotate_left
 ·rw [if_neg c33] at H
  exact absurd H (by simp)
 rw [if_pos c33] at H
 have LMc33 := Aside0.mk c33
 clear c33
 obtain ⟨y263, hy263⟩ : ∃ y_ : List (S69), y_ = (y256 ++ y259) := ⟨_, rfl⟩
 replace H : (some (y263, y255, true)) = some (r1, r2, r3) := by first | (rw [hy263]; with_reducible exact H) | (have H2_ := (Option.bind_some _ _).symm.trans H; rw [hy263]; with_reducible exact H2_) | (have H2_ := (Option.bind_some _ _).symm.trans H; with_reducible exact H2_) | with_reducible exact H | (rw [hy263]; exact H) | exact H
 have Ny263 := Aside0.mk hy263
 clear hy263
 simp only [Option.some.injEq, Prod.mk.injEq] at H
 obtain ⟨rfl, rfl, rfl⟩ := H
 go_enter Try.func26, Try.ntmps26
 try go_wp2_with (first | ((with_reducible refine gate_dst (N := 8) rfl ?_); (try (refine gate_guard (by rfl) ?_; dsimp only)); refine Kd.R_lit (Kd.int .i64) _ 3 ?hg (N := 8) ?hd (xs := ([] : List Int)) (inner := []) (ok := fun _ => True) (okp := fun _ => True) ?hr ?hp (fun _ hk => hk) trivial (Below.refl _ _) (Nat.le_refl _) (by simp) ?_; (case hd => rfl); (case hg => rfl); (case hr => first | (go_simp; done) | (go_simp; rfl)); (case hp => exact (Reps.none _ _)); intro v228 w34 ho35 hb hg_ hnew_; clear hg_ hnew_; (first | rw [← Ny227.out] at ho35 | (simp only [Int.reduceToNat] at ho35; rw [← Ny227.out] at ho35)); have n0_ := Aside0.mk (Kd.R_lower ho35 (below_size (hb_ HB.out))); have n1_ := Aside0.mk (below_step (hb_ HB.out) hb); clear HB; have HO229 := n0_; have HB := n1_; clear n0_ n1_; clear hb ho35) | ((with_reducible refine gate_builtin (b := .append) (xs := #[.tmp 8, .tmp 9]) rfl ?_); (try (refine gate_guard (by rfl) ?_; dsimp only)); at_builtin; refine Kd.R_append_rows (Kd.int .i64) (w0 := w) w.heap.size rfl (.tmp 8) (.tmp 9) 22 3 (.int .i64 0) 8 rfl Try.underlying22 info3 rfl (by decide) (by omega) v228 y227 l1 _ _ _ (fun _ => True) (fun _ => False) rfl rfl ?aO ?aR (fun _ _ h => h) (fun _ h => h.elim) ?aF ?aB ?aS ?aL ?_; (case aR => repeat (first | exact (Kd.C_below HR1.out HB.out) | (with_reducible refine Kd.C_alloc ?_ _) | (with_reducible refine Kd.C_drewN ?_ _) | (with_reducible refine Kd.C_drew ?_))); (case aB => exact (hb_ HB.out)); (case aF => exact (fun _ _ => trivial)); (case aO => exact (rd_ HO229.out)); (case aS => exact (below_size (hb_ HB.out))); (case aL => have := LMc3.out; omega); intro v231 w36 ho hb hg hat; rw [← Ny230.out] at ho; have n0_ := Aside0.mk (hb); have n1_ := Aside0.mk (ho); clear HB; clear HO229; have HB := n0_; have HO232 := n1_; clear n0_ n1_; clear ho hb hg hat; have p239 : 0 ≤ (0 : Int) := (by omega); have q239 : 0 < (l0.length : Int) := of_decide_eq_true as_; obtain ⟨ad239, e239, hx239_0, hx239_1⟩ := at_T69 HR0.out 0 p239 q239; cases e239; have qi239 : (0 < l0.length) = True := eq_true (by omega); (try rw [show ((0 : Int)).toNat = 0 from rfl] at hx239_0); (try rw [show 0 * 2 = 0 from rfl] at hx239_0); (try rw [Addr.add_zero'] at hx239_0); (try rw [show ((0 : Int)).toNat = 0 from rfl] at hx239_1); (try rw [show 0 * 2 = 0 from rfl] at hx239_1); (try rw [Addr.add_zero'] at hx239_1); replace hx239_0 := cl_ HB.out hx239_0; replace hx239_1 := cl_ HB.out hx239_1; replace p239 := eq_true p239; replace q239 := eq_true q239; have p246 : 0 ≤ (0 : Int) := (by omega); have q246 : 0 < (l0.length : Int) := of_decide_eq_true as_; obtain ⟨ad246, e246, hx246_0, hx246_1⟩ := at_T69 HR0.out 0 p246 q246; obtain rfl : ad239 = ad246 := (by injection e246); have qi246 : (0 < l0.length) = True := eq_true (by omega); (try rw [show ((0 : Int)).toNat = 0 from rfl] at hx246_0); (try rw [show 0 * 2 = 0 from rfl] at hx246_0); (try rw [Addr.add_zero'] at hx246_0); (try rw [show ((0 : Int)).toNat = 0 from rfl] at hx246_1); (try rw [show 0 * 2 = 0 from rfl] at hx246_1); (try rw [Addr.add_zero'] at hx246_1); replace hx246_0 := cl_ HB.out hx246_0; replace hx246_1 := cl_ HB.out hx246_1; replace p246 := eq_true p246; replace q246 := eq_true q246))
 have n0_ := Aside0.mk (Kd.R_drew HO232.out)
 have n1_ := Aside0.mk (below_drew1 HB.out)
 clear HO232
 clear HB
 have HO232 := n0_
 have HB := n1_
 clear n0_ n1_
 have p253 : 0 ≤ (0 : Int) := (by omega)
 have q253 : 0 < (l0.length : Int) := of_decide_eq_true as_
 obtain ⟨ad253, e253, hx253_0, hx253_1⟩ := at_T69 HR0.out 0 p253 q253
 have hw253_1 := hx253_1
 (try rw [show ((0 : Int)).toNat = 0 from rfl] at hw253_1)
 (try rw [show 0 * 2 = 0 from rfl] at hw253_1)
 (try rw [Addr.add_zero'] at hw253_1)
 have hw253_0 := hx253_0
 (try rw [show ((0 : Int)).toNat = 0 from rfl] at hw253_0)
 (try rw [show 0 * 2 = 0 from rfl] at hw253_0)
 (try rw [Addr.add_zero'] at hw253_0)
 obtain rfl : ad239 = ad253 := (by injection e253)
 have qi253 : (0 < l0.length) = True := eq_true (by omega)
 (try rw [show ((0 : Int)).toNat = 0 from rfl] at hx253_0)
 (try rw [show 0 * 2 = 0 from rfl] at hx253_0)
 (try rw [Addr.add_zero'] at hx253_0)
 (try rw [show ((0 : Int)).toNat = 0 from rfl] at hx253_1)
 (try rw [show 0 * 2 = 0 from rfl] at hx253_1)
 (try rw [Addr.add_zero'] at hx253_1)
 replace hx253_0 := cl_ HB.out hx253_0
 replace hx253_1 := cl_ HB.out hx253_1
 replace p253 := eq_true p253
 replace q253 := eq_true q253
 have p254 : 0 ≤ (0 : Int) := (by omega)
 have q254 : 0 < (l0.length : Int) := of_decide_eq_true as_
 obtain ⟨ad254, e254, hx254_0, hx254_1⟩ := at_T69 HR0.out 0 p254 q254
 have hw254_1 := hx254_1
 (try rw [show ((0 : Int)).toNat = 0 from rfl] at hw254_1)
 (try rw [show 0 * 2 = 0 from rfl] at hw254_1)
 (try rw [Addr.add_zero'] at hw254_1)
 have hw254_0 := hx254_0
 (try rw [show ((0 : Int)).toNat = 0 from rfl] at hw254_0)
 (try rw [show 0 * 2 = 0 from rfl] at hw254_0)
 (try rw [Addr.add_zero'] at hw254_0)
 obtain rfl : ad239 = ad254 := (by injection e254)
 have qi254 : (0 < l0.length) = True := eq_true (by omega)
 (try rw [show ((0 : Int)).toNat = 0 from rfl] at hx254_0)
 (try rw [show 0 * 2 = 0 from rfl] at hx254_0)
 (try rw [Addr.add_zero'] at hx254_0)
 (try rw [show ((0 : Int)).toNat = 0 from rfl] at hx254_1)
 (try rw [show 0 * 2 = 0 from rfl] at hx254_1)
 (try rw [Addr.add_zero'] at hx254_1)
 replace hx254_0 := cl_ HB.out hx254_0
 replace hx254_1 := cl_ HB.out hx254_1
 replace p254 := eq_true p254
 replace q254 := eq_true q254
 have p31 : 0 ≤ (((rd_T69 l0 0).f0) : Int) := of_decide_eq_true as_
 have q31 : (((rd_T69 l0 0).f0) : Int) < ((y230.length : Int) : Int) := of_decide_eq_true as_
 obtain ⟨go31, co31, eo31, gb31, gl31, cl31, HG31⟩ := Kd.R_form HO232.out (by omega)
 (first | cases eo31 | (injection eo31 with ea_ en_ ec_; (first | subst ea_ | (injection ea_ with ea_; subst ea_)); subst ec_; clear en_))
 have GB31 := Aside0.mk gb31
 have GG31 := Aside0.mk HG31
 clear gb31 gl31 HG31
 obtain ⟨hx31_0, hf31_0⟩ := Kd.R_celln 0 HO232.out (((rd_T69 l0 0).f0) : Int) p31 q31
 replace p31 := eq_true p31
 replace q31 := eq_true q31
 have HP38 := Kd.R_putn HO232.out (((rd_T69 l0 0).f0) : Int) ((rd_T69 l0 0).f1)
 rw [← Ny255.out] at HP38
 have HQ38 := Aside0.mk HP38
 clear HP38
 refine start_ (n := 11) (S := fun w' => w'.cell? ad239 = some (.int .i64 ((rd_T69 l0 0).f0)) ∧ w'.cell? ⟨ad239.block, ad239.off + 1, none⟩ = some (.int .i64 ((rd_T69 l0 0).f1)) ∧ w'.cell? ad239 = some (.int .i64 ((rd_T69 l0 0).f0)) ∧ w'.cell? ⟨ad239.block, ad239.off + 1, none⟩ = some (.int .i64 ((rd_T69 l0 0).f1))) (ds := [10]) #[false, false, false, false, false, false, false, false, false, false, false] (by kernel_rfl) rfl rfl ⟨((HB.out.cell (World.block_lt_of_cell? w _ hw253_0)).trans hw253_0), ((HB.out.cell (World.block_lt_of_cell? w _ hw253_1)).trans hw253_1), ((HB.out.cell (World.block_lt_of_cell? w _ hw254_0)).trans hw254_0), ((HB.out.cell (World.block_lt_of_cell? w _ hw254_1)).trans hw254_1)⟩ (fun hHeld => ?_); refine with_tabW fencepostref09_Drain.tab4 fencepostref09_Drain.bits4 (fun HT_ HW_ => ?_)
 generalize w36.drew = w37 at HO232 HB GG31 HQ38 hf31_0 hx253_0 hx253_1 hx254_0 hx254_1 hx31_0 hHeld ⊢
 refine pure_ (i := 0) (N := some 34) (v := ?_) (a' := ?_) #[true, false, false, false, false, false, false, false, false, false, false] rfl rfl (any_of HT_.out (by kernel_rfl)) (fun _ _ _ h => h) (Or.inl ⟨by rfl, ?_⟩) ?_ ?_; rotate_left; intro w'; go_simp; with_reducible rfl; rotate_left; simp only [Act.put, List.setIfInBounds_toArray, List.set_cons_zero, List.set_cons_succ, i64_w, i32_w]; rfl
 refine pure_ (i := 1) (N := some 35) (v := ?_) (a' := ?_) #[true, true, false, false, false, false, false, false, false, false, false] rfl rfl (any_of HT_.out (by kernel_rfl)) (fun _ _ _ h => h) (Or.inl ⟨by rfl, ?_⟩) ?_ ?_; rotate_left; intro w'; go_simp; with_reducible rfl; rotate_left; simp only [Act.put, List.setIfInBounds_toArray, List.set_cons_zero, List.set_cons_succ, i64_w, i32_w]; rfl
 refine pure_ (i := 2) (N := some 36) (v := ?_) (a' := ?_) #[true, true, true, false, false, false, false, false, false, false, false] rfl rfl (any_of HT_.out (by kernel_rfl)) (fun _ _ _ h => h) (Or.inl ⟨by rfl, ?_⟩) ?_ ?_; rotate_left; intro w'; go_simp; with_reducible rfl; rotate_left; simp only [Act.put, List.setIfInBounds_toArray, List.set_cons_zero, List.set_cons_succ, i64_w, i32_w]; rfl
 refine pure_ (i := 3) (N := some 37) (v := ?_) (a' := ?_) #[true, true, true, true, false, false, false, false, false, false, false] rfl rfl (any_of HT_.out (by kernel_rfl)) (fun _ _ _ h => h) (Or.inl ⟨by rfl, ?_⟩) ?_ ?_; rotate_left; intro w'; go_simp; with_reducible rfl; rotate_left; simp only [Act.put, List.setIfInBounds_toArray, List.set_cons_zero, List.set_cons_succ, i64_w, i32_w]; rfl
 refine pure_ (i := 5) (N := some 39) (v := ?_) (a' := ?_) #[true, true, true, true, false, true, false, false, false, false, false] rfl rfl (any_of HT_.out (by kernel_rfl)) (fun _ _ _ h => h) (Or.inl ⟨by rfl, ?_⟩) ?_ ?_; rotate_left; intro w'; go_simp; with_reducible rfl; rotate_left; simp only [Act.put, List.setIfInBounds_toArray, List.set_cons_zero, List.set_cons_succ, i64_w, i32_w]; rfl
 refine pure_ (i := 6) (N := some 40) (v := ?_) (a' := ?_) #[true, true, true, true, false, true, true, false, false, false, false] rfl rfl (any_of HT_.out (by kernel_rfl)) (fun _ _ _ h => h) (Or.inl ⟨by rfl, ?_⟩) ?_ ?_; rotate_left; intro w'; go_simp; with_reducible rfl; rotate_left; simp only [Act.put, List.setIfInBounds_toArray, List.set_cons_zero, List.set_cons_succ, i64_w, i32_w]; rfl
 refine pure_ (i := 7) (N := some 41) (v := ?_) (a' := ?_) #[true, true, true, true, false, true, true, true, false, false, false] rfl rfl (any_of HT_.out (by kernel_rfl)) (fun _ _ _ h => h) (Or.inl ⟨by rfl, ?_⟩) ?_ ?_; rotate_left; intro w'; go_simp; with_reducible rfl; rotate_left; simp only [Act.put, List.setIfInBounds_toArray, List.set_cons_zero, List.set_cons_succ, i64_w, i32_w]; rfl
 refine take_ (i := 4) (N := some 38) (v := ?_) (a' := ?_) #[true, true, true, true, true, true, true, true, false, false, false] rfl rfl (take_ofW HT_.out HW_.out (by kernel_rfl)) (fun _ _ _ h => h) (Or.inl ⟨by rfl, ?_⟩) hHeld ?_ ?_; rotate_left; rintro w' ⟨s0, s1, s2, s3⟩; go_simp; with_reducible rfl; rotate_left; simp only [Act.put, List.setIfInBounds_toArray, List.set_cons_zero, List.set_cons_succ, i64_w, i32_w]; rfl
 refine take_ (i := 8) (N := some 42) (v := ?_) (a' := ?_) #[true, true, true, true, true, true, true, true, true, false, false] rfl rfl (take_ofW HT_.out HW_.out (by kernel_rfl)) (fun _ _ _ h => h) (Or.inl ⟨by rfl, ?_⟩) hHeld ?_ ?_; rotate_left; rintro w' ⟨s0, s1, s2, s3⟩; go_simp; with_reducible rfl; rotate_left; simp only [Act.put, List.setIfInBounds_toArray, List.set_cons_zero, List.set_cons_succ, i64_w, i32_w]; rfl
 refine pure_ (i := 9) (N := some 43) (v := ?_) (a' := ?_) #[true, true, true, true, true, true, true, true, true, true, false] rfl rfl (any_of HT_.out (by kernel_rfl)) (fun _ _ _ h => h) (Or.inl ⟨by rfl, ?_⟩) ?_ ?_; rotate_left; intro w'; go_simp; with_reducible rfl; rotate_left; simp only [Act.put, List.setIfInBounds_toArray, List.set_cons_zero, List.set_cons_succ, i64_w, i32_w]; rfl
 refine last_ (i := 10) (N := none) #[true, true, true, true, true, true, true, true, true, true, true] rfl rfl (one_of HT_.out (by kernel_rfl)) (by decide) (fun K hK => ?_)
 refine skip_ (w1 := ?_) (by rfl) rfl ?_ ?_
 rotate_left
 ·go_simp
  rfl
 refine hK.out _ _ ?_
 clear hK K
 refine done_ (done_of HT_.out (by kernel_rfl)) ?_
 try go_wp2_with (first | ((with_reducible refine gate_dst (N := 44) rfl ?_); (try (refine gate_guard (by rfl) ?_; dsimp only)); refine Kd.R_lit k69 _ 69 ?hg (N := 44) ?hd (xs := ([] : List (S69))) (inner := []) (ok := fun _ => True) (okp := fun _ => True) ?hr ?hp (fun _ hk => hk) trivial (Below.refl _ _) (Nat.le_refl _) (by simp) ?_; (case hd => rfl); (case hg => rfl); (case hr => first | (go_simp; done) | (go_simp; rfl)); (case hp => exact (Reps.none _ _)); intro v257 w39 ho40 hb hg_ hnew_; clear hg_ hnew_; (first | rw [← Ny256.out] at ho40 | (simp only [Int.reduceToNat] at ho40; rw [← Ny256.out] at ho40)); have n0_ := Aside0.mk (Kd.R_below (rd_ HQ38.out) hb); have n1_ := Aside0.mk (Kd.R_lower ho40 (below_size (hb_ HB.out))); have n2_ := Aside0.mk (below_step (hb_ HB.out) hb); clear HO232; clear HB; have HO232 := n0_; have HO258 := n1_; have HB := n2_; clear n0_ n1_ n2_; clear hb ho40; have q41 : (1 : Int) ≤ ((l0.length : Int) : Int) := of_decide_eq_true as_; obtain ⟨i041, hi041, _, hsz41, _⟩ := info_parts info69; have hroom41 : l0.length ≤ c0 := HC0.out; have hC41 : Kd.C k69 _ (some ad239) l0.length l0 := HR0.out; have hcut41 := cut_from (P := Try.prog) 37 69 .i64 Try.underlying37 hi041 2 hsz41 (some ad239) l0.length c0 1 (by omega) q41; have hr41 := Kd.C_drop (m := (1 : Int).toNat) (c := c0) hC41 (by omega) hroom41; obtain ⟨A41, hA41⟩ : ∃ A1, A1 = (if c0 = (1 : Int).toNat then (some ad239) else ((some ad239) : Option Addr).map (·.add ((1 : Int).toNat * 2))) := ⟨_, rfl⟩; obtain ⟨c41, hc41⟩ : ∃ c1, c1 = c0 - (1 : Int).toNat := ⟨_, rfl⟩; have hy41 : y259.length = l0.length - (1 : Int).toNat := (by rw [Ny259.out, List.length_drop] <;> omega); rw [show (l0).drop (1 : Int).toNat = y259 from Ny259.out.symm] at hr41; replace hr41 : Kd.C k69 _ A41 y259.length y259 := (by rw [hA41]; exact hr41); rw [← hy41, ← hA41, ← hc41] at hcut41; have HR262 := Aside0.mk hr41; have HC262 := Aside0.mk (show y259.length ≤ c41 from by rw [hy41, hc41]; exact Nat.sub_le_sub_right hroom41 _); clear hr41 hC41 hroom41 hi041 hsz41 hc41; have KY41 := Aside0.mk hy41; have KA41 := Aside0.mk hA41; clear hy41 hA41; replace q41 := eq_true q41) | ((with_reducible refine gate_builtin (b := .append) (xs := #[.tmp 44, .tmp 46]) rfl ?_); (try (refine gate_guard (by rfl) ?_; dsimp only)); at_builtin; refine Kd.R_append_rows k69 (w0 := w) w.heap.size rfl (.tmp 44) (.tmp 46) 37 69 (.agg #[(.int .i64 0), (.int .i64 0)]) 16 rfl Try.underlying37 info69 rfl (by decide) (by omega) v257 y256 y259 _ _ _ (fun _ => True) (fun _ => False) rfl rfl ?aO ?aR (fun _ _ h => h) (fun _ h => h.elim) ?aF ?aB ?aS ?aL ?_; (case aR => repeat (first | exact (Kd.C_below HR262.out HB.out) | (with_reducible refine Kd.C_alloc ?_ _) | (with_reducible refine Kd.C_drewN ?_ _) | (with_reducible refine Kd.C_drew ?_))); (case aB => exact (hb_ HB.out)); (case aF => exact (fun _ _ => trivial)); (case aO => exact (rd_ HO258.out)); (case aS => exact (below_size (hb_ HB.out))); (case aL => have := LMc33.out; omega); intro v264 w42 ho hb hg hat; rw [← Ny263.out] at ho; have n0_ := Aside0.mk (Kd.R_over' (rd_ HO232.out) (Kd.R_typed (rd_ HO258.out)) (by decide) hg); have n1_ := Aside0.mk (hb); have n2_ := Aside0.mk (ho); clear HO232; clear HB; clear HO258; have HO232 := n0_; have HB := n1_; have HO265 := n2_; clear n0_ n1_ n2_; clear ho hb hg hat))
 go_ret3
 exact ⟨_, _, by first | rfl | (simp [errW_none, errW_some] <;> rfl) | (simp [*, errW_none, errW_some] <;> rfl), rd_ HO265.out, rd_ HO232.out, hb_ HB.out⟩
def fencepostref09_Last.l0 : Nat → List (S69) → Int → Int → Option (Int × Bool)
 | 0, _, _, _ => none
 | k + 1, x0, x1, x6 => if x6 ≥ 0 then (if 0 ≤ x6 then (if x6 < (x0.length : Int) then (if ((rd_T69 x0 x6).f0) = x1 then (some ((rd_T69 x0 x6).f1, true)) else (fencepostref09_Last.l0 k x0 x1 (wrap64 (x6 - 1)))) else (none)) else (none)) else (some (0, false))
def fencepostref09_Last.f (k : Nat) (l0 : List (S69)) (a1 : Int) : Option (Int × Bool) := fencepostref09_Last.l0 k l0 a1 (wrap64 ((l0.length : Int) - 1))
set_option maxHeartbeats 8000000 in
set_option maxRecDepth 100000 in
theorem fencepostref09_Last.calls (k : Nat) (A0 : Option Addr) (c0 : Nat) (l0 : List (S69)) (a1 : Int) (r1 : Int) (r2 : Bool) (w : World) (hr0 : Kd.C k69 w A0 l0.length l0) (hc0 : l0.length ≤ c0) (h : fencepostref09_Last.f k l0 a1 = some (r1, r2)) :
 Calls Try.prog 31 #[.slice A0 l0.length c0, .int .i64 a1] w fun e w' => e = .returned (.tuple #[.int .i64 r1, .bool r2]) ∧ Drawn0 w w' := by
 have HR0 := Aside0.mk hr0
 have HC0 := Aside0.mk hc0
 clear hr0 hc0
 have H : (fencepostref09_Last.l0 k l0 a1 (wrap64 ((l0.length : Int) - 1))) = some (r1, r2) := h
 clear h
 have H' := Aside0.mk H
 clear H
 go_enter Try.func31, Try.ntmps31
 go_wp2
 go_loopg [6] k (fun kq v6 w' => ∃ (x6_1 : Int), v6 = .int .i64 x6_1 ∧ Aside0 (fencepostref09_Last.l0 kq l0 a1 x6_1 = some (r1, r2)) ∧ Aside0 (kq ≤ k) ∧ Drawn0 w w')
 case atStart => exact ⟨(wrap64 ((l0.length : Int) - 1)), rf_, H', ⟨Nat.le_refl _⟩, by repeat (first | exact Drawn0.refl _ | apply Drawn0.step)⟩
 clear H'
 obtain ⟨x6_1, rfl, HA, HK1, ⟨m1, rfl⟩⟩ := hrel
 cases gk with
 | zero => exact absurd HA.out (by simp [fencepostref09_Last.l0])
 | succ k1 => ?_
 have H := HA.out
 clear HA
 simp only [fencepostref09_Last.l0] at H
 by_cases c3 : x6_1 ≥ 0
 rotate_left
 ·rw [if_neg c3] at H
  have c3b0 : decide (0 ≤ x6_1) = false := decide_eq_false c3
  clear c3
  simp only [Option.some.injEq, Prod.mk.injEq] at H
  obtain ⟨rfl, rfl⟩ := H
  go_wp2
  go_ret2
  exact ⟨by first | rfl | (simp; done) | (simp [*]; done), by repeat (first | exact Drawn0.refl _ | apply Drawn0.step)⟩
 rw [if_pos c3] at H
 have c3b0 : decide (0 ≤ x6_1) = true := decide_eq_true c3
 clear c3
 by_cases c4 : 0 ≤ x6_1
 rotate_left
 ·rw [if_neg c4] at H
  exact absurd H (by simp)
 rw [if_pos c4] at H
 have c4b0 : decide (0 ≤ x6_1) = true := decide_eq_true c4
 clear c4
 by_cases c5 : x6_1 < (l0.length : Int)
 rotate_left
 ·rw [if_neg c5] at H
  exact absurd H (by simp)
 rw [if_pos c5] at H
 have c5b0 : decide (x6_1 < (l0.length : Int)) = true := decide_eq_true c5
 clear c5
 by_cases c6 : ((rd_T69 l0 x6_1).f0) = a1
 rotate_left
 ·rw [if_neg c6] at H
  have c6b0 : (((rd_T69 l0 x6_1).f0) == a1) = false := beq_eq_false_iff_ne.mpr c6
  have c6b1 : (((rd_T69 l0 x6_1).f0) != a1) = true := bne_iff_ne.mpr c6
  have H' := Aside0.mk H
  clear H
  have p266 : 0 ≤ (x6_1 : Int) := of_decide_eq_true as_
  have q266 : x6_1 < (l0.length : Int) := of_decide_eq_true as_
  obtain ⟨ad266, e266, hx266_0, hx266_1⟩ := at_T69 HR0.out x6_1 p266 q266
  cases e266
  replace p266 := eq_true p266
  replace q266 := eq_true q266
  go_wp2
  go_roundg k1
  case measure => have := HK1.out; omega
  case rel => exact ⟨(wrap64 (x6_1 - 1)), rf_, H', ⟨by have := HK1.out; omega⟩, by repeat (first | exact Drawn0.refl _ | apply Drawn0.step)⟩
 rw [if_pos c6] at H
 have c6b0 : (((rd_T69 l0 x6_1).f0) == a1) = true := beq_iff_eq.mpr c6
 have c6b1 : (((rd_T69 l0 x6_1).f0) != a1) = false := bne_eq_false_iff_eq.mpr c6
 clear c6
 simp only [Option.some.injEq, Prod.mk.injEq] at H
 obtain ⟨rfl, rfl⟩ := H
 have p266 : 0 ≤ (x6_1 : Int) := of_decide_eq_true as_
 have q266 : x6_1 < (l0.length : Int) := of_decide_eq_true as_
 obtain ⟨ad266, e266, hx266_0, hx266_1⟩ := at_T69 HR0.out x6_1 p266 q266
 cases e266
 replace p266 := eq_true p266
 replace q266 := eq_true q266
 have p267 : 0 ≤ (x6_1 : Int) := of_decide_eq_true as_
 have q267 : x6_1 < (l0.length : Int) := of_decide_eq_true as_
 obtain ⟨ad267, e267, hx267_0, hx267_1⟩ := at_T69 HR0.out x6_1 p267 q267
 obtain rfl : ad266 = ad267 := (by injection e267)
 replace p267 := eq_true p267
 replace q267 := eq_true q267
 go_wp2
 go_ret2
 exact ⟨by first | rfl | (simp; done) | (simp [*]; done), by repeat (first | exact Drawn0.refl _ | apply Drawn0.step)⟩
def fencepostref09_View.f (k : Nat) (l0 : List (S69)) (l1 : List Int) (a2 : Int) : Option (Int × Bool) := (fencepostref09_Last.f k l0 a2).bind fun bt268 => (if bt268.2 = true then (some (bt268.1, true)) else (if a2 < 0 then (some (0, false)) else (if a2 ≥ (l1.length : Int) then (some (0, false)) else (if 0 ≤ a2 then (if a2 < (l1.length : Int) then (some (rd l1 a2, true)) else (none)) else (none)))))
set_option maxHeartbeats 8000000 in
set_option maxRecDepth 100000 in
theorem fencepostref09_View.calls (k : Nat) (A0 : Option Addr) (c0 : Nat) (l0 : List (S69)) (A1 : Option Addr) (c1 : Nat) (l1 : List Int) (a2 : Int) (r1 : Int) (r2 : Bool) (w : World) (hr0 : Kd.C k69 w A0 l0.length l0) (hc0 : l0.length ≤ c0) (hr1 : Kd.C (Kd.int .i64) w A1 l1.length l1) (hc1 : l1.length ≤ c1) (h : fencepostref09_View.f k l0 l1 a2 = some (r1, r2)) :
 Calls Try.prog 28 #[.slice A0 l0.length c0, .slice A1 l1.length c1, .int .i64 a2] w fun e w' => e = .returned (.tuple #[.int .i64 r1, .bool r2]) ∧ Drawn0 w w' := by
 have HR0 := Aside0.mk hr0
 have HC0 := Aside0.mk hc0
 clear hr0 hc0
 have HR1 := Aside0.mk hr1
 have HC1 := Aside0.mk hc1
 clear hr1 hc1
 have H : ((fencepostref09_Last.f k l0 a2).bind fun bt268 => (if bt268.2 = true then (some (bt268.1, true)) else (if a2 < 0 then (some (0, false)) else (if a2 ≥ (l1.length : Int) then (some (0, false)) else (if 0 ≤ a2 then (if a2 < (l1.length : Int) then (some (rd l1 a2, true)) else (none)) else (none)))))) = some (r1, r2) := h
 clear h
 replace H := Option.bind_eq_some_iff.mp H
 obtain ⟨⟨t268, t269⟩, A40, H⟩ := H
 replace H : (if t269 = true then (some (t268, true)) else (if a2 < 0 then (some (0, false)) else (if a2 ≥ (l1.length : Int) then (some (0, false)) else (if 0 ≤ a2 then (if a2 < (l1.length : Int) then (some (rd l1 a2, true)) else (none)) else (none))))) = some (r1, r2) := H
 have A4 := Aside0.mk A40
 clear A40
 by_cases c5 : t269 = true
 ·subst c5
  have H1 : (some (t268, true)) = some (r1, r2) := by rw [if_pos rfl] at H; exact H
  clear H
  have H := H1
  clear H1
  simp only [Option.some.injEq, Prod.mk.injEq] at H
  obtain ⟨rfl, rfl⟩ := H
  go_enter Try.func28, Try.ntmps28
  go_wp2_with (first | ((with_reducible refine gate_callee (f := 31) rfl ?_); refine goesL_ (some 13) rfl rfl Try.func31 (by kernel_rfl) rfl #[.slice A0 l0.length c0, .int .i64 a2] rfl ar_ ?_; (with_reducible refine (fencepostref09_Last.calls k _ _ l0 a2 t268 true _ ?side1 ?side2 A4.out).mono ?_); (case side1 => repeat (first | exact HR0.out | (with_reducible refine Kd.C_alloc ?_ _) | (with_reducible refine Kd.C_drewN ?_ _) | (with_reducible refine Kd.C_drew ?_))); (case side2 => exact HC0.out); rintro e w' ⟨rfl, ⟨nd, rfl⟩⟩; refine ⟨_, rfl, ?_⟩))
  go_ret2
  exact ⟨by first | rfl | (simp; done) | (simp [*]; done), by repeat (first | exact Drawn0.refl _ | apply Drawn0.step)⟩
 replace c5 := Bool.eq_false_iff.mpr c5
 subst c5
 have H1 : (if a2 < 0 then (some (0, false)) else (if a2 ≥ (l1.length : Int) then (some (0, false)) else (if 0 ≤ a2 then (if a2 < (l1.length : Int) then (some (rd l1 a2, true)) else (none)) else (none)))) = some (r1, r2) := by rw [if_neg (show ¬ (false = true) by decide)] at H; exact H
 clear H
 have H := H1
 clear H1
 by_cases c6 : a2 < 0
 ·rw [if_pos c6] at H
  have c6b0 : decide (a2 < 0) = true := decide_eq_true c6
  clear c6
  simp only [Option.some.injEq, Prod.mk.injEq] at H
  obtain ⟨rfl, rfl⟩ := H
  go_enter Try.func28, Try.ntmps28
  go_wp2_with (first | ((with_reducible refine gate_callee (f := 31) rfl ?_); refine goesL_ (some 13) rfl rfl Try.func31 (by kernel_rfl) rfl #[.slice A0 l0.length c0, .int .i64 a2] rfl ar_ ?_; (with_reducible refine (fencepostref09_Last.calls k _ _ l0 a2 t268 false _ ?side1 ?side2 A4.out).mono ?_); (case side1 => repeat (first | exact HR0.out | (with_reducible refine Kd.C_alloc ?_ _) | (with_reducible refine Kd.C_drewN ?_ _) | (with_reducible refine Kd.C_drew ?_))); (case side2 => exact HC0.out); rintro e w' ⟨rfl, ⟨nd, rfl⟩⟩; refine ⟨_, rfl, ?_⟩))
  go_ret2
  exact ⟨by first | rfl | (simp; done) | (simp [*]; done), by repeat (first | exact Drawn0.refl _ | apply Drawn0.step)⟩
 rw [if_neg c6] at H
 have c6b0 : decide (a2 < 0) = false := decide_eq_false c6
 clear c6
 by_cases c7 : a2 ≥ (l1.length : Int)
 ·rw [if_pos c7] at H
  have c7b0 : decide ((l1.length : Int) ≤ a2) = true := decide_eq_true c7
  clear c7
  simp only [Option.some.injEq, Prod.mk.injEq] at H
  obtain ⟨rfl, rfl⟩ := H
  go_enter Try.func28, Try.ntmps28
  go_wp2_with (first | ((with_reducible refine gate_callee (f := 31) rfl ?_); refine goesL_ (some 13) rfl rfl Try.func31 (by kernel_rfl) rfl #[.slice A0 l0.length c0, .int .i64 a2] rfl ar_ ?_; (with_reducible refine (fencepostref09_Last.calls k _ _ l0 a2 t268 false _ ?side1 ?side2 A4.out).mono ?_); (case side1 => repeat (first | exact HR0.out | (with_reducible refine Kd.C_alloc ?_ _) | (with_reducible refine Kd.C_drewN ?_ _) | (with_reducible refine Kd.C_drew ?_))); (case side2 => exact HC0.out); rintro e w' ⟨rfl, ⟨nd, rfl⟩⟩; refine ⟨_, rfl, ?_⟩))
  go_ret2
  exact ⟨by first | rfl | (simp; done) | (simp [*]; done), by repeat (first | exact Drawn0.refl _ | apply Drawn0.step)⟩
 rw [if_neg c7] at H
 have c7b0 : decide ((l1.length : Int) ≤ a2) = false := decide_eq_false c7
 clear c7
 by_cases c8 : 0 ≤ a2
 rotate_left
 ·rw [if_neg c8] at H
  exact absurd H (by simp)
 rw [if_pos c8] at H
 have c8b0 : decide (0 ≤ a2) = true := decide_eq_true c8
 clear c8
 by_cases c9 : a2 < (l1.length : Int)
 rotate_left
 ·rw [if_neg c9] at H
  exact absurd H (by simp)
 rw [if_pos c9] at H
 have c9b0 : decide (a2 < (l1.length : Int)) = true := decide_eq_true c9
 clear c9
 simp only [Option.some.injEq, Prod.mk.injEq] at H
 obtain ⟨rfl, rfl⟩ := H
 go_enter Try.func28, Try.ntmps28
 go_wp2_with (first | ((with_reducible refine gate_callee (f := 31) rfl ?_); refine goesL_ (some 13) rfl rfl Try.func31 (by kernel_rfl) rfl #[.slice A0 l0.length c0, .int .i64 a2] rfl ar_ ?_; (with_reducible refine (fencepostref09_Last.calls k _ _ l0 a2 t268 false _ ?side1 ?side2 A4.out).mono ?_); (case side1 => repeat (first | exact HR0.out | (with_reducible refine Kd.C_alloc ?_ _) | (with_reducible refine Kd.C_drewN ?_ _) | (with_reducible refine Kd.C_drew ?_))); (case side2 => exact HC0.out); rintro e w' ⟨rfl, ⟨nd, rfl⟩⟩; refine ⟨_, rfl, ?_⟩; have p270 : 0 ≤ (a2 : Int) := of_decide_eq_true as_; have q270 : a2 < (l1.length : Int) := of_decide_eq_true as_; obtain ⟨ad270, e270, hx270_0⟩ := Kd.at_int HR1.out a2 p270 q270; cases e270; replace p270 := eq_true p270; replace q270 := eq_true q270))
 go_ret2
 exact ⟨by first | rfl | (simp; done) | (simp [*]; done), by repeat (first | exact Drawn0.refl _ | apply Drawn0.step)⟩
end Go.Proofs.Yteobpfgncohloaa.Print
