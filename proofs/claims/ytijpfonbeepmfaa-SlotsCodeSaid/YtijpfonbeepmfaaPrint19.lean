-- Written by ownprint.py (this session's) with the kit's print.py: functions, contracts, rows; Lean checks it.
import Derived.Test.YtijpfonbeepmfaaPrint0
import Derived.Test.YtijpfonbeepmfaaPrint16
import Derived.Test.YtijpfonbeepmfaaPrint18
import Derived.Test.YtijpfonbeepmfaaHSq
namespace Go.Proofs.Ytijpfonbeepmfaa.Print
open Go.RowKit Go.Proofs.YtijpfonbeepmfaaW.PrintWords Go.Proofs.YtijpfonbeepmfaaW.PrintLast Go.Proofs.YtijpfonbeepmfaaW.PrintMore
attribute [local go_sem] max2_int min2_int max_two min_two max_three min_three max_four min_four   -- for this text's walks alone
set_option linter.unusedVariables false
set_option linter.unusedSimpArgs false
mutual
def fencepostref07_Code.l0 : Nat → List ByteArray → Int → ByteArray → List (S62) → List (S58) → Bool → List (S64) → List Int → Option (List Int × (List (List (S53))) × Int)
 | 0, _, _, _, _, _, _, _, _ => none
 | k + 1, x4, x6, x270000, x270001, x270002, x270003, x270004, x279000 => if x6 < (x270001.length : Int) then (if 0 ≤ x6 then ((fencepostref07_place.f k x4 ((rd_T62 x270001 x6).f0)).bind fun t280 => (if 0 ≤ t280 then (if t280 < (x279000.length : Int) then (fencepostref07_Code.l0 k x4 (wrap64 (x6 + 1)) x270000 x270001 x270002 x270003 x270004 (x279000.set (t280 : Int).toNat ((rd_T62 x270001 x6).f1))) else (none)) else (none))) else (none)) else (fencepostref07_Code.l1 k x4 0 x270000 x270001 x270002 x270003 x270004 x279000 ([] : List (List (S53))))
def fencepostref07_Code.l1 : Nat → List ByteArray → Int → ByteArray → List (S62) → List (S58) → Bool → List (S64) → List Int → List (List (S53)) → Option (List Int × (List (List (S53))) × Int)
 | 0, _, _, _, _, _, _, _, _, _ => none
 | k + 1, x4, x7, x270000, x270001, x270002, x270003, x270004, x279000, x279001 => if x7 < (x270002.length : Int) then (if 0 ≤ x7 then (fencepostref07_Code.l2 k x4 x7 ((rd_T58 x270002 x7).f0) ([] : List (S53)) 0 x270000 x270001 x270002 x270003 x270004 x279000 x279001) else (none)) else (some (x279000, x279001, 0))
def fencepostref07_Code.l2 : Nat → List ByteArray → Int → List (S60) → List (S53) → Int → ByteArray → List (S62) → List (S58) → Bool → List (S64) → List Int → List (List (S53)) → Option (List Int × (List (List (S53))) × Int)
 | 0, _, _, _, _, _, _, _, _, _, _, _, _ => none
 | k + 1, x4, x7, x8, x9, x10, x270000, x270001, x270002, x270003, x270004, x279000, x279001 => if x10 < (x8.length : Int) then (if 0 ≤ x10 then (if ((rd_T60 x8 x10).f0) = 11 then (fencepostref07_Code.l2 k x4 x7 x8 x9 (wrap64 (x10 + 1)) x270000 x270001 x270002 x270003 x270004 x279000 x279001) else ((fencepostref07_step.f k x8 x10 x4).bind fun bt285 => (if x9.length < 3518437208883 then (fencepostref07_Code.l2 k x4 x7 x8 (x9 ++ [(⟨bt285.1, bt285.2.1, bt285.2.2.1, bt285.2.2.2.1, bt285.2.2.2.2⟩ : S53)]) (wrap64 (x10 + 1)) x270000 x270001 x270002 x270003 x270004 x279000 x279001) else (none)))) else (none)) else (if x279001.length < 5864062014805 then (fencepostref07_Code.l1 k x4 (wrap64 (x7 + 1)) x270000 x270001 x270002 x270003 x270004 x279000 (x279001 ++ [x9])) else (none))
end
def fencepostref07_Code.f (k : Nat) (a0_0 : ByteArray) (l0_1 : List (S62)) (l0_2 : List (S58)) (a0_3 : Bool) (l0_4 : List (S64)) : Option (List Int × (List (List (S53))) × Int) := (fencepostref04_Right.f k a0_0 l0_1 l0_2 a0_3 l0_4).bind fun t271 => (if t271 = true then ((fencepostref04_Locs.f k a0_0 l0_1 l0_2 a0_3 l0_4).bind fun t272 => (if 0 ≤ (t272.length : Int) then (if ((t272.length : Int) : Int).toNat ≤ 35184372088832 then (fencepostref07_Code.l0 k t272 0 a0_0 l0_1 l0_2 a0_3 l0_4 (List.replicate ((t272.length : Int) : Int).toNat 0)) else (none)) else (none))) else (some (([] : List Int), ([] : List (List (S53))), 1)))
def fencepostref07_Code.T8 : Bool × List (List Nat × List Nat) := (true, [([], []), ([0], [0]), ([], []), ([], []), ([3], [3]), ([], []), ([4, 5], [4, 5]), ([6], [6]), ([7], [7]), ([2, 8], [2, 8]), ([], []), ([10], [10]), ([], []), ([11, 12], [11, 12]), ([13], [13]), ([14], [14]), ([1, 9, 0, 1, 2, 3, 4, 5, 6, 7, 8, 9, 10, 11, 12, 13, 14, 15], [1, 9]), ([16, 15, 9, 0, 1, 2, 3, 4, 5, 6, 7, 8, 9, 10, 11, 12, 13, 14, 15], [15, 16])])
def fencepostref07_Code.B8 : List Nat := [0, 1, 0, 0, 8, 0, 56, 120, 248, 508, 0, 1024, 0, 7168, 15360, 31744, 65535, 131071]
theorem fencepostref07_Code.tab8 : rtab .any (opsOf Try.f28 8) = fencepostref07_Code.T8 := by kernel_rfl
theorem fencepostref07_Code.bits8 : waitsOk fencepostref07_Code.T8.2 fencepostref07_Code.B8 = true := by kernel_rfl
set_option maxHeartbeats 8000000 in
set_option maxRecDepth 100000 in
theorem fencepostref07_Code.calls (k : Nat) (a0_0 : ByteArray) (A0_1 : Option Addr) (c0_1 : Nat) (l0_1 : List (S62)) (A0_2 : Option Addr) (c0_2 : Nat) (l0_2 : List (S58)) (a0_3 : Bool) (A0_4 : Option Addr) (c0_4 : Nat) (l0_4 : List (S64)) (r1 : List Int) (r2 : List (List (S53))) (r3 : Int) (w : World) (hr0_1 : Kd.C k62 w A0_1 l0_1.length l0_1) (hc0_1 : l0_1.length ≤ c0_1) (hr0_2 : Kd.C k58 w A0_2 l0_2.length l0_2) (hc0_2 : l0_2.length ≤ c0_2) (hr0_4 : Kd.C k64 w A0_4 l0_4.length l0_4) (hc0_4 : l0_4.length ≤ c0_4) (h : fencepostref07_Code.f k a0_0 l0_1 l0_2 a0_3 l0_4 = some (r1, r2, r3)) :
 Calls Try.prog 28 #[.agg #[.string a0_0, .slice A0_1 l0_1.length c0_1, .slice A0_2 l0_2.length c0_2, .bool a0_3, .slice A0_4 l0_4.length c0_4]] w fun e w' => ∃ v0_ v1_ : Value, e = .returned (.tuple #[.agg #[v0_, v1_], .int .i64 r3]) ∧ Kd.R (Kd.int .i64) 3 w' w.heap.size (fun _ => True) v0_ r1 ∧ Kd.S (Kd.slice 53 k53) 50 w' w.heap.size (fun _ => True) v1_ r2 ∧ Below w.heap.size w w' := by
 have hu30 := Try.underlying30
 have hu25 := Try.underlying25
 have HR0_1 := Aside0.mk hr0_1
 have HC0_1 := Aside0.mk hc0_1
 clear hr0_1 hc0_1
 have HR0_2 := Aside0.mk hr0_2
 have HC0_2 := Aside0.mk hc0_2
 clear hr0_2 hc0_2
 have HR0_4 := Aside0.mk hr0_4
 have HC0_4 := Aside0.mk hc0_4
 clear hr0_4 hc0_4
 have HB := Aside0.mk (Below.refl w.heap.size w)
 have H : ((fencepostref04_Right.f k a0_0 l0_1 l0_2 a0_3 l0_4).bind fun t271 => (if t271 = true then ((fencepostref04_Locs.f k a0_0 l0_1 l0_2 a0_3 l0_4).bind fun t272 => (if 0 ≤ (t272.length : Int) then (if ((t272.length : Int) : Int).toNat ≤ 35184372088832 then (fencepostref07_Code.l0 k t272 0 a0_0 l0_1 l0_2 a0_3 l0_4 (List.replicate ((t272.length : Int) : Int).toNat 0)) else (none)) else (none))) else (some (([] : List Int), ([] : List (List (S53))), 1)))) = some (r1, r2, r3) := h
 clear h
 replace H := Option.bind_eq_some_iff.mp H
 obtain ⟨t271, A20, H⟩ := H
 replace H : (if t271 = true then ((fencepostref04_Locs.f k a0_0 l0_1 l0_2 a0_3 l0_4).bind fun t272 => (if 0 ≤ (t272.length : Int) then (if ((t272.length : Int) : Int).toNat ≤ 35184372088832 then (fencepostref07_Code.l0 k t272 0 a0_0 l0_1 l0_2 a0_3 l0_4 (List.replicate ((t272.length : Int) : Int).toNat 0)) else (none)) else (none))) else (some (([] : List Int), ([] : List (List (S53))), 1))) = some (r1, r2, r3) := H
 have A2 := Aside0.mk A20
 clear A20
 by_cases c3 : t271 = true
 rotate_left
 ·replace c3 := Bool.eq_false_iff.mpr c3
  subst c3
  have H1 : (some (([] : List Int), ([] : List (List (S53))), 1)) = some (r1, r2, r3) := by rw [if_neg (show ¬ (false = true) by decide)] at H; exact H
  clear H
  have H := H1
  clear H1
  simp only [Option.some.injEq, Prod.mk.injEq] at H
  obtain ⟨rfl, rfl, rfl⟩ := H
  go_enter Try.func28, Try.ntmps28
  (try simp only [List.append_eq, List.cons_append, List.nil_append])
  go_wp2_with (first | ((with_reducible refine gate_dst (N := 1) rfl ?_); refine box_event ?hg (N := 1) ?hd (cs := #[.string a0_0, .slice A0_1 l0_1.length c0_1, .slice A0_2 l0_2.length c0_2, .bool a0_3, .slice A0_4 l0_4.length c0_4]) (t := 30) ?hr ?_; (case hd => rfl); (case hg => rfl); (case hr => first | (go_simp; done) | (go_simp; rfl)); intro gb269 hg w64 hbox hb; have n0_ := Aside0.mk (below_step (hb_ HB.out) hb); have n1_ := Aside0.mk (hbox); have n2_ := Aside0.mk (gs_ hg (hb_ HB.out)); have n3_ := Aside0.mk (gs_ hg (hb_ HB.out)); clear HB; have HB := n0_; have BK269 := n1_; have GW269 := n2_; have GE269 := n3_; clear n0_ n1_ n2_ n3_; clear hb hbox hg) | ((with_reducible refine gate_dst (N := 2) rfl ?_); refine box_event ?hg (N := 2) ?hd (cs := #[.slice none 0 0, .slice none 0 0]) (t := 25) ?hr ?_; (case hd => rfl); (case hg => rfl); (case hr => first | (go_simp; done) | (go_simp; rfl)); intro gb270 hg w65 hbox hb; have n0_ := Aside0.mk (bb_ BK269.out hb); have n1_ := Aside0.mk (below_step (hb_ HB.out) hb); have n2_ := Aside0.mk (hbox); have n3_ := Aside0.mk (gs_ hg (hb_ HB.out)); have n4_ := Aside0.mk (gs_ hg (hb_ HB.out)); have n5_ := Aside0.mk (gn_ hg BK269.out); have n6_ := Aside0.mk (gn_ hg BK269.out).symm; clear BK269; clear HB; have BK269 := n0_; have HB := n1_; have BK270 := n2_; have GW270 := n3_; have GE270 := n4_; have NB269_270 := n5_; have NB270_269 := n6_; clear n0_ n1_ n2_ n3_ n4_ n5_ n6_; clear hb hbox hg; have hnb66 := NB269_270.out; have hnc66 := NB270_269.out; have hcz67_0 : w65.cell? ⟨gb269, 0, none⟩ = some (.string a0_0) := (blk_cell BK269.out 0).trans rfl; have hcz67_1 : w65.cell? ⟨gb269, 1, none⟩ = some (.slice A0_1 l0_1.length c0_1) := (blk_cell BK269.out 1).trans rfl; have hcz67_2 : w65.cell? ⟨gb269, 2, none⟩ = some (.slice A0_2 l0_2.length c0_2) := (blk_cell BK269.out 2).trans rfl; have hcz67_3 : w65.cell? ⟨gb269, 3, none⟩ = some (.bool a0_3) := (blk_cell BK269.out 3).trans rfl; have hcz67_4 : w65.cell? ⟨gb269, 4, none⟩ = some (.slice A0_4 l0_4.length c0_4) := (blk_cell BK269.out 4).trans rfl; have hfz67_0 := blk_frozen BK269.out 0; have hfz67_1 := blk_frozen BK269.out 1; have hfz67_2 := blk_frozen BK269.out 2; have hfz67_3 := blk_frozen BK269.out 3; have hfz67_4 := blk_frozen BK269.out 4) | ((with_reducible refine gate_callee (f := 27) rfl ?_); refine goesL_ (some 12) rfl rfl Try.func27 (by kernel_rfl) rfl #[.agg #[.string a0_0, .slice A0_1 l0_1.length c0_1, .slice A0_2 l0_2.length c0_2, .bool a0_3, .slice A0_4 l0_4.length c0_4]] rfl ar_ ?_; (with_reducible refine (fencepostref04_Right.calls k a0_0 _ _ l0_1 _ _ l0_2 a0_3 _ _ l0_4 false _ ?side1 ?side2 ?side3 ?side4 ?side5 ?side6 A2.out).mono ?_); (case side1 => exact cd_ (Kd.C_below HR0_1.out HB.out)); (case side2 => exact HC0_1.out); (case side3 => exact cd_ (Kd.C_below HR0_2.out HB.out)); (case side4 => exact HC0_2.out); (case side5 => exact cd_ (Kd.C_below HR0_4.out HB.out)); (case side6 => exact HC0_4.out); rintro e w68 ⟨rfl, hb⟩; refine ⟨_, rfl, ?_⟩; have n0_ := Aside0.mk (bb_ BK269.out hb); have n1_ := Aside0.mk (bb_ BK270.out hb); have n2_ := Aside0.mk (below_step (hb_ HB.out) hb); clear BK269; clear BK270; clear HB; have BK269 := n0_; have BK270 := n1_; have HB := n2_; clear n0_ n1_ n2_; (try clear hb); (try clear hb2); (try clear hk); (try clear hi); have hcz69_0 : w68.cell? ⟨gb270, 0, none⟩ = some (.slice none 0 0) := (blk_cell BK270.out 0).trans rfl; have hcz69_1 : w68.cell? ⟨gb270, 1, none⟩ = some (.slice none 0 0) := (blk_cell BK270.out 1).trans rfl; have hfz69_0 := blk_frozen BK270.out 0; have hfz69_1 := blk_frozen BK270.out 1))
  refine bodyPost_ret (results_ct rfl _ _ gb270 25 #[.slice none 0 0, .slice none 0 0] (0, 0) _ rfl (by (with_reducible repeat (first | refine blk_drewN ?_ _ | refine blk_drew ?_ | refine blk_alloc ?_ _)); refine blk_put (cs := #[.slice none 0 0, .slice none 0 0]) ?_ 1 _ rfl; (with_reducible repeat (first | refine blk_drewN ?_ _ | refine blk_drew ?_ | refine blk_alloc ?_ _)); refine blk_put (cs := #[.slice none 0 0, .slice none 0 0]) ?_ 0 _ rfl; (with_reducible repeat (first | refine blk_drewN ?_ _ | refine blk_drew ?_ | refine blk_alloc ?_ _)); exact BK270.out) Try.underlying25 rfl (by kernel_rfl)) rfl ?_
  exact ⟨_, _, by first | rfl | (simp [errW_none, errW_some] <;> rfl) | (simp [*, errW_none, errW_some] <;> rfl), by first | exact Kd.R_nil _ _ _ _ _ | exact Kd.N_nil _ _ _ _ _ | exact Kd.V_nil _ _ _ _ _ | exact Kd.Q_nil _ _ _ _ _ | exact Kd.S_nil _ _ _ _ _, by first | exact Kd.S_nil _ _ _ _ _ | exact Kd.N_nil _ _ _ _ _ | exact Kd.V_nil _ _ _ _ _ | exact Kd.Q_nil _ _ _ _ _ | exact Kd.R_nil _ _ _ _ _, hb_ HB.out⟩
 subst c3
 have H1 : ((fencepostref04_Locs.f k a0_0 l0_1 l0_2 a0_3 l0_4).bind fun t272 => (if 0 ≤ (t272.length : Int) then (if ((t272.length : Int) : Int).toNat ≤ 35184372088832 then (fencepostref07_Code.l0 k t272 0 a0_0 l0_1 l0_2 a0_3 l0_4 (List.replicate ((t272.length : Int) : Int).toNat 0)) else (none)) else (none))) = some (r1, r2, r3) := by rw [if_pos rfl] at H; exact H
 clear H
 have H := H1
 clear H1
 replace H := Option.bind_eq_some_iff.mp H
 obtain ⟨t272, A40, H⟩ := H
 replace H : (if 0 ≤ (t272.length : Int) then (if ((t272.length : Int) : Int).toNat ≤ 35184372088832 then (fencepostref07_Code.l0 k t272 0 a0_0 l0_1 l0_2 a0_3 l0_4 (List.replicate ((t272.length : Int) : Int).toNat 0)) else (none)) else (none)) = some (r1, r2, r3) := H
 have A4 := Aside0.mk A40
 clear A40
 by_cases c5 : 0 ≤ (t272.length : Int)
 rotate_left
 ·rw [if_neg c5] at H
  exact absurd H (by simp)
 rw [if_pos c5] at H
 have c5b0 := eq_true c5
 have c5b1 : decide (0 ≤ (t272.length : Int)) = true := decide_eq_true c5
 clear c5
 by_cases c6 : ((t272.length : Int) : Int).toNat ≤ 35184372088832
 rotate_left
 ·rw [if_neg c6] at H
  exact absurd H (by simp)
 rw [if_pos c6] at H
 have c6b0 := eq_true c6
 have c6b1 : decide (((t272.length : Int) : Int).toNat ≤ 35184372088832) = true := decide_eq_true c6
 clear c6
 obtain ⟨y275, hy275⟩ : ∃ y_ : List Int, y_ = (List.replicate ((t272.length : Int) : Int).toNat 0) := ⟨_, rfl⟩
 replace H : (fencepostref07_Code.l0 k t272 0 a0_0 l0_1 l0_2 a0_3 l0_4 y275) = some (r1, r2, r3) := by first | (rw [hy275]; with_reducible exact H) | (have H2_ := (Option.bind_some _ _).symm.trans H; rw [hy275]; with_reducible exact H2_) | (have H2_ := (Option.bind_some _ _).symm.trans H; with_reducible exact H2_) | with_reducible exact H | (rw [hy275]; exact H) | exact H
 have Ny275 := Aside0.mk hy275
 clear hy275
 have H' := Aside0.mk H
 clear H
 go_enter Try.func28, Try.ntmps28
 (try simp only [List.append_eq, List.cons_append, List.nil_append])
 go_wp2_with (first | ((with_reducible refine gate_dst (N := 1) rfl ?_); refine box_event ?hg (N := 1) ?hd (cs := #[.string a0_0, .slice A0_1 l0_1.length c0_1, .slice A0_2 l0_2.length c0_2, .bool a0_3, .slice A0_4 l0_4.length c0_4]) (t := 30) ?hr ?_; (case hd => rfl); (case hg => rfl); (case hr => first | (go_simp; done) | (go_simp; rfl)); intro gb269 hg w7 hbox hb; have n0_ := Aside0.mk (below_step (hb_ HB.out) hb); have n1_ := Aside0.mk (hbox); have n2_ := Aside0.mk (gs_ hg (hb_ HB.out)); have n3_ := Aside0.mk (gs_ hg (hb_ HB.out)); clear HB; have HB := n0_; have BK269 := n1_; have GW269 := n2_; have GE269 := n3_; clear n0_ n1_ n2_ n3_; clear hb hbox hg) | ((with_reducible refine gate_dst (N := 2) rfl ?_); refine box_event ?hg (N := 2) ?hd (cs := #[.slice none 0 0, .slice none 0 0]) (t := 25) ?hr ?_; (case hd => rfl); (case hg => rfl); (case hr => first | (go_simp; done) | (go_simp; rfl)); intro gb270 hg w8 hbox hb; have n0_ := Aside0.mk (bb_ BK269.out hb); have n1_ := Aside0.mk (below_step (hb_ HB.out) hb); have n2_ := Aside0.mk (hbox); have n3_ := Aside0.mk (gs_ hg (hb_ HB.out)); have n4_ := Aside0.mk (gs_ hg (hb_ HB.out)); have n5_ := Aside0.mk (gn_ hg BK269.out); have n6_ := Aside0.mk (gn_ hg BK269.out).symm; clear BK269; clear HB; have BK269 := n0_; have HB := n1_; have BK270 := n2_; have GW270 := n3_; have GE270 := n4_; have NB269_270 := n5_; have NB270_269 := n6_; clear n0_ n1_ n2_ n3_ n4_ n5_ n6_; clear hb hbox hg; have hnb9 := NB269_270.out; have hnc9 := NB270_269.out; have hcz10_0 : w8.cell? ⟨gb269, 0, none⟩ = some (.string a0_0) := (blk_cell BK269.out 0).trans rfl; have hcz10_1 : w8.cell? ⟨gb269, 1, none⟩ = some (.slice A0_1 l0_1.length c0_1) := (blk_cell BK269.out 1).trans rfl; have hcz10_2 : w8.cell? ⟨gb269, 2, none⟩ = some (.slice A0_2 l0_2.length c0_2) := (blk_cell BK269.out 2).trans rfl; have hcz10_3 : w8.cell? ⟨gb269, 3, none⟩ = some (.bool a0_3) := (blk_cell BK269.out 3).trans rfl; have hcz10_4 : w8.cell? ⟨gb269, 4, none⟩ = some (.slice A0_4 l0_4.length c0_4) := (blk_cell BK269.out 4).trans rfl; have hfz10_0 := blk_frozen BK269.out 0; have hfz10_1 := blk_frozen BK269.out 1; have hfz10_2 := blk_frozen BK269.out 2; have hfz10_3 := blk_frozen BK269.out 3; have hfz10_4 := blk_frozen BK269.out 4) | ((with_reducible refine gate_callee (f := 27) rfl ?_); refine goesL_ (some 12) rfl rfl Try.func27 (by kernel_rfl) rfl #[.agg #[.string a0_0, .slice A0_1 l0_1.length c0_1, .slice A0_2 l0_2.length c0_2, .bool a0_3, .slice A0_4 l0_4.length c0_4]] rfl ar_ ?_; (with_reducible refine (fencepostref04_Right.calls k a0_0 _ _ l0_1 _ _ l0_2 a0_3 _ _ l0_4 true _ ?side1 ?side2 ?side3 ?side4 ?side5 ?side6 A2.out).mono ?_); (case side1 => exact cd_ (Kd.C_below HR0_1.out HB.out)); (case side2 => exact HC0_1.out); (case side3 => exact cd_ (Kd.C_below HR0_2.out HB.out)); (case side4 => exact HC0_2.out); (case side5 => exact cd_ (Kd.C_below HR0_4.out HB.out)); (case side6 => exact HC0_4.out); rintro e w11 ⟨rfl, hb⟩; refine ⟨_, rfl, ?_⟩; have n0_ := Aside0.mk (bb_ BK269.out hb); have n1_ := Aside0.mk (bb_ BK270.out hb); have n2_ := Aside0.mk (below_step (hb_ HB.out) hb); clear BK269; clear BK270; clear HB; have BK269 := n0_; have BK270 := n1_; have HB := n2_; clear n0_ n1_ n2_; (try clear hb); (try clear hb2); (try clear hk); (try clear hi); have hcz12_0 : w11.cell? ⟨gb269, 0, none⟩ = some (.string a0_0) := (blk_cell BK269.out 0).trans rfl; have hcz12_1 : w11.cell? ⟨gb269, 1, none⟩ = some (.slice A0_1 l0_1.length c0_1) := (blk_cell BK269.out 1).trans rfl; have hcz12_2 : w11.cell? ⟨gb269, 2, none⟩ = some (.slice A0_2 l0_2.length c0_2) := (blk_cell BK269.out 2).trans rfl; have hcz12_3 : w11.cell? ⟨gb269, 3, none⟩ = some (.bool a0_3) := (blk_cell BK269.out 3).trans rfl; have hcz12_4 : w11.cell? ⟨gb269, 4, none⟩ = some (.slice A0_4 l0_4.length c0_4) := (blk_cell BK269.out 4).trans rfl; have hfz12_0 := blk_frozen BK269.out 0; have hfz12_1 := blk_frozen BK269.out 1; have hfz12_2 := blk_frozen BK269.out 2; have hfz12_3 := blk_frozen BK269.out 3; have hfz12_4 := blk_frozen BK269.out 4) | ((with_reducible refine gate_callee (f := 45) rfl ?_); refine goesL_ (some 16) rfl rfl Try.func45 (by kernel_rfl) rfl #[.agg #[.string a0_0, .slice A0_1 l0_1.length c0_1, .slice A0_2 l0_2.length c0_2, .bool a0_3, .slice A0_4 l0_4.length c0_4]] rfl ar_ ?_; (with_reducible refine (fencepostref04_Locs.calls k a0_0 _ _ l0_1 _ _ l0_2 a0_3 _ _ l0_4 t272 _ ?side1 ?side2 ?side3 ?side4 ?side5 ?side6 A4.out).mono ?_); (case side1 => exact cd_ (Kd.C_below HR0_1.out HB.out)); (case side2 => exact HC0_1.out); (case side3 => exact cd_ (Kd.C_below HR0_2.out HB.out)); (case side4 => exact HC0_2.out); (case side5 => exact cd_ (Kd.C_below HR0_4.out HB.out)); (case side6 => exact HC0_4.out); rintro e w13 ⟨v273, rfl, ho0, hb⟩; refine ⟨_, rfl, ?_⟩; have n0_ := Aside0.mk (Kd.R_lower ho0 (below_size (hb_ HB.out))); have n1_ := Aside0.mk (bb_ BK269.out hb); have n2_ := Aside0.mk (bb_ BK270.out hb); have n3_ := Aside0.mk (below_step (hb_ HB.out) hb); clear BK269; clear BK270; clear HB; have HO274 := n0_; have BK269 := n1_; have BK270 := n2_; have HB := n3_; clear n0_ n1_ n2_ n3_; (try clear hb); (try clear hb2); (try clear hk); (try clear hi); (try clear ho0); obtain ⟨Ao14, co14, eo14⟩ := Kd.R_slice HO274.out; subst eo14) | ((with_reducible refine gate_dst (N := 19) rfl ?_); refine Kd.R_make (Kd.int .i64) _ 3 rfl (N := 19) rfl 22 _ _ rfl (t272.length : Int) rfl rfl Try.underlying22 (.int .i64 0) 8 info3 rfl (by decide) (by omega) 0 (ok := fun _ => True) (okp := fun _ => True) rfl (fun _ hk => hk) trivial (of_decide_eq_true as_) (Nat.le_trans (Nat.mul_le_mul_right _ (of_decide_eq_true as_ : (t272.length : Int).toNat ≤ 35184372088832)) (by omega)) (Below.refl _ _) (Nat.le_refl _) ?_; intro v276 w15 ho16 hb hg_ hnew_; clear hg_ hnew_; (first | rw [← Ny275.out] at ho16 | (simp only [Int.reduceToNat] at ho16; rw [← Ny275.out] at ho16)); have n0_ := Aside0.mk (Kd.R_below (rd_ HO274.out) hb); have n1_ := Aside0.mk (Kd.R_lower ho16 (below_size (hb_ HB.out))); have n2_ := Aside0.mk (bb_ BK269.out hb); have n3_ := Aside0.mk (bb_ BK270.out hb); have n4_ := Aside0.mk (below_step (hb_ HB.out) hb); clear HO274; clear BK269; clear BK270; clear HB; have HO274 := n0_; have HO277 := n1_; have BK269 := n2_; have BK270 := n3_; have HB := n4_; clear n0_ n1_ n2_ n3_ n4_; clear hb ho16; obtain ⟨Ao17, co17, eo17⟩ := Kd.R_slice HO277.out; subst eo17) | ((with_reducible refine gate_dst (N := 5) rfl ?_); refine box_event ?hg (N := 5) ?hd (cs := #[.slice none 0 0, .slice none 0 0]) (t := 25) ?hr ?_; (case hd => rfl); (case hg => rfl); (case hr => first | (go_simp; done) | (go_simp; rfl)); intro gb278 hg w18 hbox hb; have n0_ := Aside0.mk (Kd.R_below (rd_ HO274.out) hb); have n1_ := Aside0.mk (Kd.R_below (rd_ HO277.out) hb); have n2_ := Aside0.mk (bb_ BK269.out hb); have n3_ := Aside0.mk (bb_ BK270.out hb); have n4_ := Aside0.mk (below_step (hb_ HB.out) hb); have n5_ := Aside0.mk (hbox); have n6_ := Aside0.mk (gs_ hg (hb_ HB.out)); have n7_ := Aside0.mk (gs_ hg (hb_ HB.out)); have n8_ := Aside0.mk (gn_ hg BK269.out); have n9_ := Aside0.mk (gn_ hg BK269.out).symm; have n10_ := Aside0.mk (gn_ hg BK270.out); have n11_ := Aside0.mk (gn_ hg BK270.out).symm; clear HO274; clear HO277; clear BK269; clear BK270; clear HB; have HO274 := n0_; have HO277 := n1_; have BK269 := n2_; have BK270 := n3_; have HB := n4_; have BK278 := n5_; have GW278 := n6_; have GE278 := n7_; have NB269_278 := n8_; have NB278_269 := n9_; have NB270_278 := n10_; have NB278_270 := n11_; clear n0_ n1_ n2_ n3_ n4_ n5_ n6_ n7_ n8_ n9_ n10_ n11_; clear hb hbox hg; have hnb19 := NB278_269.out; have hnc19 := NB269_278.out; have hnb20 := NB278_270.out; have hnc20 := NB270_278.out; have hcz21_0 : w18.cell? ⟨gb278, 0, none⟩ = some (.slice none 0 0) := (blk_cell BK278.out 0).trans rfl; have hcz21_1 : w18.cell? ⟨gb278, 1, none⟩ = some (.slice none 0 0) := (blk_cell BK278.out 1).trans rfl; have hfz21_0 := blk_frozen BK278.out 0; have hfz21_1 := blk_frozen BK278.out 1))
 go_loopg [6] k (fun kq v6 w' => ∃ (x6_1 : Int) (x279000_1 : List Int) (u279000 : Value), v6 = .int .i64 x6_1 ∧ Aside0 (fencepostref07_Code.l0 kq t272 x6_1 a0_0 l0_1 l0_2 a0_3 l0_4 x279000_1 = some (r1, r2, r3)) ∧ Aside0 (kq ≤ k) ∧ Aside0 (Kd.R Kd.string 9 w' w.heap.size (fun _ => True) (.slice Ao14 t272.length co14) t272) ∧ Aside0 (Kd.R (Kd.int .i64) 3 w' w.heap.size (fun _ => True) u279000 x279000_1) ∧ Aside0 (w'.heap[gb269]? = some (.cells #[.string a0_0, (.slice A0_1 l0_1.length c0_1), (.slice A0_2 l0_2.length c0_2), .bool a0_3, (.slice A0_4 l0_4.length c0_4)] 30 (0, 0))) ∧ Aside0 (w'.heap[gb270]? = some (.cells #[(.slice none 0 0), (.slice none 0 0)] 25 (0, 0))) ∧ Aside0 (w'.heap[gb278]? = some (.cells #[u279000, (.slice none 0 0)] 25 (0, 0))) ∧ Aside0 (Below w.heap.size w w'))
 case atStart => exact ⟨(0), (y275), (.slice Ao17 y275.length co17), rf_, H', ⟨Nat.le_refl _⟩, ⟨by (with_reducible repeat (first | apply Kd.R_alloc | apply Kd.R_drewN | apply Kd.R_drew)); exact Kd.R_mono (Kd.R_far (p := ⟨gb278, 1, none⟩) (Kd.R_far (p := ⟨gb278, 0, none⟩) (Kd.R_types HO274.out BK278.out (by decide)) (fun _ hk => hk.2) (.slice Ao17 y275.length co17)) (fun _ hk => hk.2) (.slice none 0 0)) (fun _ hk => trivial)⟩, ⟨by (with_reducible repeat (first | apply Kd.R_alloc | apply Kd.R_drewN | apply Kd.R_drew)); exact Kd.R_mono (Kd.R_far (p := ⟨gb278, 1, none⟩) (Kd.R_far (p := ⟨gb278, 0, none⟩) (Kd.R_types HO277.out BK278.out (by decide)) (fun _ hk => hk.2) (.slice Ao17 y275.length co17)) (fun _ hk => hk.2) (.slice none 0 0)) (fun _ hk => trivial)⟩, ⟨by (with_reducible repeat (first | refine blk_drewN ?_ _ | refine blk_drew ?_ | refine blk_alloc ?_ _)); refine blk_far ?_ NB269_278.out _; (with_reducible repeat (first | refine blk_drewN ?_ _ | refine blk_drew ?_ | refine blk_alloc ?_ _)); refine blk_far ?_ NB269_278.out _; (with_reducible repeat (first | refine blk_drewN ?_ _ | refine blk_drew ?_ | refine blk_alloc ?_ _)); exact BK269.out⟩, ⟨by (with_reducible repeat (first | refine blk_drewN ?_ _ | refine blk_drew ?_ | refine blk_alloc ?_ _)); refine blk_far ?_ NB270_278.out _; (with_reducible repeat (first | refine blk_drewN ?_ _ | refine blk_drew ?_ | refine blk_alloc ?_ _)); refine blk_far ?_ NB270_278.out _; (with_reducible repeat (first | refine blk_drewN ?_ _ | refine blk_drew ?_ | refine blk_alloc ?_ _)); exact BK270.out⟩, ⟨by (with_reducible repeat (first | refine blk_drewN ?_ _ | refine blk_drew ?_ | refine blk_alloc ?_ _)); refine blk_put (cs := #[.slice Ao17 y275.length co17, .slice none 0 0]) ?_ 1 _ rfl; (with_reducible repeat (first | refine blk_drewN ?_ _ | refine blk_drew ?_ | refine blk_alloc ?_ _)); refine blk_put (cs := #[.slice none 0 0, .slice none 0 0]) ?_ 0 _ rfl; (with_reducible repeat (first | refine blk_drewN ?_ _ | refine blk_drew ?_ | refine blk_alloc ?_ _)); exact BK278.out⟩, ⟨hb_ HB.out⟩⟩
 clear H'
 try clear c3
 try clear c5
 try clear c5b0
 try clear c5b1
 try clear c6
 try clear c6b0
 try clear c6b1
 try clear hcz10_0
 try clear hcz10_1
 try clear hcz10_2
 try clear hcz10_3
 try clear hcz10_4
 try clear hcz12_0
 try clear hcz12_1
 try clear hcz12_2
 try clear hcz12_3
 try clear hcz12_4
 try clear hcz21_0
 try clear hcz21_1
 try clear hfz10_0
 try clear hfz10_1
 try clear hfz10_2
 try clear hfz10_3
 try clear hfz10_4
 try clear hfz12_0
 try clear hfz12_1
 try clear hfz12_2
 try clear hfz12_3
 try clear hfz12_4
 try clear hfz21_0
 try clear hfz21_1
 obtain ⟨x6_1, x279000_1, u279000, rfl, HA, HK1, HO_4, HO_279000, BK269, BK270, BK278, HB⟩ := hrel
 cases gk with
 | zero => exact absurd HA.out (by simp [fencepostref07_Code.l0])
 | succ k1 => ?_
 have H := HA.out
 clear HA
 simp only [fencepostref07_Code.l0] at H
 by_cases c22 : x6_1 < (l0_1.length : Int)
 ·rw [if_pos c22] at H
  have c22b0 : decide (x6_1 < (l0_1.length : Int)) = true := decide_eq_true c22
  clear c22
  by_cases c23 : 0 ≤ x6_1
  rotate_left
  ·rw [if_neg c23] at H
   exact absurd H (by simp)
  rw [if_pos c23] at H
  have c23b0 : decide (0 ≤ x6_1) = true := decide_eq_true c23
  clear c23
  replace H := Option.bind_eq_some_iff.mp H
  obtain ⟨t280, A240, H⟩ := H
  replace H : (if 0 ≤ t280 then (if t280 < (x279000_1.length : Int) then (fencepostref07_Code.l0 k1 t272 (wrap64 (x6_1 + 1)) a0_0 l0_1 l0_2 a0_3 l0_4 (x279000_1.set (t280 : Int).toNat ((rd_T62 l0_1 x6_1).f1))) else (none)) else (none)) = some (r1, r2, r3) := H
  have A24 := Aside0.mk A240
  clear A240
  by_cases c25 : 0 ≤ t280
  rotate_left
  ·rw [if_neg c25] at H
   exact absurd H (by simp)
  rw [if_pos c25] at H
  have c25b0 : decide (0 ≤ t280) = true := decide_eq_true c25
  clear c25
  by_cases c26 : t280 < (x279000_1.length : Int)
  rotate_left
  ·rw [if_neg c26] at H
   exact absurd H (by simp)
  rw [if_pos c26] at H
  have c26b0 : decide (t280 < (x279000_1.length : Int)) = true := decide_eq_true c26
  clear c26
  obtain ⟨y282, hy282⟩ : ∃ y_ : List Int, y_ = (x279000_1.set (t280 : Int).toNat ((rd_T62 l0_1 x6_1).f1)) := ⟨_, rfl⟩
  replace H : (fencepostref07_Code.l0 k1 t272 (wrap64 (x6_1 + 1)) a0_0 l0_1 l0_2 a0_3 l0_4 y282) = some (r1, r2, r3) := by first | (rw [hy282]; with_reducible exact H) | (have H2_ := (Option.bind_some _ _).symm.trans H; rw [hy282]; with_reducible exact H2_) | (have H2_ := (Option.bind_some _ _).symm.trans H; with_reducible exact H2_) | with_reducible exact H | (rw [hy282]; exact H) | exact H
  have Ny282 := Aside0.mk hy282
  clear hy282
  have H' := Aside0.mk H
  clear H
  have hnb28 := NB269_270.out
  have hnc28 := NB270_269.out
  have hnb29 := NB269_278.out
  have hnc29 := NB278_269.out
  have hcz30_0 : wr.cell? ⟨gb269, 0, none⟩ = some (.string a0_0) := (blk_cell BK269.out 0).trans rfl
  have hcz30_1 : wr.cell? ⟨gb269, 1, none⟩ = some (.slice A0_1 l0_1.length c0_1) := (blk_cell BK269.out 1).trans rfl
  have hcz30_2 : wr.cell? ⟨gb269, 2, none⟩ = some (.slice A0_2 l0_2.length c0_2) := (blk_cell BK269.out 2).trans rfl
  have hcz30_3 : wr.cell? ⟨gb269, 3, none⟩ = some (.bool a0_3) := (blk_cell BK269.out 3).trans rfl
  have hcz30_4 : wr.cell? ⟨gb269, 4, none⟩ = some (.slice A0_4 l0_4.length c0_4) := (blk_cell BK269.out 4).trans rfl
  have hfz30_0 := blk_frozen BK269.out 0
  have hfz30_1 := blk_frozen BK269.out 1
  have hfz30_2 := blk_frozen BK269.out 2
  have hfz30_3 := blk_frozen BK269.out 3
  have hfz30_4 := blk_frozen BK269.out 4
  try go_wp2
  have n0_ := Aside0.mk (Kd.R_drew HO_4.out)
  have n1_ := Aside0.mk (Kd.R_drew HO_279000.out)
  have n2_ := Aside0.mk (blk_drew BK269.out)
  have n3_ := Aside0.mk (blk_drew BK270.out)
  have n4_ := Aside0.mk (blk_drew BK278.out)
  have n5_ := Aside0.mk (below_drew1 HB.out)
  clear HO_4
  clear HO_279000
  clear BK269
  clear BK270
  clear BK278
  clear HB
  have HO_4 := n0_
  have HO_279000 := n1_
  have BK269 := n2_
  have BK270 := n3_
  have BK278 := n4_
  have HB := n5_
  clear n0_ n1_ n2_ n3_ n4_ n5_
  have p279 : 0 ≤ (x6_1 : Int) := of_decide_eq_true as_
  have q279 : x6_1 < (l0_1.length : Int) := of_decide_eq_true as_
  obtain ⟨ad279, e279, hx279_0, hx279_1⟩ := at_T62 HR0_1.out x6_1 p279 q279
  have hw279_1 := hx279_1
  have hw279_0 := hx279_0
  cases e279
  replace hx279_0 := cl_ HB.out hx279_0
  replace hx279_1 := cl_ HB.out hx279_1
  replace p279 := eq_true p279
  replace q279 := eq_true q279
  have p281 : 0 ≤ (x6_1 : Int) := of_decide_eq_true as_
  have q281 : x6_1 < (l0_1.length : Int) := of_decide_eq_true as_
  obtain ⟨ad281, e281, hx281_0, hx281_1⟩ := at_T62 HR0_1.out x6_1 p281 q281
  have hw281_1 := hx281_1
  have hw281_0 := hx281_0
  obtain rfl : ad279 = ad281 := (by injection e281)
  replace hx281_0 := cl_ HB.out hx281_0
  replace hx281_1 := cl_ HB.out hx281_1
  replace p281 := eq_true p281
  replace q281 := eq_true q281
  refine start_ (n := 18) (S := fun w' => w'.cell? ⟨gb278, 0, none⟩ = some (u279000) ∧ w'.cell? ⟨gb278, 1, none⟩ = some (.slice none 0 0) ∧ w'.cell? ⟨gb269, 0, none⟩ = some (.string a0_0) ∧ w'.cell? ⟨gb269, 1, none⟩ = some (.slice (some ad279) l0_1.length c0_1) ∧ w'.cell? ⟨gb269, 2, none⟩ = some (.slice A0_2 l0_2.length c0_2) ∧ w'.cell? ⟨gb269, 3, none⟩ = some (.bool a0_3) ∧ w'.cell? ⟨gb269, 4, none⟩ = some (.slice A0_4 l0_4.length c0_4) ∧ w'.cell? (ad279.add ((x6_1).toNat * 2)) = some (.string ((rd_T62 l0_1 x6_1).f0)) ∧ w'.cell? ⟨(ad279.add ((x6_1).toNat * 2)).block, (ad279.add ((x6_1).toNat * 2)).off + 1, none⟩ = some (.int .i64 ((rd_T62 l0_1 x6_1).f1)) ∧ w'.cell? (ad279.add ((x6_1).toNat * 2)) = some (.string ((rd_T62 l0_1 x6_1).f0)) ∧ w'.cell? ⟨(ad279.add ((x6_1).toNat * 2)).block, (ad279.add ((x6_1).toNat * 2)).off + 1, none⟩ = some (.int .i64 ((rd_T62 l0_1 x6_1).f1))) (ds := [17]) (lb_ 18 0) (by kernel_rfl) rfl rfl ⟨(blk_cell BK278.out 0).trans rfl, (blk_cell BK278.out 1).trans rfl, (blk_cell BK269.out 0).trans rfl, (blk_cell BK269.out 1).trans rfl, (blk_cell BK269.out 2).trans rfl, (blk_cell BK269.out 3).trans rfl, (blk_cell BK269.out 4).trans rfl, ((HB.out.cell (World.block_lt_of_cell? w _ hw279_0)).trans hw279_0), ((HB.out.cell (World.block_lt_of_cell? w _ hw279_1)).trans hw279_1), ((HB.out.cell (World.block_lt_of_cell? w _ hw281_0)).trans hw281_0), ((HB.out.cell (World.block_lt_of_cell? w _ hw281_1)).trans hw281_1)⟩ (fun hHeld => ?_); refine with_tabW fencepostref07_Code.tab8 fencepostref07_Code.bits8 (fun HT_ HW_ => ?_)
  generalize wr.drew = w31 at HO_4 HO_279000 BK269 BK270 BK278 HB hx279_0 hx279_1 hx281_0 hx281_1 hHeld ⊢
  refine pure_ (i := 0) (N := some 28) (v := ?_) (a' := ?_) (lb_ 18 1) rfl rfl (any_of HT_.out (by kernel_rfl)) (fun _ _ _ h => h) (Or.inl ⟨by rfl, ?_⟩) ?_ ?_; rotate_left; intro w'; go_simp; with_reducible rfl; rotate_left; simp only [Act.put, List.setIfInBounds_toArray, List.set_cons_zero, List.set_cons_succ, i64_w, i32_w]; rfl
  refine pure_ (i := 2) (N := some 30) (v := ?_) (a' := ?_) (lb_ 18 5) rfl rfl (any_of HT_.out (by kernel_rfl)) (fun _ _ _ h => h) (Or.inl ⟨by rfl, ?_⟩) ?_ ?_; rotate_left; intro w'; go_simp; with_reducible rfl; rotate_left; simp only [Act.put, List.setIfInBounds_toArray, List.set_cons_zero, List.set_cons_succ, i64_w, i32_w]; rfl
  refine pure_ (i := 3) (N := some 31) (v := ?_) (a' := ?_) (lb_ 18 13) rfl rfl (any_of HT_.out (by kernel_rfl)) (fun _ _ _ h => h) (Or.inl ⟨by rfl, ?_⟩) ?_ ?_; rotate_left; intro w'; go_simp; with_reducible rfl; rotate_left; simp only [Act.put, List.setIfInBounds_toArray, List.set_cons_zero, List.set_cons_succ, i64_w, i32_w]; rfl
  refine pure_ (i := 5) (N := some 33) (v := ?_) (a' := ?_) (lb_ 18 45) rfl rfl (any_of HT_.out (by kernel_rfl)) (fun _ _ _ h => h) (Or.inl ⟨by rfl, ?_⟩) ?_ ?_; rotate_left; intro w'; go_simp; with_reducible rfl; rotate_left; simp only [Act.put, List.setIfInBounds_toArray, List.set_cons_zero, List.set_cons_succ, i64_w, i32_w]; rfl
  refine pure_ (i := 10) (N := some 38) (v := ?_) (a' := ?_) (lb_ 18 1069) rfl rfl (any_of HT_.out (by kernel_rfl)) (fun _ _ _ h => h) (Or.inl ⟨by rfl, ?_⟩) ?_ ?_; rotate_left; intro w'; go_simp; with_reducible rfl; rotate_left; simp only [Act.put, List.setIfInBounds_toArray, List.set_cons_zero, List.set_cons_succ, i64_w, i32_w]; rfl
  refine pure_ (i := 12) (N := some 40) (v := ?_) (a' := ?_) (lb_ 18 5165) rfl rfl (any_of HT_.out (by kernel_rfl)) (fun _ _ _ h => h) (Or.inl ⟨by rfl, ?_⟩) ?_ ?_; rotate_left; intro w'; go_simp; with_reducible rfl; rotate_left; simp only [Act.put, List.setIfInBounds_toArray, List.set_cons_zero, List.set_cons_succ, i64_w, i32_w]; rfl
  refine take_ (i := 1) (N := some 29) (v := ?_) (a' := ?_) (lb_ 18 5167) rfl rfl (take_ofW HT_.out HW_.out (by kernel_rfl)) (fun _ _ _ h => h) (Or.inl ⟨by rfl, ?_⟩) hHeld ?_ ?_; rotate_left; rintro w' ⟨s0, s1, s2, s3, s4, s5, s6, s7, s8, s9, s10⟩; go_simp; with_reducible rfl; rotate_left; simp only [Act.put, List.setIfInBounds_toArray, List.set_cons_zero, List.set_cons_succ, i64_w, i32_w]; rfl
  refine take_ (i := 4) (N := some 32) (v := ?_) (a' := ?_) (lb_ 18 5183) rfl rfl (take_ofW HT_.out HW_.out (by kernel_rfl)) (fun _ _ _ h => h) (Or.inl ⟨by rfl, ?_⟩) hHeld ?_ ?_; rotate_left; rintro w' ⟨s0, s1, s2, s3, s4, s5, s6, s7, s8, s9, s10⟩; go_simp; with_reducible rfl; rotate_left; simp only [Act.put, List.setIfInBounds_toArray, List.set_cons_zero, List.set_cons_succ, i64_w, i32_w]; rfl
  refine pure_ (i := 6) (N := some 34) (v := ?_) (a' := ?_) (lb_ 18 5247) rfl rfl (any_of HT_.out (by kernel_rfl)) (fun _ _ _ h => h) (Or.inl ⟨by rfl, ?_⟩) ?_ ?_; rotate_left; intro w'; go_simp; with_reducible rfl; rotate_left; simp only [Act.put, List.setIfInBounds_toArray, List.set_cons_zero, List.set_cons_succ, i64_w, i32_w]; rfl
  refine pure_ (i := 7) (N := some 35) (v := ?_) (a' := ?_) (lb_ 18 5375) rfl rfl (any_of HT_.out (by kernel_rfl)) (fun _ _ _ h => h) (Or.inl ⟨by rfl, ?_⟩) ?_ ?_; rotate_left; intro w'; go_simp; with_reducible rfl; rotate_left; simp only [Act.put, List.setIfInBounds_toArray, List.set_cons_zero, List.set_cons_succ, i64_w, i32_w]; rfl
  refine take_ (i := 8) (N := some 36) (v := ?_) (a' := ?_) (lb_ 18 5631) rfl rfl (take_ofW HT_.out HW_.out (by kernel_rfl)) (fun _ _ _ h => h) (Or.inl ⟨by rfl, ?_⟩) hHeld ?_ ?_; rotate_left; rintro w' ⟨s0, s1, s2, s3, s4, s5, s6, s7, s8, s9, s10⟩; go_simp; with_reducible rfl; rotate_left; simp only [Act.put, List.setIfInBounds_toArray, List.set_cons_zero, List.set_cons_succ, i64_w, i32_w]; rfl
  refine take_ (i := 11) (N := some 39) (v := ?_) (a' := ?_) (lb_ 18 7679) rfl rfl (take_ofW HT_.out HW_.out (by kernel_rfl)) (fun _ _ _ h => h) (Or.inl ⟨by rfl, ?_⟩) hHeld ?_ ?_; rotate_left; rintro w' ⟨s0, s1, s2, s3, s4, s5, s6, s7, s8, s9, s10⟩; go_simp; with_reducible rfl; rotate_left; simp only [Act.put, List.setIfInBounds_toArray, List.set_cons_zero, List.set_cons_succ, i64_w, i32_w]; rfl
  refine pure_ (i := 13) (N := some 41) (v := ?_) (a' := ?_) (lb_ 18 15871) rfl rfl (any_of HT_.out (by kernel_rfl)) (fun _ _ _ h => h) (Or.inl ⟨by rfl, ?_⟩) ?_ ?_; rotate_left; intro w'; go_simp; with_reducible rfl; rotate_left; simp only [Act.put, List.setIfInBounds_toArray, List.set_cons_zero, List.set_cons_succ, i64_w, i32_w]; rfl
  refine pure_ (i := 14) (N := some 42) (v := ?_) (a' := ?_) (lb_ 18 32255) rfl rfl (any_of HT_.out (by kernel_rfl)) (fun _ _ _ h => h) (Or.inl ⟨by rfl, ?_⟩) ?_ ?_; rotate_left; intro w'; go_simp; with_reducible rfl; rotate_left; simp only [Act.put, List.setIfInBounds_toArray, List.set_cons_zero, List.set_cons_succ, i64_w, i32_w]; rfl
  refine take_ (i := 15) (N := some 43) (v := ?_) (a' := ?_) (lb_ 18 65023) rfl rfl (take_ofW HT_.out HW_.out (by kernel_rfl)) (fun _ _ _ h => h) (Or.inl ⟨by rfl, ?_⟩) hHeld ?_ ?_; rotate_left; rintro w' ⟨s0, s1, s2, s3, s4, s5, s6, s7, s8, s9, s10⟩; go_simp; with_reducible rfl; rotate_left; simp only [Act.put, List.setIfInBounds_toArray, List.set_cons_zero, List.set_cons_succ, i64_w, i32_w]; rfl
  refine one_ (i := 9) (N := some 37) (lb_ 18 65535) rfl rfl (one_of HT_.out (by kernel_rfl)) (by decide) (fun K hK => ?_)
  refine goes_ Try.func46 (by kernel_rfl) rfl #[.slice Ao14 t272.length co14, .string ((rd_T62 l0_1 x6_1).f0)] (by rfl) rfl rfl ar_ ?_
  with_reducible refine (fencepostref07_place.calls k1 _ _ t272 ((rd_T62 l0_1 x6_1).f0) t280 _ ?side1 ?side2 A24.out).mono ?_
  (case side1 => repeat (first | exact (Kd.R_reads' HO_4.out).2.2 | (with_reducible refine Kd.C_alloc ?_ _) | (with_reducible refine Kd.C_drewN ?_ _) | (with_reducible refine Kd.C_drew ?_)))
  (case side2 => exact (Kd.R_reads' HO_4.out).2.1)
  rintro e w' ⟨rfl, ⟨nd, rfl⟩⟩
  refine ⟨_, rfl, ?_⟩
  have p27 : 0 ≤ (t280 : Int) := of_decide_eq_true as_
  have q27 : (t280 : Int) < ((x279000_1.length : Int) : Int) := of_decide_eq_true as_
  obtain ⟨go27, co27, eo27, gb27, gl27, cl27, HG27⟩ := Kd.R_form HO_279000.out (by omega)
  (first | cases eo27 | (injection eo27 with ea_ en_ ec_; (first | subst ea_ | (injection ea_ with ea_; subst ea_)); subst ec_; clear en_))
  have GB27 := Aside0.mk gb27
  have GG27 := Aside0.mk HG27
  clear gb27 gl27 HG27
  obtain ⟨hx27_0, hf27_0⟩ := Kd.R_celln 0 HO_279000.out (t280 : Int) p27 q27
  replace p27 := eq_true p27
  replace q27 := eq_true q27
  have HP32 := Kd.R_putn HO_279000.out (t280 : Int) ((rd_T62 l0_1 x6_1).f1)
  rw [← Ny282.out] at HP32
  have HQ32 := Aside0.mk HP32
  clear HP32
  refine hK.out _ _ ⟨(blk_cell BK278.out 0).trans rfl, (blk_cell BK278.out 1).trans rfl, (blk_cell BK269.out 0).trans rfl, (blk_cell BK269.out 1).trans rfl, (blk_cell BK269.out 2).trans rfl, (blk_cell BK269.out 3).trans rfl, (blk_cell BK269.out 4).trans rfl, ((HB.out.cell (World.block_lt_of_cell? w _ hw279_0)).trans hw279_0), ((HB.out.cell (World.block_lt_of_cell? w _ hw279_1)).trans hw279_1), ((HB.out.cell (World.block_lt_of_cell? w _ hw281_0)).trans hw281_0), ((HB.out.cell (World.block_lt_of_cell? w _ hw281_1)).trans hw281_1)⟩ (fun hHeld => ?_)
  clear hK K
  refine norm_ (a' := ?_) ?_ ?_
  rotate_left
  ·show Act.put _ (some 37) _ = _
   simp only [Act.put, List.setIfInBounds_toArray, List.set_cons_zero, List.set_cons_succ, i64_w, i32_w]
   rfl
  refine pure_ (i := 16) (N := some 44) (v := ?_) (a' := ?_) (lb_ 18 131071) rfl rfl (any_of HT_.out (by kernel_rfl)) (fun _ _ _ h => h) (Or.inl ⟨by rfl, ?_⟩) ?_ ?_; rotate_left; intro w'; go_simp; with_reducible rfl; rotate_left; simp only [Act.put, List.setIfInBounds_toArray, List.set_cons_zero, List.set_cons_succ, i64_w, i32_w]; rfl
  refine last_ (i := 17) (N := none) (lb_ 18 262143) rfl rfl (one_of HT_.out (by kernel_rfl)) (by decide) (fun K hK => ?_)
  refine skip_ (w1 := ?_) (by rfl) rfl ?_ ?_
  rotate_left
  ·go_simp
   rfl
  refine hK.out _ _ ?_
  clear hK K
  refine done_ (done_of HT_.out (by kernel_rfl)) ?_
  try go_wp2
  go_roundg k1
  case measure => have := HK1.out; omega
  case rel => exact ⟨(wrap64 (x6_1 + 1)), (y282), (.slice (some ⟨go27, 0, none⟩) x279000_1.length co27), rf_, H', ⟨by have := HK1.out; omega⟩, ⟨by (with_reducible repeat (first | apply Kd.R_alloc | apply Kd.R_drewN | apply Kd.R_drew)); exact Kd.R_mono (Kd.R_far (p := ⟨go27, (t280 : Int).toNat, none⟩) (Kd.R_types HO_4.out GG27.out (by decide)) (fun _ hk => hk.2) (.int .i64 ((rd_T62 l0_1 x6_1).f1))) (fun _ hk => trivial)⟩, ⟨rd_ HQ32.out⟩, ⟨by (with_reducible repeat (first | refine blk_drewN ?_ _ | refine blk_drew ?_ | refine blk_alloc ?_ _)); refine blk_far ?_ (by have h_ := Kd.R_ne HO_279000.out BK269.out (by decide); intro e_; exact h_ (by rw [e_]; rfl)) _; (with_reducible repeat (first | refine blk_drewN ?_ _ | refine blk_drew ?_ | refine blk_alloc ?_ _)); exact BK269.out⟩, ⟨by (with_reducible repeat (first | refine blk_drewN ?_ _ | refine blk_drew ?_ | refine blk_alloc ?_ _)); refine blk_far ?_ (by have h_ := Kd.R_ne HO_279000.out BK270.out (by decide); intro e_; exact h_ (by rw [e_]; rfl)) _; (with_reducible repeat (first | refine blk_drewN ?_ _ | refine blk_drew ?_ | refine blk_alloc ?_ _)); exact BK270.out⟩, ⟨by (with_reducible repeat (first | refine blk_drewN ?_ _ | refine blk_drew ?_ | refine blk_alloc ?_ _)); refine blk_far ?_ (by have h_ := Kd.R_ne HO_279000.out BK278.out (by decide); intro e_; exact h_ (by rw [e_]; rfl)) _; (with_reducible repeat (first | refine blk_drewN ?_ _ | refine blk_drew ?_ | refine blk_alloc ?_ _)); exact BK278.out⟩, ⟨hb_ HB.out⟩⟩
 rw [if_neg c22] at H
 have c22b0 : decide (x6_1 < (l0_1.length : Int)) = false := decide_eq_false c22
 clear c22
 have H' := Aside0.mk H
 clear H
 have hnb33 := NB269_270.out
 have hnc33 := NB270_269.out
 have hnb34 := NB269_278.out
 have hnc34 := NB278_269.out
 have hcz35_0 : wr.cell? ⟨gb269, 0, none⟩ = some (.string a0_0) := (blk_cell BK269.out 0).trans rfl
 have hcz35_1 : wr.cell? ⟨gb269, 1, none⟩ = some (.slice A0_1 l0_1.length c0_1) := (blk_cell BK269.out 1).trans rfl
 have hcz35_2 : wr.cell? ⟨gb269, 2, none⟩ = some (.slice A0_2 l0_2.length c0_2) := (blk_cell BK269.out 2).trans rfl
 have hcz35_3 : wr.cell? ⟨gb269, 3, none⟩ = some (.bool a0_3) := (blk_cell BK269.out 3).trans rfl
 have hcz35_4 : wr.cell? ⟨gb269, 4, none⟩ = some (.slice A0_4 l0_4.length c0_4) := (blk_cell BK269.out 4).trans rfl
 have hfz35_0 := blk_frozen BK269.out 0
 have hfz35_1 := blk_frozen BK269.out 1
 have hfz35_2 := blk_frozen BK269.out 2
 have hfz35_3 := blk_frozen BK269.out 3
 have hfz35_4 := blk_frozen BK269.out 4
 go_wp2
 go_loopg [7] k1 (fun kq v7 w' => ∃ (x7_2 : Int) (x279001_2 : List (List (S53))) (u279001 : Value), v7 = .int .i64 x7_2 ∧ Aside0 (fencepostref07_Code.l1 kq t272 x7_2 a0_0 l0_1 l0_2 a0_3 l0_4 x279000_1 x279001_2 = some (r1, r2, r3)) ∧ Aside0 (kq ≤ k1) ∧ Aside0 (Kd.R Kd.string 9 w' w.heap.size (fun _ => True) (.slice Ao14 t272.length co14) t272) ∧ Aside0 (Kd.R (Kd.int .i64) 3 w' w.heap.size (fun _ => True) u279000 x279000_1) ∧ Aside0 (Kd.S (Kd.slice 53 k53) 50 w' w.heap.size (fun _ => True) u279001 x279001_2) ∧ Aside0 (w'.heap[gb269]? = some (.cells #[.string a0_0, (.slice A0_1 l0_1.length c0_1), (.slice A0_2 l0_2.length c0_2), .bool a0_3, (.slice A0_4 l0_4.length c0_4)] 30 (0, 0))) ∧ Aside0 (w'.heap[gb270]? = some (.cells #[(.slice none 0 0), (.slice none 0 0)] 25 (0, 0))) ∧ Aside0 (w'.heap[gb278]? = some (.cells #[u279000, u279001] 25 (0, 0))) ∧ Aside0 (Below w.heap.size w w'))
 case atStart => exact ⟨(0), (([] : List (List (S53)))), (.slice none 0 0), rf_, H', ⟨Nat.le_refl _⟩, ⟨rd_ HO_4.out⟩, ⟨rd_ HO_279000.out⟩, ⟨by first | exact Kd.S_nil _ _ _ _ _ | exact Kd.N_nil _ _ _ _ _ | exact Kd.V_nil _ _ _ _ _ | exact Kd.Q_nil _ _ _ _ _ | exact Kd.R_nil _ _ _ _ _⟩, ⟨bd_ BK269.out⟩, ⟨bd_ BK270.out⟩, ⟨bd_ BK278.out⟩, ⟨hb_ HB.out⟩⟩
 clear H'
 try clear c3
 try clear c5
 try clear c5b0
 try clear c5b1
 try clear c6
 try clear c6b0
 try clear c6b1
 try clear c22
 try clear c22b0
 try clear hcz10_0
 try clear hcz10_1
 try clear hcz10_2
 try clear hcz10_3
 try clear hcz10_4
 try clear hcz12_0
 try clear hcz12_1
 try clear hcz12_2
 try clear hcz12_3
 try clear hcz12_4
 try clear hcz21_0
 try clear hcz21_1
 try clear hcz35_0
 try clear hcz35_1
 try clear hcz35_2
 try clear hcz35_3
 try clear hcz35_4
 try clear hfz10_0
 try clear hfz10_1
 try clear hfz10_2
 try clear hfz10_3
 try clear hfz10_4
 try clear hfz12_0
 try clear hfz12_1
 try clear hfz12_2
 try clear hfz12_3
 try clear hfz12_4
 try clear hfz21_0
 try clear hfz21_1
 try clear hfz35_0
 try clear hfz35_1
 try clear hfz35_2
 try clear hfz35_3
 try clear hfz35_4
 obtain ⟨x7_2, x279001_2, u279001, rfl, HA, HK2, HO_4, HO_279000, HO_279001, BK269, BK270, BK278, HB⟩ := hrel
 cases gk with
 | zero => exact absurd HA.out (by simp [fencepostref07_Code.l1])
 | succ k2 => ?_
 have H := HA.out
 clear HA
 simp only [fencepostref07_Code.l1] at H
 by_cases c36 : x7_2 < (l0_2.length : Int)
 rotate_left
 ·rw [if_neg c36] at H
  have c36b0 : decide (x7_2 < (l0_2.length : Int)) = false := decide_eq_false c36
  clear c36
  simp only [Option.some.injEq, Prod.mk.injEq] at H
  obtain ⟨rfl, rfl, rfl⟩ := H
  have hnb56 := NB269_270.out
  have hnc56 := NB270_269.out
  have hnb57 := NB269_278.out
  have hnc57 := NB278_269.out
  have hcz58_0 : wr.cell? ⟨gb269, 0, none⟩ = some (.string a0_0) := (blk_cell BK269.out 0).trans rfl
  have hcz58_1 : wr.cell? ⟨gb269, 1, none⟩ = some (.slice A0_1 l0_1.length c0_1) := (blk_cell BK269.out 1).trans rfl
  have hcz58_2 : wr.cell? ⟨gb269, 2, none⟩ = some (.slice A0_2 l0_2.length c0_2) := (blk_cell BK269.out 2).trans rfl
  have hcz58_3 : wr.cell? ⟨gb269, 3, none⟩ = some (.bool a0_3) := (blk_cell BK269.out 3).trans rfl
  have hcz58_4 : wr.cell? ⟨gb269, 4, none⟩ = some (.slice A0_4 l0_4.length c0_4) := (blk_cell BK269.out 4).trans rfl
  have hfz58_0 := blk_frozen BK269.out 0
  have hfz58_1 := blk_frozen BK269.out 1
  have hfz58_2 := blk_frozen BK269.out 2
  have hfz58_3 := blk_frozen BK269.out 3
  have hfz58_4 := blk_frozen BK269.out 4
  have hnb59 := NB278_270.out
  have hnc59 := NB270_278.out
  have hcz60_0 : wr.cell? ⟨gb278, 0, none⟩ = some (u279000) := (blk_cell BK278.out 0).trans rfl
  have hcz60_1 : wr.cell? ⟨gb278, 1, none⟩ = some (u279001) := (blk_cell BK278.out 1).trans rfl
  have hfz60_0 := blk_frozen BK278.out 0
  have hfz60_1 := blk_frozen BK278.out 1
  obtain ⟨Ao61, co61, eo61⟩ := Kd.R_slice HO_279000.out
  subst eo61
  have hcz62_0 : wr.cell? ⟨gb270, 0, none⟩ = some (.slice none 0 0) := (blk_cell BK270.out 0).trans rfl
  have hcz62_1 : wr.cell? ⟨gb270, 1, none⟩ = some (.slice none 0 0) := (blk_cell BK270.out 1).trans rfl
  have hfz62_0 := blk_frozen BK270.out 0
  have hfz62_1 := blk_frozen BK270.out 1
  obtain ⟨Ao63, co63, eo63⟩ := Kd.S_slice HO_279001.out
  subst eo63
  go_wp2
  refine bodyPost_ret (results_ct rfl _ _ gb270 25 #[.slice Ao61 x279000_1.length co61, .slice Ao63 x279001_2.length co63] (0, 0) _ rfl (by (with_reducible repeat (first | refine blk_drewN ?_ _ | refine blk_drew ?_ | refine blk_alloc ?_ _)); refine blk_put (cs := #[.slice Ao61 x279000_1.length co61, .slice none 0 0]) ?_ 1 _ rfl; (with_reducible repeat (first | refine blk_drewN ?_ _ | refine blk_drew ?_ | refine blk_alloc ?_ _)); refine blk_put (cs := #[.slice none 0 0, .slice none 0 0]) ?_ 0 _ rfl; (with_reducible repeat (first | refine blk_drewN ?_ _ | refine blk_drew ?_ | refine blk_alloc ?_ _)); exact BK270.out) Try.underlying25 rfl (by kernel_rfl)) rfl ?_
  exact ⟨_, _, by first | rfl | (simp [errW_none, errW_some] <;> rfl) | (simp [*, errW_none, errW_some] <;> rfl), by (with_reducible repeat (first | apply Kd.R_alloc | apply Kd.R_drewN | apply Kd.R_drew)); exact Kd.R_mono (Kd.R_far (p := ⟨gb270, 1, none⟩) (Kd.R_far (p := ⟨gb270, 0, none⟩) (Kd.R_types HO_279000.out BK270.out (by decide)) (fun _ hk => hk.2) (.slice Ao61 x279000_1.length co61)) (fun _ hk => hk.2) (.slice Ao63 x279001_2.length co63)) (fun _ hk => trivial), by (with_reducible repeat (first | apply Kd.S_alloc | apply Kd.S_drewN | apply Kd.S_drew)); exact Kd.S_mono (Kd.S_far (p := ⟨gb270, 1, none⟩) (Kd.S_far (p := ⟨gb270, 0, none⟩) (Kd.S_types HO_279001.out BK270.out (by decide)) (fun _ hk => hk.2) (.slice Ao61 x279000_1.length co61)) (fun _ hk => hk.2) (.slice Ao63 x279001_2.length co63)) (fun _ hk => trivial), hb_ HB.out⟩
 rw [if_pos c36] at H
 have c36b0 : decide (x7_2 < (l0_2.length : Int)) = true := decide_eq_true c36
 clear c36
 by_cases c37 : 0 ≤ x7_2
 rotate_left
 ·rw [if_neg c37] at H
  exact absurd H (by simp)
 rw [if_pos c37] at H
 have c37b0 : decide (0 ≤ x7_2) = true := decide_eq_true c37
 clear c37
 have H' := Aside0.mk H
 clear H
 have hnb38 := NB269_270.out
 have hnc38 := NB270_269.out
 have hnb39 := NB269_278.out
 have hnc39 := NB278_269.out
 have hcz40_0 : wr.cell? ⟨gb269, 0, none⟩ = some (.string a0_0) := (blk_cell BK269.out 0).trans rfl
 have hcz40_1 : wr.cell? ⟨gb269, 1, none⟩ = some (.slice A0_1 l0_1.length c0_1) := (blk_cell BK269.out 1).trans rfl
 have hcz40_2 : wr.cell? ⟨gb269, 2, none⟩ = some (.slice A0_2 l0_2.length c0_2) := (blk_cell BK269.out 2).trans rfl
 have hcz40_3 : wr.cell? ⟨gb269, 3, none⟩ = some (.bool a0_3) := (blk_cell BK269.out 3).trans rfl
 have hcz40_4 : wr.cell? ⟨gb269, 4, none⟩ = some (.slice A0_4 l0_4.length c0_4) := (blk_cell BK269.out 4).trans rfl
 have hfz40_0 := blk_frozen BK269.out 0
 have hfz40_1 := blk_frozen BK269.out 1
 have hfz40_2 := blk_frozen BK269.out 2
 have hfz40_3 := blk_frozen BK269.out 3
 have hfz40_4 := blk_frozen BK269.out 4
 have p283 : 0 ≤ (x7_2 : Int) := of_decide_eq_true as_
 have q283 : x7_2 < (l0_2.length : Int) := of_decide_eq_true as_
 obtain ⟨ad283, A283_0, c283_0, e283, hx283_0, hl283_0, hi283_0⟩ := at_T58 HR0_2.out x7_2 p283 q283
 cases e283
 replace hx283_0 := cl_ HB.out hx283_0
 have HR283_0 := Aside0.mk hi283_0
 have HC283_0 := Aside0.mk hl283_0
 clear hi283_0 hl283_0
 replace p283 := eq_true p283
 replace q283 := eq_true q283
 go_wp2
 go_loopg [9, 10] k2 (fun kq v9 v10 w' => ∃ (x9_3 : List (S53)) (x10_3 : Int), v10 = .int .i64 x10_3 ∧ Aside0 (fencepostref07_Code.l2 kq t272 x7_2 ((rd_T58 l0_2 x7_2).f0) x9_3 x10_3 a0_0 l0_1 l0_2 a0_3 l0_4 x279000_1 x279001_2 = some (r1, r2, r3)) ∧ Aside0 (kq ≤ k2) ∧ Aside0 (Kd.R Kd.string 9 w' w.heap.size (fun _ => True) (.slice Ao14 t272.length co14) t272) ∧ Aside0 (Kd.R k53 53 w' w.heap.size (fun _ => True) v9 x9_3) ∧ Aside0 (Kd.R (Kd.int .i64) 3 w' w.heap.size (fun _ => True) u279000 x279000_1) ∧ Aside0 (Kd.S (Kd.slice 53 k53) 50 w' w.heap.size (fun k_ => some k_ ≠ (v9 : Value).ownBlock) u279001 x279001_2) ∧ Aside0 (w'.heap[gb269]? = some (.cells #[.string a0_0, (.slice A0_1 l0_1.length c0_1), (.slice (some ad283) l0_2.length c0_2), .bool a0_3, (.slice A0_4 l0_4.length c0_4)] 30 (0, 0))) ∧ Aside0 (w'.heap[gb270]? = some (.cells #[(.slice none 0 0), (.slice none 0 0)] 25 (0, 0))) ∧ Aside0 (w'.heap[gb278]? = some (.cells #[u279000, u279001] 25 (0, 0))) ∧ Aside0 (Below w.heap.size w w'))
 case atStart => exact ⟨(([] : List (S53))), (0), rf_, H', ⟨Nat.le_refl _⟩, ⟨rd_ HO_4.out⟩, ⟨by first | exact Kd.R_nil _ _ _ _ _ | exact Kd.N_nil _ _ _ _ _ | exact Kd.V_nil _ _ _ _ _ | exact Kd.Q_nil _ _ _ _ _ | exact Kd.S_nil _ _ _ _ _⟩, ⟨rd_ HO_279000.out⟩, ⟨by (with_reducible repeat (first | apply Kd.S_alloc | apply Kd.S_drewN | apply Kd.S_drew)); exact Kd.S_mono HO_279001.out (fun _ hk => (by simp [Value.ownBlock]))⟩, ⟨bd_ BK269.out⟩, ⟨bd_ BK270.out⟩, ⟨bd_ BK278.out⟩, ⟨hb_ HB.out⟩⟩
 clear H'
 try clear c3
 try clear c5
 try clear c5b0
 try clear c5b1
 try clear c6
 try clear c6b0
 try clear c6b1
 try clear c22
 try clear c22b0
 try clear c36
 try clear c36b0
 try clear c37
 try clear c37b0
 try clear hcz10_0
 try clear hcz10_1
 try clear hcz10_2
 try clear hcz10_3
 try clear hcz10_4
 try clear hcz12_0
 try clear hcz12_1
 try clear hcz12_2
 try clear hcz12_3
 try clear hcz12_4
 try clear hcz21_0
 try clear hcz21_1
 try clear hcz35_0
 try clear hcz35_1
 try clear hcz35_2
 try clear hcz35_3
 try clear hcz35_4
 try clear hcz40_0
 try clear hcz40_1
 try clear hcz40_2
 try clear hcz40_3
 try clear hcz40_4
 try clear hfz10_0
 try clear hfz10_1
 try clear hfz10_2
 try clear hfz10_3
 try clear hfz10_4
 try clear hfz12_0
 try clear hfz12_1
 try clear hfz12_2
 try clear hfz12_3
 try clear hfz12_4
 try clear hfz21_0
 try clear hfz21_1
 try clear hfz35_0
 try clear hfz35_1
 try clear hfz35_2
 try clear hfz35_3
 try clear hfz35_4
 try clear hfz40_0
 try clear hfz40_1
 try clear hfz40_2
 try clear hfz40_3
 try clear hfz40_4
 try clear hx283_0
 try clear p283
 try clear q283
 obtain ⟨x9_3, x10_3, rfl, HA, HK3, HO_4, HO_9, HO_279000, HO_279001, BK269, BK270, BK278, HB⟩ := hrel
 cases gk with
 | zero => exact absurd HA.out (by simp [fencepostref07_Code.l2])
 | succ k3 => ?_
 have H := HA.out
 clear HA
 simp only [fencepostref07_Code.l2] at H
 by_cases c41 : x10_3 < (((rd_T58 l0_2 x7_2).f0).length : Int)
 rotate_left
 ·rw [if_neg c41] at H
  have c41b0 : decide (x10_3 < (((rd_T58 l0_2 x7_2).f0).length : Int)) = false := decide_eq_false c41
  clear c41
  by_cases c48 : x279001_2.length < 5864062014805
  rotate_left
  ·rw [if_neg c48] at H
   exact absurd H (by simp)
  rw [if_pos c48] at H
  have LMc48 := Aside0.mk c48
  clear c48
  obtain ⟨y293, hy293⟩ : ∃ y_ : List (List (S53)), y_ = (x279001_2 ++ [x9_3]) := ⟨_, rfl⟩
  replace H : (fencepostref07_Code.l1 k3 t272 (wrap64 (x7_2 + 1)) a0_0 l0_1 l0_2 a0_3 l0_4 x279000_1 y293) = some (r1, r2, r3) := by first | (rw [hy293]; with_reducible exact H) | (have H2_ := (Option.bind_some _ _).symm.trans H; rw [hy293]; with_reducible exact H2_) | (have H2_ := (Option.bind_some _ _).symm.trans H; with_reducible exact H2_) | with_reducible exact H | (rw [hy293]; exact H) | exact H
  have Ny293 := Aside0.mk hy293
  clear hy293
  have H' := Aside0.mk H
  clear H
  have hnb49 := NB278_269.out
  have hnc49 := NB269_278.out
  have hnb50 := NB278_270.out
  have hnc50 := NB270_278.out
  have hcz51_0 : wr.cell? ⟨gb278, 0, none⟩ = some (u279000) := (blk_cell BK278.out 0).trans rfl
  have hcz51_1 : wr.cell? ⟨gb278, 1, none⟩ = some (u279001) := (blk_cell BK278.out 1).trans rfl
  have hfz51_0 := blk_frozen BK278.out 0
  have hfz51_1 := blk_frozen BK278.out 1
  obtain ⟨Ao53, co53, eo53⟩ := Kd.R_slice HO_9.out
  subst eo53
  go_wp2_with (first | ((with_reducible refine gate_builtin (b := .append) (xs := #[.tmp 78, .tmp 80]) rfl ?_); at_builtin; refine Kd.S_append (Kd.slice 53 k53) (w0 := w) w.heap.size rfl (.tmp 78) (.tmp 80) 23 50 (.slice none 0 0) 24 rfl Try.underlying23 info50 rfl (by decide) (by omega) u279001 x279001_2 x9_3 [.slice Ao53 x9_3.length co53] (fun _ => True) (fun k_ => some k_ = (.slice Ao53 x9_3.length co53 : Value).ownBlock) rfl rfl ?aP (fun k_ hk_ => ((Kd.R_mono (ok' := fun k_ => ((fun _ => True)) k_ ∧ some k_ ≠ (u279001 : Value).ownBlock) (Kd.R_apart' (HO_9.out) (Kd.S_typed HO_279001.out) (by decide)) (fun k_ hk => ⟨trivial, hk.2⟩))).1 k_ hk_.symm) ?aF ?aO ?aB ?aS ?aL ?_; (case aP => exact Kd.M_row (Kd.R_mono (Kd.R_tight rfl (Kd.R_mono (ok' := fun k_ => ((fun _ => True)) k_ ∧ some k_ ≠ (u279001 : Value).ownBlock) (Kd.R_apart' (HO_9.out) (Kd.S_typed HO_279001.out) (by decide)) (fun k_ hk => ⟨trivial, hk.2⟩))) (fun _ h_ => h_))); (case aB => exact (hb_ HB.out)); (case aF => exact (fun _ _ => trivial)); (case aO => exact (by (with_reducible repeat (first | apply Kd.S_alloc | apply Kd.S_drewN | apply Kd.S_drew)); exact Kd.S_mono HO_279001.out (fun k_ hk => ⟨trivial, fun e_ => hk e_⟩))); (case aS => exact (below_size (hb_ HB.out))); (case aL => have := LMc48.out; omega); intro v294 w52 ho hb hg hat; rw [← Ny293.out] at ho; have n0_ := Aside0.mk (Kd.R_over' (rd_ HO_4.out) (Kd.S_typed (sd_ HO_279001.out)) (by decide) hg); have n1_ := Aside0.mk (Kd.R_over' (rd_ HO_279000.out) (Kd.S_typed (sd_ HO_279001.out)) (by decide) hg); have n2_ := Aside0.mk (blk_grown (g := gb269) (o := .cells #[.string a0_0, .slice A0_1 l0_1.length c0_1, .slice (some ad283) l0_2.length c0_2, .bool a0_3, .slice A0_4 l0_4.length c0_4] 30 (0, 0)) (bd_ BK269.out) hg (Kd.S_ne HO_279001.out BK269.out (by decide))); have n3_ := Aside0.mk (blk_grown (g := gb270) (o := .cells #[.slice none 0 0, .slice none 0 0] 25 (0, 0)) (bd_ BK270.out) hg (Kd.S_ne HO_279001.out BK270.out (by decide))); have n4_ := Aside0.mk (blk_grown (g := gb278) (o := .cells #[u279000, u279001] 25 (0, 0)) (bd_ BK278.out) hg (Kd.S_ne HO_279001.out BK278.out (by decide))); have n5_ := Aside0.mk (hb); have n6_ := Aside0.mk (ho); clear HO_4; clear HO_279000; clear BK269; clear BK270; clear BK278; clear HB; clear HO_279001; clear HO_9; have HO_4 := n0_; have HO_279000 := n1_; have BK269 := n2_; have BK270 := n3_; have BK278 := n4_; have HB := n5_; have HO295 := n6_; clear n0_ n1_ n2_ n3_ n4_ n5_ n6_; clear ho hb hg hat; obtain ⟨Ao54, co54, eo54⟩ := Kd.S_slice HO295.out; subst eo54; have hcz55_0 : w52.cell? ⟨gb278, 0, none⟩ = some (u279000) := (blk_cell BK278.out 0).trans rfl; have hcz55_1 : w52.cell? ⟨gb278, 1, none⟩ = some (u279001) := (blk_cell BK278.out 1).trans rfl; have hfz55_0 := blk_frozen BK278.out 0; have hfz55_1 := blk_frozen BK278.out 1))
  go_roundg k3
  case measure => have := HK1.out; have := HK2.out; have := HK3.out; omega
  case rel => exact ⟨(wrap64 (x7_2 + 1)), (y293), (.slice Ao54 y293.length co54), rf_, H', ⟨by have := HK1.out; have := HK2.out; have := HK3.out; omega⟩, ⟨by (with_reducible repeat (first | apply Kd.R_alloc | apply Kd.R_drewN | apply Kd.R_drew)); exact Kd.R_mono (Kd.R_far (p := ⟨gb278, 1, none⟩) (Kd.R_types HO_4.out BK278.out (by decide)) (fun _ hk => hk.2) (.slice Ao54 y293.length co54)) (fun _ hk => trivial)⟩, ⟨by (with_reducible repeat (first | apply Kd.R_alloc | apply Kd.R_drewN | apply Kd.R_drew)); exact Kd.R_mono (Kd.R_far (p := ⟨gb278, 1, none⟩) (Kd.R_types HO_279000.out BK278.out (by decide)) (fun _ hk => hk.2) (.slice Ao54 y293.length co54)) (fun _ hk => trivial)⟩, ⟨by (with_reducible repeat (first | apply Kd.S_alloc | apply Kd.S_drewN | apply Kd.S_drew)); exact Kd.S_mono (Kd.S_far (p := ⟨gb278, 1, none⟩) (Kd.S_types HO295.out BK278.out (by decide)) (fun _ hk => hk.2) (.slice Ao54 y293.length co54)) (fun _ hk => trivial)⟩, ⟨by (with_reducible repeat (first | refine blk_drewN ?_ _ | refine blk_drew ?_ | refine blk_alloc ?_ _)); refine blk_far ?_ NB269_278.out _; (with_reducible repeat (first | refine blk_drewN ?_ _ | refine blk_drew ?_ | refine blk_alloc ?_ _)); exact BK269.out⟩, ⟨by (with_reducible repeat (first | refine blk_drewN ?_ _ | refine blk_drew ?_ | refine blk_alloc ?_ _)); refine blk_far ?_ NB270_278.out _; (with_reducible repeat (first | refine blk_drewN ?_ _ | refine blk_drew ?_ | refine blk_alloc ?_ _)); exact BK270.out⟩, ⟨by (with_reducible repeat (first | refine blk_drewN ?_ _ | refine blk_drew ?_ | refine blk_alloc ?_ _)); refine blk_put (cs := #[u279000, u279001]) ?_ 1 _ rfl; (with_reducible repeat (first | refine blk_drewN ?_ _ | refine blk_drew ?_ | refine blk_alloc ?_ _)); exact BK278.out⟩, ⟨hb_ HB.out⟩⟩
 rw [if_pos c41] at H
 have c41b0 : decide (x10_3 < (((rd_T58 l0_2 x7_2).f0).length : Int)) = true := decide_eq_true c41
 clear c41
 by_cases c42 : 0 ≤ x10_3
 rotate_left
 ·rw [if_neg c42] at H
  exact absurd H (by simp)
 rw [if_pos c42] at H
 have c42b0 : decide (0 ≤ x10_3) = true := decide_eq_true c42
 clear c42
 by_cases c43 : ((rd_T60 ((rd_T58 l0_2 x7_2).f0) x10_3).f0) = 11
 ·rw [if_pos c43] at H
  have c43b0 : (((rd_T60 ((rd_T58 l0_2 x7_2).f0) x10_3).f0) == 11) = true := beq_iff_eq.mpr c43
  have c43b1 : (((rd_T60 ((rd_T58 l0_2 x7_2).f0) x10_3).f0) != 11) = false := bne_eq_false_iff_eq.mpr c43
  clear c43
  have H' := Aside0.mk H
  clear H
  have p284 : 0 ≤ (x10_3 : Int) := of_decide_eq_true as_
  have q284 : x10_3 < (((rd_T58 l0_2 x7_2).f0).length : Int) := of_decide_eq_true as_
  obtain ⟨ad284, e284, hx284_0, hx284_1, hx284_2, hx284_3, hx284_4⟩ := at_T60 HR283_0.out x10_3 p284 q284
  cases e284
  replace hx284_0 := cl_ HB.out hx284_0
  replace hx284_1 := cl_ HB.out hx284_1
  replace hx284_2 := cl_ HB.out hx284_2
  replace hx284_3 := cl_ HB.out hx284_3
  replace hx284_4 := cl_ HB.out hx284_4
  replace p284 := eq_true p284
  replace q284 := eq_true q284
  go_wp2
  go_roundg k3
  case measure => have := HK1.out; have := HK2.out; have := HK3.out; omega
  case rel => exact ⟨(x9_3), (wrap64 (x10_3 + 1)), rf_, H', ⟨by have := HK1.out; have := HK2.out; have := HK3.out; omega⟩, ⟨rd_ HO_4.out⟩, ⟨rd_ HO_9.out⟩, ⟨rd_ HO_279000.out⟩, ⟨sd_ HO_279001.out⟩, ⟨bd_ BK269.out⟩, ⟨bd_ BK270.out⟩, ⟨bd_ BK278.out⟩, ⟨hb_ HB.out⟩⟩
 rw [if_neg c43] at H
 have c43b0 : (((rd_T60 ((rd_T58 l0_2 x7_2).f0) x10_3).f0) == 11) = false := beq_eq_false_iff_ne.mpr c43
 have c43b1 : (((rd_T60 ((rd_T58 l0_2 x7_2).f0) x10_3).f0) != 11) = true := bne_iff_ne.mpr c43
 replace H := Option.bind_eq_some_iff.mp H
 obtain ⟨⟨t285, t286, t287, t288, t289⟩, A440, H⟩ := H
 replace H : (if x9_3.length < 3518437208883 then (fencepostref07_Code.l2 k3 t272 x7_2 ((rd_T58 l0_2 x7_2).f0) (x9_3 ++ [(⟨t285, t286, t287, t288, t289⟩ : S53)]) (wrap64 (x10_3 + 1)) a0_0 l0_1 l0_2 a0_3 l0_4 x279000_1 x279001_2) else (none)) = some (r1, r2, r3) := H
 have A44 := Aside0.mk A440
 clear A440
 by_cases c45 : x9_3.length < 3518437208883
 rotate_left
 ·rw [if_neg c45] at H
  exact absurd H (by simp)
 rw [if_pos c45] at H
 have LMc45 := Aside0.mk c45
 clear c45
 obtain ⟨y290, hy290⟩ : ∃ y_ : List (S53), y_ = (x9_3 ++ [(⟨t285, t286, t287, t288, t289⟩ : S53)]) := ⟨_, rfl⟩
 replace H : (fencepostref07_Code.l2 k3 t272 x7_2 ((rd_T58 l0_2 x7_2).f0) y290 (wrap64 (x10_3 + 1)) a0_0 l0_1 l0_2 a0_3 l0_4 x279000_1 x279001_2) = some (r1, r2, r3) := by first | (rw [hy290]; with_reducible exact H) | (have H2_ := (Option.bind_some _ _).symm.trans H; rw [hy290]; with_reducible exact H2_) | (have H2_ := (Option.bind_some _ _).symm.trans H; with_reducible exact H2_) | with_reducible exact H | (rw [hy290]; exact H) | exact H
 have Ny290 := Aside0.mk hy290
 clear hy290
 have H' := Aside0.mk H
 clear H
 have p284 : 0 ≤ (x10_3 : Int) := of_decide_eq_true as_
 have q284 : x10_3 < (((rd_T58 l0_2 x7_2).f0).length : Int) := of_decide_eq_true as_
 obtain ⟨ad284, e284, hx284_0, hx284_1, hx284_2, hx284_3, hx284_4⟩ := at_T60 HR283_0.out x10_3 p284 q284
 cases e284
 replace hx284_0 := cl_ HB.out hx284_0
 replace hx284_1 := cl_ HB.out hx284_1
 replace hx284_2 := cl_ HB.out hx284_2
 replace hx284_3 := cl_ HB.out hx284_3
 replace hx284_4 := cl_ HB.out hx284_4
 replace p284 := eq_true p284
 replace q284 := eq_true q284
 go_wp2_with (first | ((with_reducible refine gate_callee (f := 47) rfl ?_); refine goesL_ (some 74) rfl rfl Try.func47 (by kernel_rfl) rfl #[.slice (some ad284) ((rd_T58 l0_2 x7_2).f0).length c283_0, .int .i64 x10_3, .slice Ao14 t272.length co14] rfl ar_ ?_; (with_reducible refine (fencepostref07_step.calls k3 _ _ ((rd_T58 l0_2 x7_2).f0) x10_3 _ _ t272 t285 t286 t287 t288 t289 _ ?side1 ?side2 ?side3 ?side4 A44.out).mono ?_); (case side1 => exact cd_ (Kd.C_below HR283_0.out HB.out)); (case side2 => exact HC283_0.out); (case side3 => repeat (first | exact (Kd.R_reads' HO_4.out).2.2 | (with_reducible refine Kd.C_alloc ?_ _) | (with_reducible refine Kd.C_drewN ?_ _) | (with_reducible refine Kd.C_drew ?_))); (case side4 => exact (Kd.R_reads' HO_4.out).2.1); rintro e w46 ⟨rfl, hb⟩; refine ⟨_, rfl, ?_⟩; have n0_ := Aside0.mk (Kd.R_below (rd_ HO_4.out) hb); have n1_ := Aside0.mk (Kd.R_below (rd_ HO_9.out) hb); have n2_ := Aside0.mk (Kd.R_below (rd_ HO_279000.out) hb); have n3_ := Aside0.mk (Kd.S_below (sd_ HO_279001.out) hb); have n4_ := Aside0.mk (bb_ BK269.out hb); have n5_ := Aside0.mk (bb_ BK270.out hb); have n6_ := Aside0.mk (bb_ BK278.out hb); have n7_ := Aside0.mk (below_step (hb_ HB.out) hb); clear HO_4; clear HO_9; clear HO_279000; clear HO_279001; clear BK269; clear BK270; clear BK278; clear HB; have HO_4 := n0_; have HO_9 := n1_; have HO_279000 := n2_; have HO_279001 := n3_; have BK269 := n4_; have BK270 := n5_; have BK278 := n6_; have HB := n7_; clear n0_ n1_ n2_ n3_ n4_ n5_ n6_ n7_; (try clear hb); (try clear hb2); (try clear hk); (try clear hi)) | ((with_reducible refine gate_builtin (b := .append) (xs := #[.tmp 70, .tmp 75]) rfl ?_); at_builtin; refine Kd.R_append k53 (w0 := w) w.heap.size rfl (.tmp 70) (.tmp 75) 50 53 (.agg #[(.int .i64 0), (.int .i64 0), (.int .i64 0), (.int .i64 0), (.int .i64 0)]) 40 rfl Try.underlying50 info53 rfl (by decide) (by omega) u9 x9_3 (⟨t285, t286, t287, t288, t289⟩ : S53) [.int .i64 t285, .int .i64 t286, .int .i64 t287, .int .i64 t288, .int .i64 t289] (fun _ => True) (fun _ => False) rfl rfl ?aP (fun _ hk => hk.elim) ?aF ?aO ?aB ?aS ?aL ?_; (case aP => exact k53_mkM _ _ _ (⟨t285, t286, t287, t288, t289⟩ : S53)); (case aB => exact (hb_ HB.out)); (case aF => exact (fun _ _ => trivial)); (case aO => exact (rd_ HO_9.out)); (case aS => exact (below_size (hb_ HB.out))); (case aL => have := LMc45.out; omega); intro v291 w47 ho hb hg hat; rw [← Ny290.out] at ho; have n0_ := Aside0.mk (Kd.R_over' (rd_ HO_4.out) (Kd.R_typed (rd_ HO_9.out)) (by decide) hg); have n1_ := Aside0.mk (Kd.R_over' (rd_ HO_279000.out) (Kd.R_typed (rd_ HO_9.out)) (by decide) hg); have n2_ := Aside0.mk (Kd.S_after (ok := (fun _ => True)) (by (with_reducible repeat (first | apply Kd.S_alloc | apply Kd.S_drewN | apply Kd.S_drew)); exact Kd.S_mono HO_279001.out (fun _ hk => ⟨trivial, hk⟩)) hg hat); have n3_ := Aside0.mk (blk_grown (g := gb269) (o := .cells #[.string a0_0, .slice A0_1 l0_1.length c0_1, .slice (some ad283) l0_2.length c0_2, .bool a0_3, .slice A0_4 l0_4.length c0_4] 30 (0, 0)) (bd_ BK269.out) hg (Kd.R_ne HO_9.out BK269.out (by decide))); have n4_ := Aside0.mk (blk_grown (g := gb270) (o := .cells #[.slice none 0 0, .slice none 0 0] 25 (0, 0)) (bd_ BK270.out) hg (Kd.R_ne HO_9.out BK270.out (by decide))); have n5_ := Aside0.mk (blk_grown (g := gb278) (o := .cells #[u279000, u279001] 25 (0, 0)) (bd_ BK278.out) hg (Kd.R_ne HO_9.out BK278.out (by decide))); have n6_ := Aside0.mk (hb); have n7_ := Aside0.mk (ho); clear HO_4; clear HO_279000; clear HO_279001; clear BK269; clear BK270; clear BK278; clear HB; clear HO_9; have HO_4 := n0_; have HO_279000 := n1_; have HO_279001 := n2_; have BK269 := n3_; have BK270 := n4_; have BK278 := n5_; have HB := n6_; have HO292 := n7_; clear n0_ n1_ n2_ n3_ n4_ n5_ n6_ n7_; clear ho hb hg hat))
 go_roundg k3
 case measure => have := HK1.out; have := HK2.out; have := HK3.out; omega
 case rel => exact ⟨(y290), (wrap64 (x10_3 + 1)), rf_, H', ⟨by have := HK1.out; have := HK2.out; have := HK3.out; omega⟩, ⟨rd_ HO_4.out⟩, ⟨rd_ HO292.out⟩, ⟨rd_ HO_279000.out⟩, ⟨by (with_reducible repeat (first | apply Kd.S_alloc | apply Kd.S_drewN | apply Kd.S_drew)); exact Kd.S_mono HO_279001.out (fun _ hk => hk.2)⟩, ⟨bd_ BK269.out⟩, ⟨bd_ BK270.out⟩, ⟨bd_ BK278.out⟩, ⟨hb_ HB.out⟩⟩
end Go.Proofs.Ytijpfonbeepmfaa.Print
