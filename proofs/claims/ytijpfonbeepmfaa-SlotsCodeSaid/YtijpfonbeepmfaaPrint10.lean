-- Written by ownprint.py (this session's) with the kit's print.py: functions, contracts, rows; Lean checks it.
import Derived.Test.YtijpfonbeepmfaaPrint0
import Derived.Test.YtijpfonbeepmfaaPrint9
import Derived.Test.YtijpfonbeepmfaaHSq
namespace Go.Proofs.Ytijpfonbeepmfaa.Print
open Go.RowKit Go.Proofs.YtijpfonbeepmfaaW.PrintWords Go.Proofs.YtijpfonbeepmfaaW.PrintLast Go.Proofs.YtijpfonbeepmfaaW.PrintMore
attribute [local go_sem] max2_int min2_int max_two min_two max_three min_three max_four min_four   -- for this text's walks alone
set_option linter.unusedVariables false
set_option linter.unusedSimpArgs false
def fencepostref04_head.l0 : Nat → Int → ByteArray → List (S62) → List (S58) → Bool → List (S64) → Option (Int)
 | 0, _, _, _, _, _, _ => none
 | k + 1, x3, x157000, x157001, x157002, x157003, x157004 => if x3 < (x157001.length : Int) then (if 0 ≤ x3 then ((fencepostref02_Name.f k ((rd_T62 x157001 x3).f0)).bind fun t159 => (if t159 = true then (if x3 > 0 then (if 0 ≤ (wrap64 (x3 - 1)) then (if (wrap64 (x3 - 1)) < (x157001.length : Int) then (if ((Op.bytesLess (((rd_T62 x157001 (wrap64 (x3 - 1))).f0).toList) (((rd_T62 x157001 x3).f0).toList)) = true) then (fencepostref04_head.l0 k (wrap64 (x3 + 1)) x157000 x157001 x157002 x157003 x157004) else (some 21)) else (none)) else (none)) else (fencepostref04_head.l0 k (wrap64 (x3 + 1)) x157000 x157001 x157002 x157003 x157004)) else (some 22))) else (none)) else (if (x157002.length : Int) < 1 then (some 5) else (if (x157002.length : Int) > 3 then (some 5) else (some 0)))
def fencepostref04_head.f (k : Nat) (a0_0 : ByteArray) (l0_1 : List (S62)) (l0_2 : List (S58)) (a0_3 : Bool) (l0_4 : List (S64)) : Option (Int) := (fencepostref02_Name.f k a0_0).bind fun t157 => (if t157 = true then (fencepostref04_head.l0 k 0 a0_0 l0_1 l0_2 a0_3 l0_4) else (some 22))
set_option maxHeartbeats 8000000 in
set_option maxRecDepth 100000 in
theorem fencepostref04_head.calls (k : Nat) (a0_0 : ByteArray) (A0_1 : Option Addr) (c0_1 : Nat) (l0_1 : List (S62)) (A0_2 : Option Addr) (c0_2 : Nat) (l0_2 : List (S58)) (a0_3 : Bool) (A0_4 : Option Addr) (c0_4 : Nat) (l0_4 : List (S64)) (r : Int) (w : World) (hr0_1 : Kd.C k62 w A0_1 l0_1.length l0_1) (hc0_1 : l0_1.length ≤ c0_1) (hr0_2 : Kd.C k58 w A0_2 l0_2.length l0_2) (hc0_2 : l0_2.length ≤ c0_2) (hr0_4 : Kd.C k64 w A0_4 l0_4.length l0_4) (hc0_4 : l0_4.length ≤ c0_4) (h : fencepostref04_head.f k a0_0 l0_1 l0_2 a0_3 l0_4 = some r) :
 Calls Try.prog 53 #[.agg #[.string a0_0, .slice A0_1 l0_1.length c0_1, .slice A0_2 l0_2.length c0_2, .bool a0_3, .slice A0_4 l0_4.length c0_4]] w fun e w' => e = .returned (.int .i64 r) ∧ Below w.heap.size w w' := by
 have hu30 := Try.underlying30
 have HR0_1 := Aside0.mk hr0_1
 have HC0_1 := Aside0.mk hc0_1
 clear hr0_1 hc0_1
 have HR0_2 := Aside0.mk hr0_2
 have HC0_2 := Aside0.mk hc0_2
 clear hr0_2 hc0_2
 have HR0_4 := Aside0.mk hr0_4
 have HC0_4 := Aside0.mk hc0_4
 clear hr0_4 hc0_4
 have HB := Aside0.mk (Below.refl w.heap.size w)
 have H : ((fencepostref02_Name.f k a0_0).bind fun t157 => (if t157 = true then (fencepostref04_head.l0 k 0 a0_0 l0_1 l0_2 a0_3 l0_4) else (some 22))) = some r := h
 clear h
 replace H := Option.bind_eq_some_iff.mp H
 obtain ⟨t157, A20, H⟩ := H
 replace H : (if t157 = true then (fencepostref04_head.l0 k 0 a0_0 l0_1 l0_2 a0_3 l0_4) else (some 22)) = some r := H
 have A2 := Aside0.mk A20
 clear A20
 by_cases c3 : t157 = true
 rotate_left
 ·replace c3 := Bool.eq_false_iff.mpr c3
  subst c3
  have H1 : (some 22) = some r := by rw [if_neg (show ¬ (false = true) by decide)] at H; exact H
  clear H
  have H := H1
  clear H1
  obtain rfl := Option.some.inj H
  go_enter Try.func53, Try.ntmps53
  go_wp2_with (first | ((with_reducible refine gate_dst (N := 1) rfl ?_); (try (refine gate_guard (by rfl) ?_; dsimp only)); refine box_event ?hg (N := 1) ?hd (cs := #[.string a0_0, .slice A0_1 l0_1.length c0_1, .slice A0_2 l0_2.length c0_2, .bool a0_3, .slice A0_4 l0_4.length c0_4]) (t := 30) ?hr ?_; (case hd => rfl); (case hg => rfl); (case hr => first | (go_simp; done) | (go_simp; rfl)); intro gb156 hg w31 hbox hb; have n0_ := Aside0.mk (below_step (hb_ HB.out) hb); have n1_ := Aside0.mk (hbox); have n2_ := Aside0.mk (gs_ hg (hb_ HB.out)); have n3_ := Aside0.mk (gs_ hg (hb_ HB.out)); clear HB; have HB := n0_; have BK156 := n1_; have GW156 := n2_; have GE156 := n3_; clear n0_ n1_ n2_ n3_; clear hb hbox hg; have hcz32_0 : w31.cell? ⟨gb156, 0, none⟩ = some (.string a0_0) := (blk_cell BK156.out 0).trans rfl; have hcz32_1 : w31.cell? ⟨gb156, 1, none⟩ = some (.slice A0_1 l0_1.length c0_1) := (blk_cell BK156.out 1).trans rfl; have hcz32_2 : w31.cell? ⟨gb156, 2, none⟩ = some (.slice A0_2 l0_2.length c0_2) := (blk_cell BK156.out 2).trans rfl; have hcz32_3 : w31.cell? ⟨gb156, 3, none⟩ = some (.bool a0_3) := (blk_cell BK156.out 3).trans rfl; have hcz32_4 : w31.cell? ⟨gb156, 4, none⟩ = some (.slice A0_4 l0_4.length c0_4) := (blk_cell BK156.out 4).trans rfl; have hfz32_0 := blk_frozen BK156.out 0; have hfz32_1 := blk_frozen BK156.out 1; have hfz32_2 := blk_frozen BK156.out 2; have hfz32_3 := blk_frozen BK156.out 3; have hfz32_4 := blk_frozen BK156.out 4) | (go_at_call 60; (with_reducible refine (fencepostref02_Name.calls k a0_0 false _ A2.out).mono ?_); rintro e w33 ⟨rfl, hb⟩; have n0_ := Aside0.mk (bb_ BK156.out hb); have n1_ := Aside0.mk (below_step (hb_ HB.out) hb); clear BK156; clear HB; have BK156 := n0_; have HB := n1_; clear n0_ n1_; (try clear hb); (try clear hb2); (try clear hk); (try clear hi)))
  repeat (go_quiet (first | ((with_reducible refine gate_dst (N := 1) rfl ?_); (try (refine gate_guard (by rfl) ?_; dsimp only)); refine box_event ?hg (N := 1) ?hd (cs := #[.string a0_0, .slice A0_1 l0_1.length c0_1, .slice A0_2 l0_2.length c0_2, .bool a0_3, .slice A0_4 l0_4.length c0_4]) (t := 30) ?hr ?_; (case hd => rfl); (case hg => rfl); (case hr => first | (go_simp; done) | (go_simp; rfl)); intro gb156 hg w31 hbox hb; have n0_ := Aside0.mk (below_step (hb_ HB.out) hb); have n1_ := Aside0.mk (hbox); have n2_ := Aside0.mk (gs_ hg (hb_ HB.out)); have n3_ := Aside0.mk (gs_ hg (hb_ HB.out)); clear HB; have HB := n0_; have BK156 := n1_; have GW156 := n2_; have GE156 := n3_; clear n0_ n1_ n2_ n3_; clear hb hbox hg; have hcz32_0 : w31.cell? ⟨gb156, 0, none⟩ = some (.string a0_0) := (blk_cell BK156.out 0).trans rfl; have hcz32_1 : w31.cell? ⟨gb156, 1, none⟩ = some (.slice A0_1 l0_1.length c0_1) := (blk_cell BK156.out 1).trans rfl; have hcz32_2 : w31.cell? ⟨gb156, 2, none⟩ = some (.slice A0_2 l0_2.length c0_2) := (blk_cell BK156.out 2).trans rfl; have hcz32_3 : w31.cell? ⟨gb156, 3, none⟩ = some (.bool a0_3) := (blk_cell BK156.out 3).trans rfl; have hcz32_4 : w31.cell? ⟨gb156, 4, none⟩ = some (.slice A0_4 l0_4.length c0_4) := (blk_cell BK156.out 4).trans rfl; have hfz32_0 := blk_frozen BK156.out 0; have hfz32_1 := blk_frozen BK156.out 1; have hfz32_2 := blk_frozen BK156.out 2; have hfz32_3 := blk_frozen BK156.out 3; have hfz32_4 := blk_frozen BK156.out 4) | (go_at_call 60; (with_reducible refine (fencepostref02_Name.calls k a0_0 false _ A2.out).mono ?_); rintro e w33 ⟨rfl, hb⟩; have n0_ := Aside0.mk (bb_ BK156.out hb); have n1_ := Aside0.mk (below_step (hb_ HB.out) hb); clear BK156; clear HB; have BK156 := n0_; have HB := n1_; clear n0_ n1_; (try clear hb); (try clear hb2); (try clear hk); (try clear hi))); try go_wp2_with (first | ((with_reducible refine gate_dst (N := 1) rfl ?_); (try (refine gate_guard (by rfl) ?_; dsimp only)); refine box_event ?hg (N := 1) ?hd (cs := #[.string a0_0, .slice A0_1 l0_1.length c0_1, .slice A0_2 l0_2.length c0_2, .bool a0_3, .slice A0_4 l0_4.length c0_4]) (t := 30) ?hr ?_; (case hd => rfl); (case hg => rfl); (case hr => first | (go_simp; done) | (go_simp; rfl)); intro gb156 hg w31 hbox hb; have n0_ := Aside0.mk (below_step (hb_ HB.out) hb); have n1_ := Aside0.mk (hbox); have n2_ := Aside0.mk (gs_ hg (hb_ HB.out)); have n3_ := Aside0.mk (gs_ hg (hb_ HB.out)); clear HB; have HB := n0_; have BK156 := n1_; have GW156 := n2_; have GE156 := n3_; clear n0_ n1_ n2_ n3_; clear hb hbox hg; have hcz32_0 : w31.cell? ⟨gb156, 0, none⟩ = some (.string a0_0) := (blk_cell BK156.out 0).trans rfl; have hcz32_1 : w31.cell? ⟨gb156, 1, none⟩ = some (.slice A0_1 l0_1.length c0_1) := (blk_cell BK156.out 1).trans rfl; have hcz32_2 : w31.cell? ⟨gb156, 2, none⟩ = some (.slice A0_2 l0_2.length c0_2) := (blk_cell BK156.out 2).trans rfl; have hcz32_3 : w31.cell? ⟨gb156, 3, none⟩ = some (.bool a0_3) := (blk_cell BK156.out 3).trans rfl; have hcz32_4 : w31.cell? ⟨gb156, 4, none⟩ = some (.slice A0_4 l0_4.length c0_4) := (blk_cell BK156.out 4).trans rfl; have hfz32_0 := blk_frozen BK156.out 0; have hfz32_1 := blk_frozen BK156.out 1; have hfz32_2 := blk_frozen BK156.out 2; have hfz32_3 := blk_frozen BK156.out 3; have hfz32_4 := blk_frozen BK156.out 4) | (go_at_call 60; (with_reducible refine (fencepostref02_Name.calls k a0_0 false _ A2.out).mono ?_); rintro e w33 ⟨rfl, hb⟩; have n0_ := Aside0.mk (bb_ BK156.out hb); have n1_ := Aside0.mk (below_step (hb_ HB.out) hb); clear BK156; clear HB; have BK156 := n0_; have HB := n1_; clear n0_ n1_; (try clear hb); (try clear hb2); (try clear hk); (try clear hi))))
  go_ret
  exact ⟨by first | rfl | (simp [errW_none, errW_some] <;> rfl) | (simp [*, errW_none, errW_some] <;> rfl), hb_ HB.out⟩
 subst c3
 have H1 : (fencepostref04_head.l0 k 0 a0_0 l0_1 l0_2 a0_3 l0_4) = some r := by rw [if_pos rfl] at H; exact H
 clear H
 have H := H1
 clear H1
 have H' := Aside0.mk H
 clear H
 go_enter Try.func53, Try.ntmps53
 go_wp2_with (first | ((with_reducible refine gate_dst (N := 1) rfl ?_); (try (refine gate_guard (by rfl) ?_; dsimp only)); refine box_event ?hg (N := 1) ?hd (cs := #[.string a0_0, .slice A0_1 l0_1.length c0_1, .slice A0_2 l0_2.length c0_2, .bool a0_3, .slice A0_4 l0_4.length c0_4]) (t := 30) ?hr ?_; (case hd => rfl); (case hg => rfl); (case hr => first | (go_simp; done) | (go_simp; rfl)); intro gb156 hg w4 hbox hb; have n0_ := Aside0.mk (below_step (hb_ HB.out) hb); have n1_ := Aside0.mk (hbox); have n2_ := Aside0.mk (gs_ hg (hb_ HB.out)); have n3_ := Aside0.mk (gs_ hg (hb_ HB.out)); clear HB; have HB := n0_; have BK156 := n1_; have GW156 := n2_; have GE156 := n3_; clear n0_ n1_ n2_ n3_; clear hb hbox hg; have hcz5_0 : w4.cell? ⟨gb156, 0, none⟩ = some (.string a0_0) := (blk_cell BK156.out 0).trans rfl; have hcz5_1 : w4.cell? ⟨gb156, 1, none⟩ = some (.slice A0_1 l0_1.length c0_1) := (blk_cell BK156.out 1).trans rfl; have hcz5_2 : w4.cell? ⟨gb156, 2, none⟩ = some (.slice A0_2 l0_2.length c0_2) := (blk_cell BK156.out 2).trans rfl; have hcz5_3 : w4.cell? ⟨gb156, 3, none⟩ = some (.bool a0_3) := (blk_cell BK156.out 3).trans rfl; have hcz5_4 : w4.cell? ⟨gb156, 4, none⟩ = some (.slice A0_4 l0_4.length c0_4) := (blk_cell BK156.out 4).trans rfl; have hfz5_0 := blk_frozen BK156.out 0; have hfz5_1 := blk_frozen BK156.out 1; have hfz5_2 := blk_frozen BK156.out 2; have hfz5_3 := blk_frozen BK156.out 3; have hfz5_4 := blk_frozen BK156.out 4) | (go_at_call 60; (with_reducible refine (fencepostref02_Name.calls k a0_0 true _ A2.out).mono ?_); rintro e w6 ⟨rfl, hb⟩; have n0_ := Aside0.mk (bb_ BK156.out hb); have n1_ := Aside0.mk (below_step (hb_ HB.out) hb); clear BK156; clear HB; have BK156 := n0_; have HB := n1_; clear n0_ n1_; (try clear hb); (try clear hb2); (try clear hk); (try clear hi)))
 repeat (go_quiet (first | ((with_reducible refine gate_dst (N := 1) rfl ?_); (try (refine gate_guard (by rfl) ?_; dsimp only)); refine box_event ?hg (N := 1) ?hd (cs := #[.string a0_0, .slice A0_1 l0_1.length c0_1, .slice A0_2 l0_2.length c0_2, .bool a0_3, .slice A0_4 l0_4.length c0_4]) (t := 30) ?hr ?_; (case hd => rfl); (case hg => rfl); (case hr => first | (go_simp; done) | (go_simp; rfl)); intro gb156 hg w4 hbox hb; have n0_ := Aside0.mk (below_step (hb_ HB.out) hb); have n1_ := Aside0.mk (hbox); have n2_ := Aside0.mk (gs_ hg (hb_ HB.out)); have n3_ := Aside0.mk (gs_ hg (hb_ HB.out)); clear HB; have HB := n0_; have BK156 := n1_; have GW156 := n2_; have GE156 := n3_; clear n0_ n1_ n2_ n3_; clear hb hbox hg; have hcz5_0 : w4.cell? ⟨gb156, 0, none⟩ = some (.string a0_0) := (blk_cell BK156.out 0).trans rfl; have hcz5_1 : w4.cell? ⟨gb156, 1, none⟩ = some (.slice A0_1 l0_1.length c0_1) := (blk_cell BK156.out 1).trans rfl; have hcz5_2 : w4.cell? ⟨gb156, 2, none⟩ = some (.slice A0_2 l0_2.length c0_2) := (blk_cell BK156.out 2).trans rfl; have hcz5_3 : w4.cell? ⟨gb156, 3, none⟩ = some (.bool a0_3) := (blk_cell BK156.out 3).trans rfl; have hcz5_4 : w4.cell? ⟨gb156, 4, none⟩ = some (.slice A0_4 l0_4.length c0_4) := (blk_cell BK156.out 4).trans rfl; have hfz5_0 := blk_frozen BK156.out 0; have hfz5_1 := blk_frozen BK156.out 1; have hfz5_2 := blk_frozen BK156.out 2; have hfz5_3 := blk_frozen BK156.out 3; have hfz5_4 := blk_frozen BK156.out 4) | (go_at_call 60; (with_reducible refine (fencepostref02_Name.calls k a0_0 true _ A2.out).mono ?_); rintro e w6 ⟨rfl, hb⟩; have n0_ := Aside0.mk (bb_ BK156.out hb); have n1_ := Aside0.mk (below_step (hb_ HB.out) hb); clear BK156; clear HB; have BK156 := n0_; have HB := n1_; clear n0_ n1_; (try clear hb); (try clear hb2); (try clear hk); (try clear hi))); try go_wp2_with (first | ((with_reducible refine gate_dst (N := 1) rfl ?_); (try (refine gate_guard (by rfl) ?_; dsimp only)); refine box_event ?hg (N := 1) ?hd (cs := #[.string a0_0, .slice A0_1 l0_1.length c0_1, .slice A0_2 l0_2.length c0_2, .bool a0_3, .slice A0_4 l0_4.length c0_4]) (t := 30) ?hr ?_; (case hd => rfl); (case hg => rfl); (case hr => first | (go_simp; done) | (go_simp; rfl)); intro gb156 hg w4 hbox hb; have n0_ := Aside0.mk (below_step (hb_ HB.out) hb); have n1_ := Aside0.mk (hbox); have n2_ := Aside0.mk (gs_ hg (hb_ HB.out)); have n3_ := Aside0.mk (gs_ hg (hb_ HB.out)); clear HB; have HB := n0_; have BK156 := n1_; have GW156 := n2_; have GE156 := n3_; clear n0_ n1_ n2_ n3_; clear hb hbox hg; have hcz5_0 : w4.cell? ⟨gb156, 0, none⟩ = some (.string a0_0) := (blk_cell BK156.out 0).trans rfl; have hcz5_1 : w4.cell? ⟨gb156, 1, none⟩ = some (.slice A0_1 l0_1.length c0_1) := (blk_cell BK156.out 1).trans rfl; have hcz5_2 : w4.cell? ⟨gb156, 2, none⟩ = some (.slice A0_2 l0_2.length c0_2) := (blk_cell BK156.out 2).trans rfl; have hcz5_3 : w4.cell? ⟨gb156, 3, none⟩ = some (.bool a0_3) := (blk_cell BK156.out 3).trans rfl; have hcz5_4 : w4.cell? ⟨gb156, 4, none⟩ = some (.slice A0_4 l0_4.length c0_4) := (blk_cell BK156.out 4).trans rfl; have hfz5_0 := blk_frozen BK156.out 0; have hfz5_1 := blk_frozen BK156.out 1; have hfz5_2 := blk_frozen BK156.out 2; have hfz5_3 := blk_frozen BK156.out 3; have hfz5_4 := blk_frozen BK156.out 4) | (go_at_call 60; (with_reducible refine (fencepostref02_Name.calls k a0_0 true _ A2.out).mono ?_); rintro e w6 ⟨rfl, hb⟩; have n0_ := Aside0.mk (bb_ BK156.out hb); have n1_ := Aside0.mk (below_step (hb_ HB.out) hb); clear BK156; clear HB; have BK156 := n0_; have HB := n1_; clear n0_ n1_; (try clear hb); (try clear hb2); (try clear hk); (try clear hi))))
 go_loopg [3] k (fun kq v3 w' => ∃ (x3_1 : Int), v3 = .int .i64 x3_1 ∧ Aside0 (fencepostref04_head.l0 kq x3_1 a0_0 l0_1 l0_2 a0_3 l0_4 = some r) ∧ Aside0 (kq ≤ k) ∧ Aside0 (w'.heap[gb156]? = some (.cells #[.string a0_0, (.slice A0_1 l0_1.length c0_1), (.slice A0_2 l0_2.length c0_2), .bool a0_3, (.slice A0_4 l0_4.length c0_4)] 30 (0, 0))) ∧ Aside0 (Below w.heap.size w w'))
 case atStart => exact ⟨(0), rf_, H', ⟨Nat.le_refl _⟩, ⟨bd_ BK156.out⟩, ⟨hb_ HB.out⟩⟩
 clear H'
 try clear c3
 try clear hcz5_0
 try clear hcz5_1
 try clear hcz5_2
 try clear hcz5_3
 try clear hcz5_4
 try clear hfz5_0
 try clear hfz5_1
 try clear hfz5_2
 try clear hfz5_3
 try clear hfz5_4
 obtain ⟨x3_1, rfl, HA, HK1, BK156, HB⟩ := hrel
 cases gk with
 | zero => exact absurd HA.out (by simp [fencepostref04_head.l0])
 | succ k1 => ?_
 have H := HA.out
 clear HA
 simp only [fencepostref04_head.l0] at H
 by_cases c7 : x3_1 < (l0_1.length : Int)
 rotate_left
 ·rw [if_neg c7] at H
  have c7b0 : decide (x3_1 < (l0_1.length : Int)) = false := decide_eq_false c7
  clear c7
  by_cases c26 : (l0_2.length : Int) < 1
  ·rw [if_pos c26] at H
   have c26b0 : decide ((l0_2.length : Int) < 1) = true := decide_eq_true c26
   have c26b1 : decide (l0_2.length < 1) = true := decide_eq_true (by omega)
   clear c26
   obtain rfl := Option.some.inj H
   have hcz27_0 : wr.cell? ⟨gb156, 0, none⟩ = some (.string a0_0) := (blk_cell BK156.out 0).trans rfl
   have hcz27_1 : wr.cell? ⟨gb156, 1, none⟩ = some (.slice A0_1 l0_1.length c0_1) := (blk_cell BK156.out 1).trans rfl
   have hcz27_2 : wr.cell? ⟨gb156, 2, none⟩ = some (.slice A0_2 l0_2.length c0_2) := (blk_cell BK156.out 2).trans rfl
   have hcz27_3 : wr.cell? ⟨gb156, 3, none⟩ = some (.bool a0_3) := (blk_cell BK156.out 3).trans rfl
   have hcz27_4 : wr.cell? ⟨gb156, 4, none⟩ = some (.slice A0_4 l0_4.length c0_4) := (blk_cell BK156.out 4).trans rfl
   have hfz27_0 := blk_frozen BK156.out 0
   have hfz27_1 := blk_frozen BK156.out 1
   have hfz27_2 := blk_frozen BK156.out 2
   have hfz27_3 := blk_frozen BK156.out 3
   have hfz27_4 := blk_frozen BK156.out 4
   go_wp2
   repeat (go_quiet (fail); try go_wp2)
   go_ret
   exact ⟨by first | rfl | (simp [errW_none, errW_some] <;> rfl) | (simp [*, errW_none, errW_some] <;> rfl), hb_ HB.out⟩
  rw [if_neg c26] at H
  have c26b0 : decide ((l0_2.length : Int) < 1) = false := decide_eq_false c26
  have c26b1 : decide (l0_2.length < 1) = false := decide_eq_false (by omega)
  clear c26
  by_cases c28 : (l0_2.length : Int) > 3
  ·rw [if_pos c28] at H
   have c28b0 : decide (3 < (l0_2.length : Int)) = true := decide_eq_true c28
   have c28b1 : decide (3 < l0_2.length) = true := decide_eq_true (by omega)
   clear c28
   obtain rfl := Option.some.inj H
   have hcz29_0 : wr.cell? ⟨gb156, 0, none⟩ = some (.string a0_0) := (blk_cell BK156.out 0).trans rfl
   have hcz29_1 : wr.cell? ⟨gb156, 1, none⟩ = some (.slice A0_1 l0_1.length c0_1) := (blk_cell BK156.out 1).trans rfl
   have hcz29_2 : wr.cell? ⟨gb156, 2, none⟩ = some (.slice A0_2 l0_2.length c0_2) := (blk_cell BK156.out 2).trans rfl
   have hcz29_3 : wr.cell? ⟨gb156, 3, none⟩ = some (.bool a0_3) := (blk_cell BK156.out 3).trans rfl
   have hcz29_4 : wr.cell? ⟨gb156, 4, none⟩ = some (.slice A0_4 l0_4.length c0_4) := (blk_cell BK156.out 4).trans rfl
   have hfz29_0 := blk_frozen BK156.out 0
   have hfz29_1 := blk_frozen BK156.out 1
   have hfz29_2 := blk_frozen BK156.out 2
   have hfz29_3 := blk_frozen BK156.out 3
   have hfz29_4 := blk_frozen BK156.out 4
   go_wp2
   repeat (go_quiet (fail); try go_wp2)
   go_ret
   exact ⟨by first | rfl | (simp [errW_none, errW_some] <;> rfl) | (simp [*, errW_none, errW_some] <;> rfl), hb_ HB.out⟩
  rw [if_neg c28] at H
  have c28b0 : decide (3 < (l0_2.length : Int)) = false := decide_eq_false c28
  have c28b1 : decide (3 < l0_2.length) = false := decide_eq_false (by omega)
  clear c28
  obtain rfl := Option.some.inj H
  have hcz30_0 : wr.cell? ⟨gb156, 0, none⟩ = some (.string a0_0) := (blk_cell BK156.out 0).trans rfl
  have hcz30_1 : wr.cell? ⟨gb156, 1, none⟩ = some (.slice A0_1 l0_1.length c0_1) := (blk_cell BK156.out 1).trans rfl
  have hcz30_2 : wr.cell? ⟨gb156, 2, none⟩ = some (.slice A0_2 l0_2.length c0_2) := (blk_cell BK156.out 2).trans rfl
  have hcz30_3 : wr.cell? ⟨gb156, 3, none⟩ = some (.bool a0_3) := (blk_cell BK156.out 3).trans rfl
  have hcz30_4 : wr.cell? ⟨gb156, 4, none⟩ = some (.slice A0_4 l0_4.length c0_4) := (blk_cell BK156.out 4).trans rfl
  have hfz30_0 := blk_frozen BK156.out 0
  have hfz30_1 := blk_frozen BK156.out 1
  have hfz30_2 := blk_frozen BK156.out 2
  have hfz30_3 := blk_frozen BK156.out 3
  have hfz30_4 := blk_frozen BK156.out 4
  go_wp2
  repeat (go_quiet (fail); try go_wp2)
  go_ret
  exact ⟨by first | rfl | (simp [errW_none, errW_some] <;> rfl) | (simp [*, errW_none, errW_some] <;> rfl), hb_ HB.out⟩
 rw [if_pos c7] at H
 have c7b0 : decide (x3_1 < (l0_1.length : Int)) = true := decide_eq_true c7
 clear c7
 by_cases c8 : 0 ≤ x3_1
 rotate_left
 ·rw [if_neg c8] at H
  exact absurd H (by simp)
 rw [if_pos c8] at H
 have c8b0 : decide (0 ≤ x3_1) = true := decide_eq_true c8
 clear c8
 replace H := Option.bind_eq_some_iff.mp H
 obtain ⟨t159, A90, H⟩ := H
 replace H : (if t159 = true then (if x3_1 > 0 then (if 0 ≤ (wrap64 (x3_1 - 1)) then (if (wrap64 (x3_1 - 1)) < (l0_1.length : Int) then (if ((Op.bytesLess (((rd_T62 l0_1 (wrap64 (x3_1 - 1))).f0).toList) (((rd_T62 l0_1 x3_1).f0).toList)) = true) then (fencepostref04_head.l0 k1 (wrap64 (x3_1 + 1)) a0_0 l0_1 l0_2 a0_3 l0_4) else (some 21)) else (none)) else (none)) else (fencepostref04_head.l0 k1 (wrap64 (x3_1 + 1)) a0_0 l0_1 l0_2 a0_3 l0_4)) else (some 22)) = some r := H
 have A9 := Aside0.mk A90
 clear A90
 by_cases c10 : t159 = true
 rotate_left
 ·replace c10 := Bool.eq_false_iff.mpr c10
  subst c10
  have H1 : (some 22) = some r := by rw [if_neg (show ¬ (false = true) by decide)] at H; exact H
  clear H
  have H := H1
  clear H1
  obtain rfl := Option.some.inj H
  have hcz24_0 : wr.cell? ⟨gb156, 0, none⟩ = some (.string a0_0) := (blk_cell BK156.out 0).trans rfl
  have hcz24_1 : wr.cell? ⟨gb156, 1, none⟩ = some (.slice A0_1 l0_1.length c0_1) := (blk_cell BK156.out 1).trans rfl
  have hcz24_2 : wr.cell? ⟨gb156, 2, none⟩ = some (.slice A0_2 l0_2.length c0_2) := (blk_cell BK156.out 2).trans rfl
  have hcz24_3 : wr.cell? ⟨gb156, 3, none⟩ = some (.bool a0_3) := (blk_cell BK156.out 3).trans rfl
  have hcz24_4 : wr.cell? ⟨gb156, 4, none⟩ = some (.slice A0_4 l0_4.length c0_4) := (blk_cell BK156.out 4).trans rfl
  have hfz24_0 := blk_frozen BK156.out 0
  have hfz24_1 := blk_frozen BK156.out 1
  have hfz24_2 := blk_frozen BK156.out 2
  have hfz24_3 := blk_frozen BK156.out 3
  have hfz24_4 := blk_frozen BK156.out 4
  have p158 : 0 ≤ (x3_1 : Int) := of_decide_eq_true as_
  have q158 : x3_1 < (l0_1.length : Int) := of_decide_eq_true as_
  obtain ⟨ad158, e158, hx158_0, hx158_1⟩ := at_T62 HR0_1.out x3_1 p158 q158
  cases e158
  replace hx158_0 := cl_ HB.out hx158_0
  replace hx158_1 := cl_ HB.out hx158_1
  replace p158 := eq_true p158
  replace q158 := eq_true q158
  go_wp2_with (first | (go_at_call 60; (with_reducible refine (fencepostref02_Name.calls k1 ((rd_T62 l0_1 x3_1).f0) false _ A9.out).mono ?_); rintro e w25 ⟨rfl, hb⟩; have n0_ := Aside0.mk (bb_ BK156.out hb); have n1_ := Aside0.mk (below_step (hb_ HB.out) hb); clear BK156; clear HB; have BK156 := n0_; have HB := n1_; clear n0_ n1_; (try clear hb); (try clear hb2); (try clear hk); (try clear hi)))
  repeat (go_quiet (first | (go_at_call 60; (with_reducible refine (fencepostref02_Name.calls k1 ((rd_T62 l0_1 x3_1).f0) false _ A9.out).mono ?_); rintro e w25 ⟨rfl, hb⟩; have n0_ := Aside0.mk (bb_ BK156.out hb); have n1_ := Aside0.mk (below_step (hb_ HB.out) hb); clear BK156; clear HB; have BK156 := n0_; have HB := n1_; clear n0_ n1_; (try clear hb); (try clear hb2); (try clear hk); (try clear hi))); try go_wp2_with (first | (go_at_call 60; (with_reducible refine (fencepostref02_Name.calls k1 ((rd_T62 l0_1 x3_1).f0) false _ A9.out).mono ?_); rintro e w25 ⟨rfl, hb⟩; have n0_ := Aside0.mk (bb_ BK156.out hb); have n1_ := Aside0.mk (below_step (hb_ HB.out) hb); clear BK156; clear HB; have BK156 := n0_; have HB := n1_; clear n0_ n1_; (try clear hb); (try clear hb2); (try clear hk); (try clear hi))))
  go_ret
  exact ⟨by first | rfl | (simp [errW_none, errW_some] <;> rfl) | (simp [*, errW_none, errW_some] <;> rfl), hb_ HB.out⟩
 subst c10
 have H1 : (if x3_1 > 0 then (if 0 ≤ (wrap64 (x3_1 - 1)) then (if (wrap64 (x3_1 - 1)) < (l0_1.length : Int) then (if ((Op.bytesLess (((rd_T62 l0_1 (wrap64 (x3_1 - 1))).f0).toList) (((rd_T62 l0_1 x3_1).f0).toList)) = true) then (fencepostref04_head.l0 k1 (wrap64 (x3_1 + 1)) a0_0 l0_1 l0_2 a0_3 l0_4) else (some 21)) else (none)) else (none)) else (fencepostref04_head.l0 k1 (wrap64 (x3_1 + 1)) a0_0 l0_1 l0_2 a0_3 l0_4)) = some r := by rw [if_pos rfl] at H; exact H
 clear H
 have H := H1
 clear H1
 by_cases c11 : x3_1 > 0
 rotate_left
 ·rw [if_neg c11] at H
  have c11b0 : decide (0 < x3_1) = false := decide_eq_false c11
  clear c11
  have H' := Aside0.mk H
  clear H
  have hcz22_0 : wr.cell? ⟨gb156, 0, none⟩ = some (.string a0_0) := (blk_cell BK156.out 0).trans rfl
  have hcz22_1 : wr.cell? ⟨gb156, 1, none⟩ = some (.slice A0_1 l0_1.length c0_1) := (blk_cell BK156.out 1).trans rfl
  have hcz22_2 : wr.cell? ⟨gb156, 2, none⟩ = some (.slice A0_2 l0_2.length c0_2) := (blk_cell BK156.out 2).trans rfl
  have hcz22_3 : wr.cell? ⟨gb156, 3, none⟩ = some (.bool a0_3) := (blk_cell BK156.out 3).trans rfl
  have hcz22_4 : wr.cell? ⟨gb156, 4, none⟩ = some (.slice A0_4 l0_4.length c0_4) := (blk_cell BK156.out 4).trans rfl
  have hfz22_0 := blk_frozen BK156.out 0
  have hfz22_1 := blk_frozen BK156.out 1
  have hfz22_2 := blk_frozen BK156.out 2
  have hfz22_3 := blk_frozen BK156.out 3
  have hfz22_4 := blk_frozen BK156.out 4
  have p158 : 0 ≤ (x3_1 : Int) := of_decide_eq_true as_
  have q158 : x3_1 < (l0_1.length : Int) := of_decide_eq_true as_
  obtain ⟨ad158, e158, hx158_0, hx158_1⟩ := at_T62 HR0_1.out x3_1 p158 q158
  cases e158
  replace hx158_0 := cl_ HB.out hx158_0
  replace hx158_1 := cl_ HB.out hx158_1
  replace p158 := eq_true p158
  replace q158 := eq_true q158
  go_wp2_with (first | (go_at_call 60; (with_reducible refine (fencepostref02_Name.calls k1 ((rd_T62 l0_1 x3_1).f0) true _ A9.out).mono ?_); rintro e w23 ⟨rfl, hb⟩; have n0_ := Aside0.mk (bb_ BK156.out hb); have n1_ := Aside0.mk (below_step (hb_ HB.out) hb); clear BK156; clear HB; have BK156 := n0_; have HB := n1_; clear n0_ n1_; (try clear hb); (try clear hb2); (try clear hk); (try clear hi)))
  repeat (go_quiet (first | (go_at_call 60; (with_reducible refine (fencepostref02_Name.calls k1 ((rd_T62 l0_1 x3_1).f0) true _ A9.out).mono ?_); rintro e w23 ⟨rfl, hb⟩; have n0_ := Aside0.mk (bb_ BK156.out hb); have n1_ := Aside0.mk (below_step (hb_ HB.out) hb); clear BK156; clear HB; have BK156 := n0_; have HB := n1_; clear n0_ n1_; (try clear hb); (try clear hb2); (try clear hk); (try clear hi))); try go_wp2_with (first | (go_at_call 60; (with_reducible refine (fencepostref02_Name.calls k1 ((rd_T62 l0_1 x3_1).f0) true _ A9.out).mono ?_); rintro e w23 ⟨rfl, hb⟩; have n0_ := Aside0.mk (bb_ BK156.out hb); have n1_ := Aside0.mk (below_step (hb_ HB.out) hb); clear BK156; clear HB; have BK156 := n0_; have HB := n1_; clear n0_ n1_; (try clear hb); (try clear hb2); (try clear hk); (try clear hi))))
  go_roundg k1
  case measure => have := HK1.out; omega
  case rel => exact ⟨(wrap64 (x3_1 + 1)), rf_, H', ⟨by have := HK1.out; omega⟩, ⟨bd_ BK156.out⟩, ⟨hb_ HB.out⟩⟩
 rw [if_pos c11] at H
 have c11b0 : decide (0 < x3_1) = true := decide_eq_true c11
 clear c11
 obtain ⟨ji12, hji12⟩ : ∃ j_ : Int, (wrap64 (x3_1 - 1)) = j_ := ⟨_, rfl⟩
 replace H : (if 0 ≤ (ji12) then (if (ji12) < (l0_1.length : Int) then (if ((Op.bytesLess (((rd_T62 l0_1 (ji12)).f0).toList) (((rd_T62 l0_1 x3_1).f0).toList)) = true) then (fencepostref04_head.l0 k1 (wrap64 (x3_1 + 1)) a0_0 l0_1 l0_2 a0_3 l0_4) else (some 21)) else (none)) else (none)) = some r := by first | (rw [hji12] at H; exact H) | (simp only [hji12] at H ⊢; exact H)
 (try rw [hji12] at A9)
 have hji12w : (IntKind.i64.wrap (x3_1 - 1)) = ji12 := (i64_w _).trans hji12
 by_cases c13 : 0 ≤ (ji12)
 rotate_left
 ·rw [if_neg c13] at H
  exact absurd H (by simp)
 rw [if_pos c13] at H
 have c13b0 : decide (0 ≤ (ji12)) = true := decide_eq_true c13
 clear c13
 by_cases c14 : (ji12) < (l0_1.length : Int)
 rotate_left
 ·rw [if_neg c14] at H
  exact absurd H (by simp)
 rw [if_pos c14] at H
 have c14b0 : decide ((ji12) < (l0_1.length : Int)) = true := decide_eq_true c14
 clear c14
 by_cases c15 : ((Op.bytesLess (((rd_T62 l0_1 (ji12)).f0).toList) (((rd_T62 l0_1 x3_1).f0).toList)) = true)
 rotate_left
 ·rw [if_neg c15] at H
  have c15b0 : (Op.bytesLess (((rd_T62 l0_1 (ji12)).f0).toList) (((rd_T62 l0_1 x3_1).f0).toList)) = false := by simpa using c15
  have c15b0q := leqF c15b0
  clear c15
  obtain rfl := Option.some.inj H
  have hcz19_0 : wr.cell? ⟨gb156, 0, none⟩ = some (.string a0_0) := (blk_cell BK156.out 0).trans rfl
  have hcz19_1 : wr.cell? ⟨gb156, 1, none⟩ = some (.slice A0_1 l0_1.length c0_1) := (blk_cell BK156.out 1).trans rfl
  have hcz19_2 : wr.cell? ⟨gb156, 2, none⟩ = some (.slice A0_2 l0_2.length c0_2) := (blk_cell BK156.out 2).trans rfl
  have hcz19_3 : wr.cell? ⟨gb156, 3, none⟩ = some (.bool a0_3) := (blk_cell BK156.out 3).trans rfl
  have hcz19_4 : wr.cell? ⟨gb156, 4, none⟩ = some (.slice A0_4 l0_4.length c0_4) := (blk_cell BK156.out 4).trans rfl
  have hfz19_0 := blk_frozen BK156.out 0
  have hfz19_1 := blk_frozen BK156.out 1
  have hfz19_2 := blk_frozen BK156.out 2
  have hfz19_3 := blk_frozen BK156.out 3
  have hfz19_4 := blk_frozen BK156.out 4
  have p158 : 0 ≤ (x3_1 : Int) := of_decide_eq_true as_
  have q158 : x3_1 < (l0_1.length : Int) := of_decide_eq_true as_
  obtain ⟨ad158, e158, hx158_0, hx158_1⟩ := at_T62 HR0_1.out x3_1 p158 q158
  cases e158
  replace hx158_0 := cl_ HB.out hx158_0
  replace hx158_1 := cl_ HB.out hx158_1
  replace p158 := eq_true p158
  replace q158 := eq_true q158
  go_wp2_with (first | (go_at_call 60; (with_reducible refine (fencepostref02_Name.calls k1 ((rd_T62 l0_1 x3_1).f0) true _ A9.out).mono ?_); rintro e w20 ⟨rfl, hb⟩; have n0_ := Aside0.mk (bb_ BK156.out hb); have n1_ := Aside0.mk (below_step (hb_ HB.out) hb); clear BK156; clear HB; have BK156 := n0_; have HB := n1_; clear n0_ n1_; (try clear hb); (try clear hb2); (try clear hk); (try clear hi); have hcz21_0 : w20.cell? ⟨gb156, 0, none⟩ = some (.string a0_0) := (blk_cell BK156.out 0).trans rfl; have hcz21_1 : w20.cell? ⟨gb156, 1, none⟩ = some (.slice (some ad158) l0_1.length c0_1) := (blk_cell BK156.out 1).trans rfl; have hcz21_2 : w20.cell? ⟨gb156, 2, none⟩ = some (.slice A0_2 l0_2.length c0_2) := (blk_cell BK156.out 2).trans rfl; have hcz21_3 : w20.cell? ⟨gb156, 3, none⟩ = some (.bool a0_3) := (blk_cell BK156.out 3).trans rfl; have hcz21_4 : w20.cell? ⟨gb156, 4, none⟩ = some (.slice A0_4 l0_4.length c0_4) := (blk_cell BK156.out 4).trans rfl; have hfz21_0 := blk_frozen BK156.out 0; have hfz21_1 := blk_frozen BK156.out 1; have hfz21_2 := blk_frozen BK156.out 2; have hfz21_3 := blk_frozen BK156.out 3; have hfz21_4 := blk_frozen BK156.out 4; have p160 : 0 ≤ (x3_1 : Int) := of_decide_eq_true as_; have q160 : x3_1 < (l0_1.length : Int) := of_decide_eq_true as_; obtain ⟨ad160, e160, hx160_0, hx160_1⟩ := at_T62 HR0_1.out x3_1 p160 q160; obtain rfl : ad158 = ad160 := (by injection e160); replace hx160_0 := cl_ HB.out hx160_0; replace hx160_1 := cl_ HB.out hx160_1; replace p160 := eq_true p160; replace q160 := eq_true q160; have p161 : 0 ≤ ((ji12) : Int) := of_decide_eq_true as_; have q161 : (ji12) < (l0_1.length : Int) := of_decide_eq_true as_; obtain ⟨ad161, e161, hx161_0, hx161_1⟩ := at_T62 HR0_1.out (ji12) p161 q161; obtain rfl : ad158 = ad161 := (by injection e161); replace hx161_0 := cl_ HB.out hx161_0; replace hx161_1 := cl_ HB.out hx161_1; replace p161 := eq_true p161; replace q161 := eq_true q161))
  repeat (go_quiet (first | (go_at_call 60; (with_reducible refine (fencepostref02_Name.calls k1 ((rd_T62 l0_1 x3_1).f0) true _ A9.out).mono ?_); rintro e w20 ⟨rfl, hb⟩; have n0_ := Aside0.mk (bb_ BK156.out hb); have n1_ := Aside0.mk (below_step (hb_ HB.out) hb); clear BK156; clear HB; have BK156 := n0_; have HB := n1_; clear n0_ n1_; (try clear hb); (try clear hb2); (try clear hk); (try clear hi); have hcz21_0 : w20.cell? ⟨gb156, 0, none⟩ = some (.string a0_0) := (blk_cell BK156.out 0).trans rfl; have hcz21_1 : w20.cell? ⟨gb156, 1, none⟩ = some (.slice (some ad158) l0_1.length c0_1) := (blk_cell BK156.out 1).trans rfl; have hcz21_2 : w20.cell? ⟨gb156, 2, none⟩ = some (.slice A0_2 l0_2.length c0_2) := (blk_cell BK156.out 2).trans rfl; have hcz21_3 : w20.cell? ⟨gb156, 3, none⟩ = some (.bool a0_3) := (blk_cell BK156.out 3).trans rfl; have hcz21_4 : w20.cell? ⟨gb156, 4, none⟩ = some (.slice A0_4 l0_4.length c0_4) := (blk_cell BK156.out 4).trans rfl; have hfz21_0 := blk_frozen BK156.out 0; have hfz21_1 := blk_frozen BK156.out 1; have hfz21_2 := blk_frozen BK156.out 2; have hfz21_3 := blk_frozen BK156.out 3; have hfz21_4 := blk_frozen BK156.out 4; have p160 : 0 ≤ (x3_1 : Int) := of_decide_eq_true as_; have q160 : x3_1 < (l0_1.length : Int) := of_decide_eq_true as_; obtain ⟨ad160, e160, hx160_0, hx160_1⟩ := at_T62 HR0_1.out x3_1 p160 q160; obtain rfl : ad158 = ad160 := (by injection e160); replace hx160_0 := cl_ HB.out hx160_0; replace hx160_1 := cl_ HB.out hx160_1; replace p160 := eq_true p160; replace q160 := eq_true q160; have p161 : 0 ≤ ((ji12) : Int) := of_decide_eq_true as_; have q161 : (ji12) < (l0_1.length : Int) := of_decide_eq_true as_; obtain ⟨ad161, e161, hx161_0, hx161_1⟩ := at_T62 HR0_1.out (ji12) p161 q161; obtain rfl : ad158 = ad161 := (by injection e161); replace hx161_0 := cl_ HB.out hx161_0; replace hx161_1 := cl_ HB.out hx161_1; replace p161 := eq_true p161; replace q161 := eq_true q161)); try go_wp2_with (first | (go_at_call 60; (with_reducible refine (fencepostref02_Name.calls k1 ((rd_T62 l0_1 x3_1).f0) true _ A9.out).mono ?_); rintro e w20 ⟨rfl, hb⟩; have n0_ := Aside0.mk (bb_ BK156.out hb); have n1_ := Aside0.mk (below_step (hb_ HB.out) hb); clear BK156; clear HB; have BK156 := n0_; have HB := n1_; clear n0_ n1_; (try clear hb); (try clear hb2); (try clear hk); (try clear hi); have hcz21_0 : w20.cell? ⟨gb156, 0, none⟩ = some (.string a0_0) := (blk_cell BK156.out 0).trans rfl; have hcz21_1 : w20.cell? ⟨gb156, 1, none⟩ = some (.slice (some ad158) l0_1.length c0_1) := (blk_cell BK156.out 1).trans rfl; have hcz21_2 : w20.cell? ⟨gb156, 2, none⟩ = some (.slice A0_2 l0_2.length c0_2) := (blk_cell BK156.out 2).trans rfl; have hcz21_3 : w20.cell? ⟨gb156, 3, none⟩ = some (.bool a0_3) := (blk_cell BK156.out 3).trans rfl; have hcz21_4 : w20.cell? ⟨gb156, 4, none⟩ = some (.slice A0_4 l0_4.length c0_4) := (blk_cell BK156.out 4).trans rfl; have hfz21_0 := blk_frozen BK156.out 0; have hfz21_1 := blk_frozen BK156.out 1; have hfz21_2 := blk_frozen BK156.out 2; have hfz21_3 := blk_frozen BK156.out 3; have hfz21_4 := blk_frozen BK156.out 4; have p160 : 0 ≤ (x3_1 : Int) := of_decide_eq_true as_; have q160 : x3_1 < (l0_1.length : Int) := of_decide_eq_true as_; obtain ⟨ad160, e160, hx160_0, hx160_1⟩ := at_T62 HR0_1.out x3_1 p160 q160; obtain rfl : ad158 = ad160 := (by injection e160); replace hx160_0 := cl_ HB.out hx160_0; replace hx160_1 := cl_ HB.out hx160_1; replace p160 := eq_true p160; replace q160 := eq_true q160; have p161 : 0 ≤ ((ji12) : Int) := of_decide_eq_true as_; have q161 : (ji12) < (l0_1.length : Int) := of_decide_eq_true as_; obtain ⟨ad161, e161, hx161_0, hx161_1⟩ := at_T62 HR0_1.out (ji12) p161 q161; obtain rfl : ad158 = ad161 := (by injection e161); replace hx161_0 := cl_ HB.out hx161_0; replace hx161_1 := cl_ HB.out hx161_1; replace p161 := eq_true p161; replace q161 := eq_true q161)))
  go_ret
  exact ⟨by first | rfl | (simp [errW_none, errW_some] <;> rfl) | (simp only [← hji12]; first | rfl | (simp [errW_none, errW_some] <;> rfl)) | (simp [*, errW_none, errW_some] <;> rfl), hb_ HB.out⟩
 rw [if_pos c15] at H
 have c15b0 : (Op.bytesLess (((rd_T62 l0_1 (ji12)).f0).toList) (((rd_T62 l0_1 x3_1).f0).toList)) = true := c15
 have c15b0q := leqT c15b0
 clear c15
 have H' := Aside0.mk H
 clear H
 have hcz16_0 : wr.cell? ⟨gb156, 0, none⟩ = some (.string a0_0) := (blk_cell BK156.out 0).trans rfl
 have hcz16_1 : wr.cell? ⟨gb156, 1, none⟩ = some (.slice A0_1 l0_1.length c0_1) := (blk_cell BK156.out 1).trans rfl
 have hcz16_2 : wr.cell? ⟨gb156, 2, none⟩ = some (.slice A0_2 l0_2.length c0_2) := (blk_cell BK156.out 2).trans rfl
 have hcz16_3 : wr.cell? ⟨gb156, 3, none⟩ = some (.bool a0_3) := (blk_cell BK156.out 3).trans rfl
 have hcz16_4 : wr.cell? ⟨gb156, 4, none⟩ = some (.slice A0_4 l0_4.length c0_4) := (blk_cell BK156.out 4).trans rfl
 have hfz16_0 := blk_frozen BK156.out 0
 have hfz16_1 := blk_frozen BK156.out 1
 have hfz16_2 := blk_frozen BK156.out 2
 have hfz16_3 := blk_frozen BK156.out 3
 have hfz16_4 := blk_frozen BK156.out 4
 have p158 : 0 ≤ (x3_1 : Int) := of_decide_eq_true as_
 have q158 : x3_1 < (l0_1.length : Int) := of_decide_eq_true as_
 obtain ⟨ad158, e158, hx158_0, hx158_1⟩ := at_T62 HR0_1.out x3_1 p158 q158
 cases e158
 replace hx158_0 := cl_ HB.out hx158_0
 replace hx158_1 := cl_ HB.out hx158_1
 replace p158 := eq_true p158
 replace q158 := eq_true q158
 go_wp2_with (first | (go_at_call 60; (with_reducible refine (fencepostref02_Name.calls k1 ((rd_T62 l0_1 x3_1).f0) true _ A9.out).mono ?_); rintro e w17 ⟨rfl, hb⟩; have n0_ := Aside0.mk (bb_ BK156.out hb); have n1_ := Aside0.mk (below_step (hb_ HB.out) hb); clear BK156; clear HB; have BK156 := n0_; have HB := n1_; clear n0_ n1_; (try clear hb); (try clear hb2); (try clear hk); (try clear hi); have hcz18_0 : w17.cell? ⟨gb156, 0, none⟩ = some (.string a0_0) := (blk_cell BK156.out 0).trans rfl; have hcz18_1 : w17.cell? ⟨gb156, 1, none⟩ = some (.slice (some ad158) l0_1.length c0_1) := (blk_cell BK156.out 1).trans rfl; have hcz18_2 : w17.cell? ⟨gb156, 2, none⟩ = some (.slice A0_2 l0_2.length c0_2) := (blk_cell BK156.out 2).trans rfl; have hcz18_3 : w17.cell? ⟨gb156, 3, none⟩ = some (.bool a0_3) := (blk_cell BK156.out 3).trans rfl; have hcz18_4 : w17.cell? ⟨gb156, 4, none⟩ = some (.slice A0_4 l0_4.length c0_4) := (blk_cell BK156.out 4).trans rfl; have hfz18_0 := blk_frozen BK156.out 0; have hfz18_1 := blk_frozen BK156.out 1; have hfz18_2 := blk_frozen BK156.out 2; have hfz18_3 := blk_frozen BK156.out 3; have hfz18_4 := blk_frozen BK156.out 4; have p160 : 0 ≤ (x3_1 : Int) := of_decide_eq_true as_; have q160 : x3_1 < (l0_1.length : Int) := of_decide_eq_true as_; obtain ⟨ad160, e160, hx160_0, hx160_1⟩ := at_T62 HR0_1.out x3_1 p160 q160; obtain rfl : ad158 = ad160 := (by injection e160); replace hx160_0 := cl_ HB.out hx160_0; replace hx160_1 := cl_ HB.out hx160_1; replace p160 := eq_true p160; replace q160 := eq_true q160; have p161 : 0 ≤ ((ji12) : Int) := of_decide_eq_true as_; have q161 : (ji12) < (l0_1.length : Int) := of_decide_eq_true as_; obtain ⟨ad161, e161, hx161_0, hx161_1⟩ := at_T62 HR0_1.out (ji12) p161 q161; obtain rfl : ad158 = ad161 := (by injection e161); replace hx161_0 := cl_ HB.out hx161_0; replace hx161_1 := cl_ HB.out hx161_1; replace p161 := eq_true p161; replace q161 := eq_true q161))
 repeat (go_quiet (first | (go_at_call 60; (with_reducible refine (fencepostref02_Name.calls k1 ((rd_T62 l0_1 x3_1).f0) true _ A9.out).mono ?_); rintro e w17 ⟨rfl, hb⟩; have n0_ := Aside0.mk (bb_ BK156.out hb); have n1_ := Aside0.mk (below_step (hb_ HB.out) hb); clear BK156; clear HB; have BK156 := n0_; have HB := n1_; clear n0_ n1_; (try clear hb); (try clear hb2); (try clear hk); (try clear hi); have hcz18_0 : w17.cell? ⟨gb156, 0, none⟩ = some (.string a0_0) := (blk_cell BK156.out 0).trans rfl; have hcz18_1 : w17.cell? ⟨gb156, 1, none⟩ = some (.slice (some ad158) l0_1.length c0_1) := (blk_cell BK156.out 1).trans rfl; have hcz18_2 : w17.cell? ⟨gb156, 2, none⟩ = some (.slice A0_2 l0_2.length c0_2) := (blk_cell BK156.out 2).trans rfl; have hcz18_3 : w17.cell? ⟨gb156, 3, none⟩ = some (.bool a0_3) := (blk_cell BK156.out 3).trans rfl; have hcz18_4 : w17.cell? ⟨gb156, 4, none⟩ = some (.slice A0_4 l0_4.length c0_4) := (blk_cell BK156.out 4).trans rfl; have hfz18_0 := blk_frozen BK156.out 0; have hfz18_1 := blk_frozen BK156.out 1; have hfz18_2 := blk_frozen BK156.out 2; have hfz18_3 := blk_frozen BK156.out 3; have hfz18_4 := blk_frozen BK156.out 4; have p160 : 0 ≤ (x3_1 : Int) := of_decide_eq_true as_; have q160 : x3_1 < (l0_1.length : Int) := of_decide_eq_true as_; obtain ⟨ad160, e160, hx160_0, hx160_1⟩ := at_T62 HR0_1.out x3_1 p160 q160; obtain rfl : ad158 = ad160 := (by injection e160); replace hx160_0 := cl_ HB.out hx160_0; replace hx160_1 := cl_ HB.out hx160_1; replace p160 := eq_true p160; replace q160 := eq_true q160; have p161 : 0 ≤ ((ji12) : Int) := of_decide_eq_true as_; have q161 : (ji12) < (l0_1.length : Int) := of_decide_eq_true as_; obtain ⟨ad161, e161, hx161_0, hx161_1⟩ := at_T62 HR0_1.out (ji12) p161 q161; obtain rfl : ad158 = ad161 := (by injection e161); replace hx161_0 := cl_ HB.out hx161_0; replace hx161_1 := cl_ HB.out hx161_1; replace p161 := eq_true p161; replace q161 := eq_true q161)); try go_wp2_with (first | (go_at_call 60; (with_reducible refine (fencepostref02_Name.calls k1 ((rd_T62 l0_1 x3_1).f0) true _ A9.out).mono ?_); rintro e w17 ⟨rfl, hb⟩; have n0_ := Aside0.mk (bb_ BK156.out hb); have n1_ := Aside0.mk (below_step (hb_ HB.out) hb); clear BK156; clear HB; have BK156 := n0_; have HB := n1_; clear n0_ n1_; (try clear hb); (try clear hb2); (try clear hk); (try clear hi); have hcz18_0 : w17.cell? ⟨gb156, 0, none⟩ = some (.string a0_0) := (blk_cell BK156.out 0).trans rfl; have hcz18_1 : w17.cell? ⟨gb156, 1, none⟩ = some (.slice (some ad158) l0_1.length c0_1) := (blk_cell BK156.out 1).trans rfl; have hcz18_2 : w17.cell? ⟨gb156, 2, none⟩ = some (.slice A0_2 l0_2.length c0_2) := (blk_cell BK156.out 2).trans rfl; have hcz18_3 : w17.cell? ⟨gb156, 3, none⟩ = some (.bool a0_3) := (blk_cell BK156.out 3).trans rfl; have hcz18_4 : w17.cell? ⟨gb156, 4, none⟩ = some (.slice A0_4 l0_4.length c0_4) := (blk_cell BK156.out 4).trans rfl; have hfz18_0 := blk_frozen BK156.out 0; have hfz18_1 := blk_frozen BK156.out 1; have hfz18_2 := blk_frozen BK156.out 2; have hfz18_3 := blk_frozen BK156.out 3; have hfz18_4 := blk_frozen BK156.out 4; have p160 : 0 ≤ (x3_1 : Int) := of_decide_eq_true as_; have q160 : x3_1 < (l0_1.length : Int) := of_decide_eq_true as_; obtain ⟨ad160, e160, hx160_0, hx160_1⟩ := at_T62 HR0_1.out x3_1 p160 q160; obtain rfl : ad158 = ad160 := (by injection e160); replace hx160_0 := cl_ HB.out hx160_0; replace hx160_1 := cl_ HB.out hx160_1; replace p160 := eq_true p160; replace q160 := eq_true q160; have p161 : 0 ≤ ((ji12) : Int) := of_decide_eq_true as_; have q161 : (ji12) < (l0_1.length : Int) := of_decide_eq_true as_; obtain ⟨ad161, e161, hx161_0, hx161_1⟩ := at_T62 HR0_1.out (ji12) p161 q161; obtain rfl : ad158 = ad161 := (by injection e161); replace hx161_0 := cl_ HB.out hx161_0; replace hx161_1 := cl_ HB.out hx161_1; replace p161 := eq_true p161; replace q161 := eq_true q161)))
 go_roundg k1
 case measure => have := HK1.out; omega
 case rel => exact ⟨(wrap64 (x3_1 + 1)), rf_, H', ⟨by have := HK1.out; omega⟩, ⟨bd_ BK156.out⟩, ⟨hb_ HB.out⟩⟩
def fencepostref04_Jump.f (a0_0 : Int) (a0_1 : ByteArray) (a0_2 : ByteArray) (a0_3 : ByteArray) (a0_4 : Int) : Option (Bool) := if a0_0 ≥ 8 then (some (decide (a0_0 ≤ 10))) else (some false)
set_option maxHeartbeats 8000000 in
set_option maxRecDepth 100000 in
theorem fencepostref04_Jump.calls (a0_0 : Int) (a0_1 : ByteArray) (a0_2 : ByteArray) (a0_3 : ByteArray) (a0_4 : Int) (r : Bool) (w : World) (h : fencepostref04_Jump.f a0_0 a0_1 a0_2 a0_3 a0_4 = some r) :
 Calls Try.prog 58 #[.agg #[.int .i64 a0_0, .string a0_1, .string a0_2, .string a0_3, .int .i64 a0_4]] w fun e w' => e = .returned (.bool r) ∧ Below w.heap.size w w' := by
 have hu60 := Try.underlying60
 have HB := Aside0.mk (Below.refl w.heap.size w)
 have H : (if a0_0 ≥ 8 then (some (decide (a0_0 ≤ 10))) else (some false)) = some r := h
 clear h
 by_cases c2 : a0_0 ≥ 8
 ·rw [if_pos c2] at H
  have c2b0 : decide (8 ≤ a0_0) = true := decide_eq_true c2
  clear c2
  obtain rfl := Option.some.inj H
  go_enter Try.func58, Try.ntmps58
  go_wp2_with (first | ((with_reducible refine gate_dst (N := 1) rfl ?_); refine box_event ?hg (N := 1) ?hd (cs := #[.int .i64 a0_0, .string a0_1, .string a0_2, .string a0_3, .int .i64 a0_4]) (t := 60) ?hr ?_; (case hd => rfl); (case hg => rfl); (case hr => first | (go_simp; done) | (go_simp; rfl)); intro gb162 hg w3 hbox hb; have n0_ := Aside0.mk (below_step (hb_ HB.out) hb); have n1_ := Aside0.mk (hbox); have n2_ := Aside0.mk (gs_ hg (hb_ HB.out)); have n3_ := Aside0.mk (gs_ hg (hb_ HB.out)); clear HB; have HB := n0_; have BK162 := n1_; have GW162 := n2_; have GE162 := n3_; clear n0_ n1_ n2_ n3_; clear hb hbox hg; have hcz4_0 : w3.cell? ⟨gb162, 0, none⟩ = some (.int .i64 a0_0) := (blk_cell BK162.out 0).trans rfl; have hcz4_1 : w3.cell? ⟨gb162, 1, none⟩ = some (.string a0_1) := (blk_cell BK162.out 1).trans rfl; have hcz4_2 : w3.cell? ⟨gb162, 2, none⟩ = some (.string a0_2) := (blk_cell BK162.out 2).trans rfl; have hcz4_3 : w3.cell? ⟨gb162, 3, none⟩ = some (.string a0_3) := (blk_cell BK162.out 3).trans rfl; have hcz4_4 : w3.cell? ⟨gb162, 4, none⟩ = some (.int .i64 a0_4) := (blk_cell BK162.out 4).trans rfl; have hfz4_0 := blk_frozen BK162.out 0; have hfz4_1 := blk_frozen BK162.out 1; have hfz4_2 := blk_frozen BK162.out 2; have hfz4_3 := blk_frozen BK162.out 3; have hfz4_4 := blk_frozen BK162.out 4))
  go_ret
  exact ⟨by first | rfl | (simp [errW_none, errW_some] <;> rfl) | (simp [*, errW_none, errW_some] <;> rfl), hb_ HB.out⟩
 rw [if_neg c2] at H
 have c2b0 : decide (8 ≤ a0_0) = false := decide_eq_false c2
 clear c2
 obtain rfl := Option.some.inj H
 go_enter Try.func58, Try.ntmps58
 go_wp2_with (first | ((with_reducible refine gate_dst (N := 1) rfl ?_); refine box_event ?hg (N := 1) ?hd (cs := #[.int .i64 a0_0, .string a0_1, .string a0_2, .string a0_3, .int .i64 a0_4]) (t := 60) ?hr ?_; (case hd => rfl); (case hg => rfl); (case hr => first | (go_simp; done) | (go_simp; rfl)); intro gb162 hg w5 hbox hb; have n0_ := Aside0.mk (below_step (hb_ HB.out) hb); have n1_ := Aside0.mk (hbox); have n2_ := Aside0.mk (gs_ hg (hb_ HB.out)); have n3_ := Aside0.mk (gs_ hg (hb_ HB.out)); clear HB; have HB := n0_; have BK162 := n1_; have GW162 := n2_; have GE162 := n3_; clear n0_ n1_ n2_ n3_; clear hb hbox hg; have hcz6_0 : w5.cell? ⟨gb162, 0, none⟩ = some (.int .i64 a0_0) := (blk_cell BK162.out 0).trans rfl; have hcz6_1 : w5.cell? ⟨gb162, 1, none⟩ = some (.string a0_1) := (blk_cell BK162.out 1).trans rfl; have hcz6_2 : w5.cell? ⟨gb162, 2, none⟩ = some (.string a0_2) := (blk_cell BK162.out 2).trans rfl; have hcz6_3 : w5.cell? ⟨gb162, 3, none⟩ = some (.string a0_3) := (blk_cell BK162.out 3).trans rfl; have hcz6_4 : w5.cell? ⟨gb162, 4, none⟩ = some (.int .i64 a0_4) := (blk_cell BK162.out 4).trans rfl; have hfz6_0 := blk_frozen BK162.out 0; have hfz6_1 := blk_frozen BK162.out 1; have hfz6_2 := blk_frozen BK162.out 2; have hfz6_3 := blk_frozen BK162.out 3; have hfz6_4 := blk_frozen BK162.out 4))
 go_ret
 exact ⟨by first | rfl | (simp [errW_none, errW_some] <;> rfl) | (simp [*, errW_none, errW_some] <;> rfl), hb_ HB.out⟩
def fencepostref03_has.f (a0 : Int) : Option (Bool × Bool × Bool × Bool) := if a0 = 1 then (if a0 = 2 then (if a0 ≥ 8 then (some (true, true, decide (a0 ≤ 11), true)) else (some (true, true, false, true))) else (if a0 = 3 then (if a0 ≥ 8 then (some (true, true, decide (a0 ≤ 11), true)) else (some (true, true, false, true))) else (if a0 = 4 then (if a0 ≥ 8 then (some (true, true, decide (a0 ≤ 11), true)) else (some (true, true, false, true))) else (if a0 ≥ 8 then (some (true, (a0 == 5), decide (a0 ≤ 11), true)) else (some (true, (a0 == 5), false, true)))))) else (if a0 = 2 then (if a0 ≥ 8 then (if a0 = 4 then (some (true, true, decide (a0 ≤ 11), true)) else (some (true, true, decide (a0 ≤ 11), (a0 == 7)))) else (if a0 = 4 then (some (true, true, false, true)) else (some (true, true, false, (a0 == 7))))) else (if a0 = 3 then (if a0 ≥ 8 then (if a0 = 4 then (some (true, true, decide (a0 ≤ 11), true)) else (some (true, true, decide (a0 ≤ 11), (a0 == 7)))) else (if a0 = 4 then (some (true, true, false, true)) else (some (true, true, false, (a0 == 7))))) else (if a0 = 5 then (if a0 = 4 then (if a0 ≥ 8 then (some (true, true, decide (a0 ≤ 11), true)) else (some (true, true, false, true))) else (if a0 ≥ 8 then (some (true, (a0 == 5), decide (a0 ≤ 11), (a0 == 7))) else (some (true, (a0 == 5), false, (a0 == 7))))) else (if a0 = 4 then (if a0 ≥ 8 then (some ((a0 == 7), true, decide (a0 ≤ 11), true)) else (some ((a0 == 7), true, false, true))) else (if a0 ≥ 8 then (some ((a0 == 7), (a0 == 5), decide (a0 ≤ 11), (a0 == 7))) else (some ((a0 == 7), (a0 == 5), false, (a0 == 7))))))))
set_option maxHeartbeats 8000000 in
set_option maxRecDepth 100000 in
theorem fencepostref03_has.calls (a0 : Int) (r1 : Bool) (r2 : Bool) (r3 : Bool) (r4 : Bool) (w : World) (h : fencepostref03_has.f a0 = some (r1, r2, r3, r4)) :
 Calls Try.prog 67 #[.int .i64 a0] w fun e w' => e = .returned (.tuple #[.bool r1, .bool r2, .bool r3, .bool r4]) ∧ Drawn0 w w' := by
 have H : (if a0 = 1 then (if a0 = 2 then (if a0 ≥ 8 then (some (true, true, decide (a0 ≤ 11), true)) else (some (true, true, false, true))) else (if a0 = 3 then (if a0 ≥ 8 then (some (true, true, decide (a0 ≤ 11), true)) else (some (true, true, false, true))) else (if a0 = 4 then (if a0 ≥ 8 then (some (true, true, decide (a0 ≤ 11), true)) else (some (true, true, false, true))) else (if a0 ≥ 8 then (some (true, (a0 == 5), decide (a0 ≤ 11), true)) else (some (true, (a0 == 5), false, true)))))) else (if a0 = 2 then (if a0 ≥ 8 then (if a0 = 4 then (some (true, true, decide (a0 ≤ 11), true)) else (some (true, true, decide (a0 ≤ 11), (a0 == 7)))) else (if a0 = 4 then (some (true, true, false, true)) else (some (true, true, false, (a0 == 7))))) else (if a0 = 3 then (if a0 ≥ 8 then (if a0 = 4 then (some (true, true, decide (a0 ≤ 11), true)) else (some (true, true, decide (a0 ≤ 11), (a0 == 7)))) else (if a0 = 4 then (some (true, true, false, true)) else (some (true, true, false, (a0 == 7))))) else (if a0 = 5 then (if a0 = 4 then (if a0 ≥ 8 then (some (true, true, decide (a0 ≤ 11), true)) else (some (true, true, false, true))) else (if a0 ≥ 8 then (some (true, (a0 == 5), decide (a0 ≤ 11), (a0 == 7))) else (some (true, (a0 == 5), false, (a0 == 7))))) else (if a0 = 4 then (if a0 ≥ 8 then (some ((a0 == 7), true, decide (a0 ≤ 11), true)) else (some ((a0 == 7), true, false, true))) else (if a0 ≥ 8 then (some ((a0 == 7), (a0 == 5), decide (a0 ≤ 11), (a0 == 7))) else (some ((a0 == 7), (a0 == 5), false, (a0 == 7))))))))) = some (r1, r2, r3, r4) := h
 clear h
 by_cases c2 : a0 = 1
 ·rw [if_pos c2] at H
  have c2b0 : (a0 == 1) = true := beq_iff_eq.mpr c2
  have c2b1 : (a0 != 1) = false := bne_eq_false_iff_eq.mpr c2
  clear c2
  by_cases c3 : a0 = 2
  ·rw [if_pos c3] at H
   have c3b0 : (a0 == 2) = true := beq_iff_eq.mpr c3
   have c3b1 : (a0 != 2) = false := bne_eq_false_iff_eq.mpr c3
   clear c3
   by_cases c4 : a0 ≥ 8
   ·rw [if_pos c4] at H
    have c4b0 : decide (8 ≤ a0) = true := decide_eq_true c4
    clear c4
    simp only [Option.some.injEq, Prod.mk.injEq] at H
    obtain ⟨rfl, rfl, rfl, rfl⟩ := H
    go_enter Try.func67, Try.ntmps67
    go_wp2
    refine bodyPost_ret (results_list (rs := [.tmp 2, .tmp 3, .tmp 4, .tmp 5]) rfl (by simp) (.tmp (.tmp (.tmp (.tmp .nil))))) rfl ?_
    exact ⟨by first | rfl | (simp; done) | (simp [*]; done), by repeat (first | exact Drawn0.refl _ | apply Drawn0.step)⟩
   rw [if_neg c4] at H
   have c4b0 : decide (8 ≤ a0) = false := decide_eq_false c4
   clear c4
   simp only [Option.some.injEq, Prod.mk.injEq] at H
   obtain ⟨rfl, rfl, rfl, rfl⟩ := H
   go_enter Try.func67, Try.ntmps67
   go_wp2
   refine bodyPost_ret (results_list (rs := [.tmp 2, .tmp 3, .tmp 4, .tmp 5]) rfl (by simp) (.tmp (.tmp (.tmp (.tmp .nil))))) rfl ?_
   exact ⟨by first | rfl | (simp; done) | (simp [*]; done), by repeat (first | exact Drawn0.refl _ | apply Drawn0.step)⟩
  rw [if_neg c3] at H
  have c3b0 : (a0 == 2) = false := beq_eq_false_iff_ne.mpr c3
  have c3b1 : (a0 != 2) = true := bne_iff_ne.mpr c3
  by_cases c5 : a0 = 3
  ·rw [if_pos c5] at H
   have c5b0 : (a0 == 3) = true := beq_iff_eq.mpr c5
   have c5b1 : (a0 != 3) = false := bne_eq_false_iff_eq.mpr c5
   clear c5
   by_cases c6 : a0 ≥ 8
   ·rw [if_pos c6] at H
    have c6b0 : decide (8 ≤ a0) = true := decide_eq_true c6
    clear c6
    simp only [Option.some.injEq, Prod.mk.injEq] at H
    obtain ⟨rfl, rfl, rfl, rfl⟩ := H
    go_enter Try.func67, Try.ntmps67
    go_wp2
    refine bodyPost_ret (results_list (rs := [.tmp 2, .tmp 3, .tmp 4, .tmp 5]) rfl (by simp) (.tmp (.tmp (.tmp (.tmp .nil))))) rfl ?_
    exact ⟨by first | rfl | (simp; done) | (simp [*]; done), by repeat (first | exact Drawn0.refl _ | apply Drawn0.step)⟩
   rw [if_neg c6] at H
   have c6b0 : decide (8 ≤ a0) = false := decide_eq_false c6
   clear c6
   simp only [Option.some.injEq, Prod.mk.injEq] at H
   obtain ⟨rfl, rfl, rfl, rfl⟩ := H
   go_enter Try.func67, Try.ntmps67
   go_wp2
   refine bodyPost_ret (results_list (rs := [.tmp 2, .tmp 3, .tmp 4, .tmp 5]) rfl (by simp) (.tmp (.tmp (.tmp (.tmp .nil))))) rfl ?_
   exact ⟨by first | rfl | (simp; done) | (simp [*]; done), by repeat (first | exact Drawn0.refl _ | apply Drawn0.step)⟩
  rw [if_neg c5] at H
  have c5b0 : (a0 == 3) = false := beq_eq_false_iff_ne.mpr c5
  have c5b1 : (a0 != 3) = true := bne_iff_ne.mpr c5
  by_cases c7 : a0 = 4
  rotate_left
  ·rw [if_neg c7] at H
   have c7b0 : (a0 == 4) = false := beq_eq_false_iff_ne.mpr c7
   have c7b1 : (a0 != 4) = true := bne_iff_ne.mpr c7
   by_cases c9 : a0 ≥ 8
   ·rw [if_pos c9] at H
    have c9b0 : decide (8 ≤ a0) = true := decide_eq_true c9
    clear c9
    simp only [Option.some.injEq, Prod.mk.injEq] at H
    obtain ⟨rfl, rfl, rfl, rfl⟩ := H
    go_enter Try.func67, Try.ntmps67
    go_wp2
    refine bodyPost_ret (results_list (rs := [.tmp 2, .tmp 3, .tmp 4, .tmp 5]) rfl (by simp) (.tmp (.tmp (.tmp (.tmp .nil))))) rfl ?_
    exact ⟨by first | rfl | (simp; done) | (simp [*]; done), by repeat (first | exact Drawn0.refl _ | apply Drawn0.step)⟩
   rw [if_neg c9] at H
   have c9b0 : decide (8 ≤ a0) = false := decide_eq_false c9
   clear c9
   simp only [Option.some.injEq, Prod.mk.injEq] at H
   obtain ⟨rfl, rfl, rfl, rfl⟩ := H
   go_enter Try.func67, Try.ntmps67
   go_wp2
   refine bodyPost_ret (results_list (rs := [.tmp 2, .tmp 3, .tmp 4, .tmp 5]) rfl (by simp) (.tmp (.tmp (.tmp (.tmp .nil))))) rfl ?_
   exact ⟨by first | rfl | (simp; done) | (simp [*]; done), by repeat (first | exact Drawn0.refl _ | apply Drawn0.step)⟩
  rw [if_pos c7] at H
  have c7b0 : (a0 == 4) = true := beq_iff_eq.mpr c7
  have c7b1 : (a0 != 4) = false := bne_eq_false_iff_eq.mpr c7
  clear c7
  by_cases c8 : a0 ≥ 8
  ·rw [if_pos c8] at H
   have c8b0 : decide (8 ≤ a0) = true := decide_eq_true c8
   clear c8
   simp only [Option.some.injEq, Prod.mk.injEq] at H
   obtain ⟨rfl, rfl, rfl, rfl⟩ := H
   go_enter Try.func67, Try.ntmps67
   go_wp2
   refine bodyPost_ret (results_list (rs := [.tmp 2, .tmp 3, .tmp 4, .tmp 5]) rfl (by simp) (.tmp (.tmp (.tmp (.tmp .nil))))) rfl ?_
   exact ⟨by first | rfl | (simp; done) | (simp [*]; done), by repeat (first | exact Drawn0.refl _ | apply Drawn0.step)⟩
  rw [if_neg c8] at H
  have c8b0 : decide (8 ≤ a0) = false := decide_eq_false c8
  clear c8
  simp only [Option.some.injEq, Prod.mk.injEq] at H
  obtain ⟨rfl, rfl, rfl, rfl⟩ := H
  go_enter Try.func67, Try.ntmps67
  go_wp2
  refine bodyPost_ret (results_list (rs := [.tmp 2, .tmp 3, .tmp 4, .tmp 5]) rfl (by simp) (.tmp (.tmp (.tmp (.tmp .nil))))) rfl ?_
  exact ⟨by first | rfl | (simp; done) | (simp [*]; done), by repeat (first | exact Drawn0.refl _ | apply Drawn0.step)⟩
 rw [if_neg c2] at H
 have c2b0 : (a0 == 1) = false := beq_eq_false_iff_ne.mpr c2
 have c2b1 : (a0 != 1) = true := bne_iff_ne.mpr c2
 by_cases c10 : a0 = 2
 ·rw [if_pos c10] at H
  have c10b0 : (a0 == 2) = true := beq_iff_eq.mpr c10
  have c10b1 : (a0 != 2) = false := bne_eq_false_iff_eq.mpr c10
  clear c10
  by_cases c11 : a0 ≥ 8
  ·rw [if_pos c11] at H
   have c11b0 : decide (8 ≤ a0) = true := decide_eq_true c11
   clear c11
   by_cases c12 : a0 = 4
   rotate_left
   ·rw [if_neg c12] at H
    have c12b0 : (a0 == 4) = false := beq_eq_false_iff_ne.mpr c12
    have c12b1 : (a0 != 4) = true := bne_iff_ne.mpr c12
    simp only [Option.some.injEq, Prod.mk.injEq] at H
    obtain ⟨rfl, rfl, rfl, rfl⟩ := H
    go_enter Try.func67, Try.ntmps67
    go_wp2
    refine bodyPost_ret (results_list (rs := [.tmp 2, .tmp 3, .tmp 4, .tmp 5]) rfl (by simp) (.tmp (.tmp (.tmp (.tmp .nil))))) rfl ?_
    exact ⟨by first | rfl | (simp; done) | (simp [*]; done), by repeat (first | exact Drawn0.refl _ | apply Drawn0.step)⟩
   rw [if_pos c12] at H
   have c12b0 : (a0 == 4) = true := beq_iff_eq.mpr c12
   have c12b1 : (a0 != 4) = false := bne_eq_false_iff_eq.mpr c12
   clear c12
   simp only [Option.some.injEq, Prod.mk.injEq] at H
   obtain ⟨rfl, rfl, rfl, rfl⟩ := H
   go_enter Try.func67, Try.ntmps67
   go_wp2
   refine bodyPost_ret (results_list (rs := [.tmp 2, .tmp 3, .tmp 4, .tmp 5]) rfl (by simp) (.tmp (.tmp (.tmp (.tmp .nil))))) rfl ?_
   exact ⟨by first | rfl | (simp; done) | (simp [*]; done), by repeat (first | exact Drawn0.refl _ | apply Drawn0.step)⟩
  rw [if_neg c11] at H
  have c11b0 : decide (8 ≤ a0) = false := decide_eq_false c11
  clear c11
  by_cases c13 : a0 = 4
  rotate_left
  ·rw [if_neg c13] at H
   have c13b0 : (a0 == 4) = false := beq_eq_false_iff_ne.mpr c13
   have c13b1 : (a0 != 4) = true := bne_iff_ne.mpr c13
   simp only [Option.some.injEq, Prod.mk.injEq] at H
   obtain ⟨rfl, rfl, rfl, rfl⟩ := H
   go_enter Try.func67, Try.ntmps67
   go_wp2
   refine bodyPost_ret (results_list (rs := [.tmp 2, .tmp 3, .tmp 4, .tmp 5]) rfl (by simp) (.tmp (.tmp (.tmp (.tmp .nil))))) rfl ?_
   exact ⟨by first | rfl | (simp; done) | (simp [*]; done), by repeat (first | exact Drawn0.refl _ | apply Drawn0.step)⟩
  rw [if_pos c13] at H
  have c13b0 : (a0 == 4) = true := beq_iff_eq.mpr c13
  have c13b1 : (a0 != 4) = false := bne_eq_false_iff_eq.mpr c13
  clear c13
  simp only [Option.some.injEq, Prod.mk.injEq] at H
  obtain ⟨rfl, rfl, rfl, rfl⟩ := H
  go_enter Try.func67, Try.ntmps67
  go_wp2
  refine bodyPost_ret (results_list (rs := [.tmp 2, .tmp 3, .tmp 4, .tmp 5]) rfl (by simp) (.tmp (.tmp (.tmp (.tmp .nil))))) rfl ?_
  exact ⟨by first | rfl | (simp; done) | (simp [*]; done), by repeat (first | exact Drawn0.refl _ | apply Drawn0.step)⟩
 rw [if_neg c10] at H
 have c10b0 : (a0 == 2) = false := beq_eq_false_iff_ne.mpr c10
 have c10b1 : (a0 != 2) = true := bne_iff_ne.mpr c10
 by_cases c14 : a0 = 3
 ·rw [if_pos c14] at H
  have c14b0 : (a0 == 3) = true := beq_iff_eq.mpr c14
  have c14b1 : (a0 != 3) = false := bne_eq_false_iff_eq.mpr c14
  clear c14
  by_cases c15 : a0 ≥ 8
  ·rw [if_pos c15] at H
   have c15b0 : decide (8 ≤ a0) = true := decide_eq_true c15
   clear c15
   by_cases c16 : a0 = 4
   rotate_left
   ·rw [if_neg c16] at H
    have c16b0 : (a0 == 4) = false := beq_eq_false_iff_ne.mpr c16
    have c16b1 : (a0 != 4) = true := bne_iff_ne.mpr c16
    simp only [Option.some.injEq, Prod.mk.injEq] at H
    obtain ⟨rfl, rfl, rfl, rfl⟩ := H
    go_enter Try.func67, Try.ntmps67
    go_wp2
    refine bodyPost_ret (results_list (rs := [.tmp 2, .tmp 3, .tmp 4, .tmp 5]) rfl (by simp) (.tmp (.tmp (.tmp (.tmp .nil))))) rfl ?_
    exact ⟨by first | rfl | (simp; done) | (simp [*]; done), by repeat (first | exact Drawn0.refl _ | apply Drawn0.step)⟩
   rw [if_pos c16] at H
   have c16b0 : (a0 == 4) = true := beq_iff_eq.mpr c16
   have c16b1 : (a0 != 4) = false := bne_eq_false_iff_eq.mpr c16
   clear c16
   simp only [Option.some.injEq, Prod.mk.injEq] at H
   obtain ⟨rfl, rfl, rfl, rfl⟩ := H
   go_enter Try.func67, Try.ntmps67
   go_wp2
   refine bodyPost_ret (results_list (rs := [.tmp 2, .tmp 3, .tmp 4, .tmp 5]) rfl (by simp) (.tmp (.tmp (.tmp (.tmp .nil))))) rfl ?_
   exact ⟨by first | rfl | (simp; done) | (simp [*]; done), by repeat (first | exact Drawn0.refl _ | apply Drawn0.step)⟩
  rw [if_neg c15] at H
  have c15b0 : decide (8 ≤ a0) = false := decide_eq_false c15
  clear c15
  by_cases c17 : a0 = 4
  rotate_left
  ·rw [if_neg c17] at H
   have c17b0 : (a0 == 4) = false := beq_eq_false_iff_ne.mpr c17
   have c17b1 : (a0 != 4) = true := bne_iff_ne.mpr c17
   simp only [Option.some.injEq, Prod.mk.injEq] at H
   obtain ⟨rfl, rfl, rfl, rfl⟩ := H
   go_enter Try.func67, Try.ntmps67
   go_wp2
   refine bodyPost_ret (results_list (rs := [.tmp 2, .tmp 3, .tmp 4, .tmp 5]) rfl (by simp) (.tmp (.tmp (.tmp (.tmp .nil))))) rfl ?_
   exact ⟨by first | rfl | (simp; done) | (simp [*]; done), by repeat (first | exact Drawn0.refl _ | apply Drawn0.step)⟩
  rw [if_pos c17] at H
  have c17b0 : (a0 == 4) = true := beq_iff_eq.mpr c17
  have c17b1 : (a0 != 4) = false := bne_eq_false_iff_eq.mpr c17
  clear c17
  simp only [Option.some.injEq, Prod.mk.injEq] at H
  obtain ⟨rfl, rfl, rfl, rfl⟩ := H
  go_enter Try.func67, Try.ntmps67
  go_wp2
  refine bodyPost_ret (results_list (rs := [.tmp 2, .tmp 3, .tmp 4, .tmp 5]) rfl (by simp) (.tmp (.tmp (.tmp (.tmp .nil))))) rfl ?_
  exact ⟨by first | rfl | (simp; done) | (simp [*]; done), by repeat (first | exact Drawn0.refl _ | apply Drawn0.step)⟩
 rw [if_neg c14] at H
 have c14b0 : (a0 == 3) = false := beq_eq_false_iff_ne.mpr c14
 have c14b1 : (a0 != 3) = true := bne_iff_ne.mpr c14
 by_cases c18 : a0 = 5
 rotate_left
 ·rw [if_neg c18] at H
  have c18b0 : (a0 == 5) = false := beq_eq_false_iff_ne.mpr c18
  have c18b1 : (a0 != 5) = true := bne_iff_ne.mpr c18
  by_cases c22 : a0 = 4
  rotate_left
  ·rw [if_neg c22] at H
   have c22b0 : (a0 == 4) = false := beq_eq_false_iff_ne.mpr c22
   have c22b1 : (a0 != 4) = true := bne_iff_ne.mpr c22
   by_cases c24 : a0 ≥ 8
   ·rw [if_pos c24] at H
    have c24b0 : decide (8 ≤ a0) = true := decide_eq_true c24
    clear c24
    simp only [Option.some.injEq, Prod.mk.injEq] at H
    obtain ⟨rfl, rfl, rfl, rfl⟩ := H
    go_enter Try.func67, Try.ntmps67
    go_wp2
    refine bodyPost_ret (results_list (rs := [.tmp 2, .tmp 3, .tmp 4, .tmp 5]) rfl (by simp) (.tmp (.tmp (.tmp (.tmp .nil))))) rfl ?_
    exact ⟨by first | rfl | (simp; done) | (simp [*]; done), by repeat (first | exact Drawn0.refl _ | apply Drawn0.step)⟩
   rw [if_neg c24] at H
   have c24b0 : decide (8 ≤ a0) = false := decide_eq_false c24
   clear c24
   simp only [Option.some.injEq, Prod.mk.injEq] at H
   obtain ⟨rfl, rfl, rfl, rfl⟩ := H
   go_enter Try.func67, Try.ntmps67
   go_wp2
   refine bodyPost_ret (results_list (rs := [.tmp 2, .tmp 3, .tmp 4, .tmp 5]) rfl (by simp) (.tmp (.tmp (.tmp (.tmp .nil))))) rfl ?_
   exact ⟨by first | rfl | (simp; done) | (simp [*]; done), by repeat (first | exact Drawn0.refl _ | apply Drawn0.step)⟩
  rw [if_pos c22] at H
  have c22b0 : (a0 == 4) = true := beq_iff_eq.mpr c22
  have c22b1 : (a0 != 4) = false := bne_eq_false_iff_eq.mpr c22
  clear c22
  by_cases c23 : a0 ≥ 8
  ·rw [if_pos c23] at H
   have c23b0 : decide (8 ≤ a0) = true := decide_eq_true c23
   clear c23
   simp only [Option.some.injEq, Prod.mk.injEq] at H
   obtain ⟨rfl, rfl, rfl, rfl⟩ := H
   go_enter Try.func67, Try.ntmps67
   go_wp2
   refine bodyPost_ret (results_list (rs := [.tmp 2, .tmp 3, .tmp 4, .tmp 5]) rfl (by simp) (.tmp (.tmp (.tmp (.tmp .nil))))) rfl ?_
   exact ⟨by first | rfl | (simp; done) | (simp [*]; done), by repeat (first | exact Drawn0.refl _ | apply Drawn0.step)⟩
  rw [if_neg c23] at H
  have c23b0 : decide (8 ≤ a0) = false := decide_eq_false c23
  clear c23
  simp only [Option.some.injEq, Prod.mk.injEq] at H
  obtain ⟨rfl, rfl, rfl, rfl⟩ := H
  go_enter Try.func67, Try.ntmps67
  go_wp2
  refine bodyPost_ret (results_list (rs := [.tmp 2, .tmp 3, .tmp 4, .tmp 5]) rfl (by simp) (.tmp (.tmp (.tmp (.tmp .nil))))) rfl ?_
  exact ⟨by first | rfl | (simp; done) | (simp [*]; done), by repeat (first | exact Drawn0.refl _ | apply Drawn0.step)⟩
 rw [if_pos c18] at H
 have c18b0 : (a0 == 5) = true := beq_iff_eq.mpr c18
 have c18b1 : (a0 != 5) = false := bne_eq_false_iff_eq.mpr c18
 clear c18
 by_cases c19 : a0 = 4
 rotate_left
 ·rw [if_neg c19] at H
  have c19b0 : (a0 == 4) = false := beq_eq_false_iff_ne.mpr c19
  have c19b1 : (a0 != 4) = true := bne_iff_ne.mpr c19
  by_cases c21 : a0 ≥ 8
  ·rw [if_pos c21] at H
   have c21b0 : decide (8 ≤ a0) = true := decide_eq_true c21
   clear c21
   simp only [Option.some.injEq, Prod.mk.injEq] at H
   obtain ⟨rfl, rfl, rfl, rfl⟩ := H
   go_enter Try.func67, Try.ntmps67
   go_wp2
   refine bodyPost_ret (results_list (rs := [.tmp 2, .tmp 3, .tmp 4, .tmp 5]) rfl (by simp) (.tmp (.tmp (.tmp (.tmp .nil))))) rfl ?_
   exact ⟨by first | rfl | (simp; done) | (simp [*]; done), by repeat (first | exact Drawn0.refl _ | apply Drawn0.step)⟩
  rw [if_neg c21] at H
  have c21b0 : decide (8 ≤ a0) = false := decide_eq_false c21
  clear c21
  simp only [Option.some.injEq, Prod.mk.injEq] at H
  obtain ⟨rfl, rfl, rfl, rfl⟩ := H
  go_enter Try.func67, Try.ntmps67
  go_wp2
  refine bodyPost_ret (results_list (rs := [.tmp 2, .tmp 3, .tmp 4, .tmp 5]) rfl (by simp) (.tmp (.tmp (.tmp (.tmp .nil))))) rfl ?_
  exact ⟨by first | rfl | (simp; done) | (simp [*]; done), by repeat (first | exact Drawn0.refl _ | apply Drawn0.step)⟩
 rw [if_pos c19] at H
 have c19b0 : (a0 == 4) = true := beq_iff_eq.mpr c19
 have c19b1 : (a0 != 4) = false := bne_eq_false_iff_eq.mpr c19
 clear c19
 by_cases c20 : a0 ≥ 8
 ·rw [if_pos c20] at H
  have c20b0 : decide (8 ≤ a0) = true := decide_eq_true c20
  clear c20
  simp only [Option.some.injEq, Prod.mk.injEq] at H
  obtain ⟨rfl, rfl, rfl, rfl⟩ := H
  go_enter Try.func67, Try.ntmps67
  go_wp2
  refine bodyPost_ret (results_list (rs := [.tmp 2, .tmp 3, .tmp 4, .tmp 5]) rfl (by simp) (.tmp (.tmp (.tmp (.tmp .nil))))) rfl ?_
  exact ⟨by first | rfl | (simp; done) | (simp [*]; done), by repeat (first | exact Drawn0.refl _ | apply Drawn0.step)⟩
 rw [if_neg c20] at H
 have c20b0 : decide (8 ≤ a0) = false := decide_eq_false c20
 clear c20
 simp only [Option.some.injEq, Prod.mk.injEq] at H
 obtain ⟨rfl, rfl, rfl, rfl⟩ := H
 go_enter Try.func67, Try.ntmps67
 go_wp2
 refine bodyPost_ret (results_list (rs := [.tmp 2, .tmp 3, .tmp 4, .tmp 5]) rfl (by simp) (.tmp (.tmp (.tmp (.tmp .nil))))) rfl ?_
 exact ⟨by first | rfl | (simp; done) | (simp [*]; done), by repeat (first | exact Drawn0.refl _ | apply Drawn0.step)⟩
end Go.Proofs.Ytijpfonbeepmfaa.Print
