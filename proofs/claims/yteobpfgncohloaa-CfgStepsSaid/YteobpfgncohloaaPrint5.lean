-- Written by ownprint.py (this session's) with the kit's print.py: functions, contracts, rows; Lean checks it.
import Derived.Test.YteobpfgncohloaaPrint0
import Derived.Test.YteobpfgncohloaaPrint2
import Derived.Test.YteobpfgncohloaaPrint4
import Derived.Test.YteobpfgncohloaaHSq
namespace Go.Proofs.Yteobpfgncohloaa.Print
open Go.RowKit Go.Proofs.YteobpfgncohloaaW.PrintWords Go.Proofs.YteobpfgncohloaaW.PrintLast Go.Proofs.YteobpfgncohloaaW.PrintMore
attribute [local go_sem] max2_int min2_int max_two min_two max_three min_three max_four min_four   -- for this text's walks alone
set_option linter.unusedVariables false
set_option linter.unusedSimpArgs false
def fencepostlaw10_Great.f (k : Nat) (l0_0 : List Int) (l0_1 : List (List (S42))) : Option (Bool) := (fencepostlaw07_Great.f k l0_0 l0_1).bind fun t173 => (if t173 = true then (some true) else ((fencepostref07_Right.f k l0_0 l0_1).bind fun t174 => (some (!t174))))
set_option maxHeartbeats 8000000 in
set_option maxRecDepth 100000 in
theorem fencepostlaw10_Great.calls (k : Nat) (A0_0 : Option Addr) (c0_0 : Nat) (l0_0 : List Int) (A0_1 : Option Addr) (c0_1 : Nat) (l0_1 : List (List (S42))) (r : Bool) (w : World) (hr0_0 : Kd.C (Kd.int .i64) w A0_0 l0_0.length l0_0) (hc0_0 : l0_0.length ≤ c0_0) (hr0_1 : Kd.C (Kd.slice 42 k42) w A0_1 l0_1.length l0_1) (hc0_1 : l0_1.length ≤ c0_1) (h : fencepostlaw10_Great.f k l0_0 l0_1 = some r) :
 Calls Try.prog 12 #[.agg #[.slice A0_0 l0_0.length c0_0, .slice A0_1 l0_1.length c0_1]] w fun e w' => e = .returned (.bool r) ∧ Below w.heap.size w w' := by
 have hu25 := Try.underlying25
 have HR0_0 := Aside0.mk hr0_0
 have HC0_0 := Aside0.mk hc0_0
 clear hr0_0 hc0_0
 have HR0_1 := Aside0.mk hr0_1
 have HC0_1 := Aside0.mk hc0_1
 clear hr0_1 hc0_1
 have HB := Aside0.mk (Below.refl w.heap.size w)
 have H : ((fencepostlaw07_Great.f k l0_0 l0_1).bind fun t173 => (if t173 = true then (some true) else ((fencepostref07_Right.f k l0_0 l0_1).bind fun t174 => (some (!t174))))) = some r := h
 clear h
 replace H := Option.bind_eq_some_iff.mp H
 obtain ⟨t173, A20, H⟩ := H
 replace H : (if t173 = true then (some true) else ((fencepostref07_Right.f k l0_0 l0_1).bind fun t174 => (some (!t174)))) = some r := H
 have A2 := Aside0.mk A20
 clear A20
 by_cases c3 : t173 = true
 ·subst c3
  have H1 : (some true) = some r := by rw [if_pos rfl] at H; exact H
  clear H
  have H := H1
  clear H1
  obtain rfl := Option.some.inj H
  go_enter Try.func12, Try.ntmps12
  go_wp2_with (first | ((with_reducible refine gate_dst (N := 1) rfl ?_); refine box_event ?hg (N := 1) ?hd (cs := #[.slice A0_0 l0_0.length c0_0, .slice A0_1 l0_1.length c0_1]) (t := 25) ?hr ?_; (case hd => rfl); (case hg => rfl); (case hr => first | (go_simp; done) | (go_simp; rfl)); intro gb172 hg w4 hbox hb; have n0_ := Aside0.mk (below_step (hb_ HB.out) hb); have n1_ := Aside0.mk (hbox); have n2_ := Aside0.mk (gs_ hg (hb_ HB.out)); have n3_ := Aside0.mk (gs_ hg (hb_ HB.out)); clear HB; have HB := n0_; have BK172 := n1_; have GW172 := n2_; have GE172 := n3_; clear n0_ n1_ n2_ n3_; clear hb hbox hg; have hcz5_0 : w4.cell? ⟨gb172, 0, none⟩ = some (.slice A0_0 l0_0.length c0_0) := (blk_cell BK172.out 0).trans rfl; have hcz5_1 : w4.cell? ⟨gb172, 1, none⟩ = some (.slice A0_1 l0_1.length c0_1) := (blk_cell BK172.out 1).trans rfl; have hfz5_0 := blk_frozen BK172.out 0; have hfz5_1 := blk_frozen BK172.out 1) | ((with_reducible refine gate_callee (f := 19) rfl ?_); refine goesL_ (some 4) rfl rfl Try.func19 (by kernel_rfl) rfl #[.agg #[.slice A0_0 l0_0.length c0_0, .slice A0_1 l0_1.length c0_1]] rfl ar_ ?_; (with_reducible refine (fencepostlaw07_Great.calls k _ _ l0_0 _ _ l0_1 true _ ?side1 ?side2 ?side3 ?side4 A2.out).mono ?_); (case side1 => exact cd_ (Kd.C_below HR0_0.out HB.out)); (case side2 => exact HC0_0.out); (case side3 => exact cd_ (Kd.C_below HR0_1.out HB.out)); (case side4 => exact HC0_1.out); rintro e w6 ⟨rfl, hb⟩; refine ⟨_, rfl, ?_⟩; have n0_ := Aside0.mk (bb_ BK172.out hb); have n1_ := Aside0.mk (below_step (hb_ HB.out) hb); clear BK172; clear HB; have BK172 := n0_; have HB := n1_; clear n0_ n1_; (try clear hb); (try clear hb2); (try clear hk); (try clear hi)))
  go_ret
  exact ⟨by first | rfl | (simp [errW_none, errW_some] <;> rfl) | (simp [*, errW_none, errW_some] <;> rfl), hb_ HB.out⟩
 replace c3 := Bool.eq_false_iff.mpr c3
 subst c3
 have H1 : ((fencepostref07_Right.f k l0_0 l0_1).bind fun t174 => (some (!t174))) = some r := by rw [if_neg (show ¬ (false = true) by decide)] at H; exact H
 clear H
 have H := H1
 clear H1
 replace H := Option.bind_eq_some_iff.mp H
 obtain ⟨t174, A70, H⟩ := H
 replace H : (some (!t174)) = some r := H
 have A7 := Aside0.mk A70
 clear A70
 obtain rfl := Option.some.inj H
 go_enter Try.func12, Try.ntmps12
 go_wp2_with (first | ((with_reducible refine gate_dst (N := 1) rfl ?_); refine box_event ?hg (N := 1) ?hd (cs := #[.slice A0_0 l0_0.length c0_0, .slice A0_1 l0_1.length c0_1]) (t := 25) ?hr ?_; (case hd => rfl); (case hg => rfl); (case hr => first | (go_simp; done) | (go_simp; rfl)); intro gb172 hg w8 hbox hb; have n0_ := Aside0.mk (below_step (hb_ HB.out) hb); have n1_ := Aside0.mk (hbox); have n2_ := Aside0.mk (gs_ hg (hb_ HB.out)); have n3_ := Aside0.mk (gs_ hg (hb_ HB.out)); clear HB; have HB := n0_; have BK172 := n1_; have GW172 := n2_; have GE172 := n3_; clear n0_ n1_ n2_ n3_; clear hb hbox hg; have hcz9_0 : w8.cell? ⟨gb172, 0, none⟩ = some (.slice A0_0 l0_0.length c0_0) := (blk_cell BK172.out 0).trans rfl; have hcz9_1 : w8.cell? ⟨gb172, 1, none⟩ = some (.slice A0_1 l0_1.length c0_1) := (blk_cell BK172.out 1).trans rfl; have hfz9_0 := blk_frozen BK172.out 0; have hfz9_1 := blk_frozen BK172.out 1) | ((with_reducible refine gate_callee (f := 19) rfl ?_); refine goesL_ (some 4) rfl rfl Try.func19 (by kernel_rfl) rfl #[.agg #[.slice A0_0 l0_0.length c0_0, .slice A0_1 l0_1.length c0_1]] rfl ar_ ?_; (with_reducible refine (fencepostlaw07_Great.calls k _ _ l0_0 _ _ l0_1 false _ ?side1 ?side2 ?side3 ?side4 A2.out).mono ?_); (case side1 => exact cd_ (Kd.C_below HR0_0.out HB.out)); (case side2 => exact HC0_0.out); (case side3 => exact cd_ (Kd.C_below HR0_1.out HB.out)); (case side4 => exact HC0_1.out); rintro e w10 ⟨rfl, hb⟩; refine ⟨_, rfl, ?_⟩; have n0_ := Aside0.mk (bb_ BK172.out hb); have n1_ := Aside0.mk (below_step (hb_ HB.out) hb); clear BK172; clear HB; have BK172 := n0_; have HB := n1_; clear n0_ n1_; (try clear hb); (try clear hb2); (try clear hk); (try clear hi); have hcz11_0 : w10.cell? ⟨gb172, 0, none⟩ = some (.slice A0_0 l0_0.length c0_0) := (blk_cell BK172.out 0).trans rfl; have hcz11_1 : w10.cell? ⟨gb172, 1, none⟩ = some (.slice A0_1 l0_1.length c0_1) := (blk_cell BK172.out 1).trans rfl; have hfz11_0 := blk_frozen BK172.out 0; have hfz11_1 := blk_frozen BK172.out 1) | (go_at_call 20; (with_reducible refine (fencepostref07_Right.calls k _ _ l0_0 _ _ l0_1 t174 _ ?side1 ?side2 ?side3 ?side4 A7.out).mono ?_); (case side1 => exact cd_ (Kd.C_below HR0_0.out HB.out)); (case side2 => exact HC0_0.out); (case side3 => exact cd_ (Kd.C_below HR0_1.out HB.out)); (case side4 => exact HC0_1.out); rintro e w12 ⟨rfl, hb⟩; have n0_ := Aside0.mk (bb_ BK172.out hb); have n1_ := Aside0.mk (below_step (hb_ HB.out) hb); clear BK172; clear HB; have BK172 := n0_; have HB := n1_; clear n0_ n1_; (try clear hb); (try clear hb2); (try clear hk); (try clear hi)))
 go_ret
 exact ⟨by first | rfl | (simp [errW_none, errW_some] <;> rfl) | (simp [*, errW_none, errW_some] <;> rfl), hb_ HB.out⟩
def fencepostlaw13_Great.f (k : Nat) (l0_0 : List Int) (l0_1 : List (List (S42))) (l1 : List (S51)) : Option (Bool) := (fencepostlaw10_Great.f k l0_0 l0_1).bind fun t176 => (if t176 = true then (some true) else (some (decide ((l1.length : Int) > 120))))
set_option maxHeartbeats 8000000 in
set_option maxRecDepth 100000 in
theorem fencepostlaw13_Great.calls (k : Nat) (A0_0 : Option Addr) (c0_0 : Nat) (l0_0 : List Int) (A0_1 : Option Addr) (c0_1 : Nat) (l0_1 : List (List (S42))) (A1 : Option Addr) (c1 : Nat) (l1 : List (S51)) (r : Bool) (w : World) (hr0_0 : Kd.C (Kd.int .i64) w A0_0 l0_0.length l0_0) (hc0_0 : l0_0.length ≤ c0_0) (hr0_1 : Kd.C (Kd.slice 42 k42) w A0_1 l0_1.length l0_1) (hc0_1 : l0_1.length ≤ c0_1) (hr1 : Kd.C k51 w A1 l1.length l1) (hc1 : l1.length ≤ c1) (h : fencepostlaw13_Great.f k l0_0 l0_1 l1 = some r) :
 Calls Try.prog 5 #[.agg #[.slice A0_0 l0_0.length c0_0, .slice A0_1 l0_1.length c0_1], .slice A1 l1.length c1] w fun e w' => e = .returned (.bool r) ∧ Below w.heap.size w w' := by
 have hu25 := Try.underlying25
 have HR0_0 := Aside0.mk hr0_0
 have HC0_0 := Aside0.mk hc0_0
 clear hr0_0 hc0_0
 have HR0_1 := Aside0.mk hr0_1
 have HC0_1 := Aside0.mk hc0_1
 clear hr0_1 hc0_1
 have HR1 := Aside0.mk hr1
 have HC1 := Aside0.mk hc1
 clear hr1 hc1
 have HB := Aside0.mk (Below.refl w.heap.size w)
 have H : ((fencepostlaw10_Great.f k l0_0 l0_1).bind fun t176 => (if t176 = true then (some true) else (some (decide ((l1.length : Int) > 120))))) = some r := h
 clear h
 replace H := Option.bind_eq_some_iff.mp H
 obtain ⟨t176, A30, H⟩ := H
 replace H : (if t176 = true then (some true) else (some (decide ((l1.length : Int) > 120)))) = some r := H
 have A3 := Aside0.mk A30
 clear A30
 by_cases c4 : t176 = true
 ·subst c4
  have H1 : (some true) = some r := by rw [if_pos rfl] at H; exact H
  clear H
  have H := H1
  clear H1
  obtain rfl := Option.some.inj H
  go_enter Try.func5, Try.ntmps5
  go_wp2_with (first | ((with_reducible refine gate_dst (N := 2) rfl ?_); (try (refine gate_guard (by rfl) ?_; dsimp only)); refine box_event ?hg (N := 2) ?hd (cs := #[.slice A0_0 l0_0.length c0_0, .slice A0_1 l0_1.length c0_1]) (t := 25) ?hr ?_; (case hd => rfl); (case hg => rfl); (case hr => first | (go_simp; done) | (go_simp; rfl)); intro gb175 hg w5 hbox hb; have n0_ := Aside0.mk (below_step (hb_ HB.out) hb); have n1_ := Aside0.mk (hbox); have n2_ := Aside0.mk (gs_ hg (hb_ HB.out)); have n3_ := Aside0.mk (gs_ hg (hb_ HB.out)); clear HB; have HB := n0_; have BK175 := n1_; have GW175 := n2_; have GE175 := n3_; clear n0_ n1_ n2_ n3_; clear hb hbox hg; have hcz6_0 : w5.cell? ⟨gb175, 0, none⟩ = some (.slice A0_0 l0_0.length c0_0) := (blk_cell BK175.out 0).trans rfl; have hcz6_1 : w5.cell? ⟨gb175, 1, none⟩ = some (.slice A0_1 l0_1.length c0_1) := (blk_cell BK175.out 1).trans rfl; have hfz6_0 := blk_frozen BK175.out 0; have hfz6_1 := blk_frozen BK175.out 1) | ((with_reducible refine gate_callee (f := 12) rfl ?_); refine goesL_ (some 6) rfl rfl Try.func12 (by kernel_rfl) rfl #[.agg #[.slice A0_0 l0_0.length c0_0, .slice A0_1 l0_1.length c0_1]] rfl ar_ ?_; (with_reducible refine (fencepostlaw10_Great.calls k _ _ l0_0 _ _ l0_1 true _ ?side1 ?side2 ?side3 ?side4 A3.out).mono ?_); (case side1 => exact cd_ (Kd.C_below HR0_0.out HB.out)); (case side2 => exact HC0_0.out); (case side3 => exact cd_ (Kd.C_below HR0_1.out HB.out)); (case side4 => exact HC0_1.out); rintro e w7 ⟨rfl, hb⟩; refine ⟨_, rfl, ?_⟩; have n0_ := Aside0.mk (bb_ BK175.out hb); have n1_ := Aside0.mk (below_step (hb_ HB.out) hb); clear BK175; clear HB; have BK175 := n0_; have HB := n1_; clear n0_ n1_; (try clear hb); (try clear hb2); (try clear hk); (try clear hi)))
  go_ret
  exact ⟨by first | rfl | (simp [errW_none, errW_some] <;> rfl) | (simp [*, errW_none, errW_some] <;> rfl), hb_ HB.out⟩
 replace c4 := Bool.eq_false_iff.mpr c4
 subst c4
 have H1 : (some (decide ((l1.length : Int) > 120))) = some r := by rw [if_neg (show ¬ (false = true) by decide)] at H; exact H
 clear H
 have H := H1
 clear H1
 obtain rfl := Option.some.inj H
 go_enter Try.func5, Try.ntmps5
 go_wp2_with (first | ((with_reducible refine gate_dst (N := 2) rfl ?_); (try (refine gate_guard (by rfl) ?_; dsimp only)); refine box_event ?hg (N := 2) ?hd (cs := #[.slice A0_0 l0_0.length c0_0, .slice A0_1 l0_1.length c0_1]) (t := 25) ?hr ?_; (case hd => rfl); (case hg => rfl); (case hr => first | (go_simp; done) | (go_simp; rfl)); intro gb175 hg w8 hbox hb; have n0_ := Aside0.mk (below_step (hb_ HB.out) hb); have n1_ := Aside0.mk (hbox); have n2_ := Aside0.mk (gs_ hg (hb_ HB.out)); have n3_ := Aside0.mk (gs_ hg (hb_ HB.out)); clear HB; have HB := n0_; have BK175 := n1_; have GW175 := n2_; have GE175 := n3_; clear n0_ n1_ n2_ n3_; clear hb hbox hg; have hcz9_0 : w8.cell? ⟨gb175, 0, none⟩ = some (.slice A0_0 l0_0.length c0_0) := (blk_cell BK175.out 0).trans rfl; have hcz9_1 : w8.cell? ⟨gb175, 1, none⟩ = some (.slice A0_1 l0_1.length c0_1) := (blk_cell BK175.out 1).trans rfl; have hfz9_0 := blk_frozen BK175.out 0; have hfz9_1 := blk_frozen BK175.out 1) | ((with_reducible refine gate_callee (f := 12) rfl ?_); refine goesL_ (some 6) rfl rfl Try.func12 (by kernel_rfl) rfl #[.agg #[.slice A0_0 l0_0.length c0_0, .slice A0_1 l0_1.length c0_1]] rfl ar_ ?_; (with_reducible refine (fencepostlaw10_Great.calls k _ _ l0_0 _ _ l0_1 false _ ?side1 ?side2 ?side3 ?side4 A3.out).mono ?_); (case side1 => exact cd_ (Kd.C_below HR0_0.out HB.out)); (case side2 => exact HC0_0.out); (case side3 => exact cd_ (Kd.C_below HR0_1.out HB.out)); (case side4 => exact HC0_1.out); rintro e w10 ⟨rfl, hb⟩; refine ⟨_, rfl, ?_⟩; have n0_ := Aside0.mk (bb_ BK175.out hb); have n1_ := Aside0.mk (below_step (hb_ HB.out) hb); clear BK175; clear HB; have BK175 := n0_; have HB := n1_; clear n0_ n1_; (try clear hb); (try clear hb2); (try clear hk); (try clear hi)))
 go_ret
 exact ⟨by first | rfl | (simp [errW_none, errW_some] <;> rfl) | (simp [*, errW_none, errW_some] <;> rfl), hb_ HB.out⟩
def fencepostref10_Begin.l0 : Nat → Int → List Int → List (List (S42)) → List Int → List (S39) → Option (List Int × (List (S39)))
 | 0, _, _, _, _, _ => none
 | k + 1, x4, x178000, x178001, x186000, x186001 => if x4 < (x178001.length : Int) then (if 4 ≤ 35184372088832 then (if x186001.length < 2199023255552 then (fencepostref10_Begin.l0 k (wrap64 (x4 + 1)) x178000 x178001 x186000 (x186001 ++ [(⟨0, (List.replicate 4 0), false, ([] : List (S69))⟩ : S39)])) else (none)) else (none)) else (some (x186000, x186001))
def fencepostref10_Begin.f (k : Nat) (l0_0 : List Int) (l0_1 : List (List (S42))) : Option (List Int × (List (S39))) := (some (([] : List Int) : List Int)).bind fun y179 => (if y179.length + l0_0.length < 17592186044416 then (fencepostref10_Begin.l0 k 0 l0_0 l0_1 (y179 ++ l0_0) ([] : List (S39))) else (none))
def fencepostref10_Begin.T5 : Bool × List (List Nat × List Nat) := (true, [([], []), ([0], [0]), ([], []), ([2], [2]), ([3], [3]), ([1, 4], [1, 4]), ([0, 1, 2, 3, 4, 5], []), ([6, 5, 5, 0, 1, 2, 3, 4, 5], [5, 6])])
def fencepostref10_Begin.B5 : List Nat := [0, 1, 0, 4, 12, 31, 63, 127]
theorem fencepostref10_Begin.tab5 : rtab .any (opsOf Try.f13 5) = fencepostref10_Begin.T5 := by kernel_rfl
theorem fencepostref10_Begin.bits5 : waitsOk fencepostref10_Begin.T5.2 fencepostref10_Begin.B5 = true := by kernel_rfl
set_option maxHeartbeats 8000000 in
set_option maxRecDepth 100000 in
theorem fencepostref10_Begin.calls (k : Nat) (A0_0 : Option Addr) (c0_0 : Nat) (l0_0 : List Int) (A0_1 : Option Addr) (c0_1 : Nat) (l0_1 : List (List (S42))) (r1 : List Int) (r2 : List (S39)) (w : World) (hr0_0 : Kd.C (Kd.int .i64) w A0_0 l0_0.length l0_0) (hc0_0 : l0_0.length ≤ c0_0) (hr0_1 : Kd.C (Kd.slice 42 k42) w A0_1 l0_1.length l0_1) (hc0_1 : l0_1.length ≤ c0_1) (h : fencepostref10_Begin.f k l0_0 l0_1 = some (r1, r2)) :
 Calls Try.prog 13 #[.agg #[.slice A0_0 l0_0.length c0_0, .slice A0_1 l0_1.length c0_1]] w fun e w' => ∃ v0_ v1_ : Value, e = .returned (.agg #[v0_, v1_]) ∧ Kd.R (Kd.int .i64) 3 w' w.heap.size (fun _ => True) v0_ r1 ∧ Kd.S k39 39 w' w.heap.size (fun k_ => some k_ ≠ (v0_ : Value).ownBlock) v1_ r2 ∧ Below w.heap.size w w' := by
 have hu25 := Try.underlying25
 have hu31 := Try.underlying31
 have hu39 := Try.underlying39
 have HR0_0 := Aside0.mk hr0_0
 have HC0_0 := Aside0.mk hc0_0
 clear hr0_0 hc0_0
 have HR0_1 := Aside0.mk hr0_1
 have HC0_1 := Aside0.mk hc0_1
 clear hr0_1 hc0_1
 have HB := Aside0.mk (Below.refl w.heap.size w)
 have H : ((some (([] : List Int) : List Int)).bind fun y179 => (if y179.length + l0_0.length < 17592186044416 then (fencepostref10_Begin.l0 k 0 l0_0 l0_1 (y179 ++ l0_0) ([] : List (S39))) else (none))) = some (r1, r2) := h
 clear h
 obtain ⟨y179, hy179⟩ : ∃ y_ : List Int, y_ = (([] : List Int)) := ⟨_, rfl⟩
 replace H : (if y179.length + l0_0.length < 17592186044416 then (fencepostref10_Begin.l0 k 0 l0_0 l0_1 (y179 ++ l0_0) ([] : List (S39))) else (none)) = some (r1, r2) := by first | (rw [hy179]; with_reducible exact H) | (have H2_ := (Option.bind_some _ _).symm.trans H; rw [hy179]; with_reducible exact H2_) | (have H2_ := (Option.bind_some _ _).symm.trans H; with_reducible exact H2_) | with_reducible exact H | (rw [hy179]; exact H) | exact H
 have Ny179 := Aside0.mk hy179
 clear hy179
 by_cases c2 : y179.length + l0_0.length < 17592186044416
 rotate_left
 ·rw [if_neg c2] at H
  exact absurd H (by simp)
 rw [if_pos c2] at H
 have LMc2 := Aside0.mk c2
 clear c2
 obtain ⟨y182, hy182⟩ : ∃ y_ : List Int, y_ = (y179 ++ l0_0) := ⟨_, rfl⟩
 replace H : (fencepostref10_Begin.l0 k 0 l0_0 l0_1 y182 ([] : List (S39))) = some (r1, r2) := by first | (rw [hy182]; with_reducible exact H) | (have H2_ := (Option.bind_some _ _).symm.trans H; rw [hy182]; with_reducible exact H2_) | (have H2_ := (Option.bind_some _ _).symm.trans H; with_reducible exact H2_) | with_reducible exact H | (rw [hy182]; exact H) | exact H
 have Ny182 := Aside0.mk hy182
 clear hy182
 have H' := Aside0.mk H
 clear H
 go_enter Try.func13, Try.ntmps13
 go_wp2_with (first | ((with_reducible refine gate_dst (N := 1) rfl ?_); refine box_event ?hg (N := 1) ?hd (cs := #[.slice A0_0 l0_0.length c0_0, .slice A0_1 l0_1.length c0_1]) (t := 25) ?hr ?_; (case hd => rfl); (case hg => rfl); (case hr => first | (go_simp; done) | (go_simp; rfl)); intro gb177 hg w3 hbox hb; have n0_ := Aside0.mk (below_step (hb_ HB.out) hb); have n1_ := Aside0.mk (hbox); have n2_ := Aside0.mk (gs_ hg (hb_ HB.out)); have n3_ := Aside0.mk (gs_ hg (hb_ HB.out)); clear HB; have HB := n0_; have BK177 := n1_; have GW177 := n2_; have GE177 := n3_; clear n0_ n1_ n2_ n3_; clear hb hbox hg) | ((with_reducible refine gate_dst (N := 2) rfl ?_); refine box_event ?hg (N := 2) ?hd (cs := #[.slice none 0 0, .slice none 0 0]) (t := 31) ?hr ?_; (case hd => rfl); (case hg => rfl); (case hr => first | (go_simp; done) | (go_simp; rfl)); intro gb178 hg w4 hbox hb; have n0_ := Aside0.mk (bb_ BK177.out hb); have n1_ := Aside0.mk (below_step (hb_ HB.out) hb); have n2_ := Aside0.mk (hbox); have n3_ := Aside0.mk (gs_ hg (hb_ HB.out)); have n4_ := Aside0.mk (gs_ hg (hb_ HB.out)); have n5_ := Aside0.mk (gn_ hg BK177.out); have n6_ := Aside0.mk (gn_ hg BK177.out).symm; clear BK177; clear HB; have BK177 := n0_; have HB := n1_; have BK178 := n2_; have GW178 := n3_; have GE178 := n4_; have NB177_178 := n5_; have NB178_177 := n6_; clear n0_ n1_ n2_ n3_ n4_ n5_ n6_; clear hb hbox hg) | ((with_reducible refine gate_dst (N := 5) rfl ?_); refine Kd.R_lit (Kd.int .i64) _ 3 ?hg (N := 5) ?hd (xs := ([] : List Int)) (inner := []) (ok := fun _ => True) (okp := fun _ => True) ?hr ?hp (fun _ hk => hk) trivial (Below.refl _ _) (Nat.le_refl _) (by simp) ?_; (case hd => rfl); (case hg => rfl); (case hr => first | (go_simp; done) | (go_simp; rfl)); (case hp => exact (Reps.none _ _)); intro v180 w5 ho6 hb hg_ hnew_; clear hg_ hnew_; (first | rw [← Ny179.out] at ho6 | (simp only [Int.reduceToNat] at ho6; rw [← Ny179.out] at ho6)); have n0_ := Aside0.mk (Kd.R_lower ho6 (below_size (hb_ HB.out))); have n1_ := Aside0.mk (bb_ BK177.out hb); have n2_ := Aside0.mk (bb_ BK178.out hb); have n3_ := Aside0.mk (below_step (hb_ HB.out) hb); clear BK177; clear BK178; clear HB; have HO181 := n0_; have BK177 := n1_; have BK178 := n2_; have HB := n3_; clear n0_ n1_ n2_ n3_; clear hb ho6; have hnb7 := NB177_178.out; have hnc7 := NB178_177.out; have hcz8_0 : w5.cell? ⟨gb177, 0, none⟩ = some (.slice A0_0 l0_0.length c0_0) := (blk_cell BK177.out 0).trans rfl; have hcz8_1 : w5.cell? ⟨gb177, 1, none⟩ = some (.slice A0_1 l0_1.length c0_1) := (blk_cell BK177.out 1).trans rfl; have hfz8_0 := blk_frozen BK177.out 0; have hfz8_1 := blk_frozen BK177.out 1) | ((with_reducible refine gate_builtin (b := .append) (xs := #[.tmp 5, .tmp 7]) rfl ?_); at_builtin; refine Kd.R_append_rows (Kd.int .i64) (w0 := w) w.heap.size rfl (.tmp 5) (.tmp 7) 22 3 (.int .i64 0) 8 rfl Try.underlying22 info3 rfl (by decide) (by omega) v180 y179 l0_0 _ _ _ (fun _ => True) (fun _ => False) rfl rfl ?aO ?aR (fun _ _ h => h) (fun _ h => h.elim) ?aF ?aB ?aS ?aL ?_; (case aR => repeat (first | exact (Kd.C_below HR0_0.out HB.out) | (with_reducible refine Kd.C_alloc ?_ _) | (with_reducible refine Kd.C_drewN ?_ _) | (with_reducible refine Kd.C_drew ?_))); (case aB => exact (hb_ HB.out)); (case aF => exact (fun _ _ => trivial)); (case aO => exact (rd_ HO181.out)); (case aS => exact (below_size (hb_ HB.out))); (case aL => have := LMc2.out; omega); intro v183 w9 ho hb hg hat; rw [← Ny182.out] at ho; have n0_ := Aside0.mk (blk_grown (g := gb177) (o := .cells #[.slice A0_0 l0_0.length c0_0, .slice A0_1 l0_1.length c0_1] 25 (0, 0)) (bd_ BK177.out) hg (Kd.R_ne HO181.out BK177.out (by decide))); have n1_ := Aside0.mk (blk_grown (g := gb178) (o := .cells #[.slice none 0 0, .slice none 0 0] 31 (0, 0)) (bd_ BK178.out) hg (Kd.R_ne HO181.out BK178.out (by decide))); have n2_ := Aside0.mk (hb); have n3_ := Aside0.mk (ho); clear BK177; clear BK178; clear HB; clear HO181; have BK177 := n0_; have BK178 := n1_; have HB := n2_; have HO184 := n3_; clear n0_ n1_ n2_ n3_; clear ho hb hg hat; obtain ⟨Ao10, co10, eo10⟩ := Kd.R_slice HO184.out; subst eo10) | ((with_reducible refine gate_dst (N := 3) rfl ?_); refine box_event ?hg (N := 3) ?hd (cs := #[.slice none 0 0, .slice none 0 0]) (t := 31) ?hr ?_; (case hd => rfl); (case hg => rfl); (case hr => first | (go_simp; done) | (go_simp; rfl)); intro gb185 hg w11 hbox hb; have n0_ := Aside0.mk (Kd.R_below (rd_ HO184.out) hb); have n1_ := Aside0.mk (bb_ BK177.out hb); have n2_ := Aside0.mk (bb_ BK178.out hb); have n3_ := Aside0.mk (below_step (hb_ HB.out) hb); have n4_ := Aside0.mk (hbox); have n5_ := Aside0.mk (gs_ hg (hb_ HB.out)); have n6_ := Aside0.mk (gs_ hg (hb_ HB.out)); have n7_ := Aside0.mk (gn_ hg BK177.out); have n8_ := Aside0.mk (gn_ hg BK177.out).symm; have n9_ := Aside0.mk (gn_ hg BK178.out); have n10_ := Aside0.mk (gn_ hg BK178.out).symm; clear HO184; clear BK177; clear BK178; clear HB; have HO184 := n0_; have BK177 := n1_; have BK178 := n2_; have HB := n3_; have BK185 := n4_; have GW185 := n5_; have GE185 := n6_; have NB177_185 := n7_; have NB185_177 := n8_; have NB178_185 := n9_; have NB185_178 := n10_; clear n0_ n1_ n2_ n3_ n4_ n5_ n6_ n7_ n8_ n9_ n10_; clear hb hbox hg; have hnb12 := NB185_177.out; have hnc12 := NB177_185.out; have hnb13 := NB185_178.out; have hnc13 := NB178_185.out; have hcz14_0 : w11.cell? ⟨gb185, 0, none⟩ = some (.slice none 0 0) := (blk_cell BK185.out 0).trans rfl; have hcz14_1 : w11.cell? ⟨gb185, 1, none⟩ = some (.slice none 0 0) := (blk_cell BK185.out 1).trans rfl; have hfz14_0 := blk_frozen BK185.out 0; have hfz14_1 := blk_frozen BK185.out 1))
 go_loopg [4] k (fun kq v4 w' => ∃ (x4_1 : Int) (x186001_1 : List (S39)) (u186001 : Value), v4 = .int .i64 x4_1 ∧ Aside0 (fencepostref10_Begin.l0 kq x4_1 l0_0 l0_1 y182 x186001_1 = some (r1, r2)) ∧ Aside0 (kq ≤ k) ∧ Aside0 (Kd.R (Kd.int .i64) 3 w' w.heap.size (fun _ => True) (.slice Ao10 y182.length co10) y182) ∧ Aside0 (Kd.S k39 39 w' w.heap.size (fun k_ => some k_ ≠ ((.slice Ao10 y182.length co10) : Value).ownBlock) u186001 x186001_1) ∧ Aside0 (w'.heap[gb177]? = some (.cells #[(.slice A0_0 l0_0.length c0_0), (.slice A0_1 l0_1.length c0_1)] 25 (0, 0))) ∧ Aside0 (w'.heap[gb178]? = some (.cells #[(.slice none 0 0), (.slice none 0 0)] 31 (0, 0))) ∧ Aside0 (w'.heap[gb185]? = some (.cells #[(.slice Ao10 y182.length co10), u186001] 31 (0, 0))) ∧ Aside0 (Below w.heap.size w w'))
 case atStart => exact ⟨(0), (([] : List (S39))), (.slice none 0 0), rf_, H', ⟨Nat.le_refl _⟩, ⟨by (with_reducible repeat (first | apply Kd.R_alloc | apply Kd.R_drewN | apply Kd.R_drew)); exact Kd.R_mono (Kd.R_far (p := ⟨gb185, 1, none⟩) (Kd.R_far (p := ⟨gb185, 0, none⟩) (Kd.R_types HO184.out BK185.out (by decide)) (fun _ hk => hk.2) (.slice Ao10 y182.length co10)) (fun _ hk => hk.2) (.slice none 0 0)) (fun _ hk => trivial)⟩, ⟨by first | exact Kd.S_nil _ _ _ _ _ | exact Kd.N_nil _ _ _ _ _ | exact Kd.V_nil _ _ _ _ _ | exact Kd.Q_nil _ _ _ _ _ | exact Kd.R_nil _ _ _ _ _⟩, ⟨by (with_reducible repeat (first | refine blk_drewN ?_ _ | refine blk_drew ?_ | refine blk_alloc ?_ _)); refine blk_far ?_ NB177_185.out _; (with_reducible repeat (first | refine blk_drewN ?_ _ | refine blk_drew ?_ | refine blk_alloc ?_ _)); refine blk_far ?_ NB177_185.out _; (with_reducible repeat (first | refine blk_drewN ?_ _ | refine blk_drew ?_ | refine blk_alloc ?_ _)); exact BK177.out⟩, ⟨by (with_reducible repeat (first | refine blk_drewN ?_ _ | refine blk_drew ?_ | refine blk_alloc ?_ _)); refine blk_far ?_ NB178_185.out _; (with_reducible repeat (first | refine blk_drewN ?_ _ | refine blk_drew ?_ | refine blk_alloc ?_ _)); refine blk_far ?_ NB178_185.out _; (with_reducible repeat (first | refine blk_drewN ?_ _ | refine blk_drew ?_ | refine blk_alloc ?_ _)); exact BK178.out⟩, ⟨by (with_reducible repeat (first | refine blk_drewN ?_ _ | refine blk_drew ?_ | refine blk_alloc ?_ _)); refine blk_put (cs := #[.slice Ao10 y182.length co10, .slice none 0 0]) ?_ 1 _ rfl; (with_reducible repeat (first | refine blk_drewN ?_ _ | refine blk_drew ?_ | refine blk_alloc ?_ _)); refine blk_put (cs := #[.slice none 0 0, .slice none 0 0]) ?_ 0 _ rfl; (with_reducible repeat (first | refine blk_drewN ?_ _ | refine blk_drew ?_ | refine blk_alloc ?_ _)); exact BK185.out⟩, ⟨hb_ HB.out⟩⟩
 clear H'
 try clear c2
 try clear hcz14_0
 try clear hcz14_1
 try clear hcz8_0
 try clear hcz8_1
 try clear hfz14_0
 try clear hfz14_1
 try clear hfz8_0
 try clear hfz8_1
 obtain ⟨x4_1, x186001_1, u186001, rfl, HA, HK1, HO_186000, HO_186001, BK177, BK178, BK185, HB⟩ := hrel
 cases gk with
 | zero => exact absurd HA.out (by simp [fencepostref10_Begin.l0])
 | succ k1 => ?_
 have H := HA.out
 clear HA
 simp only [fencepostref10_Begin.l0] at H
 by_cases c15 : x4_1 < (l0_1.length : Int)
 rotate_left
 ·rw [if_neg c15] at H
  have c15b0 : decide (x4_1 < (l0_1.length : Int)) = false := decide_eq_false c15
  clear c15
  simp only [Option.some.injEq, Prod.mk.injEq] at H
  obtain ⟨rfl, rfl⟩ := H
  have hnb28 := NB177_178.out
  have hnc28 := NB178_177.out
  have hnb29 := NB177_185.out
  have hnc29 := NB185_177.out
  have hcz30_0 : wr.cell? ⟨gb177, 0, none⟩ = some (.slice A0_0 l0_0.length c0_0) := (blk_cell BK177.out 0).trans rfl
  have hcz30_1 : wr.cell? ⟨gb177, 1, none⟩ = some (.slice A0_1 l0_1.length c0_1) := (blk_cell BK177.out 1).trans rfl
  have hfz30_0 := blk_frozen BK177.out 0
  have hfz30_1 := blk_frozen BK177.out 1
  have hnb31 := NB185_178.out
  have hnc31 := NB178_185.out
  have hcz32_0 : wr.cell? ⟨gb185, 0, none⟩ = some (.slice Ao10 y182.length co10) := (blk_cell BK185.out 0).trans rfl
  have hcz32_1 : wr.cell? ⟨gb185, 1, none⟩ = some (u186001) := (blk_cell BK185.out 1).trans rfl
  have hfz32_0 := blk_frozen BK185.out 0
  have hfz32_1 := blk_frozen BK185.out 1
  have hcz33_0 : wr.cell? ⟨gb178, 0, none⟩ = some (.slice none 0 0) := (blk_cell BK178.out 0).trans rfl
  have hcz33_1 : wr.cell? ⟨gb178, 1, none⟩ = some (.slice none 0 0) := (blk_cell BK178.out 1).trans rfl
  have hfz33_0 := blk_frozen BK178.out 0
  have hfz33_1 := blk_frozen BK178.out 1
  obtain ⟨Ao34, co34, eo34⟩ := Kd.S_slice HO_186001.out
  subst eo34
  go_wp2
  refine bodyPost_ret (results_cell_row rfl _ _ gb178 31 #[.slice Ao10 y182.length co10, .slice Ao34 x186001_1.length co34] (0, 0) _ rfl (by (with_reducible repeat (first | refine blk_drewN ?_ _ | refine blk_drew ?_ | refine blk_alloc ?_ _)); refine blk_put (cs := #[.slice Ao10 y182.length co10, .slice none 0 0]) ?_ 1 _ rfl; (with_reducible repeat (first | refine blk_drewN ?_ _ | refine blk_drew ?_ | refine blk_alloc ?_ _)); refine blk_put (cs := #[.slice none 0 0, .slice none 0 0]) ?_ 0 _ rfl; (with_reducible repeat (first | refine blk_drewN ?_ _ | refine blk_drew ?_ | refine blk_alloc ?_ _)); exact BK178.out) Try.underlying31 rfl (by kernel_rfl)) rfl ?_
  exact ⟨_, _, by first | rfl | (simp [errW_none, errW_some] <;> rfl) | (simp [*, errW_none, errW_some] <;> rfl), by (with_reducible repeat (first | apply Kd.R_alloc | apply Kd.R_drewN | apply Kd.R_drew)); exact Kd.R_mono (Kd.R_far (p := ⟨gb178, 1, none⟩) (Kd.R_far (p := ⟨gb178, 0, none⟩) (Kd.R_types HO_186000.out BK178.out (by decide)) (fun _ hk => hk.2) (.slice Ao10 y182.length co10)) (fun _ hk => hk.2) (.slice Ao34 x186001_1.length co34)) (fun _ hk => trivial), by (with_reducible repeat (first | apply Kd.S_alloc | apply Kd.S_drewN | apply Kd.S_drew)); exact Kd.S_mono (Kd.S_far (p := ⟨gb178, 1, none⟩) (Kd.S_far (p := ⟨gb178, 0, none⟩) (Kd.S_types HO_186001.out BK178.out (by decide)) (fun _ hk => hk.2) (.slice Ao10 y182.length co10)) (fun _ hk => hk.2) (.slice Ao34 x186001_1.length co34)) (fun _ hk => hk.1), hb_ HB.out⟩
 rw [if_pos c15] at H
 have c15b0 : decide (x4_1 < (l0_1.length : Int)) = true := decide_eq_true c15
 clear c15
 by_cases c16 : 4 ≤ 35184372088832
 rotate_left
 ·rw [if_neg c16] at H
  exact absurd H (by simp)
 rw [if_pos c16] at H
 have c16b0 := eq_true c16
 have c16b1 : decide (4 ≤ 35184372088832) = true := decide_eq_true c16
 clear c16
 obtain ⟨y186, hy186⟩ : ∃ y_ : List Int, y_ = (List.replicate 4 0) := ⟨_, rfl⟩
 replace H : (if x186001_1.length < 2199023255552 then (fencepostref10_Begin.l0 k1 (wrap64 (x4_1 + 1)) l0_0 l0_1 y182 (x186001_1 ++ [(⟨0, y186, false, ([] : List (S69))⟩ : S39)])) else (none)) = some (r1, r2) := by first | (rw [hy186]; with_reducible exact H) | (have H2_ := (Option.bind_some _ _).symm.trans H; rw [hy186]; with_reducible exact H2_) | (have H2_ := (Option.bind_some _ _).symm.trans H; with_reducible exact H2_) | with_reducible exact H | (rw [hy186]; exact H) | exact H
 have Ny186 := Aside0.mk hy186
 clear hy186
 by_cases c17 : x186001_1.length < 2199023255552
 rotate_left
 ·rw [if_neg c17] at H
  exact absurd H (by simp)
 rw [if_pos c17] at H
 have LMc17 := Aside0.mk c17
 clear c17
 obtain ⟨y189, hy189⟩ : ∃ y_ : List (S39), y_ = (x186001_1 ++ [(⟨0, y186, false, ([] : List (S69))⟩ : S39)]) := ⟨_, rfl⟩
 replace H : (fencepostref10_Begin.l0 k1 (wrap64 (x4_1 + 1)) l0_0 l0_1 y182 y189) = some (r1, r2) := by first | (rw [hy189]; with_reducible exact H) | (have H2_ := (Option.bind_some _ _).symm.trans H; rw [hy189]; with_reducible exact H2_) | (have H2_ := (Option.bind_some _ _).symm.trans H; with_reducible exact H2_) | with_reducible exact H | (rw [hy189]; exact H) | exact H
 have Ny189 := Aside0.mk hy189
 clear hy189
 have H' := Aside0.mk H
 clear H
 have hnb18 := NB177_178.out
 have hnc18 := NB178_177.out
 have hnb19 := NB177_185.out
 have hnc19 := NB185_177.out
 have hcz20_0 : wr.cell? ⟨gb177, 0, none⟩ = some (.slice A0_0 l0_0.length c0_0) := (blk_cell BK177.out 0).trans rfl
 have hcz20_1 : wr.cell? ⟨gb177, 1, none⟩ = some (.slice A0_1 l0_1.length c0_1) := (blk_cell BK177.out 1).trans rfl
 have hfz20_0 := blk_frozen BK177.out 0
 have hfz20_1 := blk_frozen BK177.out 1
 try go_wp2
 have n0_ := Aside0.mk (Kd.R_drew HO_186000.out)
 have n1_ := Aside0.mk (Kd.S_drew HO_186001.out)
 have n2_ := Aside0.mk (blk_drew BK177.out)
 have n3_ := Aside0.mk (blk_drew BK178.out)
 have n4_ := Aside0.mk (blk_drew BK185.out)
 have n5_ := Aside0.mk (below_drew1 HB.out)
 clear HO_186000
 clear HO_186001
 clear BK177
 clear BK178
 clear BK185
 clear HB
 have HO_186000 := n0_
 have HO_186001 := n1_
 have BK177 := n2_
 have BK178 := n3_
 have BK185 := n4_
 have HB := n5_
 clear n0_ n1_ n2_ n3_ n4_ n5_
 refine start_ (n := 8) (S := fun w' => w'.cell? ⟨gb185, 0, none⟩ = some (.slice Ao10 y182.length co10) ∧ w'.cell? ⟨gb185, 1, none⟩ = some (u186001)) (ds := [7]) #[false, false, false, false, false, false, false, false] (by kernel_rfl) rfl rfl ⟨(blk_cell BK185.out 0).trans rfl, (blk_cell BK185.out 1).trans rfl⟩ (fun hHeld => ?_); refine with_tabW fencepostref10_Begin.tab5 fencepostref10_Begin.bits5 (fun HT_ HW_ => ?_)
 generalize wr.drew = w21 at HO_186000 HO_186001 BK177 BK178 BK185 HB hHeld ⊢
 refine pure_ (i := 0) (N := some 17) (v := ?_) (a' := ?_) #[true, false, false, false, false, false, false, false] rfl rfl (any_of HT_.out (by kernel_rfl)) (fun _ _ _ h => h) (Or.inl ⟨by rfl, ?_⟩) ?_ ?_; rotate_left; intro w'; go_simp; with_reducible rfl; rotate_left; simp only [Act.put, List.setIfInBounds_toArray, List.set_cons_zero, List.set_cons_succ, i64_w, i32_w]; rfl
 refine take_ (i := 1) (N := some 18) (v := ?_) (a' := ?_) #[true, true, false, false, false, false, false, false] rfl rfl (take_ofW HT_.out HW_.out (by kernel_rfl)) (fun _ _ _ h => h) (Or.inl ⟨by rfl, ?_⟩) hHeld ?_ ?_; rotate_left; rintro w' ⟨s0, s1⟩; go_simp; with_reducible rfl; rotate_left; simp only [Act.put, List.setIfInBounds_toArray, List.set_cons_zero, List.set_cons_succ, i64_w, i32_w]; rfl
 refine one_ (i := 2) (N := some 19) #[true, true, true, false, false, false, false, false] rfl rfl (one_of HT_.out (by kernel_rfl)) (by decide) (fun K hK => ?_)
 refine Kd.R_make_step (Kd.int .i64) _ 3 (by rfl) (N := 19) rfl 22 _ _ rfl 4 rfl rfl Try.underlying22 (.int .i64 0) 8 info3 rfl (by decide) (by omega) 0 (ok := fun _ => True) (okp := fun _ => True) rfl (fun _ hk => hk) trivial (by omega) (by omega) (Below.refl _ _) (Nat.le_refl _) ?_
 intro v187 w22 ho23 hb hg_ hnew_
 clear hg_ hnew_
 (first | rw [← Ny186.out] at ho23 | (simp only [Int.reduceToNat] at ho23; rw [← Ny186.out] at ho23))
 have n0_ := Aside0.mk (Kd.R_elder' (rd_ HO_186000.out) (Kd.R_base ho23) hb)
 have n1_ := Aside0.mk (Kd.S_elder' (sd_ HO_186001.out) (Kd.R_base ho23) hb)
 have n2_ := Aside0.mk (Kd.R_lower (Kd.R_new' ho23 (Kd.R_lt (rd_ HO_186000.out))) (below_size (hb_ HB.out)))
 have n3_ := Aside0.mk (bb_ BK177.out hb)
 have n4_ := Aside0.mk (bb_ BK178.out hb)
 have n5_ := Aside0.mk (bb_ BK185.out hb)
 have n6_ := Aside0.mk (below_step (hb_ HB.out) hb)
 clear HO_186000
 clear HO_186001
 clear BK177
 clear BK178
 clear BK185
 clear HB
 have HO_186000 := n0_
 have HO_186001 := n1_
 have HO188 := n2_
 have BK177 := n3_
 have BK178 := n4_
 have BK185 := n5_
 have HB := n6_
 clear n0_ n1_ n2_ n3_ n4_ n5_ n6_
 clear hb ho23
 obtain ⟨Ao24, co24, eo24⟩ := Kd.R_slice HO188.out
 (first | subst eo24 | (injection eo24 with f1_ f2_ f3_; have f4_ := f1_.symm; have f5_ := f3_.symm; clear f1_ f2_ f3_; subst f4_; subst f5_))
 refine hK.out _ _ ⟨(blk_cell BK185.out 0).trans rfl, (blk_cell BK185.out 1).trans rfl⟩ (fun hHeld => ?_)
 clear hK K
 refine norm_ (a' := ?_) ?_ ?_
 rotate_left
 ·show Act.put _ (some 19) _ = _
  simp only [Act.put, List.setIfInBounds_toArray, List.set_cons_zero, List.set_cons_succ, i64_w, i32_w]
  rfl
 refine pure_ (i := 3) (N := some 20) (v := ?_) (a' := ?_) #[true, true, true, true, false, false, false, false] rfl rfl (any_of HT_.out (by kernel_rfl)) (fun _ _ _ h => h) (Or.inl ⟨by rfl, ?_⟩) ?_ ?_; rotate_left; intro w'; go_simp; with_reducible rfl; rotate_left; simp only [Act.put, List.setIfInBounds_toArray, List.set_cons_zero, List.set_cons_succ, i64_w, i32_w]; rfl
 refine one_ (i := 4) (N := some 21) #[true, true, true, true, true, false, false, false] rfl rfl (one_of HT_.out (by kernel_rfl)) (by decide) (fun K hK => ?_)
 refine value_ (w1 := ?_) (v := ?_) (by rfl) rfl ?_ ?_
 rotate_left 2
 ·go_simp
  constructor
  ·rfl
  rfl
 refine hK.out _ _ ⟨(blk_cell (blk_alloc BK185.out _) 0).trans rfl, (blk_cell (blk_alloc BK185.out _) 1).trans rfl⟩ (fun hHeld => ?_)
 clear hK K
 refine norm_ (a' := ?_) ?_ ?_
 rotate_left
 ·show Act.put _ (some 21) _ = _
  simp only [Act.put, List.setIfInBounds_toArray, List.set_cons_zero, List.set_cons_succ, i64_w, i32_w]
  rfl
 refine one_ (i := 5) (N := some 22) #[true, true, true, true, true, true, false, false] rfl rfl (one_of HT_.out (by kernel_rfl)) (by decide) (fun K hK => ?_)
 refine Kd.S_append_step k39 (w0 := w) w.heap.size (by rfl) (.tmp 18) (.tmp 21) 29 39 (.agg #[(.int .i64 0), (.slice none 0 0), (.bool false), (.slice none 0 0)]) 64 rfl Try.underlying29 info39 rfl (by decide) (by omega) u186001 x186001_1 (⟨0, y186, false, ([] : List (S69))⟩ : S39) [.int .i64 0, .slice Ao24 y186.length co24, .bool false, .slice none 0 0] (fun k_ => some k_ ≠ (.slice Ao10 y182.length co10 : Value).ownBlock) (fun k_ => some k_ = (.slice Ao24 y186.length co24 : Value).ownBlock) rfl rfl ?aP (fun k_ hk_ => ((Kd.R_mono (ok' := fun k_ => ((fun k_ => some k_ ≠ (.slice Ao10 y182.length co10 : Value).ownBlock)) k_ ∧ some k_ ≠ (u186001 : Value).ownBlock) (Kd.R_apart' (HO188.out) (Kd.S_typed HO_186001.out) (by decide)) (fun k_ hk => ⟨hk.1.2, hk.2⟩))).1 k_ hk_.symm) ?aF ?aO ?aB ?aS ?aL ?_
 (case aP => exact k39_mkM _ _ _ (⟨0, y186, false, ([] : List (S69))⟩ : S39) (Kd.R_mono (Kd.R_tight rfl (Kd.R_mono (ok' := fun k_ => ((fun k_ => some k_ ≠ (.slice Ao10 y182.length co10 : Value).ownBlock)) k_ ∧ some k_ ≠ (u186001 : Value).ownBlock) (Kd.R_apart' (HO188.out) (Kd.S_typed HO_186001.out) (by decide)) (fun k_ hk => ⟨hk.1.2, hk.2⟩))) (fun _ h_ => h_)) (Kd.R_nil _ _ _ _ _))
 (case aB => exact (hb_ HB.out))
 (case aF => exact (fun k_ hk => Kd.fresh' (Kd.R_lt (rd_ HO_186000.out)) k_ hk))
 (case aO => exact (by (with_reducible repeat (first | apply Kd.S_alloc | apply Kd.S_drewN | apply Kd.S_drew)); exact Kd.S_mono HO_186001.out (fun k_ hk => ⟨hk.1, fun e_ => hk.2 e_⟩)))
 (case aS => exact (below_size (hb_ HB.out)))
 (case aL => have := LMc17.out; omega)
 intro v190 w25 ho hb hg hat
 rw [← Ny189.out] at ho
 have n0_ := Aside0.mk (Kd.R_over' (rd_ HO_186000.out) (Kd.S_typed (sd_ HO_186001.out)) (by decide) hg)
 have n1_ := Aside0.mk (blk_grown (g := gb177) (o := .cells #[.slice A0_0 l0_0.length c0_0, .slice A0_1 l0_1.length c0_1] 25 (0, 0)) (bd_ BK177.out) hg (Kd.S_ne HO_186001.out BK177.out (by decide)))
 have n2_ := Aside0.mk (blk_grown (g := gb178) (o := .cells #[.slice none 0 0, .slice none 0 0] 31 (0, 0)) (bd_ BK178.out) hg (Kd.S_ne HO_186001.out BK178.out (by decide)))
 have n3_ := Aside0.mk (blk_grown (g := gb185) (o := .cells #[.slice Ao10 y182.length co10, u186001] 31 (0, 0)) (bd_ BK185.out) hg (Kd.S_ne HO_186001.out BK185.out (by decide)))
 have n4_ := Aside0.mk (hb)
 have n5_ := Aside0.mk (ho)
 clear HO_186000
 clear BK177
 clear BK178
 clear BK185
 clear HB
 clear HO_186001
 clear HO188
 have HO_186000 := n0_
 have BK177 := n1_
 have BK178 := n2_
 have BK185 := n3_
 have HB := n4_
 have HO191 := n5_
 clear n0_ n1_ n2_ n3_ n4_ n5_
 clear ho hb hg hat
 obtain ⟨Ao26, co26, eo26⟩ := Kd.S_slice HO191.out
 (first | subst eo26 | (injection eo26 with f1_ f2_ f3_; have f4_ := f1_.symm; have f5_ := f3_.symm; clear f1_ f2_ f3_; subst f4_; subst f5_))
 refine hK.out _ _ ⟨(blk_cell BK185.out 0).trans rfl, (blk_cell BK185.out 1).trans rfl⟩ (fun hHeld => ?_)
 clear hK K
 refine norm_ (a' := ?_) ?_ ?_
 rotate_left
 ·show Act.put _ (some 22) _ = _
  simp only [Act.put, List.setIfInBounds_toArray, List.set_cons_zero, List.set_cons_succ, i64_w, i32_w]
  rfl
 refine pure_ (i := 6) (N := some 23) (v := ?_) (a' := ?_) #[true, true, true, true, true, true, true, false] rfl rfl (any_of HT_.out (by kernel_rfl)) (fun _ _ _ h => h) (Or.inl ⟨by rfl, ?_⟩) ?_ ?_; rotate_left; intro w'; go_simp; with_reducible rfl; rotate_left; simp only [Act.put, List.setIfInBounds_toArray, List.set_cons_zero, List.set_cons_succ, i64_w, i32_w]; rfl
 refine last_ (i := 7) (N := none) #[true, true, true, true, true, true, true, true] rfl rfl (one_of HT_.out (by kernel_rfl)) (by decide) (fun K hK => ?_)
 have hs27 : w25.cell? ⟨gb185, 1, none⟩ = some (u186001) := (blk_cell BK185.out 1).trans rfl
 have hfs27 := blk_frozen BK185.out 1
 have hns27_0 := NB177_185.out
 have hns27_1 := NB178_185.out
 have hms27_0 := NB185_177.out
 have hms27_1 := NB185_178.out
 refine skip_ (w1 := ?_) (by rfl) rfl ?_ ?_
 rotate_left
 ·go_simp
  rfl
 refine hK.out _ _ ?_
 clear hK K
 refine done_ (done_of HT_.out (by kernel_rfl)) ?_
 try go_wp2
 go_roundg k1
 case measure => have := HK1.out; omega
 case rel => exact ⟨(wrap64 (x4_1 + 1)), (y189), (.slice Ao26 y189.length co26), rf_, H', ⟨by have := HK1.out; omega⟩, ⟨by (with_reducible repeat (first | apply Kd.R_alloc | apply Kd.R_drewN | apply Kd.R_drew)); exact Kd.R_mono (Kd.R_far (p := ⟨gb185, 1, none⟩) (Kd.R_types HO_186000.out BK185.out (by decide)) (fun _ hk => hk.2) (.slice Ao26 y189.length co26)) (fun _ hk => trivial)⟩, ⟨by (with_reducible repeat (first | apply Kd.S_alloc | apply Kd.S_drewN | apply Kd.S_drew)); exact Kd.S_mono (Kd.S_far (p := ⟨gb185, 1, none⟩) (Kd.S_types HO191.out BK185.out (by decide)) (fun _ hk => hk.2) (.slice Ao26 y189.length co26)) (fun _ hk => hk.1)⟩, ⟨by (with_reducible repeat (first | refine blk_drewN ?_ _ | refine blk_drew ?_ | refine blk_alloc ?_ _)); refine blk_far ?_ NB177_185.out _; (with_reducible repeat (first | refine blk_drewN ?_ _ | refine blk_drew ?_ | refine blk_alloc ?_ _)); exact BK177.out⟩, ⟨by (with_reducible repeat (first | refine blk_drewN ?_ _ | refine blk_drew ?_ | refine blk_alloc ?_ _)); refine blk_far ?_ NB178_185.out _; (with_reducible repeat (first | refine blk_drewN ?_ _ | refine blk_drew ?_ | refine blk_alloc ?_ _)); exact BK178.out⟩, ⟨by (with_reducible repeat (first | refine blk_drewN ?_ _ | refine blk_drew ?_ | refine blk_alloc ?_ _)); refine blk_put (cs := #[.slice Ao10 y182.length co10, u186001]) ?_ 1 _ rfl; (with_reducible repeat (first | refine blk_drewN ?_ _ | refine blk_drew ?_ | refine blk_alloc ?_ _)); exact BK185.out⟩, ⟨hb_ HB.out⟩⟩
def fencepostref10_Own.l0 : Nat → Int → List Int → List (S39) → List Int → List (S39) → Option (List Int × (List (S39)))
 | 0, _, _, _, _, _ => none
 | k + 1, x4, x193000, x193001, x201000, x201001 => if x4 < (x193001.length : Int) then (if 0 ≤ x4 then ((some (([] : List Int) : List Int)).bind fun y203 => (if y203.length + ((rd_T39 x193001 x4).f1).length < 17592186044416 then ((some (([] : List (S69)) : List (S69))).bind fun y209 => (if y209.length + ((rd_T39 x193001 x4).f3).length < 8796093022208 then (if x201001.length < 2199023255552 then (fencepostref10_Own.l0 k (wrap64 (x4 + 1)) x193000 x193001 x201000 (x201001 ++ [(⟨(rd_T39 x193001 x4).f0, (y203 ++ ((rd_T39 x193001 x4).f1)), (rd_T39 x193001 x4).f2, (y209 ++ ((rd_T39 x193001 x4).f3))⟩ : S39)])) else (none)) else (none))) else (none))) else (none)) else (some (x201000, x201001))
def fencepostref10_Own.f (k : Nat) (l0_0 : List Int) (l0_1 : List (S39)) : Option (List Int × (List (S39))) := (some (([] : List Int) : List Int)).bind fun y194 => (if y194.length + l0_0.length < 17592186044416 then (fencepostref10_Own.l0 k 0 l0_0 l0_1 (y194 ++ l0_0) ([] : List (S39))) else (none))
set_option maxHeartbeats 8000000 in
set_option maxRecDepth 100000 in
theorem fencepostref10_Own.calls (k : Nat) (A0_0 : Option Addr) (c0_0 : Nat) (l0_0 : List Int) (A0_1 : Option Addr) (c0_1 : Nat) (l0_1 : List (S39)) (r1 : List Int) (r2 : List (S39)) (w : World) (hr0_0 : Kd.C (Kd.int .i64) w A0_0 l0_0.length l0_0) (hc0_0 : l0_0.length ≤ c0_0) (hr0_1 : Kd.C k39 w A0_1 l0_1.length l0_1) (hc0_1 : l0_1.length ≤ c0_1) (h : fencepostref10_Own.f k l0_0 l0_1 = some (r1, r2)) :
 Calls Try.prog 25 #[.agg #[.slice A0_0 l0_0.length c0_0, .slice A0_1 l0_1.length c0_1]] w fun e w' => ∃ v0_ v1_ : Value, e = .returned (.agg #[v0_, v1_]) ∧ Kd.R (Kd.int .i64) 3 w' w.heap.size (fun _ => True) v0_ r1 ∧ Kd.S k39 39 w' w.heap.size (fun k_ => some k_ ≠ (v0_ : Value).ownBlock) v1_ r2 ∧ Below w.heap.size w w' := by
 have hu31 := Try.underlying31
 have hu39 := Try.underlying39
 have HR0_0 := Aside0.mk hr0_0
 have HC0_0 := Aside0.mk hc0_0
 clear hr0_0 hc0_0
 have HR0_1 := Aside0.mk hr0_1
 have HC0_1 := Aside0.mk hc0_1
 clear hr0_1 hc0_1
 have HB := Aside0.mk (Below.refl w.heap.size w)
 have H : ((some (([] : List Int) : List Int)).bind fun y194 => (if y194.length + l0_0.length < 17592186044416 then (fencepostref10_Own.l0 k 0 l0_0 l0_1 (y194 ++ l0_0) ([] : List (S39))) else (none))) = some (r1, r2) := h
 clear h
 obtain ⟨y194, hy194⟩ : ∃ y_ : List Int, y_ = (([] : List Int)) := ⟨_, rfl⟩
 replace H : (if y194.length + l0_0.length < 17592186044416 then (fencepostref10_Own.l0 k 0 l0_0 l0_1 (y194 ++ l0_0) ([] : List (S39))) else (none)) = some (r1, r2) := by first | (rw [hy194]; with_reducible exact H) | (have H2_ := (Option.bind_some _ _).symm.trans H; rw [hy194]; with_reducible exact H2_) | (have H2_ := (Option.bind_some _ _).symm.trans H; with_reducible exact H2_) | with_reducible exact H | (rw [hy194]; exact H) | exact H
 have Ny194 := Aside0.mk hy194
 clear hy194
 by_cases c2 : y194.length + l0_0.length < 17592186044416
 rotate_left
 ·rw [if_neg c2] at H
  exact absurd H (by simp)
 rw [if_pos c2] at H
 have LMc2 := Aside0.mk c2
 clear c2
 obtain ⟨y197, hy197⟩ : ∃ y_ : List Int, y_ = (y194 ++ l0_0) := ⟨_, rfl⟩
 replace H : (fencepostref10_Own.l0 k 0 l0_0 l0_1 y197 ([] : List (S39))) = some (r1, r2) := by first | (rw [hy197]; with_reducible exact H) | (have H2_ := (Option.bind_some _ _).symm.trans H; rw [hy197]; with_reducible exact H2_) | (have H2_ := (Option.bind_some _ _).symm.trans H; with_reducible exact H2_) | with_reducible exact H | (rw [hy197]; exact H) | exact H
 have Ny197 := Aside0.mk hy197
 clear hy197
 have H' := Aside0.mk H
 clear H
 go_enter Try.func25, Try.ntmps25
 go_wp2_with (first | ((with_reducible refine gate_dst (N := 1) rfl ?_); refine box_event ?hg (N := 1) ?hd (cs := #[.slice A0_0 l0_0.length c0_0, .slice A0_1 l0_1.length c0_1]) (t := 31) ?hr ?_; (case hd => rfl); (case hg => rfl); (case hr => first | (go_simp; done) | (go_simp; rfl)); intro gb192 hg w3 hbox hb; have n0_ := Aside0.mk (below_step (hb_ HB.out) hb); have n1_ := Aside0.mk (hbox); have n2_ := Aside0.mk (gs_ hg (hb_ HB.out)); have n3_ := Aside0.mk (gs_ hg (hb_ HB.out)); clear HB; have HB := n0_; have BK192 := n1_; have GW192 := n2_; have GE192 := n3_; clear n0_ n1_ n2_ n3_; clear hb hbox hg) | ((with_reducible refine gate_dst (N := 2) rfl ?_); refine box_event ?hg (N := 2) ?hd (cs := #[.slice none 0 0, .slice none 0 0]) (t := 31) ?hr ?_; (case hd => rfl); (case hg => rfl); (case hr => first | (go_simp; done) | (go_simp; rfl)); intro gb193 hg w4 hbox hb; have n0_ := Aside0.mk (bb_ BK192.out hb); have n1_ := Aside0.mk (below_step (hb_ HB.out) hb); have n2_ := Aside0.mk (hbox); have n3_ := Aside0.mk (gs_ hg (hb_ HB.out)); have n4_ := Aside0.mk (gs_ hg (hb_ HB.out)); have n5_ := Aside0.mk (gn_ hg BK192.out); have n6_ := Aside0.mk (gn_ hg BK192.out).symm; clear BK192; clear HB; have BK192 := n0_; have HB := n1_; have BK193 := n2_; have GW193 := n3_; have GE193 := n4_; have NB192_193 := n5_; have NB193_192 := n6_; clear n0_ n1_ n2_ n3_ n4_ n5_ n6_; clear hb hbox hg) | ((with_reducible refine gate_dst (N := 6) rfl ?_); refine Kd.R_lit (Kd.int .i64) _ 3 ?hg (N := 6) ?hd (xs := ([] : List Int)) (inner := []) (ok := fun _ => True) (okp := fun _ => True) ?hr ?hp (fun _ hk => hk) trivial (Below.refl _ _) (Nat.le_refl _) (by simp) ?_; (case hd => rfl); (case hg => rfl); (case hr => first | (go_simp; done) | (go_simp; rfl)); (case hp => exact (Reps.none _ _)); intro v195 w5 ho6 hb hg_ hnew_; clear hg_ hnew_; (first | rw [← Ny194.out] at ho6 | (simp only [Int.reduceToNat] at ho6; rw [← Ny194.out] at ho6)); have n0_ := Aside0.mk (Kd.R_lower ho6 (below_size (hb_ HB.out))); have n1_ := Aside0.mk (bb_ BK192.out hb); have n2_ := Aside0.mk (bb_ BK193.out hb); have n3_ := Aside0.mk (below_step (hb_ HB.out) hb); clear BK192; clear BK193; clear HB; have HO196 := n0_; have BK192 := n1_; have BK193 := n2_; have HB := n3_; clear n0_ n1_ n2_ n3_; clear hb ho6; have hnb7 := NB192_193.out; have hnc7 := NB193_192.out; have hcz8_0 : w5.cell? ⟨gb192, 0, none⟩ = some (.slice A0_0 l0_0.length c0_0) := (blk_cell BK192.out 0).trans rfl; have hcz8_1 : w5.cell? ⟨gb192, 1, none⟩ = some (.slice A0_1 l0_1.length c0_1) := (blk_cell BK192.out 1).trans rfl; have hfz8_0 := blk_frozen BK192.out 0; have hfz8_1 := blk_frozen BK192.out 1) | ((with_reducible refine gate_builtin (b := .append) (xs := #[.tmp 6, .tmp 8]) rfl ?_); at_builtin; refine Kd.R_append_rows (Kd.int .i64) (w0 := w) w.heap.size rfl (.tmp 6) (.tmp 8) 22 3 (.int .i64 0) 8 rfl Try.underlying22 info3 rfl (by decide) (by omega) v195 y194 l0_0 _ _ _ (fun _ => True) (fun _ => False) rfl rfl ?aO ?aR (fun _ _ h => h) (fun _ h => h.elim) ?aF ?aB ?aS ?aL ?_; (case aR => repeat (first | exact (Kd.C_below HR0_0.out HB.out) | (with_reducible refine Kd.C_alloc ?_ _) | (with_reducible refine Kd.C_drewN ?_ _) | (with_reducible refine Kd.C_drew ?_))); (case aB => exact (hb_ HB.out)); (case aF => exact (fun _ _ => trivial)); (case aO => exact (rd_ HO196.out)); (case aS => exact (below_size (hb_ HB.out))); (case aL => have := LMc2.out; omega); intro v198 w9 ho hb hg hat; rw [← Ny197.out] at ho; have n0_ := Aside0.mk (blk_grown (g := gb192) (o := .cells #[.slice A0_0 l0_0.length c0_0, .slice A0_1 l0_1.length c0_1] 31 (0, 0)) (bd_ BK192.out) hg (Kd.R_ne HO196.out BK192.out (by decide))); have n1_ := Aside0.mk (blk_grown (g := gb193) (o := .cells #[.slice none 0 0, .slice none 0 0] 31 (0, 0)) (bd_ BK193.out) hg (Kd.R_ne HO196.out BK193.out (by decide))); have n2_ := Aside0.mk (hb); have n3_ := Aside0.mk (ho); clear BK192; clear BK193; clear HB; clear HO196; have BK192 := n0_; have BK193 := n1_; have HB := n2_; have HO199 := n3_; clear n0_ n1_ n2_ n3_; clear ho hb hg hat; obtain ⟨Ao10, co10, eo10⟩ := Kd.R_slice HO199.out; subst eo10) | ((with_reducible refine gate_dst (N := 3) rfl ?_); refine box_event ?hg (N := 3) ?hd (cs := #[.slice none 0 0, .slice none 0 0]) (t := 31) ?hr ?_; (case hd => rfl); (case hg => rfl); (case hr => first | (go_simp; done) | (go_simp; rfl)); intro gb200 hg w11 hbox hb; have n0_ := Aside0.mk (Kd.R_below (rd_ HO199.out) hb); have n1_ := Aside0.mk (bb_ BK192.out hb); have n2_ := Aside0.mk (bb_ BK193.out hb); have n3_ := Aside0.mk (below_step (hb_ HB.out) hb); have n4_ := Aside0.mk (hbox); have n5_ := Aside0.mk (gs_ hg (hb_ HB.out)); have n6_ := Aside0.mk (gs_ hg (hb_ HB.out)); have n7_ := Aside0.mk (gn_ hg BK192.out); have n8_ := Aside0.mk (gn_ hg BK192.out).symm; have n9_ := Aside0.mk (gn_ hg BK193.out); have n10_ := Aside0.mk (gn_ hg BK193.out).symm; clear HO199; clear BK192; clear BK193; clear HB; have HO199 := n0_; have BK192 := n1_; have BK193 := n2_; have HB := n3_; have BK200 := n4_; have GW200 := n5_; have GE200 := n6_; have NB192_200 := n7_; have NB200_192 := n8_; have NB193_200 := n9_; have NB200_193 := n10_; clear n0_ n1_ n2_ n3_ n4_ n5_ n6_ n7_ n8_ n9_ n10_; clear hb hbox hg; have hnb12 := NB200_192.out; have hnc12 := NB192_200.out; have hnb13 := NB200_193.out; have hnc13 := NB193_200.out; have hcz14_0 : w11.cell? ⟨gb200, 0, none⟩ = some (.slice none 0 0) := (blk_cell BK200.out 0).trans rfl; have hcz14_1 : w11.cell? ⟨gb200, 1, none⟩ = some (.slice none 0 0) := (blk_cell BK200.out 1).trans rfl; have hfz14_0 := blk_frozen BK200.out 0; have hfz14_1 := blk_frozen BK200.out 1))
 go_loopg [4] k (fun kq v4 w' => ∃ (x4_1 : Int) (x201001_1 : List (S39)) (u201001 : Value), v4 = .int .i64 x4_1 ∧ Aside0 (fencepostref10_Own.l0 kq x4_1 l0_0 l0_1 y197 x201001_1 = some (r1, r2)) ∧ Aside0 (kq ≤ k) ∧ Aside0 (Kd.R (Kd.int .i64) 3 w' w.heap.size (fun _ => True) (.slice Ao10 y197.length co10) y197) ∧ Aside0 (Kd.S k39 39 w' w.heap.size (fun k_ => some k_ ≠ ((.slice Ao10 y197.length co10) : Value).ownBlock) u201001 x201001_1) ∧ Aside0 (w'.heap[gb192]? = some (.cells #[(.slice A0_0 l0_0.length c0_0), (.slice A0_1 l0_1.length c0_1)] 31 (0, 0))) ∧ Aside0 (w'.heap[gb193]? = some (.cells #[(.slice none 0 0), (.slice none 0 0)] 31 (0, 0))) ∧ Aside0 (w'.heap[gb200]? = some (.cells #[(.slice Ao10 y197.length co10), u201001] 31 (0, 0))) ∧ Aside0 (Below w.heap.size w w'))
 case atStart => exact ⟨(0), (([] : List (S39))), (.slice none 0 0), rf_, H', ⟨Nat.le_refl _⟩, ⟨by (with_reducible repeat (first | apply Kd.R_alloc | apply Kd.R_drewN | apply Kd.R_drew)); exact Kd.R_mono (Kd.R_far (p := ⟨gb200, 1, none⟩) (Kd.R_far (p := ⟨gb200, 0, none⟩) (Kd.R_types HO199.out BK200.out (by decide)) (fun _ hk => hk.2) (.slice Ao10 y197.length co10)) (fun _ hk => hk.2) (.slice none 0 0)) (fun _ hk => trivial)⟩, ⟨by first | exact Kd.S_nil _ _ _ _ _ | exact Kd.N_nil _ _ _ _ _ | exact Kd.V_nil _ _ _ _ _ | exact Kd.Q_nil _ _ _ _ _ | exact Kd.R_nil _ _ _ _ _⟩, ⟨by (with_reducible repeat (first | refine blk_drewN ?_ _ | refine blk_drew ?_ | refine blk_alloc ?_ _)); refine blk_far ?_ NB192_200.out _; (with_reducible repeat (first | refine blk_drewN ?_ _ | refine blk_drew ?_ | refine blk_alloc ?_ _)); refine blk_far ?_ NB192_200.out _; (with_reducible repeat (first | refine blk_drewN ?_ _ | refine blk_drew ?_ | refine blk_alloc ?_ _)); exact BK192.out⟩, ⟨by (with_reducible repeat (first | refine blk_drewN ?_ _ | refine blk_drew ?_ | refine blk_alloc ?_ _)); refine blk_far ?_ NB193_200.out _; (with_reducible repeat (first | refine blk_drewN ?_ _ | refine blk_drew ?_ | refine blk_alloc ?_ _)); refine blk_far ?_ NB193_200.out _; (with_reducible repeat (first | refine blk_drewN ?_ _ | refine blk_drew ?_ | refine blk_alloc ?_ _)); exact BK193.out⟩, ⟨by (with_reducible repeat (first | refine blk_drewN ?_ _ | refine blk_drew ?_ | refine blk_alloc ?_ _)); refine blk_put (cs := #[.slice Ao10 y197.length co10, .slice none 0 0]) ?_ 1 _ rfl; (with_reducible repeat (first | refine blk_drewN ?_ _ | refine blk_drew ?_ | refine blk_alloc ?_ _)); refine blk_put (cs := #[.slice none 0 0, .slice none 0 0]) ?_ 0 _ rfl; (with_reducible repeat (first | refine blk_drewN ?_ _ | refine blk_drew ?_ | refine blk_alloc ?_ _)); exact BK200.out⟩, ⟨hb_ HB.out⟩⟩
 clear H'
 try clear c2
 try clear hcz14_0
 try clear hcz14_1
 try clear hcz8_0
 try clear hcz8_1
 try clear hfz14_0
 try clear hfz14_1
 try clear hfz8_0
 try clear hfz8_1
 obtain ⟨x4_1, x201001_1, u201001, rfl, HA, HK1, HO_201000, HO_201001, BK192, BK193, BK200, HB⟩ := hrel
 cases gk with
 | zero => exact absurd HA.out (by simp [fencepostref10_Own.l0])
 | succ k1 => ?_
 have H := HA.out
 clear HA
 simp only [fencepostref10_Own.l0] at H
 by_cases c15 : x4_1 < (l0_1.length : Int)
 rotate_left
 ·rw [if_neg c15] at H
  have c15b0 : decide (x4_1 < (l0_1.length : Int)) = false := decide_eq_false c15
  clear c15
  simp only [Option.some.injEq, Prod.mk.injEq] at H
  obtain ⟨rfl, rfl⟩ := H
  have hnb47 := NB192_193.out
  have hnc47 := NB193_192.out
  have hnb48 := NB192_200.out
  have hnc48 := NB200_192.out
  have hcz49_0 : wr.cell? ⟨gb192, 0, none⟩ = some (.slice A0_0 l0_0.length c0_0) := (blk_cell BK192.out 0).trans rfl
  have hcz49_1 : wr.cell? ⟨gb192, 1, none⟩ = some (.slice A0_1 l0_1.length c0_1) := (blk_cell BK192.out 1).trans rfl
  have hfz49_0 := blk_frozen BK192.out 0
  have hfz49_1 := blk_frozen BK192.out 1
  have hnb50 := NB200_193.out
  have hnc50 := NB193_200.out
  have hcz51_0 : wr.cell? ⟨gb200, 0, none⟩ = some (.slice Ao10 y197.length co10) := (blk_cell BK200.out 0).trans rfl
  have hcz51_1 : wr.cell? ⟨gb200, 1, none⟩ = some (u201001) := (blk_cell BK200.out 1).trans rfl
  have hfz51_0 := blk_frozen BK200.out 0
  have hfz51_1 := blk_frozen BK200.out 1
  have hcz52_0 : wr.cell? ⟨gb193, 0, none⟩ = some (.slice none 0 0) := (blk_cell BK193.out 0).trans rfl
  have hcz52_1 : wr.cell? ⟨gb193, 1, none⟩ = some (.slice none 0 0) := (blk_cell BK193.out 1).trans rfl
  have hfz52_0 := blk_frozen BK193.out 0
  have hfz52_1 := blk_frozen BK193.out 1
  obtain ⟨Ao53, co53, eo53⟩ := Kd.S_slice HO_201001.out
  subst eo53
  go_wp2
  refine bodyPost_ret (results_cell_row rfl _ _ gb193 31 #[.slice Ao10 y197.length co10, .slice Ao53 x201001_1.length co53] (0, 0) _ rfl (by (with_reducible repeat (first | refine blk_drewN ?_ _ | refine blk_drew ?_ | refine blk_alloc ?_ _)); refine blk_put (cs := #[.slice Ao10 y197.length co10, .slice none 0 0]) ?_ 1 _ rfl; (with_reducible repeat (first | refine blk_drewN ?_ _ | refine blk_drew ?_ | refine blk_alloc ?_ _)); refine blk_put (cs := #[.slice none 0 0, .slice none 0 0]) ?_ 0 _ rfl; (with_reducible repeat (first | refine blk_drewN ?_ _ | refine blk_drew ?_ | refine blk_alloc ?_ _)); exact BK193.out) Try.underlying31 rfl (by kernel_rfl)) rfl ?_
  exact ⟨_, _, by first | rfl | (simp [errW_none, errW_some] <;> rfl) | (simp [*, errW_none, errW_some] <;> rfl), by (with_reducible repeat (first | apply Kd.R_alloc | apply Kd.R_drewN | apply Kd.R_drew)); exact Kd.R_mono (Kd.R_far (p := ⟨gb193, 1, none⟩) (Kd.R_far (p := ⟨gb193, 0, none⟩) (Kd.R_types HO_201000.out BK193.out (by decide)) (fun _ hk => hk.2) (.slice Ao10 y197.length co10)) (fun _ hk => hk.2) (.slice Ao53 x201001_1.length co53)) (fun _ hk => trivial), by (with_reducible repeat (first | apply Kd.S_alloc | apply Kd.S_drewN | apply Kd.S_drew)); exact Kd.S_mono (Kd.S_far (p := ⟨gb193, 1, none⟩) (Kd.S_far (p := ⟨gb193, 0, none⟩) (Kd.S_types HO_201001.out BK193.out (by decide)) (fun _ hk => hk.2) (.slice Ao10 y197.length co10)) (fun _ hk => hk.2) (.slice Ao53 x201001_1.length co53)) (fun _ hk => hk.1), hb_ HB.out⟩
 rw [if_pos c15] at H
 have c15b0 : decide (x4_1 < (l0_1.length : Int)) = true := decide_eq_true c15
 clear c15
 by_cases c16 : 0 ≤ x4_1
 rotate_left
 ·rw [if_neg c16] at H
  exact absurd H (by simp)
 rw [if_pos c16] at H
 have c16b0 : decide (0 ≤ x4_1) = true := decide_eq_true c16
 clear c16
 obtain ⟨y203, hy203⟩ : ∃ y_ : List Int, y_ = (([] : List Int)) := ⟨_, rfl⟩
 replace H : (if y203.length + ((rd_T39 l0_1 x4_1).f1).length < 17592186044416 then ((some (([] : List (S69)) : List (S69))).bind fun y209 => (if y209.length + ((rd_T39 l0_1 x4_1).f3).length < 8796093022208 then (if x201001_1.length < 2199023255552 then (fencepostref10_Own.l0 k1 (wrap64 (x4_1 + 1)) l0_0 l0_1 y197 (x201001_1 ++ [(⟨(rd_T39 l0_1 x4_1).f0, (y203 ++ ((rd_T39 l0_1 x4_1).f1)), (rd_T39 l0_1 x4_1).f2, (y209 ++ ((rd_T39 l0_1 x4_1).f3))⟩ : S39)])) else (none)) else (none))) else (none)) = some (r1, r2) := by first | (rw [hy203]; with_reducible exact H) | (have H2_ := (Option.bind_some _ _).symm.trans H; rw [hy203]; with_reducible exact H2_) | (have H2_ := (Option.bind_some _ _).symm.trans H; with_reducible exact H2_) | with_reducible exact H | (rw [hy203]; exact H) | exact H
 have Ny203 := Aside0.mk hy203
 clear hy203
 by_cases c17 : y203.length + ((rd_T39 l0_1 x4_1).f1).length < 17592186044416
 rotate_left
 ·rw [if_neg c17] at H
  exact absurd H (by simp)
 rw [if_pos c17] at H
 have LMc17 := Aside0.mk c17
 clear c17
 obtain ⟨y206, hy206⟩ : ∃ y_ : List Int, y_ = (y203 ++ ((rd_T39 l0_1 x4_1).f1)) := ⟨_, rfl⟩
 replace H : ((some (([] : List (S69)) : List (S69))).bind fun y209 => (if y209.length + ((rd_T39 l0_1 x4_1).f3).length < 8796093022208 then (if x201001_1.length < 2199023255552 then (fencepostref10_Own.l0 k1 (wrap64 (x4_1 + 1)) l0_0 l0_1 y197 (x201001_1 ++ [(⟨(rd_T39 l0_1 x4_1).f0, y206, (rd_T39 l0_1 x4_1).f2, (y209 ++ ((rd_T39 l0_1 x4_1).f3))⟩ : S39)])) else (none)) else (none))) = some (r1, r2) := by first | (rw [hy206]; with_reducible exact H) | (have H2_ := (Option.bind_some _ _).symm.trans H; rw [hy206]; with_reducible exact H2_) | (have H2_ := (Option.bind_some _ _).symm.trans H; with_reducible exact H2_) | with_reducible exact H | (rw [hy206]; exact H) | exact H
 have Ny206 := Aside0.mk hy206
 clear hy206
 obtain ⟨y209, hy209⟩ : ∃ y_ : List (S69), y_ = (([] : List (S69))) := ⟨_, rfl⟩
 replace H : (if y209.length + ((rd_T39 l0_1 x4_1).f3).length < 8796093022208 then (if x201001_1.length < 2199023255552 then (fencepostref10_Own.l0 k1 (wrap64 (x4_1 + 1)) l0_0 l0_1 y197 (x201001_1 ++ [(⟨(rd_T39 l0_1 x4_1).f0, y206, (rd_T39 l0_1 x4_1).f2, (y209 ++ ((rd_T39 l0_1 x4_1).f3))⟩ : S39)])) else (none)) else (none)) = some (r1, r2) := by first | (rw [hy209]; with_reducible exact H) | (have H2_ := (Option.bind_some _ _).symm.trans H; rw [hy209]; with_reducible exact H2_) | (have H2_ := (Option.bind_some _ _).symm.trans H; with_reducible exact H2_) | with_reducible exact H | (rw [hy209]; exact H) | exact H
 have Ny209 := Aside0.mk hy209
 clear hy209
 by_cases c18 : y209.length + ((rd_T39 l0_1 x4_1).f3).length < 8796093022208
 rotate_left
 ·rw [if_neg c18] at H
  exact absurd H (by simp)
 rw [if_pos c18] at H
 have LMc18 := Aside0.mk c18
 clear c18
 obtain ⟨y212, hy212⟩ : ∃ y_ : List (S69), y_ = (y209 ++ ((rd_T39 l0_1 x4_1).f3)) := ⟨_, rfl⟩
 replace H : (if x201001_1.length < 2199023255552 then (fencepostref10_Own.l0 k1 (wrap64 (x4_1 + 1)) l0_0 l0_1 y197 (x201001_1 ++ [(⟨(rd_T39 l0_1 x4_1).f0, y206, (rd_T39 l0_1 x4_1).f2, y212⟩ : S39)])) else (none)) = some (r1, r2) := by first | (rw [hy212]; with_reducible exact H) | (have H2_ := (Option.bind_some _ _).symm.trans H; rw [hy212]; with_reducible exact H2_) | (have H2_ := (Option.bind_some _ _).symm.trans H; with_reducible exact H2_) | with_reducible exact H | (rw [hy212]; exact H) | exact H
 have Ny212 := Aside0.mk hy212
 clear hy212
 by_cases c19 : x201001_1.length < 2199023255552
 rotate_left
 ·rw [if_neg c19] at H
  exact absurd H (by simp)
 rw [if_pos c19] at H
 have LMc19 := Aside0.mk c19
 clear c19
 obtain ⟨y215, hy215⟩ : ∃ y_ : List (S39), y_ = (x201001_1 ++ [(⟨(rd_T39 l0_1 x4_1).f0, y206, (rd_T39 l0_1 x4_1).f2, y212⟩ : S39)]) := ⟨_, rfl⟩
 replace H : (fencepostref10_Own.l0 k1 (wrap64 (x4_1 + 1)) l0_0 l0_1 y197 y215) = some (r1, r2) := by first | (rw [hy215]; with_reducible exact H) | (have H2_ := (Option.bind_some _ _).symm.trans H; rw [hy215]; with_reducible exact H2_) | (have H2_ := (Option.bind_some _ _).symm.trans H; with_reducible exact H2_) | with_reducible exact H | (rw [hy215]; exact H) | exact H
 have Ny215 := Aside0.mk hy215
 clear hy215
 have H' := Aside0.mk H
 clear H
 have hnb20 := NB192_193.out
 have hnc20 := NB193_192.out
 have hnb21 := NB192_200.out
 have hnc21 := NB200_192.out
 have hcz22_0 : wr.cell? ⟨gb192, 0, none⟩ = some (.slice A0_0 l0_0.length c0_0) := (blk_cell BK192.out 0).trans rfl
 have hcz22_1 : wr.cell? ⟨gb192, 1, none⟩ = some (.slice A0_1 l0_1.length c0_1) := (blk_cell BK192.out 1).trans rfl
 have hfz22_0 := blk_frozen BK192.out 0
 have hfz22_1 := blk_frozen BK192.out 1
 have p201 : 0 ≤ (x4_1 : Int) := of_decide_eq_true as_
 have q201 : x4_1 < (l0_1.length : Int) := of_decide_eq_true as_
 obtain ⟨ad201, A201_1, c201_1, A201_3, c201_3, e201, hx201_0, hx201_1, hx201_2, hx201_3, hl201_1, hi201_1, hl201_3, hi201_3⟩ := at_T39 HR0_1.out x4_1 p201 q201
 cases e201
 replace hx201_0 := cl_ HB.out hx201_0
 replace hx201_1 := cl_ HB.out hx201_1
 replace hx201_2 := cl_ HB.out hx201_2
 replace hx201_3 := cl_ HB.out hx201_3
 have HR201_1 := Aside0.mk hi201_1
 have HC201_1 := Aside0.mk hl201_1
 clear hi201_1 hl201_1
 have HR201_3 := Aside0.mk hi201_3
 have HC201_3 := Aside0.mk hl201_3
 clear hi201_3 hl201_3
 replace p201 := eq_true p201
 replace q201 := eq_true q201
 go_wp2_with (first | ((with_reducible refine gate_dst (N := 5) rfl ?_); refine box_event ?hg (N := 5) ?hd (cs := #[.int .i64 0, .slice none 0 0, .bool false, .slice none 0 0]) (t := 39) ?hr ?_; (case hd => rfl); (case hg => rfl); (case hr => first | (go_simp; done) | (go_simp; rfl)); intro gb202 hg w23 hbox hb; have n0_ := Aside0.mk (Kd.R_below (rd_ HO_201000.out) hb); have n1_ := Aside0.mk (Kd.S_below (Kd.S_elderB (sd_ HO_201001.out) gb202 (Nat.le_of_eq hg.symm)) hb); have n2_ := Aside0.mk (bb_ BK192.out hb); have n3_ := Aside0.mk (bb_ BK193.out hb); have n4_ := Aside0.mk (bb_ BK200.out hb); have n5_ := Aside0.mk (below_step (hb_ HB.out) hb); have n6_ := Aside0.mk (hbox); have n7_ := Aside0.mk (gs_ hg (hb_ HB.out)); have n8_ := Aside0.mk (gs_ hg (hb_ HB.out)); have n9_ := Aside0.mk (gn_ hg BK192.out); have n10_ := Aside0.mk (gn_ hg BK192.out).symm; have n11_ := Aside0.mk (gn_ hg BK193.out); have n12_ := Aside0.mk (gn_ hg BK193.out).symm; have n13_ := Aside0.mk (gn_ hg BK200.out); have n14_ := Aside0.mk (gn_ hg BK200.out).symm; clear HO_201000; clear HO_201001; clear BK192; clear BK193; clear BK200; clear HB; have HO_201000 := n0_; have HO_201001 := n1_; have BK192 := n2_; have BK193 := n3_; have BK200 := n4_; have HB := n5_; have BK202 := n6_; have GW202 := n7_; have GE202 := n8_; have NB192_202 := n9_; have NB202_192 := n10_; have NB193_202 := n11_; have NB202_193 := n12_; have NB200_202 := n13_; have NB202_200 := n14_; clear n0_ n1_ n2_ n3_ n4_ n5_ n6_ n7_ n8_ n9_ n10_ n11_ n12_ n13_ n14_; clear hb hbox hg; have hnb24 := NB202_192.out; have hnc24 := NB192_202.out; have hnb25 := NB202_193.out; have hnc25 := NB193_202.out; have hnb26 := NB202_200.out; have hnc26 := NB200_202.out; have hcz27_0 : w23.cell? ⟨gb202, 0, none⟩ = some (.int .i64 0) := (blk_cell BK202.out 0).trans rfl; have hcz27_1 : w23.cell? ⟨gb202, 1, none⟩ = some (.slice none 0 0) := (blk_cell BK202.out 1).trans rfl; have hcz27_2 : w23.cell? ⟨gb202, 2, none⟩ = some (.bool false) := (blk_cell BK202.out 2).trans rfl; have hcz27_3 : w23.cell? ⟨gb202, 3, none⟩ = some (.slice none 0 0) := (blk_cell BK202.out 3).trans rfl; have hfz27_0 := blk_frozen BK202.out 0; have hfz27_1 := blk_frozen BK202.out 1; have hfz27_2 := blk_frozen BK202.out 2; have hfz27_3 := blk_frozen BK202.out 3) | ((with_reducible refine gate_dst (N := 23) rfl ?_); refine Kd.R_lit (Kd.int .i64) _ 3 ?hg (N := 23) ?hd (xs := ([] : List Int)) (inner := []) (ok := fun _ => True) (okp := fun _ => True) ?hr ?hp (fun _ hk => hk) trivial (Below.refl _ _) (Nat.le_refl _) (by simp) ?_; (case hd => rfl); (case hg => rfl); (case hr => first | (go_simp; done) | (go_simp; rfl)); (case hp => exact (Reps.none _ _)); intro v204 w28 ho29 hb hg_ hnew_; clear hg_ hnew_; (first | rw [← Ny203.out] at ho29 | (simp only [Int.reduceToNat] at ho29; rw [← Ny203.out] at ho29)); have n0_ := Aside0.mk (Kd.R_elder' (by (with_reducible repeat (first | apply Kd.R_alloc | apply Kd.R_drewN | apply Kd.R_drew)); exact (Kd.R_mono (Kd.R_far (p := ⟨gb202, 3, none⟩) (Kd.R_far (p := ⟨gb202, 2, none⟩) (Kd.R_far (p := ⟨gb202, 1, none⟩) (Kd.R_far (p := ⟨gb202, 0, none⟩) (Kd.R_types HO_201000.out BK202.out (by decide)) (fun _ hk => hk.2) (.int .i64 ((rd_T39 l0_1 x4_1).f0))) (fun _ hk => hk.2) (.slice A201_1 ((rd_T39 l0_1 x4_1).f1).length c201_1)) (fun _ hk => hk.2) (.bool ((rd_T39 l0_1 x4_1).f2))) (fun _ hk => hk.2) (.slice A201_3 ((rd_T39 l0_1 x4_1).f3).length c201_3)) (fun _ h_ => h_.1))) (Kd.R_base ho29) hb); have n1_ := Aside0.mk (Kd.S_elder' (by (with_reducible repeat (first | apply Kd.S_alloc | apply Kd.S_drewN | apply Kd.S_drew)); exact (Kd.S_mono (Kd.S_far (p := ⟨gb202, 3, none⟩) (Kd.S_far (p := ⟨gb202, 2, none⟩) (Kd.S_far (p := ⟨gb202, 1, none⟩) (Kd.S_far (p := ⟨gb202, 0, none⟩) (Kd.S_mono HO_201001.out (fun k_ hk => (⟨hk, hk.2⟩ : _ ∧ k_ ≠ gb202))) (fun _ hk => hk.2) (.int .i64 ((rd_T39 l0_1 x4_1).f0))) (fun _ hk => hk.2) (.slice A201_1 ((rd_T39 l0_1 x4_1).f1).length c201_1)) (fun _ hk => hk.2) (.bool ((rd_T39 l0_1 x4_1).f2))) (fun _ hk => hk.2) (.slice A201_3 ((rd_T39 l0_1 x4_1).f3).length c201_3)) (fun _ h_ => h_.1))) (Kd.R_base ho29) hb); have n2_ := Aside0.mk (Kd.R_lower (Kd.R_new' ho29 (Kd.R_lt (by (with_reducible repeat (first | apply Kd.R_alloc | apply Kd.R_drewN | apply Kd.R_drew)); exact (Kd.R_mono (Kd.R_far (p := ⟨gb202, 3, none⟩) (Kd.R_far (p := ⟨gb202, 2, none⟩) (Kd.R_far (p := ⟨gb202, 1, none⟩) (Kd.R_far (p := ⟨gb202, 0, none⟩) (Kd.R_types HO_201000.out BK202.out (by decide)) (fun _ hk => hk.2) (.int .i64 ((rd_T39 l0_1 x4_1).f0))) (fun _ hk => hk.2) (.slice A201_1 ((rd_T39 l0_1 x4_1).f1).length c201_1)) (fun _ hk => hk.2) (.bool ((rd_T39 l0_1 x4_1).f2))) (fun _ hk => hk.2) (.slice A201_3 ((rd_T39 l0_1 x4_1).f3).length c201_3)) (fun _ h_ => h_.1))))) (below_size (hb_ HB.out))); have n3_ := Aside0.mk (blk_below (g := gb192) (o := .cells #[.slice A0_0 l0_0.length c0_0, .slice (some ad201) l0_1.length c0_1] 31 (0, 0)) (by (with_reducible repeat (first | refine blk_drewN ?_ _ | refine blk_drew ?_ | refine blk_alloc ?_ _)); refine blk_far ?_ NB192_202.out _; (with_reducible repeat (first | refine blk_drewN ?_ _ | refine blk_drew ?_ | refine blk_alloc ?_ _)); refine blk_far ?_ NB192_202.out _; (with_reducible repeat (first | refine blk_drewN ?_ _ | refine blk_drew ?_ | refine blk_alloc ?_ _)); refine blk_far ?_ NB192_202.out _; (with_reducible repeat (first | refine blk_drewN ?_ _ | refine blk_drew ?_ | refine blk_alloc ?_ _)); refine blk_far ?_ NB192_202.out _; (with_reducible repeat (first | refine blk_drewN ?_ _ | refine blk_drew ?_ | refine blk_alloc ?_ _)); exact BK192.out) hb); have n4_ := Aside0.mk (blk_below (g := gb193) (o := .cells #[.slice none 0 0, .slice none 0 0] 31 (0, 0)) (by (with_reducible repeat (first | refine blk_drewN ?_ _ | refine blk_drew ?_ | refine blk_alloc ?_ _)); refine blk_far ?_ NB193_202.out _; (with_reducible repeat (first | refine blk_drewN ?_ _ | refine blk_drew ?_ | refine blk_alloc ?_ _)); refine blk_far ?_ NB193_202.out _; (with_reducible repeat (first | refine blk_drewN ?_ _ | refine blk_drew ?_ | refine blk_alloc ?_ _)); refine blk_far ?_ NB193_202.out _; (with_reducible repeat (first | refine blk_drewN ?_ _ | refine blk_drew ?_ | refine blk_alloc ?_ _)); refine blk_far ?_ NB193_202.out _; (with_reducible repeat (first | refine blk_drewN ?_ _ | refine blk_drew ?_ | refine blk_alloc ?_ _)); exact BK193.out) hb); have n5_ := Aside0.mk (blk_below (g := gb200) (o := .cells #[.slice Ao10 y197.length co10, u201001] 31 (0, 0)) (by (with_reducible repeat (first | refine blk_drewN ?_ _ | refine blk_drew ?_ | refine blk_alloc ?_ _)); refine blk_far ?_ NB200_202.out _; (with_reducible repeat (first | refine blk_drewN ?_ _ | refine blk_drew ?_ | refine blk_alloc ?_ _)); refine blk_far ?_ NB200_202.out _; (with_reducible repeat (first | refine blk_drewN ?_ _ | refine blk_drew ?_ | refine blk_alloc ?_ _)); refine blk_far ?_ NB200_202.out _; (with_reducible repeat (first | refine blk_drewN ?_ _ | refine blk_drew ?_ | refine blk_alloc ?_ _)); refine blk_far ?_ NB200_202.out _; (with_reducible repeat (first | refine blk_drewN ?_ _ | refine blk_drew ?_ | refine blk_alloc ?_ _)); exact BK200.out) hb); have n6_ := Aside0.mk (blk_below (g := gb202) (o := .cells #[.int .i64 ((rd_T39 l0_1 x4_1).f0), .slice A201_1 ((rd_T39 l0_1 x4_1).f1).length c201_1, .bool ((rd_T39 l0_1 x4_1).f2), .slice A201_3 ((rd_T39 l0_1 x4_1).f3).length c201_3] 39 (0, 0)) (by (with_reducible repeat (first | refine blk_drewN ?_ _ | refine blk_drew ?_ | refine blk_alloc ?_ _)); refine blk_put (cs := #[.int .i64 ((rd_T39 l0_1 x4_1).f0), .slice A201_1 ((rd_T39 l0_1 x4_1).f1).length c201_1, .bool ((rd_T39 l0_1 x4_1).f2), .slice none 0 0]) ?_ 3 _ rfl; (with_reducible repeat (first | refine blk_drewN ?_ _ | refine blk_drew ?_ | refine blk_alloc ?_ _)); refine blk_put (cs := #[.int .i64 ((rd_T39 l0_1 x4_1).f0), .slice A201_1 ((rd_T39 l0_1 x4_1).f1).length c201_1, .bool false, .slice none 0 0]) ?_ 2 _ rfl; (with_reducible repeat (first | refine blk_drewN ?_ _ | refine blk_drew ?_ | refine blk_alloc ?_ _)); refine blk_put (cs := #[.int .i64 ((rd_T39 l0_1 x4_1).f0), .slice none 0 0, .bool false, .slice none 0 0]) ?_ 1 _ rfl; (with_reducible repeat (first | refine blk_drewN ?_ _ | refine blk_drew ?_ | refine blk_alloc ?_ _)); refine blk_put (cs := #[.int .i64 0, .slice none 0 0, .bool false, .slice none 0 0]) ?_ 0 _ rfl; (with_reducible repeat (first | refine blk_drewN ?_ _ | refine blk_drew ?_ | refine blk_alloc ?_ _)); exact BK202.out) hb); have n7_ := Aside0.mk (below_step (hb_ HB.out) hb); clear HO_201000; clear HO_201001; clear BK192; clear BK193; clear BK200; clear BK202; clear HB; have HO_201000 := n0_; have HO_201001 := n1_; have HO205 := n2_; have BK192 := n3_; have BK193 := n4_; have BK200 := n5_; have BK202 := n6_; have HB := n7_; clear n0_ n1_ n2_ n3_ n4_ n5_ n6_ n7_; clear hb ho29; have hcz30_0 : w28.cell? ⟨gb202, 0, none⟩ = some (.int .i64 ((rd_T39 l0_1 x4_1).f0)) := (blk_cell BK202.out 0).trans rfl; have hcz30_1 : w28.cell? ⟨gb202, 1, none⟩ = some (.slice A201_1 ((rd_T39 l0_1 x4_1).f1).length c201_1) := (blk_cell BK202.out 1).trans rfl; have hcz30_2 : w28.cell? ⟨gb202, 2, none⟩ = some (.bool ((rd_T39 l0_1 x4_1).f2)) := (blk_cell BK202.out 2).trans rfl; have hcz30_3 : w28.cell? ⟨gb202, 3, none⟩ = some (.slice A201_3 ((rd_T39 l0_1 x4_1).f3).length c201_3) := (blk_cell BK202.out 3).trans rfl; have hfz30_0 := blk_frozen BK202.out 0; have hfz30_1 := blk_frozen BK202.out 1; have hfz30_2 := blk_frozen BK202.out 2; have hfz30_3 := blk_frozen BK202.out 3) | ((with_reducible refine gate_builtin (b := .append) (xs := #[.tmp 23, .tmp 25]) rfl ?_); at_builtin; refine Kd.R_append_rows (Kd.int .i64) (w0 := w) w.heap.size rfl (.tmp 23) (.tmp 25) 22 3 (.int .i64 0) 8 rfl Try.underlying22 info3 rfl (by decide) (by omega) v204 y203 ((rd_T39 l0_1 x4_1).f1) _ _ _ (fun k_ => some k_ ≠ (.slice Ao10 y197.length co10 : Value).ownBlock) (fun _ => False) rfl rfl ?aO ?aR (fun _ _ h => h) (fun _ h => h.elim) ?aF ?aB ?aS ?aL ?_; (case aR => repeat (first | exact (Kd.C_below HR201_1.out HB.out) | (with_reducible refine Kd.C_alloc ?_ _) | (with_reducible refine Kd.C_drewN ?_ _) | (with_reducible refine Kd.C_drew ?_))); (case aB => exact (hb_ HB.out)); (case aF => exact (fun k_ hk => Kd.fresh' (Kd.R_lt (rd_ HO_201000.out)) k_ hk)); (case aO => exact (by (with_reducible repeat (first | apply Kd.R_alloc | apply Kd.R_drewN | apply Kd.R_drew)); exact Kd.R_mono HO205.out (fun _ hk => hk.2))); (case aS => exact (below_size (hb_ HB.out))); (case aL => have := LMc17.out; omega); intro v207 w31 ho hb hg hat; rw [← Ny206.out] at ho; have n0_ := Aside0.mk (Kd.R_after (ok := (fun _ => True)) (rd_ HO_201000.out) hg hat); have n1_ := Aside0.mk (Kd.S_after (ok := (fun k_ => some k_ ≠ (.slice Ao10 y197.length co10 : Value).ownBlock ∧ k_ ≠ gb202)) (sd_ HO_201001.out) hg hat); have n2_ := Aside0.mk (blk_grown (g := gb192) (o := .cells #[.slice A0_0 l0_0.length c0_0, .slice (some ad201) l0_1.length c0_1] 31 (0, 0)) (bd_ BK192.out) hg (Kd.R_ne HO205.out BK192.out (by decide))); have n3_ := Aside0.mk (blk_grown (g := gb193) (o := .cells #[.slice none 0 0, .slice none 0 0] 31 (0, 0)) (bd_ BK193.out) hg (Kd.R_ne HO205.out BK193.out (by decide))); have n4_ := Aside0.mk (blk_grown (g := gb200) (o := .cells #[.slice Ao10 y197.length co10, u201001] 31 (0, 0)) (bd_ BK200.out) hg (Kd.R_ne HO205.out BK200.out (by decide))); have n5_ := Aside0.mk (blk_grown (g := gb202) (o := .cells #[.int .i64 ((rd_T39 l0_1 x4_1).f0), .slice A201_1 ((rd_T39 l0_1 x4_1).f1).length c201_1, .bool ((rd_T39 l0_1 x4_1).f2), .slice A201_3 ((rd_T39 l0_1 x4_1).f3).length c201_3] 39 (0, 0)) (bd_ BK202.out) hg (Kd.R_ne HO205.out BK202.out (by decide))); have n6_ := Aside0.mk (hb); have n7_ := Aside0.mk (ho); clear HO_201000; clear HO_201001; clear BK192; clear BK193; clear BK200; clear BK202; clear HB; clear HO205; have HO_201000 := n0_; have HO_201001 := n1_; have BK192 := n2_; have BK193 := n3_; have BK200 := n4_; have BK202 := n5_; have HB := n6_; have HO208 := n7_; clear n0_ n1_ n2_ n3_ n4_ n5_ n6_ n7_; clear ho hb hg hat; obtain ⟨Ao32, co32, eo32⟩ := Kd.R_slice HO208.out; subst eo32; have hcz33_0 : w31.cell? ⟨gb202, 0, none⟩ = some (.int .i64 ((rd_T39 l0_1 x4_1).f0)) := (blk_cell BK202.out 0).trans rfl; have hcz33_1 : w31.cell? ⟨gb202, 1, none⟩ = some (.slice A201_1 ((rd_T39 l0_1 x4_1).f1).length c201_1) := (blk_cell BK202.out 1).trans rfl; have hcz33_2 : w31.cell? ⟨gb202, 2, none⟩ = some (.bool ((rd_T39 l0_1 x4_1).f2)) := (blk_cell BK202.out 2).trans rfl; have hcz33_3 : w31.cell? ⟨gb202, 3, none⟩ = some (.slice A201_3 ((rd_T39 l0_1 x4_1).f3).length c201_3) := (blk_cell BK202.out 3).trans rfl; have hfz33_0 := blk_frozen BK202.out 0; have hfz33_1 := blk_frozen BK202.out 1; have hfz33_2 := blk_frozen BK202.out 2; have hfz33_3 := blk_frozen BK202.out 3) | ((with_reducible refine gate_dst (N := 28) rfl ?_); refine Kd.R_lit k69 _ 69 ?hg (N := 28) ?hd (xs := ([] : List (S69))) (inner := []) (ok := fun _ => True) (okp := fun _ => True) ?hr ?hp (fun _ hk => hk) trivial (Below.refl _ _) (Nat.le_refl _) (by simp) ?_; (case hd => rfl); (case hg => rfl); (case hr => first | (go_simp; done) | (go_simp; rfl)); (case hp => exact (Reps.none _ _)); intro v210 w34 ho35 hb hg_ hnew_; clear hg_ hnew_; (first | rw [← Ny209.out] at ho35 | (simp only [Int.reduceToNat] at ho35; rw [← Ny209.out] at ho35)); have n0_ := Aside0.mk (Kd.R_below (by (with_reducible repeat (first | apply Kd.R_alloc | apply Kd.R_drewN | apply Kd.R_drew)); exact (Kd.R_mono (Kd.R_far (p := ⟨gb202, 1, none⟩) (Kd.R_types HO_201000.out BK202.out (by decide)) (fun _ hk => hk.2) (.slice Ao32 y206.length co32)) (fun _ h_ => h_.1))) hb); have n1_ := Aside0.mk (Kd.S_elder' (by (with_reducible repeat (first | apply Kd.S_alloc | apply Kd.S_drewN | apply Kd.S_drew)); exact (Kd.S_mono (Kd.S_far (p := ⟨gb202, 1, none⟩) (Kd.S_mono HO_201001.out (fun k_ hk => (⟨hk, hk.1.2⟩ : _ ∧ k_ ≠ gb202))) (fun _ hk => hk.2) (.slice Ao32 y206.length co32)) (fun _ h_ => h_.1))) (Kd.R_base ho35) hb); have n2_ := Aside0.mk (Kd.R_below (by (with_reducible repeat (first | apply Kd.R_alloc | apply Kd.R_drewN | apply Kd.R_drew)); exact (Kd.R_mono (Kd.R_far (p := ⟨gb202, 1, none⟩) (Kd.R_types HO208.out BK202.out (by decide)) (fun _ hk => hk.2) (.slice Ao32 y206.length co32)) (fun _ h_ => h_.1))) hb); have n3_ := Aside0.mk (Kd.R_lower ho35 (below_size (hb_ HB.out))); have n4_ := Aside0.mk (blk_below (g := gb192) (o := .cells #[.slice A0_0 l0_0.length c0_0, .slice (some ad201) l0_1.length c0_1] 31 (0, 0)) (by (with_reducible repeat (first | refine blk_drewN ?_ _ | refine blk_drew ?_ | refine blk_alloc ?_ _)); refine blk_far ?_ NB192_202.out _; (with_reducible repeat (first | refine blk_drewN ?_ _ | refine blk_drew ?_ | refine blk_alloc ?_ _)); exact BK192.out) hb); have n5_ := Aside0.mk (blk_below (g := gb193) (o := .cells #[.slice none 0 0, .slice none 0 0] 31 (0, 0)) (by (with_reducible repeat (first | refine blk_drewN ?_ _ | refine blk_drew ?_ | refine blk_alloc ?_ _)); refine blk_far ?_ NB193_202.out _; (with_reducible repeat (first | refine blk_drewN ?_ _ | refine blk_drew ?_ | refine blk_alloc ?_ _)); exact BK193.out) hb); have n6_ := Aside0.mk (blk_below (g := gb200) (o := .cells #[.slice Ao10 y197.length co10, u201001] 31 (0, 0)) (by (with_reducible repeat (first | refine blk_drewN ?_ _ | refine blk_drew ?_ | refine blk_alloc ?_ _)); refine blk_far ?_ NB200_202.out _; (with_reducible repeat (first | refine blk_drewN ?_ _ | refine blk_drew ?_ | refine blk_alloc ?_ _)); exact BK200.out) hb); have n7_ := Aside0.mk (blk_below (g := gb202) (o := .cells #[.int .i64 ((rd_T39 l0_1 x4_1).f0), .slice Ao32 y206.length co32, .bool ((rd_T39 l0_1 x4_1).f2), .slice A201_3 ((rd_T39 l0_1 x4_1).f3).length c201_3] 39 (0, 0)) (by (with_reducible repeat (first | refine blk_drewN ?_ _ | refine blk_drew ?_ | refine blk_alloc ?_ _)); refine blk_put (cs := #[.int .i64 ((rd_T39 l0_1 x4_1).f0), .slice A201_1 ((rd_T39 l0_1 x4_1).f1).length c201_1, .bool ((rd_T39 l0_1 x4_1).f2), .slice A201_3 ((rd_T39 l0_1 x4_1).f3).length c201_3]) ?_ 1 _ rfl; (with_reducible repeat (first | refine blk_drewN ?_ _ | refine blk_drew ?_ | refine blk_alloc ?_ _)); exact BK202.out) hb); have n8_ := Aside0.mk (below_step (hb_ HB.out) hb); clear HO_201000; clear HO_201001; clear HO208; clear BK192; clear BK193; clear BK200; clear BK202; clear HB; have HO_201000 := n0_; have HO_201001 := n1_; have HO208 := n2_; have HO211 := n3_; have BK192 := n4_; have BK193 := n5_; have BK200 := n6_; have BK202 := n7_; have HB := n8_; clear n0_ n1_ n2_ n3_ n4_ n5_ n6_ n7_ n8_; clear hb ho35; have hcz36_0 : w34.cell? ⟨gb202, 0, none⟩ = some (.int .i64 ((rd_T39 l0_1 x4_1).f0)) := (blk_cell BK202.out 0).trans rfl; have hcz36_1 : w34.cell? ⟨gb202, 1, none⟩ = some (.slice Ao32 y206.length co32) := (blk_cell BK202.out 1).trans rfl; have hcz36_2 : w34.cell? ⟨gb202, 2, none⟩ = some (.bool ((rd_T39 l0_1 x4_1).f2)) := (blk_cell BK202.out 2).trans rfl; have hcz36_3 : w34.cell? ⟨gb202, 3, none⟩ = some (.slice A201_3 ((rd_T39 l0_1 x4_1).f3).length c201_3) := (blk_cell BK202.out 3).trans rfl; have hfz36_0 := blk_frozen BK202.out 0; have hfz36_1 := blk_frozen BK202.out 1; have hfz36_2 := blk_frozen BK202.out 2; have hfz36_3 := blk_frozen BK202.out 3) | ((with_reducible refine gate_builtin (b := .append) (xs := #[.tmp 28, .tmp 30]) rfl ?_); at_builtin; refine Kd.R_append_rows k69 (w0 := w) w.heap.size rfl (.tmp 28) (.tmp 30) 37 69 (.agg #[(.int .i64 0), (.int .i64 0)]) 16 rfl Try.underlying37 info69 rfl (by decide) (by omega) v210 y209 ((rd_T39 l0_1 x4_1).f3) _ _ _ (fun _ => True) (fun _ => False) rfl rfl ?aO ?aR (fun _ _ h => h) (fun _ h => h.elim) ?aF ?aB ?aS ?aL ?_; (case aR => repeat (first | exact (Kd.C_below HR201_3.out HB.out) | (with_reducible refine Kd.C_alloc ?_ _) | (with_reducible refine Kd.C_drewN ?_ _) | (with_reducible refine Kd.C_drew ?_))); (case aB => exact (hb_ HB.out)); (case aF => exact (fun _ _ => trivial)); (case aO => exact (rd_ HO211.out)); (case aS => exact (below_size (hb_ HB.out))); (case aL => have := LMc18.out; omega); intro v213 w37 ho hb hg hat; rw [← Ny212.out] at ho; have n0_ := Aside0.mk (Kd.R_over' (rd_ HO_201000.out) (Kd.R_typed (rd_ HO211.out)) (by decide) hg); have n1_ := Aside0.mk (Kd.S_after (ok := (fun k_ => some k_ ≠ (.slice Ao10 y197.length co10 : Value).ownBlock ∧ some k_ ≠ (.slice Ao32 y206.length co32 : Value).ownBlock ∧ k_ ≠ gb202)) (by (with_reducible repeat (first | apply Kd.S_alloc | apply Kd.S_drewN | apply Kd.S_drew)); exact Kd.S_mono HO_201001.out (fun _ hk => ⟨⟨hk.1.1.1, ⟨hk.1.2, hk.1.1.2⟩⟩, hk.2⟩)) hg hat); have n2_ := Aside0.mk (blk_grown (g := gb192) (o := .cells #[.slice A0_0 l0_0.length c0_0, .slice (some ad201) l0_1.length c0_1] 31 (0, 0)) (bd_ BK192.out) hg (Kd.R_ne HO211.out BK192.out (by decide))); have n3_ := Aside0.mk (blk_grown (g := gb193) (o := .cells #[.slice none 0 0, .slice none 0 0] 31 (0, 0)) (bd_ BK193.out) hg (Kd.R_ne HO211.out BK193.out (by decide))); have n4_ := Aside0.mk (blk_grown (g := gb200) (o := .cells #[.slice Ao10 y197.length co10, u201001] 31 (0, 0)) (bd_ BK200.out) hg (Kd.R_ne HO211.out BK200.out (by decide))); have n5_ := Aside0.mk (blk_grown (g := gb202) (o := .cells #[.int .i64 ((rd_T39 l0_1 x4_1).f0), .slice Ao32 y206.length co32, .bool ((rd_T39 l0_1 x4_1).f2), .slice A201_3 ((rd_T39 l0_1 x4_1).f3).length c201_3] 39 (0, 0)) (bd_ BK202.out) hg (Kd.R_ne HO211.out BK202.out (by decide))); have n6_ := Aside0.mk (Kd.R_over' (rd_ HO208.out) (Kd.R_typed (rd_ HO211.out)) (by decide) hg); have n7_ := Aside0.mk (hb); have n8_ := Aside0.mk (ho); clear HO_201000; clear HO_201001; clear BK192; clear BK193; clear BK200; clear BK202; clear HO208; clear HB; clear HO211; have HO_201000 := n0_; have HO_201001 := n1_; have BK192 := n2_; have BK193 := n3_; have BK200 := n4_; have BK202 := n5_; have HO208 := n6_; have HB := n7_; have HO214 := n8_; clear n0_ n1_ n2_ n3_ n4_ n5_ n6_ n7_ n8_; clear ho hb hg hat; obtain ⟨Ao38, co38, eo38⟩ := Kd.R_slice HO214.out; subst eo38; have hcz39_0 : w37.cell? ⟨gb202, 0, none⟩ = some (.int .i64 ((rd_T39 l0_1 x4_1).f0)) := (blk_cell BK202.out 0).trans rfl; have hcz39_1 : w37.cell? ⟨gb202, 1, none⟩ = some (.slice Ao32 y206.length co32) := (blk_cell BK202.out 1).trans rfl; have hcz39_2 : w37.cell? ⟨gb202, 2, none⟩ = some (.bool ((rd_T39 l0_1 x4_1).f2)) := (blk_cell BK202.out 2).trans rfl; have hcz39_3 : w37.cell? ⟨gb202, 3, none⟩ = some (.slice A201_3 ((rd_T39 l0_1 x4_1).f3).length c201_3) := (blk_cell BK202.out 3).trans rfl; have hfz39_0 := blk_frozen BK202.out 0; have hfz39_1 := blk_frozen BK202.out 1; have hfz39_2 := blk_frozen BK202.out 2; have hfz39_3 := blk_frozen BK202.out 3) | ((with_reducible refine gate_store (t := 37) (p := 32) rfl ?_); refine store_event (t := 37) (p := 32) (v := ?vo_w40) (w1 := (w37.setCell ⟨gb202, 3, none⟩ (.slice Ao38 y212.length co38))) ?hg ?ho ?hn ?hr ?_; (case ho => rfl); (case hg => rfl); (case hn => rfl); (case hr => first | (go_simp; done) | (go_simp; rfl)); intro w40 hw; have n0_ : Aside0 (Kd.R (Kd.int .i64) 3 w40 w.heap.size (fun k_ => some k_ ≠ (.slice Ao32 y206.length co32 : Value).ownBlock) (.slice Ao10 y197.length co10) y197) := ⟨(by rw [hw]; exact (by (with_reducible repeat (first | apply Kd.R_alloc | apply Kd.R_drewN | apply Kd.R_drew)); exact Kd.R_mono (Kd.R_far (p := ⟨gb202, 3, none⟩) (Kd.R_types HO_201000.out BK202.out (by decide)) (fun _ hk => hk.2) (.slice Ao38 y212.length co38)) (fun _ hk => hk.1.2)))⟩; have n1_ : Aside0 (Kd.S k39 39 w40 w.heap.size (fun k_ => some k_ ≠ (.slice Ao10 y197.length co10 : Value).ownBlock ∧ some k_ ≠ (.slice Ao32 y206.length co32 : Value).ownBlock ∧ some k_ ≠ (.slice Ao38 y212.length co38 : Value).ownBlock ∧ k_ ≠ gb202) u201001 x201001_1) := ⟨(by rw [hw]; exact (by (with_reducible repeat (first | apply Kd.S_alloc | apply Kd.S_drewN | apply Kd.S_drew)); exact Kd.S_mono (Kd.S_far (p := ⟨gb202, 3, none⟩) (Kd.S_mono HO_201001.out (fun k_ hk => (⟨hk, hk.1.2.2⟩ : _ ∧ k_ ≠ gb202))) (fun _ hk => hk.2) (.slice Ao38 y212.length co38)) (fun _ hk => ⟨hk.1.1.1, ⟨hk.1.1.2.1, ⟨hk.1.2, hk.1.1.2.2⟩⟩⟩)))⟩; have n2_ : Aside0 (Kd.R (Kd.int .i64) 3 w40 w.heap.size (fun k_ => some k_ ≠ (.slice Ao10 y197.length co10 : Value).ownBlock) (.slice Ao32 y206.length co32) y206) := ⟨(by rw [hw]; exact (by (with_reducible repeat (first | apply Kd.R_alloc | apply Kd.R_drewN | apply Kd.R_drew)); exact Kd.R_mono (Kd.R_far (p := ⟨gb202, 3, none⟩) (Kd.R_types HO208.out BK202.out (by decide)) (fun _ hk => hk.2) (.slice Ao38 y212.length co38)) (fun _ hk => hk.1)))⟩; have n3_ : Aside0 (Kd.R k69 69 w40 w.heap.size (fun _ => True) (.slice Ao38 y212.length co38) y212) := ⟨(by rw [hw]; exact (by (with_reducible repeat (first | apply Kd.R_alloc | apply Kd.R_drewN | apply Kd.R_drew)); exact Kd.R_mono (Kd.R_far (p := ⟨gb202, 3, none⟩) (Kd.R_types HO214.out BK202.out (by decide)) (fun _ hk => hk.2) (.slice Ao38 y212.length co38)) (fun _ hk => trivial)))⟩; have n4_ : Aside0 (w40.heap[gb192]? = some (.cells #[.slice A0_0 l0_0.length c0_0, .slice (some ad201) l0_1.length c0_1] 31 (0, 0))) := ⟨(by rw [hw]; exact (by (with_reducible repeat (first | refine blk_drewN ?_ _ | refine blk_drew ?_ | refine blk_alloc ?_ _)); refine blk_far ?_ NB192_202.out _; (with_reducible repeat (first | refine blk_drewN ?_ _ | refine blk_drew ?_ | refine blk_alloc ?_ _)); exact BK192.out))⟩; have n5_ : Aside0 (w40.heap[gb193]? = some (.cells #[.slice none 0 0, .slice none 0 0] 31 (0, 0))) := ⟨(by rw [hw]; exact (by (with_reducible repeat (first | refine blk_drewN ?_ _ | refine blk_drew ?_ | refine blk_alloc ?_ _)); refine blk_far ?_ NB193_202.out _; (with_reducible repeat (first | refine blk_drewN ?_ _ | refine blk_drew ?_ | refine blk_alloc ?_ _)); exact BK193.out))⟩; have n6_ : Aside0 (w40.heap[gb200]? = some (.cells #[.slice Ao10 y197.length co10, u201001] 31 (0, 0))) := ⟨(by rw [hw]; exact (by (with_reducible repeat (first | refine blk_drewN ?_ _ | refine blk_drew ?_ | refine blk_alloc ?_ _)); refine blk_far ?_ NB200_202.out _; (with_reducible repeat (first | refine blk_drewN ?_ _ | refine blk_drew ?_ | refine blk_alloc ?_ _)); exact BK200.out))⟩; have n7_ : Aside0 (w40.heap[gb202]? = some (.cells #[.int .i64 ((rd_T39 l0_1 x4_1).f0), .slice Ao32 y206.length co32, .bool ((rd_T39 l0_1 x4_1).f2), .slice Ao38 y212.length co38] 39 (0, 0))) := ⟨(by rw [hw]; exact (by (with_reducible repeat (first | refine blk_drewN ?_ _ | refine blk_drew ?_ | refine blk_alloc ?_ _)); refine blk_put (cs := #[.int .i64 ((rd_T39 l0_1 x4_1).f0), .slice Ao32 y206.length co32, .bool ((rd_T39 l0_1 x4_1).f2), .slice A201_3 ((rd_T39 l0_1 x4_1).f3).length c201_3]) ?_ 3 _ rfl; (with_reducible repeat (first | refine blk_drewN ?_ _ | refine blk_drew ?_ | refine blk_alloc ?_ _)); exact BK202.out))⟩; have n8_ : Aside0 (Below w.heap.size w w40) := ⟨(by rw [hw]; exact (hb_ HB.out))⟩; clear hw; clear HO_201000; clear HO_201001; clear HO208; clear HO214; clear BK192; clear BK193; clear BK200; clear BK202; clear HB; have HO_201000 := n0_; have HO_201001 := n1_; have HO208 := n2_; have HO214 := n3_; have BK192 := n4_; have BK193 := n5_; have BK200 := n6_; have BK202 := n7_; have HB := n8_; clear n0_ n1_ n2_ n3_ n4_ n5_ n6_ n7_ n8_; have hnb41 := NB200_193.out; have hnc41 := NB193_200.out; have hcz42_0 : w40.cell? ⟨gb200, 0, none⟩ = some (.slice Ao10 y197.length co10) := (blk_cell BK200.out 0).trans rfl; have hcz42_1 : w40.cell? ⟨gb200, 1, none⟩ = some (u201001) := (blk_cell BK200.out 1).trans rfl; have hfz42_0 := blk_frozen BK200.out 0; have hfz42_1 := blk_frozen BK200.out 1; have hcz43_0 : w40.cell? ⟨gb202, 0, none⟩ = some (.int .i64 ((rd_T39 l0_1 x4_1).f0)) := (blk_cell BK202.out 0).trans rfl; have hcz43_1 : w40.cell? ⟨gb202, 1, none⟩ = some (.slice Ao32 y206.length co32) := (blk_cell BK202.out 1).trans rfl; have hcz43_2 : w40.cell? ⟨gb202, 2, none⟩ = some (.bool ((rd_T39 l0_1 x4_1).f2)) := (blk_cell BK202.out 2).trans rfl; have hcz43_3 : w40.cell? ⟨gb202, 3, none⟩ = some (.slice Ao38 y212.length co38) := (blk_cell BK202.out 3).trans rfl; have hfz43_0 := blk_frozen BK202.out 0; have hfz43_1 := blk_frozen BK202.out 1; have hfz43_2 := blk_frozen BK202.out 2; have hfz43_3 := blk_frozen BK202.out 3) | ((with_reducible refine gate_builtin (b := .append) (xs := #[.tmp 34, .tmp 36]) rfl ?_); at_builtin; refine Kd.S_append k39 (w0 := w) w.heap.size rfl (.tmp 34) (.tmp 36) 29 39 (.agg #[(.int .i64 0), (.slice none 0 0), (.bool false), (.slice none 0 0)]) 64 rfl Try.underlying29 info39 rfl (by decide) (by omega) u201001 x201001_1 (⟨(rd_T39 l0_1 x4_1).f0, y206, (rd_T39 l0_1 x4_1).f2, y212⟩ : S39) [.int .i64 ((rd_T39 l0_1 x4_1).f0), .slice Ao32 y206.length co32, .bool ((rd_T39 l0_1 x4_1).f2), .slice Ao38 y212.length co38] (fun k_ => some k_ ≠ (.slice Ao10 y197.length co10 : Value).ownBlock ∧ k_ ≠ gb202) (fun k_ => some k_ = (.slice Ao32 y206.length co32 : Value).ownBlock ∨ some k_ = (.slice Ao38 y212.length co38 : Value).ownBlock) rfl rfl ?aP (fun k_ hk_ => hk_.elim (fun h_ => ((Kd.R_mono (ok' := fun k_ => ((fun k_ => some k_ ≠ (.slice Ao10 y197.length co10 : Value).ownBlock ∧ k_ ≠ gb202)) k_ ∧ some k_ ≠ (u201001 : Value).ownBlock) (Kd.R_types (Kd.R_apart' (HO208.out) (Kd.S_typed HO_201001.out) (by decide)) BK202.out (by decide)) (fun k_ hk => ⟨⟨hk.1.1, hk.2⟩, hk.1.2⟩))).1 k_ h_.symm) (fun h_ => ((Kd.R_mono (ok' := fun k_ => ((fun k_ => some k_ ≠ (.slice Ao10 y197.length co10 : Value).ownBlock ∧ k_ ≠ gb202)) k_ ∧ some k_ ≠ (u201001 : Value).ownBlock) (Kd.R_types (Kd.R_apart' (Kd.R_apart' (HO214.out) (Kd.R_typed HO_201000.out) (by decide)) (Kd.S_typed HO_201001.out) (by decide)) BK202.out (by decide)) (fun k_ hk => ⟨⟨hk.1.1.2, hk.2⟩, hk.1.2⟩))).1 k_ h_.symm)) ?aF ?aO ?aB ?aS ?aL ?_; (case aP => exact k39_mkM _ _ _ (⟨(rd_T39 l0_1 x4_1).f0, y206, (rd_T39 l0_1 x4_1).f2, y212⟩ : S39) (Kd.R_mono (Kd.R_tight rfl (Kd.R_mono (ok' := fun k_ => ((fun k_ => some k_ ≠ (.slice Ao10 y197.length co10 : Value).ownBlock ∧ k_ ≠ gb202)) k_ ∧ some k_ ≠ (u201001 : Value).ownBlock) (Kd.R_types (Kd.R_apart' (HO208.out) (Kd.S_typed HO_201001.out) (by decide)) BK202.out (by decide)) (fun k_ hk => ⟨⟨hk.1.1, hk.2⟩, hk.1.2⟩))) (fun _ h_ => Or.inl h_)) (Kd.R_mono (Kd.R_tight rfl (Kd.R_mono (ok' := fun k_ => ((fun k_ => some k_ ≠ (.slice Ao10 y197.length co10 : Value).ownBlock ∧ k_ ≠ gb202)) k_ ∧ some k_ ≠ (u201001 : Value).ownBlock) (Kd.R_types (Kd.R_apart' (Kd.R_apart' (HO214.out) (Kd.R_typed HO_201000.out) (by decide)) (Kd.S_typed HO_201001.out) (by decide)) BK202.out (by decide)) (fun k_ hk => ⟨⟨hk.1.1.2, hk.2⟩, hk.1.2⟩))) (fun _ h_ => Or.inr (h_)))); (case aB => exact (hb_ HB.out)); (case aF => exact (fun k_ hk => ⟨Kd.fresh' (Kd.R_lt (rd_ HO_201000.out)) k_ hk, Kd.freshB (g := gb202) (o := .cells #[.int .i64 ((rd_T39 l0_1 x4_1).f0), .slice Ao32 y206.length co32, .bool ((rd_T39 l0_1 x4_1).f2), .slice Ao38 y212.length co38] 39 (0, 0)) (bd_ BK202.out) k_ hk⟩)); (case aO => exact (by (with_reducible repeat (first | apply Kd.S_alloc | apply Kd.S_drewN | apply Kd.S_drew)); exact Kd.S_mono HO_201001.out (fun k_ hk => ⟨⟨hk.1, hk.2.2.2⟩, fun e_ => e_.elim (fun h_ => hk.2.1 h_) (fun h_ => hk.2.2.1 h_)⟩))); (case aS => exact (below_size (hb_ HB.out))); (case aL => have := LMc19.out; omega); intro v216 w44 ho hb hg hat; rw [← Ny215.out] at ho; have n0_ := Aside0.mk (Kd.R_over' (rd_ HO_201000.out) (Kd.S_typed (sd_ HO_201001.out)) (by decide) hg); have n1_ := Aside0.mk (blk_grown (g := gb192) (o := .cells #[.slice A0_0 l0_0.length c0_0, .slice (some ad201) l0_1.length c0_1] 31 (0, 0)) (bd_ BK192.out) hg (Kd.S_ne HO_201001.out BK192.out (by decide))); have n2_ := Aside0.mk (blk_grown (g := gb193) (o := .cells #[.slice none 0 0, .slice none 0 0] 31 (0, 0)) (bd_ BK193.out) hg (Kd.S_ne HO_201001.out BK193.out (by decide))); have n3_ := Aside0.mk (blk_grown (g := gb200) (o := .cells #[.slice Ao10 y197.length co10, u201001] 31 (0, 0)) (bd_ BK200.out) hg (Kd.S_ne HO_201001.out BK200.out (by decide))); have n4_ := Aside0.mk (blk_grown (g := gb202) (o := .cells #[.int .i64 ((rd_T39 l0_1 x4_1).f0), .slice Ao32 y206.length co32, .bool ((rd_T39 l0_1 x4_1).f2), .slice Ao38 y212.length co38] 39 (0, 0)) (bd_ BK202.out) hg (Kd.S_away HO_201001.out (fun _ hk => hk.2.2.2))); have n5_ := Aside0.mk (hb); have n6_ := Aside0.mk (ho); clear HO_201000; clear BK192; clear BK193; clear BK200; clear BK202; clear HB; clear HO_201001; clear HO208; clear HO214; have HO_201000 := n0_; have BK192 := n1_; have BK193 := n2_; have BK200 := n3_; have BK202 := n4_; have HB := n5_; have HO217 := n6_; clear n0_ n1_ n2_ n3_ n4_ n5_ n6_; clear ho hb hg hat; obtain ⟨Ao45, co45, eo45⟩ := Kd.S_slice HO217.out; subst eo45; have hcz46_0 : w44.cell? ⟨gb200, 0, none⟩ = some (.slice Ao10 y197.length co10) := (blk_cell BK200.out 0).trans rfl; have hcz46_1 : w44.cell? ⟨gb200, 1, none⟩ = some (u201001) := (blk_cell BK200.out 1).trans rfl; have hfz46_0 := blk_frozen BK200.out 0; have hfz46_1 := blk_frozen BK200.out 1))
 go_roundg k1
 case measure => have := HK1.out; omega
 case rel => exact ⟨(wrap64 (x4_1 + 1)), (y215), (.slice Ao45 y215.length co45), rf_, H', ⟨by have := HK1.out; omega⟩, ⟨by (with_reducible repeat (first | apply Kd.R_alloc | apply Kd.R_drewN | apply Kd.R_drew)); exact Kd.R_mono (Kd.R_far (p := ⟨gb200, 1, none⟩) (Kd.R_types HO_201000.out BK200.out (by decide)) (fun _ hk => hk.2) (.slice Ao45 y215.length co45)) (fun _ hk => trivial)⟩, ⟨by (with_reducible repeat (first | apply Kd.S_alloc | apply Kd.S_drewN | apply Kd.S_drew)); exact Kd.S_mono (Kd.S_far (p := ⟨gb200, 1, none⟩) (Kd.S_types HO217.out BK200.out (by decide)) (fun _ hk => hk.2) (.slice Ao45 y215.length co45)) (fun _ hk => hk.1.1)⟩, ⟨by (with_reducible repeat (first | refine blk_drewN ?_ _ | refine blk_drew ?_ | refine blk_alloc ?_ _)); refine blk_far ?_ NB192_200.out _; (with_reducible repeat (first | refine blk_drewN ?_ _ | refine blk_drew ?_ | refine blk_alloc ?_ _)); exact BK192.out⟩, ⟨by (with_reducible repeat (first | refine blk_drewN ?_ _ | refine blk_drew ?_ | refine blk_alloc ?_ _)); refine blk_far ?_ NB193_200.out _; (with_reducible repeat (first | refine blk_drewN ?_ _ | refine blk_drew ?_ | refine blk_alloc ?_ _)); exact BK193.out⟩, ⟨by (with_reducible repeat (first | refine blk_drewN ?_ _ | refine blk_drew ?_ | refine blk_alloc ?_ _)); refine blk_put (cs := #[.slice Ao10 y197.length co10, u201001]) ?_ 1 _ rfl; (with_reducible repeat (first | refine blk_drewN ?_ _ | refine blk_drew ?_ | refine blk_alloc ?_ _)); exact BK200.out⟩, ⟨hb_ HB.out⟩⟩
end Go.Proofs.Yteobpfgncohloaa.Print
