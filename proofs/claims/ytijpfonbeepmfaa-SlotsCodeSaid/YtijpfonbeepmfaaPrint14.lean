-- Written by ownprint.py (this session's) with the kit's print.py: functions, contracts, rows; Lean checks it.
import Derived.Test.YtijpfonbeepmfaaPrint0
import Derived.Test.YtijpfonbeepmfaaPrint9
import Derived.Test.YtijpfonbeepmfaaHSq
namespace Go.Proofs.Ytijpfonbeepmfaa.Print
open Go.RowKit Go.Proofs.YtijpfonbeepmfaaW.PrintWords Go.Proofs.YtijpfonbeepmfaaW.PrintLast Go.Proofs.YtijpfonbeepmfaaW.PrintMore
attribute [local go_sem] max2_int min2_int max_two min_two max_three min_three max_four min_four   -- for this text's walks alone
set_option linter.unusedVariables false
set_option linter.unusedSimpArgs false
def fencepostref03_Asked.f (k : Nat) (a0_0 : Int) (a0_1 : ByteArray) (a0_2 : Int) : Option (Bool) := if a0_0 = (-1) then ((fencepostref02_Name.f k a0_1).bind fun t195 => (some t195)) else (if a0_0 ≥ 0 then (if a0_0 < 3 then ((fencepostref02_Reg.f k a0_1).bind fun t196 => (some (decide (t196 ≥ 0)))) else (some false)) else (some false))
set_option maxHeartbeats 8000000 in
set_option maxRecDepth 100000 in
theorem fencepostref03_Asked.calls (k : Nat) (a0_0 : Int) (a0_1 : ByteArray) (a0_2 : Int) (r : Bool) (w : World) (h : fencepostref03_Asked.f k a0_0 a0_1 a0_2 = some r) :
 Calls Try.prog 55 #[.agg #[.int .i64 a0_0, .string a0_1, .int .i64 a0_2]] w fun e w' => e = .returned (.bool r) ∧ Below w.heap.size w w' := by
 have hu64 := Try.underlying64
 have HB := Aside0.mk (Below.refl w.heap.size w)
 have H : (if a0_0 = (-1) then ((fencepostref02_Name.f k a0_1).bind fun t195 => (some t195)) else (if a0_0 ≥ 0 then (if a0_0 < 3 then ((fencepostref02_Reg.f k a0_1).bind fun t196 => (some (decide (t196 ≥ 0)))) else (some false)) else (some false))) = some r := h
 clear h
 by_cases c2 : a0_0 = (-1)
 ·rw [if_pos c2] at H
  have c2b0 : (a0_0 == (-1)) = true := beq_iff_eq.mpr c2
  have c2b1 : (a0_0 != (-1)) = false := bne_eq_false_iff_eq.mpr c2
  clear c2
  replace H := Option.bind_eq_some_iff.mp H
  obtain ⟨t195, A30, H⟩ := H
  replace H : (some t195) = some r := H
  have A3 := Aside0.mk A30
  clear A30
  obtain rfl := Option.some.inj H
  go_enter Try.func55, Try.ntmps55
  go_wp2_with (first | ((with_reducible refine gate_dst (N := 1) rfl ?_); refine box_event ?hg (N := 1) ?hd (cs := #[.int .i64 a0_0, .string a0_1, .int .i64 a0_2]) (t := 64) ?hr ?_; (case hd => rfl); (case hg => rfl); (case hr => first | (go_simp; done) | (go_simp; rfl)); intro gb194 hg w4 hbox hb; have n0_ := Aside0.mk (below_step (hb_ HB.out) hb); have n1_ := Aside0.mk (hbox); have n2_ := Aside0.mk (gs_ hg (hb_ HB.out)); have n3_ := Aside0.mk (gs_ hg (hb_ HB.out)); clear HB; have HB := n0_; have BK194 := n1_; have GW194 := n2_; have GE194 := n3_; clear n0_ n1_ n2_ n3_; clear hb hbox hg; have hcz5_0 : w4.cell? ⟨gb194, 0, none⟩ = some (.int .i64 a0_0) := (blk_cell BK194.out 0).trans rfl; have hcz5_1 : w4.cell? ⟨gb194, 1, none⟩ = some (.string a0_1) := (blk_cell BK194.out 1).trans rfl; have hcz5_2 : w4.cell? ⟨gb194, 2, none⟩ = some (.int .i64 a0_2) := (blk_cell BK194.out 2).trans rfl; have hfz5_0 := blk_frozen BK194.out 0; have hfz5_1 := blk_frozen BK194.out 1; have hfz5_2 := blk_frozen BK194.out 2) | ((with_reducible refine gate_callee (f := 60) rfl ?_); refine goesL_ (some 8) rfl rfl Try.func60 (by kernel_rfl) rfl #[.string a0_1] rfl ar_ ?_; (with_reducible refine (fencepostref02_Name.calls k a0_1 t195 _ A3.out).mono ?_); rintro e w6 ⟨rfl, hb⟩; refine ⟨_, rfl, ?_⟩; have n0_ := Aside0.mk (bb_ BK194.out hb); have n1_ := Aside0.mk (below_step (hb_ HB.out) hb); clear BK194; clear HB; have BK194 := n0_; have HB := n1_; clear n0_ n1_; (try clear hb); (try clear hb2); (try clear hk); (try clear hi)))
  go_ret
  exact ⟨by first | rfl | (simp [errW_none, errW_some] <;> rfl) | (simp [*, errW_none, errW_some] <;> rfl), hb_ HB.out⟩
 rw [if_neg c2] at H
 have c2b0 : (a0_0 == (-1)) = false := beq_eq_false_iff_ne.mpr c2
 have c2b1 : (a0_0 != (-1)) = true := bne_iff_ne.mpr c2
 by_cases c7 : a0_0 ≥ 0
 rotate_left
 ·rw [if_neg c7] at H
  have c7b0 : decide (0 ≤ a0_0) = false := decide_eq_false c7
  clear c7
  obtain rfl := Option.some.inj H
  go_enter Try.func55, Try.ntmps55
  go_wp2_with (first | ((with_reducible refine gate_dst (N := 1) rfl ?_); refine box_event ?hg (N := 1) ?hd (cs := #[.int .i64 a0_0, .string a0_1, .int .i64 a0_2]) (t := 64) ?hr ?_; (case hd => rfl); (case hg => rfl); (case hr => first | (go_simp; done) | (go_simp; rfl)); intro gb194 hg w15 hbox hb; have n0_ := Aside0.mk (below_step (hb_ HB.out) hb); have n1_ := Aside0.mk (hbox); have n2_ := Aside0.mk (gs_ hg (hb_ HB.out)); have n3_ := Aside0.mk (gs_ hg (hb_ HB.out)); clear HB; have HB := n0_; have BK194 := n1_; have GW194 := n2_; have GE194 := n3_; clear n0_ n1_ n2_ n3_; clear hb hbox hg; have hcz16_0 : w15.cell? ⟨gb194, 0, none⟩ = some (.int .i64 a0_0) := (blk_cell BK194.out 0).trans rfl; have hcz16_1 : w15.cell? ⟨gb194, 1, none⟩ = some (.string a0_1) := (blk_cell BK194.out 1).trans rfl; have hcz16_2 : w15.cell? ⟨gb194, 2, none⟩ = some (.int .i64 a0_2) := (blk_cell BK194.out 2).trans rfl; have hfz16_0 := blk_frozen BK194.out 0; have hfz16_1 := blk_frozen BK194.out 1; have hfz16_2 := blk_frozen BK194.out 2))
  go_ret
  exact ⟨by first | rfl | (simp [errW_none, errW_some] <;> rfl) | (simp [*, errW_none, errW_some] <;> rfl), hb_ HB.out⟩
 rw [if_pos c7] at H
 have c7b0 : decide (0 ≤ a0_0) = true := decide_eq_true c7
 clear c7
 by_cases c8 : a0_0 < 3
 rotate_left
 ·rw [if_neg c8] at H
  have c8b0 : decide (a0_0 < 3) = false := decide_eq_false c8
  clear c8
  obtain rfl := Option.some.inj H
  go_enter Try.func55, Try.ntmps55
  go_wp2_with (first | ((with_reducible refine gate_dst (N := 1) rfl ?_); refine box_event ?hg (N := 1) ?hd (cs := #[.int .i64 a0_0, .string a0_1, .int .i64 a0_2]) (t := 64) ?hr ?_; (case hd => rfl); (case hg => rfl); (case hr => first | (go_simp; done) | (go_simp; rfl)); intro gb194 hg w13 hbox hb; have n0_ := Aside0.mk (below_step (hb_ HB.out) hb); have n1_ := Aside0.mk (hbox); have n2_ := Aside0.mk (gs_ hg (hb_ HB.out)); have n3_ := Aside0.mk (gs_ hg (hb_ HB.out)); clear HB; have HB := n0_; have BK194 := n1_; have GW194 := n2_; have GE194 := n3_; clear n0_ n1_ n2_ n3_; clear hb hbox hg; have hcz14_0 : w13.cell? ⟨gb194, 0, none⟩ = some (.int .i64 a0_0) := (blk_cell BK194.out 0).trans rfl; have hcz14_1 : w13.cell? ⟨gb194, 1, none⟩ = some (.string a0_1) := (blk_cell BK194.out 1).trans rfl; have hcz14_2 : w13.cell? ⟨gb194, 2, none⟩ = some (.int .i64 a0_2) := (blk_cell BK194.out 2).trans rfl; have hfz14_0 := blk_frozen BK194.out 0; have hfz14_1 := blk_frozen BK194.out 1; have hfz14_2 := blk_frozen BK194.out 2))
  go_ret
  exact ⟨by first | rfl | (simp [errW_none, errW_some] <;> rfl) | (simp [*, errW_none, errW_some] <;> rfl), hb_ HB.out⟩
 rw [if_pos c8] at H
 have c8b0 : decide (a0_0 < 3) = true := decide_eq_true c8
 clear c8
 replace H := Option.bind_eq_some_iff.mp H
 obtain ⟨t196, A90, H⟩ := H
 replace H : (some (decide (t196 ≥ 0))) = some r := H
 have A9 := Aside0.mk A90
 clear A90
 obtain rfl := Option.some.inj H
 go_enter Try.func55, Try.ntmps55
 go_wp2_with (first | ((with_reducible refine gate_dst (N := 1) rfl ?_); refine box_event ?hg (N := 1) ?hd (cs := #[.int .i64 a0_0, .string a0_1, .int .i64 a0_2]) (t := 64) ?hr ?_; (case hd => rfl); (case hg => rfl); (case hr => first | (go_simp; done) | (go_simp; rfl)); intro gb194 hg w10 hbox hb; have n0_ := Aside0.mk (below_step (hb_ HB.out) hb); have n1_ := Aside0.mk (hbox); have n2_ := Aside0.mk (gs_ hg (hb_ HB.out)); have n3_ := Aside0.mk (gs_ hg (hb_ HB.out)); clear HB; have HB := n0_; have BK194 := n1_; have GW194 := n2_; have GE194 := n3_; clear n0_ n1_ n2_ n3_; clear hb hbox hg; have hcz11_0 : w10.cell? ⟨gb194, 0, none⟩ = some (.int .i64 a0_0) := (blk_cell BK194.out 0).trans rfl; have hcz11_1 : w10.cell? ⟨gb194, 1, none⟩ = some (.string a0_1) := (blk_cell BK194.out 1).trans rfl; have hcz11_2 : w10.cell? ⟨gb194, 2, none⟩ = some (.int .i64 a0_2) := (blk_cell BK194.out 2).trans rfl; have hfz11_0 := blk_frozen BK194.out 0; have hfz11_1 := blk_frozen BK194.out 1; have hfz11_2 := blk_frozen BK194.out 2) | (go_at_call 57; (with_reducible refine (fencepostref02_Reg.calls k a0_1 t196 _ A9.out).mono ?_); rintro e w12 ⟨rfl, hb⟩; have n0_ := Aside0.mk (bb_ BK194.out hb); have n1_ := Aside0.mk (below_step (hb_ HB.out) hb); clear BK194; clear HB; have BK194 := n0_; have HB := n1_; clear n0_ n1_; (try clear hb); (try clear hb2); (try clear hk); (try clear hi)))
 go_ret
 exact ⟨by first | rfl | (simp [errW_none, errW_some] <;> rfl) | (simp [*, errW_none, errW_some] <;> rfl), hb_ HB.out⟩
mutual
def fencepostref04_put.l0 : Nat → List ByteArray → ByteArray → List ByteArray → Bool → Int → Option (List ByteArray)
 | 0, _, _, _, _, _ => none
 | k + 1, x0, x1, x5, x6, x7 => if x7 < (x0.length : Int) then (if x6 = true then (fencepostref04_put.j1 k x0 x1 x5 x6 x7 false) else (if 0 ≤ x7 then (fencepostref04_put.j1 k x0 x1 x5 x6 x7 (!(Op.bytesLess ((rdOf ByteArray.empty x0 x7).toList) x1.toList))) else (none))) else (if x6 = true then (some x5) else (if x5.length < 8796093022208 then (some (x5 ++ [x1])) else (none)))
def fencepostref04_put.j1 : Nat → List ByteArray → ByteArray → List ByteArray → Bool → Int → Bool → Option (List ByteArray)
 | 0, _, _, _, _, _, _ => none
 | k + 1, x0, x1, x5, x6, x7, x25 => if x25 = true then (if 0 ≤ x7 then (if x7 < (x0.length : Int) then (if x1.toList = (rdOf ByteArray.empty x0 x7).toList then (if x5.length < 8796093022208 then (fencepostref04_put.l0 k x0 x1 (x5 ++ [rdOf ByteArray.empty x0 x7]) true (wrap64 (x7 + 1))) else (none)) else (if x5.length < 8796093022208 then ((some (x5 ++ [x1] : List ByteArray)).bind fun y206 => (if y206.length < 8796093022208 then (fencepostref04_put.l0 k x0 x1 (y206 ++ [rdOf ByteArray.empty x0 x7]) true (wrap64 (x7 + 1))) else (none))) else (none))) else (none)) else (none)) else (if 0 ≤ x7 then (if x7 < (x0.length : Int) then (if x5.length < 8796093022208 then (fencepostref04_put.l0 k x0 x1 (x5 ++ [rdOf ByteArray.empty x0 x7]) x6 (wrap64 (x7 + 1))) else (none)) else (none)) else (none))
end
def fencepostref04_put.f (k : Nat) (l0 : List ByteArray) (a1 : ByteArray) : Option (List ByteArray) := fencepostref04_put.l0 k l0 a1 ([] : List ByteArray) (a1.toList == ([] : List UInt8)) 0
set_option maxHeartbeats 8000000 in
set_option maxRecDepth 100000 in
theorem fencepostref04_put.calls (k : Nat) (A0 : Option Addr) (c0 : Nat) (l0 : List ByteArray) (a1 : ByteArray) (r : List ByteArray) (w : World) (hr0 : Kd.C Kd.string w A0 l0.length l0) (hc0 : l0.length ≤ c0) (h : fencepostref04_put.f k l0 a1 = some r) :
 Calls Try.prog 64 #[.slice A0 l0.length c0, .string a1] w fun e w' => ∃ v0_ : Value, e = .returned (v0_) ∧ Kd.R Kd.string 9 w' w.heap.size (fun _ => True) v0_ r ∧ Below w.heap.size w w' := by
 have HR0 := Aside0.mk hr0
 have HC0 := Aside0.mk hc0
 clear hr0 hc0
 have HB := Aside0.mk (Below.refl w.heap.size w)
 have H : (fencepostref04_put.l0 k l0 a1 ([] : List ByteArray) (a1.toList == ([] : List UInt8)) 0) = some r := h
 clear h
 have H' := Aside0.mk H
 clear H
 go_enter Try.func64, Try.ntmps64
 go_wp2
 go_loopg [5, 6, 7] k (fun kq v5 v6 v7 w' => ∃ (x5_1 : List ByteArray) (x6_1 : Bool) (x7_1 : Int), v6 = .bool x6_1 ∧ v7 = .int .i64 x7_1 ∧ Aside0 (fencepostref04_put.l0 kq l0 a1 x5_1 x6_1 x7_1 = some r) ∧ Aside0 (kq ≤ k) ∧ Aside0 (Kd.R Kd.string 9 w' w.heap.size (fun _ => True) v5 x5_1) ∧ Aside0 (Below w.heap.size w w'))
 case atStart => exact ⟨(([] : List ByteArray)), ((a1.toList == ([] : List UInt8))), (0), rf_, rf_, H', ⟨Nat.le_refl _⟩, ⟨by first | exact Kd.R_nil _ _ _ _ _ | exact Kd.N_nil _ _ _ _ _ | exact Kd.V_nil _ _ _ _ _ | exact Kd.Q_nil _ _ _ _ _ | exact Kd.S_nil _ _ _ _ _⟩, ⟨hb_ HB.out⟩⟩
 clear H'
 obtain ⟨x5_1, x6_1, x7_1, rfl, rfl, HA, HK1, HO_5, HB⟩ := hrel
 cases gk with
 | zero => exact absurd HA.out (by simp [fencepostref04_put.l0])
 | succ k1 => ?_
 have H := HA.out
 clear HA
 simp only [fencepostref04_put.l0] at H
 by_cases c3 : x7_1 < (l0.length : Int)
 rotate_left
 ·rw [if_neg c3] at H
  have c3b0 : decide (x7_1 < (l0.length : Int)) = false := decide_eq_false c3
  clear c3
  by_cases c21 : x6_1 = true
  ·subst c21
   have H1 : (some x5_1) = some r := by rw [if_pos rfl] at H; exact H
   clear H
   have H := H1
   clear H1
   obtain rfl := Option.some.inj H
   go_wp2
   go_ret
   exact ⟨_, by first | rfl | (simp [errW_none, errW_some] <;> rfl) | (simp [*, errW_none, errW_some] <;> rfl), rd_ HO_5.out, hb_ HB.out⟩
  replace c21 := Bool.eq_false_iff.mpr c21
  subst c21
  have H1 : (if x5_1.length < 8796093022208 then (some (x5_1 ++ [a1])) else (none)) = some r := by rw [if_neg (show ¬ (false = true) by decide)] at H; exact H
  clear H
  have H := H1
  clear H1
  by_cases c22 : x5_1.length < 8796093022208
  rotate_left
  ·rw [if_neg c22] at H
   exact absurd H (by simp)
  rw [if_pos c22] at H
  have LMc22 := Aside0.mk c22
  clear c22
  obtain ⟨y197, hy197⟩ : ∃ y_ : List ByteArray, y_ = (x5_1 ++ [a1]) := ⟨_, rfl⟩
  replace H : (some y197) = some r := by first | (rw [hy197]; with_reducible exact H) | (have H2_ := (Option.bind_some _ _).symm.trans H; rw [hy197]; with_reducible exact H2_) | (have H2_ := (Option.bind_some _ _).symm.trans H; with_reducible exact H2_) | with_reducible exact H | (rw [hy197]; exact H) | exact H
  have Ny197 := Aside0.mk hy197
  clear hy197
  obtain rfl := Option.some.inj H
  go_wp2_with (first | ((with_reducible refine gate_builtin (b := .append) (xs := #[.tmp 45, .tmp 47]) rfl ?_); at_builtin; refine Kd.R_append Kd.string (w0 := w) w.heap.size rfl (.tmp 45) (.tmp 47) 81 9 (.string ⟨#[]⟩) 16 rfl Try.underlying81 info9 rfl (by decide) (by omega) u5 x5_1 a1 [.string a1] (fun _ => True) (fun _ => False) rfl rfl ?aP (fun _ hk => hk.elim) ?aF ?aO ?aB ?aS ?aL ?_; (case aP => exact rfl); (case aB => exact (hb_ HB.out)); (case aF => exact (fun _ _ => trivial)); (case aO => exact (rd_ HO_5.out)); (case aS => exact (below_size (hb_ HB.out))); (case aL => have := LMc22.out; omega); intro v198 w23 ho hb hg hat; rw [← Ny197.out] at ho; have n0_ := Aside0.mk (hb); have n1_ := Aside0.mk (ho); clear HB; clear HO_5; have HB := n0_; have HO199 := n1_; clear n0_ n1_; clear ho hb hg hat))
  go_ret
  exact ⟨_, by first | rfl | (simp [errW_none, errW_some] <;> rfl) | (simp [*, errW_none, errW_some] <;> rfl), rd_ HO199.out, hb_ HB.out⟩
 rw [if_pos c3] at H
 have c3b0 : decide (x7_1 < (l0.length : Int)) = true := decide_eq_true c3
 clear c3
 have HC4 := Aside0.mk H
 clear H
 go_upto_region 6 with (fail)
 go_cut [25] (fun v25 wc => ∃ (kq : Nat) (x25_3 : Bool), v25 = .bool x25_3 ∧ Aside0 (fencepostref04_put.j1 kq l0 a1 x5_1 x6_1 x7_1 x25_3 = some r) ∧ Aside0 (kq ≤ k1) ∧ Aside0 (Kd.R Kd.string 9 wc w.heap.size (fun _ => True) u5 x5_1) ∧ Aside0 (Below w.heap.size w wc))
 case first =>
  have H := HC4.out
  clear HC4
  by_cases c5 : x6_1 = true
  ·subst c5
   have H1 : (fencepostref04_put.j1 k1 l0 a1 x5_1 true x7_1 false) = some r := by rw [if_pos rfl] at H; exact H
   clear H
   have H := H1
   clear H1
   have H' := Aside0.mk H
   clear H
   go_wp2
   go_meet
   case rel => exact ⟨_, (false), rf_, H', ⟨by have := HK1.out; first | omega | exact Nat.le_refl _⟩, ⟨rd_ HO_5.out⟩, ⟨hb_ HB.out⟩⟩
  replace c5 := Bool.eq_false_iff.mpr c5
  subst c5
  have H1 : (if 0 ≤ x7_1 then (fencepostref04_put.j1 k1 l0 a1 x5_1 false x7_1 (!(Op.bytesLess ((rdOf ByteArray.empty l0 x7_1).toList) a1.toList))) else (none)) = some r := by rw [if_neg (show ¬ (false = true) by decide)] at H; exact H
  clear H
  have H := H1
  clear H1
  by_cases c6 : 0 ≤ x7_1
  rotate_left
  ·rw [if_neg c6] at H
   exact absurd H (by simp)
  rw [if_pos c6] at H
  have c6b0 : decide (0 ≤ x7_1) = true := decide_eq_true c6
  clear c6
  (first | rw [c6b0] | (simp only [i64_w, i32_w]; rw [c6b0]) | skip)
  have H' := Aside0.mk H
  clear H
  have p200 : 0 ≤ (x7_1 : Int) := of_decide_eq_true as_
  have q200 : x7_1 < (l0.length : Int) := of_decide_eq_true as_
  obtain ⟨ad200, e200, hx200_0⟩ := Kd.at_string HR0.out x7_1 p200 q200
  cases e200
  replace hx200_0 := cl_ HB.out hx200_0
  replace p200 := eq_true p200
  replace q200 := eq_true q200
  go_wp2
  go_meet
  case rel => exact ⟨_, (!(Op.bytesLess ((rdOf ByteArray.empty l0 x7_1).toList) a1.toList)), rf_, H', ⟨by have := HK1.out; first | omega | exact Nat.le_refl _⟩, ⟨rd_ HO_5.out⟩, ⟨hb_ HB.out⟩⟩
 clear HC4
 try clear c3
 try clear c3b0
 obtain ⟨kq, x25_3, rfl, HA, HJ3, HO_5, HB⟩ := hcut
 cases kq with
 | zero => exact absurd HA.out (by simp [fencepostref04_put.j1])
 | succ kj3 => ?_
 have H := HA.out
 clear HA
 simp only [fencepostref04_put.j1] at H
 by_cases c7 : x25_3 = true
 rotate_left
 ·replace c7 := Bool.eq_false_iff.mpr c7
  subst c7
  have H1 : (if 0 ≤ x7_1 then (if x7_1 < (l0.length : Int) then (if x5_1.length < 8796093022208 then (fencepostref04_put.l0 kj3 l0 a1 (x5_1 ++ [rdOf ByteArray.empty l0 x7_1]) x6_1 (wrap64 (x7_1 + 1))) else (none)) else (none)) else (none)) = some r := by rw [if_neg (show ¬ (false = true) by decide)] at H; exact H
  clear H
  have H := H1
  clear H1
  by_cases c17 : 0 ≤ x7_1
  rotate_left
  ·rw [if_neg c17] at H
   exact absurd H (by simp)
  rw [if_pos c17] at H
  have c17b0 : decide (0 ≤ x7_1) = true := decide_eq_true c17
  clear c17
  by_cases c18 : x7_1 < (l0.length : Int)
  rotate_left
  ·rw [if_neg c18] at H
   exact absurd H (by simp)
  rw [if_pos c18] at H
  have c18b0 : decide (x7_1 < (l0.length : Int)) = true := decide_eq_true c18
  clear c18
  by_cases c19 : x5_1.length < 8796093022208
  rotate_left
  ·rw [if_neg c19] at H
   exact absurd H (by simp)
  rw [if_pos c19] at H
  have LMc19 := Aside0.mk c19
  clear c19
  obtain ⟨y214, hy214⟩ : ∃ y_ : List ByteArray, y_ = (x5_1 ++ [rdOf ByteArray.empty l0 x7_1]) := ⟨_, rfl⟩
  replace H : (fencepostref04_put.l0 kj3 l0 a1 y214 x6_1 (wrap64 (x7_1 + 1))) = some r := by first | (rw [hy214]; with_reducible exact H) | (have H2_ := (Option.bind_some _ _).symm.trans H; rw [hy214]; with_reducible exact H2_) | (have H2_ := (Option.bind_some _ _).symm.trans H; with_reducible exact H2_) | with_reducible exact H | (rw [hy214]; exact H) | exact H
  have Ny214 := Aside0.mk hy214
  clear hy214
  have H' := Aside0.mk H
  clear H
  have p213 : 0 ≤ (x7_1 : Int) := of_decide_eq_true as_
  have q213 : x7_1 < (l0.length : Int) := of_decide_eq_true as_
  obtain ⟨ad213, e213, hx213_0⟩ := Kd.at_string HR0.out x7_1 p213 q213
  cases e213
  replace hx213_0 := cl_ HB.out hx213_0
  replace p213 := eq_true p213
  replace q213 := eq_true q213
  go_wp2_with (first | ((with_reducible refine gate_builtin (b := .append) (xs := #[.tmp 36, .tmp 41]) rfl ?_); at_builtin; refine Kd.R_append Kd.string (w0 := w) w.heap.size rfl (.tmp 36) (.tmp 41) 81 9 (.string ⟨#[]⟩) 16 rfl Try.underlying81 info9 rfl (by decide) (by omega) u5 x5_1 (rdOf ByteArray.empty l0 x7_1) [.string (rdOf ByteArray.empty l0 x7_1)] (fun _ => True) (fun _ => False) rfl rfl ?aP (fun _ hk => hk.elim) ?aF ?aO ?aB ?aS ?aL ?_; (case aP => exact rfl); (case aB => exact (hb_ HB.out)); (case aF => exact (fun _ _ => trivial)); (case aO => exact (rd_ HO_5.out)); (case aS => exact (below_size (hb_ HB.out))); (case aL => have := LMc19.out; omega); intro v215 w20 ho hb hg hat; rw [← Ny214.out] at ho; have n0_ := Aside0.mk (hb); have n1_ := Aside0.mk (ho); clear HB; clear HO_5; have HB := n0_; have HO216 := n1_; clear n0_ n1_; clear ho hb hg hat))
  go_roundg kj3
  case measure => have := HK1.out; have := HJ3.out; omega
  case rel => exact ⟨(y214), (x6_1), (wrap64 (x7_1 + 1)), rf_, rf_, H', ⟨by have := HK1.out; have := HJ3.out; omega⟩, ⟨rd_ HO216.out⟩, ⟨hb_ HB.out⟩⟩
 subst c7
 have H1 : (if 0 ≤ x7_1 then (if x7_1 < (l0.length : Int) then (if a1.toList = (rdOf ByteArray.empty l0 x7_1).toList then (if x5_1.length < 8796093022208 then (fencepostref04_put.l0 kj3 l0 a1 (x5_1 ++ [rdOf ByteArray.empty l0 x7_1]) true (wrap64 (x7_1 + 1))) else (none)) else (if x5_1.length < 8796093022208 then ((some (x5_1 ++ [a1] : List ByteArray)).bind fun y206 => (if y206.length < 8796093022208 then (fencepostref04_put.l0 kj3 l0 a1 (y206 ++ [rdOf ByteArray.empty l0 x7_1]) true (wrap64 (x7_1 + 1))) else (none))) else (none))) else (none)) else (none)) = some r := by rw [if_pos rfl] at H; exact H
 clear H
 have H := H1
 clear H1
 by_cases c8 : 0 ≤ x7_1
 rotate_left
 ·rw [if_neg c8] at H
  exact absurd H (by simp)
 rw [if_pos c8] at H
 have c8b0 : decide (0 ≤ x7_1) = true := decide_eq_true c8
 clear c8
 by_cases c9 : x7_1 < (l0.length : Int)
 rotate_left
 ·rw [if_neg c9] at H
  exact absurd H (by simp)
 rw [if_pos c9] at H
 have c9b0 : decide (x7_1 < (l0.length : Int)) = true := decide_eq_true c9
 clear c9
 by_cases c10 : a1.toList = (rdOf ByteArray.empty l0 x7_1).toList
 ·rw [if_pos c10] at H
  have c10b0 : (a1.toList == (rdOf ByteArray.empty l0 x7_1).toList) = true := beq_iff_eq.mpr c10
  have c10b1 : (a1.toList != (rdOf ByteArray.empty l0 x7_1).toList) = false := bne_eq_false_iff_eq.mpr c10
  clear c10
  by_cases c11 : x5_1.length < 8796093022208
  rotate_left
  ·rw [if_neg c11] at H
   exact absurd H (by simp)
  rw [if_pos c11] at H
  have LMc11 := Aside0.mk c11
  clear c11
  obtain ⟨y203, hy203⟩ : ∃ y_ : List ByteArray, y_ = (x5_1 ++ [rdOf ByteArray.empty l0 x7_1]) := ⟨_, rfl⟩
  replace H : (fencepostref04_put.l0 kj3 l0 a1 y203 true (wrap64 (x7_1 + 1))) = some r := by first | (rw [hy203]; with_reducible exact H) | (have H2_ := (Option.bind_some _ _).symm.trans H; rw [hy203]; with_reducible exact H2_) | (have H2_ := (Option.bind_some _ _).symm.trans H; with_reducible exact H2_) | with_reducible exact H | (rw [hy203]; exact H) | exact H
  have Ny203 := Aside0.mk hy203
  clear hy203
  have H' := Aside0.mk H
  clear H
  have p201 : 0 ≤ (x7_1 : Int) := of_decide_eq_true as_
  have q201 : x7_1 < (l0.length : Int) := of_decide_eq_true as_
  obtain ⟨ad201, e201, hx201_0⟩ := Kd.at_string HR0.out x7_1 p201 q201
  cases e201
  replace hx201_0 := cl_ HB.out hx201_0
  replace p201 := eq_true p201
  replace q201 := eq_true q201
  have p202 : 0 ≤ (x7_1 : Int) := of_decide_eq_true as_
  have q202 : x7_1 < (l0.length : Int) := of_decide_eq_true as_
  obtain ⟨ad202, e202, hx202_0⟩ := Kd.at_string HR0.out x7_1 p202 q202
  obtain rfl : ad201 = ad202 := (by injection e202)
  replace hx202_0 := cl_ HB.out hx202_0
  replace p202 := eq_true p202
  replace q202 := eq_true q202
  go_wp2_with (first | ((with_reducible refine gate_builtin (b := .append) (xs := #[.tmp 36, .tmp 41]) rfl ?_); at_builtin; refine Kd.R_append Kd.string (w0 := w) w.heap.size rfl (.tmp 36) (.tmp 41) 81 9 (.string ⟨#[]⟩) 16 rfl Try.underlying81 info9 rfl (by decide) (by omega) u5 x5_1 (rdOf ByteArray.empty l0 x7_1) [.string (rdOf ByteArray.empty l0 x7_1)] (fun _ => True) (fun _ => False) rfl rfl ?aP (fun _ hk => hk.elim) ?aF ?aO ?aB ?aS ?aL ?_; (case aP => exact rfl); (case aB => exact (hb_ HB.out)); (case aF => exact (fun _ _ => trivial)); (case aO => exact (rd_ HO_5.out)); (case aS => exact (below_size (hb_ HB.out))); (case aL => have := LMc11.out; omega); intro v204 w12 ho hb hg hat; rw [← Ny203.out] at ho; have n0_ := Aside0.mk (hb); have n1_ := Aside0.mk (ho); clear HB; clear HO_5; have HB := n0_; have HO205 := n1_; clear n0_ n1_; clear ho hb hg hat))
  go_roundg kj3
  case measure => have := HK1.out; have := HJ3.out; omega
  case rel => exact ⟨(y203), (true), (wrap64 (x7_1 + 1)), rf_, rf_, H', ⟨by have := HK1.out; have := HJ3.out; omega⟩, ⟨rd_ HO205.out⟩, ⟨hb_ HB.out⟩⟩
 rw [if_neg c10] at H
 have c10b0 : (a1.toList == (rdOf ByteArray.empty l0 x7_1).toList) = false := beq_eq_false_iff_ne.mpr c10
 have c10b1 : (a1.toList != (rdOf ByteArray.empty l0 x7_1).toList) = true := bne_iff_ne.mpr c10
 by_cases c13 : x5_1.length < 8796093022208
 rotate_left
 ·rw [if_neg c13] at H
  exact absurd H (by simp)
 rw [if_pos c13] at H
 have LMc13 := Aside0.mk c13
 clear c13
 obtain ⟨y206, hy206⟩ : ∃ y_ : List ByteArray, y_ = (x5_1 ++ [a1]) := ⟨_, rfl⟩
 replace H : (if y206.length < 8796093022208 then (fencepostref04_put.l0 kj3 l0 a1 (y206 ++ [rdOf ByteArray.empty l0 x7_1]) true (wrap64 (x7_1 + 1))) else (none)) = some r := by first | (rw [hy206]; with_reducible exact H) | (have H2_ := (Option.bind_some _ _).symm.trans H; rw [hy206]; with_reducible exact H2_) | (have H2_ := (Option.bind_some _ _).symm.trans H; with_reducible exact H2_) | with_reducible exact H | (rw [hy206]; exact H) | exact H
 have Ny206 := Aside0.mk hy206
 clear hy206
 by_cases c14 : y206.length < 8796093022208
 rotate_left
 ·rw [if_neg c14] at H
  exact absurd H (by simp)
 rw [if_pos c14] at H
 have LMc14 := Aside0.mk c14
 clear c14
 obtain ⟨y210, hy210⟩ : ∃ y_ : List ByteArray, y_ = (y206 ++ [rdOf ByteArray.empty l0 x7_1]) := ⟨_, rfl⟩
 replace H : (fencepostref04_put.l0 kj3 l0 a1 y210 true (wrap64 (x7_1 + 1))) = some r := by first | (rw [hy210]; with_reducible exact H) | (have H2_ := (Option.bind_some _ _).symm.trans H; rw [hy210]; with_reducible exact H2_) | (have H2_ := (Option.bind_some _ _).symm.trans H; with_reducible exact H2_) | with_reducible exact H | (rw [hy210]; exact H) | exact H
 have Ny210 := Aside0.mk hy210
 clear hy210
 have H' := Aside0.mk H
 clear H
 have p201 : 0 ≤ (x7_1 : Int) := of_decide_eq_true as_
 have q201 : x7_1 < (l0.length : Int) := of_decide_eq_true as_
 obtain ⟨ad201, e201, hx201_0⟩ := Kd.at_string HR0.out x7_1 p201 q201
 cases e201
 replace hx201_0 := cl_ HB.out hx201_0
 replace p201 := eq_true p201
 replace q201 := eq_true q201
 go_wp2_with (first | ((with_reducible refine gate_builtin (b := .append) (xs := #[.tmp 32, .tmp 34]) rfl ?_); at_builtin; refine Kd.R_append Kd.string (w0 := w) w.heap.size rfl (.tmp 32) (.tmp 34) 81 9 (.string ⟨#[]⟩) 16 rfl Try.underlying81 info9 rfl (by decide) (by omega) u5 x5_1 a1 [.string a1] (fun _ => True) (fun _ => False) rfl rfl ?aP (fun _ hk => hk.elim) ?aF ?aO ?aB ?aS ?aL ?_; (case aP => exact rfl); (case aB => exact (hb_ HB.out)); (case aF => exact (fun _ _ => trivial)); (case aO => exact (rd_ HO_5.out)); (case aS => exact (below_size (hb_ HB.out))); (case aL => have := LMc13.out; omega); intro v207 w15 ho hb hg hat; rw [← Ny206.out] at ho; have n0_ := Aside0.mk (hb); have n1_ := Aside0.mk (ho); clear HB; clear HO_5; have HB := n0_; have HO208 := n1_; clear n0_ n1_; clear ho hb hg hat; have p209 : 0 ≤ (x7_1 : Int) := of_decide_eq_true as_; have q209 : x7_1 < (l0.length : Int) := of_decide_eq_true as_; obtain ⟨ad209, e209, hx209_0⟩ := Kd.at_string HR0.out x7_1 p209 q209; obtain rfl : ad201 = ad209 := (by injection e209); replace hx209_0 := cl_ HB.out hx209_0; replace p209 := eq_true p209; replace q209 := eq_true q209) | ((with_reducible refine gate_builtin (b := .append) (xs := #[.tmp 36, .tmp 41]) rfl ?_); at_builtin; refine Kd.R_append Kd.string (w0 := w) w.heap.size rfl (.tmp 36) (.tmp 41) 81 9 (.string ⟨#[]⟩) 16 rfl Try.underlying81 info9 rfl (by decide) (by omega) v207 y206 (rdOf ByteArray.empty l0 x7_1) [.string (rdOf ByteArray.empty l0 x7_1)] (fun _ => True) (fun _ => False) rfl rfl ?aP (fun _ hk => hk.elim) ?aF ?aO ?aB ?aS ?aL ?_; (case aP => exact rfl); (case aB => exact (hb_ HB.out)); (case aF => exact (fun _ _ => trivial)); (case aO => exact (rd_ HO208.out)); (case aS => exact (below_size (hb_ HB.out))); (case aL => have := LMc14.out; omega); intro v211 w16 ho hb hg hat; rw [← Ny210.out] at ho; have n0_ := Aside0.mk (hb); have n1_ := Aside0.mk (ho); clear HB; clear HO208; have HB := n0_; have HO212 := n1_; clear n0_ n1_; clear ho hb hg hat))
 go_roundg kj3
 case measure => have := HK1.out; have := HJ3.out; omega
 case rel => exact ⟨(y210), (true), (wrap64 (x7_1 + 1)), rf_, rf_, H', ⟨by have := HK1.out; have := HJ3.out; omega⟩, ⟨rd_ HO212.out⟩, ⟨hb_ HB.out⟩⟩
end Go.Proofs.Ytijpfonbeepmfaa.Print
