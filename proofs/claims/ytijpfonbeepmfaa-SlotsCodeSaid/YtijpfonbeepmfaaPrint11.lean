-- Written by ownprint.py (this session's) with the kit's print.py: functions, contracts, rows; Lean checks it.
import Derived.Test.YtijpfonbeepmfaaPrint0
import Derived.Test.YtijpfonbeepmfaaPrint9
import Derived.Test.YtijpfonbeepmfaaPrint10
import Derived.Test.YtijpfonbeepmfaaHSq
namespace Go.Proofs.Ytijpfonbeepmfaa.Print
open Go.RowKit Go.Proofs.YtijpfonbeepmfaaW.PrintWords Go.Proofs.YtijpfonbeepmfaaW.PrintLast Go.Proofs.YtijpfonbeepmfaaW.PrintMore
attribute [local go_sem] max2_int min2_int max_two min_two max_three min_three max_four min_four   -- for this text's walks alone
set_option linter.unusedVariables false
set_option linter.unusedSimpArgs false
mutual
def fencepostref03_Right.j0 : Nat → Bool → Bool → Bool → Bool → Bool → Int → ByteArray → ByteArray → ByteArray → Int → Option (Bool)
 | 0, _, _, _, _, _, _, _, _, _, _ => none
 | k + 1, x3, x4, x5, x6, x22, x164000, x164001, x164002, x164003, x164004 => if x22 = true then (some false) else (if x3 = true then ((fencepostref02_Reg.f k x164001).bind fun t168 => (if t168 < 0 then (fencepostref03_Right.j1 k x4 x5 x6 true x164000 x164001 x164002 x164003 x164004) else (fencepostref03_Right.j1 k x4 x5 x6 false x164000 x164001 x164002 x164003 x164004))) else (fencepostref03_Right.j1 k x4 x5 x6 (x164001.toList != ([] : List UInt8)) x164000 x164001 x164002 x164003 x164004))
def fencepostref03_Right.j1 : Nat → Bool → Bool → Bool → Bool → Int → ByteArray → ByteArray → ByteArray → Int → Option (Bool)
 | 0, _, _, _, _, _, _, _, _, _ => none
 | k + 1, x4, x5, x6, x38, x164000, x164001, x164002, x164003, x164004 => if x38 = true then (some false) else (if x4 = true then ((fencepostref02_Name.f k x164002).bind fun t169 => (if t169 = true then (fencepostref03_Right.j2 k x5 x6 false x164000 x164001 x164002 x164003 x164004) else (fencepostref03_Right.j2 k x5 x6 true x164000 x164001 x164002 x164003 x164004))) else (fencepostref03_Right.j2 k x5 x6 (x164002.toList != ([] : List UInt8)) x164000 x164001 x164002 x164003 x164004))
def fencepostref03_Right.j2 : Nat → Bool → Bool → Bool → Int → ByteArray → ByteArray → ByteArray → Int → Option (Bool)
 | 0, _, _, _, _, _, _, _, _ => none
 | k + 1, x5, x6, x54, x164000, x164001, x164002, x164003, x164004 => if x54 = true then (some false) else (if x5 = true then ((fencepostref02_Name.f k x164003).bind fun t170 => (if t170 = true then (if x6 = true then (some true) else (some (x164004 == 0))) else (some false))) else (if x164003.toList = ([] : List UInt8) then (if x6 = true then (some true) else (some (x164004 == 0))) else (some false)))
end
def fencepostref03_Right.f (k : Nat) (a0_0 : Int) (a0_1 : ByteArray) (a0_2 : ByteArray) (a0_3 : ByteArray) (a0_4 : Int) : Option (Bool) := (fencepostref03_has.f a0_0).bind fun bt164 => (if a0_0 < 1 then (fencepostref03_Right.j0 k bt164.1 bt164.2.1 bt164.2.2.1 bt164.2.2.2 true a0_0 a0_1 a0_2 a0_3 a0_4) else (fencepostref03_Right.j0 k bt164.1 bt164.2.1 bt164.2.2.1 bt164.2.2.2 (decide (a0_0 > 11)) a0_0 a0_1 a0_2 a0_3 a0_4))
set_option maxHeartbeats 8000000 in
set_option maxRecDepth 100000 in
theorem fencepostref03_Right.calls (k : Nat) (a0_0 : Int) (a0_1 : ByteArray) (a0_2 : ByteArray) (a0_3 : ByteArray) (a0_4 : Int) (r : Bool) (w : World) (h : fencepostref03_Right.f k a0_0 a0_1 a0_2 a0_3 a0_4 = some r) :
 Calls Try.prog 61 #[.agg #[.int .i64 a0_0, .string a0_1, .string a0_2, .string a0_3, .int .i64 a0_4]] w fun e w' => e = .returned (.bool r) ∧ Below w.heap.size w w' := by
 have hu60 := Try.underlying60
 have HB := Aside0.mk (Below.refl w.heap.size w)
 have H : ((fencepostref03_has.f a0_0).bind fun bt164 => (if a0_0 < 1 then (fencepostref03_Right.j0 k bt164.1 bt164.2.1 bt164.2.2.1 bt164.2.2.2 true a0_0 a0_1 a0_2 a0_3 a0_4) else (fencepostref03_Right.j0 k bt164.1 bt164.2.1 bt164.2.2.1 bt164.2.2.2 (decide (a0_0 > 11)) a0_0 a0_1 a0_2 a0_3 a0_4))) = some r := h
 clear h
 replace H := Option.bind_eq_some_iff.mp H
 obtain ⟨⟨t164, t165, t166, t167⟩, A20, H⟩ := H
 replace H : (if a0_0 < 1 then (fencepostref03_Right.j0 k t164 t165 t166 t167 true a0_0 a0_1 a0_2 a0_3 a0_4) else (fencepostref03_Right.j0 k t164 t165 t166 t167 (decide (a0_0 > 11)) a0_0 a0_1 a0_2 a0_3 a0_4)) = some r := H
 have A2 := Aside0.mk A20
 clear A20
 have HC3 := Aside0.mk H
 clear H
 go_enter Try.func61, Try.ntmps61
 (try simp only [List.append_eq, List.cons_append, List.nil_append])
 go_upto_region 2 with (first | ((with_reducible refine gate_dst (N := 1) rfl ?_); refine box_event ?hg (N := 1) ?hd (cs := #[.int .i64 a0_0, .string a0_1, .string a0_2, .string a0_3, .int .i64 a0_4]) (t := 60) ?hr ?_; (case hd => rfl); (case hg => rfl); (case hr => first | (go_simp; done) | (go_simp; rfl)); intro gb163 hg w4 hbox hb; have n0_ := Aside0.mk (below_step (hb_ HB.out) hb); have n1_ := Aside0.mk (hbox); have n2_ := Aside0.mk (gs_ hg (hb_ HB.out)); have n3_ := Aside0.mk (gs_ hg (hb_ HB.out)); clear HB; have HB := n0_; have BK163 := n1_; have GW163 := n2_; have GE163 := n3_; clear n0_ n1_ n2_ n3_; clear hb hbox hg; have hcz5_0 : w4.cell? ⟨gb163, 0, none⟩ = some (.int .i64 a0_0) := (blk_cell BK163.out 0).trans rfl; have hcz5_1 : w4.cell? ⟨gb163, 1, none⟩ = some (.string a0_1) := (blk_cell BK163.out 1).trans rfl; have hcz5_2 : w4.cell? ⟨gb163, 2, none⟩ = some (.string a0_2) := (blk_cell BK163.out 2).trans rfl; have hcz5_3 : w4.cell? ⟨gb163, 3, none⟩ = some (.string a0_3) := (blk_cell BK163.out 3).trans rfl; have hcz5_4 : w4.cell? ⟨gb163, 4, none⟩ = some (.int .i64 a0_4) := (blk_cell BK163.out 4).trans rfl; have hfz5_0 := blk_frozen BK163.out 0; have hfz5_1 := blk_frozen BK163.out 1; have hfz5_2 := blk_frozen BK163.out 2; have hfz5_3 := blk_frozen BK163.out 3; have hfz5_4 := blk_frozen BK163.out 4) | ((with_reducible refine gate_callee (f := 67) rfl ?_); refine goesL_ (some 10) rfl rfl Try.func67 (by kernel_rfl) rfl #[.int .i64 a0_0] rfl ar_ ?_; (with_reducible refine (fencepostref03_has.calls a0_0 t164 t165 t166 t167 _ A2.out).mono ?_); rintro e w' ⟨rfl, ⟨nd, rfl⟩⟩; refine ⟨_, rfl, ?_⟩))
 (try simp only [Act.put, List.setIfInBounds_toArray, List.set_cons_zero, List.set_cons_succ])
 go_cut [22] (fun v22 wc => ∃ (kq : Nat) (x22_2 : Bool), v22 = .bool x22_2 ∧ Aside0 (fencepostref03_Right.j0 kq t164 t165 t166 t167 x22_2 a0_0 a0_1 a0_2 a0_3 a0_4 = some r) ∧ Aside0 (kq ≤ k) ∧ Aside0 (wc.heap[gb163]? = some (.cells #[.int .i64 a0_0, .string a0_1, .string a0_2, .string a0_3, .int .i64 a0_4] 60 (0, 0))) ∧ Aside0 (Below w.heap.size w wc))
 case first =>
  have H := HC3.out
  clear HC3
  by_cases c6 : a0_0 < 1
  ·rw [if_pos c6] at H
   have c6b0 : decide (a0_0 < 1) = true := decide_eq_true c6
   clear c6
   (first | rw [c6b0] | (simp only [i64_w, i32_w]; rw [c6b0]) | skip)
   have H' := Aside0.mk H
   clear H
   have hcz7_0 : w4.cell? ⟨gb163, 0, none⟩ = some (.int .i64 a0_0) := (blk_cell BK163.out 0).trans rfl
   have hcz7_1 : w4.cell? ⟨gb163, 1, none⟩ = some (.string a0_1) := (blk_cell BK163.out 1).trans rfl
   have hcz7_2 : w4.cell? ⟨gb163, 2, none⟩ = some (.string a0_2) := (blk_cell BK163.out 2).trans rfl
   have hcz7_3 : w4.cell? ⟨gb163, 3, none⟩ = some (.string a0_3) := (blk_cell BK163.out 3).trans rfl
   have hcz7_4 : w4.cell? ⟨gb163, 4, none⟩ = some (.int .i64 a0_4) := (blk_cell BK163.out 4).trans rfl
   have hfz7_0 := blk_frozen BK163.out 0
   have hfz7_1 := blk_frozen BK163.out 1
   have hfz7_2 := blk_frozen BK163.out 2
   have hfz7_3 := blk_frozen BK163.out 3
   have hfz7_4 := blk_frozen BK163.out 4
   go_wp2
   go_meet
   case rel => exact ⟨_, (true), rf_, H', ⟨by first | omega | exact Nat.le_refl _⟩, ⟨bd_ BK163.out⟩, ⟨hb_ HB.out⟩⟩
  rw [if_neg c6] at H
  have c6b0 : decide (a0_0 < 1) = false := decide_eq_false c6
  clear c6
  (first | rw [c6b0] | (simp only [i64_w, i32_w]; rw [c6b0]) | skip)
  have H' := Aside0.mk H
  clear H
  have hcz8_0 : w4.cell? ⟨gb163, 0, none⟩ = some (.int .i64 a0_0) := (blk_cell BK163.out 0).trans rfl
  have hcz8_1 : w4.cell? ⟨gb163, 1, none⟩ = some (.string a0_1) := (blk_cell BK163.out 1).trans rfl
  have hcz8_2 : w4.cell? ⟨gb163, 2, none⟩ = some (.string a0_2) := (blk_cell BK163.out 2).trans rfl
  have hcz8_3 : w4.cell? ⟨gb163, 3, none⟩ = some (.string a0_3) := (blk_cell BK163.out 3).trans rfl
  have hcz8_4 : w4.cell? ⟨gb163, 4, none⟩ = some (.int .i64 a0_4) := (blk_cell BK163.out 4).trans rfl
  have hfz8_0 := blk_frozen BK163.out 0
  have hfz8_1 := blk_frozen BK163.out 1
  have hfz8_2 := blk_frozen BK163.out 2
  have hfz8_3 := blk_frozen BK163.out 3
  have hfz8_4 := blk_frozen BK163.out 4
  go_wp2
  go_meet
  case rel => exact ⟨_, (decide (a0_0 > 11)), rf_, H', ⟨by first | omega | exact Nat.le_refl _⟩, ⟨bd_ BK163.out⟩, ⟨hb_ HB.out⟩⟩
 clear HC3
 try clear hcz5_0
 try clear hcz5_1
 try clear hcz5_2
 try clear hcz5_3
 try clear hcz5_4
 try clear hfz5_0
 try clear hfz5_1
 try clear hfz5_2
 try clear hfz5_3
 try clear hfz5_4
 obtain ⟨kq, x22_2, rfl, HA, HJ2, BK163, HB⟩ := hcut
 cases kq with
 | zero => exact absurd HA.out (by simp [fencepostref03_Right.j0])
 | succ kj2 => ?_
 have H := HA.out
 clear HA
 simp only [fencepostref03_Right.j0] at H
 by_cases c9 : x22_2 = true
 ·subst c9
  have H1 : (some false) = some r := by rw [if_pos rfl] at H; exact H
  clear H
  have H := H1
  clear H1
  obtain rfl := Option.some.inj H
  go_wp2
  go_ret
  exact ⟨by first | rfl | (simp [errW_none, errW_some] <;> rfl) | (simp [*, errW_none, errW_some] <;> rfl), hb_ HB.out⟩
 replace c9 := Bool.eq_false_iff.mpr c9
 subst c9
 have H1 : (if t164 = true then ((fencepostref02_Reg.f kj2 a0_1).bind fun t168 => (if t168 < 0 then (fencepostref03_Right.j1 kj2 t165 t166 t167 true a0_0 a0_1 a0_2 a0_3 a0_4) else (fencepostref03_Right.j1 kj2 t165 t166 t167 false a0_0 a0_1 a0_2 a0_3 a0_4))) else (fencepostref03_Right.j1 kj2 t165 t166 t167 (a0_1.toList != ([] : List UInt8)) a0_0 a0_1 a0_2 a0_3 a0_4)) = some r := by rw [if_neg (show ¬ (false = true) by decide)] at H; exact H
 clear H
 have H := H1
 clear H1
 have HC10 := Aside0.mk H
 clear H
 go_upto_region 4 with (fail)
 go_cut [38] (fun v38 wc => ∃ (kq : Nat) (x38_9 : Bool), v38 = .bool x38_9 ∧ Aside0 (fencepostref03_Right.j1 kq t165 t166 t167 x38_9 a0_0 a0_1 a0_2 a0_3 a0_4 = some r) ∧ Aside0 (kq ≤ kj2) ∧ Aside0 (wc.heap[gb163]? = some (.cells #[.int .i64 a0_0, .string a0_1, .string a0_2, .string a0_3, .int .i64 a0_4] 60 (0, 0))) ∧ Aside0 (Below w.heap.size w wc))
 case first =>
  have H := HC10.out
  clear HC10
  by_cases c11 : t164 = true
  rotate_left
  ·replace c11 := Bool.eq_false_iff.mpr c11
   subst c11
   have H1 : (fencepostref03_Right.j1 kj2 t165 t166 t167 (a0_1.toList != ([] : List UInt8)) a0_0 a0_1 a0_2 a0_3 a0_4) = some r := by rw [if_neg (show ¬ (false = true) by decide)] at H; exact H
   clear H
   have H := H1
   clear H1
   have H' := Aside0.mk H
   clear H
   have hcz18_0 : wc.cell? ⟨gb163, 0, none⟩ = some (.int .i64 a0_0) := (blk_cell BK163.out 0).trans rfl
   have hcz18_1 : wc.cell? ⟨gb163, 1, none⟩ = some (.string a0_1) := (blk_cell BK163.out 1).trans rfl
   have hcz18_2 : wc.cell? ⟨gb163, 2, none⟩ = some (.string a0_2) := (blk_cell BK163.out 2).trans rfl
   have hcz18_3 : wc.cell? ⟨gb163, 3, none⟩ = some (.string a0_3) := (blk_cell BK163.out 3).trans rfl
   have hcz18_4 : wc.cell? ⟨gb163, 4, none⟩ = some (.int .i64 a0_4) := (blk_cell BK163.out 4).trans rfl
   have hfz18_0 := blk_frozen BK163.out 0
   have hfz18_1 := blk_frozen BK163.out 1
   have hfz18_2 := blk_frozen BK163.out 2
   have hfz18_3 := blk_frozen BK163.out 3
   have hfz18_4 := blk_frozen BK163.out 4
   go_wp2
   go_meet
   case rel => exact ⟨_, ((a0_1.toList != ([] : List UInt8))), rf_, H', ⟨by have := HJ2.out; first | omega | exact Nat.le_refl _⟩, ⟨bd_ BK163.out⟩, ⟨hb_ HB.out⟩⟩
  subst c11
  have H1 : ((fencepostref02_Reg.f kj2 a0_1).bind fun t168 => (if t168 < 0 then (fencepostref03_Right.j1 kj2 t165 t166 t167 true a0_0 a0_1 a0_2 a0_3 a0_4) else (fencepostref03_Right.j1 kj2 t165 t166 t167 false a0_0 a0_1 a0_2 a0_3 a0_4))) = some r := by rw [if_pos rfl] at H; exact H
  clear H
  have H := H1
  clear H1
  replace H := Option.bind_eq_some_iff.mp H
  obtain ⟨t168, A120, H⟩ := H
  replace H : (if t168 < 0 then (fencepostref03_Right.j1 kj2 t165 t166 t167 true a0_0 a0_1 a0_2 a0_3 a0_4) else (fencepostref03_Right.j1 kj2 t165 t166 t167 false a0_0 a0_1 a0_2 a0_3 a0_4)) = some r := H
  have A12 := Aside0.mk A120
  clear A120
  by_cases c13 : t168 < 0
  ·rw [if_pos c13] at H
   have c13b0 : decide (t168 < 0) = true := decide_eq_true c13
   clear c13
   (first | rw [c13b0] | (simp only [i64_w, i32_w]; rw [c13b0]) | skip)
   have H' := Aside0.mk H
   clear H
   have hcz14_0 : wc.cell? ⟨gb163, 0, none⟩ = some (.int .i64 a0_0) := (blk_cell BK163.out 0).trans rfl
   have hcz14_1 : wc.cell? ⟨gb163, 1, none⟩ = some (.string a0_1) := (blk_cell BK163.out 1).trans rfl
   have hcz14_2 : wc.cell? ⟨gb163, 2, none⟩ = some (.string a0_2) := (blk_cell BK163.out 2).trans rfl
   have hcz14_3 : wc.cell? ⟨gb163, 3, none⟩ = some (.string a0_3) := (blk_cell BK163.out 3).trans rfl
   have hcz14_4 : wc.cell? ⟨gb163, 4, none⟩ = some (.int .i64 a0_4) := (blk_cell BK163.out 4).trans rfl
   have hfz14_0 := blk_frozen BK163.out 0
   have hfz14_1 := blk_frozen BK163.out 1
   have hfz14_2 := blk_frozen BK163.out 2
   have hfz14_3 := blk_frozen BK163.out 3
   have hfz14_4 := blk_frozen BK163.out 4
   go_wp2_with (first | (go_at_call 57; (with_reducible refine (fencepostref02_Reg.calls kj2 a0_1 t168 _ A12.out).mono ?_); rintro e w15 ⟨rfl, hb⟩; have n0_ := Aside0.mk (bb_ BK163.out hb); have n1_ := Aside0.mk (below_step (hb_ HB.out) hb); clear BK163; clear HB; have BK163 := n0_; have HB := n1_; clear n0_ n1_; (try clear hb); (try clear hb2); (try clear hk); (try clear hi)))
   go_meet
   case rel => exact ⟨_, (true), rf_, H', ⟨by have := HJ2.out; first | omega | exact Nat.le_refl _⟩, ⟨bd_ BK163.out⟩, ⟨hb_ HB.out⟩⟩
  rw [if_neg c13] at H
  have c13b0 : decide (t168 < 0) = false := decide_eq_false c13
  clear c13
  (first | rw [c13b0] | (simp only [i64_w, i32_w]; rw [c13b0]) | skip)
  have H' := Aside0.mk H
  clear H
  have hcz16_0 : wc.cell? ⟨gb163, 0, none⟩ = some (.int .i64 a0_0) := (blk_cell BK163.out 0).trans rfl
  have hcz16_1 : wc.cell? ⟨gb163, 1, none⟩ = some (.string a0_1) := (blk_cell BK163.out 1).trans rfl
  have hcz16_2 : wc.cell? ⟨gb163, 2, none⟩ = some (.string a0_2) := (blk_cell BK163.out 2).trans rfl
  have hcz16_3 : wc.cell? ⟨gb163, 3, none⟩ = some (.string a0_3) := (blk_cell BK163.out 3).trans rfl
  have hcz16_4 : wc.cell? ⟨gb163, 4, none⟩ = some (.int .i64 a0_4) := (blk_cell BK163.out 4).trans rfl
  have hfz16_0 := blk_frozen BK163.out 0
  have hfz16_1 := blk_frozen BK163.out 1
  have hfz16_2 := blk_frozen BK163.out 2
  have hfz16_3 := blk_frozen BK163.out 3
  have hfz16_4 := blk_frozen BK163.out 4
  go_wp2_with (first | (go_at_call 57; (with_reducible refine (fencepostref02_Reg.calls kj2 a0_1 t168 _ A12.out).mono ?_); rintro e w17 ⟨rfl, hb⟩; have n0_ := Aside0.mk (bb_ BK163.out hb); have n1_ := Aside0.mk (below_step (hb_ HB.out) hb); clear BK163; clear HB; have BK163 := n0_; have HB := n1_; clear n0_ n1_; (try clear hb); (try clear hb2); (try clear hk); (try clear hi)))
  go_meet
  case rel => exact ⟨_, (false), rf_, H', ⟨by have := HJ2.out; first | omega | exact Nat.le_refl _⟩, ⟨bd_ BK163.out⟩, ⟨hb_ HB.out⟩⟩
 clear HC10
 try clear c9
 try clear hcz5_0
 try clear hcz5_1
 try clear hcz5_2
 try clear hcz5_3
 try clear hcz5_4
 try clear hfz5_0
 try clear hfz5_1
 try clear hfz5_2
 try clear hfz5_3
 try clear hfz5_4
 obtain ⟨kq, x38_9, rfl, HA, HJ9, BK163, HB⟩ := hcut
 cases kq with
 | zero => exact absurd HA.out (by simp [fencepostref03_Right.j1])
 | succ kj9 => ?_
 have H := HA.out
 clear HA
 simp only [fencepostref03_Right.j1] at H
 by_cases c19 : x38_9 = true
 ·subst c19
  have H1 : (some false) = some r := by rw [if_pos rfl] at H; exact H
  clear H
  have H := H1
  clear H1
  obtain rfl := Option.some.inj H
  go_wp2
  go_ret
  exact ⟨by first | rfl | (simp [errW_none, errW_some] <;> rfl) | (simp [*, errW_none, errW_some] <;> rfl), hb_ HB.out⟩
 replace c19 := Bool.eq_false_iff.mpr c19
 subst c19
 have H1 : (if t165 = true then ((fencepostref02_Name.f kj9 a0_2).bind fun t169 => (if t169 = true then (fencepostref03_Right.j2 kj9 t166 t167 false a0_0 a0_1 a0_2 a0_3 a0_4) else (fencepostref03_Right.j2 kj9 t166 t167 true a0_0 a0_1 a0_2 a0_3 a0_4))) else (fencepostref03_Right.j2 kj9 t166 t167 (a0_2.toList != ([] : List UInt8)) a0_0 a0_1 a0_2 a0_3 a0_4)) = some r := by rw [if_neg (show ¬ (false = true) by decide)] at H; exact H
 clear H
 have H := H1
 clear H1
 have HC20 := Aside0.mk H
 clear H
 go_upto_region 6 with (fail)
 go_cut [54] (fun v54 wc => ∃ (kq : Nat) (x54_19 : Bool), v54 = .bool x54_19 ∧ Aside0 (fencepostref03_Right.j2 kq t166 t167 x54_19 a0_0 a0_1 a0_2 a0_3 a0_4 = some r) ∧ Aside0 (kq ≤ kj9) ∧ Aside0 (wc.heap[gb163]? = some (.cells #[.int .i64 a0_0, .string a0_1, .string a0_2, .string a0_3, .int .i64 a0_4] 60 (0, 0))) ∧ Aside0 (Below w.heap.size w wc))
 case first =>
  have H := HC20.out
  clear HC20
  by_cases c21 : t165 = true
  rotate_left
  ·replace c21 := Bool.eq_false_iff.mpr c21
   subst c21
   have H1 : (fencepostref03_Right.j2 kj9 t166 t167 (a0_2.toList != ([] : List UInt8)) a0_0 a0_1 a0_2 a0_3 a0_4) = some r := by rw [if_neg (show ¬ (false = true) by decide)] at H; exact H
   clear H
   have H := H1
   clear H1
   have H' := Aside0.mk H
   clear H
   have hcz28_0 : wc.cell? ⟨gb163, 0, none⟩ = some (.int .i64 a0_0) := (blk_cell BK163.out 0).trans rfl
   have hcz28_1 : wc.cell? ⟨gb163, 1, none⟩ = some (.string a0_1) := (blk_cell BK163.out 1).trans rfl
   have hcz28_2 : wc.cell? ⟨gb163, 2, none⟩ = some (.string a0_2) := (blk_cell BK163.out 2).trans rfl
   have hcz28_3 : wc.cell? ⟨gb163, 3, none⟩ = some (.string a0_3) := (blk_cell BK163.out 3).trans rfl
   have hcz28_4 : wc.cell? ⟨gb163, 4, none⟩ = some (.int .i64 a0_4) := (blk_cell BK163.out 4).trans rfl
   have hfz28_0 := blk_frozen BK163.out 0
   have hfz28_1 := blk_frozen BK163.out 1
   have hfz28_2 := blk_frozen BK163.out 2
   have hfz28_3 := blk_frozen BK163.out 3
   have hfz28_4 := blk_frozen BK163.out 4
   go_wp2
   go_meet
   case rel => exact ⟨_, ((a0_2.toList != ([] : List UInt8))), rf_, H', ⟨by have := HJ2.out; have := HJ9.out; first | omega | exact Nat.le_refl _⟩, ⟨bd_ BK163.out⟩, ⟨hb_ HB.out⟩⟩
  subst c21
  have H1 : ((fencepostref02_Name.f kj9 a0_2).bind fun t169 => (if t169 = true then (fencepostref03_Right.j2 kj9 t166 t167 false a0_0 a0_1 a0_2 a0_3 a0_4) else (fencepostref03_Right.j2 kj9 t166 t167 true a0_0 a0_1 a0_2 a0_3 a0_4))) = some r := by rw [if_pos rfl] at H; exact H
  clear H
  have H := H1
  clear H1
  replace H := Option.bind_eq_some_iff.mp H
  obtain ⟨t169, A220, H⟩ := H
  replace H : (if t169 = true then (fencepostref03_Right.j2 kj9 t166 t167 false a0_0 a0_1 a0_2 a0_3 a0_4) else (fencepostref03_Right.j2 kj9 t166 t167 true a0_0 a0_1 a0_2 a0_3 a0_4)) = some r := H
  have A22 := Aside0.mk A220
  clear A220
  by_cases c23 : t169 = true
  ·subst c23
   have H1 : (fencepostref03_Right.j2 kj9 t166 t167 false a0_0 a0_1 a0_2 a0_3 a0_4) = some r := by rw [if_pos rfl] at H; exact H
   clear H
   have H := H1
   clear H1
   have H' := Aside0.mk H
   clear H
   have hcz24_0 : wc.cell? ⟨gb163, 0, none⟩ = some (.int .i64 a0_0) := (blk_cell BK163.out 0).trans rfl
   have hcz24_1 : wc.cell? ⟨gb163, 1, none⟩ = some (.string a0_1) := (blk_cell BK163.out 1).trans rfl
   have hcz24_2 : wc.cell? ⟨gb163, 2, none⟩ = some (.string a0_2) := (blk_cell BK163.out 2).trans rfl
   have hcz24_3 : wc.cell? ⟨gb163, 3, none⟩ = some (.string a0_3) := (blk_cell BK163.out 3).trans rfl
   have hcz24_4 : wc.cell? ⟨gb163, 4, none⟩ = some (.int .i64 a0_4) := (blk_cell BK163.out 4).trans rfl
   have hfz24_0 := blk_frozen BK163.out 0
   have hfz24_1 := blk_frozen BK163.out 1
   have hfz24_2 := blk_frozen BK163.out 2
   have hfz24_3 := blk_frozen BK163.out 3
   have hfz24_4 := blk_frozen BK163.out 4
   go_wp2_with (first | (go_at_call 60; (with_reducible refine (fencepostref02_Name.calls kj9 a0_2 true _ A22.out).mono ?_); rintro e w25 ⟨rfl, hb⟩; have n0_ := Aside0.mk (bb_ BK163.out hb); have n1_ := Aside0.mk (below_step (hb_ HB.out) hb); clear BK163; clear HB; have BK163 := n0_; have HB := n1_; clear n0_ n1_; (try clear hb); (try clear hb2); (try clear hk); (try clear hi)))
   go_meet
   case rel => exact ⟨_, (false), rf_, H', ⟨by have := HJ2.out; have := HJ9.out; first | omega | exact Nat.le_refl _⟩, ⟨bd_ BK163.out⟩, ⟨hb_ HB.out⟩⟩
  replace c23 := Bool.eq_false_iff.mpr c23
  subst c23
  have H1 : (fencepostref03_Right.j2 kj9 t166 t167 true a0_0 a0_1 a0_2 a0_3 a0_4) = some r := by rw [if_neg (show ¬ (false = true) by decide)] at H; exact H
  clear H
  have H := H1
  clear H1
  have H' := Aside0.mk H
  clear H
  have hcz26_0 : wc.cell? ⟨gb163, 0, none⟩ = some (.int .i64 a0_0) := (blk_cell BK163.out 0).trans rfl
  have hcz26_1 : wc.cell? ⟨gb163, 1, none⟩ = some (.string a0_1) := (blk_cell BK163.out 1).trans rfl
  have hcz26_2 : wc.cell? ⟨gb163, 2, none⟩ = some (.string a0_2) := (blk_cell BK163.out 2).trans rfl
  have hcz26_3 : wc.cell? ⟨gb163, 3, none⟩ = some (.string a0_3) := (blk_cell BK163.out 3).trans rfl
  have hcz26_4 : wc.cell? ⟨gb163, 4, none⟩ = some (.int .i64 a0_4) := (blk_cell BK163.out 4).trans rfl
  have hfz26_0 := blk_frozen BK163.out 0
  have hfz26_1 := blk_frozen BK163.out 1
  have hfz26_2 := blk_frozen BK163.out 2
  have hfz26_3 := blk_frozen BK163.out 3
  have hfz26_4 := blk_frozen BK163.out 4
  go_wp2_with (first | (go_at_call 60; (with_reducible refine (fencepostref02_Name.calls kj9 a0_2 false _ A22.out).mono ?_); rintro e w27 ⟨rfl, hb⟩; have n0_ := Aside0.mk (bb_ BK163.out hb); have n1_ := Aside0.mk (below_step (hb_ HB.out) hb); clear BK163; clear HB; have BK163 := n0_; have HB := n1_; clear n0_ n1_; (try clear hb); (try clear hb2); (try clear hk); (try clear hi)))
  go_meet
  case rel => exact ⟨_, (true), rf_, H', ⟨by have := HJ2.out; have := HJ9.out; first | omega | exact Nat.le_refl _⟩, ⟨bd_ BK163.out⟩, ⟨hb_ HB.out⟩⟩
 clear HC20
 try clear c9
 try clear c19
 try clear hcz5_0
 try clear hcz5_1
 try clear hcz5_2
 try clear hcz5_3
 try clear hcz5_4
 try clear hfz5_0
 try clear hfz5_1
 try clear hfz5_2
 try clear hfz5_3
 try clear hfz5_4
 obtain ⟨kq, x54_19, rfl, HA, HJ19, BK163, HB⟩ := hcut
 cases kq with
 | zero => exact absurd HA.out (by simp [fencepostref03_Right.j2])
 | succ kj19 => ?_
 have H := HA.out
 clear HA
 simp only [fencepostref03_Right.j2] at H
 by_cases c29 : x54_19 = true
 ·subst c29
  have H1 : (some false) = some r := by rw [if_pos rfl] at H; exact H
  clear H
  have H := H1
  clear H1
  obtain rfl := Option.some.inj H
  go_wp2
  go_ret
  exact ⟨by first | rfl | (simp [errW_none, errW_some] <;> rfl) | (simp [*, errW_none, errW_some] <;> rfl), hb_ HB.out⟩
 replace c29 := Bool.eq_false_iff.mpr c29
 subst c29
 have H1 : (if t166 = true then ((fencepostref02_Name.f kj19 a0_3).bind fun t170 => (if t170 = true then (if t167 = true then (some true) else (some (a0_4 == 0))) else (some false))) else (if a0_3.toList = ([] : List UInt8) then (if t167 = true then (some true) else (some (a0_4 == 0))) else (some false))) = some r := by rw [if_neg (show ¬ (false = true) by decide)] at H; exact H
 clear H
 have H := H1
 clear H1
 by_cases c30 : t166 = true
 rotate_left
 ·replace c30 := Bool.eq_false_iff.mpr c30
  subst c30
  have H1 : (if a0_3.toList = ([] : List UInt8) then (if t167 = true then (some true) else (some (a0_4 == 0))) else (some false)) = some r := by rw [if_neg (show ¬ (false = true) by decide)] at H; exact H
  clear H
  have H := H1
  clear H1
  by_cases c41 : a0_3.toList = ([] : List UInt8)
  rotate_left
  ·rw [if_neg c41] at H
   have c41b0 : (a0_3.toList == ([] : List UInt8)) = false := beq_eq_false_iff_ne.mpr c41
   have c41b0e := emp2 c41b0
   have c41b1 : (a0_3.toList != ([] : List UInt8)) = true := bne_iff_ne.mpr c41
   obtain rfl := Option.some.inj H
   have hcz45_0 : wc.cell? ⟨gb163, 0, none⟩ = some (.int .i64 a0_0) := (blk_cell BK163.out 0).trans rfl
   have hcz45_1 : wc.cell? ⟨gb163, 1, none⟩ = some (.string a0_1) := (blk_cell BK163.out 1).trans rfl
   have hcz45_2 : wc.cell? ⟨gb163, 2, none⟩ = some (.string a0_2) := (blk_cell BK163.out 2).trans rfl
   have hcz45_3 : wc.cell? ⟨gb163, 3, none⟩ = some (.string a0_3) := (blk_cell BK163.out 3).trans rfl
   have hcz45_4 : wc.cell? ⟨gb163, 4, none⟩ = some (.int .i64 a0_4) := (blk_cell BK163.out 4).trans rfl
   have hfz45_0 := blk_frozen BK163.out 0
   have hfz45_1 := blk_frozen BK163.out 1
   have hfz45_2 := blk_frozen BK163.out 2
   have hfz45_3 := blk_frozen BK163.out 3
   have hfz45_4 := blk_frozen BK163.out 4
   go_wp2
   go_ret
   exact ⟨by first | rfl | (simp [errW_none, errW_some] <;> rfl) | (simp [*, errW_none, errW_some] <;> rfl), hb_ HB.out⟩
  rw [if_pos c41] at H
  have c41b0 : (a0_3.toList == ([] : List UInt8)) = true := beq_iff_eq.mpr c41
  have c41b0e := emp2 c41b0
  have c41b1 : (a0_3.toList != ([] : List UInt8)) = false := bne_eq_false_iff_eq.mpr c41
  clear c41
  by_cases c42 : t167 = true
  ·subst c42
   have H1 : (some true) = some r := by rw [if_pos rfl] at H; exact H
   clear H
   have H := H1
   clear H1
   obtain rfl := Option.some.inj H
   have hcz43_0 : wc.cell? ⟨gb163, 0, none⟩ = some (.int .i64 a0_0) := (blk_cell BK163.out 0).trans rfl
   have hcz43_1 : wc.cell? ⟨gb163, 1, none⟩ = some (.string a0_1) := (blk_cell BK163.out 1).trans rfl
   have hcz43_2 : wc.cell? ⟨gb163, 2, none⟩ = some (.string a0_2) := (blk_cell BK163.out 2).trans rfl
   have hcz43_3 : wc.cell? ⟨gb163, 3, none⟩ = some (.string a0_3) := (blk_cell BK163.out 3).trans rfl
   have hcz43_4 : wc.cell? ⟨gb163, 4, none⟩ = some (.int .i64 a0_4) := (blk_cell BK163.out 4).trans rfl
   have hfz43_0 := blk_frozen BK163.out 0
   have hfz43_1 := blk_frozen BK163.out 1
   have hfz43_2 := blk_frozen BK163.out 2
   have hfz43_3 := blk_frozen BK163.out 3
   have hfz43_4 := blk_frozen BK163.out 4
   go_wp2
   go_ret
   exact ⟨by first | rfl | (simp [errW_none, errW_some] <;> rfl) | (simp [*, errW_none, errW_some] <;> rfl), hb_ HB.out⟩
  replace c42 := Bool.eq_false_iff.mpr c42
  subst c42
  have H1 : (some (a0_4 == 0)) = some r := by rw [if_neg (show ¬ (false = true) by decide)] at H; exact H
  clear H
  have H := H1
  clear H1
  obtain rfl := Option.some.inj H
  have hcz44_0 : wc.cell? ⟨gb163, 0, none⟩ = some (.int .i64 a0_0) := (blk_cell BK163.out 0).trans rfl
  have hcz44_1 : wc.cell? ⟨gb163, 1, none⟩ = some (.string a0_1) := (blk_cell BK163.out 1).trans rfl
  have hcz44_2 : wc.cell? ⟨gb163, 2, none⟩ = some (.string a0_2) := (blk_cell BK163.out 2).trans rfl
  have hcz44_3 : wc.cell? ⟨gb163, 3, none⟩ = some (.string a0_3) := (blk_cell BK163.out 3).trans rfl
  have hcz44_4 : wc.cell? ⟨gb163, 4, none⟩ = some (.int .i64 a0_4) := (blk_cell BK163.out 4).trans rfl
  have hfz44_0 := blk_frozen BK163.out 0
  have hfz44_1 := blk_frozen BK163.out 1
  have hfz44_2 := blk_frozen BK163.out 2
  have hfz44_3 := blk_frozen BK163.out 3
  have hfz44_4 := blk_frozen BK163.out 4
  go_wp2
  go_ret
  exact ⟨by first | rfl | (simp [errW_none, errW_some] <;> rfl) | (simp [*, errW_none, errW_some] <;> rfl), hb_ HB.out⟩
 subst c30
 have H1 : ((fencepostref02_Name.f kj19 a0_3).bind fun t170 => (if t170 = true then (if t167 = true then (some true) else (some (a0_4 == 0))) else (some false))) = some r := by rw [if_pos rfl] at H; exact H
 clear H
 have H := H1
 clear H1
 replace H := Option.bind_eq_some_iff.mp H
 obtain ⟨t170, A310, H⟩ := H
 replace H : (if t170 = true then (if t167 = true then (some true) else (some (a0_4 == 0))) else (some false)) = some r := H
 have A31 := Aside0.mk A310
 clear A310
 by_cases c32 : t170 = true
 rotate_left
 ·replace c32 := Bool.eq_false_iff.mpr c32
  subst c32
  have H1 : (some false) = some r := by rw [if_neg (show ¬ (false = true) by decide)] at H; exact H
  clear H
  have H := H1
  clear H1
  obtain rfl := Option.some.inj H
  have hcz39_0 : wc.cell? ⟨gb163, 0, none⟩ = some (.int .i64 a0_0) := (blk_cell BK163.out 0).trans rfl
  have hcz39_1 : wc.cell? ⟨gb163, 1, none⟩ = some (.string a0_1) := (blk_cell BK163.out 1).trans rfl
  have hcz39_2 : wc.cell? ⟨gb163, 2, none⟩ = some (.string a0_2) := (blk_cell BK163.out 2).trans rfl
  have hcz39_3 : wc.cell? ⟨gb163, 3, none⟩ = some (.string a0_3) := (blk_cell BK163.out 3).trans rfl
  have hcz39_4 : wc.cell? ⟨gb163, 4, none⟩ = some (.int .i64 a0_4) := (blk_cell BK163.out 4).trans rfl
  have hfz39_0 := blk_frozen BK163.out 0
  have hfz39_1 := blk_frozen BK163.out 1
  have hfz39_2 := blk_frozen BK163.out 2
  have hfz39_3 := blk_frozen BK163.out 3
  have hfz39_4 := blk_frozen BK163.out 4
  go_wp2_with (first | (go_at_call 60; (with_reducible refine (fencepostref02_Name.calls kj19 a0_3 false _ A31.out).mono ?_); rintro e w40 ⟨rfl, hb⟩; have n0_ := Aside0.mk (bb_ BK163.out hb); have n1_ := Aside0.mk (below_step (hb_ HB.out) hb); clear BK163; clear HB; have BK163 := n0_; have HB := n1_; clear n0_ n1_; (try clear hb); (try clear hb2); (try clear hk); (try clear hi)))
  go_ret
  exact ⟨by first | rfl | (simp [errW_none, errW_some] <;> rfl) | (simp [*, errW_none, errW_some] <;> rfl), hb_ HB.out⟩
 subst c32
 have H1 : (if t167 = true then (some true) else (some (a0_4 == 0))) = some r := by rw [if_pos rfl] at H; exact H
 clear H
 have H := H1
 clear H1
 by_cases c33 : t167 = true
 ·subst c33
  have H1 : (some true) = some r := by rw [if_pos rfl] at H; exact H
  clear H
  have H := H1
  clear H1
  obtain rfl := Option.some.inj H
  have hcz34_0 : wc.cell? ⟨gb163, 0, none⟩ = some (.int .i64 a0_0) := (blk_cell BK163.out 0).trans rfl
  have hcz34_1 : wc.cell? ⟨gb163, 1, none⟩ = some (.string a0_1) := (blk_cell BK163.out 1).trans rfl
  have hcz34_2 : wc.cell? ⟨gb163, 2, none⟩ = some (.string a0_2) := (blk_cell BK163.out 2).trans rfl
  have hcz34_3 : wc.cell? ⟨gb163, 3, none⟩ = some (.string a0_3) := (blk_cell BK163.out 3).trans rfl
  have hcz34_4 : wc.cell? ⟨gb163, 4, none⟩ = some (.int .i64 a0_4) := (blk_cell BK163.out 4).trans rfl
  have hfz34_0 := blk_frozen BK163.out 0
  have hfz34_1 := blk_frozen BK163.out 1
  have hfz34_2 := blk_frozen BK163.out 2
  have hfz34_3 := blk_frozen BK163.out 3
  have hfz34_4 := blk_frozen BK163.out 4
  go_wp2_with (first | (go_at_call 60; (with_reducible refine (fencepostref02_Name.calls kj19 a0_3 true _ A31.out).mono ?_); rintro e w35 ⟨rfl, hb⟩; have n0_ := Aside0.mk (bb_ BK163.out hb); have n1_ := Aside0.mk (below_step (hb_ HB.out) hb); clear BK163; clear HB; have BK163 := n0_; have HB := n1_; clear n0_ n1_; (try clear hb); (try clear hb2); (try clear hk); (try clear hi)))
  go_ret
  exact ⟨by first | rfl | (simp [errW_none, errW_some] <;> rfl) | (simp [*, errW_none, errW_some] <;> rfl), hb_ HB.out⟩
 replace c33 := Bool.eq_false_iff.mpr c33
 subst c33
 have H1 : (some (a0_4 == 0)) = some r := by rw [if_neg (show ¬ (false = true) by decide)] at H; exact H
 clear H
 have H := H1
 clear H1
 obtain rfl := Option.some.inj H
 have hcz36_0 : wc.cell? ⟨gb163, 0, none⟩ = some (.int .i64 a0_0) := (blk_cell BK163.out 0).trans rfl
 have hcz36_1 : wc.cell? ⟨gb163, 1, none⟩ = some (.string a0_1) := (blk_cell BK163.out 1).trans rfl
 have hcz36_2 : wc.cell? ⟨gb163, 2, none⟩ = some (.string a0_2) := (blk_cell BK163.out 2).trans rfl
 have hcz36_3 : wc.cell? ⟨gb163, 3, none⟩ = some (.string a0_3) := (blk_cell BK163.out 3).trans rfl
 have hcz36_4 : wc.cell? ⟨gb163, 4, none⟩ = some (.int .i64 a0_4) := (blk_cell BK163.out 4).trans rfl
 have hfz36_0 := blk_frozen BK163.out 0
 have hfz36_1 := blk_frozen BK163.out 1
 have hfz36_2 := blk_frozen BK163.out 2
 have hfz36_3 := blk_frozen BK163.out 3
 have hfz36_4 := blk_frozen BK163.out 4
 go_wp2_with (first | (go_at_call 60; (with_reducible refine (fencepostref02_Name.calls kj19 a0_3 true _ A31.out).mono ?_); rintro e w37 ⟨rfl, hb⟩; have n0_ := Aside0.mk (bb_ BK163.out hb); have n1_ := Aside0.mk (below_step (hb_ HB.out) hb); clear BK163; clear HB; have BK163 := n0_; have HB := n1_; clear n0_ n1_; (try clear hb); (try clear hb2); (try clear hk); (try clear hi); have hcz38_0 : w37.cell? ⟨gb163, 0, none⟩ = some (.int .i64 a0_0) := (blk_cell BK163.out 0).trans rfl; have hcz38_1 : w37.cell? ⟨gb163, 1, none⟩ = some (.string a0_1) := (blk_cell BK163.out 1).trans rfl; have hcz38_2 : w37.cell? ⟨gb163, 2, none⟩ = some (.string a0_2) := (blk_cell BK163.out 2).trans rfl; have hcz38_3 : w37.cell? ⟨gb163, 3, none⟩ = some (.string a0_3) := (blk_cell BK163.out 3).trans rfl; have hcz38_4 : w37.cell? ⟨gb163, 4, none⟩ = some (.int .i64 a0_4) := (blk_cell BK163.out 4).trans rfl; have hfz38_0 := blk_frozen BK163.out 0; have hfz38_1 := blk_frozen BK163.out 1; have hfz38_2 := blk_frozen BK163.out 2; have hfz38_3 := blk_frozen BK163.out 3; have hfz38_4 := blk_frozen BK163.out 4))
 go_ret
 exact ⟨by first | rfl | (simp [errW_none, errW_some] <;> rfl) | (simp [*, errW_none, errW_some] <;> rfl), hb_ HB.out⟩
def fencepostref04_labels.l0 : Nat → List (S60) → ByteArray → Int → Int → Option (Int)
 | 0, _, _, _, _ => none
 | k + 1, x0, x1, x5, x6 => if x6 < (x0.length : Int) then (if 0 ≤ x6 then (if ((rd_T60 x0 x6).f0) = 11 then (if ((rd_T60 x0 x6).f3).toList = x1.toList then (fencepostref04_labels.l0 k x0 x1 (wrap64 (x5 + 1)) (wrap64 (x6 + 1))) else (fencepostref04_labels.l0 k x0 x1 x5 (wrap64 (x6 + 1)))) else (fencepostref04_labels.l0 k x0 x1 x5 (wrap64 (x6 + 1)))) else (none)) else (some x5)
def fencepostref04_labels.f (k : Nat) (l0 : List (S60)) (a1 : ByteArray) : Option (Int) := fencepostref04_labels.l0 k l0 a1 0 0
set_option maxHeartbeats 8000000 in
set_option maxRecDepth 100000 in
theorem fencepostref04_labels.calls (k : Nat) (A0 : Option Addr) (c0 : Nat) (l0 : List (S60)) (a1 : ByteArray) (r : Int) (w : World) (hr0 : Kd.C k60 w A0 l0.length l0) (hc0 : l0.length ≤ c0) (h : fencepostref04_labels.f k l0 a1 = some r) :
 Calls Try.prog 62 #[.slice A0 l0.length c0, .string a1] w fun e w' => e = .returned (.int .i64 r) ∧ Drawn0 w w' := by
 have HR0 := Aside0.mk hr0
 have HC0 := Aside0.mk hc0
 clear hr0 hc0
 have H : (fencepostref04_labels.l0 k l0 a1 0 0) = some r := h
 clear h
 have H' := Aside0.mk H
 clear H
 go_enter Try.func62, Try.ntmps62
 go_wp2
 go_loopg [5, 6] k (fun kq v5 v6 w' => ∃ (x5_1 : Int) (x6_1 : Int), v5 = .int .i64 x5_1 ∧ v6 = .int .i64 x6_1 ∧ Aside0 (fencepostref04_labels.l0 kq l0 a1 x5_1 x6_1 = some r) ∧ Aside0 (kq ≤ k) ∧ Drawn0 w w')
 case atStart => exact ⟨(0), (0), rf_, rf_, H', ⟨Nat.le_refl _⟩, by repeat (first | exact Drawn0.refl _ | apply Drawn0.step)⟩
 clear H'
 obtain ⟨x5_1, x6_1, rfl, rfl, HA, HK1, ⟨m1, rfl⟩⟩ := hrel
 cases gk with
 | zero => exact absurd HA.out (by simp [fencepostref04_labels.l0])
 | succ k1 => ?_
 have H := HA.out
 clear HA
 simp only [fencepostref04_labels.l0] at H
 by_cases c3 : x6_1 < (l0.length : Int)
 rotate_left
 ·rw [if_neg c3] at H
  have c3b0 : decide (x6_1 < (l0.length : Int)) = false := decide_eq_false c3
  clear c3
  obtain rfl := Option.some.inj H
  go_wp2
  go_ret
  exact ⟨by first | rfl | (simp; done) | (simp [*]; done), by repeat (first | exact Drawn0.refl _ | apply Drawn0.step)⟩
 rw [if_pos c3] at H
 have c3b0 : decide (x6_1 < (l0.length : Int)) = true := decide_eq_true c3
 clear c3
 by_cases c4 : 0 ≤ x6_1
 rotate_left
 ·rw [if_neg c4] at H
  exact absurd H (by simp)
 rw [if_pos c4] at H
 have c4b0 : decide (0 ≤ x6_1) = true := decide_eq_true c4
 clear c4
 by_cases c5 : ((rd_T60 l0 x6_1).f0) = 11
 rotate_left
 ·rw [if_neg c5] at H
  have c5b0 : (((rd_T60 l0 x6_1).f0) == 11) = false := beq_eq_false_iff_ne.mpr c5
  have c5b1 : (((rd_T60 l0 x6_1).f0) != 11) = true := bne_iff_ne.mpr c5
  have H' := Aside0.mk H
  clear H
  have p171 : 0 ≤ (x6_1 : Int) := of_decide_eq_true as_
  have q171 : x6_1 < (l0.length : Int) := of_decide_eq_true as_
  obtain ⟨ad171, e171, hx171_0, hx171_1, hx171_2, hx171_3, hx171_4⟩ := at_T60 HR0.out x6_1 p171 q171
  cases e171
  replace p171 := eq_true p171
  replace q171 := eq_true q171
  go_wp2
  go_roundg k1
  case measure => have := HK1.out; omega
  case rel => exact ⟨(x5_1), (wrap64 (x6_1 + 1)), rf_, rf_, H', ⟨by have := HK1.out; omega⟩, by repeat (first | exact Drawn0.refl _ | apply Drawn0.step)⟩
 rw [if_pos c5] at H
 have c5b0 : (((rd_T60 l0 x6_1).f0) == 11) = true := beq_iff_eq.mpr c5
 have c5b1 : (((rd_T60 l0 x6_1).f0) != 11) = false := bne_eq_false_iff_eq.mpr c5
 clear c5
 by_cases c6 : ((rd_T60 l0 x6_1).f3).toList = a1.toList
 rotate_left
 ·rw [if_neg c6] at H
  have c6b0 : (((rd_T60 l0 x6_1).f3).toList == a1.toList) = false := beq_eq_false_iff_ne.mpr c6
  have c6b1 : (((rd_T60 l0 x6_1).f3).toList != a1.toList) = true := bne_iff_ne.mpr c6
  have H' := Aside0.mk H
  clear H
  have p171 : 0 ≤ (x6_1 : Int) := of_decide_eq_true as_
  have q171 : x6_1 < (l0.length : Int) := of_decide_eq_true as_
  obtain ⟨ad171, e171, hx171_0, hx171_1, hx171_2, hx171_3, hx171_4⟩ := at_T60 HR0.out x6_1 p171 q171
  cases e171
  replace p171 := eq_true p171
  replace q171 := eq_true q171
  have p172 : 0 ≤ (x6_1 : Int) := of_decide_eq_true as_
  have q172 : x6_1 < (l0.length : Int) := of_decide_eq_true as_
  obtain ⟨ad172, e172, hx172_0, hx172_1, hx172_2, hx172_3, hx172_4⟩ := at_T60 HR0.out x6_1 p172 q172
  obtain rfl : ad171 = ad172 := (by injection e172)
  replace p172 := eq_true p172
  replace q172 := eq_true q172
  go_wp2
  go_roundg k1
  case measure => have := HK1.out; omega
  case rel => exact ⟨(x5_1), (wrap64 (x6_1 + 1)), rf_, rf_, H', ⟨by have := HK1.out; omega⟩, by repeat (first | exact Drawn0.refl _ | apply Drawn0.step)⟩
 rw [if_pos c6] at H
 have c6b0 : (((rd_T60 l0 x6_1).f3).toList == a1.toList) = true := beq_iff_eq.mpr c6
 have c6b1 : (((rd_T60 l0 x6_1).f3).toList != a1.toList) = false := bne_eq_false_iff_eq.mpr c6
 clear c6
 have H' := Aside0.mk H
 clear H
 have p171 : 0 ≤ (x6_1 : Int) := of_decide_eq_true as_
 have q171 : x6_1 < (l0.length : Int) := of_decide_eq_true as_
 obtain ⟨ad171, e171, hx171_0, hx171_1, hx171_2, hx171_3, hx171_4⟩ := at_T60 HR0.out x6_1 p171 q171
 cases e171
 replace p171 := eq_true p171
 replace q171 := eq_true q171
 have p172 : 0 ≤ (x6_1 : Int) := of_decide_eq_true as_
 have q172 : x6_1 < (l0.length : Int) := of_decide_eq_true as_
 obtain ⟨ad172, e172, hx172_0, hx172_1, hx172_2, hx172_3, hx172_4⟩ := at_T60 HR0.out x6_1 p172 q172
 obtain rfl : ad171 = ad172 := (by injection e172)
 replace p172 := eq_true p172
 replace q172 := eq_true q172
 go_wp2
 go_roundg k1
 case measure => have := HK1.out; omega
 case rel => exact ⟨(wrap64 (x5_1 + 1)), (wrap64 (x6_1 + 1)), rf_, rf_, H', ⟨by have := HK1.out; omega⟩, by repeat (first | exact Drawn0.refl _ | apply Drawn0.step)⟩
end Go.Proofs.Ytijpfonbeepmfaa.Print
