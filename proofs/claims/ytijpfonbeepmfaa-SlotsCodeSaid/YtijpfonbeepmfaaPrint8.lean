-- Written by ownprint.py (this session's) with the kit's print.py: functions, contracts, rows; Lean checks it.
import Derived.Test.YtijpfonbeepmfaaPrint0
import Derived.Test.YtijpfonbeepmfaaPrint7
import Derived.Test.YtijpfonbeepmfaaHSq
namespace Go.Proofs.Ytijpfonbeepmfaa.Print
open Go.RowKit Go.Proofs.YtijpfonbeepmfaaW.PrintWords Go.Proofs.YtijpfonbeepmfaaW.PrintLast Go.Proofs.YtijpfonbeepmfaaW.PrintMore
attribute [local go_sem] max2_int min2_int max_two min_two max_three min_three max_four min_four   -- for this text's walks alone
set_option linter.unusedVariables false
set_option linter.unusedSimpArgs false
mutual
def fencepostlaw04_Great.j0 : Nat → Bool → ByteArray → List (S62) → List (S58) → Bool → List (S64) → Option (Bool)
 | 0, _, _, _, _, _, _ => none
 | k + 1, x28, x146000, x146001, x146002, x146003, x146004 => if x28 = true then (some true) else (fencepostlaw04_Great.l0 k 0 x146000 x146001 x146002 x146003 x146004)
def fencepostlaw04_Great.l0 : Nat → Int → ByteArray → List (S62) → List (S58) → Bool → List (S64) → Option (Bool)
 | 0, _, _, _, _, _, _ => none
 | k + 1, x3, x146000, x146001, x146002, x146003, x146004 => if x3 < (x146001.length : Int) then (if 0 ≤ x3 then (if (((rd_T62 x146001 x3).f0).size : Int) > 100 then (some true) else (fencepostlaw04_Great.l0 k (wrap64 (x3 + 1)) x146000 x146001 x146002 x146003 x146004)) else (none)) else (fencepostlaw04_Great.l1 k 0 x146000 x146001 x146002 x146003 x146004)
def fencepostlaw04_Great.l1 : Nat → Int → ByteArray → List (S62) → List (S58) → Bool → List (S64) → Option (Bool)
 | 0, _, _, _, _, _, _ => none
 | k + 1, x4, x146000, x146001, x146002, x146003, x146004 => if x4 < (x146004.length : Int) then (if 0 ≤ x4 then (if (((rd_T64 x146004 x4).f1).size : Int) > 100 then (some true) else (fencepostlaw04_Great.l1 k (wrap64 (x4 + 1)) x146000 x146001 x146002 x146003 x146004)) else (none)) else (fencepostlaw04_Great.l2 k 0 x146000 x146001 x146002 x146003 x146004)
def fencepostlaw04_Great.l2 : Nat → Int → ByteArray → List (S62) → List (S58) → Bool → List (S64) → Option (Bool)
 | 0, _, _, _, _, _, _ => none
 | k + 1, x5, x146000, x146001, x146002, x146003, x146004 => if x5 < (x146002.length : Int) then (if 0 ≤ x5 then (if (((rd_T58 x146002 x5).f0).length : Int) > 100 then (some true) else (fencepostlaw04_Great.l3 k x5 0 x146000 x146001 x146002 x146003 x146004)) else (none)) else (some false)
def fencepostlaw04_Great.l3 : Nat → Int → Int → ByteArray → List (S62) → List (S58) → Bool → List (S64) → Option (Bool)
 | 0, _, _, _, _, _, _, _ => none
 | k + 1, x5, x6, x146000, x146001, x146002, x146003, x146004 => if 0 ≤ x5 then (if x5 < (x146002.length : Int) then (if x6 < (((rd_T58 x146002 x5).f0).length : Int) then (if 0 ≤ x6 then ((fencepostlaw03_GreatLine.f ((rd_T60 ((rd_T58 x146002 x5).f0) x6).f0) ((rd_T60 ((rd_T58 x146002 x5).f0) x6).f1) ((rd_T60 ((rd_T58 x146002 x5).f0) x6).f2) ((rd_T60 ((rd_T58 x146002 x5).f0) x6).f3) ((rd_T60 ((rd_T58 x146002 x5).f0) x6).f4)).bind fun t152 => (if t152 = true then (some true) else (fencepostlaw04_Great.l3 k x5 (wrap64 (x6 + 1)) x146000 x146001 x146002 x146003 x146004))) else (none)) else (fencepostlaw04_Great.l2 k (wrap64 (x5 + 1)) x146000 x146001 x146002 x146003 x146004)) else (none)) else (none)
end
def fencepostlaw04_Great.f (k : Nat) (a0_0 : ByteArray) (l0_1 : List (S62)) (l0_2 : List (S58)) (a0_3 : Bool) (l0_4 : List (S64)) : Option (Bool) := if (l0_2.length : Int) > 9 then (fencepostlaw04_Great.j0 k true a0_0 l0_1 l0_2 a0_3 l0_4) else (if (l0_1.length : Int) > 60 then (fencepostlaw04_Great.j0 k true a0_0 l0_1 l0_2 a0_3 l0_4) else (if (l0_4.length : Int) > 60 then (fencepostlaw04_Great.j0 k true a0_0 l0_1 l0_2 a0_3 l0_4) else (fencepostlaw04_Great.j0 k (decide ((a0_0.size : Int) > 1000)) a0_0 l0_1 l0_2 a0_3 l0_4)))
set_option maxHeartbeats 8000000 in
set_option maxRecDepth 100000 in
theorem fencepostlaw04_Great.calls (k : Nat) (a0_0 : ByteArray) (A0_1 : Option Addr) (c0_1 : Nat) (l0_1 : List (S62)) (A0_2 : Option Addr) (c0_2 : Nat) (l0_2 : List (S58)) (a0_3 : Bool) (A0_4 : Option Addr) (c0_4 : Nat) (l0_4 : List (S64)) (r : Bool) (w : World) (hr0_1 : Kd.C k62 w A0_1 l0_1.length l0_1) (hc0_1 : l0_1.length ≤ c0_1) (hr0_2 : Kd.C k58 w A0_2 l0_2.length l0_2) (hc0_2 : l0_2.length ≤ c0_2) (hr0_4 : Kd.C k64 w A0_4 l0_4.length l0_4) (hc0_4 : l0_4.length ≤ c0_4) (h : fencepostlaw04_Great.f k a0_0 l0_1 l0_2 a0_3 l0_4 = some r) :
 Calls Try.prog 12 #[.agg #[.string a0_0, .slice A0_1 l0_1.length c0_1, .slice A0_2 l0_2.length c0_2, .bool a0_3, .slice A0_4 l0_4.length c0_4]] w fun e w' => e = .returned (.bool r) ∧ Below w.heap.size w w' := by
 have hu30 := Try.underlying30
 have hu60 := Try.underlying60
 have HR0_1 := Aside0.mk hr0_1
 have HC0_1 := Aside0.mk hc0_1
 clear hr0_1 hc0_1
 have HR0_2 := Aside0.mk hr0_2
 have HC0_2 := Aside0.mk hc0_2
 clear hr0_2 hc0_2
 have HR0_4 := Aside0.mk hr0_4
 have HC0_4 := Aside0.mk hc0_4
 clear hr0_4 hc0_4
 have HB := Aside0.mk (Below.refl w.heap.size w)
 have H : (if (l0_2.length : Int) > 9 then (fencepostlaw04_Great.j0 k true a0_0 l0_1 l0_2 a0_3 l0_4) else (if (l0_1.length : Int) > 60 then (fencepostlaw04_Great.j0 k true a0_0 l0_1 l0_2 a0_3 l0_4) else (if (l0_4.length : Int) > 60 then (fencepostlaw04_Great.j0 k true a0_0 l0_1 l0_2 a0_3 l0_4) else (fencepostlaw04_Great.j0 k (decide ((a0_0.size : Int) > 1000)) a0_0 l0_1 l0_2 a0_3 l0_4)))) = some r := h
 clear h
 have HC2 := Aside0.mk H
 clear H
 go_enter Try.func12, Try.ntmps12
 (try simp only [List.append_eq, List.cons_append, List.nil_append])
 go_upto_region 1 with (first | ((with_reducible refine gate_dst (N := 1) rfl ?_); (try (refine gate_guard (by rfl) ?_; dsimp only)); refine box_event ?hg (N := 1) ?hd (cs := #[.string a0_0, .slice A0_1 l0_1.length c0_1, .slice A0_2 l0_2.length c0_2, .bool a0_3, .slice A0_4 l0_4.length c0_4]) (t := 30) ?hr ?_; (case hd => rfl); (case hg => rfl); (case hr => first | (go_simp; done) | (go_simp; rfl)); intro gb145 hg w3 hbox hb; have n0_ := Aside0.mk (below_step (hb_ HB.out) hb); have n1_ := Aside0.mk (hbox); have n2_ := Aside0.mk (gs_ hg (hb_ HB.out)); have n3_ := Aside0.mk (gs_ hg (hb_ HB.out)); clear HB; have HB := n0_; have BK145 := n1_; have GW145 := n2_; have GE145 := n3_; clear n0_ n1_ n2_ n3_; clear hb hbox hg))
 (try simp only [Act.put, List.setIfInBounds_toArray, List.set_cons_zero, List.set_cons_succ])
 go_cut [28] (fun v28 wc => ∃ (kq : Nat) (x28_1 : Bool), v28 = .bool x28_1 ∧ Aside0 (fencepostlaw04_Great.j0 kq x28_1 a0_0 l0_1 l0_2 a0_3 l0_4 = some r) ∧ Aside0 (kq ≤ k) ∧ Aside0 (wc.heap[gb145]? = some (.cells #[.string a0_0, (.slice A0_1 l0_1.length c0_1), (.slice A0_2 l0_2.length c0_2), .bool a0_3, (.slice A0_4 l0_4.length c0_4)] 30 (0, 0))) ∧ Aside0 (Below w.heap.size w wc))
 case first =>
  have H := HC2.out
  clear HC2
  by_cases c4 : (l0_2.length : Int) > 9
  ·rw [if_pos c4] at H
   have c4b0 : decide (9 < (l0_2.length : Int)) = true := decide_eq_true c4
   have c4b1 : decide (9 < l0_2.length) = true := decide_eq_true (by omega)
   clear c4
   (first | rw [c4b0] | (simp only [i64_w, i32_w]; rw [c4b0]) | skip)
   have H' := Aside0.mk H
   clear H
   have hcz5_0 : w3.cell? ⟨gb145, 0, none⟩ = some (.string a0_0) := (blk_cell BK145.out 0).trans rfl
   have hcz5_1 : w3.cell? ⟨gb145, 1, none⟩ = some (.slice A0_1 l0_1.length c0_1) := (blk_cell BK145.out 1).trans rfl
   have hcz5_2 : w3.cell? ⟨gb145, 2, none⟩ = some (.slice A0_2 l0_2.length c0_2) := (blk_cell BK145.out 2).trans rfl
   have hcz5_3 : w3.cell? ⟨gb145, 3, none⟩ = some (.bool a0_3) := (blk_cell BK145.out 3).trans rfl
   have hcz5_4 : w3.cell? ⟨gb145, 4, none⟩ = some (.slice A0_4 l0_4.length c0_4) := (blk_cell BK145.out 4).trans rfl
   have hfz5_0 := blk_frozen BK145.out 0
   have hfz5_1 := blk_frozen BK145.out 1
   have hfz5_2 := blk_frozen BK145.out 2
   have hfz5_3 := blk_frozen BK145.out 3
   have hfz5_4 := blk_frozen BK145.out 4
   go_wp2
   go_meet
   case rel => exact ⟨_, (true), rf_, H', ⟨by first | omega | exact Nat.le_refl _⟩, ⟨bd_ BK145.out⟩, ⟨hb_ HB.out⟩⟩
  rw [if_neg c4] at H
  have c4b0 : decide (9 < (l0_2.length : Int)) = false := decide_eq_false c4
  have c4b1 : decide (9 < l0_2.length) = false := decide_eq_false (by omega)
  clear c4
  (first | rw [c4b0] | (simp only [i64_w, i32_w]; rw [c4b0]) | skip)
  by_cases c6 : (l0_1.length : Int) > 60
  ·rw [if_pos c6] at H
   have c6b0 : decide (60 < (l0_1.length : Int)) = true := decide_eq_true c6
   have c6b1 : decide (60 < l0_1.length) = true := decide_eq_true (by omega)
   clear c6
   have H' := Aside0.mk H
   clear H
   have hcz7_0 : w3.cell? ⟨gb145, 0, none⟩ = some (.string a0_0) := (blk_cell BK145.out 0).trans rfl
   have hcz7_1 : w3.cell? ⟨gb145, 1, none⟩ = some (.slice A0_1 l0_1.length c0_1) := (blk_cell BK145.out 1).trans rfl
   have hcz7_2 : w3.cell? ⟨gb145, 2, none⟩ = some (.slice A0_2 l0_2.length c0_2) := (blk_cell BK145.out 2).trans rfl
   have hcz7_3 : w3.cell? ⟨gb145, 3, none⟩ = some (.bool a0_3) := (blk_cell BK145.out 3).trans rfl
   have hcz7_4 : w3.cell? ⟨gb145, 4, none⟩ = some (.slice A0_4 l0_4.length c0_4) := (blk_cell BK145.out 4).trans rfl
   have hfz7_0 := blk_frozen BK145.out 0
   have hfz7_1 := blk_frozen BK145.out 1
   have hfz7_2 := blk_frozen BK145.out 2
   have hfz7_3 := blk_frozen BK145.out 3
   have hfz7_4 := blk_frozen BK145.out 4
   go_wp2
   go_meet
   case rel => exact ⟨_, (true), rf_, H', ⟨by first | omega | exact Nat.le_refl _⟩, ⟨bd_ BK145.out⟩, ⟨hb_ HB.out⟩⟩
  rw [if_neg c6] at H
  have c6b0 : decide (60 < (l0_1.length : Int)) = false := decide_eq_false c6
  have c6b1 : decide (60 < l0_1.length) = false := decide_eq_false (by omega)
  clear c6
  by_cases c8 : (l0_4.length : Int) > 60
  ·rw [if_pos c8] at H
   have c8b0 : decide (60 < (l0_4.length : Int)) = true := decide_eq_true c8
   have c8b1 : decide (60 < l0_4.length) = true := decide_eq_true (by omega)
   clear c8
   have H' := Aside0.mk H
   clear H
   have hcz9_0 : w3.cell? ⟨gb145, 0, none⟩ = some (.string a0_0) := (blk_cell BK145.out 0).trans rfl
   have hcz9_1 : w3.cell? ⟨gb145, 1, none⟩ = some (.slice A0_1 l0_1.length c0_1) := (blk_cell BK145.out 1).trans rfl
   have hcz9_2 : w3.cell? ⟨gb145, 2, none⟩ = some (.slice A0_2 l0_2.length c0_2) := (blk_cell BK145.out 2).trans rfl
   have hcz9_3 : w3.cell? ⟨gb145, 3, none⟩ = some (.bool a0_3) := (blk_cell BK145.out 3).trans rfl
   have hcz9_4 : w3.cell? ⟨gb145, 4, none⟩ = some (.slice A0_4 l0_4.length c0_4) := (blk_cell BK145.out 4).trans rfl
   have hfz9_0 := blk_frozen BK145.out 0
   have hfz9_1 := blk_frozen BK145.out 1
   have hfz9_2 := blk_frozen BK145.out 2
   have hfz9_3 := blk_frozen BK145.out 3
   have hfz9_4 := blk_frozen BK145.out 4
   go_wp2
   go_meet
   case rel => exact ⟨_, (true), rf_, H', ⟨by first | omega | exact Nat.le_refl _⟩, ⟨bd_ BK145.out⟩, ⟨hb_ HB.out⟩⟩
  rw [if_neg c8] at H
  have c8b0 : decide (60 < (l0_4.length : Int)) = false := decide_eq_false c8
  have c8b1 : decide (60 < l0_4.length) = false := decide_eq_false (by omega)
  clear c8
  have H' := Aside0.mk H
  clear H
  have hcz10_0 : w3.cell? ⟨gb145, 0, none⟩ = some (.string a0_0) := (blk_cell BK145.out 0).trans rfl
  have hcz10_1 : w3.cell? ⟨gb145, 1, none⟩ = some (.slice A0_1 l0_1.length c0_1) := (blk_cell BK145.out 1).trans rfl
  have hcz10_2 : w3.cell? ⟨gb145, 2, none⟩ = some (.slice A0_2 l0_2.length c0_2) := (blk_cell BK145.out 2).trans rfl
  have hcz10_3 : w3.cell? ⟨gb145, 3, none⟩ = some (.bool a0_3) := (blk_cell BK145.out 3).trans rfl
  have hcz10_4 : w3.cell? ⟨gb145, 4, none⟩ = some (.slice A0_4 l0_4.length c0_4) := (blk_cell BK145.out 4).trans rfl
  have hfz10_0 := blk_frozen BK145.out 0
  have hfz10_1 := blk_frozen BK145.out 1
  have hfz10_2 := blk_frozen BK145.out 2
  have hfz10_3 := blk_frozen BK145.out 3
  have hfz10_4 := blk_frozen BK145.out 4
  go_wp2
  go_meet
  case rel => exact ⟨_, (decide ((a0_0.size : Int) > 1000)), rf_, H', ⟨by first | omega | exact Nat.le_refl _⟩, ⟨bd_ BK145.out⟩, ⟨hb_ HB.out⟩⟩
 clear HC2
 obtain ⟨kq, x28_1, rfl, HA, HJ1, BK145, HB⟩ := hcut
 cases kq with
 | zero => exact absurd HA.out (by simp [fencepostlaw04_Great.j0])
 | succ kj1 => ?_
 have H := HA.out
 clear HA
 simp only [fencepostlaw04_Great.j0] at H
 by_cases c11 : x28_1 = true
 ·subst c11
  have H1 : (some true) = some r := by rw [if_pos rfl] at H; exact H
  clear H
  have H := H1
  clear H1
  obtain rfl := Option.some.inj H
  go_wp2
  go_ret
  exact ⟨by first | rfl | (simp [errW_none, errW_some] <;> rfl) | (simp [*, errW_none, errW_some] <;> rfl), hb_ HB.out⟩
 replace c11 := Bool.eq_false_iff.mpr c11
 subst c11
 have H1 : (fencepostlaw04_Great.l0 kj1 0 a0_0 l0_1 l0_2 a0_3 l0_4) = some r := by rw [if_neg (show ¬ (false = true) by decide)] at H; exact H
 clear H
 have H := H1
 clear H1
 have H' := Aside0.mk H
 clear H
 go_wp2
 go_loopg [3] kj1 (fun kq v3 w' => ∃ (x3_2 : Int), v3 = .int .i64 x3_2 ∧ Aside0 (fencepostlaw04_Great.l0 kq x3_2 a0_0 l0_1 l0_2 a0_3 l0_4 = some r) ∧ Aside0 (kq ≤ kj1) ∧ Aside0 (w'.heap[gb145]? = some (.cells #[.string a0_0, (.slice A0_1 l0_1.length c0_1), (.slice A0_2 l0_2.length c0_2), .bool a0_3, (.slice A0_4 l0_4.length c0_4)] 30 (0, 0))) ∧ Aside0 (Below w.heap.size w w'))
 case atStart => exact ⟨(0), rf_, H', ⟨Nat.le_refl _⟩, ⟨bd_ BK145.out⟩, ⟨hb_ HB.out⟩⟩
 clear H'
 try clear c11
 obtain ⟨x3_2, rfl, HA, HK2, BK145, HB⟩ := hrel
 cases gk with
 | zero => exact absurd HA.out (by simp [fencepostlaw04_Great.l0])
 | succ k2 => ?_
 have H := HA.out
 clear HA
 simp only [fencepostlaw04_Great.l0] at H
 by_cases c12 : x3_2 < (l0_1.length : Int)
 ·rw [if_pos c12] at H
  have c12b0 : decide (x3_2 < (l0_1.length : Int)) = true := decide_eq_true c12
  clear c12
  by_cases c13 : 0 ≤ x3_2
  rotate_left
  ·rw [if_neg c13] at H
   exact absurd H (by simp)
  rw [if_pos c13] at H
  have c13b0 : decide (0 ≤ x3_2) = true := decide_eq_true c13
  clear c13
  by_cases c14 : (((rd_T62 l0_1 x3_2).f0).size : Int) > 100
  ·rw [if_pos c14] at H
   have c14b0 : decide (100 < (((rd_T62 l0_1 x3_2).f0).size : Int)) = true := decide_eq_true c14
   have c14b1 : decide (100 < ((rd_T62 l0_1 x3_2).f0).size) = true := decide_eq_true (by omega)
   clear c14
   obtain rfl := Option.some.inj H
   have hcz15_0 : wr.cell? ⟨gb145, 0, none⟩ = some (.string a0_0) := (blk_cell BK145.out 0).trans rfl
   have hcz15_1 : wr.cell? ⟨gb145, 1, none⟩ = some (.slice A0_1 l0_1.length c0_1) := (blk_cell BK145.out 1).trans rfl
   have hcz15_2 : wr.cell? ⟨gb145, 2, none⟩ = some (.slice A0_2 l0_2.length c0_2) := (blk_cell BK145.out 2).trans rfl
   have hcz15_3 : wr.cell? ⟨gb145, 3, none⟩ = some (.bool a0_3) := (blk_cell BK145.out 3).trans rfl
   have hcz15_4 : wr.cell? ⟨gb145, 4, none⟩ = some (.slice A0_4 l0_4.length c0_4) := (blk_cell BK145.out 4).trans rfl
   have hfz15_0 := blk_frozen BK145.out 0
   have hfz15_1 := blk_frozen BK145.out 1
   have hfz15_2 := blk_frozen BK145.out 2
   have hfz15_3 := blk_frozen BK145.out 3
   have hfz15_4 := blk_frozen BK145.out 4
   have p146 : 0 ≤ (x3_2 : Int) := of_decide_eq_true as_
   have q146 : x3_2 < (l0_1.length : Int) := of_decide_eq_true as_
   obtain ⟨ad146, e146, hx146_0, hx146_1⟩ := at_T62 HR0_1.out x3_2 p146 q146
   cases e146
   replace hx146_0 := cl_ HB.out hx146_0
   replace hx146_1 := cl_ HB.out hx146_1
   replace p146 := eq_true p146
   replace q146 := eq_true q146
   go_wp2
   go_ret
   exact ⟨by first | rfl | (simp [errW_none, errW_some] <;> rfl) | (simp [*, errW_none, errW_some] <;> rfl), hb_ HB.out⟩
  rw [if_neg c14] at H
  have c14b0 : decide (100 < (((rd_T62 l0_1 x3_2).f0).size : Int)) = false := decide_eq_false c14
  have c14b1 : decide (100 < ((rd_T62 l0_1 x3_2).f0).size) = false := decide_eq_false (by omega)
  clear c14
  have H' := Aside0.mk H
  clear H
  have hcz16_0 : wr.cell? ⟨gb145, 0, none⟩ = some (.string a0_0) := (blk_cell BK145.out 0).trans rfl
  have hcz16_1 : wr.cell? ⟨gb145, 1, none⟩ = some (.slice A0_1 l0_1.length c0_1) := (blk_cell BK145.out 1).trans rfl
  have hcz16_2 : wr.cell? ⟨gb145, 2, none⟩ = some (.slice A0_2 l0_2.length c0_2) := (blk_cell BK145.out 2).trans rfl
  have hcz16_3 : wr.cell? ⟨gb145, 3, none⟩ = some (.bool a0_3) := (blk_cell BK145.out 3).trans rfl
  have hcz16_4 : wr.cell? ⟨gb145, 4, none⟩ = some (.slice A0_4 l0_4.length c0_4) := (blk_cell BK145.out 4).trans rfl
  have hfz16_0 := blk_frozen BK145.out 0
  have hfz16_1 := blk_frozen BK145.out 1
  have hfz16_2 := blk_frozen BK145.out 2
  have hfz16_3 := blk_frozen BK145.out 3
  have hfz16_4 := blk_frozen BK145.out 4
  have p146 : 0 ≤ (x3_2 : Int) := of_decide_eq_true as_
  have q146 : x3_2 < (l0_1.length : Int) := of_decide_eq_true as_
  obtain ⟨ad146, e146, hx146_0, hx146_1⟩ := at_T62 HR0_1.out x3_2 p146 q146
  cases e146
  replace hx146_0 := cl_ HB.out hx146_0
  replace hx146_1 := cl_ HB.out hx146_1
  replace p146 := eq_true p146
  replace q146 := eq_true q146
  go_wp2
  go_roundg k2
  case measure => have := HJ1.out; have := HK2.out; omega
  case rel => exact ⟨(wrap64 (x3_2 + 1)), rf_, H', ⟨by have := HJ1.out; have := HK2.out; omega⟩, ⟨bd_ BK145.out⟩, ⟨hb_ HB.out⟩⟩
 rw [if_neg c12] at H
 have c12b0 : decide (x3_2 < (l0_1.length : Int)) = false := decide_eq_false c12
 clear c12
 have H' := Aside0.mk H
 clear H
 have hcz17_0 : wr.cell? ⟨gb145, 0, none⟩ = some (.string a0_0) := (blk_cell BK145.out 0).trans rfl
 have hcz17_1 : wr.cell? ⟨gb145, 1, none⟩ = some (.slice A0_1 l0_1.length c0_1) := (blk_cell BK145.out 1).trans rfl
 have hcz17_2 : wr.cell? ⟨gb145, 2, none⟩ = some (.slice A0_2 l0_2.length c0_2) := (blk_cell BK145.out 2).trans rfl
 have hcz17_3 : wr.cell? ⟨gb145, 3, none⟩ = some (.bool a0_3) := (blk_cell BK145.out 3).trans rfl
 have hcz17_4 : wr.cell? ⟨gb145, 4, none⟩ = some (.slice A0_4 l0_4.length c0_4) := (blk_cell BK145.out 4).trans rfl
 have hfz17_0 := blk_frozen BK145.out 0
 have hfz17_1 := blk_frozen BK145.out 1
 have hfz17_2 := blk_frozen BK145.out 2
 have hfz17_3 := blk_frozen BK145.out 3
 have hfz17_4 := blk_frozen BK145.out 4
 go_wp2
 go_loopg [4] k2 (fun kq v4 w' => ∃ (x4_3 : Int), v4 = .int .i64 x4_3 ∧ Aside0 (fencepostlaw04_Great.l1 kq x4_3 a0_0 l0_1 l0_2 a0_3 l0_4 = some r) ∧ Aside0 (kq ≤ k2) ∧ Aside0 (w'.heap[gb145]? = some (.cells #[.string a0_0, (.slice A0_1 l0_1.length c0_1), (.slice A0_2 l0_2.length c0_2), .bool a0_3, (.slice A0_4 l0_4.length c0_4)] 30 (0, 0))) ∧ Aside0 (Below w.heap.size w w'))
 case atStart => exact ⟨(0), rf_, H', ⟨Nat.le_refl _⟩, ⟨bd_ BK145.out⟩, ⟨hb_ HB.out⟩⟩
 clear H'
 try clear c11
 try clear c12
 try clear c12b0
 try clear hcz17_0
 try clear hcz17_1
 try clear hcz17_2
 try clear hcz17_3
 try clear hcz17_4
 try clear hfz17_0
 try clear hfz17_1
 try clear hfz17_2
 try clear hfz17_3
 try clear hfz17_4
 obtain ⟨x4_3, rfl, HA, HK3, BK145, HB⟩ := hrel
 cases gk with
 | zero => exact absurd HA.out (by simp [fencepostlaw04_Great.l1])
 | succ k3 => ?_
 have H := HA.out
 clear HA
 simp only [fencepostlaw04_Great.l1] at H
 by_cases c18 : x4_3 < (l0_4.length : Int)
 ·rw [if_pos c18] at H
  have c18b0 : decide (x4_3 < (l0_4.length : Int)) = true := decide_eq_true c18
  clear c18
  by_cases c19 : 0 ≤ x4_3
  rotate_left
  ·rw [if_neg c19] at H
   exact absurd H (by simp)
  rw [if_pos c19] at H
  have c19b0 : decide (0 ≤ x4_3) = true := decide_eq_true c19
  clear c19
  by_cases c20 : (((rd_T64 l0_4 x4_3).f1).size : Int) > 100
  ·rw [if_pos c20] at H
   have c20b0 : decide (100 < (((rd_T64 l0_4 x4_3).f1).size : Int)) = true := decide_eq_true c20
   have c20b1 : decide (100 < ((rd_T64 l0_4 x4_3).f1).size) = true := decide_eq_true (by omega)
   clear c20
   obtain rfl := Option.some.inj H
   have hcz21_0 : wr.cell? ⟨gb145, 0, none⟩ = some (.string a0_0) := (blk_cell BK145.out 0).trans rfl
   have hcz21_1 : wr.cell? ⟨gb145, 1, none⟩ = some (.slice A0_1 l0_1.length c0_1) := (blk_cell BK145.out 1).trans rfl
   have hcz21_2 : wr.cell? ⟨gb145, 2, none⟩ = some (.slice A0_2 l0_2.length c0_2) := (blk_cell BK145.out 2).trans rfl
   have hcz21_3 : wr.cell? ⟨gb145, 3, none⟩ = some (.bool a0_3) := (blk_cell BK145.out 3).trans rfl
   have hcz21_4 : wr.cell? ⟨gb145, 4, none⟩ = some (.slice A0_4 l0_4.length c0_4) := (blk_cell BK145.out 4).trans rfl
   have hfz21_0 := blk_frozen BK145.out 0
   have hfz21_1 := blk_frozen BK145.out 1
   have hfz21_2 := blk_frozen BK145.out 2
   have hfz21_3 := blk_frozen BK145.out 3
   have hfz21_4 := blk_frozen BK145.out 4
   have p147 : 0 ≤ (x4_3 : Int) := of_decide_eq_true as_
   have q147 : x4_3 < (l0_4.length : Int) := of_decide_eq_true as_
   obtain ⟨ad147, e147, hx147_0, hx147_1, hx147_2⟩ := at_T64 HR0_4.out x4_3 p147 q147
   cases e147
   replace hx147_0 := cl_ HB.out hx147_0
   replace hx147_1 := cl_ HB.out hx147_1
   replace hx147_2 := cl_ HB.out hx147_2
   replace p147 := eq_true p147
   replace q147 := eq_true q147
   go_wp2
   go_ret
   exact ⟨by first | rfl | (simp [errW_none, errW_some] <;> rfl) | (simp [*, errW_none, errW_some] <;> rfl), hb_ HB.out⟩
  rw [if_neg c20] at H
  have c20b0 : decide (100 < (((rd_T64 l0_4 x4_3).f1).size : Int)) = false := decide_eq_false c20
  have c20b1 : decide (100 < ((rd_T64 l0_4 x4_3).f1).size) = false := decide_eq_false (by omega)
  clear c20
  have H' := Aside0.mk H
  clear H
  have hcz22_0 : wr.cell? ⟨gb145, 0, none⟩ = some (.string a0_0) := (blk_cell BK145.out 0).trans rfl
  have hcz22_1 : wr.cell? ⟨gb145, 1, none⟩ = some (.slice A0_1 l0_1.length c0_1) := (blk_cell BK145.out 1).trans rfl
  have hcz22_2 : wr.cell? ⟨gb145, 2, none⟩ = some (.slice A0_2 l0_2.length c0_2) := (blk_cell BK145.out 2).trans rfl
  have hcz22_3 : wr.cell? ⟨gb145, 3, none⟩ = some (.bool a0_3) := (blk_cell BK145.out 3).trans rfl
  have hcz22_4 : wr.cell? ⟨gb145, 4, none⟩ = some (.slice A0_4 l0_4.length c0_4) := (blk_cell BK145.out 4).trans rfl
  have hfz22_0 := blk_frozen BK145.out 0
  have hfz22_1 := blk_frozen BK145.out 1
  have hfz22_2 := blk_frozen BK145.out 2
  have hfz22_3 := blk_frozen BK145.out 3
  have hfz22_4 := blk_frozen BK145.out 4
  have p147 : 0 ≤ (x4_3 : Int) := of_decide_eq_true as_
  have q147 : x4_3 < (l0_4.length : Int) := of_decide_eq_true as_
  obtain ⟨ad147, e147, hx147_0, hx147_1, hx147_2⟩ := at_T64 HR0_4.out x4_3 p147 q147
  cases e147
  replace hx147_0 := cl_ HB.out hx147_0
  replace hx147_1 := cl_ HB.out hx147_1
  replace hx147_2 := cl_ HB.out hx147_2
  replace p147 := eq_true p147
  replace q147 := eq_true q147
  go_wp2
  go_roundg k3
  case measure => have := HJ1.out; have := HK2.out; have := HK3.out; omega
  case rel => exact ⟨(wrap64 (x4_3 + 1)), rf_, H', ⟨by have := HJ1.out; have := HK2.out; have := HK3.out; omega⟩, ⟨bd_ BK145.out⟩, ⟨hb_ HB.out⟩⟩
 rw [if_neg c18] at H
 have c18b0 : decide (x4_3 < (l0_4.length : Int)) = false := decide_eq_false c18
 clear c18
 have H' := Aside0.mk H
 clear H
 have hcz23_0 : wr.cell? ⟨gb145, 0, none⟩ = some (.string a0_0) := (blk_cell BK145.out 0).trans rfl
 have hcz23_1 : wr.cell? ⟨gb145, 1, none⟩ = some (.slice A0_1 l0_1.length c0_1) := (blk_cell BK145.out 1).trans rfl
 have hcz23_2 : wr.cell? ⟨gb145, 2, none⟩ = some (.slice A0_2 l0_2.length c0_2) := (blk_cell BK145.out 2).trans rfl
 have hcz23_3 : wr.cell? ⟨gb145, 3, none⟩ = some (.bool a0_3) := (blk_cell BK145.out 3).trans rfl
 have hcz23_4 : wr.cell? ⟨gb145, 4, none⟩ = some (.slice A0_4 l0_4.length c0_4) := (blk_cell BK145.out 4).trans rfl
 have hfz23_0 := blk_frozen BK145.out 0
 have hfz23_1 := blk_frozen BK145.out 1
 have hfz23_2 := blk_frozen BK145.out 2
 have hfz23_3 := blk_frozen BK145.out 3
 have hfz23_4 := blk_frozen BK145.out 4
 go_wp2
 go_loopg [5] k3 (fun kq v5 w' => ∃ (x5_4 : Int), v5 = .int .i64 x5_4 ∧ Aside0 (fencepostlaw04_Great.l2 kq x5_4 a0_0 l0_1 l0_2 a0_3 l0_4 = some r) ∧ Aside0 (kq ≤ k3) ∧ Aside0 (w'.heap[gb145]? = some (.cells #[.string a0_0, (.slice A0_1 l0_1.length c0_1), (.slice A0_2 l0_2.length c0_2), .bool a0_3, (.slice A0_4 l0_4.length c0_4)] 30 (0, 0))) ∧ Aside0 (Below w.heap.size w w'))
 case atStart => exact ⟨(0), rf_, H', ⟨Nat.le_refl _⟩, ⟨bd_ BK145.out⟩, ⟨hb_ HB.out⟩⟩
 clear H'
 try clear c11
 try clear c12
 try clear c12b0
 try clear c18
 try clear c18b0
 try clear hcz17_0
 try clear hcz17_1
 try clear hcz17_2
 try clear hcz17_3
 try clear hcz17_4
 try clear hcz23_0
 try clear hcz23_1
 try clear hcz23_2
 try clear hcz23_3
 try clear hcz23_4
 try clear hfz17_0
 try clear hfz17_1
 try clear hfz17_2
 try clear hfz17_3
 try clear hfz17_4
 try clear hfz23_0
 try clear hfz23_1
 try clear hfz23_2
 try clear hfz23_3
 try clear hfz23_4
 obtain ⟨x5_4, rfl, HA, HK4, BK145, HB⟩ := hrel
 cases gk with
 | zero => exact absurd HA.out (by simp [fencepostlaw04_Great.l2])
 | succ k4 => ?_
 have H := HA.out
 clear HA
 simp only [fencepostlaw04_Great.l2] at H
 by_cases c24 : x5_4 < (l0_2.length : Int)
 rotate_left
 ·rw [if_neg c24] at H
  have c24b0 : decide (x5_4 < (l0_2.length : Int)) = false := decide_eq_false c24
  clear c24
  obtain rfl := Option.some.inj H
  have hcz40_0 : wr.cell? ⟨gb145, 0, none⟩ = some (.string a0_0) := (blk_cell BK145.out 0).trans rfl
  have hcz40_1 : wr.cell? ⟨gb145, 1, none⟩ = some (.slice A0_1 l0_1.length c0_1) := (blk_cell BK145.out 1).trans rfl
  have hcz40_2 : wr.cell? ⟨gb145, 2, none⟩ = some (.slice A0_2 l0_2.length c0_2) := (blk_cell BK145.out 2).trans rfl
  have hcz40_3 : wr.cell? ⟨gb145, 3, none⟩ = some (.bool a0_3) := (blk_cell BK145.out 3).trans rfl
  have hcz40_4 : wr.cell? ⟨gb145, 4, none⟩ = some (.slice A0_4 l0_4.length c0_4) := (blk_cell BK145.out 4).trans rfl
  have hfz40_0 := blk_frozen BK145.out 0
  have hfz40_1 := blk_frozen BK145.out 1
  have hfz40_2 := blk_frozen BK145.out 2
  have hfz40_3 := blk_frozen BK145.out 3
  have hfz40_4 := blk_frozen BK145.out 4
  go_wp2
  go_ret
  exact ⟨by first | rfl | (simp [errW_none, errW_some] <;> rfl) | (simp [*, errW_none, errW_some] <;> rfl), hb_ HB.out⟩
 rw [if_pos c24] at H
 have c24b0 : decide (x5_4 < (l0_2.length : Int)) = true := decide_eq_true c24
 clear c24
 by_cases c25 : 0 ≤ x5_4
 rotate_left
 ·rw [if_neg c25] at H
  exact absurd H (by simp)
 rw [if_pos c25] at H
 have c25b0 : decide (0 ≤ x5_4) = true := decide_eq_true c25
 clear c25
 by_cases c26 : (((rd_T58 l0_2 x5_4).f0).length : Int) > 100
 ·rw [if_pos c26] at H
  have c26b0 : decide (100 < (((rd_T58 l0_2 x5_4).f0).length : Int)) = true := decide_eq_true c26
  have c26b1 : decide (100 < ((rd_T58 l0_2 x5_4).f0).length) = true := decide_eq_true (by omega)
  clear c26
  obtain rfl := Option.some.inj H
  have hcz27_0 : wr.cell? ⟨gb145, 0, none⟩ = some (.string a0_0) := (blk_cell BK145.out 0).trans rfl
  have hcz27_1 : wr.cell? ⟨gb145, 1, none⟩ = some (.slice A0_1 l0_1.length c0_1) := (blk_cell BK145.out 1).trans rfl
  have hcz27_2 : wr.cell? ⟨gb145, 2, none⟩ = some (.slice A0_2 l0_2.length c0_2) := (blk_cell BK145.out 2).trans rfl
  have hcz27_3 : wr.cell? ⟨gb145, 3, none⟩ = some (.bool a0_3) := (blk_cell BK145.out 3).trans rfl
  have hcz27_4 : wr.cell? ⟨gb145, 4, none⟩ = some (.slice A0_4 l0_4.length c0_4) := (blk_cell BK145.out 4).trans rfl
  have hfz27_0 := blk_frozen BK145.out 0
  have hfz27_1 := blk_frozen BK145.out 1
  have hfz27_2 := blk_frozen BK145.out 2
  have hfz27_3 := blk_frozen BK145.out 3
  have hfz27_4 := blk_frozen BK145.out 4
  have p148 : 0 ≤ (x5_4 : Int) := of_decide_eq_true as_
  have q148 : x5_4 < (l0_2.length : Int) := of_decide_eq_true as_
  obtain ⟨ad148, A148_0, c148_0, e148, hx148_0, hl148_0, hi148_0⟩ := at_T58 HR0_2.out x5_4 p148 q148
  cases e148
  replace hx148_0 := cl_ HB.out hx148_0
  have HR148_0 := Aside0.mk hi148_0
  have HC148_0 := Aside0.mk hl148_0
  clear hi148_0 hl148_0
  replace p148 := eq_true p148
  replace q148 := eq_true q148
  go_wp2
  go_ret
  exact ⟨by first | rfl | (simp [errW_none, errW_some] <;> rfl) | (simp [*, errW_none, errW_some] <;> rfl), hb_ HB.out⟩
 rw [if_neg c26] at H
 have c26b0 : decide (100 < (((rd_T58 l0_2 x5_4).f0).length : Int)) = false := decide_eq_false c26
 have c26b1 : decide (100 < ((rd_T58 l0_2 x5_4).f0).length) = false := decide_eq_false (by omega)
 clear c26
 have H' := Aside0.mk H
 clear H
 have hcz28_0 : wr.cell? ⟨gb145, 0, none⟩ = some (.string a0_0) := (blk_cell BK145.out 0).trans rfl
 have hcz28_1 : wr.cell? ⟨gb145, 1, none⟩ = some (.slice A0_1 l0_1.length c0_1) := (blk_cell BK145.out 1).trans rfl
 have hcz28_2 : wr.cell? ⟨gb145, 2, none⟩ = some (.slice A0_2 l0_2.length c0_2) := (blk_cell BK145.out 2).trans rfl
 have hcz28_3 : wr.cell? ⟨gb145, 3, none⟩ = some (.bool a0_3) := (blk_cell BK145.out 3).trans rfl
 have hcz28_4 : wr.cell? ⟨gb145, 4, none⟩ = some (.slice A0_4 l0_4.length c0_4) := (blk_cell BK145.out 4).trans rfl
 have hfz28_0 := blk_frozen BK145.out 0
 have hfz28_1 := blk_frozen BK145.out 1
 have hfz28_2 := blk_frozen BK145.out 2
 have hfz28_3 := blk_frozen BK145.out 3
 have hfz28_4 := blk_frozen BK145.out 4
 have p148 : 0 ≤ (x5_4 : Int) := of_decide_eq_true as_
 have q148 : x5_4 < (l0_2.length : Int) := of_decide_eq_true as_
 obtain ⟨ad148, A148_0, c148_0, e148, hx148_0, hl148_0, hi148_0⟩ := at_T58 HR0_2.out x5_4 p148 q148
 cases e148
 replace hx148_0 := cl_ HB.out hx148_0
 have HR148_0 := Aside0.mk hi148_0
 have HC148_0 := Aside0.mk hl148_0
 clear hi148_0 hl148_0
 replace p148 := eq_true p148
 replace q148 := eq_true q148
 go_wp2
 go_loopg [6] k4 (fun kq v6 w' => ∃ (x6_5 : Int), v6 = .int .i64 x6_5 ∧ Aside0 (fencepostlaw04_Great.l3 kq x5_4 x6_5 a0_0 l0_1 l0_2 a0_3 l0_4 = some r) ∧ Aside0 (kq ≤ k4) ∧ Aside0 (w'.heap[gb145]? = some (.cells #[.string a0_0, (.slice A0_1 l0_1.length c0_1), (.slice (some ad148) l0_2.length c0_2), .bool a0_3, (.slice A0_4 l0_4.length c0_4)] 30 (0, 0))) ∧ Aside0 (Below w.heap.size w w'))
 case atStart => exact ⟨(0), rf_, H', ⟨Nat.le_refl _⟩, ⟨bd_ BK145.out⟩, ⟨hb_ HB.out⟩⟩
 clear H'
 try clear c11
 try clear c12
 try clear c12b0
 try clear c18
 try clear c18b0
 try clear c24
 try clear c24b0
 try clear c25
 try clear c25b0
 try clear c26
 try clear c26b0
 try clear c26b1
 try clear hcz17_0
 try clear hcz17_1
 try clear hcz17_2
 try clear hcz17_3
 try clear hcz17_4
 try clear hcz23_0
 try clear hcz23_1
 try clear hcz23_2
 try clear hcz23_3
 try clear hcz23_4
 try clear hcz28_0
 try clear hcz28_1
 try clear hcz28_2
 try clear hcz28_3
 try clear hcz28_4
 try clear hfz17_0
 try clear hfz17_1
 try clear hfz17_2
 try clear hfz17_3
 try clear hfz17_4
 try clear hfz23_0
 try clear hfz23_1
 try clear hfz23_2
 try clear hfz23_3
 try clear hfz23_4
 try clear hfz28_0
 try clear hfz28_1
 try clear hfz28_2
 try clear hfz28_3
 try clear hfz28_4
 try clear hx148_0
 try clear p148
 try clear q148
 obtain ⟨x6_5, rfl, HA, HK5, BK145, HB⟩ := hrel
 cases gk with
 | zero => exact absurd HA.out (by simp [fencepostlaw04_Great.l3])
 | succ k5 => ?_
 have H := HA.out
 clear HA
 simp only [fencepostlaw04_Great.l3] at H
 by_cases c29 : 0 ≤ x5_4
 rotate_left
 ·rw [if_neg c29] at H
  exact absurd H (by simp)
 rw [if_pos c29] at H
 have c29b0 : decide (0 ≤ x5_4) = true := decide_eq_true c29
 clear c29
 by_cases c30 : x5_4 < (l0_2.length : Int)
 rotate_left
 ·rw [if_neg c30] at H
  exact absurd H (by simp)
 rw [if_pos c30] at H
 have c30b0 : decide (x5_4 < (l0_2.length : Int)) = true := decide_eq_true c30
 clear c30
 by_cases c31 : x6_5 < (((rd_T58 l0_2 x5_4).f0).length : Int)
 rotate_left
 ·rw [if_neg c31] at H
  have c31b0 : decide (x6_5 < (((rd_T58 l0_2 x5_4).f0).length : Int)) = false := decide_eq_false c31
  clear c31
  have H' := Aside0.mk H
  clear H
  have hcz39_0 : wr.cell? ⟨gb145, 0, none⟩ = some (.string a0_0) := (blk_cell BK145.out 0).trans rfl
  have hcz39_1 : wr.cell? ⟨gb145, 1, none⟩ = some (.slice A0_1 l0_1.length c0_1) := (blk_cell BK145.out 1).trans rfl
  have hcz39_2 : wr.cell? ⟨gb145, 2, none⟩ = some (.slice (some ad148) l0_2.length c0_2) := (blk_cell BK145.out 2).trans rfl
  have hcz39_3 : wr.cell? ⟨gb145, 3, none⟩ = some (.bool a0_3) := (blk_cell BK145.out 3).trans rfl
  have hcz39_4 : wr.cell? ⟨gb145, 4, none⟩ = some (.slice A0_4 l0_4.length c0_4) := (blk_cell BK145.out 4).trans rfl
  have hfz39_0 := blk_frozen BK145.out 0
  have hfz39_1 := blk_frozen BK145.out 1
  have hfz39_2 := blk_frozen BK145.out 2
  have hfz39_3 := blk_frozen BK145.out 3
  have hfz39_4 := blk_frozen BK145.out 4
  have p149 : 0 ≤ (x5_4 : Int) := of_decide_eq_true as_
  have q149 : x5_4 < (l0_2.length : Int) := of_decide_eq_true as_
  obtain ⟨ad149, A149_0, c149_0, e149, hx149_0, hl149_0, hi149_0⟩ := at_T58 HR0_2.out x5_4 p149 q149
  obtain rfl : ad148 = ad149 := (by injection e149)
  replace hx149_0 := cl_ HB.out hx149_0
  have HR149_0 := Aside0.mk hi149_0
  have HC149_0 := Aside0.mk hl149_0
  clear hi149_0 hl149_0
  replace p149 := eq_true p149
  replace q149 := eq_true q149
  go_wp2
  go_roundg k5
  case measure => have := HJ1.out; have := HK2.out; have := HK3.out; have := HK4.out; have := HK5.out; omega
  case rel => exact ⟨(wrap64 (x5_4 + 1)), rf_, H', ⟨by have := HJ1.out; have := HK2.out; have := HK3.out; have := HK4.out; have := HK5.out; omega⟩, ⟨bd_ BK145.out⟩, ⟨hb_ HB.out⟩⟩
 rw [if_pos c31] at H
 have c31b0 : decide (x6_5 < (((rd_T58 l0_2 x5_4).f0).length : Int)) = true := decide_eq_true c31
 clear c31
 by_cases c32 : 0 ≤ x6_5
 rotate_left
 ·rw [if_neg c32] at H
  exact absurd H (by simp)
 rw [if_pos c32] at H
 have c32b0 : decide (0 ≤ x6_5) = true := decide_eq_true c32
 clear c32
 replace H := Option.bind_eq_some_iff.mp H
 obtain ⟨t152, A330, H⟩ := H
 replace H : (if t152 = true then (some true) else (fencepostlaw04_Great.l3 k5 x5_4 (wrap64 (x6_5 + 1)) a0_0 l0_1 l0_2 a0_3 l0_4)) = some r := H
 have A33 := Aside0.mk A330
 clear A330
 by_cases c34 : t152 = true
 ·subst c34
  have H1 : (some true) = some r := by rw [if_pos rfl] at H; exact H
  clear H
  have H := H1
  clear H1
  obtain rfl := Option.some.inj H
  have hcz35_0 : wr.cell? ⟨gb145, 0, none⟩ = some (.string a0_0) := (blk_cell BK145.out 0).trans rfl
  have hcz35_1 : wr.cell? ⟨gb145, 1, none⟩ = some (.slice A0_1 l0_1.length c0_1) := (blk_cell BK145.out 1).trans rfl
  have hcz35_2 : wr.cell? ⟨gb145, 2, none⟩ = some (.slice (some ad148) l0_2.length c0_2) := (blk_cell BK145.out 2).trans rfl
  have hcz35_3 : wr.cell? ⟨gb145, 3, none⟩ = some (.bool a0_3) := (blk_cell BK145.out 3).trans rfl
  have hcz35_4 : wr.cell? ⟨gb145, 4, none⟩ = some (.slice A0_4 l0_4.length c0_4) := (blk_cell BK145.out 4).trans rfl
  have hfz35_0 := blk_frozen BK145.out 0
  have hfz35_1 := blk_frozen BK145.out 1
  have hfz35_2 := blk_frozen BK145.out 2
  have hfz35_3 := blk_frozen BK145.out 3
  have hfz35_4 := blk_frozen BK145.out 4
  have p149 : 0 ≤ (x5_4 : Int) := of_decide_eq_true as_
  have q149 : x5_4 < (l0_2.length : Int) := of_decide_eq_true as_
  obtain ⟨ad149, A149_0, c149_0, e149, hx149_0, hl149_0, hi149_0⟩ := at_T58 HR0_2.out x5_4 p149 q149
  obtain rfl : ad148 = ad149 := (by injection e149)
  replace hx149_0 := cl_ HB.out hx149_0
  have HR149_0 := Aside0.mk hi149_0
  have HC149_0 := Aside0.mk hl149_0
  clear hi149_0 hl149_0
  replace p149 := eq_true p149
  replace q149 := eq_true q149
  have p150 : 0 ≤ (x5_4 : Int) := of_decide_eq_true as_
  have q150 : x5_4 < (l0_2.length : Int) := of_decide_eq_true as_
  obtain ⟨ad150, A150_0, c150_0, e150, hx150_0, hl150_0, hi150_0⟩ := at_T58 HR0_2.out x5_4 p150 q150
  obtain rfl : ad148 = ad150 := (by injection e150)
  replace hx150_0 := cl_ HB.out hx150_0
  have HR150_0 := Aside0.mk hi150_0
  have HC150_0 := Aside0.mk hl150_0
  clear hi150_0 hl150_0
  replace p150 := eq_true p150
  replace q150 := eq_true q150
  have ea_ := Option.some.inj (hx149_0.symm.trans hx150_0)
  injection ea_ with ea_ en_ ec_
  subst ea_
  subst ec_
  clear en_
  have p151 : 0 ≤ (x6_5 : Int) := of_decide_eq_true as_
  have q151 : x6_5 < (((rd_T58 l0_2 x5_4).f0).length : Int) := of_decide_eq_true as_
  obtain ⟨ad151, e151, hx151_0, hx151_1, hx151_2, hx151_3, hx151_4⟩ := at_T60 HR150_0.out x6_5 p151 q151
  cases e151
  replace hx151_0 := cl_ HB.out hx151_0
  replace hx151_1 := cl_ HB.out hx151_1
  replace hx151_2 := cl_ HB.out hx151_2
  replace hx151_3 := cl_ HB.out hx151_3
  replace hx151_4 := cl_ HB.out hx151_4
  replace p151 := eq_true p151
  replace q151 := eq_true q151
  go_wp2_with (first | ((with_reducible refine gate_callee (f := 33) rfl ?_); refine goesL_ (some 94) rfl rfl Try.func33 (by kernel_rfl) rfl #[.agg #[.int .i64 ((rd_T60 ((rd_T58 l0_2 x5_4).f0) x6_5).f0), .string ((rd_T60 ((rd_T58 l0_2 x5_4).f0) x6_5).f1), .string ((rd_T60 ((rd_T58 l0_2 x5_4).f0) x6_5).f2), .string ((rd_T60 ((rd_T58 l0_2 x5_4).f0) x6_5).f3), .int .i64 ((rd_T60 ((rd_T58 l0_2 x5_4).f0) x6_5).f4)]] rfl ar_ ?_; (with_reducible refine (fencepostlaw03_GreatLine.calls ((rd_T60 ((rd_T58 l0_2 x5_4).f0) x6_5).f0) ((rd_T60 ((rd_T58 l0_2 x5_4).f0) x6_5).f1) ((rd_T60 ((rd_T58 l0_2 x5_4).f0) x6_5).f2) ((rd_T60 ((rd_T58 l0_2 x5_4).f0) x6_5).f3) ((rd_T60 ((rd_T58 l0_2 x5_4).f0) x6_5).f4) true _ A33.out).mono ?_); rintro e w36 ⟨rfl, hb⟩; refine ⟨_, rfl, ?_⟩; have n0_ := Aside0.mk (bb_ BK145.out hb); have n1_ := Aside0.mk (below_step (hb_ HB.out) hb); clear BK145; clear HB; have BK145 := n0_; have HB := n1_; clear n0_ n1_; (try clear hb); (try clear hb2); (try clear hk); (try clear hi)))
  go_ret
  exact ⟨by first | rfl | (simp [errW_none, errW_some] <;> rfl) | (simp [*, errW_none, errW_some] <;> rfl), hb_ HB.out⟩
 replace c34 := Bool.eq_false_iff.mpr c34
 subst c34
 have H1 : (fencepostlaw04_Great.l3 k5 x5_4 (wrap64 (x6_5 + 1)) a0_0 l0_1 l0_2 a0_3 l0_4) = some r := by rw [if_neg (show ¬ (false = true) by decide)] at H; exact H
 clear H
 have H := H1
 clear H1
 have H' := Aside0.mk H
 clear H
 have hcz37_0 : wr.cell? ⟨gb145, 0, none⟩ = some (.string a0_0) := (blk_cell BK145.out 0).trans rfl
 have hcz37_1 : wr.cell? ⟨gb145, 1, none⟩ = some (.slice A0_1 l0_1.length c0_1) := (blk_cell BK145.out 1).trans rfl
 have hcz37_2 : wr.cell? ⟨gb145, 2, none⟩ = some (.slice (some ad148) l0_2.length c0_2) := (blk_cell BK145.out 2).trans rfl
 have hcz37_3 : wr.cell? ⟨gb145, 3, none⟩ = some (.bool a0_3) := (blk_cell BK145.out 3).trans rfl
 have hcz37_4 : wr.cell? ⟨gb145, 4, none⟩ = some (.slice A0_4 l0_4.length c0_4) := (blk_cell BK145.out 4).trans rfl
 have hfz37_0 := blk_frozen BK145.out 0
 have hfz37_1 := blk_frozen BK145.out 1
 have hfz37_2 := blk_frozen BK145.out 2
 have hfz37_3 := blk_frozen BK145.out 3
 have hfz37_4 := blk_frozen BK145.out 4
 have p149 : 0 ≤ (x5_4 : Int) := of_decide_eq_true as_
 have q149 : x5_4 < (l0_2.length : Int) := of_decide_eq_true as_
 obtain ⟨ad149, A149_0, c149_0, e149, hx149_0, hl149_0, hi149_0⟩ := at_T58 HR0_2.out x5_4 p149 q149
 obtain rfl : ad148 = ad149 := (by injection e149)
 replace hx149_0 := cl_ HB.out hx149_0
 have HR149_0 := Aside0.mk hi149_0
 have HC149_0 := Aside0.mk hl149_0
 clear hi149_0 hl149_0
 replace p149 := eq_true p149
 replace q149 := eq_true q149
 have p150 : 0 ≤ (x5_4 : Int) := of_decide_eq_true as_
 have q150 : x5_4 < (l0_2.length : Int) := of_decide_eq_true as_
 obtain ⟨ad150, A150_0, c150_0, e150, hx150_0, hl150_0, hi150_0⟩ := at_T58 HR0_2.out x5_4 p150 q150
 obtain rfl : ad148 = ad150 := (by injection e150)
 replace hx150_0 := cl_ HB.out hx150_0
 have HR150_0 := Aside0.mk hi150_0
 have HC150_0 := Aside0.mk hl150_0
 clear hi150_0 hl150_0
 replace p150 := eq_true p150
 replace q150 := eq_true q150
 have ea_ := Option.some.inj (hx149_0.symm.trans hx150_0)
 injection ea_ with ea_ en_ ec_
 subst ea_
 subst ec_
 clear en_
 have p151 : 0 ≤ (x6_5 : Int) := of_decide_eq_true as_
 have q151 : x6_5 < (((rd_T58 l0_2 x5_4).f0).length : Int) := of_decide_eq_true as_
 obtain ⟨ad151, e151, hx151_0, hx151_1, hx151_2, hx151_3, hx151_4⟩ := at_T60 HR150_0.out x6_5 p151 q151
 cases e151
 replace hx151_0 := cl_ HB.out hx151_0
 replace hx151_1 := cl_ HB.out hx151_1
 replace hx151_2 := cl_ HB.out hx151_2
 replace hx151_3 := cl_ HB.out hx151_3
 replace hx151_4 := cl_ HB.out hx151_4
 replace p151 := eq_true p151
 replace q151 := eq_true q151
 go_wp2_with (first | ((with_reducible refine gate_callee (f := 33) rfl ?_); refine goesL_ (some 94) rfl rfl Try.func33 (by kernel_rfl) rfl #[.agg #[.int .i64 ((rd_T60 ((rd_T58 l0_2 x5_4).f0) x6_5).f0), .string ((rd_T60 ((rd_T58 l0_2 x5_4).f0) x6_5).f1), .string ((rd_T60 ((rd_T58 l0_2 x5_4).f0) x6_5).f2), .string ((rd_T60 ((rd_T58 l0_2 x5_4).f0) x6_5).f3), .int .i64 ((rd_T60 ((rd_T58 l0_2 x5_4).f0) x6_5).f4)]] rfl ar_ ?_; (with_reducible refine (fencepostlaw03_GreatLine.calls ((rd_T60 ((rd_T58 l0_2 x5_4).f0) x6_5).f0) ((rd_T60 ((rd_T58 l0_2 x5_4).f0) x6_5).f1) ((rd_T60 ((rd_T58 l0_2 x5_4).f0) x6_5).f2) ((rd_T60 ((rd_T58 l0_2 x5_4).f0) x6_5).f3) ((rd_T60 ((rd_T58 l0_2 x5_4).f0) x6_5).f4) false _ A33.out).mono ?_); rintro e w38 ⟨rfl, hb⟩; refine ⟨_, rfl, ?_⟩; have n0_ := Aside0.mk (bb_ BK145.out hb); have n1_ := Aside0.mk (below_step (hb_ HB.out) hb); clear BK145; clear HB; have BK145 := n0_; have HB := n1_; clear n0_ n1_; (try clear hb); (try clear hb2); (try clear hk); (try clear hi)))
 go_roundg k5
 case measure => have := HJ1.out; have := HK2.out; have := HK3.out; have := HK4.out; have := HK5.out; omega
 case rel => exact ⟨(wrap64 (x6_5 + 1)), rf_, H', ⟨by have := HJ1.out; have := HK2.out; have := HK3.out; have := HK4.out; have := HK5.out; omega⟩, ⟨bd_ BK145.out⟩, ⟨hb_ HB.out⟩⟩
end Go.Proofs.Ytijpfonbeepmfaa.Print
