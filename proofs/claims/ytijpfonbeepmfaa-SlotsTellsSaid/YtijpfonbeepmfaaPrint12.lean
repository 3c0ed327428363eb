-- Written by ownprint.py (this session's) with the kit's print.py: functions, contracts, rows; Lean checks it.
import Derived.Test.YtijpfonbeepmfaaPrint0
import Derived.Test.YtijpfonbeepmfaaPrint1
namespace Go.Proofs.Ytijpfonbeepmfaa.Print
open Go.RowKit Go.Proofs.YtijpfonbeepmfaaW.PrintWords Go.Proofs.YtijpfonbeepmfaaW.PrintLast Go.Proofs.YtijpfonbeepmfaaW.PrintMore
attribute [local go_sem] max2_int min2_int max_two min_two max_three min_three max_four min_four   -- for this text's walks alone
set_option linter.unusedVariables false
set_option linter.unusedSimpArgs false
def fencepostref08_Of.l0 : Nat → Int → Int → Int → List Int → List (List (S53)) → Option (Int × Int × Bool)
 | 0, _, _, _, _, _ => none
 | k + 1, x1, x7, x8, x169000, x169001 => if x8 < (x169001.length : Int) then (if x1 ≥ x7 then (if 0 ≤ x8 then (if (wrap64 (x1 - x7)) < ((rd_L3 x169001 x8).length : Int) then (some (x8, wrap64 (x1 - x7), true)) else (fencepostref08_Of.l0 k x1 (wrap64 (x7 + ((rd_L3 x169001 x8).length : Int))) (wrap64 (x8 + 1)) x169000 x169001)) else (none)) else (if 0 ≤ x8 then (fencepostref08_Of.l0 k x1 (wrap64 (x7 + ((rd_L3 x169001 x8).length : Int))) (wrap64 (x8 + 1)) x169000 x169001) else (none))) else (some (0, 0, false))
def fencepostref08_Of.f (k : Nat) (l0_0 : List Int) (l0_1 : List (List (S53))) (a1 : Int) : Option (Int × Int × Bool) := fencepostref08_Of.l0 k a1 0 0 l0_0 l0_1
theorem fencepostref08_Of.mono_l : ∀ k, (∀ y0 y1 y2 y3 y4, LeO (fencepostref08_Of.l0 k y0 y1 y2 y3 y4) (fencepostref08_Of.l0 (k + 1) y0 y1 y2 y3 y4))
 | 0 => fun _ _ _ _ _ r h => by simp [fencepostref08_Of.l0] at h
 | k + 1 => by
  have ih0 := fencepostref08_Of.mono_l k
  ·intro y0 y1 y2 y3 y4
   unfold fencepostref08_Of.l0
   repeat' first
   | (with_reducible exact ih0 _ _ _ _ _)
   | (with_reducible exact LeO.refl _)
   | (with_reducible exact LeO.none _)
   | (with_reducible refine LeO.ite ?_ ?_)
   | (with_reducible refine LeO.bind ?_ (fun _ => ?_))
   | exact ih0 _ _ _ _ _
   | exact LeO.none _
   | refine LeO.ite ?_ ?_
   | refine LeO.bind ?_ (fun _ => ?_)
theorem fencepostref08_Of.mono : ∀ a0 a1 a2 k, LeO (fencepostref08_Of.f k a0 a1 a2) (fencepostref08_Of.f (k + 1) a0 a1 a2) := by
 intro a0 a1 a2 k
 have ih0 := fencepostref08_Of.mono_l k
 unfold fencepostref08_Of.f
 repeat' first
  | (with_reducible exact ih0 _ _ _ _ _)
  | (with_reducible exact LeO.refl _)
  | (with_reducible exact LeO.none _)
  | (with_reducible refine LeO.ite ?_ ?_)
  | (with_reducible refine LeO.bind ?_ (fun _ => ?_))
  | exact ih0 _ _ _ _ _
  | exact LeO.none _
  | refine LeO.ite ?_ ?_
  | refine LeO.bind ?_ (fun _ => ?_)
set_option maxHeartbeats 8000000 in
set_option maxRecDepth 100000 in
theorem fencepostref08_Of.calls (k : Nat) (A0_0 : Option Addr) (c0_0 : Nat) (l0_0 : List Int) (A0_1 : Option Addr) (c0_1 : Nat) (l0_1 : List (List (S53))) (a1 : Int) (r1 : Int) (r2 : Int) (r3 : Bool) (w : World) (hr0_0 : Kd.C (Kd.int .i64) w A0_0 l0_0.length l0_0) (hc0_0 : l0_0.length ≤ c0_0) (hr0_1 : Kd.C (Kd.slice 53 k53) w A0_1 l0_1.length l0_1) (hc0_1 : l0_1.length ≤ c0_1) (h : fencepostref08_Of.f k l0_0 l0_1 a1 = some (r1, r2, r3)) :
 Calls Try.prog 14 #[.agg #[.slice A0_0 l0_0.length c0_0, .slice A0_1 l0_1.length c0_1], .int .i64 a1] w fun e w' => e = .returned (.tuple #[.int .i64 r1, .int .i64 r2, .bool r3]) ∧ Below w.heap.size w w' := by
 have hu25 := Try.underlying25
 have HR0_0 := Aside0.mk hr0_0
 have HC0_0 := Aside0.mk hc0_0
 clear hr0_0 hc0_0
 have HR0_1 := Aside0.mk hr0_1
 have HC0_1 := Aside0.mk hc0_1
 clear hr0_1 hc0_1
 have HB := Aside0.mk (Below.refl w.heap.size w)
 have H : (fencepostref08_Of.l0 k a1 0 0 l0_0 l0_1) = some (r1, r2, r3) := h
 clear h
 have H' := Aside0.mk H
 clear H
 go_enter Try.func14, Try.ntmps14
 go_wp2_with (first | ((with_reducible refine gate_dst (N := 2) rfl ?_); (try (refine gate_guard (by rfl) ?_; dsimp only)); refine box_event ?hg (N := 2) ?hd (cs := #[.slice A0_0 l0_0.length c0_0, .slice A0_1 l0_1.length c0_1]) (t := 25) ?hr ?_; (case hd => rfl); (case hg => rfl); (case hr => first | (go_simp; done) | (go_simp; rfl)); intro gb168 hg w3 hbox hb; have n0_ := Aside0.mk (below_step (hb_ HB.out) hb); have n1_ := Aside0.mk (hbox); have n2_ := Aside0.mk (gs_ hg (hb_ HB.out)); have n3_ := Aside0.mk (gs_ hg (hb_ HB.out)); clear HB; have HB := n0_; have BK168 := n1_; have GW168 := n2_; have GE168 := n3_; clear n0_ n1_ n2_ n3_; clear hb hbox hg))
 go_loopg [7, 8] k (fun kq v7 v8 w' => ∃ (x7_1 : Int) (x8_1 : Int), v7 = .int .i64 x7_1 ∧ v8 = .int .i64 x8_1 ∧ Aside0 (fencepostref08_Of.l0 kq a1 x7_1 x8_1 l0_0 l0_1 = some (r1, r2, r3)) ∧ Aside0 (kq ≤ k) ∧ Aside0 (w'.heap[gb168]? = some (.cells #[(.slice A0_0 l0_0.length c0_0), (.slice A0_1 l0_1.length c0_1)] 25 (0, 0))) ∧ Aside0 (Below w.heap.size w w'))
 case atStart => exact ⟨(0), (0), rf_, rf_, H', ⟨Nat.le_refl _⟩, ⟨bd_ BK168.out⟩, ⟨hb_ HB.out⟩⟩
 clear H'
 obtain ⟨x7_1, x8_1, rfl, rfl, HA, HK1, BK168, HB⟩ := hrel
 cases gk with
 | zero => exact absurd HA.out (by simp [fencepostref08_Of.l0])
 | succ k1 => ?_
 have H := HA.out
 clear HA
 simp only [fencepostref08_Of.l0] at H
 by_cases c4 : x8_1 < (l0_1.length : Int)
 rotate_left
 ·rw [if_neg c4] at H
  have c4b0 : decide (x8_1 < (l0_1.length : Int)) = false := decide_eq_false c4
  clear c4
  simp only [Option.some.injEq, Prod.mk.injEq] at H
  obtain ⟨rfl, rfl, rfl⟩ := H
  have hcz12_0 : wr.cell? ⟨gb168, 0, none⟩ = some (.slice A0_0 l0_0.length c0_0) := (blk_cell BK168.out 0).trans rfl
  have hcz12_1 : wr.cell? ⟨gb168, 1, none⟩ = some (.slice A0_1 l0_1.length c0_1) := (blk_cell BK168.out 1).trans rfl
  have hfz12_0 := blk_frozen BK168.out 0
  have hfz12_1 := blk_frozen BK168.out 1
  go_wp2
  go_ret3
  exact ⟨by first | rfl | (simp [errW_none, errW_some] <;> rfl) | (simp [*, errW_none, errW_some] <;> rfl), hb_ HB.out⟩
 rw [if_pos c4] at H
 have c4b0 : decide (x8_1 < (l0_1.length : Int)) = true := decide_eq_true c4
 clear c4
 by_cases c5 : a1 ≥ x7_1
 rotate_left
 ·rw [if_neg c5] at H
  have c5b0 : decide (x7_1 ≤ a1) = false := decide_eq_false c5
  clear c5
  by_cases c10 : 0 ≤ x8_1
  rotate_left
  ·rw [if_neg c10] at H
   exact absurd H (by simp)
  rw [if_pos c10] at H
  have c10b0 : decide (0 ≤ x8_1) = true := decide_eq_true c10
  clear c10
  have H' := Aside0.mk H
  clear H
  have hcz11_0 : wr.cell? ⟨gb168, 0, none⟩ = some (.slice A0_0 l0_0.length c0_0) := (blk_cell BK168.out 0).trans rfl
  have hcz11_1 : wr.cell? ⟨gb168, 1, none⟩ = some (.slice A0_1 l0_1.length c0_1) := (blk_cell BK168.out 1).trans rfl
  have hfz11_0 := blk_frozen BK168.out 0
  have hfz11_1 := blk_frozen BK168.out 1
  have p171 : 0 ≤ (x8_1 : Int) := of_decide_eq_true as_
  have q171 : x8_1 < (l0_1.length : Int) := of_decide_eq_true as_
  obtain ⟨ad171, A171_0, c171_0, e171, hx171_0, hl171_0, hi171_0⟩ := at_L3 HR0_1.out x8_1 p171 q171
  cases e171
  replace hx171_0 := cl_ HB.out hx171_0
  have HR171_0 := Aside0.mk hi171_0
  have HC171_0 := Aside0.mk hl171_0
  clear hi171_0 hl171_0
  replace p171 := eq_true p171
  replace q171 := eq_true q171
  go_wp2
  go_roundg k1
  case measure => have := HK1.out; omega
  case rel => exact ⟨(wrap64 (x7_1 + ((rd_L3 l0_1 x8_1).length : Int))), (wrap64 (x8_1 + 1)), rf_, rf_, H', ⟨by have := HK1.out; omega⟩, ⟨bd_ BK168.out⟩, ⟨hb_ HB.out⟩⟩
 rw [if_pos c5] at H
 have c5b0 : decide (x7_1 ≤ a1) = true := decide_eq_true c5
 clear c5
 by_cases c6 : 0 ≤ x8_1
 rotate_left
 ·rw [if_neg c6] at H
  exact absurd H (by simp)
 rw [if_pos c6] at H
 have c6b0 : decide (0 ≤ x8_1) = true := decide_eq_true c6
 clear c6
 by_cases c7 : (wrap64 (a1 - x7_1)) < ((rd_L3 l0_1 x8_1).length : Int)
 ·rw [if_pos c7] at H
  have c7b0 : decide ((wrap64 (a1 - x7_1)) < ((rd_L3 l0_1 x8_1).length : Int)) = true := decide_eq_true c7
  clear c7
  simp only [Option.some.injEq, Prod.mk.injEq] at H
  obtain ⟨rfl, rfl, rfl⟩ := H
  have hcz8_0 : wr.cell? ⟨gb168, 0, none⟩ = some (.slice A0_0 l0_0.length c0_0) := (blk_cell BK168.out 0).trans rfl
  have hcz8_1 : wr.cell? ⟨gb168, 1, none⟩ = some (.slice A0_1 l0_1.length c0_1) := (blk_cell BK168.out 1).trans rfl
  have hfz8_0 := blk_frozen BK168.out 0
  have hfz8_1 := blk_frozen BK168.out 1
  have p169 : 0 ≤ (x8_1 : Int) := of_decide_eq_true as_
  have q169 : x8_1 < (l0_1.length : Int) := of_decide_eq_true as_
  obtain ⟨ad169, A169_0, c169_0, e169, hx169_0, hl169_0, hi169_0⟩ := at_L3 HR0_1.out x8_1 p169 q169
  cases e169
  replace hx169_0 := cl_ HB.out hx169_0
  have HR169_0 := Aside0.mk hi169_0
  have HC169_0 := Aside0.mk hl169_0
  clear hi169_0 hl169_0
  replace p169 := eq_true p169
  replace q169 := eq_true q169
  go_wp2
  go_ret3
  exact ⟨by first | rfl | (simp [errW_none, errW_some] <;> rfl) | (simp [*, errW_none, errW_some] <;> rfl), hb_ HB.out⟩
 rw [if_neg c7] at H
 have c7b0 : decide ((wrap64 (a1 - x7_1)) < ((rd_L3 l0_1 x8_1).length : Int)) = false := decide_eq_false c7
 clear c7
 have H' := Aside0.mk H
 clear H
 have hcz9_0 : wr.cell? ⟨gb168, 0, none⟩ = some (.slice A0_0 l0_0.length c0_0) := (blk_cell BK168.out 0).trans rfl
 have hcz9_1 : wr.cell? ⟨gb168, 1, none⟩ = some (.slice A0_1 l0_1.length c0_1) := (blk_cell BK168.out 1).trans rfl
 have hfz9_0 := blk_frozen BK168.out 0
 have hfz9_1 := blk_frozen BK168.out 1
 have p169 : 0 ≤ (x8_1 : Int) := of_decide_eq_true as_
 have q169 : x8_1 < (l0_1.length : Int) := of_decide_eq_true as_
 obtain ⟨ad169, A169_0, c169_0, e169, hx169_0, hl169_0, hi169_0⟩ := at_L3 HR0_1.out x8_1 p169 q169
 cases e169
 replace hx169_0 := cl_ HB.out hx169_0
 have HR169_0 := Aside0.mk hi169_0
 have HC169_0 := Aside0.mk hl169_0
 clear hi169_0 hl169_0
 replace p169 := eq_true p169
 replace q169 := eq_true q169
 have p170 : 0 ≤ (x8_1 : Int) := of_decide_eq_true as_
 have q170 : x8_1 < (l0_1.length : Int) := of_decide_eq_true as_
 obtain ⟨ad170, A170_0, c170_0, e170, hx170_0, hl170_0, hi170_0⟩ := at_L3 HR0_1.out x8_1 p170 q170
 obtain rfl : ad169 = ad170 := (by injection e170)
 replace hx170_0 := cl_ HB.out hx170_0
 have HR170_0 := Aside0.mk hi170_0
 have HC170_0 := Aside0.mk hl170_0
 clear hi170_0 hl170_0
 replace p170 := eq_true p170
 replace q170 := eq_true q170
 have ea_ := Option.some.inj (hx169_0.symm.trans hx170_0)
 injection ea_ with ea_ en_ ec_
 subst ea_
 subst ec_
 clear en_
 go_wp2
 go_roundg k1
 case measure => have := HK1.out; omega
 case rel => exact ⟨(wrap64 (x7_1 + ((rd_L3 l0_1 x8_1).length : Int))), (wrap64 (x8_1 + 1)), rf_, rf_, H', ⟨by have := HK1.out; omega⟩, ⟨bd_ BK168.out⟩, ⟨hb_ HB.out⟩⟩
def fencepostref08_Has.l0 : Nat → List Int → Int → Int → Option (Bool)
 | 0, _, _, _ => none
 | k + 1, x0, x1, x5 => if x5 < (x0.length : Int) then (if 0 ≤ x5 then (if (rd x0 x5) = x1 then (some true) else (fencepostref08_Has.l0 k x0 x1 (wrap64 (x5 + 1)))) else (none)) else (some false)
def fencepostref08_Has.f (k : Nat) (l0 : List Int) (a1 : Int) : Option (Bool) := fencepostref08_Has.l0 k l0 a1 0
theorem fencepostref08_Has.mono_l : ∀ k, (∀ y0 y1 y2, LeO (fencepostref08_Has.l0 k y0 y1 y2) (fencepostref08_Has.l0 (k + 1) y0 y1 y2))
 | 0 => fun _ _ _ r h => by simp [fencepostref08_Has.l0] at h
 | k + 1 => by
  have ih0 := fencepostref08_Has.mono_l k
  ·intro y0 y1 y2
   unfold fencepostref08_Has.l0
   repeat' first
   | (with_reducible exact ih0 _ _ _)
   | (with_reducible exact LeO.refl _)
   | (with_reducible exact LeO.none _)
   | (with_reducible refine LeO.ite ?_ ?_)
   | (with_reducible refine LeO.bind ?_ (fun _ => ?_))
   | exact ih0 _ _ _
   | exact LeO.none _
   | refine LeO.ite ?_ ?_
   | refine LeO.bind ?_ (fun _ => ?_)
theorem fencepostref08_Has.mono : ∀ a0 a1 k, LeO (fencepostref08_Has.f k a0 a1) (fencepostref08_Has.f (k + 1) a0 a1) := by
 intro a0 a1 k
 have ih0 := fencepostref08_Has.mono_l k
 unfold fencepostref08_Has.f
 repeat' first
  | (with_reducible exact ih0 _ _ _)
  | (with_reducible exact LeO.refl _)
  | (with_reducible exact LeO.none _)
  | (with_reducible refine LeO.ite ?_ ?_)
  | (with_reducible refine LeO.bind ?_ (fun _ => ?_))
  | exact ih0 _ _ _
  | exact LeO.none _
  | refine LeO.ite ?_ ?_
  | refine LeO.bind ?_ (fun _ => ?_)
set_option maxHeartbeats 8000000 in
set_option maxRecDepth 100000 in
theorem fencepostref08_Has.calls (k : Nat) (A0 : Option Addr) (c0 : Nat) (l0 : List Int) (a1 : Int) (r : Bool) (w : World) (hr0 : Kd.C (Kd.int .i64) w A0 l0.length l0) (hc0 : l0.length ≤ c0) (h : fencepostref08_Has.f k l0 a1 = some r) :
 Calls Try.prog 29 #[.slice A0 l0.length c0, .int .i64 a1] w fun e w' => e = .returned (.bool r) ∧ Drawn0 w w' := by
 have HR0 := Aside0.mk hr0
 have HC0 := Aside0.mk hc0
 clear hr0 hc0
 have H : (fencepostref08_Has.l0 k l0 a1 0) = some r := h
 clear h
 have H' := Aside0.mk H
 clear H
 go_enter Try.func29, Try.ntmps29
 go_wp2
 go_loopg [5] k (fun kq v5 w' => ∃ (x5_1 : Int), v5 = .int .i64 x5_1 ∧ Aside0 (fencepostref08_Has.l0 kq l0 a1 x5_1 = some r) ∧ Aside0 (kq ≤ k) ∧ Drawn0 w w')
 case atStart => exact ⟨(0), rf_, H', ⟨Nat.le_refl _⟩, by repeat (first | exact Drawn0.refl _ | apply Drawn0.step)⟩
 clear H'
 obtain ⟨x5_1, rfl, HA, HK1, ⟨m1, rfl⟩⟩ := hrel
 cases gk with
 | zero => exact absurd HA.out (by simp [fencepostref08_Has.l0])
 | succ k1 => ?_
 have H := HA.out
 clear HA
 simp only [fencepostref08_Has.l0] at H
 by_cases c3 : x5_1 < (l0.length : Int)
 rotate_left
 ·rw [if_neg c3] at H
  have c3b0 : decide (x5_1 < (l0.length : Int)) = false := decide_eq_false c3
  clear c3
  obtain rfl := Option.some.inj H
  go_wp2
  go_ret
  exact ⟨by first | rfl | (simp; done) | (simp [*]; done), by repeat (first | exact Drawn0.refl _ | apply Drawn0.step)⟩
 rw [if_pos c3] at H
 have c3b0 : decide (x5_1 < (l0.length : Int)) = true := decide_eq_true c3
 clear c3
 by_cases c4 : 0 ≤ x5_1
 rotate_left
 ·rw [if_neg c4] at H
  exact absurd H (by simp)
 rw [if_pos c4] at H
 have c4b0 : decide (0 ≤ x5_1) = true := decide_eq_true c4
 clear c4
 by_cases c5 : (rd l0 x5_1) = a1
 ·rw [if_pos c5] at H
  have c5b0 : ((rd l0 x5_1) == a1) = true := beq_iff_eq.mpr c5
  have c5b1 : ((rd l0 x5_1) != a1) = false := bne_eq_false_iff_eq.mpr c5
  clear c5
  obtain rfl := Option.some.inj H
  have p172 : 0 ≤ (x5_1 : Int) := of_decide_eq_true as_
  have q172 : x5_1 < (l0.length : Int) := of_decide_eq_true as_
  obtain ⟨ad172, e172, hx172_0⟩ := Kd.at_int HR0.out x5_1 p172 q172
  cases e172
  replace p172 := eq_true p172
  replace q172 := eq_true q172
  go_wp2
  go_ret
  exact ⟨by first | rfl | (simp; done) | (simp [*]; done), by repeat (first | exact Drawn0.refl _ | apply Drawn0.step)⟩
 rw [if_neg c5] at H
 have c5b0 : ((rd l0 x5_1) == a1) = false := beq_eq_false_iff_ne.mpr c5
 have c5b1 : ((rd l0 x5_1) != a1) = true := bne_iff_ne.mpr c5
 have H' := Aside0.mk H
 clear H
 have p172 : 0 ≤ (x5_1 : Int) := of_decide_eq_true as_
 have q172 : x5_1 < (l0.length : Int) := of_decide_eq_true as_
 obtain ⟨ad172, e172, hx172_0⟩ := Kd.at_int HR0.out x5_1 p172 q172
 cases e172
 replace p172 := eq_true p172
 replace q172 := eq_true q172
 go_wp2
 go_roundg k1
 case measure => have := HK1.out; omega
 case rel => exact ⟨(wrap64 (x5_1 + 1)), rf_, H', ⟨by have := HK1.out; omega⟩, by repeat (first | exact Drawn0.refl _ | apply Drawn0.step)⟩
mutual
def fencepostref08_Fence.l0 : Nat → List Int → Int → Int → ByteArray → List (S62) → List (S58) → Bool → List (S64) → ByteArray → List (S62) → List (S58) → Bool → List (S64) → Option (ByteArray × (List (S62)) × (List (S58)) × Bool × (List (S64)))
 | 0, _, _, _, _, _, _, _, _, _, _, _, _, _ => none
 | k + 1, x1, x6, x7, x174000, x174001, x174002, x174003, x174004, x176000, x176001, x176002, x176003, x176004 => if x7 < (x174002.length : Int) then (fencepostref08_Fence.l1 k x1 x6 x7 ([] : List (S60)) 0 x174000 x174001 x174002 x174003 x174004 x176000 x176001 x176002 x176003 x176004) else (some (x176000, x176001, x176002, x176003, x176004))
def fencepostref08_Fence.l1 : Nat → List Int → Int → Int → List (S60) → Int → ByteArray → List (S62) → List (S58) → Bool → List (S64) → ByteArray → List (S62) → List (S58) → Bool → List (S64) → Option (ByteArray × (List (S62)) × (List (S58)) × Bool × (List (S64)))
 | 0, _, _, _, _, _, _, _, _, _, _, _, _, _, _, _ => none
 | k + 1, x1, x6, x7, x8, x9, x174000, x174001, x174002, x174003, x174004, x176000, x176001, x176002, x176003, x176004 => if 0 ≤ x7 then (if x7 < (x174002.length : Int) then (if x9 < (((rd_T58 x174002 x7).f0).length : Int) then (if 0 ≤ x9 then (if ((rd_T60 ((rd_T58 x174002 x7).f0) x9).f0) = 11 then (if x8.length < 2199023255552 then (fencepostref08_Fence.l1 k x1 x6 x7 (x8 ++ [(⟨(rd_T60 ((rd_T58 x174002 x7).f0) x9).f0, (rd_T60 ((rd_T58 x174002 x7).f0) x9).f1, (rd_T60 ((rd_T58 x174002 x7).f0) x9).f2, (rd_T60 ((rd_T58 x174002 x7).f0) x9).f3, (rd_T60 ((rd_T58 x174002 x7).f0) x9).f4⟩ : S60)]) (wrap64 (x9 + 1)) x174000 x174001 x174002 x174003 x174004 x176000 x176001 x176002 x176003 x176004) else (none)) else ((fencepostref08_Has.f k x1 x6).bind fun t186 => (if t186 = true then (if x8.length < 2199023255552 then ((some (x8 ++ [(⟨6, (⟨#[]⟩ : ByteArray), (⟨#[]⟩ : ByteArray), (⟨#[]⟩ : ByteArray), 0⟩ : S60)] : List (S60))).bind fun y187 => (if y187.length < 2199023255552 then (fencepostref08_Fence.l1 k x1 (wrap64 (x6 + 1)) x7 (y187 ++ [(⟨(rd_T60 ((rd_T58 x174002 x7).f0) x9).f0, (rd_T60 ((rd_T58 x174002 x7).f0) x9).f1, (rd_T60 ((rd_T58 x174002 x7).f0) x9).f2, (rd_T60 ((rd_T58 x174002 x7).f0) x9).f3, (rd_T60 ((rd_T58 x174002 x7).f0) x9).f4⟩ : S60)]) (wrap64 (x9 + 1)) x174000 x174001 x174002 x174003 x174004 x176000 x176001 x176002 x176003 x176004) else (none))) else (none)) else (if x8.length < 2199023255552 then (fencepostref08_Fence.l1 k x1 (wrap64 (x6 + 1)) x7 (x8 ++ [(⟨(rd_T60 ((rd_T58 x174002 x7).f0) x9).f0, (rd_T60 ((rd_T58 x174002 x7).f0) x9).f1, (rd_T60 ((rd_T58 x174002 x7).f0) x9).f2, (rd_T60 ((rd_T58 x174002 x7).f0) x9).f3, (rd_T60 ((rd_T58 x174002 x7).f0) x9).f4⟩ : S60)]) (wrap64 (x9 + 1)) x174000 x174001 x174002 x174003 x174004 x176000 x176001 x176002 x176003 x176004) else (none))))) else (none)) else (if x176002.length < 5864062014805 then (fencepostref08_Fence.l0 k x1 x6 (wrap64 (x7 + 1)) x174000 x174001 x174002 x174003 x174004 x176000 x176001 (x176002 ++ [(⟨x8⟩ : S58)]) x176003 x176004) else (none))) else (none)) else (none)
end
def fencepostref08_Fence.f (k : Nat) (a0_0 : ByteArray) (l0_1 : List (S62)) (l0_2 : List (S58)) (a0_3 : Bool) (l0_4 : List (S64)) (l1 : List Int) : Option (ByteArray × (List (S62)) × (List (S58)) × Bool × (List (S64))) := fencepostref08_Fence.l0 k l1 0 0 a0_0 l0_1 l0_2 a0_3 l0_4 a0_0 l0_1 ([] : List (S58)) a0_3 l0_4
theorem fencepostref08_Fence.mono_l : ∀ k, (∀ y0 y1 y2 y3 y4 y5 y6 y7 y8 y9 y10 y11 y12, LeO (fencepostref08_Fence.l0 k y0 y1 y2 y3 y4 y5 y6 y7 y8 y9 y10 y11 y12) (fencepostref08_Fence.l0 (k + 1) y0 y1 y2 y3 y4 y5 y6 y7 y8 y9 y10 y11 y12)) ∧ (∀ y0 y1 y2 y3 y4 y5 y6 y7 y8 y9 y10 y11 y12 y13 y14, LeO (fencepostref08_Fence.l1 k y0 y1 y2 y3 y4 y5 y6 y7 y8 y9 y10 y11 y12 y13 y14) (fencepostref08_Fence.l1 (k + 1) y0 y1 y2 y3 y4 y5 y6 y7 y8 y9 y10 y11 y12 y13 y14))
 | 0 => ⟨fun _ _ _ _ _ _ _ _ _ _ _ _ _ r h => by simp [fencepostref08_Fence.l0] at h, fun _ _ _ _ _ _ _ _ _ _ _ _ _ _ _ r h => by simp [fencepostref08_Fence.l1] at h⟩
 | k + 1 => by
  obtain ⟨ih0, ih1⟩ := fencepostref08_Fence.mono_l k
  refine ⟨?_, ?_⟩
  ·intro y0 y1 y2 y3 y4 y5 y6 y7 y8 y9 y10 y11 y12
   unfold fencepostref08_Fence.l0
   repeat' first
   | (with_reducible exact ih0 _ _ _ _ _ _ _ _ _ _ _ _ _)
   | (with_reducible exact ih1 _ _ _ _ _ _ _ _ _ _ _ _ _ _ _)
   | (with_reducible exact fencepostref08_Has.mono _ _ _)
   | (with_reducible exact LeO.refl _)
   | (with_reducible exact LeO.none _)
   | (with_reducible refine LeO.ite ?_ ?_)
   | (with_reducible refine LeO.bind ?_ (fun _ => ?_))
   | exact ih0 _ _ _ _ _ _ _ _ _ _ _ _ _
   | exact ih1 _ _ _ _ _ _ _ _ _ _ _ _ _ _ _
   | exact fencepostref08_Has.mono _ _ _
   | exact LeO.none _
   | refine LeO.ite ?_ ?_
   | refine LeO.bind ?_ (fun _ => ?_)
  ·intro y0 y1 y2 y3 y4 y5 y6 y7 y8 y9 y10 y11 y12 y13 y14
   unfold fencepostref08_Fence.l1
   repeat' first
   | (with_reducible exact ih0 _ _ _ _ _ _ _ _ _ _ _ _ _)
   | (with_reducible exact ih1 _ _ _ _ _ _ _ _ _ _ _ _ _ _ _)
   | (with_reducible exact fencepostref08_Has.mono _ _ _)
   | (with_reducible exact LeO.refl _)
   | (with_reducible exact LeO.none _)
   | (with_reducible refine LeO.ite ?_ ?_)
   | (with_reducible refine LeO.bind ?_ (fun _ => ?_))
   | exact ih0 _ _ _ _ _ _ _ _ _ _ _ _ _
   | exact ih1 _ _ _ _ _ _ _ _ _ _ _ _ _ _ _
   | exact fencepostref08_Has.mono _ _ _
   | exact LeO.none _
   | refine LeO.ite ?_ ?_
   | refine LeO.bind ?_ (fun _ => ?_)
theorem fencepostref08_Fence.mono : ∀ a0 a1 a2 a3 a4 a5 k, LeO (fencepostref08_Fence.f k a0 a1 a2 a3 a4 a5) (fencepostref08_Fence.f (k + 1) a0 a1 a2 a3 a4 a5) := by
 intro a0 a1 a2 a3 a4 a5 k
 obtain ⟨ih0, ih1⟩ := fencepostref08_Fence.mono_l k
 unfold fencepostref08_Fence.f
 repeat' first
  | (with_reducible exact ih0 _ _ _ _ _ _ _ _ _ _ _ _ _)
  | (with_reducible exact ih1 _ _ _ _ _ _ _ _ _ _ _ _ _ _ _)
  | (with_reducible exact fencepostref08_Has.mono _ _ _)
  | (with_reducible exact LeO.refl _)
  | (with_reducible exact LeO.none _)
  | (with_reducible refine LeO.ite ?_ ?_)
  | (with_reducible refine LeO.bind ?_ (fun _ => ?_))
  | exact ih0 _ _ _ _ _ _ _ _ _ _ _ _ _
  | exact ih1 _ _ _ _ _ _ _ _ _ _ _ _ _ _ _
  | exact fencepostref08_Has.mono _ _ _
  | exact LeO.none _
  | refine LeO.ite ?_ ?_
  | refine LeO.bind ?_ (fun _ => ?_)
set_option maxHeartbeats 8000000 in
set_option maxRecDepth 100000 in
theorem fencepostref08_Fence.calls (k : Nat) (a0_0 : ByteArray) (P0_1_ : Nat → Prop) (A0_1 : Option Addr) (c0_1 : Nat) (l0_1 : List (S62)) (A0_2 : Option Addr) (c0_2 : Nat) (l0_2 : List (S58)) (a0_3 : Bool) (P0_4_ : Nat → Prop) (A0_4 : Option Addr) (c0_4 : Nat) (l0_4 : List (S64)) (A1 : Option Addr) (c1 : Nat) (l1 : List Int) (r1 : ByteArray) (r2 : List (S62)) (r3 : List (S58)) (r4 : Bool) (r5 : List (S64)) (w : World) (hs0_1 : Kd.V k62 62 w w.heap.size (fun k_ => P0_1_ k_) (.slice A0_1 l0_1.length c0_1) l0_1) (hr0_2 : Kd.C k58 w A0_2 l0_2.length l0_2) (hc0_2 : l0_2.length ≤ c0_2) (hs0_4 : Kd.V k64 64 w w.heap.size (fun k_ => P0_4_ k_) (.slice A0_4 l0_4.length c0_4) l0_4) (hr1 : Kd.C (Kd.int .i64) w A1 l1.length l1) (hc1 : l1.length ≤ c1) (h : fencepostref08_Fence.f k a0_0 l0_1 l0_2 a0_3 l0_4 l1 = some (r1, r2, r3, r4, r5)) :
 Calls Try.prog 26 #[.agg #[.string a0_0, .slice A0_1 l0_1.length c0_1, .slice A0_2 l0_2.length c0_2, .bool a0_3, .slice A0_4 l0_4.length c0_4], .slice A1 l1.length c1] w fun e w' => ∃ v1_ v2_ v4_ : Value, e = .returned (.agg #[.string r1, v1_, v2_, .bool r4, v4_]) ∧ Kd.V k62 62 w' w.heap.size (fun k_ => ((P0_1_ k_ ∨ P0_4_ k_) ∨ w.heap.size ≤ k_) ∧ some k_ ≠ (v2_ : Value).ownBlock) v1_ r2 ∧ Kd.S k58 58 w' w.heap.size (fun k_ => (w.heap.size ≤ k_)) v2_ r3 ∧ Kd.V k64 64 w' w.heap.size (fun k_ => ((P0_1_ k_ ∨ P0_4_ k_) ∨ w.heap.size ≤ k_) ∧ some k_ ≠ (v2_ : Value).ownBlock) v4_ r5 ∧ Below w.heap.size w w' := by
 have hu30 := Try.underlying30
 have hu60 := Try.underlying60
 have hu58 := Try.underlying58
 have HO0_1 := Aside0.mk (show Kd.V k62 62 w w.heap.size (fun k_ => ((P0_1_ k_ ∨ P0_4_ k_) ∨ w.heap.size ≤ k_)) (.slice A0_1 l0_1.length c0_1) l0_1 from Kd.V_mono hs0_1 (fun k_ hk => .inl (.inl hk)))
 have HR0_2 := Aside0.mk hr0_2
 have HC0_2 := Aside0.mk hc0_2
 clear hr0_2 hc0_2
 have HO0_4 := Aside0.mk (show Kd.V k64 64 w w.heap.size (fun k_ => ((P0_1_ k_ ∨ P0_4_ k_) ∨ w.heap.size ≤ k_)) (.slice A0_4 l0_4.length c0_4) l0_4 from Kd.V_mono hs0_4 (fun k_ hk => .inl (.inr hk)))
 have HR1 := Aside0.mk hr1
 have HC1 := Aside0.mk hc1
 clear hr1 hc1
 have HB := Aside0.mk (Below.refl w.heap.size w)
 have H : (fencepostref08_Fence.l0 k l1 0 0 a0_0 l0_1 l0_2 a0_3 l0_4 a0_0 l0_1 ([] : List (S58)) a0_3 l0_4) = some (r1, r2, r3, r4, r5) := h
 clear h
 have H' := Aside0.mk H
 clear H
 go_enter Try.func26, Try.ntmps26
 go_wp2_with (first | ((with_reducible refine gate_dst (N := 2) rfl ?_); refine box_event ?hg (N := 2) ?hd (cs := #[.string a0_0, .slice A0_1 l0_1.length c0_1, .slice A0_2 l0_2.length c0_2, .bool a0_3, .slice A0_4 l0_4.length c0_4]) (t := 30) ?hr ?_; (case hd => rfl); (case hg => rfl); (case hr => first | (go_simp; done) | (go_simp; rfl)); intro gb173 hg w3 hbox hb; have n0_ := Aside0.mk (Kd.V_below (Kd.V_elderB (vd_ HO0_1.out) gb173 (Nat.le_of_eq hg.symm)) hb); have n1_ := Aside0.mk (Kd.V_below (Kd.V_elderB (vd_ HO0_4.out) gb173 (Nat.le_of_eq hg.symm)) hb); have n2_ := Aside0.mk (below_step (hb_ HB.out) hb); have n3_ := Aside0.mk (hbox); have n4_ := Aside0.mk (gs_ hg (hb_ HB.out)); have n5_ := Aside0.mk (gs_ hg (hb_ HB.out)); clear HO0_1; clear HO0_4; clear HB; have HO0_1 := n0_; have HO0_4 := n1_; have HB := n2_; have BK173 := n3_; have GW173 := n4_; have GE173 := n5_; clear n0_ n1_ n2_ n3_ n4_ n5_; clear hb hbox hg) | ((with_reducible refine gate_dst (N := 4) rfl ?_); refine box_event ?hg (N := 4) ?hd (cs := #[.string (⟨#[]⟩ : ByteArray), .slice none 0 0, .slice none 0 0, .bool false, .slice none 0 0]) (t := 30) ?hr ?_; (case hd => rfl); (case hg => rfl); (case hr => first | (go_simp; done) | (go_simp; rfl)); intro gb174 hg w4 hbox hb; have n0_ := Aside0.mk (Kd.V_below (Kd.V_elderB (vd_ HO0_1.out) gb174 (Nat.le_of_eq hg.symm)) hb); have n1_ := Aside0.mk (Kd.V_below (Kd.V_elderB (vd_ HO0_4.out) gb174 (Nat.le_of_eq hg.symm)) hb); have n2_ := Aside0.mk (bb_ BK173.out hb); have n3_ := Aside0.mk (below_step (hb_ HB.out) hb); have n4_ := Aside0.mk (hbox); have n5_ := Aside0.mk (gs_ hg (hb_ HB.out)); have n6_ := Aside0.mk (gs_ hg (hb_ HB.out)); have n7_ := Aside0.mk (gn_ hg BK173.out); have n8_ := Aside0.mk (gn_ hg BK173.out).symm; clear HO0_1; clear HO0_4; clear BK173; clear HB; have HO0_1 := n0_; have HO0_4 := n1_; have BK173 := n2_; have HB := n3_; have BK174 := n4_; have GW174 := n5_; have GE174 := n6_; have NB173_174 := n7_; have NB174_173 := n8_; clear n0_ n1_ n2_ n3_ n4_ n5_ n6_ n7_ n8_; clear hb hbox hg; have hnb5 := NB173_174.out; have hnc5 := NB174_173.out; have hcz6_0 : w4.cell? ⟨gb173, 0, none⟩ = some (.string a0_0) := (blk_cell BK173.out 0).trans rfl; have hcz6_1 : w4.cell? ⟨gb173, 1, none⟩ = some (.slice A0_1 l0_1.length c0_1) := (blk_cell BK173.out 1).trans rfl; have hcz6_2 : w4.cell? ⟨gb173, 2, none⟩ = some (.slice A0_2 l0_2.length c0_2) := (blk_cell BK173.out 2).trans rfl; have hcz6_3 : w4.cell? ⟨gb173, 3, none⟩ = some (.bool a0_3) := (blk_cell BK173.out 3).trans rfl; have hcz6_4 : w4.cell? ⟨gb173, 4, none⟩ = some (.slice A0_4 l0_4.length c0_4) := (blk_cell BK173.out 4).trans rfl; have hfz6_0 := blk_frozen BK173.out 0; have hfz6_1 := blk_frozen BK173.out 1; have hfz6_2 := blk_frozen BK173.out 2; have hfz6_3 := blk_frozen BK173.out 3; have hfz6_4 := blk_frozen BK173.out 4) | ((with_reducible refine gate_dst (N := 5) rfl ?_); refine box_event ?hg (N := 5) ?hd (cs := #[.string (⟨#[]⟩ : ByteArray), .slice none 0 0, .slice none 0 0, .bool false, .slice none 0 0]) (t := 30) ?hr ?_; (case hd => rfl); (case hg => rfl); (case hr => first | (go_simp; done) | (go_simp; rfl)); intro gb175 hg w7 hbox hb; have n0_ := Aside0.mk (Kd.V_below (Kd.V_elderB (vd_ HO0_1.out) gb175 (Nat.le_of_eq hg.symm)) hb); have n1_ := Aside0.mk (Kd.V_below (Kd.V_elderB (vd_ HO0_4.out) gb175 (Nat.le_of_eq hg.symm)) hb); have n2_ := Aside0.mk (bb_ BK173.out hb); have n3_ := Aside0.mk (bb_ BK174.out hb); have n4_ := Aside0.mk (below_step (hb_ HB.out) hb); have n5_ := Aside0.mk (hbox); have n6_ := Aside0.mk (gs_ hg (hb_ HB.out)); have n7_ := Aside0.mk (gs_ hg (hb_ HB.out)); have n8_ := Aside0.mk (gn_ hg BK173.out); have n9_ := Aside0.mk (gn_ hg BK173.out).symm; have n10_ := Aside0.mk (gn_ hg BK174.out); have n11_ := Aside0.mk (gn_ hg BK174.out).symm; clear HO0_1; clear HO0_4; clear BK173; clear BK174; clear HB; have HO0_1 := n0_; have HO0_4 := n1_; have BK173 := n2_; have BK174 := n3_; have HB := n4_; have BK175 := n5_; have GW175 := n6_; have GE175 := n7_; have NB173_175 := n8_; have NB175_173 := n9_; have NB174_175 := n10_; have NB175_174 := n11_; clear n0_ n1_ n2_ n3_ n4_ n5_ n6_ n7_ n8_ n9_ n10_ n11_; clear hb hbox hg; have hnb8 := NB175_173.out; have hnc8 := NB173_175.out; have hnb9 := NB175_174.out; have hnc9 := NB174_175.out; have hcz10_0 : w7.cell? ⟨gb175, 0, none⟩ = some (.string (⟨#[]⟩ : ByteArray)) := (blk_cell BK175.out 0).trans rfl; have hcz10_1 : w7.cell? ⟨gb175, 1, none⟩ = some (.slice none 0 0) := (blk_cell BK175.out 1).trans rfl; have hcz10_2 : w7.cell? ⟨gb175, 2, none⟩ = some (.slice none 0 0) := (blk_cell BK175.out 2).trans rfl; have hcz10_3 : w7.cell? ⟨gb175, 3, none⟩ = some (.bool false) := (blk_cell BK175.out 3).trans rfl; have hcz10_4 : w7.cell? ⟨gb175, 4, none⟩ = some (.slice none 0 0) := (blk_cell BK175.out 4).trans rfl; have hfz10_0 := blk_frozen BK175.out 0; have hfz10_1 := blk_frozen BK175.out 1; have hfz10_2 := blk_frozen BK175.out 2; have hfz10_3 := blk_frozen BK175.out 3; have hfz10_4 := blk_frozen BK175.out 4))
 go_loopg [6, 7] k (fun kq v6 v7 w' => ∃ (x6_1 : Int) (x7_1 : Int) (x176002_1 : List (S58)) (u176002 : Value), v6 = .int .i64 x6_1 ∧ v7 = .int .i64 x7_1 ∧ Aside0 (fencepostref08_Fence.l0 kq l1 x6_1 x7_1 a0_0 l0_1 l0_2 a0_3 l0_4 a0_0 l0_1 x176002_1 a0_3 l0_4 = some (r1, r2, r3, r4, r5)) ∧ Aside0 (kq ≤ k) ∧ Aside0 (Kd.V k62 62 w' w.heap.size (fun k_ => ((P0_1_ k_ ∨ P0_4_ k_) ∨ w.heap.size ≤ k_) ∧ some k_ ≠ (u176002 : Value).ownBlock ∧ k_ ≠ gb173 ∧ k_ ≠ gb174 ∧ k_ ≠ gb175) (.slice A0_1 l0_1.length c0_1) l0_1) ∧ Aside0 (Kd.V k64 64 w' w.heap.size (fun k_ => ((P0_1_ k_ ∨ P0_4_ k_) ∨ w.heap.size ≤ k_) ∧ some k_ ≠ (u176002 : Value).ownBlock ∧ k_ ≠ gb173 ∧ k_ ≠ gb174 ∧ k_ ≠ gb175) (.slice A0_4 l0_4.length c0_4) l0_4) ∧ Aside0 (Kd.V k62 62 w' w.heap.size (fun k_ => ((P0_1_ k_ ∨ P0_4_ k_) ∨ w.heap.size ≤ k_) ∧ some k_ ≠ (u176002 : Value).ownBlock ∧ k_ ≠ gb173 ∧ k_ ≠ gb174 ∧ k_ ≠ gb175) (.slice A0_1 l0_1.length c0_1) l0_1) ∧ Aside0 (Kd.S k58 58 w' w.heap.size (fun k_ => (w.heap.size ≤ k_)) u176002 x176002_1) ∧ Aside0 (Kd.V k64 64 w' w.heap.size (fun k_ => ((P0_1_ k_ ∨ P0_4_ k_) ∨ w.heap.size ≤ k_) ∧ some k_ ≠ (u176002 : Value).ownBlock ∧ k_ ≠ gb173 ∧ k_ ≠ gb174 ∧ k_ ≠ gb175) (.slice A0_4 l0_4.length c0_4) l0_4) ∧ Aside0 (w'.heap[gb173]? = some (.cells #[.string a0_0, (.slice A0_1 l0_1.length c0_1), (.slice A0_2 l0_2.length c0_2), .bool a0_3, (.slice A0_4 l0_4.length c0_4)] 30 (0, 0))) ∧ Aside0 (w'.heap[gb174]? = some (.cells #[.string (⟨#[]⟩ : ByteArray), (.slice none 0 0), (.slice none 0 0), .bool false, (.slice none 0 0)] 30 (0, 0))) ∧ Aside0 (w'.heap[gb175]? = some (.cells #[.string a0_0, (.slice A0_1 l0_1.length c0_1), u176002, .bool a0_3, (.slice A0_4 l0_4.length c0_4)] 30 (0, 0))) ∧ Aside0 (Below w.heap.size w w'))
 case atStart => exact ⟨(0), (0), (([] : List (S58))), (.slice none 0 0), rf_, rf_, H', ⟨Nat.le_refl _⟩, ⟨by (with_reducible repeat (first | apply Kd.V_alloc | apply Kd.V_drewN | apply Kd.V_drew)); exact Kd.V_mono (Kd.V_far (p := ⟨gb175, 2, none⟩) (Kd.V_far (p := ⟨gb175, 4, none⟩) (Kd.V_far (p := ⟨gb175, 3, none⟩) (Kd.V_far (p := ⟨gb175, 2, none⟩) (Kd.V_far (p := ⟨gb175, 1, none⟩) (Kd.V_far (p := ⟨gb175, 0, none⟩) (Kd.V_mono HO0_1.out (fun k_ hk => (⟨hk, hk.2⟩ : _ ∧ k_ ≠ gb175))) (fun _ hk => hk.2) (.string a0_0)) (fun _ hk => hk.2) (.slice A0_1 l0_1.length c0_1)) (fun _ hk => hk.2) (.slice A0_2 l0_2.length c0_2)) (fun _ hk => hk.2) (.bool a0_3)) (fun _ hk => hk.2) (.slice A0_4 l0_4.length c0_4)) (fun _ hk => hk.2) (.slice none 0 0)) (fun _ hk => ⟨hk.1.1.1.1, ⟨(by simp [Value.ownBlock]), ⟨hk.1.1.1.2, ⟨hk.1.1.2, hk.1.2⟩⟩⟩⟩)⟩, ⟨by (with_reducible repeat (first | apply Kd.V_alloc | apply Kd.V_drewN | apply Kd.V_drew)); exact Kd.V_mono (Kd.V_far (p := ⟨gb175, 2, none⟩) (Kd.V_far (p := ⟨gb175, 4, none⟩) (Kd.V_far (p := ⟨gb175, 3, none⟩) (Kd.V_far (p := ⟨gb175, 2, none⟩) (Kd.V_far (p := ⟨gb175, 1, none⟩) (Kd.V_far (p := ⟨gb175, 0, none⟩) (Kd.V_mono HO0_4.out (fun k_ hk => (⟨hk, hk.2⟩ : _ ∧ k_ ≠ gb175))) (fun _ hk => hk.2) (.string a0_0)) (fun _ hk => hk.2) (.slice A0_1 l0_1.length c0_1)) (fun _ hk => hk.2) (.slice A0_2 l0_2.length c0_2)) (fun _ hk => hk.2) (.bool a0_3)) (fun _ hk => hk.2) (.slice A0_4 l0_4.length c0_4)) (fun _ hk => hk.2) (.slice none 0 0)) (fun _ hk => ⟨hk.1.1.1.1, ⟨(by simp [Value.ownBlock]), ⟨hk.1.1.1.2, ⟨hk.1.1.2, hk.1.2⟩⟩⟩⟩)⟩, ⟨by (with_reducible repeat (first | apply Kd.V_alloc | apply Kd.V_drewN | apply Kd.V_drew)); exact Kd.V_mono (Kd.V_far (p := ⟨gb175, 2, none⟩) (Kd.V_far (p := ⟨gb175, 4, none⟩) (Kd.V_far (p := ⟨gb175, 3, none⟩) (Kd.V_far (p := ⟨gb175, 2, none⟩) (Kd.V_far (p := ⟨gb175, 1, none⟩) (Kd.V_far (p := ⟨gb175, 0, none⟩) (Kd.V_mono HO0_1.out (fun k_ hk => (⟨hk, hk.2⟩ : _ ∧ k_ ≠ gb175))) (fun _ hk => hk.2) (.string a0_0)) (fun _ hk => hk.2) (.slice A0_1 l0_1.length c0_1)) (fun _ hk => hk.2) (.slice A0_2 l0_2.length c0_2)) (fun _ hk => hk.2) (.bool a0_3)) (fun _ hk => hk.2) (.slice A0_4 l0_4.length c0_4)) (fun _ hk => hk.2) (.slice none 0 0)) (fun _ hk => ⟨hk.1.1.1.1, ⟨(by simp [Value.ownBlock]), ⟨hk.1.1.1.2, ⟨hk.1.1.2, hk.1.2⟩⟩⟩⟩)⟩, ⟨by first | exact Kd.S_nil _ _ _ _ _ | exact Kd.N_nil _ _ _ _ _ | exact Kd.V_nil _ _ _ _ _ | exact Kd.Q_nil _ _ _ _ _ | exact Kd.R_nil _ _ _ _ _⟩, ⟨by (with_reducible repeat (first | apply Kd.V_alloc | apply Kd.V_drewN | apply Kd.V_drew)); exact Kd.V_mono (Kd.V_far (p := ⟨gb175, 2, none⟩) (Kd.V_far (p := ⟨gb175, 4, none⟩) (Kd.V_far (p := ⟨gb175, 3, none⟩) (Kd.V_far (p := ⟨gb175, 2, none⟩) (Kd.V_far (p := ⟨gb175, 1, none⟩) (Kd.V_far (p := ⟨gb175, 0, none⟩) (Kd.V_mono HO0_4.out (fun k_ hk => (⟨hk, hk.2⟩ : _ ∧ k_ ≠ gb175))) (fun _ hk => hk.2) (.string a0_0)) (fun _ hk => hk.2) (.slice A0_1 l0_1.length c0_1)) (fun _ hk => hk.2) (.slice A0_2 l0_2.length c0_2)) (fun _ hk => hk.2) (.bool a0_3)) (fun _ hk => hk.2) (.slice A0_4 l0_4.length c0_4)) (fun _ hk => hk.2) (.slice none 0 0)) (fun _ hk => ⟨hk.1.1.1.1, ⟨(by simp [Value.ownBlock]), ⟨hk.1.1.1.2, ⟨hk.1.1.2, hk.1.2⟩⟩⟩⟩)⟩, ⟨by (with_reducible repeat (first | refine blk_drewN ?_ _ | refine blk_drew ?_ | refine blk_alloc ?_ _)); refine blk_far ?_ NB173_175.out _; (with_reducible repeat (first | refine blk_drewN ?_ _ | refine blk_drew ?_ | refine blk_alloc ?_ _)); refine blk_far ?_ NB173_175.out _; (with_reducible repeat (first | refine blk_drewN ?_ _ | refine blk_drew ?_ | refine blk_alloc ?_ _)); refine blk_far ?_ NB173_175.out _; (with_reducible repeat (first | refine blk_drewN ?_ _ | refine blk_drew ?_ | refine blk_alloc ?_ _)); refine blk_far ?_ NB173_175.out _; (with_reducible repeat (first | refine blk_drewN ?_ _ | refine blk_drew ?_ | refine blk_alloc ?_ _)); refine blk_far ?_ NB173_175.out _; (with_reducible repeat (first | refine blk_drewN ?_ _ | refine blk_drew ?_ | refine blk_alloc ?_ _)); refine blk_far ?_ NB173_175.out _; (with_reducible repeat (first | refine blk_drewN ?_ _ | refine blk_drew ?_ | refine blk_alloc ?_ _)); exact BK173.out⟩, ⟨by (with_reducible repeat (first | refine blk_drewN ?_ _ | refine blk_drew ?_ | refine blk_alloc ?_ _)); refine blk_far ?_ NB174_175.out _; (with_reducible repeat (first | refine blk_drewN ?_ _ | refine blk_drew ?_ | refine blk_alloc ?_ _)); refine blk_far ?_ NB174_175.out _; (with_reducible repeat (first | refine blk_drewN ?_ _ | refine blk_drew ?_ | refine blk_alloc ?_ _)); refine blk_far ?_ NB174_175.out _; (with_reducible repeat (first | refine blk_drewN ?_ _ | refine blk_drew ?_ | refine blk_alloc ?_ _)); refine blk_far ?_ NB174_175.out _; (with_reducible repeat (first | refine blk_drewN ?_ _ | refine blk_drew ?_ | refine blk_alloc ?_ _)); refine blk_far ?_ NB174_175.out _; (with_reducible repeat (first | refine blk_drewN ?_ _ | refine blk_drew ?_ | refine blk_alloc ?_ _)); refine blk_far ?_ NB174_175.out _; (with_reducible repeat (first | refine blk_drewN ?_ _ | refine blk_drew ?_ | refine blk_alloc ?_ _)); exact BK174.out⟩, ⟨by (with_reducible repeat (first | refine blk_drewN ?_ _ | refine blk_drew ?_ | refine blk_alloc ?_ _)); refine blk_put (cs := #[.string a0_0, .slice A0_1 l0_1.length c0_1, .slice A0_2 l0_2.length c0_2, .bool a0_3, .slice A0_4 l0_4.length c0_4]) ?_ 2 _ rfl; (with_reducible repeat (first | refine blk_drewN ?_ _ | refine blk_drew ?_ | refine blk_alloc ?_ _)); refine blk_put (cs := #[.string a0_0, .slice A0_1 l0_1.length c0_1, .slice A0_2 l0_2.length c0_2, .bool a0_3, .slice none 0 0]) ?_ 4 _ rfl; (with_reducible repeat (first | refine blk_drewN ?_ _ | refine blk_drew ?_ | refine blk_alloc ?_ _)); refine blk_put (cs := #[.string a0_0, .slice A0_1 l0_1.length c0_1, .slice A0_2 l0_2.length c0_2, .bool false, .slice none 0 0]) ?_ 3 _ rfl; (with_reducible repeat (first | refine blk_drewN ?_ _ | refine blk_drew ?_ | refine blk_alloc ?_ _)); refine blk_put (cs := #[.string a0_0, .slice A0_1 l0_1.length c0_1, .slice none 0 0, .bool false, .slice none 0 0]) ?_ 2 _ rfl; (with_reducible repeat (first | refine blk_drewN ?_ _ | refine blk_drew ?_ | refine blk_alloc ?_ _)); refine blk_put (cs := #[.string a0_0, .slice none 0 0, .slice none 0 0, .bool false, .slice none 0 0]) ?_ 1 _ rfl; (with_reducible repeat (first | refine blk_drewN ?_ _ | refine blk_drew ?_ | refine blk_alloc ?_ _)); refine blk_put (cs := #[.string (⟨#[]⟩ : ByteArray), .slice none 0 0, .slice none 0 0, .bool false, .slice none 0 0]) ?_ 0 _ rfl; (with_reducible repeat (first | refine blk_drewN ?_ _ | refine blk_drew ?_ | refine blk_alloc ?_ _)); exact BK175.out⟩, ⟨hb_ HB.out⟩⟩
 clear H'
 try clear c1
 try clear hcz10_0
 try clear hcz10_1
 try clear hcz10_2
 try clear hcz10_3
 try clear hcz10_4
 try clear hcz6_0
 try clear hcz6_1
 try clear hcz6_2
 try clear hcz6_3
 try clear hcz6_4
 try clear hfz10_0
 try clear hfz10_1
 try clear hfz10_2
 try clear hfz10_3
 try clear hfz10_4
 try clear hfz6_0
 try clear hfz6_1
 try clear hfz6_2
 try clear hfz6_3
 try clear hfz6_4
 obtain ⟨x6_1, x7_1, x176002_1, u176002, rfl, rfl, HA, HK1, HO_174001, HO_174004, HO_176001, HO_176002, HO_176004, BK173, BK174, BK175, HB⟩ := hrel
 cases gk with
 | zero => exact absurd HA.out (by simp [fencepostref08_Fence.l0])
 | succ k1 => ?_
 have H := HA.out
 clear HA
 simp only [fencepostref08_Fence.l0] at H
 by_cases c11 : x7_1 < (l0_2.length : Int)
 rotate_left
 ·rw [if_neg c11] at H
  have c11b0 : decide (x7_1 < (l0_2.length : Int)) = false := decide_eq_false c11
  clear c11
  simp only [Option.some.injEq, Prod.mk.injEq] at H
  obtain ⟨rfl, rfl, rfl, rfl, rfl⟩ := H
  have hnb65 := NB173_174.out
  have hnc65 := NB174_173.out
  have hnb66 := NB173_175.out
  have hnc66 := NB175_173.out
  have hcz67_0 : wr.cell? ⟨gb173, 0, none⟩ = some (.string a0_0) := (blk_cell BK173.out 0).trans rfl
  have hcz67_1 : wr.cell? ⟨gb173, 1, none⟩ = some (.slice A0_1 l0_1.length c0_1) := (blk_cell BK173.out 1).trans rfl
  have hcz67_2 : wr.cell? ⟨gb173, 2, none⟩ = some (.slice A0_2 l0_2.length c0_2) := (blk_cell BK173.out 2).trans rfl
  have hcz67_3 : wr.cell? ⟨gb173, 3, none⟩ = some (.bool a0_3) := (blk_cell BK173.out 3).trans rfl
  have hcz67_4 : wr.cell? ⟨gb173, 4, none⟩ = some (.slice A0_4 l0_4.length c0_4) := (blk_cell BK173.out 4).trans rfl
  have hfz67_0 := blk_frozen BK173.out 0
  have hfz67_1 := blk_frozen BK173.out 1
  have hfz67_2 := blk_frozen BK173.out 2
  have hfz67_3 := blk_frozen BK173.out 3
  have hfz67_4 := blk_frozen BK173.out 4
  have hnb68 := NB175_174.out
  have hnc68 := NB174_175.out
  have hcz69_0 : wr.cell? ⟨gb175, 0, none⟩ = some (.string a0_0) := (blk_cell BK175.out 0).trans rfl
  have hcz69_1 : wr.cell? ⟨gb175, 1, none⟩ = some (.slice A0_1 l0_1.length c0_1) := (blk_cell BK175.out 1).trans rfl
  have hcz69_2 : wr.cell? ⟨gb175, 2, none⟩ = some (u176002) := (blk_cell BK175.out 2).trans rfl
  have hcz69_3 : wr.cell? ⟨gb175, 3, none⟩ = some (.bool a0_3) := (blk_cell BK175.out 3).trans rfl
  have hcz69_4 : wr.cell? ⟨gb175, 4, none⟩ = some (.slice A0_4 l0_4.length c0_4) := (blk_cell BK175.out 4).trans rfl
  have hfz69_0 := blk_frozen BK175.out 0
  have hfz69_1 := blk_frozen BK175.out 1
  have hfz69_2 := blk_frozen BK175.out 2
  have hfz69_3 := blk_frozen BK175.out 3
  have hfz69_4 := blk_frozen BK175.out 4
  have hcz70_0 : wr.cell? ⟨gb174, 0, none⟩ = some (.string (⟨#[]⟩ : ByteArray)) := (blk_cell BK174.out 0).trans rfl
  have hcz70_1 : wr.cell? ⟨gb174, 1, none⟩ = some (.slice none 0 0) := (blk_cell BK174.out 1).trans rfl
  have hcz70_2 : wr.cell? ⟨gb174, 2, none⟩ = some (.slice none 0 0) := (blk_cell BK174.out 2).trans rfl
  have hcz70_3 : wr.cell? ⟨gb174, 3, none⟩ = some (.bool false) := (blk_cell BK174.out 3).trans rfl
  have hcz70_4 : wr.cell? ⟨gb174, 4, none⟩ = some (.slice none 0 0) := (blk_cell BK174.out 4).trans rfl
  have hfz70_0 := blk_frozen BK174.out 0
  have hfz70_1 := blk_frozen BK174.out 1
  have hfz70_2 := blk_frozen BK174.out 2
  have hfz70_3 := blk_frozen BK174.out 3
  have hfz70_4 := blk_frozen BK174.out 4
  obtain ⟨Ao71, co71, eo71⟩ := Kd.S_slice HO_176002.out
  subst eo71
  go_wp2
  refine bodyPost_ret (results_cell_row rfl _ _ gb174 30 #[.string a0_0, .slice A0_1 l0_1.length c0_1, .slice Ao71 x176002_1.length co71, .bool a0_3, .slice A0_4 l0_4.length c0_4] (0, 0) _ rfl (by exact bp5_ BK174.out) Try.underlying30 rfl (by kernel_rfl)) rfl ?_
  exact ⟨_, _, _, by first | rfl | (simp [errW_none, errW_some] <;> rfl) | (simp [*, errW_none, errW_some] <;> rfl), by (with_reducible repeat (first | apply Kd.V_alloc | apply Kd.V_drewN | apply Kd.V_drew)); exact Kd.V_mono (Kd.V_far (p := ⟨gb174, 4, none⟩) (Kd.V_far (p := ⟨gb174, 3, none⟩) (Kd.V_far (p := ⟨gb174, 2, none⟩) (Kd.V_far (p := ⟨gb174, 1, none⟩) (Kd.V_far (p := ⟨gb174, 0, none⟩) (Kd.V_mono HO_176001.out (fun k_ hk => (⟨hk, hk.2.2.2.1⟩ : _ ∧ k_ ≠ gb174))) (fun _ hk => hk.2) (.string a0_0)) (fun _ hk => hk.2) (.slice A0_1 l0_1.length c0_1)) (fun _ hk => hk.2) (.slice Ao71 x176002_1.length co71)) (fun _ hk => hk.2) (.bool a0_3)) (fun _ hk => hk.2) (.slice A0_4 l0_4.length c0_4)) (fun _ hk => ⟨hk.1.1, hk.1.2.1⟩), by (with_reducible repeat (first | apply Kd.S_alloc | apply Kd.S_drewN | apply Kd.S_drew)); exact Kd.S_mono (Kd.S_far (p := ⟨gb174, 4, none⟩) (Kd.S_far (p := ⟨gb174, 3, none⟩) (Kd.S_far (p := ⟨gb174, 2, none⟩) (Kd.S_far (p := ⟨gb174, 1, none⟩) (Kd.S_far (p := ⟨gb174, 0, none⟩) (Kd.S_types HO_176002.out BK174.out (by decide)) (fun _ hk => hk.2) (.string a0_0)) (fun _ hk => hk.2) (.slice A0_1 l0_1.length c0_1)) (fun _ hk => hk.2) (.slice Ao71 x176002_1.length co71)) (fun _ hk => hk.2) (.bool a0_3)) (fun _ hk => hk.2) (.slice A0_4 l0_4.length c0_4)) (fun _ hk => hk.1), by (with_reducible repeat (first | apply Kd.V_alloc | apply Kd.V_drewN | apply Kd.V_drew)); exact Kd.V_mono (Kd.V_far (p := ⟨gb174, 4, none⟩) (Kd.V_far (p := ⟨gb174, 3, none⟩) (Kd.V_far (p := ⟨gb174, 2, none⟩) (Kd.V_far (p := ⟨gb174, 1, none⟩) (Kd.V_far (p := ⟨gb174, 0, none⟩) (Kd.V_mono HO_176004.out (fun k_ hk => (⟨hk, hk.2.2.2.1⟩ : _ ∧ k_ ≠ gb174))) (fun _ hk => hk.2) (.string a0_0)) (fun _ hk => hk.2) (.slice A0_1 l0_1.length c0_1)) (fun _ hk => hk.2) (.slice Ao71 x176002_1.length co71)) (fun _ hk => hk.2) (.bool a0_3)) (fun _ hk => hk.2) (.slice A0_4 l0_4.length c0_4)) (fun _ hk => ⟨hk.1.1, hk.1.2.1⟩), hb_ HB.out⟩
 rw [if_pos c11] at H
 have c11b0 : decide (x7_1 < (l0_2.length : Int)) = true := decide_eq_true c11
 clear c11
 have H' := Aside0.mk H
 clear H
 have hnb12 := NB173_174.out
 have hnc12 := NB174_173.out
 have hnb13 := NB173_175.out
 have hnc13 := NB175_173.out
 have hcz14_0 : wr.cell? ⟨gb173, 0, none⟩ = some (.string a0_0) := (blk_cell BK173.out 0).trans rfl
 have hcz14_1 : wr.cell? ⟨gb173, 1, none⟩ = some (.slice A0_1 l0_1.length c0_1) := (blk_cell BK173.out 1).trans rfl
 have hcz14_2 : wr.cell? ⟨gb173, 2, none⟩ = some (.slice A0_2 l0_2.length c0_2) := (blk_cell BK173.out 2).trans rfl
 have hcz14_3 : wr.cell? ⟨gb173, 3, none⟩ = some (.bool a0_3) := (blk_cell BK173.out 3).trans rfl
 have hcz14_4 : wr.cell? ⟨gb173, 4, none⟩ = some (.slice A0_4 l0_4.length c0_4) := (blk_cell BK173.out 4).trans rfl
 have hfz14_0 := blk_frozen BK173.out 0
 have hfz14_1 := blk_frozen BK173.out 1
 have hfz14_2 := blk_frozen BK173.out 2
 have hfz14_3 := blk_frozen BK173.out 3
 have hfz14_4 := blk_frozen BK173.out 4
 go_wp2
 go_loopg [6, 8, 9] k1 (fun kq v6 v8 v9 w' => ∃ (x6_2 : Int) (x8_2 : List (S60)) (x9_2 : Int), v6 = .int .i64 x6_2 ∧ v9 = .int .i64 x9_2 ∧ Aside0 (fencepostref08_Fence.l1 kq l1 x6_2 x7_1 x8_2 x9_2 a0_0 l0_1 l0_2 a0_3 l0_4 a0_0 l0_1 x176002_1 a0_3 l0_4 = some (r1, r2, r3, r4, r5)) ∧ Aside0 (kq ≤ k1) ∧ Aside0 (Kd.R k60 60 w' w.heap.size (fun k_ => (w.heap.size ≤ k_)) v8 x8_2) ∧ Aside0 (Kd.V k62 62 w' w.heap.size (fun k_ => ((P0_1_ k_ ∨ P0_4_ k_) ∨ w.heap.size ≤ k_) ∧ some k_ ≠ (v8 : Value).ownBlock ∧ some k_ ≠ (u176002 : Value).ownBlock ∧ k_ ≠ gb173 ∧ k_ ≠ gb174 ∧ k_ ≠ gb175) (.slice A0_1 l0_1.length c0_1) l0_1) ∧ Aside0 (Kd.V k64 64 w' w.heap.size (fun k_ => ((P0_1_ k_ ∨ P0_4_ k_) ∨ w.heap.size ≤ k_) ∧ some k_ ≠ (v8 : Value).ownBlock ∧ some k_ ≠ (u176002 : Value).ownBlock ∧ k_ ≠ gb173 ∧ k_ ≠ gb174 ∧ k_ ≠ gb175) (.slice A0_4 l0_4.length c0_4) l0_4) ∧ Aside0 (Kd.V k62 62 w' w.heap.size (fun k_ => ((P0_1_ k_ ∨ P0_4_ k_) ∨ w.heap.size ≤ k_) ∧ some k_ ≠ (v8 : Value).ownBlock ∧ some k_ ≠ (u176002 : Value).ownBlock ∧ k_ ≠ gb173 ∧ k_ ≠ gb174 ∧ k_ ≠ gb175) (.slice A0_1 l0_1.length c0_1) l0_1) ∧ Aside0 (Kd.S k58 58 w' w.heap.size (fun k_ => (w.heap.size ≤ k_) ∧ some k_ ≠ (v8 : Value).ownBlock) u176002 x176002_1) ∧ Aside0 (Kd.V k64 64 w' w.heap.size (fun k_ => ((P0_1_ k_ ∨ P0_4_ k_) ∨ w.heap.size ≤ k_) ∧ some k_ ≠ (v8 : Value).ownBlock ∧ some k_ ≠ (u176002 : Value).ownBlock ∧ k_ ≠ gb173 ∧ k_ ≠ gb174 ∧ k_ ≠ gb175) (.slice A0_4 l0_4.length c0_4) l0_4) ∧ Aside0 (w'.heap[gb173]? = some (.cells #[.string a0_0, (.slice A0_1 l0_1.length c0_1), (.slice A0_2 l0_2.length c0_2), .bool a0_3, (.slice A0_4 l0_4.length c0_4)] 30 (0, 0))) ∧ Aside0 (w'.heap[gb174]? = some (.cells #[.string (⟨#[]⟩ : ByteArray), (.slice none 0 0), (.slice none 0 0), .bool false, (.slice none 0 0)] 30 (0, 0))) ∧ Aside0 (w'.heap[gb175]? = some (.cells #[.string a0_0, (.slice A0_1 l0_1.length c0_1), u176002, .bool a0_3, (.slice A0_4 l0_4.length c0_4)] 30 (0, 0))) ∧ Aside0 (Below w.heap.size w w'))
 case atStart => exact ⟨(x6_1), (([] : List (S60))), (0), rf_, rf_, H', ⟨Nat.le_refl _⟩, ⟨by first | exact Kd.R_nil _ _ _ _ _ | exact Kd.N_nil _ _ _ _ _ | exact Kd.V_nil _ _ _ _ _ | exact Kd.Q_nil _ _ _ _ _ | exact Kd.S_nil _ _ _ _ _⟩, ⟨by (with_reducible repeat (first | apply Kd.V_alloc | apply Kd.V_drewN | apply Kd.V_drew)); exact Kd.V_mono HO_174001.out (fun _ hk => ⟨hk.1, ⟨(by simp [Value.ownBlock]), ⟨hk.2.1, ⟨hk.2.2.1, ⟨hk.2.2.2.1, hk.2.2.2.2⟩⟩⟩⟩⟩)⟩, ⟨by (with_reducible repeat (first | apply Kd.V_alloc | apply Kd.V_drewN | apply Kd.V_drew)); exact Kd.V_mono HO_174004.out (fun _ hk => ⟨hk.1, ⟨(by simp [Value.ownBlock]), ⟨hk.2.1, ⟨hk.2.2.1, ⟨hk.2.2.2.1, hk.2.2.2.2⟩⟩⟩⟩⟩)⟩, ⟨by (with_reducible repeat (first | apply Kd.V_alloc | apply Kd.V_drewN | apply Kd.V_drew)); exact Kd.V_mono HO_176001.out (fun _ hk => ⟨hk.1, ⟨(by simp [Value.ownBlock]), ⟨hk.2.1, ⟨hk.2.2.1, ⟨hk.2.2.2.1, hk.2.2.2.2⟩⟩⟩⟩⟩)⟩, ⟨by (with_reducible repeat (first | apply Kd.S_alloc | apply Kd.S_drewN | apply Kd.S_drew)); exact Kd.S_mono HO_176002.out (fun _ hk => ⟨hk, (by simp [Value.ownBlock])⟩)⟩, ⟨by (with_reducible repeat (first | apply Kd.V_alloc | apply Kd.V_drewN | apply Kd.V_drew)); exact Kd.V_mono HO_176004.out (fun _ hk => ⟨hk.1, ⟨(by simp [Value.ownBlock]), ⟨hk.2.1, ⟨hk.2.2.1, ⟨hk.2.2.2.1, hk.2.2.2.2⟩⟩⟩⟩⟩)⟩, ⟨bd_ BK173.out⟩, ⟨bd_ BK174.out⟩, ⟨bd_ BK175.out⟩, ⟨hb_ HB.out⟩⟩
 clear H'
 try clear c1
 try clear c11
 try clear c11b0
 try clear hcz10_0
 try clear hcz10_1
 try clear hcz10_2
 try clear hcz10_3
 try clear hcz10_4
 try clear hcz14_0
 try clear hcz14_1
 try clear hcz14_2
 try clear hcz14_3
 try clear hcz14_4
 try clear hcz6_0
 try clear hcz6_1
 try clear hcz6_2
 try clear hcz6_3
 try clear hcz6_4
 try clear hfz10_0
 try clear hfz10_1
 try clear hfz10_2
 try clear hfz10_3
 try clear hfz10_4
 try clear hfz14_0
 try clear hfz14_1
 try clear hfz14_2
 try clear hfz14_3
 try clear hfz14_4
 try clear hfz6_0
 try clear hfz6_1
 try clear hfz6_2
 try clear hfz6_3
 try clear hfz6_4
 obtain ⟨x6_2, x8_2, x9_2, rfl, rfl, HA, HK2, HO_8, HO_174001, HO_174004, HO_176001, HO_176002, HO_176004, BK173, BK174, BK175, HB⟩ := hrel
 cases gk with
 | zero => exact absurd HA.out (by simp [fencepostref08_Fence.l1])
 | succ k2 => ?_
 have H := HA.out
 clear HA
 simp only [fencepostref08_Fence.l1] at H
 by_cases c15 : 0 ≤ x7_1
 rotate_left
 ·rw [if_neg c15] at H
  exact absurd H (by simp)
 rw [if_pos c15] at H
 have c15b0 : decide (0 ≤ x7_1) = true := decide_eq_true c15
 clear c15
 by_cases c16 : x7_1 < (l0_2.length : Int)
 rotate_left
 ·rw [if_neg c16] at H
  exact absurd H (by simp)
 rw [if_pos c16] at H
 have c16b0 : decide (x7_1 < (l0_2.length : Int)) = true := decide_eq_true c16
 clear c16
 by_cases c17 : x9_2 < (((rd_T58 l0_2 x7_1).f0).length : Int)
 rotate_left
 ·rw [if_neg c17] at H
  have c17b0 : decide (x9_2 < (((rd_T58 l0_2 x7_1).f0).length : Int)) = false := decide_eq_false c17
  clear c17
  by_cases c55 : x176002_1.length < 5864062014805
  rotate_left
  ·rw [if_neg c55] at H
   exact absurd H (by simp)
  rw [if_pos c55] at H
  have LMc55 := Aside0.mk c55
  clear c55
  obtain ⟨y177, hy177⟩ : ∃ y_ : List (S58), y_ = (x176002_1 ++ [(⟨x8_2⟩ : S58)]) := ⟨_, rfl⟩
  replace H : (fencepostref08_Fence.l0 k2 l1 x6_2 (wrap64 (x7_1 + 1)) a0_0 l0_1 l0_2 a0_3 l0_4 a0_0 l0_1 y177 a0_3 l0_4) = some (r1, r2, r3, r4, r5) := by first | (rw [hy177]; with_reducible exact H) | (have H2_ := (Option.bind_some _ _).symm.trans H; rw [hy177]; with_reducible exact H2_) | (have H2_ := (Option.bind_some _ _).symm.trans H; with_reducible exact H2_) | with_reducible exact H | (rw [hy177]; exact H) | exact H
  have Ny177 := Aside0.mk hy177
  clear hy177
  have H' := Aside0.mk H
  clear H
  have hnb56 := NB173_174.out
  have hnc56 := NB174_173.out
  have hnb57 := NB173_175.out
  have hnc57 := NB175_173.out
  have hcz58_0 : wr.cell? ⟨gb173, 0, none⟩ = some (.string a0_0) := (blk_cell BK173.out 0).trans rfl
  have hcz58_1 : wr.cell? ⟨gb173, 1, none⟩ = some (.slice A0_1 l0_1.length c0_1) := (blk_cell BK173.out 1).trans rfl
  have hcz58_2 : wr.cell? ⟨gb173, 2, none⟩ = some (.slice A0_2 l0_2.length c0_2) := (blk_cell BK173.out 2).trans rfl
  have hcz58_3 : wr.cell? ⟨gb173, 3, none⟩ = some (.bool a0_3) := (blk_cell BK173.out 3).trans rfl
  have hcz58_4 : wr.cell? ⟨gb173, 4, none⟩ = some (.slice A0_4 l0_4.length c0_4) := (blk_cell BK173.out 4).trans rfl
  have hfz58_0 := blk_frozen BK173.out 0
  have hfz58_1 := blk_frozen BK173.out 1
  have hfz58_2 := blk_frozen BK173.out 2
  have hfz58_3 := blk_frozen BK173.out 3
  have hfz58_4 := blk_frozen BK173.out 4
  have p176 : 0 ≤ (x7_1 : Int) := of_decide_eq_true as_
  have q176 : x7_1 < (l0_2.length : Int) := of_decide_eq_true as_
  obtain ⟨ad176, A176_0, c176_0, e176, hx176_0, hl176_0, hi176_0⟩ := at_T58 HR0_2.out x7_1 p176 q176
  cases e176
  replace hx176_0 := cl_ HB.out hx176_0
  have HR176_0 := Aside0.mk hi176_0
  have HC176_0 := Aside0.mk hl176_0
  clear hi176_0 hl176_0
  replace p176 := eq_true p176
  replace q176 := eq_true q176
  have hnb59 := NB175_174.out
  have hnc59 := NB174_175.out
  have hcz60_0 : wr.cell? ⟨gb175, 0, none⟩ = some (.string a0_0) := (blk_cell BK175.out 0).trans rfl
  have hcz60_1 : wr.cell? ⟨gb175, 1, none⟩ = some (.slice A0_1 l0_1.length c0_1) := (blk_cell BK175.out 1).trans rfl
  have hcz60_2 : wr.cell? ⟨gb175, 2, none⟩ = some (u176002) := (blk_cell BK175.out 2).trans rfl
  have hcz60_3 : wr.cell? ⟨gb175, 3, none⟩ = some (.bool a0_3) := (blk_cell BK175.out 3).trans rfl
  have hcz60_4 : wr.cell? ⟨gb175, 4, none⟩ = some (.slice A0_4 l0_4.length c0_4) := (blk_cell BK175.out 4).trans rfl
  have hfz60_0 := blk_frozen BK175.out 0
  have hfz60_1 := blk_frozen BK175.out 1
  have hfz60_2 := blk_frozen BK175.out 2
  have hfz60_3 := blk_frozen BK175.out 3
  have hfz60_4 := blk_frozen BK175.out 4
  obtain ⟨Ao61, co61, eo61⟩ := Kd.R_slice HO_8.out
  subst eo61
  go_wp2_with (first | ((with_reducible refine gate_builtin (b := .append) (xs := #[.tmp 57, .tmp 60]) rfl ?_); at_builtin; refine Kd.S_append k58 (w0 := w) w.heap.size rfl (.tmp 57) (.tmp 60) 27 58 (.agg #[(.slice none 0 0)]) 24 rfl Try.underlying27 info58 rfl (by decide) (by omega) u176002 x176002_1 (⟨x8_2⟩ : S58) [.slice Ao61 x8_2.length co61] (fun k_ => (w.heap.size ≤ k_)) (fun k_ => some k_ = (.slice Ao61 x8_2.length co61 : Value).ownBlock) rfl rfl ?aP (fun k_ hk_ => ((Kd.R_mono (ok' := fun k_ => ((fun k_ => (w.heap.size ≤ k_))) k_ ∧ some k_ ≠ (u176002 : Value).ownBlock) (Kd.R_apart' (HO_8.out) (Kd.S_typed HO_176002.out) (by decide)) (fun k_ hk => ⟨hk.1, hk.2⟩))).1 k_ hk_.symm) ?aF ?aO ?aB ?aS ?aL ?_; (case aP => exact k58_mkM _ _ _ (⟨x8_2⟩ : S58) (Kd.R_mono (Kd.R_tight rfl (Kd.R_mono (ok' := fun k_ => ((fun k_ => (w.heap.size ≤ k_))) k_ ∧ some k_ ≠ (u176002 : Value).ownBlock) (Kd.R_apart' (HO_8.out) (Kd.S_typed HO_176002.out) (by decide)) (fun k_ hk => ⟨hk.1, hk.2⟩))) (fun _ h_ => h_))); (case aB => exact (hb_ HB.out)); (case aF => exact (fun k_ hk => (Nat.le_trans (below_size (hb_ HB.out)) hk))); (case aO => exact (by (with_reducible repeat (first | apply Kd.S_alloc | apply Kd.S_drewN | apply Kd.S_drew)); exact Kd.S_mono HO_176002.out (fun k_ hk => ⟨hk.1, fun e_ => hk.2 e_⟩))); (case aS => exact (below_size (hb_ HB.out))); (case aL => have := LMc55.out; omega); intro v178 w62 ho hb hg hat; rw [← Ny177.out] at ho; have n0_ := Aside0.mk (Kd.V_afterv (ok := (fun k_ => ((P0_1_ k_ ∨ P0_4_ k_) ∨ w.heap.size ≤ k_) ∧ some k_ ≠ (.slice Ao61 x8_2.length co61 : Value).ownBlock ∧ k_ ≠ gb173 ∧ k_ ≠ gb174 ∧ k_ ≠ gb175)) (by (with_reducible repeat (first | apply Kd.V_alloc | apply Kd.V_drewN | apply Kd.V_drew)); exact Kd.V_mono HO_174001.out (fun _ hk => ⟨⟨hk.1, ⟨hk.2.1, ⟨hk.2.2.2.1, ⟨hk.2.2.2.2.1, hk.2.2.2.2.2⟩⟩⟩⟩, hk.2.2.1⟩)) hg hat); have n1_ := Aside0.mk (Kd.V_afterv (ok := (fun k_ => ((P0_1_ k_ ∨ P0_4_ k_) ∨ w.heap.size ≤ k_) ∧ some k_ ≠ (.slice Ao61 x8_2.length co61 : Value).ownBlock ∧ k_ ≠ gb173 ∧ k_ ≠ gb174 ∧ k_ ≠ gb175)) (by (with_reducible repeat (first | apply Kd.V_alloc | apply Kd.V_drewN | apply Kd.V_drew)); exact Kd.V_mono HO_174004.out (fun _ hk => ⟨⟨hk.1, ⟨hk.2.1, ⟨hk.2.2.2.1, ⟨hk.2.2.2.2.1, hk.2.2.2.2.2⟩⟩⟩⟩, hk.2.2.1⟩)) hg hat); have n2_ := Aside0.mk (Kd.V_afterv (ok := (fun k_ => ((P0_1_ k_ ∨ P0_4_ k_) ∨ w.heap.size ≤ k_) ∧ some k_ ≠ (.slice Ao61 x8_2.length co61 : Value).ownBlock ∧ k_ ≠ gb173 ∧ k_ ≠ gb174 ∧ k_ ≠ gb175)) (by (with_reducible repeat (first | apply Kd.V_alloc | apply Kd.V_drewN | apply Kd.V_drew)); exact Kd.V_mono HO_176001.out (fun _ hk => ⟨⟨hk.1, ⟨hk.2.1, ⟨hk.2.2.2.1, ⟨hk.2.2.2.2.1, hk.2.2.2.2.2⟩⟩⟩⟩, hk.2.2.1⟩)) hg hat); have n3_ := Aside0.mk (Kd.V_afterv (ok := (fun k_ => ((P0_1_ k_ ∨ P0_4_ k_) ∨ w.heap.size ≤ k_) ∧ some k_ ≠ (.slice Ao61 x8_2.length co61 : Value).ownBlock ∧ k_ ≠ gb173 ∧ k_ ≠ gb174 ∧ k_ ≠ gb175)) (by (with_reducible repeat (first | apply Kd.V_alloc | apply Kd.V_drewN | apply Kd.V_drew)); exact Kd.V_mono HO_176004.out (fun _ hk => ⟨⟨hk.1, ⟨hk.2.1, ⟨hk.2.2.2.1, ⟨hk.2.2.2.2.1, hk.2.2.2.2.2⟩⟩⟩⟩, hk.2.2.1⟩)) hg hat); have n4_ := Aside0.mk (blk_grown (g := gb173) (o := .cells #[.string a0_0, .slice A0_1 l0_1.length c0_1, .slice (some ad176) l0_2.length c0_2, .bool a0_3, .slice A0_4 l0_4.length c0_4] 30 (0, 0)) (bd_ BK173.out) hg (Kd.S_ne HO_176002.out BK173.out (by decide))); have n5_ := Aside0.mk (blk_grown (g := gb174) (o := .cells #[.string (⟨#[]⟩ : ByteArray), .slice none 0 0, .slice none 0 0, .bool false, .slice none 0 0] 30 (0, 0)) (bd_ BK174.out) hg (Kd.S_ne HO_176002.out BK174.out (by decide))); have n6_ := Aside0.mk (blk_grown (g := gb175) (o := .cells #[.string a0_0, .slice A0_1 l0_1.length c0_1, u176002, .bool a0_3, .slice A0_4 l0_4.length c0_4] 30 (0, 0)) (bd_ BK175.out) hg (Kd.S_ne HO_176002.out BK175.out (by decide))); have n7_ := Aside0.mk (hb); have n8_ := Aside0.mk (ho); clear HO_174001; clear HO_174004; clear HO_176001; clear HO_176004; clear BK173; clear BK174; clear BK175; clear HB; clear HO_176002; clear HO_8; have HO_174001 := n0_; have HO_174004 := n1_; have HO_176001 := n2_; have HO_176004 := n3_; have BK173 := n4_; have BK174 := n5_; have BK175 := n6_; have HB := n7_; have HO179 := n8_; clear n0_ n1_ n2_ n3_ n4_ n5_ n6_ n7_ n8_; clear ho hb hg hat; obtain ⟨Ao63, co63, eo63⟩ := Kd.S_slice HO179.out; subst eo63; have hcz64_0 : w62.cell? ⟨gb175, 0, none⟩ = some (.string a0_0) := (blk_cell BK175.out 0).trans rfl; have hcz64_1 : w62.cell? ⟨gb175, 1, none⟩ = some (.slice A0_1 l0_1.length c0_1) := (blk_cell BK175.out 1).trans rfl; have hcz64_2 : w62.cell? ⟨gb175, 2, none⟩ = some (u176002) := (blk_cell BK175.out 2).trans rfl; have hcz64_3 : w62.cell? ⟨gb175, 3, none⟩ = some (.bool a0_3) := (blk_cell BK175.out 3).trans rfl; have hcz64_4 : w62.cell? ⟨gb175, 4, none⟩ = some (.slice A0_4 l0_4.length c0_4) := (blk_cell BK175.out 4).trans rfl; have hfz64_0 := blk_frozen BK175.out 0; have hfz64_1 := blk_frozen BK175.out 1; have hfz64_2 := blk_frozen BK175.out 2; have hfz64_3 := blk_frozen BK175.out 3; have hfz64_4 := blk_frozen BK175.out 4))
  go_roundg k2
  case measure => have := HK1.out; have := HK2.out; omega
  case rel => exact ⟨(x6_2), (wrap64 (x7_1 + 1)), (y177), (.slice Ao63 y177.length co63), rf_, rf_, H', ⟨by have := HK1.out; have := HK2.out; omega⟩, ⟨by (with_reducible repeat (first | apply Kd.V_alloc | apply Kd.V_drewN | apply Kd.V_drew)); exact Kd.V_mono (Kd.V_far (p := ⟨gb175, 2, none⟩) (Kd.V_mono HO_174001.out (fun k_ hk => (⟨hk, hk.1.2.2.2.2⟩ : _ ∧ k_ ≠ gb175))) (fun _ hk => hk.2) (.slice Ao63 y177.length co63)) (fun _ hk => ⟨hk.1.1.1, ⟨hk.1.2, ⟨hk.1.1.2.2.1, ⟨hk.1.1.2.2.2.1, hk.1.1.2.2.2.2⟩⟩⟩⟩)⟩, ⟨by (with_reducible repeat (first | apply Kd.V_alloc | apply Kd.V_drewN | apply Kd.V_drew)); exact Kd.V_mono (Kd.V_far (p := ⟨gb175, 2, none⟩) (Kd.V_mono HO_174004.out (fun k_ hk => (⟨hk, hk.1.2.2.2.2⟩ : _ ∧ k_ ≠ gb175))) (fun _ hk => hk.2) (.slice Ao63 y177.length co63)) (fun _ hk => ⟨hk.1.1.1, ⟨hk.1.2, ⟨hk.1.1.2.2.1, ⟨hk.1.1.2.2.2.1, hk.1.1.2.2.2.2⟩⟩⟩⟩)⟩, ⟨by (with_reducible repeat (first | apply Kd.V_alloc | apply Kd.V_drewN | apply Kd.V_drew)); exact Kd.V_mono (Kd.V_far (p := ⟨gb175, 2, none⟩) (Kd.V_mono HO_176001.out (fun k_ hk => (⟨hk, hk.1.2.2.2.2⟩ : _ ∧ k_ ≠ gb175))) (fun _ hk => hk.2) (.slice Ao63 y177.length co63)) (fun _ hk => ⟨hk.1.1.1, ⟨hk.1.2, ⟨hk.1.1.2.2.1, ⟨hk.1.1.2.2.2.1, hk.1.1.2.2.2.2⟩⟩⟩⟩)⟩, ⟨by (with_reducible repeat (first | apply Kd.S_alloc | apply Kd.S_drewN | apply Kd.S_drew)); exact Kd.S_mono (Kd.S_far (p := ⟨gb175, 2, none⟩) (Kd.S_types HO179.out BK175.out (by decide)) (fun _ hk => hk.2) (.slice Ao63 y177.length co63)) (fun _ hk => hk.1)⟩, ⟨by (with_reducible repeat (first | apply Kd.V_alloc | apply Kd.V_drewN | apply Kd.V_drew)); exact Kd.V_mono (Kd.V_far (p := ⟨gb175, 2, none⟩) (Kd.V_mono HO_176004.out (fun k_ hk => (⟨hk, hk.1.2.2.2.2⟩ : _ ∧ k_ ≠ gb175))) (fun _ hk => hk.2) (.slice Ao63 y177.length co63)) (fun _ hk => ⟨hk.1.1.1, ⟨hk.1.2, ⟨hk.1.1.2.2.1, ⟨hk.1.1.2.2.2.1, hk.1.1.2.2.2.2⟩⟩⟩⟩)⟩, ⟨by (with_reducible repeat (first | refine blk_drewN ?_ _ | refine blk_drew ?_ | refine blk_alloc ?_ _)); refine blk_far ?_ NB173_175.out _; (with_reducible repeat (first | refine blk_drewN ?_ _ | refine blk_drew ?_ | refine blk_alloc ?_ _)); exact BK173.out⟩, ⟨by (with_reducible repeat (first | refine blk_drewN ?_ _ | refine blk_drew ?_ | refine blk_alloc ?_ _)); refine blk_far ?_ NB174_175.out _; (with_reducible repeat (first | refine blk_drewN ?_ _ | refine blk_drew ?_ | refine blk_alloc ?_ _)); exact BK174.out⟩, ⟨by (with_reducible repeat (first | refine blk_drewN ?_ _ | refine blk_drew ?_ | refine blk_alloc ?_ _)); refine blk_put (cs := #[.string a0_0, .slice A0_1 l0_1.length c0_1, u176002, .bool a0_3, .slice A0_4 l0_4.length c0_4]) ?_ 2 _ rfl; (with_reducible repeat (first | refine blk_drewN ?_ _ | refine blk_drew ?_ | refine blk_alloc ?_ _)); exact BK175.out⟩, ⟨hb_ HB.out⟩⟩
 rw [if_pos c17] at H
 have c17b0 : decide (x9_2 < (((rd_T58 l0_2 x7_1).f0).length : Int)) = true := decide_eq_true c17
 clear c17
 by_cases c18 : 0 ≤ x9_2
 rotate_left
 ·rw [if_neg c18] at H
  exact absurd H (by simp)
 rw [if_pos c18] at H
 have c18b0 : decide (0 ≤ x9_2) = true := decide_eq_true c18
 clear c18
 by_cases c19 : ((rd_T60 ((rd_T58 l0_2 x7_1).f0) x9_2).f0) = 11
 ·rw [if_pos c19] at H
  have c19b0 : (((rd_T60 ((rd_T58 l0_2 x7_1).f0) x9_2).f0) == 11) = true := beq_iff_eq.mpr c19
  have c19b1 : (((rd_T60 ((rd_T58 l0_2 x7_1).f0) x9_2).f0) != 11) = false := bne_eq_false_iff_eq.mpr c19
  clear c19
  by_cases c20 : x8_2.length < 2199023255552
  rotate_left
  ·rw [if_neg c20] at H
   exact absurd H (by simp)
  rw [if_pos c20] at H
  have LMc20 := Aside0.mk c20
  clear c20
  obtain ⟨y183, hy183⟩ : ∃ y_ : List (S60), y_ = (x8_2 ++ [(⟨(rd_T60 ((rd_T58 l0_2 x7_1).f0) x9_2).f0, (rd_T60 ((rd_T58 l0_2 x7_1).f0) x9_2).f1, (rd_T60 ((rd_T58 l0_2 x7_1).f0) x9_2).f2, (rd_T60 ((rd_T58 l0_2 x7_1).f0) x9_2).f3, (rd_T60 ((rd_T58 l0_2 x7_1).f0) x9_2).f4⟩ : S60)]) := ⟨_, rfl⟩
  replace H : (fencepostref08_Fence.l1 k2 l1 x6_2 x7_1 y183 (wrap64 (x9_2 + 1)) a0_0 l0_1 l0_2 a0_3 l0_4 a0_0 l0_1 x176002_1 a0_3 l0_4) = some (r1, r2, r3, r4, r5) := by first | (rw [hy183]; with_reducible exact H) | (have H2_ := (Option.bind_some _ _).symm.trans H; rw [hy183]; with_reducible exact H2_) | (have H2_ := (Option.bind_some _ _).symm.trans H; with_reducible exact H2_) | with_reducible exact H | (rw [hy183]; exact H) | exact H
  have Ny183 := Aside0.mk hy183
  clear hy183
  have H' := Aside0.mk H
  clear H
  have hnb21 := NB173_174.out
  have hnc21 := NB174_173.out
  have hnb22 := NB173_175.out
  have hnc22 := NB175_173.out
  have hcz23_0 : wr.cell? ⟨gb173, 0, none⟩ = some (.string a0_0) := (blk_cell BK173.out 0).trans rfl
  have hcz23_1 : wr.cell? ⟨gb173, 1, none⟩ = some (.slice A0_1 l0_1.length c0_1) := (blk_cell BK173.out 1).trans rfl
  have hcz23_2 : wr.cell? ⟨gb173, 2, none⟩ = some (.slice A0_2 l0_2.length c0_2) := (blk_cell BK173.out 2).trans rfl
  have hcz23_3 : wr.cell? ⟨gb173, 3, none⟩ = some (.bool a0_3) := (blk_cell BK173.out 3).trans rfl
  have hcz23_4 : wr.cell? ⟨gb173, 4, none⟩ = some (.slice A0_4 l0_4.length c0_4) := (blk_cell BK173.out 4).trans rfl
  have hfz23_0 := blk_frozen BK173.out 0
  have hfz23_1 := blk_frozen BK173.out 1
  have hfz23_2 := blk_frozen BK173.out 2
  have hfz23_3 := blk_frozen BK173.out 3
  have hfz23_4 := blk_frozen BK173.out 4
  have p176 : 0 ≤ (x7_1 : Int) := of_decide_eq_true as_
  have q176 : x7_1 < (l0_2.length : Int) := of_decide_eq_true as_
  obtain ⟨ad176, A176_0, c176_0, e176, hx176_0, hl176_0, hi176_0⟩ := at_T58 HR0_2.out x7_1 p176 q176
  cases e176
  replace hx176_0 := cl_ HB.out hx176_0
  have HR176_0 := Aside0.mk hi176_0
  have HC176_0 := Aside0.mk hl176_0
  clear hi176_0 hl176_0
  replace p176 := eq_true p176
  replace q176 := eq_true q176
  have p180 : 0 ≤ (x7_1 : Int) := of_decide_eq_true as_
  have q180 : x7_1 < (l0_2.length : Int) := of_decide_eq_true as_
  obtain ⟨ad180, A180_0, c180_0, e180, hx180_0, hl180_0, hi180_0⟩ := at_T58 HR0_2.out x7_1 p180 q180
  obtain rfl : ad176 = ad180 := (by injection e180)
  replace hx180_0 := cl_ HB.out hx180_0
  have HR180_0 := Aside0.mk hi180_0
  have HC180_0 := Aside0.mk hl180_0
  clear hi180_0 hl180_0
  replace p180 := eq_true p180
  replace q180 := eq_true q180
  have ea_ := Option.some.inj (hx176_0.symm.trans hx180_0)
  injection ea_ with ea_ en_ ec_
  subst ea_
  subst ec_
  clear en_
  have p181 : 0 ≤ (x9_2 : Int) := of_decide_eq_true as_
  have q181 : x9_2 < (((rd_T58 l0_2 x7_1).f0).length : Int) := of_decide_eq_true as_
  obtain ⟨ad181, e181, hx181_0, hx181_1, hx181_2, hx181_3, hx181_4⟩ := at_T60 HR180_0.out x9_2 p181 q181
  cases e181
  replace hx181_0 := cl_ HB.out hx181_0
  replace hx181_1 := cl_ HB.out hx181_1
  replace hx181_2 := cl_ HB.out hx181_2
  replace hx181_3 := cl_ HB.out hx181_3
  replace hx181_4 := cl_ HB.out hx181_4
  replace p181 := eq_true p181
  replace q181 := eq_true q181
  go_wp2_with (first | ((with_reducible refine gate_dst (N := 10) rfl ?_); refine box_event ?hg (N := 10) ?hd (cs := #[.int .i64 0, .string (⟨#[]⟩ : ByteArray), .string (⟨#[]⟩ : ByteArray), .string (⟨#[]⟩ : ByteArray), .int .i64 0]) (t := 60) ?hr ?_; (case hd => rfl); (case hg => rfl); (case hr => first | (go_simp; done) | (go_simp; rfl)); intro gb182 hg w24 hbox hb; have n0_ := Aside0.mk (Kd.R_below (Kd.R_elderB (rd_ HO_8.out) gb182 (Nat.le_of_eq hg.symm)) hb); have n1_ := Aside0.mk (Kd.V_below (Kd.V_elderB (vd_ HO_174001.out) gb182 (Nat.le_of_eq hg.symm)) hb); have n2_ := Aside0.mk (Kd.V_below (Kd.V_elderB (vd_ HO_174004.out) gb182 (Nat.le_of_eq hg.symm)) hb); have n3_ := Aside0.mk (Kd.V_below (Kd.V_elderB (vd_ HO_176001.out) gb182 (Nat.le_of_eq hg.symm)) hb); have n4_ := Aside0.mk (Kd.S_below (Kd.S_elderB (sd_ HO_176002.out) gb182 (Nat.le_of_eq hg.symm)) hb); have n5_ := Aside0.mk (Kd.V_below (Kd.V_elderB (vd_ HO_176004.out) gb182 (Nat.le_of_eq hg.symm)) hb); have n6_ := Aside0.mk (bb_ BK173.out hb); have n7_ := Aside0.mk (bb_ BK174.out hb); have n8_ := Aside0.mk (bb_ BK175.out hb); have n9_ := Aside0.mk (below_step (hb_ HB.out) hb); have n10_ := Aside0.mk (hbox); have n11_ := Aside0.mk (gs_ hg (hb_ HB.out)); have n12_ := Aside0.mk (gs_ hg (hb_ HB.out)); have n13_ := Aside0.mk (gn_ hg BK173.out); have n14_ := Aside0.mk (gn_ hg BK173.out).symm; have n15_ := Aside0.mk (gn_ hg BK174.out); have n16_ := Aside0.mk (gn_ hg BK174.out).symm; have n17_ := Aside0.mk (gn_ hg BK175.out); have n18_ := Aside0.mk (gn_ hg BK175.out).symm; clear HO_8; clear HO_174001; clear HO_174004; clear HO_176001; clear HO_176002; clear HO_176004; clear BK173; clear BK174; clear BK175; clear HB; have HO_8 := n0_; have HO_174001 := n1_; have HO_174004 := n2_; have HO_176001 := n3_; have HO_176002 := n4_; have HO_176004 := n5_; have BK173 := n6_; have BK174 := n7_; have BK175 := n8_; have HB := n9_; have BK182 := n10_; have GW182 := n11_; have GE182 := n12_; have NB173_182 := n13_; have NB182_173 := n14_; have NB174_182 := n15_; have NB182_174 := n16_; have NB175_182 := n17_; have NB182_175 := n18_; clear n0_ n1_ n2_ n3_ n4_ n5_ n6_ n7_ n8_ n9_ n10_ n11_ n12_ n13_ n14_ n15_ n16_ n17_ n18_; clear hb hbox hg; have hnb25 := NB182_173.out; have hnc25 := NB173_182.out; have hnb26 := NB182_174.out; have hnc26 := NB174_182.out; have hnb27 := NB182_175.out; have hnc27 := NB175_182.out; have hcz28_0 : w24.cell? ⟨gb182, 0, none⟩ = some (.int .i64 0) := (blk_cell BK182.out 0).trans rfl; have hcz28_1 : w24.cell? ⟨gb182, 1, none⟩ = some (.string (⟨#[]⟩ : ByteArray)) := (blk_cell BK182.out 1).trans rfl; have hcz28_2 : w24.cell? ⟨gb182, 2, none⟩ = some (.string (⟨#[]⟩ : ByteArray)) := (blk_cell BK182.out 2).trans rfl; have hcz28_3 : w24.cell? ⟨gb182, 3, none⟩ = some (.string (⟨#[]⟩ : ByteArray)) := (blk_cell BK182.out 3).trans rfl; have hcz28_4 : w24.cell? ⟨gb182, 4, none⟩ = some (.int .i64 0) := (blk_cell BK182.out 4).trans rfl; have hfz28_0 := blk_frozen BK182.out 0; have hfz28_1 := blk_frozen BK182.out 1; have hfz28_2 := blk_frozen BK182.out 2; have hfz28_3 := blk_frozen BK182.out 3; have hfz28_4 := blk_frozen BK182.out 4) | ((with_reducible refine gate_builtin (b := .append) (xs := #[.tmp 52, .tmp 54]) rfl ?_); at_builtin; refine Kd.R_append k60 (w0 := w) w.heap.size rfl (.tmp 52) (.tmp 54) 56 60 (.agg #[(.int .i64 0), (.string ⟨#[]⟩), (.string ⟨#[]⟩), (.string ⟨#[]⟩), (.int .i64 0)]) 64 rfl Try.underlying56 info60 rfl (by decide) (by omega) u8 x8_2 (⟨(rd_T60 ((rd_T58 l0_2 x7_1).f0) x9_2).f0, (rd_T60 ((rd_T58 l0_2 x7_1).f0) x9_2).f1, (rd_T60 ((rd_T58 l0_2 x7_1).f0) x9_2).f2, (rd_T60 ((rd_T58 l0_2 x7_1).f0) x9_2).f3, (rd_T60 ((rd_T58 l0_2 x7_1).f0) x9_2).f4⟩ : S60) [.int .i64 ((rd_T60 ((rd_T58 l0_2 x7_1).f0) x9_2).f0), .string ((rd_T60 ((rd_T58 l0_2 x7_1).f0) x9_2).f1), .string ((rd_T60 ((rd_T58 l0_2 x7_1).f0) x9_2).f2), .string ((rd_T60 ((rd_T58 l0_2 x7_1).f0) x9_2).f3), .int .i64 ((rd_T60 ((rd_T58 l0_2 x7_1).f0) x9_2).f4)] (fun k_ => (w.heap.size ≤ k_) ∧ k_ ≠ gb182) (fun _ => False) rfl (by first | (go_simp; done) | (go_simp; rfl)) ?aP (fun _ hk => hk.elim) ?aF ?aO ?aB ?aS ?aL ?_; (case aP => exact k60_mkM _ _ _ (⟨(rd_T60 ((rd_T58 l0_2 x7_1).f0) x9_2).f0, (rd_T60 ((rd_T58 l0_2 x7_1).f0) x9_2).f1, (rd_T60 ((rd_T58 l0_2 x7_1).f0) x9_2).f2, (rd_T60 ((rd_T58 l0_2 x7_1).f0) x9_2).f3, (rd_T60 ((rd_T58 l0_2 x7_1).f0) x9_2).f4⟩ : S60)); (case aB => exact (hb_ HB.out)); (case aF => exact (fun k_ hk => ⟨(Nat.le_trans (below_size (hb_ HB.out)) hk), Kd.freshB (g := gb182) (o := .cells #[.int .i64 ((rd_T60 ((rd_T58 l0_2 x7_1).f0) x9_2).f0), .string ((rd_T60 ((rd_T58 l0_2 x7_1).f0) x9_2).f1), .string ((rd_T60 ((rd_T58 l0_2 x7_1).f0) x9_2).f2), .string ((rd_T60 ((rd_T58 l0_2 x7_1).f0) x9_2).f3), .int .i64 ((rd_T60 ((rd_T58 l0_2 x7_1).f0) x9_2).f4)] 60 (0, 0)) (by exact bp5_ BK182.out) k_ hk⟩)); (case aO => exact (by (with_reducible repeat (first | apply Kd.R_alloc | apply Kd.R_drewN | apply Kd.R_drew)); exact Kd.R_mono (Kd.R_far (p := ⟨gb182, 4, none⟩) (Kd.R_far (p := ⟨gb182, 3, none⟩) (Kd.R_far (p := ⟨gb182, 2, none⟩) (Kd.R_far (p := ⟨gb182, 1, none⟩) (Kd.R_far (p := ⟨gb182, 0, none⟩) (Kd.R_mono HO_8.out (fun k_ hk => (⟨hk, hk.2⟩ : _ ∧ k_ ≠ gb182))) (fun _ hk => hk.2) (.int .i64 ((rd_T60 ((rd_T58 l0_2 x7_1).f0) x9_2).f0))) (fun _ hk => hk.2) (.string ((rd_T60 ((rd_T58 l0_2 x7_1).f0) x9_2).f1))) (fun _ hk => hk.2) (.string ((rd_T60 ((rd_T58 l0_2 x7_1).f0) x9_2).f2))) (fun _ hk => hk.2) (.string ((rd_T60 ((rd_T58 l0_2 x7_1).f0) x9_2).f3))) (fun _ hk => hk.2) (.int .i64 ((rd_T60 ((rd_T58 l0_2 x7_1).f0) x9_2).f4))) (fun _ hk => ⟨hk.1.1, hk.1.2⟩))); (case aS => exact (below_size (hb_ HB.out))); (case aL => have := LMc20.out; omega); intro v184 w29 ho hb hg hat; rw [← Ny183.out] at ho; have n0_ := Aside0.mk (Kd.V_afterv (ok := (fun k_ => ((P0_1_ k_ ∨ P0_4_ k_) ∨ w.heap.size ≤ k_) ∧ some k_ ≠ (u176002 : Value).ownBlock ∧ k_ ≠ gb173 ∧ k_ ≠ gb174 ∧ k_ ≠ gb175 ∧ k_ ≠ gb182)) (by (with_reducible repeat (first | apply Kd.V_alloc | apply Kd.V_drewN | apply Kd.V_drew)); exact Kd.V_mono (Kd.V_far (p := ⟨gb182, 4, none⟩) (Kd.V_far (p := ⟨gb182, 3, none⟩) (Kd.V_far (p := ⟨gb182, 2, none⟩) (Kd.V_far (p := ⟨gb182, 1, none⟩) (Kd.V_far (p := ⟨gb182, 0, none⟩) (Kd.V_mono HO_174001.out (fun k_ hk => (⟨hk, hk.2⟩ : _ ∧ k_ ≠ gb182))) (fun _ hk => hk.2) (.int .i64 ((rd_T60 ((rd_T58 l0_2 x7_1).f0) x9_2).f0))) (fun _ hk => hk.2) (.string ((rd_T60 ((rd_T58 l0_2 x7_1).f0) x9_2).f1))) (fun _ hk => hk.2) (.string ((rd_T60 ((rd_T58 l0_2 x7_1).f0) x9_2).f2))) (fun _ hk => hk.2) (.string ((rd_T60 ((rd_T58 l0_2 x7_1).f0) x9_2).f3))) (fun _ hk => hk.2) (.int .i64 ((rd_T60 ((rd_T58 l0_2 x7_1).f0) x9_2).f4))) (fun _ hk => ⟨⟨hk.1.1.1, ⟨hk.1.1.2.2.1, ⟨hk.1.1.2.2.2.1, ⟨hk.1.1.2.2.2.2.1, ⟨hk.1.1.2.2.2.2.2, hk.1.2⟩⟩⟩⟩⟩, hk.1.1.2.1⟩)) hg hat); have n1_ := Aside0.mk (Kd.V_afterv (ok := (fun k_ => ((P0_1_ k_ ∨ P0_4_ k_) ∨ w.heap.size ≤ k_) ∧ some k_ ≠ (u176002 : Value).ownBlock ∧ k_ ≠ gb173 ∧ k_ ≠ gb174 ∧ k_ ≠ gb175 ∧ k_ ≠ gb182)) (by (with_reducible repeat (first | apply Kd.V_alloc | apply Kd.V_drewN | apply Kd.V_drew)); exact Kd.V_mono (Kd.V_far (p := ⟨gb182, 4, none⟩) (Kd.V_far (p := ⟨gb182, 3, none⟩) (Kd.V_far (p := ⟨gb182, 2, none⟩) (Kd.V_far (p := ⟨gb182, 1, none⟩) (Kd.V_far (p := ⟨gb182, 0, none⟩) (Kd.V_mono HO_174004.out (fun k_ hk => (⟨hk, hk.2⟩ : _ ∧ k_ ≠ gb182))) (fun _ hk => hk.2) (.int .i64 ((rd_T60 ((rd_T58 l0_2 x7_1).f0) x9_2).f0))) (fun _ hk => hk.2) (.string ((rd_T60 ((rd_T58 l0_2 x7_1).f0) x9_2).f1))) (fun _ hk => hk.2) (.string ((rd_T60 ((rd_T58 l0_2 x7_1).f0) x9_2).f2))) (fun _ hk => hk.2) (.string ((rd_T60 ((rd_T58 l0_2 x7_1).f0) x9_2).f3))) (fun _ hk => hk.2) (.int .i64 ((rd_T60 ((rd_T58 l0_2 x7_1).f0) x9_2).f4))) (fun _ hk => ⟨⟨hk.1.1.1, ⟨hk.1.1.2.2.1, ⟨hk.1.1.2.2.2.1, ⟨hk.1.1.2.2.2.2.1, ⟨hk.1.1.2.2.2.2.2, hk.1.2⟩⟩⟩⟩⟩, hk.1.1.2.1⟩)) hg hat); have n2_ := Aside0.mk (Kd.V_afterv (ok := (fun k_ => ((P0_1_ k_ ∨ P0_4_ k_) ∨ w.heap.size ≤ k_) ∧ some k_ ≠ (u176002 : Value).ownBlock ∧ k_ ≠ gb173 ∧ k_ ≠ gb174 ∧ k_ ≠ gb175 ∧ k_ ≠ gb182)) (by (with_reducible repeat (first | apply Kd.V_alloc | apply Kd.V_drewN | apply Kd.V_drew)); exact Kd.V_mono (Kd.V_far (p := ⟨gb182, 4, none⟩) (Kd.V_far (p := ⟨gb182, 3, none⟩) (Kd.V_far (p := ⟨gb182, 2, none⟩) (Kd.V_far (p := ⟨gb182, 1, none⟩) (Kd.V_far (p := ⟨gb182, 0, none⟩) (Kd.V_mono HO_176001.out (fun k_ hk => (⟨hk, hk.2⟩ : _ ∧ k_ ≠ gb182))) (fun _ hk => hk.2) (.int .i64 ((rd_T60 ((rd_T58 l0_2 x7_1).f0) x9_2).f0))) (fun _ hk => hk.2) (.string ((rd_T60 ((rd_T58 l0_2 x7_1).f0) x9_2).f1))) (fun _ hk => hk.2) (.string ((rd_T60 ((rd_T58 l0_2 x7_1).f0) x9_2).f2))) (fun _ hk => hk.2) (.string ((rd_T60 ((rd_T58 l0_2 x7_1).f0) x9_2).f3))) (fun _ hk => hk.2) (.int .i64 ((rd_T60 ((rd_T58 l0_2 x7_1).f0) x9_2).f4))) (fun _ hk => ⟨⟨hk.1.1.1, ⟨hk.1.1.2.2.1, ⟨hk.1.1.2.2.2.1, ⟨hk.1.1.2.2.2.2.1, ⟨hk.1.1.2.2.2.2.2, hk.1.2⟩⟩⟩⟩⟩, hk.1.1.2.1⟩)) hg hat); have n3_ := Aside0.mk (Kd.S_after (ok := (fun k_ => (w.heap.size ≤ k_) ∧ k_ ≠ gb182)) (by (with_reducible repeat (first | apply Kd.S_alloc | apply Kd.S_drewN | apply Kd.S_drew)); exact Kd.S_mono (Kd.S_far (p := ⟨gb182, 4, none⟩) (Kd.S_far (p := ⟨gb182, 3, none⟩) (Kd.S_far (p := ⟨gb182, 2, none⟩) (Kd.S_far (p := ⟨gb182, 1, none⟩) (Kd.S_far (p := ⟨gb182, 0, none⟩) (Kd.S_mono HO_176002.out (fun k_ hk => (⟨hk, hk.2⟩ : _ ∧ k_ ≠ gb182))) (fun _ hk => hk.2) (.int .i64 ((rd_T60 ((rd_T58 l0_2 x7_1).f0) x9_2).f0))) (fun _ hk => hk.2) (.string ((rd_T60 ((rd_T58 l0_2 x7_1).f0) x9_2).f1))) (fun _ hk => hk.2) (.string ((rd_T60 ((rd_T58 l0_2 x7_1).f0) x9_2).f2))) (fun _ hk => hk.2) (.string ((rd_T60 ((rd_T58 l0_2 x7_1).f0) x9_2).f3))) (fun _ hk => hk.2) (.int .i64 ((rd_T60 ((rd_T58 l0_2 x7_1).f0) x9_2).f4))) (fun _ hk => ⟨⟨hk.1.1.1, hk.1.2⟩, hk.1.1.2⟩)) hg hat); have n4_ := Aside0.mk (Kd.V_afterv (ok := (fun k_ => ((P0_1_ k_ ∨ P0_4_ k_) ∨ w.heap.size ≤ k_) ∧ some k_ ≠ (u176002 : Value).ownBlock ∧ k_ ≠ gb173 ∧ k_ ≠ gb174 ∧ k_ ≠ gb175 ∧ k_ ≠ gb182)) (by (with_reducible repeat (first | apply Kd.V_alloc | apply Kd.V_drewN | apply Kd.V_drew)); exact Kd.V_mono (Kd.V_far (p := ⟨gb182, 4, none⟩) (Kd.V_far (p := ⟨gb182, 3, none⟩) (Kd.V_far (p := ⟨gb182, 2, none⟩) (Kd.V_far (p := ⟨gb182, 1, none⟩) (Kd.V_far (p := ⟨gb182, 0, none⟩) (Kd.V_mono HO_176004.out (fun k_ hk => (⟨hk, hk.2⟩ : _ ∧ k_ ≠ gb182))) (fun _ hk => hk.2) (.int .i64 ((rd_T60 ((rd_T58 l0_2 x7_1).f0) x9_2).f0))) (fun _ hk => hk.2) (.string ((rd_T60 ((rd_T58 l0_2 x7_1).f0) x9_2).f1))) (fun _ hk => hk.2) (.string ((rd_T60 ((rd_T58 l0_2 x7_1).f0) x9_2).f2))) (fun _ hk => hk.2) (.string ((rd_T60 ((rd_T58 l0_2 x7_1).f0) x9_2).f3))) (fun _ hk => hk.2) (.int .i64 ((rd_T60 ((rd_T58 l0_2 x7_1).f0) x9_2).f4))) (fun _ hk => ⟨⟨hk.1.1.1, ⟨hk.1.1.2.2.1, ⟨hk.1.1.2.2.2.1, ⟨hk.1.1.2.2.2.2.1, ⟨hk.1.1.2.2.2.2.2, hk.1.2⟩⟩⟩⟩⟩, hk.1.1.2.1⟩)) hg hat); have n5_ := Aside0.mk (blk_grown (g := gb173) (o := .cells #[.string a0_0, .slice A0_1 l0_1.length c0_1, .slice (some ad176) l0_2.length c0_2, .bool a0_3, .slice A0_4 l0_4.length c0_4] 30 (0, 0)) (by exact bf5_ BK173.out NB173_182.out) hg (Kd.R_ne HO_8.out BK173.out (by decide))); have n6_ := Aside0.mk (blk_grown (g := gb174) (o := .cells #[.string (⟨#[]⟩ : ByteArray), .slice none 0 0, .slice none 0 0, .bool false, .slice none 0 0] 30 (0, 0)) (by exact bf5_ BK174.out NB174_182.out) hg (Kd.R_ne HO_8.out BK174.out (by decide))); have n7_ := Aside0.mk (blk_grown (g := gb175) (o := .cells #[.string a0_0, .slice A0_1 l0_1.length c0_1, u176002, .bool a0_3, .slice A0_4 l0_4.length c0_4] 30 (0, 0)) (by exact bf5_ BK175.out NB175_182.out) hg (Kd.R_ne HO_8.out BK175.out (by decide))); have n8_ := Aside0.mk (blk_grown (g := gb182) (o := .cells #[.int .i64 ((rd_T60 ((rd_T58 l0_2 x7_1).f0) x9_2).f0), .string ((rd_T60 ((rd_T58 l0_2 x7_1).f0) x9_2).f1), .string ((rd_T60 ((rd_T58 l0_2 x7_1).f0) x9_2).f2), .string ((rd_T60 ((rd_T58 l0_2 x7_1).f0) x9_2).f3), .int .i64 ((rd_T60 ((rd_T58 l0_2 x7_1).f0) x9_2).f4)] 60 (0, 0)) (by exact bp5_ BK182.out) hg (Kd.R_away HO_8.out (fun _ hk => hk.2))); have n9_ := Aside0.mk (hb); have n10_ := Aside0.mk (ho); clear HO_174001; clear HO_174004; clear HO_176001; clear HO_176002; clear HO_176004; clear BK173; clear BK174; clear BK175; clear BK182; clear HB; clear HO_8; have HO_174001 := n0_; have HO_174004 := n1_; have HO_176001 := n2_; have HO_176002 := n3_; have HO_176004 := n4_; have BK173 := n5_; have BK174 := n6_; have BK175 := n7_; have BK182 := n8_; have HB := n9_; have HO185 := n10_; clear n0_ n1_ n2_ n3_ n4_ n5_ n6_ n7_ n8_ n9_ n10_; clear ho hb hg hat))
  go_roundg k2
  case measure => have := HK1.out; have := HK2.out; omega
  case rel => exact ⟨(x6_2), (y183), (wrap64 (x9_2 + 1)), rf_, rf_, H', ⟨by have := HK1.out; have := HK2.out; omega⟩, ⟨by (with_reducible repeat (first | apply Kd.R_alloc | apply Kd.R_drewN | apply Kd.R_drew)); exact Kd.R_mono HO185.out (fun _ hk => hk.1)⟩, ⟨by (with_reducible repeat (first | apply Kd.V_alloc | apply Kd.V_drewN | apply Kd.V_drew)); exact Kd.V_mono HO_174001.out (fun _ hk => ⟨hk.1.1, ⟨hk.2, ⟨hk.1.2.1, ⟨hk.1.2.2.1, ⟨hk.1.2.2.2.1, hk.1.2.2.2.2.1⟩⟩⟩⟩⟩)⟩, ⟨by (with_reducible repeat (first | apply Kd.V_alloc | apply Kd.V_drewN | apply Kd.V_drew)); exact Kd.V_mono HO_174004.out (fun _ hk => ⟨hk.1.1, ⟨hk.2, ⟨hk.1.2.1, ⟨hk.1.2.2.1, ⟨hk.1.2.2.2.1, hk.1.2.2.2.2.1⟩⟩⟩⟩⟩)⟩, ⟨by (with_reducible repeat (first | apply Kd.V_alloc | apply Kd.V_drewN | apply Kd.V_drew)); exact Kd.V_mono HO_176001.out (fun _ hk => ⟨hk.1.1, ⟨hk.2, ⟨hk.1.2.1, ⟨hk.1.2.2.1, ⟨hk.1.2.2.2.1, hk.1.2.2.2.2.1⟩⟩⟩⟩⟩)⟩, ⟨by (with_reducible repeat (first | apply Kd.S_alloc | apply Kd.S_drewN | apply Kd.S_drew)); exact Kd.S_mono HO_176002.out (fun _ hk => ⟨hk.1.1, hk.2⟩)⟩, ⟨by (with_reducible repeat (first | apply Kd.V_alloc | apply Kd.V_drewN | apply Kd.V_drew)); exact Kd.V_mono HO_176004.out (fun _ hk => ⟨hk.1.1, ⟨hk.2, ⟨hk.1.2.1, ⟨hk.1.2.2.1, ⟨hk.1.2.2.2.1, hk.1.2.2.2.2.1⟩⟩⟩⟩⟩)⟩, ⟨bd_ BK173.out⟩, ⟨bd_ BK174.out⟩, ⟨bd_ BK175.out⟩, ⟨hb_ HB.out⟩⟩
 rw [if_neg c19] at H
 have c19b0 : (((rd_T60 ((rd_T58 l0_2 x7_1).f0) x9_2).f0) == 11) = false := beq_eq_false_iff_ne.mpr c19
 have c19b1 : (((rd_T60 ((rd_T58 l0_2 x7_1).f0) x9_2).f0) != 11) = true := bne_iff_ne.mpr c19
 replace H := Option.bind_eq_some_iff.mp H
 obtain ⟨t186, A300, H⟩ := H
 replace H : (if t186 = true then (if x8_2.length < 2199023255552 then ((some (x8_2 ++ [(⟨6, (⟨#[]⟩ : ByteArray), (⟨#[]⟩ : ByteArray), (⟨#[]⟩ : ByteArray), 0⟩ : S60)] : List (S60))).bind fun y187 => (if y187.length < 2199023255552 then (fencepostref08_Fence.l1 k2 l1 (wrap64 (x6_2 + 1)) x7_1 (y187 ++ [(⟨(rd_T60 ((rd_T58 l0_2 x7_1).f0) x9_2).f0, (rd_T60 ((rd_T58 l0_2 x7_1).f0) x9_2).f1, (rd_T60 ((rd_T58 l0_2 x7_1).f0) x9_2).f2, (rd_T60 ((rd_T58 l0_2 x7_1).f0) x9_2).f3, (rd_T60 ((rd_T58 l0_2 x7_1).f0) x9_2).f4⟩ : S60)]) (wrap64 (x9_2 + 1)) a0_0 l0_1 l0_2 a0_3 l0_4 a0_0 l0_1 x176002_1 a0_3 l0_4) else (none))) else (none)) else (if x8_2.length < 2199023255552 then (fencepostref08_Fence.l1 k2 l1 (wrap64 (x6_2 + 1)) x7_1 (x8_2 ++ [(⟨(rd_T60 ((rd_T58 l0_2 x7_1).f0) x9_2).f0, (rd_T60 ((rd_T58 l0_2 x7_1).f0) x9_2).f1, (rd_T60 ((rd_T58 l0_2 x7_1).f0) x9_2).f2, (rd_T60 ((rd_T58 l0_2 x7_1).f0) x9_2).f3, (rd_T60 ((rd_T58 l0_2 x7_1).f0) x9_2).f4⟩ : S60)]) (wrap64 (x9_2 + 1)) a0_0 l0_1 l0_2 a0_3 l0_4 a0_0 l0_1 x176002_1 a0_3 l0_4) else (none))) = some (r1, r2, r3, r4, r5) := H
 have A30 := Aside0.mk A300
 clear A300
 by_cases c31 : t186 = true
 rotate_left
 ·replace c31 := Bool.eq_false_iff.mpr c31
  subst c31
  have H1 : (if x8_2.length < 2199023255552 then (fencepostref08_Fence.l1 k2 l1 (wrap64 (x6_2 + 1)) x7_1 (x8_2 ++ [(⟨(rd_T60 ((rd_T58 l0_2 x7_1).f0) x9_2).f0, (rd_T60 ((rd_T58 l0_2 x7_1).f0) x9_2).f1, (rd_T60 ((rd_T58 l0_2 x7_1).f0) x9_2).f2, (rd_T60 ((rd_T58 l0_2 x7_1).f0) x9_2).f3, (rd_T60 ((rd_T58 l0_2 x7_1).f0) x9_2).f4⟩ : S60)]) (wrap64 (x9_2 + 1)) a0_0 l0_1 l0_2 a0_3 l0_4 a0_0 l0_1 x176002_1 a0_3 l0_4) else (none)) = some (r1, r2, r3, r4, r5) := by rw [if_neg (show ¬ (false = true) by decide)] at H; exact H
  clear H
  have H := H1
  clear H1
  by_cases c45 : x8_2.length < 2199023255552
  rotate_left
  ·rw [if_neg c45] at H
   exact absurd H (by simp)
  rw [if_pos c45] at H
  have LMc45 := Aside0.mk c45
  clear c45
  obtain ⟨y193, hy193⟩ : ∃ y_ : List (S60), y_ = (x8_2 ++ [(⟨(rd_T60 ((rd_T58 l0_2 x7_1).f0) x9_2).f0, (rd_T60 ((rd_T58 l0_2 x7_1).f0) x9_2).f1, (rd_T60 ((rd_T58 l0_2 x7_1).f0) x9_2).f2, (rd_T60 ((rd_T58 l0_2 x7_1).f0) x9_2).f3, (rd_T60 ((rd_T58 l0_2 x7_1).f0) x9_2).f4⟩ : S60)]) := ⟨_, rfl⟩
  replace H : (fencepostref08_Fence.l1 k2 l1 (wrap64 (x6_2 + 1)) x7_1 y193 (wrap64 (x9_2 + 1)) a0_0 l0_1 l0_2 a0_3 l0_4 a0_0 l0_1 x176002_1 a0_3 l0_4) = some (r1, r2, r3, r4, r5) := by first | (rw [hy193]; with_reducible exact H) | (have H2_ := (Option.bind_some _ _).symm.trans H; rw [hy193]; with_reducible exact H2_) | (have H2_ := (Option.bind_some _ _).symm.trans H; with_reducible exact H2_) | with_reducible exact H | (rw [hy193]; exact H) | exact H
  have Ny193 := Aside0.mk hy193
  clear hy193
  have H' := Aside0.mk H
  clear H
  have hnb46 := NB173_174.out
  have hnc46 := NB174_173.out
  have hnb47 := NB173_175.out
  have hnc47 := NB175_173.out
  have hcz48_0 : wr.cell? ⟨gb173, 0, none⟩ = some (.string a0_0) := (blk_cell BK173.out 0).trans rfl
  have hcz48_1 : wr.cell? ⟨gb173, 1, none⟩ = some (.slice A0_1 l0_1.length c0_1) := (blk_cell BK173.out 1).trans rfl
  have hcz48_2 : wr.cell? ⟨gb173, 2, none⟩ = some (.slice A0_2 l0_2.length c0_2) := (blk_cell BK173.out 2).trans rfl
  have hcz48_3 : wr.cell? ⟨gb173, 3, none⟩ = some (.bool a0_3) := (blk_cell BK173.out 3).trans rfl
  have hcz48_4 : wr.cell? ⟨gb173, 4, none⟩ = some (.slice A0_4 l0_4.length c0_4) := (blk_cell BK173.out 4).trans rfl
  have hfz48_0 := blk_frozen BK173.out 0
  have hfz48_1 := blk_frozen BK173.out 1
  have hfz48_2 := blk_frozen BK173.out 2
  have hfz48_3 := blk_frozen BK173.out 3
  have hfz48_4 := blk_frozen BK173.out 4
  have p176 : 0 ≤ (x7_1 : Int) := of_decide_eq_true as_
  have q176 : x7_1 < (l0_2.length : Int) := of_decide_eq_true as_
  obtain ⟨ad176, A176_0, c176_0, e176, hx176_0, hl176_0, hi176_0⟩ := at_T58 HR0_2.out x7_1 p176 q176
  cases e176
  replace hx176_0 := cl_ HB.out hx176_0
  have HR176_0 := Aside0.mk hi176_0
  have HC176_0 := Aside0.mk hl176_0
  clear hi176_0 hl176_0
  replace p176 := eq_true p176
  replace q176 := eq_true q176
  have p180 : 0 ≤ (x7_1 : Int) := of_decide_eq_true as_
  have q180 : x7_1 < (l0_2.length : Int) := of_decide_eq_true as_
  obtain ⟨ad180, A180_0, c180_0, e180, hx180_0, hl180_0, hi180_0⟩ := at_T58 HR0_2.out x7_1 p180 q180
  obtain rfl : ad176 = ad180 := (by injection e180)
  replace hx180_0 := cl_ HB.out hx180_0
  have HR180_0 := Aside0.mk hi180_0
  have HC180_0 := Aside0.mk hl180_0
  clear hi180_0 hl180_0
  replace p180 := eq_true p180
  replace q180 := eq_true q180
  have ea_ := Option.some.inj (hx176_0.symm.trans hx180_0)
  injection ea_ with ea_ en_ ec_
  subst ea_
  subst ec_
  clear en_
  have p181 : 0 ≤ (x9_2 : Int) := of_decide_eq_true as_
  have q181 : x9_2 < (((rd_T58 l0_2 x7_1).f0).length : Int) := of_decide_eq_true as_
  obtain ⟨ad181, e181, hx181_0, hx181_1, hx181_2, hx181_3, hx181_4⟩ := at_T60 HR180_0.out x9_2 p181 q181
  cases e181
  replace hx181_0 := cl_ HB.out hx181_0
  replace hx181_1 := cl_ HB.out hx181_1
  replace hx181_2 := cl_ HB.out hx181_2
  replace hx181_3 := cl_ HB.out hx181_3
  replace hx181_4 := cl_ HB.out hx181_4
  replace p181 := eq_true p181
  replace q181 := eq_true q181
  go_wp2_with (first | ((with_reducible refine gate_dst (N := 10) rfl ?_); refine box_event ?hg (N := 10) ?hd (cs := #[.int .i64 0, .string (⟨#[]⟩ : ByteArray), .string (⟨#[]⟩ : ByteArray), .string (⟨#[]⟩ : ByteArray), .int .i64 0]) (t := 60) ?hr ?_; (case hd => rfl); (case hg => rfl); (case hr => first | (go_simp; done) | (go_simp; rfl)); intro gb182 hg w49 hbox hb; have n0_ := Aside0.mk (Kd.R_below (Kd.R_elderB (rd_ HO_8.out) gb182 (Nat.le_of_eq hg.symm)) hb); have n1_ := Aside0.mk (Kd.V_below (Kd.V_elderB (vd_ HO_174001.out) gb182 (Nat.le_of_eq hg.symm)) hb); have n2_ := Aside0.mk (Kd.V_below (Kd.V_elderB (vd_ HO_174004.out) gb182 (Nat.le_of_eq hg.symm)) hb); have n3_ := Aside0.mk (Kd.V_below (Kd.V_elderB (vd_ HO_176001.out) gb182 (Nat.le_of_eq hg.symm)) hb); have n4_ := Aside0.mk (Kd.S_below (Kd.S_elderB (sd_ HO_176002.out) gb182 (Nat.le_of_eq hg.symm)) hb); have n5_ := Aside0.mk (Kd.V_below (Kd.V_elderB (vd_ HO_176004.out) gb182 (Nat.le_of_eq hg.symm)) hb); have n6_ := Aside0.mk (bb_ BK173.out hb); have n7_ := Aside0.mk (bb_ BK174.out hb); have n8_ := Aside0.mk (bb_ BK175.out hb); have n9_ := Aside0.mk (below_step (hb_ HB.out) hb); have n10_ := Aside0.mk (hbox); have n11_ := Aside0.mk (gs_ hg (hb_ HB.out)); have n12_ := Aside0.mk (gs_ hg (hb_ HB.out)); have n13_ := Aside0.mk (gn_ hg BK173.out); have n14_ := Aside0.mk (gn_ hg BK173.out).symm; have n15_ := Aside0.mk (gn_ hg BK174.out); have n16_ := Aside0.mk (gn_ hg BK174.out).symm; have n17_ := Aside0.mk (gn_ hg BK175.out); have n18_ := Aside0.mk (gn_ hg BK175.out).symm; clear HO_8; clear HO_174001; clear HO_174004; clear HO_176001; clear HO_176002; clear HO_176004; clear BK173; clear BK174; clear BK175; clear HB; have HO_8 := n0_; have HO_174001 := n1_; have HO_174004 := n2_; have HO_176001 := n3_; have HO_176002 := n4_; have HO_176004 := n5_; have BK173 := n6_; have BK174 := n7_; have BK175 := n8_; have HB := n9_; have BK182 := n10_; have GW182 := n11_; have GE182 := n12_; have NB173_182 := n13_; have NB182_173 := n14_; have NB174_182 := n15_; have NB182_174 := n16_; have NB175_182 := n17_; have NB182_175 := n18_; clear n0_ n1_ n2_ n3_ n4_ n5_ n6_ n7_ n8_ n9_ n10_ n11_ n12_ n13_ n14_ n15_ n16_ n17_ n18_; clear hb hbox hg; have hnb50 := NB182_173.out; have hnc50 := NB173_182.out; have hnb51 := NB182_174.out; have hnc51 := NB174_182.out; have hnb52 := NB182_175.out; have hnc52 := NB175_182.out; have hcz53_0 : w49.cell? ⟨gb182, 0, none⟩ = some (.int .i64 0) := (blk_cell BK182.out 0).trans rfl; have hcz53_1 : w49.cell? ⟨gb182, 1, none⟩ = some (.string (⟨#[]⟩ : ByteArray)) := (blk_cell BK182.out 1).trans rfl; have hcz53_2 : w49.cell? ⟨gb182, 2, none⟩ = some (.string (⟨#[]⟩ : ByteArray)) := (blk_cell BK182.out 2).trans rfl; have hcz53_3 : w49.cell? ⟨gb182, 3, none⟩ = some (.string (⟨#[]⟩ : ByteArray)) := (blk_cell BK182.out 3).trans rfl; have hcz53_4 : w49.cell? ⟨gb182, 4, none⟩ = some (.int .i64 0) := (blk_cell BK182.out 4).trans rfl; have hfz53_0 := blk_frozen BK182.out 0; have hfz53_1 := blk_frozen BK182.out 1; have hfz53_2 := blk_frozen BK182.out 2; have hfz53_3 := blk_frozen BK182.out 3; have hfz53_4 := blk_frozen BK182.out 4) | ((with_reducible refine gate_callee (f := 29) rfl ?_); refine goesL_ (some 45) rfl rfl Try.func29 (by kernel_rfl) rfl #[.slice A1 l1.length c1, .int .i64 x6_2] rfl ar_ ?_; (with_reducible refine (fencepostref08_Has.calls k2 _ _ l1 x6_2 false _ ?side1 ?side2 A30.out).mono ?_); (case side1 => exact Kd.C_below HR1.out (hb_ HB.out)); (case side2 => exact HC1.out); rintro e w' ⟨rfl, ⟨nd, rfl⟩⟩; refine ⟨_, rfl, ?_⟩) | ((with_reducible refine gate_builtin (b := .append) (xs := #[.tmp 52, .tmp 54]) rfl ?_); at_builtin; refine Kd.R_append k60 (w0 := w) w.heap.size rfl (.tmp 52) (.tmp 54) 56 60 (.agg #[(.int .i64 0), (.string ⟨#[]⟩), (.string ⟨#[]⟩), (.string ⟨#[]⟩), (.int .i64 0)]) 64 rfl Try.underlying56 info60 rfl (by decide) (by omega) u8 x8_2 (⟨(rd_T60 ((rd_T58 l0_2 x7_1).f0) x9_2).f0, (rd_T60 ((rd_T58 l0_2 x7_1).f0) x9_2).f1, (rd_T60 ((rd_T58 l0_2 x7_1).f0) x9_2).f2, (rd_T60 ((rd_T58 l0_2 x7_1).f0) x9_2).f3, (rd_T60 ((rd_T58 l0_2 x7_1).f0) x9_2).f4⟩ : S60) [.int .i64 ((rd_T60 ((rd_T58 l0_2 x7_1).f0) x9_2).f0), .string ((rd_T60 ((rd_T58 l0_2 x7_1).f0) x9_2).f1), .string ((rd_T60 ((rd_T58 l0_2 x7_1).f0) x9_2).f2), .string ((rd_T60 ((rd_T58 l0_2 x7_1).f0) x9_2).f3), .int .i64 ((rd_T60 ((rd_T58 l0_2 x7_1).f0) x9_2).f4)] (fun k_ => (w.heap.size ≤ k_) ∧ k_ ≠ gb182) (fun _ => False) rfl (by first | (go_simp; done) | (go_simp; rfl)) ?aP (fun _ hk => hk.elim) ?aF ?aO ?aB ?aS ?aL ?_; (case aP => exact k60_mkM _ _ _ (⟨(rd_T60 ((rd_T58 l0_2 x7_1).f0) x9_2).f0, (rd_T60 ((rd_T58 l0_2 x7_1).f0) x9_2).f1, (rd_T60 ((rd_T58 l0_2 x7_1).f0) x9_2).f2, (rd_T60 ((rd_T58 l0_2 x7_1).f0) x9_2).f3, (rd_T60 ((rd_T58 l0_2 x7_1).f0) x9_2).f4⟩ : S60)); (case aB => exact (hb_ HB.out)); (case aF => exact (fun k_ hk => ⟨(Nat.le_trans (below_size (hb_ HB.out)) hk), Kd.freshB (g := gb182) (o := .cells #[.int .i64 ((rd_T60 ((rd_T58 l0_2 x7_1).f0) x9_2).f0), .string ((rd_T60 ((rd_T58 l0_2 x7_1).f0) x9_2).f1), .string ((rd_T60 ((rd_T58 l0_2 x7_1).f0) x9_2).f2), .string ((rd_T60 ((rd_T58 l0_2 x7_1).f0) x9_2).f3), .int .i64 ((rd_T60 ((rd_T58 l0_2 x7_1).f0) x9_2).f4)] 60 (0, 0)) (by exact bp5_ BK182.out) k_ hk⟩)); (case aO => exact (by (with_reducible repeat (first | apply Kd.R_alloc | apply Kd.R_drewN | apply Kd.R_drew)); exact Kd.R_mono (Kd.R_far (p := ⟨gb182, 4, none⟩) (Kd.R_far (p := ⟨gb182, 3, none⟩) (Kd.R_far (p := ⟨gb182, 2, none⟩) (Kd.R_far (p := ⟨gb182, 1, none⟩) (Kd.R_far (p := ⟨gb182, 0, none⟩) (Kd.R_mono HO_8.out (fun k_ hk => (⟨hk, hk.2⟩ : _ ∧ k_ ≠ gb182))) (fun _ hk => hk.2) (.int .i64 ((rd_T60 ((rd_T58 l0_2 x7_1).f0) x9_2).f0))) (fun _ hk => hk.2) (.string ((rd_T60 ((rd_T58 l0_2 x7_1).f0) x9_2).f1))) (fun _ hk => hk.2) (.string ((rd_T60 ((rd_T58 l0_2 x7_1).f0) x9_2).f2))) (fun _ hk => hk.2) (.string ((rd_T60 ((rd_T58 l0_2 x7_1).f0) x9_2).f3))) (fun _ hk => hk.2) (.int .i64 ((rd_T60 ((rd_T58 l0_2 x7_1).f0) x9_2).f4))) (fun _ hk => ⟨hk.1.1, hk.1.2⟩))); (case aS => exact (below_size (hb_ HB.out))); (case aL => have := LMc45.out; omega); intro v194 w54 ho hb hg hat; rw [← Ny193.out] at ho; have n0_ := Aside0.mk (Kd.V_afterv (ok := (fun k_ => ((P0_1_ k_ ∨ P0_4_ k_) ∨ w.heap.size ≤ k_) ∧ some k_ ≠ (u176002 : Value).ownBlock ∧ k_ ≠ gb173 ∧ k_ ≠ gb174 ∧ k_ ≠ gb175 ∧ k_ ≠ gb182)) (by (with_reducible repeat (first | apply Kd.V_alloc | apply Kd.V_drewN | apply Kd.V_drew)); exact Kd.V_mono (Kd.V_far (p := ⟨gb182, 4, none⟩) (Kd.V_far (p := ⟨gb182, 3, none⟩) (Kd.V_far (p := ⟨gb182, 2, none⟩) (Kd.V_far (p := ⟨gb182, 1, none⟩) (Kd.V_far (p := ⟨gb182, 0, none⟩) (Kd.V_mono HO_174001.out (fun k_ hk => (⟨hk, hk.2⟩ : _ ∧ k_ ≠ gb182))) (fun _ hk => hk.2) (.int .i64 ((rd_T60 ((rd_T58 l0_2 x7_1).f0) x9_2).f0))) (fun _ hk => hk.2) (.string ((rd_T60 ((rd_T58 l0_2 x7_1).f0) x9_2).f1))) (fun _ hk => hk.2) (.string ((rd_T60 ((rd_T58 l0_2 x7_1).f0) x9_2).f2))) (fun _ hk => hk.2) (.string ((rd_T60 ((rd_T58 l0_2 x7_1).f0) x9_2).f3))) (fun _ hk => hk.2) (.int .i64 ((rd_T60 ((rd_T58 l0_2 x7_1).f0) x9_2).f4))) (fun _ hk => ⟨⟨hk.1.1.1, ⟨hk.1.1.2.2.1, ⟨hk.1.1.2.2.2.1, ⟨hk.1.1.2.2.2.2.1, ⟨hk.1.1.2.2.2.2.2, hk.1.2⟩⟩⟩⟩⟩, hk.1.1.2.1⟩)) hg hat); have n1_ := Aside0.mk (Kd.V_afterv (ok := (fun k_ => ((P0_1_ k_ ∨ P0_4_ k_) ∨ w.heap.size ≤ k_) ∧ some k_ ≠ (u176002 : Value).ownBlock ∧ k_ ≠ gb173 ∧ k_ ≠ gb174 ∧ k_ ≠ gb175 ∧ k_ ≠ gb182)) (by (with_reducible repeat (first | apply Kd.V_alloc | apply Kd.V_drewN | apply Kd.V_drew)); exact Kd.V_mono (Kd.V_far (p := ⟨gb182, 4, none⟩) (Kd.V_far (p := ⟨gb182, 3, none⟩) (Kd.V_far (p := ⟨gb182, 2, none⟩) (Kd.V_far (p := ⟨gb182, 1, none⟩) (Kd.V_far (p := ⟨gb182, 0, none⟩) (Kd.V_mono HO_174004.out (fun k_ hk => (⟨hk, hk.2⟩ : _ ∧ k_ ≠ gb182))) (fun _ hk => hk.2) (.int .i64 ((rd_T60 ((rd_T58 l0_2 x7_1).f0) x9_2).f0))) (fun _ hk => hk.2) (.string ((rd_T60 ((rd_T58 l0_2 x7_1).f0) x9_2).f1))) (fun _ hk => hk.2) (.string ((rd_T60 ((rd_T58 l0_2 x7_1).f0) x9_2).f2))) (fun _ hk => hk.2) (.string ((rd_T60 ((rd_T58 l0_2 x7_1).f0) x9_2).f3))) (fun _ hk => hk.2) (.int .i64 ((rd_T60 ((rd_T58 l0_2 x7_1).f0) x9_2).f4))) (fun _ hk => ⟨⟨hk.1.1.1, ⟨hk.1.1.2.2.1, ⟨hk.1.1.2.2.2.1, ⟨hk.1.1.2.2.2.2.1, ⟨hk.1.1.2.2.2.2.2, hk.1.2⟩⟩⟩⟩⟩, hk.1.1.2.1⟩)) hg hat); have n2_ := Aside0.mk (Kd.V_afterv (ok := (fun k_ => ((P0_1_ k_ ∨ P0_4_ k_) ∨ w.heap.size ≤ k_) ∧ some k_ ≠ (u176002 : Value).ownBlock ∧ k_ ≠ gb173 ∧ k_ ≠ gb174 ∧ k_ ≠ gb175 ∧ k_ ≠ gb182)) (by (with_reducible repeat (first | apply Kd.V_alloc | apply Kd.V_drewN | apply Kd.V_drew)); exact Kd.V_mono (Kd.V_far (p := ⟨gb182, 4, none⟩) (Kd.V_far (p := ⟨gb182, 3, none⟩) (Kd.V_far (p := ⟨gb182, 2, none⟩) (Kd.V_far (p := ⟨gb182, 1, none⟩) (Kd.V_far (p := ⟨gb182, 0, none⟩) (Kd.V_mono HO_176001.out (fun k_ hk => (⟨hk, hk.2⟩ : _ ∧ k_ ≠ gb182))) (fun _ hk => hk.2) (.int .i64 ((rd_T60 ((rd_T58 l0_2 x7_1).f0) x9_2).f0))) (fun _ hk => hk.2) (.string ((rd_T60 ((rd_T58 l0_2 x7_1).f0) x9_2).f1))) (fun _ hk => hk.2) (.string ((rd_T60 ((rd_T58 l0_2 x7_1).f0) x9_2).f2))) (fun _ hk => hk.2) (.string ((rd_T60 ((rd_T58 l0_2 x7_1).f0) x9_2).f3))) (fun _ hk => hk.2) (.int .i64 ((rd_T60 ((rd_T58 l0_2 x7_1).f0) x9_2).f4))) (fun _ hk => ⟨⟨hk.1.1.1, ⟨hk.1.1.2.2.1, ⟨hk.1.1.2.2.2.1, ⟨hk.1.1.2.2.2.2.1, ⟨hk.1.1.2.2.2.2.2, hk.1.2⟩⟩⟩⟩⟩, hk.1.1.2.1⟩)) hg hat); have n3_ := Aside0.mk (Kd.S_after (ok := (fun k_ => (w.heap.size ≤ k_) ∧ k_ ≠ gb182)) (by (with_reducible repeat (first | apply Kd.S_alloc | apply Kd.S_drewN | apply Kd.S_drew)); exact Kd.S_mono (Kd.S_far (p := ⟨gb182, 4, none⟩) (Kd.S_far (p := ⟨gb182, 3, none⟩) (Kd.S_far (p := ⟨gb182, 2, none⟩) (Kd.S_far (p := ⟨gb182, 1, none⟩) (Kd.S_far (p := ⟨gb182, 0, none⟩) (Kd.S_mono HO_176002.out (fun k_ hk => (⟨hk, hk.2⟩ : _ ∧ k_ ≠ gb182))) (fun _ hk => hk.2) (.int .i64 ((rd_T60 ((rd_T58 l0_2 x7_1).f0) x9_2).f0))) (fun _ hk => hk.2) (.string ((rd_T60 ((rd_T58 l0_2 x7_1).f0) x9_2).f1))) (fun _ hk => hk.2) (.string ((rd_T60 ((rd_T58 l0_2 x7_1).f0) x9_2).f2))) (fun _ hk => hk.2) (.string ((rd_T60 ((rd_T58 l0_2 x7_1).f0) x9_2).f3))) (fun _ hk => hk.2) (.int .i64 ((rd_T60 ((rd_T58 l0_2 x7_1).f0) x9_2).f4))) (fun _ hk => ⟨⟨hk.1.1.1, hk.1.2⟩, hk.1.1.2⟩)) hg hat); have n4_ := Aside0.mk (Kd.V_afterv (ok := (fun k_ => ((P0_1_ k_ ∨ P0_4_ k_) ∨ w.heap.size ≤ k_) ∧ some k_ ≠ (u176002 : Value).ownBlock ∧ k_ ≠ gb173 ∧ k_ ≠ gb174 ∧ k_ ≠ gb175 ∧ k_ ≠ gb182)) (by (with_reducible repeat (first | apply Kd.V_alloc | apply Kd.V_drewN | apply Kd.V_drew)); exact Kd.V_mono (Kd.V_far (p := ⟨gb182, 4, none⟩) (Kd.V_far (p := ⟨gb182, 3, none⟩) (Kd.V_far (p := ⟨gb182, 2, none⟩) (Kd.V_far (p := ⟨gb182, 1, none⟩) (Kd.V_far (p := ⟨gb182, 0, none⟩) (Kd.V_mono HO_176004.out (fun k_ hk => (⟨hk, hk.2⟩ : _ ∧ k_ ≠ gb182))) (fun _ hk => hk.2) (.int .i64 ((rd_T60 ((rd_T58 l0_2 x7_1).f0) x9_2).f0))) (fun _ hk => hk.2) (.string ((rd_T60 ((rd_T58 l0_2 x7_1).f0) x9_2).f1))) (fun _ hk => hk.2) (.string ((rd_T60 ((rd_T58 l0_2 x7_1).f0) x9_2).f2))) (fun _ hk => hk.2) (.string ((rd_T60 ((rd_T58 l0_2 x7_1).f0) x9_2).f3))) (fun _ hk => hk.2) (.int .i64 ((rd_T60 ((rd_T58 l0_2 x7_1).f0) x9_2).f4))) (fun _ hk => ⟨⟨hk.1.1.1, ⟨hk.1.1.2.2.1, ⟨hk.1.1.2.2.2.1, ⟨hk.1.1.2.2.2.2.1, ⟨hk.1.1.2.2.2.2.2, hk.1.2⟩⟩⟩⟩⟩, hk.1.1.2.1⟩)) hg hat); have n5_ := Aside0.mk (blk_grown (g := gb173) (o := .cells #[.string a0_0, .slice A0_1 l0_1.length c0_1, .slice (some ad176) l0_2.length c0_2, .bool a0_3, .slice A0_4 l0_4.length c0_4] 30 (0, 0)) (by exact bf5_ BK173.out NB173_182.out) hg (Kd.R_ne HO_8.out BK173.out (by decide))); have n6_ := Aside0.mk (blk_grown (g := gb174) (o := .cells #[.string (⟨#[]⟩ : ByteArray), .slice none 0 0, .slice none 0 0, .bool false, .slice none 0 0] 30 (0, 0)) (by exact bf5_ BK174.out NB174_182.out) hg (Kd.R_ne HO_8.out BK174.out (by decide))); have n7_ := Aside0.mk (blk_grown (g := gb175) (o := .cells #[.string a0_0, .slice A0_1 l0_1.length c0_1, u176002, .bool a0_3, .slice A0_4 l0_4.length c0_4] 30 (0, 0)) (by exact bf5_ BK175.out NB175_182.out) hg (Kd.R_ne HO_8.out BK175.out (by decide))); have n8_ := Aside0.mk (blk_grown (g := gb182) (o := .cells #[.int .i64 ((rd_T60 ((rd_T58 l0_2 x7_1).f0) x9_2).f0), .string ((rd_T60 ((rd_T58 l0_2 x7_1).f0) x9_2).f1), .string ((rd_T60 ((rd_T58 l0_2 x7_1).f0) x9_2).f2), .string ((rd_T60 ((rd_T58 l0_2 x7_1).f0) x9_2).f3), .int .i64 ((rd_T60 ((rd_T58 l0_2 x7_1).f0) x9_2).f4)] 60 (0, 0)) (by exact bp5_ BK182.out) hg (Kd.R_away HO_8.out (fun _ hk => hk.2))); have n9_ := Aside0.mk (hb); have n10_ := Aside0.mk (ho); clear HO_174001; clear HO_174004; clear HO_176001; clear HO_176002; clear HO_176004; clear BK173; clear BK174; clear BK175; clear BK182; clear HB; clear HO_8; have HO_174001 := n0_; have HO_174004 := n1_; have HO_176001 := n2_; have HO_176002 := n3_; have HO_176004 := n4_; have BK173 := n5_; have BK174 := n6_; have BK175 := n7_; have BK182 := n8_; have HB := n9_; have HO195 := n10_; clear n0_ n1_ n2_ n3_ n4_ n5_ n6_ n7_ n8_ n9_ n10_; clear ho hb hg hat))
  go_roundg k2
  case measure => have := HK1.out; have := HK2.out; omega
  case rel => exact ⟨(wrap64 (x6_2 + 1)), (y193), (wrap64 (x9_2 + 1)), rf_, rf_, H', ⟨by have := HK1.out; have := HK2.out; omega⟩, ⟨by (with_reducible repeat (first | apply Kd.R_alloc | apply Kd.R_drewN | apply Kd.R_drew)); exact Kd.R_mono HO195.out (fun _ hk => hk.1)⟩, ⟨by (with_reducible repeat (first | apply Kd.V_alloc | apply Kd.V_drewN | apply Kd.V_drew)); exact Kd.V_mono HO_174001.out (fun _ hk => ⟨hk.1.1, ⟨hk.2, ⟨hk.1.2.1, ⟨hk.1.2.2.1, ⟨hk.1.2.2.2.1, hk.1.2.2.2.2.1⟩⟩⟩⟩⟩)⟩, ⟨by (with_reducible repeat (first | apply Kd.V_alloc | apply Kd.V_drewN | apply Kd.V_drew)); exact Kd.V_mono HO_174004.out (fun _ hk => ⟨hk.1.1, ⟨hk.2, ⟨hk.1.2.1, ⟨hk.1.2.2.1, ⟨hk.1.2.2.2.1, hk.1.2.2.2.2.1⟩⟩⟩⟩⟩)⟩, ⟨by (with_reducible repeat (first | apply Kd.V_alloc | apply Kd.V_drewN | apply Kd.V_drew)); exact Kd.V_mono HO_176001.out (fun _ hk => ⟨hk.1.1, ⟨hk.2, ⟨hk.1.2.1, ⟨hk.1.2.2.1, ⟨hk.1.2.2.2.1, hk.1.2.2.2.2.1⟩⟩⟩⟩⟩)⟩, ⟨by (with_reducible repeat (first | apply Kd.S_alloc | apply Kd.S_drewN | apply Kd.S_drew)); exact Kd.S_mono HO_176002.out (fun _ hk => ⟨hk.1.1, hk.2⟩)⟩, ⟨by (with_reducible repeat (first | apply Kd.V_alloc | apply Kd.V_drewN | apply Kd.V_drew)); exact Kd.V_mono HO_176004.out (fun _ hk => ⟨hk.1.1, ⟨hk.2, ⟨hk.1.2.1, ⟨hk.1.2.2.1, ⟨hk.1.2.2.2.1, hk.1.2.2.2.2.1⟩⟩⟩⟩⟩)⟩, ⟨bd_ BK173.out⟩, ⟨bd_ BK174.out⟩, ⟨bd_ BK175.out⟩, ⟨hb_ HB.out⟩⟩
 subst c31
 have H1 : (if x8_2.length < 2199023255552 then ((some (x8_2 ++ [(⟨6, (⟨#[]⟩ : ByteArray), (⟨#[]⟩ : ByteArray), (⟨#[]⟩ : ByteArray), 0⟩ : S60)] : List (S60))).bind fun y187 => (if y187.length < 2199023255552 then (fencepostref08_Fence.l1 k2 l1 (wrap64 (x6_2 + 1)) x7_1 (y187 ++ [(⟨(rd_T60 ((rd_T58 l0_2 x7_1).f0) x9_2).f0, (rd_T60 ((rd_T58 l0_2 x7_1).f0) x9_2).f1, (rd_T60 ((rd_T58 l0_2 x7_1).f0) x9_2).f2, (rd_T60 ((rd_T58 l0_2 x7_1).f0) x9_2).f3, (rd_T60 ((rd_T58 l0_2 x7_1).f0) x9_2).f4⟩ : S60)]) (wrap64 (x9_2 + 1)) a0_0 l0_1 l0_2 a0_3 l0_4 a0_0 l0_1 x176002_1 a0_3 l0_4) else (none))) else (none)) = some (r1, r2, r3, r4, r5) := by rw [if_pos rfl] at H; exact H
 clear H
 have H := H1
 clear H1
 by_cases c32 : x8_2.length < 2199023255552
 rotate_left
 ·rw [if_neg c32] at H
  exact absurd H (by simp)
 rw [if_pos c32] at H
 have LMc32 := Aside0.mk c32
 clear c32
 obtain ⟨y187, hy187⟩ : ∃ y_ : List (S60), y_ = (x8_2 ++ [(⟨6, (⟨#[]⟩ : ByteArray), (⟨#[]⟩ : ByteArray), (⟨#[]⟩ : ByteArray), 0⟩ : S60)]) := ⟨_, rfl⟩
 replace H : (if y187.length < 2199023255552 then (fencepostref08_Fence.l1 k2 l1 (wrap64 (x6_2 + 1)) x7_1 (y187 ++ [(⟨(rd_T60 ((rd_T58 l0_2 x7_1).f0) x9_2).f0, (rd_T60 ((rd_T58 l0_2 x7_1).f0) x9_2).f1, (rd_T60 ((rd_T58 l0_2 x7_1).f0) x9_2).f2, (rd_T60 ((rd_T58 l0_2 x7_1).f0) x9_2).f3, (rd_T60 ((rd_T58 l0_2 x7_1).f0) x9_2).f4⟩ : S60)]) (wrap64 (x9_2 + 1)) a0_0 l0_1 l0_2 a0_3 l0_4 a0_0 l0_1 x176002_1 a0_3 l0_4) else (none)) = some (r1, r2, r3, r4, r5) := by first | (rw [hy187]; with_reducible exact H) | (have H2_ := (Option.bind_some _ _).symm.trans H; rw [hy187]; with_reducible exact H2_) | (have H2_ := (Option.bind_some _ _).symm.trans H; with_reducible exact H2_) | with_reducible exact H | (rw [hy187]; exact H) | exact H
 have Ny187 := Aside0.mk hy187
 clear hy187
 by_cases c33 : y187.length < 2199023255552
 rotate_left
 ·rw [if_neg c33] at H
  exact absurd H (by simp)
 rw [if_pos c33] at H
 have LMc33 := Aside0.mk c33
 clear c33
 obtain ⟨y190, hy190⟩ : ∃ y_ : List (S60), y_ = (y187 ++ [(⟨(rd_T60 ((rd_T58 l0_2 x7_1).f0) x9_2).f0, (rd_T60 ((rd_T58 l0_2 x7_1).f0) x9_2).f1, (rd_T60 ((rd_T58 l0_2 x7_1).f0) x9_2).f2, (rd_T60 ((rd_T58 l0_2 x7_1).f0) x9_2).f3, (rd_T60 ((rd_T58 l0_2 x7_1).f0) x9_2).f4⟩ : S60)]) := ⟨_, rfl⟩
 replace H : (fencepostref08_Fence.l1 k2 l1 (wrap64 (x6_2 + 1)) x7_1 y190 (wrap64 (x9_2 + 1)) a0_0 l0_1 l0_2 a0_3 l0_4 a0_0 l0_1 x176002_1 a0_3 l0_4) = some (r1, r2, r3, r4, r5) := by first | (rw [hy190]; with_reducible exact H) | (have H2_ := (Option.bind_some _ _).symm.trans H; rw [hy190]; with_reducible exact H2_) | (have H2_ := (Option.bind_some _ _).symm.trans H; with_reducible exact H2_) | with_reducible exact H | (rw [hy190]; exact H) | exact H
 have Ny190 := Aside0.mk hy190
 clear hy190
 have H' := Aside0.mk H
 clear H
 have hnb34 := NB173_174.out
 have hnc34 := NB174_173.out
 have hnb35 := NB173_175.out
 have hnc35 := NB175_173.out
 have hcz36_0 : wr.cell? ⟨gb173, 0, none⟩ = some (.string a0_0) := (blk_cell BK173.out 0).trans rfl
 have hcz36_1 : wr.cell? ⟨gb173, 1, none⟩ = some (.slice A0_1 l0_1.length c0_1) := (blk_cell BK173.out 1).trans rfl
 have hcz36_2 : wr.cell? ⟨gb173, 2, none⟩ = some (.slice A0_2 l0_2.length c0_2) := (blk_cell BK173.out 2).trans rfl
 have hcz36_3 : wr.cell? ⟨gb173, 3, none⟩ = some (.bool a0_3) := (blk_cell BK173.out 3).trans rfl
 have hcz36_4 : wr.cell? ⟨gb173, 4, none⟩ = some (.slice A0_4 l0_4.length c0_4) := (blk_cell BK173.out 4).trans rfl
 have hfz36_0 := blk_frozen BK173.out 0
 have hfz36_1 := blk_frozen BK173.out 1
 have hfz36_2 := blk_frozen BK173.out 2
 have hfz36_3 := blk_frozen BK173.out 3
 have hfz36_4 := blk_frozen BK173.out 4
 have p176 : 0 ≤ (x7_1 : Int) := of_decide_eq_true as_
 have q176 : x7_1 < (l0_2.length : Int) := of_decide_eq_true as_
 obtain ⟨ad176, A176_0, c176_0, e176, hx176_0, hl176_0, hi176_0⟩ := at_T58 HR0_2.out x7_1 p176 q176
 cases e176
 replace hx176_0 := cl_ HB.out hx176_0
 have HR176_0 := Aside0.mk hi176_0
 have HC176_0 := Aside0.mk hl176_0
 clear hi176_0 hl176_0
 replace p176 := eq_true p176
 replace q176 := eq_true q176
 have p180 : 0 ≤ (x7_1 : Int) := of_decide_eq_true as_
 have q180 : x7_1 < (l0_2.length : Int) := of_decide_eq_true as_
 obtain ⟨ad180, A180_0, c180_0, e180, hx180_0, hl180_0, hi180_0⟩ := at_T58 HR0_2.out x7_1 p180 q180
 obtain rfl : ad176 = ad180 := (by injection e180)
 replace hx180_0 := cl_ HB.out hx180_0
 have HR180_0 := Aside0.mk hi180_0
 have HC180_0 := Aside0.mk hl180_0
 clear hi180_0 hl180_0
 replace p180 := eq_true p180
 replace q180 := eq_true q180
 have ea_ := Option.some.inj (hx176_0.symm.trans hx180_0)
 injection ea_ with ea_ en_ ec_
 subst ea_
 subst ec_
 clear en_
 have p181 : 0 ≤ (x9_2 : Int) := of_decide_eq_true as_
 have q181 : x9_2 < (((rd_T58 l0_2 x7_1).f0).length : Int) := of_decide_eq_true as_
 obtain ⟨ad181, e181, hx181_0, hx181_1, hx181_2, hx181_3, hx181_4⟩ := at_T60 HR180_0.out x9_2 p181 q181
 cases e181
 replace hx181_0 := cl_ HB.out hx181_0
 replace hx181_1 := cl_ HB.out hx181_1
 replace hx181_2 := cl_ HB.out hx181_2
 replace hx181_3 := cl_ HB.out hx181_3
 replace hx181_4 := cl_ HB.out hx181_4
 replace p181 := eq_true p181
 replace q181 := eq_true q181
 go_wp2_with (first | ((with_reducible refine gate_dst (N := 10) rfl ?_); refine box_event ?hg (N := 10) ?hd (cs := #[.int .i64 0, .string (⟨#[]⟩ : ByteArray), .string (⟨#[]⟩ : ByteArray), .string (⟨#[]⟩ : ByteArray), .int .i64 0]) (t := 60) ?hr ?_; (case hd => rfl); (case hg => rfl); (case hr => first | (go_simp; done) | (go_simp; rfl)); intro gb182 hg w37 hbox hb; have n0_ := Aside0.mk (Kd.R_below (Kd.R_elderB (rd_ HO_8.out) gb182 (Nat.le_of_eq hg.symm)) hb); have n1_ := Aside0.mk (Kd.V_below (Kd.V_elderB (vd_ HO_174001.out) gb182 (Nat.le_of_eq hg.symm)) hb); have n2_ := Aside0.mk (Kd.V_below (Kd.V_elderB (vd_ HO_174004.out) gb182 (Nat.le_of_eq hg.symm)) hb); have n3_ := Aside0.mk (Kd.V_below (Kd.V_elderB (vd_ HO_176001.out) gb182 (Nat.le_of_eq hg.symm)) hb); have n4_ := Aside0.mk (Kd.S_below (Kd.S_elderB (sd_ HO_176002.out) gb182 (Nat.le_of_eq hg.symm)) hb); have n5_ := Aside0.mk (Kd.V_below (Kd.V_elderB (vd_ HO_176004.out) gb182 (Nat.le_of_eq hg.symm)) hb); have n6_ := Aside0.mk (bb_ BK173.out hb); have n7_ := Aside0.mk (bb_ BK174.out hb); have n8_ := Aside0.mk (bb_ BK175.out hb); have n9_ := Aside0.mk (below_step (hb_ HB.out) hb); have n10_ := Aside0.mk (hbox); have n11_ := Aside0.mk (gs_ hg (hb_ HB.out)); have n12_ := Aside0.mk (gs_ hg (hb_ HB.out)); have n13_ := Aside0.mk (gn_ hg BK173.out); have n14_ := Aside0.mk (gn_ hg BK173.out).symm; have n15_ := Aside0.mk (gn_ hg BK174.out); have n16_ := Aside0.mk (gn_ hg BK174.out).symm; have n17_ := Aside0.mk (gn_ hg BK175.out); have n18_ := Aside0.mk (gn_ hg BK175.out).symm; clear HO_8; clear HO_174001; clear HO_174004; clear HO_176001; clear HO_176002; clear HO_176004; clear BK173; clear BK174; clear BK175; clear HB; have HO_8 := n0_; have HO_174001 := n1_; have HO_174004 := n2_; have HO_176001 := n3_; have HO_176002 := n4_; have HO_176004 := n5_; have BK173 := n6_; have BK174 := n7_; have BK175 := n8_; have HB := n9_; have BK182 := n10_; have GW182 := n11_; have GE182 := n12_; have NB173_182 := n13_; have NB182_173 := n14_; have NB174_182 := n15_; have NB182_174 := n16_; have NB175_182 := n17_; have NB182_175 := n18_; clear n0_ n1_ n2_ n3_ n4_ n5_ n6_ n7_ n8_ n9_ n10_ n11_ n12_ n13_ n14_ n15_ n16_ n17_ n18_; clear hb hbox hg; have hnb38 := NB182_173.out; have hnc38 := NB173_182.out; have hnb39 := NB182_174.out; have hnc39 := NB174_182.out; have hnb40 := NB182_175.out; have hnc40 := NB175_182.out; have hcz41_0 : w37.cell? ⟨gb182, 0, none⟩ = some (.int .i64 0) := (blk_cell BK182.out 0).trans rfl; have hcz41_1 : w37.cell? ⟨gb182, 1, none⟩ = some (.string (⟨#[]⟩ : ByteArray)) := (blk_cell BK182.out 1).trans rfl; have hcz41_2 : w37.cell? ⟨gb182, 2, none⟩ = some (.string (⟨#[]⟩ : ByteArray)) := (blk_cell BK182.out 2).trans rfl; have hcz41_3 : w37.cell? ⟨gb182, 3, none⟩ = some (.string (⟨#[]⟩ : ByteArray)) := (blk_cell BK182.out 3).trans rfl; have hcz41_4 : w37.cell? ⟨gb182, 4, none⟩ = some (.int .i64 0) := (blk_cell BK182.out 4).trans rfl; have hfz41_0 := blk_frozen BK182.out 0; have hfz41_1 := blk_frozen BK182.out 1; have hfz41_2 := blk_frozen BK182.out 2; have hfz41_3 := blk_frozen BK182.out 3; have hfz41_4 := blk_frozen BK182.out 4) | ((with_reducible refine gate_callee (f := 29) rfl ?_); refine goesL_ (some 45) rfl rfl Try.func29 (by kernel_rfl) rfl #[.slice A1 l1.length c1, .int .i64 x6_2] rfl ar_ ?_; (with_reducible refine (fencepostref08_Has.calls k2 _ _ l1 x6_2 true _ ?side1 ?side2 A30.out).mono ?_); (case side1 => exact Kd.C_below HR1.out (hb_ HB.out)); (case side2 => exact HC1.out); rintro e w' ⟨rfl, ⟨nd, rfl⟩⟩; refine ⟨_, rfl, ?_⟩) | ((with_reducible refine gate_builtin (b := .append) (xs := #[.tmp 46, .tmp 48]) rfl ?_); at_builtin; refine Kd.R_append k60 (w0 := w) w.heap.size rfl (.tmp 46) (.tmp 48) 56 60 (.agg #[(.int .i64 0), (.string ⟨#[]⟩), (.string ⟨#[]⟩), (.string ⟨#[]⟩), (.int .i64 0)]) 64 rfl Try.underlying56 info60 rfl (by decide) (by omega) u8 x8_2 (⟨6, (⟨#[]⟩ : ByteArray), (⟨#[]⟩ : ByteArray), (⟨#[]⟩ : ByteArray), 0⟩ : S60) [.int .i64 6, .string (⟨#[]⟩ : ByteArray), .string (⟨#[]⟩ : ByteArray), .string (⟨#[]⟩ : ByteArray), .int .i64 0] (fun k_ => (w.heap.size ≤ k_) ∧ k_ ≠ gb182) (fun _ => False) rfl (by first | (go_simp; done) | (go_simp; rfl)) ?aP (fun _ hk => hk.elim) ?aF ?aO ?aB ?aS ?aL ?_; (case aP => exact k60_mkM _ _ _ (⟨6, (⟨#[]⟩ : ByteArray), (⟨#[]⟩ : ByteArray), (⟨#[]⟩ : ByteArray), 0⟩ : S60)); (case aB => exact (hb_ HB.out)); (case aF => exact (fun k_ hk => ⟨(Nat.le_trans (below_size (hb_ HB.out)) hk), Kd.freshB (g := gb182) (o := .cells #[.int .i64 ((rd_T60 ((rd_T58 l0_2 x7_1).f0) x9_2).f0), .string ((rd_T60 ((rd_T58 l0_2 x7_1).f0) x9_2).f1), .string ((rd_T60 ((rd_T58 l0_2 x7_1).f0) x9_2).f2), .string ((rd_T60 ((rd_T58 l0_2 x7_1).f0) x9_2).f3), .int .i64 ((rd_T60 ((rd_T58 l0_2 x7_1).f0) x9_2).f4)] 60 (0, 0)) (by exact bp5_ BK182.out) k_ hk⟩)); (case aO => exact (by (with_reducible repeat (first | apply Kd.R_alloc | apply Kd.R_drewN | apply Kd.R_drew)); exact Kd.R_mono (Kd.R_far (p := ⟨gb182, 4, none⟩) (Kd.R_far (p := ⟨gb182, 3, none⟩) (Kd.R_far (p := ⟨gb182, 2, none⟩) (Kd.R_far (p := ⟨gb182, 1, none⟩) (Kd.R_far (p := ⟨gb182, 0, none⟩) (Kd.R_mono HO_8.out (fun k_ hk => (⟨hk, hk.2⟩ : _ ∧ k_ ≠ gb182))) (fun _ hk => hk.2) (.int .i64 ((rd_T60 ((rd_T58 l0_2 x7_1).f0) x9_2).f0))) (fun _ hk => hk.2) (.string ((rd_T60 ((rd_T58 l0_2 x7_1).f0) x9_2).f1))) (fun _ hk => hk.2) (.string ((rd_T60 ((rd_T58 l0_2 x7_1).f0) x9_2).f2))) (fun _ hk => hk.2) (.string ((rd_T60 ((rd_T58 l0_2 x7_1).f0) x9_2).f3))) (fun _ hk => hk.2) (.int .i64 ((rd_T60 ((rd_T58 l0_2 x7_1).f0) x9_2).f4))) (fun _ hk => ⟨hk.1.1, hk.1.2⟩))); (case aS => exact (below_size (hb_ HB.out))); (case aL => have := LMc32.out; omega); intro v188 w42 ho hb hg hat; rw [← Ny187.out] at ho; have n0_ := Aside0.mk (Kd.V_afterv (ok := (fun k_ => ((P0_1_ k_ ∨ P0_4_ k_) ∨ w.heap.size ≤ k_) ∧ some k_ ≠ (u176002 : Value).ownBlock ∧ k_ ≠ gb173 ∧ k_ ≠ gb174 ∧ k_ ≠ gb175 ∧ k_ ≠ gb182)) (by (with_reducible repeat (first | apply Kd.V_alloc | apply Kd.V_drewN | apply Kd.V_drew)); exact Kd.V_mono (Kd.V_far (p := ⟨gb182, 4, none⟩) (Kd.V_far (p := ⟨gb182, 3, none⟩) (Kd.V_far (p := ⟨gb182, 2, none⟩) (Kd.V_far (p := ⟨gb182, 1, none⟩) (Kd.V_far (p := ⟨gb182, 0, none⟩) (Kd.V_mono HO_174001.out (fun k_ hk => (⟨hk, hk.2⟩ : _ ∧ k_ ≠ gb182))) (fun _ hk => hk.2) (.int .i64 ((rd_T60 ((rd_T58 l0_2 x7_1).f0) x9_2).f0))) (fun _ hk => hk.2) (.string ((rd_T60 ((rd_T58 l0_2 x7_1).f0) x9_2).f1))) (fun _ hk => hk.2) (.string ((rd_T60 ((rd_T58 l0_2 x7_1).f0) x9_2).f2))) (fun _ hk => hk.2) (.string ((rd_T60 ((rd_T58 l0_2 x7_1).f0) x9_2).f3))) (fun _ hk => hk.2) (.int .i64 ((rd_T60 ((rd_T58 l0_2 x7_1).f0) x9_2).f4))) (fun _ hk => ⟨⟨hk.1.1.1, ⟨hk.1.1.2.2.1, ⟨hk.1.1.2.2.2.1, ⟨hk.1.1.2.2.2.2.1, ⟨hk.1.1.2.2.2.2.2, hk.1.2⟩⟩⟩⟩⟩, hk.1.1.2.1⟩)) hg hat); have n1_ := Aside0.mk (Kd.V_afterv (ok := (fun k_ => ((P0_1_ k_ ∨ P0_4_ k_) ∨ w.heap.size ≤ k_) ∧ some k_ ≠ (u176002 : Value).ownBlock ∧ k_ ≠ gb173 ∧ k_ ≠ gb174 ∧ k_ ≠ gb175 ∧ k_ ≠ gb182)) (by (with_reducible repeat (first | apply Kd.V_alloc | apply Kd.V_drewN | apply Kd.V_drew)); exact Kd.V_mono (Kd.V_far (p := ⟨gb182, 4, none⟩) (Kd.V_far (p := ⟨gb182, 3, none⟩) (Kd.V_far (p := ⟨gb182, 2, none⟩) (Kd.V_far (p := ⟨gb182, 1, none⟩) (Kd.V_far (p := ⟨gb182, 0, none⟩) (Kd.V_mono HO_174004.out (fun k_ hk => (⟨hk, hk.2⟩ : _ ∧ k_ ≠ gb182))) (fun _ hk => hk.2) (.int .i64 ((rd_T60 ((rd_T58 l0_2 x7_1).f0) x9_2).f0))) (fun _ hk => hk.2) (.string ((rd_T60 ((rd_T58 l0_2 x7_1).f0) x9_2).f1))) (fun _ hk => hk.2) (.string ((rd_T60 ((rd_T58 l0_2 x7_1).f0) x9_2).f2))) (fun _ hk => hk.2) (.string ((rd_T60 ((rd_T58 l0_2 x7_1).f0) x9_2).f3))) (fun _ hk => hk.2) (.int .i64 ((rd_T60 ((rd_T58 l0_2 x7_1).f0) x9_2).f4))) (fun _ hk => ⟨⟨hk.1.1.1, ⟨hk.1.1.2.2.1, ⟨hk.1.1.2.2.2.1, ⟨hk.1.1.2.2.2.2.1, ⟨hk.1.1.2.2.2.2.2, hk.1.2⟩⟩⟩⟩⟩, hk.1.1.2.1⟩)) hg hat); have n2_ := Aside0.mk (Kd.V_afterv (ok := (fun k_ => ((P0_1_ k_ ∨ P0_4_ k_) ∨ w.heap.size ≤ k_) ∧ some k_ ≠ (u176002 : Value).ownBlock ∧ k_ ≠ gb173 ∧ k_ ≠ gb174 ∧ k_ ≠ gb175 ∧ k_ ≠ gb182)) (by (with_reducible repeat (first | apply Kd.V_alloc | apply Kd.V_drewN | apply Kd.V_drew)); exact Kd.V_mono (Kd.V_far (p := ⟨gb182, 4, none⟩) (Kd.V_far (p := ⟨gb182, 3, none⟩) (Kd.V_far (p := ⟨gb182, 2, none⟩) (Kd.V_far (p := ⟨gb182, 1, none⟩) (Kd.V_far (p := ⟨gb182, 0, none⟩) (Kd.V_mono HO_176001.out (fun k_ hk => (⟨hk, hk.2⟩ : _ ∧ k_ ≠ gb182))) (fun _ hk => hk.2) (.int .i64 ((rd_T60 ((rd_T58 l0_2 x7_1).f0) x9_2).f0))) (fun _ hk => hk.2) (.string ((rd_T60 ((rd_T58 l0_2 x7_1).f0) x9_2).f1))) (fun _ hk => hk.2) (.string ((rd_T60 ((rd_T58 l0_2 x7_1).f0) x9_2).f2))) (fun _ hk => hk.2) (.string ((rd_T60 ((rd_T58 l0_2 x7_1).f0) x9_2).f3))) (fun _ hk => hk.2) (.int .i64 ((rd_T60 ((rd_T58 l0_2 x7_1).f0) x9_2).f4))) (fun _ hk => ⟨⟨hk.1.1.1, ⟨hk.1.1.2.2.1, ⟨hk.1.1.2.2.2.1, ⟨hk.1.1.2.2.2.2.1, ⟨hk.1.1.2.2.2.2.2, hk.1.2⟩⟩⟩⟩⟩, hk.1.1.2.1⟩)) hg hat); have n3_ := Aside0.mk (Kd.S_after (ok := (fun k_ => (w.heap.size ≤ k_) ∧ k_ ≠ gb182)) (by (with_reducible repeat (first | apply Kd.S_alloc | apply Kd.S_drewN | apply Kd.S_drew)); exact Kd.S_mono (Kd.S_far (p := ⟨gb182, 4, none⟩) (Kd.S_far (p := ⟨gb182, 3, none⟩) (Kd.S_far (p := ⟨gb182, 2, none⟩) (Kd.S_far (p := ⟨gb182, 1, none⟩) (Kd.S_far (p := ⟨gb182, 0, none⟩) (Kd.S_mono HO_176002.out (fun k_ hk => (⟨hk, hk.2⟩ : _ ∧ k_ ≠ gb182))) (fun _ hk => hk.2) (.int .i64 ((rd_T60 ((rd_T58 l0_2 x7_1).f0) x9_2).f0))) (fun _ hk => hk.2) (.string ((rd_T60 ((rd_T58 l0_2 x7_1).f0) x9_2).f1))) (fun _ hk => hk.2) (.string ((rd_T60 ((rd_T58 l0_2 x7_1).f0) x9_2).f2))) (fun _ hk => hk.2) (.string ((rd_T60 ((rd_T58 l0_2 x7_1).f0) x9_2).f3))) (fun _ hk => hk.2) (.int .i64 ((rd_T60 ((rd_T58 l0_2 x7_1).f0) x9_2).f4))) (fun _ hk => ⟨⟨hk.1.1.1, hk.1.2⟩, hk.1.1.2⟩)) hg hat); have n4_ := Aside0.mk (Kd.V_afterv (ok := (fun k_ => ((P0_1_ k_ ∨ P0_4_ k_) ∨ w.heap.size ≤ k_) ∧ some k_ ≠ (u176002 : Value).ownBlock ∧ k_ ≠ gb173 ∧ k_ ≠ gb174 ∧ k_ ≠ gb175 ∧ k_ ≠ gb182)) (by (with_reducible repeat (first | apply Kd.V_alloc | apply Kd.V_drewN | apply Kd.V_drew)); exact Kd.V_mono (Kd.V_far (p := ⟨gb182, 4, none⟩) (Kd.V_far (p := ⟨gb182, 3, none⟩) (Kd.V_far (p := ⟨gb182, 2, none⟩) (Kd.V_far (p := ⟨gb182, 1, none⟩) (Kd.V_far (p := ⟨gb182, 0, none⟩) (Kd.V_mono HO_176004.out (fun k_ hk => (⟨hk, hk.2⟩ : _ ∧ k_ ≠ gb182))) (fun _ hk => hk.2) (.int .i64 ((rd_T60 ((rd_T58 l0_2 x7_1).f0) x9_2).f0))) (fun _ hk => hk.2) (.string ((rd_T60 ((rd_T58 l0_2 x7_1).f0) x9_2).f1))) (fun _ hk => hk.2) (.string ((rd_T60 ((rd_T58 l0_2 x7_1).f0) x9_2).f2))) (fun _ hk => hk.2) (.string ((rd_T60 ((rd_T58 l0_2 x7_1).f0) x9_2).f3))) (fun _ hk => hk.2) (.int .i64 ((rd_T60 ((rd_T58 l0_2 x7_1).f0) x9_2).f4))) (fun _ hk => ⟨⟨hk.1.1.1, ⟨hk.1.1.2.2.1, ⟨hk.1.1.2.2.2.1, ⟨hk.1.1.2.2.2.2.1, ⟨hk.1.1.2.2.2.2.2, hk.1.2⟩⟩⟩⟩⟩, hk.1.1.2.1⟩)) hg hat); have n5_ := Aside0.mk (blk_grown (g := gb173) (o := .cells #[.string a0_0, .slice A0_1 l0_1.length c0_1, .slice (some ad176) l0_2.length c0_2, .bool a0_3, .slice A0_4 l0_4.length c0_4] 30 (0, 0)) (by exact bf5_ BK173.out NB173_182.out) hg (Kd.R_ne HO_8.out BK173.out (by decide))); have n6_ := Aside0.mk (blk_grown (g := gb174) (o := .cells #[.string (⟨#[]⟩ : ByteArray), .slice none 0 0, .slice none 0 0, .bool false, .slice none 0 0] 30 (0, 0)) (by exact bf5_ BK174.out NB174_182.out) hg (Kd.R_ne HO_8.out BK174.out (by decide))); have n7_ := Aside0.mk (blk_grown (g := gb175) (o := .cells #[.string a0_0, .slice A0_1 l0_1.length c0_1, u176002, .bool a0_3, .slice A0_4 l0_4.length c0_4] 30 (0, 0)) (by exact bf5_ BK175.out NB175_182.out) hg (Kd.R_ne HO_8.out BK175.out (by decide))); have n8_ := Aside0.mk (blk_grown (g := gb182) (o := .cells #[.int .i64 ((rd_T60 ((rd_T58 l0_2 x7_1).f0) x9_2).f0), .string ((rd_T60 ((rd_T58 l0_2 x7_1).f0) x9_2).f1), .string ((rd_T60 ((rd_T58 l0_2 x7_1).f0) x9_2).f2), .string ((rd_T60 ((rd_T58 l0_2 x7_1).f0) x9_2).f3), .int .i64 ((rd_T60 ((rd_T58 l0_2 x7_1).f0) x9_2).f4)] 60 (0, 0)) (by exact bp5_ BK182.out) hg (Kd.R_away HO_8.out (fun _ hk => hk.2))); have n9_ := Aside0.mk (hb); have n10_ := Aside0.mk (ho); clear HO_174001; clear HO_174004; clear HO_176001; clear HO_176002; clear HO_176004; clear BK173; clear BK174; clear BK175; clear BK182; clear HB; clear HO_8; have HO_174001 := n0_; have HO_174004 := n1_; have HO_176001 := n2_; have HO_176002 := n3_; have HO_176004 := n4_; have BK173 := n5_; have BK174 := n6_; have BK175 := n7_; have BK182 := n8_; have HB := n9_; have HO189 := n10_; clear n0_ n1_ n2_ n3_ n4_ n5_ n6_ n7_ n8_ n9_ n10_; clear ho hb hg hat; have hcz43_0 : w42.cell? ⟨gb182, 0, none⟩ = some (.int .i64 ((rd_T60 ((rd_T58 l0_2 x7_1).f0) x9_2).f0)) := (blk_cell BK182.out 0).trans rfl; have hcz43_1 : w42.cell? ⟨gb182, 1, none⟩ = some (.string ((rd_T60 ((rd_T58 l0_2 x7_1).f0) x9_2).f1)) := (blk_cell BK182.out 1).trans rfl; have hcz43_2 : w42.cell? ⟨gb182, 2, none⟩ = some (.string ((rd_T60 ((rd_T58 l0_2 x7_1).f0) x9_2).f2)) := (blk_cell BK182.out 2).trans rfl; have hcz43_3 : w42.cell? ⟨gb182, 3, none⟩ = some (.string ((rd_T60 ((rd_T58 l0_2 x7_1).f0) x9_2).f3)) := (blk_cell BK182.out 3).trans rfl; have hcz43_4 : w42.cell? ⟨gb182, 4, none⟩ = some (.int .i64 ((rd_T60 ((rd_T58 l0_2 x7_1).f0) x9_2).f4)) := (blk_cell BK182.out 4).trans rfl; have hfz43_0 := blk_frozen BK182.out 0; have hfz43_1 := blk_frozen BK182.out 1; have hfz43_2 := blk_frozen BK182.out 2; have hfz43_3 := blk_frozen BK182.out 3; have hfz43_4 := blk_frozen BK182.out 4) | ((with_reducible refine gate_builtin (b := .append) (xs := #[.tmp 52, .tmp 54]) rfl ?_); at_builtin; refine Kd.R_append k60 (w0 := w) w.heap.size rfl (.tmp 52) (.tmp 54) 56 60 (.agg #[(.int .i64 0), (.string ⟨#[]⟩), (.string ⟨#[]⟩), (.string ⟨#[]⟩), (.int .i64 0)]) 64 rfl Try.underlying56 info60 rfl (by decide) (by omega) v188 y187 (⟨(rd_T60 ((rd_T58 l0_2 x7_1).f0) x9_2).f0, (rd_T60 ((rd_T58 l0_2 x7_1).f0) x9_2).f1, (rd_T60 ((rd_T58 l0_2 x7_1).f0) x9_2).f2, (rd_T60 ((rd_T58 l0_2 x7_1).f0) x9_2).f3, (rd_T60 ((rd_T58 l0_2 x7_1).f0) x9_2).f4⟩ : S60) [.int .i64 ((rd_T60 ((rd_T58 l0_2 x7_1).f0) x9_2).f0), .string ((rd_T60 ((rd_T58 l0_2 x7_1).f0) x9_2).f1), .string ((rd_T60 ((rd_T58 l0_2 x7_1).f0) x9_2).f2), .string ((rd_T60 ((rd_T58 l0_2 x7_1).f0) x9_2).f3), .int .i64 ((rd_T60 ((rd_T58 l0_2 x7_1).f0) x9_2).f4)] (fun k_ => (w.heap.size ≤ k_) ∧ k_ ≠ gb182) (fun _ => False) rfl rfl ?aP (fun _ hk => hk.elim) ?aF ?aO ?aB ?aS ?aL ?_; (case aP => exact k60_mkM _ _ _ (⟨(rd_T60 ((rd_T58 l0_2 x7_1).f0) x9_2).f0, (rd_T60 ((rd_T58 l0_2 x7_1).f0) x9_2).f1, (rd_T60 ((rd_T58 l0_2 x7_1).f0) x9_2).f2, (rd_T60 ((rd_T58 l0_2 x7_1).f0) x9_2).f3, (rd_T60 ((rd_T58 l0_2 x7_1).f0) x9_2).f4⟩ : S60)); (case aB => exact (hb_ HB.out)); (case aF => exact (fun k_ hk => ⟨(Nat.le_trans (below_size (hb_ HB.out)) hk), Kd.freshB (g := gb182) (o := .cells #[.int .i64 ((rd_T60 ((rd_T58 l0_2 x7_1).f0) x9_2).f0), .string ((rd_T60 ((rd_T58 l0_2 x7_1).f0) x9_2).f1), .string ((rd_T60 ((rd_T58 l0_2 x7_1).f0) x9_2).f2), .string ((rd_T60 ((rd_T58 l0_2 x7_1).f0) x9_2).f3), .int .i64 ((rd_T60 ((rd_T58 l0_2 x7_1).f0) x9_2).f4)] 60 (0, 0)) (bd_ BK182.out) k_ hk⟩)); (case aO => exact (rd_ HO189.out)); (case aS => exact (below_size (hb_ HB.out))); (case aL => have := LMc33.out; omega); intro v191 w44 ho hb hg hat; rw [← Ny190.out] at ho; have n0_ := Aside0.mk (Kd.V_afterv (ok := (fun k_ => ((P0_1_ k_ ∨ P0_4_ k_) ∨ w.heap.size ≤ k_) ∧ some k_ ≠ (u176002 : Value).ownBlock ∧ k_ ≠ gb173 ∧ k_ ≠ gb174 ∧ k_ ≠ gb175 ∧ k_ ≠ gb182)) (vd_ HO_174001.out) hg hat); have n1_ := Aside0.mk (Kd.V_afterv (ok := (fun k_ => ((P0_1_ k_ ∨ P0_4_ k_) ∨ w.heap.size ≤ k_) ∧ some k_ ≠ (u176002 : Value).ownBlock ∧ k_ ≠ gb173 ∧ k_ ≠ gb174 ∧ k_ ≠ gb175 ∧ k_ ≠ gb182)) (vd_ HO_174004.out) hg hat); have n2_ := Aside0.mk (Kd.V_afterv (ok := (fun k_ => ((P0_1_ k_ ∨ P0_4_ k_) ∨ w.heap.size ≤ k_) ∧ some k_ ≠ (u176002 : Value).ownBlock ∧ k_ ≠ gb173 ∧ k_ ≠ gb174 ∧ k_ ≠ gb175 ∧ k_ ≠ gb182)) (vd_ HO_176001.out) hg hat); have n3_ := Aside0.mk (Kd.S_after (ok := (fun k_ => (w.heap.size ≤ k_) ∧ k_ ≠ gb182)) (sd_ HO_176002.out) hg hat); have n4_ := Aside0.mk (Kd.V_afterv (ok := (fun k_ => ((P0_1_ k_ ∨ P0_4_ k_) ∨ w.heap.size ≤ k_) ∧ some k_ ≠ (u176002 : Value).ownBlock ∧ k_ ≠ gb173 ∧ k_ ≠ gb174 ∧ k_ ≠ gb175 ∧ k_ ≠ gb182)) (vd_ HO_176004.out) hg hat); have n5_ := Aside0.mk (blk_grown (g := gb173) (o := .cells #[.string a0_0, .slice A0_1 l0_1.length c0_1, .slice (some ad176) l0_2.length c0_2, .bool a0_3, .slice A0_4 l0_4.length c0_4] 30 (0, 0)) (bd_ BK173.out) hg (Kd.R_ne HO189.out BK173.out (by decide))); have n6_ := Aside0.mk (blk_grown (g := gb174) (o := .cells #[.string (⟨#[]⟩ : ByteArray), .slice none 0 0, .slice none 0 0, .bool false, .slice none 0 0] 30 (0, 0)) (bd_ BK174.out) hg (Kd.R_ne HO189.out BK174.out (by decide))); have n7_ := Aside0.mk (blk_grown (g := gb175) (o := .cells #[.string a0_0, .slice A0_1 l0_1.length c0_1, u176002, .bool a0_3, .slice A0_4 l0_4.length c0_4] 30 (0, 0)) (bd_ BK175.out) hg (Kd.R_ne HO189.out BK175.out (by decide))); have n8_ := Aside0.mk (blk_grown (g := gb182) (o := .cells #[.int .i64 ((rd_T60 ((rd_T58 l0_2 x7_1).f0) x9_2).f0), .string ((rd_T60 ((rd_T58 l0_2 x7_1).f0) x9_2).f1), .string ((rd_T60 ((rd_T58 l0_2 x7_1).f0) x9_2).f2), .string ((rd_T60 ((rd_T58 l0_2 x7_1).f0) x9_2).f3), .int .i64 ((rd_T60 ((rd_T58 l0_2 x7_1).f0) x9_2).f4)] 60 (0, 0)) (bd_ BK182.out) hg (Kd.R_away HO189.out (fun _ hk => hk.2))); have n9_ := Aside0.mk (hb); have n10_ := Aside0.mk (ho); clear HO_174001; clear HO_174004; clear HO_176001; clear HO_176002; clear HO_176004; clear BK173; clear BK174; clear BK175; clear BK182; clear HB; clear HO189; have HO_174001 := n0_; have HO_174004 := n1_; have HO_176001 := n2_; have HO_176002 := n3_; have HO_176004 := n4_; have BK173 := n5_; have BK174 := n6_; have BK175 := n7_; have BK182 := n8_; have HB := n9_; have HO192 := n10_; clear n0_ n1_ n2_ n3_ n4_ n5_ n6_ n7_ n8_ n9_ n10_; clear ho hb hg hat))
 go_roundg k2
 case measure => have := HK1.out; have := HK2.out; omega
 case rel => exact ⟨(wrap64 (x6_2 + 1)), (y190), (wrap64 (x9_2 + 1)), rf_, rf_, H', ⟨by have := HK1.out; have := HK2.out; omega⟩, ⟨by (with_reducible repeat (first | apply Kd.R_alloc | apply Kd.R_drewN | apply Kd.R_drew)); exact Kd.R_mono HO192.out (fun _ hk => hk.1)⟩, ⟨by (with_reducible repeat (first | apply Kd.V_alloc | apply Kd.V_drewN | apply Kd.V_drew)); exact Kd.V_mono HO_174001.out (fun _ hk => ⟨hk.1.1, ⟨hk.2, ⟨hk.1.2.1, ⟨hk.1.2.2.1, ⟨hk.1.2.2.2.1, hk.1.2.2.2.2.1⟩⟩⟩⟩⟩)⟩, ⟨by (with_reducible repeat (first | apply Kd.V_alloc | apply Kd.V_drewN | apply Kd.V_drew)); exact Kd.V_mono HO_174004.out (fun _ hk => ⟨hk.1.1, ⟨hk.2, ⟨hk.1.2.1, ⟨hk.1.2.2.1, ⟨hk.1.2.2.2.1, hk.1.2.2.2.2.1⟩⟩⟩⟩⟩)⟩, ⟨by (with_reducible repeat (first | apply Kd.V_alloc | apply Kd.V_drewN | apply Kd.V_drew)); exact Kd.V_mono HO_176001.out (fun _ hk => ⟨hk.1.1, ⟨hk.2, ⟨hk.1.2.1, ⟨hk.1.2.2.1, ⟨hk.1.2.2.2.1, hk.1.2.2.2.2.1⟩⟩⟩⟩⟩)⟩, ⟨by (with_reducible repeat (first | apply Kd.S_alloc | apply Kd.S_drewN | apply Kd.S_drew)); exact Kd.S_mono HO_176002.out (fun _ hk => ⟨hk.1.1, hk.2⟩)⟩, ⟨by (with_reducible repeat (first | apply Kd.V_alloc | apply Kd.V_drewN | apply Kd.V_drew)); exact Kd.V_mono HO_176004.out (fun _ hk => ⟨hk.1.1, ⟨hk.2, ⟨hk.1.2.1, ⟨hk.1.2.2.1, ⟨hk.1.2.2.2.1, hk.1.2.2.2.2.1⟩⟩⟩⟩⟩)⟩, ⟨bd_ BK173.out⟩, ⟨bd_ BK174.out⟩, ⟨bd_ BK175.out⟩, ⟨hb_ HB.out⟩⟩
end Go.Proofs.Ytijpfonbeepmfaa.Print
