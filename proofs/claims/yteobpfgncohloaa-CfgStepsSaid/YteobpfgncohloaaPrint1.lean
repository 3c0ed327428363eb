-- Written by ownprint.py (this session's) with the kit's print.py: functions, contracts, rows; Lean checks it.
import Derived.Test.YteobpfgncohloaaPrint0
import Derived.Test.YteobpfgncohloaaHSq
import Derived.Test.YteobpfgncohloaaHCfg
namespace Go.Proofs.Yteobpfgncohloaa.Print
open Go.RowKit Go.Proofs.YteobpfgncohloaaW.PrintWords Go.Proofs.YteobpfgncohloaaW.PrintLast Go.Proofs.YteobpfgncohloaaW.PrintMore
attribute [local go_sem] max2_int min2_int max_two min_two max_three min_three max_four min_four   -- for this text's walks alone
set_option linter.unusedVariables false
set_option linter.unusedSimpArgs false
def cfg_Met.l0 : Nat → List (S42) → List Bool → Int → Int → Option (List Bool)
 | 0, _, _, _, _ => none
 | k + 1, x0, x3, x12, x13 => if x13 < x12 then (if 0 ≤ x13 then (if x13 < (x3.length : Int) then (if rdOf false x3 x13 = true then (cfg_Met.l0 k x0 (x3.set (x13 : Int).toNat true) x12 (wrap64 (x13 + 1))) else ((cfg_Reach.f x0 0 x13).bind fun t107 => (cfg_Met.l0 k x0 (x3.set (x13 : Int).toNat t107) x12 (wrap64 (x13 + 1))))) else (none)) else (none)) else (some x3)
def cfg_Met.f (k : Nat) (l0 : List (S42)) : Option (List Bool) := if 0 ≤ (wrap64 ((l0.length : Int) + 1)) then (if (wrap64 ((l0.length : Int) + 1) : Int).toNat ≤ 281474976710656 then ((some (List.replicate (wrap64 ((l0.length : Int) + 1) : Int).toNat false : List Bool)).bind fun y101 => (if 0 < (y101.length : Int) then (cfg_Met.l0 k l0 (y101.set (0 : Int).toNat true) (y101.length : Int) 0) else (none))) else (none)) else (none)
theorem cfg_Met.mono_l : ∀ k, (∀ y0 y1 y2 y3, LeO (cfg_Met.l0 k y0 y1 y2 y3) (cfg_Met.l0 (k + 1) y0 y1 y2 y3))
 | 0 => fun _ _ _ _ r h => by simp [cfg_Met.l0] at h
 | k + 1 => by
  have ih0 := cfg_Met.mono_l k
  ·intro y0 y1 y2 y3
   unfold cfg_Met.l0
   repeat' first
   | (with_reducible exact ih0 _ _ _ _)
   | (with_reducible exact LeO.refl _)
   | (with_reducible exact LeO.none _)
   | (with_reducible refine LeO.ite ?_ ?_)
   | (with_reducible refine LeO.bind ?_ (fun _ => ?_))
   | exact ih0 _ _ _ _
   | exact LeO.none _
   | refine LeO.ite ?_ ?_
   | refine LeO.bind ?_ (fun _ => ?_)
theorem cfg_Met.mono : ∀ a0 k, LeO (cfg_Met.f k a0) (cfg_Met.f (k + 1) a0) := by
 intro a0 k
 have ih0 := cfg_Met.mono_l k
 unfold cfg_Met.f
 repeat' first
  | (with_reducible exact ih0 _ _ _ _)
  | (with_reducible exact LeO.refl _)
  | (with_reducible exact LeO.none _)
  | (with_reducible refine LeO.ite ?_ ?_)
  | (with_reducible refine LeO.bind ?_ (fun _ => ?_))
  | exact ih0 _ _ _ _
  | exact LeO.none _
  | refine LeO.ite ?_ ?_
  | refine LeO.bind ?_ (fun _ => ?_)
set_option maxHeartbeats 8000000 in
set_option maxRecDepth 100000 in
theorem cfg_Met.calls (k : Nat) (A0 : Option Addr) (c0 : Nat) (l0 : List (S42)) (r : List Bool) (w : World) (hr0 : Kd.C k42 w A0 l0.length l0) (hc0 : l0.length ≤ c0) (h : cfg_Met.f k l0 = some r) :
 Calls Try.prog 7 #[.slice A0 l0.length c0] w fun e w' => ∃ v0_ : Value, e = .returned (v0_) ∧ Kd.R Kd.bool 4 w' w.heap.size (fun _ => True) v0_ r ∧ Below w.heap.size w w' := by
 have HR0 := Aside0.mk hr0
 have HC0 := Aside0.mk hc0
 clear hr0 hc0
 have HB := Aside0.mk (Below.refl w.heap.size w)
 have H : (if 0 ≤ (wrap64 ((l0.length : Int) + 1)) then (if (wrap64 ((l0.length : Int) + 1) : Int).toNat ≤ 281474976710656 then ((some (List.replicate (wrap64 ((l0.length : Int) + 1) : Int).toNat false : List Bool)).bind fun y101 => (if 0 < (y101.length : Int) then (cfg_Met.l0 k l0 (y101.set (0 : Int).toNat true) (y101.length : Int) 0) else (none))) else (none)) else (none)) = some r := h
 clear h
 obtain ⟨ji2, hji2⟩ : ∃ j_ : Int, (wrap64 ((l0.length : Int) + 1)) = j_ := ⟨_, rfl⟩
 replace H : (if 0 ≤ (ji2) then (if (ji2 : Int).toNat ≤ 281474976710656 then ((some (List.replicate (ji2 : Int).toNat false : List Bool)).bind fun y101 => (if 0 < (y101.length : Int) then (cfg_Met.l0 k l0 (y101.set (0 : Int).toNat true) (y101.length : Int) 0) else (none))) else (none)) else (none)) = some r := by first | (rw [hji2] at H; exact H) | (simp only [hji2] at H ⊢; exact H)
 have hji2w : (IntKind.i64.wrap ((l0.length : Int) + 1)) = ji2 := (i64_w _).trans hji2
 by_cases c3 : 0 ≤ (ji2)
 rotate_left
 ·rw [if_neg c3] at H
  exact absurd H (by simp)
 rw [if_pos c3] at H
 have c3b0 := eq_true c3
 have c3b1 : decide (0 ≤ (ji2)) = true := decide_eq_true c3
 clear c3
 by_cases c4 : (ji2 : Int).toNat ≤ 281474976710656
 rotate_left
 ·rw [if_neg c4] at H
  exact absurd H (by simp)
 rw [if_pos c4] at H
 have c4b0 := eq_true c4
 have c4b1 : decide ((ji2 : Int).toNat ≤ 281474976710656) = true := decide_eq_true c4
 clear c4
 obtain ⟨y101, hy101⟩ : ∃ y_ : List Bool, y_ = (List.replicate (ji2 : Int).toNat false) := ⟨_, rfl⟩
 replace H : (if 0 < (y101.length : Int) then (cfg_Met.l0 k l0 (y101.set (0 : Int).toNat true) (y101.length : Int) 0) else (none)) = some r := by first | (rw [hy101]; with_reducible exact H) | (have H2_ := (Option.bind_some _ _).symm.trans H; rw [hy101]; with_reducible exact H2_) | (have H2_ := (Option.bind_some _ _).symm.trans H; with_reducible exact H2_) | with_reducible exact H | (rw [hy101]; exact H) | exact H
 have Ny101 := Aside0.mk hy101
 clear hy101
 by_cases c5 : 0 < (y101.length : Int)
 rotate_left
 ·rw [if_neg c5] at H
  exact absurd H (by simp)
 rw [if_pos c5] at H
 have c5b0 : decide (0 < (y101.length : Int)) = true := decide_eq_true c5
 have c5b1 : decide (0 < y101.length) = true := decide_eq_true (by omega)
 clear c5
 obtain ⟨y104, hy104⟩ : ∃ y_ : List Bool, y_ = (y101.set (0 : Int).toNat true) := ⟨_, rfl⟩
 replace H : (cfg_Met.l0 k l0 y104 (y101.length : Int) 0) = some r := by first | (rw [hy104]; with_reducible exact H) | (have H2_ := (Option.bind_some _ _).symm.trans H; rw [hy104]; with_reducible exact H2_) | (have H2_ := (Option.bind_some _ _).symm.trans H; with_reducible exact H2_) | with_reducible exact H | (rw [hy104]; exact H) | exact H
 have Ny104 := Aside0.mk hy104
 clear hy104
 have H' := Aside0.mk H
 clear H
 go_enter Try.func7, Try.ntmps7
 go_wp2_with (first | ((with_reducible refine gate_dst (N := 8) rfl ?_); refine Kd.R_make Kd.bool _ 4 rfl (N := 8) rfl 34 _ _ rfl ji2 rfl rfl Try.underlying34 (.bool false) 1 info4 rfl (by decide) (by omega) false (ok := fun _ => True) (okp := fun _ => True) rfl (fun _ hk => hk) trivial (of_decide_eq_true as_) (Nat.le_trans (Nat.mul_le_mul_right _ (of_decide_eq_true as_ : ji2.toNat ≤ 281474976710656)) (by omega)) (Below.refl _ _) (Nat.le_refl _) ?_; intro v102 w7 ho8 hb hg_ hnew_; clear hg_ hnew_; (first | rw [← Ny101.out] at ho8 | (simp only [Int.reduceToNat] at ho8; rw [← Ny101.out] at ho8)); have n0_ := Aside0.mk (Kd.R_lower ho8 (below_size (hb_ HB.out))); have n1_ := Aside0.mk (below_step (hb_ HB.out) hb); clear HB; have HO103 := n0_; have HB := n1_; clear n0_ n1_; clear hb ho8; have p6 : 0 ≤ (0 : Int) := (by omega); have q6 : (0 : Int) < ((y101.length : Int) : Int) := of_decide_eq_true as_; have qi6 : (0 < y101.length) = True := eq_true (by omega); obtain ⟨go6, co6, eo6, gb6, gl6, cl6, HG6⟩ := Kd.R_form HO103.out (by omega); (first | cases eo6 | (injection eo6 with ea_ en_ ec_; (first | subst ea_ | (injection ea_ with ea_; subst ea_)); subst ec_; clear en_)); have GB6 := Aside0.mk gb6; have GG6 := Aside0.mk HG6; clear gb6 gl6 HG6; obtain ⟨hx6_0, hf6_0⟩ := Kd.R_celln false HO103.out (0 : Int) p6 q6; (try rw [show ((0 : Int)).toNat = 0 from rfl] at hx6_0); (try simp only [Nat.reduceMul, Nat.zero_mul, Nat.zero_add, Nat.reduceAdd] at hx6_0); (try rw [show ((0 : Int)).toNat = 0 from rfl] at hf6_0); (try simp only [Nat.reduceMul, Nat.zero_mul, Nat.zero_add, Nat.reduceAdd] at hf6_0); replace p6 := eq_true p6; replace q6 := eq_true q6; obtain ⟨hy9_, hz9_⟩ := Kd.R_celln false HO103.out (0 : Int) (by omega) (of_decide_eq_true as_); (try simp only [Int.reduceToNat, Int.toNat_zero, Int.toNat_ofNat, Nat.reduceMul, Nat.zero_mul, Nat.zero_add] at hy9_ hz9_); (try rw [show ((0 : Int)).toNat = 0 from rfl] at hy9_); (try rw [show ((0 : Int)).toNat = 0 from rfl] at hz9_); have HP9 := Kd.R_putg HO103.out (0 : Int) true) | ((with_reducible refine gate_store (t := 4) (p := 10) rfl ?_); refine store_event (t := 4) (p := 10) (v := ?vo_w10) (w1 := (w7.setCell ⟨go6, (0 : Int).toNat, none⟩ (.bool true))) ?hg ?ho ?hn ?hr ?_; (case ho => rfl); (case hg => rfl); (case hn => rfl); (case hr => first | (go_simp; done) | (go_simp; rfl)); intro w10 hw; have hg : w7.grownBy w10 (some go6) := (by rw [hw]; exact HP9.2); have hp_ : Kd.R Kd.bool 4 w10 w.heap.size (fun _ => True) (.slice (some ⟨go6, 0, none⟩) y101.length co6) y104 := (by rw [hw, Ny104.out]; exact HP9.1); clear HP9; have n0_ := Aside0.mk (hp_); have n1_ := Aside0.mk ((by rw [hw]; exact below_set (HB.out) GB6.out : Below w.heap.size w w10)); clear HO103; clear HB; have HO103 := n0_; have HB := n1_; clear n0_ n1_; clear hg hw hp_))
 go_loopg [13] k (fun kq v13 w' => ∃ (x3_1 : List Bool) (x13_1 : Int), v13 = .int .i64 x13_1 ∧ Aside0 (cfg_Met.l0 kq l0 x3_1 (y101.length : Int) x13_1 = some r) ∧ Aside0 (kq ≤ k) ∧ Aside0 (Kd.R Kd.bool 4 w' w.heap.size (fun _ => True) (.slice (some ⟨go6, 0, none⟩) y101.length co6) x3_1) ∧ Aside0 (Below w.heap.size w w'))
 case atStart => exact ⟨(y104), (0), rf_, H', ⟨Nat.le_refl _⟩, ⟨rd_ HO103.out⟩, ⟨hb_ HB.out⟩⟩
 clear H'
 try clear c3
 try clear c3b0
 try clear c3b1
 try clear c4
 try clear c4b0
 try clear c4b1
 try clear c5
 try clear c5b0
 try clear c5b1
 try clear p6
 try clear q6
 try clear qi6
 try clear hx6_0
 try clear p6
 try clear q6
 obtain ⟨x3_1, x13_1, rfl, HA, HK1, HO_3, HB⟩ := hrel
 have hl3_1 := (Kd.R_reads' HO_3.out).1
 rw [hl3_1] at HO_3
 (try simp only [hl3_1])
 cases gk with
 | zero => exact absurd HA.out (by simp [cfg_Met.l0])
 | succ k1 => ?_
 have H := HA.out
 clear HA
 simp only [cfg_Met.l0] at H
 by_cases c11 : x13_1 < (y101.length : Int)
 rotate_left
 ·rw [if_neg c11] at H
  have c11b0 : decide (x13_1 < (y101.length : Int)) = false := decide_eq_false c11
  (try simp only [hl3_1] at c11b0)
  clear c11
  obtain rfl := Option.some.inj H
  go_wp2
  go_ret
  exact ⟨_, by first | rfl | (simp [errW_none, errW_some] <;> rfl) | (simp only [← hji2]; first | rfl | (simp [errW_none, errW_some] <;> rfl)) | (simp [*, errW_none, errW_some] <;> rfl), rd_ HO_3.out, hb_ HB.out⟩
 rw [if_pos c11] at H
 have c11b0 : decide (x13_1 < (y101.length : Int)) = true := decide_eq_true c11
 (try simp only [hl3_1] at c11b0)
 clear c11
 by_cases c12 : 0 ≤ x13_1
 rotate_left
 ·rw [if_neg c12] at H
  exact absurd H (by simp)
 rw [if_pos c12] at H
 have c12b0 : decide (0 ≤ x13_1) = true := decide_eq_true c12
 (try simp only [hl3_1] at c12b0)
 clear c12
 by_cases c13 : x13_1 < (x3_1.length : Int)
 rotate_left
 ·rw [if_neg c13] at H
  exact absurd H (by simp)
 rw [if_pos c13] at H
 have c13b0 : decide (x13_1 < (x3_1.length : Int)) = true := decide_eq_true c13
 (try simp only [hl3_1] at c13b0)
 clear c13
 obtain ⟨bq14, hbq14⟩ : ∃ b_ : Bool, b_ = (rdOf false x3_1 x13_1) := ⟨_, rfl⟩
 replace H : (if bq14 = true then (cfg_Met.l0 k1 l0 (x3_1.set (x13_1 : Int).toNat true) (y101.length : Int) (wrap64 (x13_1 + 1))) else ((cfg_Reach.f l0 0 x13_1).bind fun t107 => (cfg_Met.l0 k1 l0 (x3_1.set (x13_1 : Int).toNat t107) (y101.length : Int) (wrap64 (x13_1 + 1))))) = some r := by rw [← hbq14] at H; exact H
 have Nbq14 := Aside0.mk hbq14
 clear hbq14
 by_cases c15 : bq14 = true
 ·subst c15
  have H1 : (cfg_Met.l0 k1 l0 (x3_1.set (x13_1 : Int).toNat true) (y101.length : Int) (wrap64 (x13_1 + 1))) = some r := by rw [if_pos rfl] at H; exact H
  clear H
  have H := H1
  clear H1
  obtain ⟨y106, hy106⟩ : ∃ y_ : List Bool, y_ = (x3_1.set (x13_1 : Int).toNat true) := ⟨_, rfl⟩
  replace H : (cfg_Met.l0 k1 l0 y106 (y101.length : Int) (wrap64 (x13_1 + 1))) = some r := by first | (rw [hy106]; with_reducible exact H) | (have H2_ := (Option.bind_some _ _).symm.trans H; rw [hy106]; with_reducible exact H2_) | (have H2_ := (Option.bind_some _ _).symm.trans H; with_reducible exact H2_) | with_reducible exact H | (rw [hy106]; exact H) | exact H
  have Ny106 := Aside0.mk hy106
  clear hy106
  have H' := Aside0.mk H
  clear H
  have p105 : 0 ≤ (x13_1 : Int) := of_decide_eq_true as_
  have q105 : x13_1 < (x3_1.length : Int) := of_decide_eq_true as_
  obtain ⟨ad105, e105, hx105_0⟩ := Kd.at_bool (Kd.R_reads' HO_3.out).2.2 x13_1 p105 q105
  (try rw [← Nbq14.out] at hx105_0)
  obtain rfl : (⟨go6, 0, none⟩ : Addr) = ad105 := (by injection e105)
  (first | simp only [add_plain] at hx105_0 | simp only [add_at] at hx105_0 | simp only [Addr.add, Nat.zero_add] at hx105_0 | skip)
  replace p105 := eq_true p105
  replace q105 := eq_true q105
  have p16 : 0 ≤ (x13_1 : Int) := of_decide_eq_true as_
  have q16 : (x13_1 : Int) < ((x3_1.length : Int) : Int) := of_decide_eq_true as_
  obtain ⟨hx16_0, hf16_0⟩ := Kd.R_celln false HO_3.out (x13_1 : Int) p16 q16
  replace p16 := eq_true p16
  replace q16 := eq_true q16
  have HP17 := Kd.R_putg HO_3.out (x13_1 : Int) true
  go_wp2_with (first | ((with_reducible refine gate_store (t := 4) (p := 27) rfl ?_); refine store_event (t := 4) (p := 27) (v := ?vo_w18) (w1 := (wr.setCell ⟨go6, (x13_1 : Int).toNat, none⟩ (.bool true))) ?hg ?ho ?hn ?hr ?_; (case ho => rfl); (case hg => rfl); (case hn => rfl); (case hr => first | (go_simp; done) | (go_simp; rfl)); intro w18 hw; have hg : wr.grownBy w18 (some go6) := (by rw [hw]; exact HP17.2); have hp_ : Kd.R Kd.bool 4 w18 w.heap.size (fun _ => True) (.slice (some ⟨go6, 0, none⟩) x3_1.length co6) y106 := (by rw [hw, Ny106.out]; exact HP17.1); clear HP17; have n0_ := Aside0.mk (hp_); have n1_ := Aside0.mk ((by rw [hw]; exact below_set (HB.out) GB6.out : Below w.heap.size w w18)); clear HO_3; clear HB; have HO_3 := n0_; have HB := n1_; clear n0_ n1_; clear hg hw hp_))
  (try simp only [← hl3_1])
  go_roundg k1
  case measure => have := HK1.out; omega
  case rel => exact ⟨(y106), (wrap64 (x13_1 + 1)), rf_, H', ⟨by have := HK1.out; omega⟩, ⟨by (try simp only [hl3_1]); (with_reducible repeat (first | apply Kd.R_alloc | apply Kd.R_drewN | apply Kd.R_drew)); exact HO_3.out⟩, ⟨hb_ HB.out⟩⟩
 replace c15 := Bool.eq_false_iff.mpr c15
 subst c15
 have H1 : ((cfg_Reach.f l0 0 x13_1).bind fun t107 => (cfg_Met.l0 k1 l0 (x3_1.set (x13_1 : Int).toNat t107) (y101.length : Int) (wrap64 (x13_1 + 1)))) = some r := by rw [if_neg (show ¬ (false = true) by decide)] at H; exact H
 clear H
 have H := H1
 clear H1
 replace H := Option.bind_eq_some_iff.mp H
 obtain ⟨t107, A190, H⟩ := H
 replace H : (cfg_Met.l0 k1 l0 (x3_1.set (x13_1 : Int).toNat t107) (y101.length : Int) (wrap64 (x13_1 + 1))) = some r := H
 have A19 := Aside0.mk A190
 clear A190
 obtain ⟨y108, hy108⟩ : ∃ y_ : List Bool, y_ = (x3_1.set (x13_1 : Int).toNat t107) := ⟨_, rfl⟩
 replace H : (cfg_Met.l0 k1 l0 y108 (y101.length : Int) (wrap64 (x13_1 + 1))) = some r := by first | (rw [hy108]; with_reducible exact H) | (have H2_ := (Option.bind_some _ _).symm.trans H; rw [hy108]; with_reducible exact H2_) | (have H2_ := (Option.bind_some _ _).symm.trans H; with_reducible exact H2_) | with_reducible exact H | (rw [hy108]; exact H) | exact H
 have Ny108 := Aside0.mk hy108
 clear hy108
 have H' := Aside0.mk H
 clear H
 have p105 : 0 ≤ (x13_1 : Int) := of_decide_eq_true as_
 have q105 : x13_1 < (x3_1.length : Int) := of_decide_eq_true as_
 obtain ⟨ad105, e105, hx105_0⟩ := Kd.at_bool (Kd.R_reads' HO_3.out).2.2 x13_1 p105 q105
 (try rw [← Nbq14.out] at hx105_0)
 obtain rfl : (⟨go6, 0, none⟩ : Addr) = ad105 := (by injection e105)
 (first | simp only [add_plain] at hx105_0 | simp only [add_at] at hx105_0 | simp only [Addr.add, Nat.zero_add] at hx105_0 | skip)
 replace p105 := eq_true p105
 replace q105 := eq_true q105
 go_wp2_with (first | (go_at_call 10; (with_reducible refine (cfg_Reach.calls _ _ l0 0 x13_1 t107 _ ?side1 ?side2 A19.out).mono ?_); (case side1 => exact cd_ (Kd.C_below HR0.out HB.out)); (case side2 => exact HC0.out); rintro e w21 ⟨rfl, hb⟩; have n0_ := Aside0.mk (Kd.R_below (rd_ HO_3.out) hb); have n1_ := Aside0.mk (below_step (hb_ HB.out) hb); clear HO_3; clear HB; have HO_3 := n0_; have HB := n1_; clear n0_ n1_; (try clear hb); (try clear hb2); (try clear hk); (try clear hi); have p20 : 0 ≤ (x13_1 : Int) := of_decide_eq_true as_; have q20 : (x13_1 : Int) < ((x3_1.length : Int) : Int) := of_decide_eq_true as_; obtain ⟨hx20_0, hf20_0⟩ := Kd.R_celln false HO_3.out (x13_1 : Int) p20 q20; replace p20 := eq_true p20; replace q20 := eq_true q20; obtain ⟨hy22_, hz22_⟩ := Kd.R_celln false HO_3.out (x13_1 : Int) (of_decide_eq_true as_) (of_decide_eq_true as_); have HP22 := Kd.R_putg HO_3.out (x13_1 : Int) t107) | ((with_reducible refine gate_store (t := 4) (p := 27) rfl ?_); refine store_event (t := 4) (p := 27) (v := ?vo_w23) (w1 := (w21.setCell ⟨go6, (x13_1 : Int).toNat, none⟩ (.bool t107))) ?hg ?ho ?hn ?hr ?_; (case ho => rfl); (case hg => rfl); (case hn => rfl); (case hr => first | (go_simp; done) | (go_simp; rfl)); intro w23 hw; have hg : w21.grownBy w23 (some go6) := (by rw [hw]; exact HP22.2); have hp_ : Kd.R Kd.bool 4 w23 w.heap.size (fun _ => True) (.slice (some ⟨go6, 0, none⟩) x3_1.length co6) y108 := (by rw [hw, Ny108.out]; exact HP22.1); clear HP22; have n0_ := Aside0.mk (hp_); have n1_ := Aside0.mk ((by rw [hw]; exact below_set (HB.out) GB6.out : Below w.heap.size w w23)); clear HO_3; clear HB; have HO_3 := n0_; have HB := n1_; clear n0_ n1_; clear hg hw hp_))
 (try simp only [← hl3_1])
 go_roundg k1
 case measure => have := HK1.out; omega
 case rel => exact ⟨(y108), (wrap64 (x13_1 + 1)), rf_, H', ⟨by have := HK1.out; omega⟩, ⟨by (try simp only [hl3_1]); (with_reducible repeat (first | apply Kd.R_alloc | apply Kd.R_drewN | apply Kd.R_drew)); exact HO_3.out⟩, ⟨hb_ HB.out⟩⟩
def fencepostref07_SameInts.l0 : Nat → List Int → List Int → Int → Option (Bool)
 | 0, _, _, _ => none
 | k + 1, x0, x1, x5 => if x5 < (x0.length : Int) then (if 0 ≤ x5 then (if x5 < (x1.length : Int) then (if (rd x0 x5) = (rd x1 x5) then (fencepostref07_SameInts.l0 k x0 x1 (wrap64 (x5 + 1))) else (some false)) else (none)) else (none)) else (some true)
def fencepostref07_SameInts.f (k : Nat) (l0 : List Int) (l1 : List Int) : Option (Bool) := if (l0.length : Int) = (l1.length : Int) then (fencepostref07_SameInts.l0 k l0 l1 0) else (some false)
theorem fencepostref07_SameInts.mono_l : ∀ k, (∀ y0 y1 y2, LeO (fencepostref07_SameInts.l0 k y0 y1 y2) (fencepostref07_SameInts.l0 (k + 1) y0 y1 y2))
 | 0 => fun _ _ _ r h => by simp [fencepostref07_SameInts.l0] at h
 | k + 1 => by
  have ih0 := fencepostref07_SameInts.mono_l k
  ·intro y0 y1 y2
   unfold fencepostref07_SameInts.l0
   repeat' first
   | (with_reducible exact ih0 _ _ _)
   | (with_reducible exact LeO.refl _)
   | (with_reducible exact LeO.none _)
   | (with_reducible refine LeO.ite ?_ ?_)
   | (with_reducible refine LeO.bind ?_ (fun _ => ?_))
   | exact ih0 _ _ _
   | exact LeO.none _
   | refine LeO.ite ?_ ?_
   | refine LeO.bind ?_ (fun _ => ?_)
theorem fencepostref07_SameInts.mono : ∀ a0 a1 k, LeO (fencepostref07_SameInts.f k a0 a1) (fencepostref07_SameInts.f (k + 1) a0 a1) := by
 intro a0 a1 k
 have ih0 := fencepostref07_SameInts.mono_l k
 unfold fencepostref07_SameInts.f
 repeat' first
  | (with_reducible exact ih0 _ _ _)
  | (with_reducible exact LeO.refl _)
  | (with_reducible exact LeO.none _)
  | (with_reducible refine LeO.ite ?_ ?_)
  | (with_reducible refine LeO.bind ?_ (fun _ => ?_))
  | exact ih0 _ _ _
  | exact LeO.none _
  | refine LeO.ite ?_ ?_
  | refine LeO.bind ?_ (fun _ => ?_)
set_option maxHeartbeats 8000000 in
set_option maxRecDepth 100000 in
theorem fencepostref07_SameInts.calls (k : Nat) (A0 : Option Addr) (c0 : Nat) (l0 : List Int) (A1 : Option Addr) (c1 : Nat) (l1 : List Int) (r : Bool) (w : World) (hr0 : Kd.C (Kd.int .i64) w A0 l0.length l0) (hc0 : l0.length ≤ c0) (hr1 : Kd.C (Kd.int .i64) w A1 l1.length l1) (hc1 : l1.length ≤ c1) (h : fencepostref07_SameInts.f k l0 l1 = some r) :
 Calls Try.prog 8 #[.slice A0 l0.length c0, .slice A1 l1.length c1] w fun e w' => e = .returned (.bool r) ∧ Drawn0 w w' := by
 have HR0 := Aside0.mk hr0
 have HC0 := Aside0.mk hc0
 clear hr0 hc0
 have HR1 := Aside0.mk hr1
 have HC1 := Aside0.mk hc1
 clear hr1 hc1
 have H : (if (l0.length : Int) = (l1.length : Int) then (fencepostref07_SameInts.l0 k l0 l1 0) else (some false)) = some r := h
 clear h
 by_cases c3 : (l0.length : Int) = (l1.length : Int)
 rotate_left
 ·rw [if_neg c3] at H
  have c3b0 : ((l0.length : Int) == (l1.length : Int)) = false := beq_eq_false_iff_ne.mpr c3
  have c3b1 : ((l0.length : Int) != (l1.length : Int)) = true := bne_iff_ne.mpr c3
  have c3b2 : (l0.length == l1.length) = false := by first | simpa using c3 | (simp at c3 ⊢; omega)
  obtain rfl := Option.some.inj H
  go_enter Try.func8, Try.ntmps8
  go_wp2
  repeat (go_quiet (fail); try go_wp2)
  go_ret
  exact ⟨by first | rfl | (simp; done) | (simp [*]; done), by repeat (first | exact Drawn0.refl _ | apply Drawn0.step)⟩
 rw [if_pos c3] at H
 have c3b0 : ((l0.length : Int) == (l1.length : Int)) = true := beq_iff_eq.mpr c3
 have c3b1 : ((l0.length : Int) != (l1.length : Int)) = false := bne_eq_false_iff_eq.mpr c3
 have c3b2 : (l0.length == l1.length) = true := by first | simpa using c3 | (simp at c3 ⊢; omega)
 clear c3
 have H' := Aside0.mk H
 clear H
 go_enter Try.func8, Try.ntmps8
 go_wp2
 repeat (go_quiet (fail); try go_wp2)
 go_loopg [5] k (fun kq v5 w' => ∃ (x5_1 : Int), v5 = .int .i64 x5_1 ∧ Aside0 (fencepostref07_SameInts.l0 kq l0 l1 x5_1 = some r) ∧ Aside0 (kq ≤ k) ∧ Drawn0 w w')
 case atStart => exact ⟨(0), rf_, H', ⟨Nat.le_refl _⟩, by repeat (first | exact Drawn0.refl _ | apply Drawn0.step)⟩
 clear H'
 try clear c1
 try clear c3
 try clear c3b0
 try clear c3b1
 try clear c3b2
 obtain ⟨x5_1, rfl, HA, HK1, ⟨m1, rfl⟩⟩ := hrel
 cases gk with
 | zero => exact absurd HA.out (by simp [fencepostref07_SameInts.l0])
 | succ k1 => ?_
 have H := HA.out
 clear HA
 simp only [fencepostref07_SameInts.l0] at H
 by_cases c4 : x5_1 < (l0.length : Int)
 rotate_left
 ·rw [if_neg c4] at H
  have c4b0 : decide (x5_1 < (l0.length : Int)) = false := decide_eq_false c4
  clear c4
  obtain rfl := Option.some.inj H
  go_wp2
  repeat (go_quiet (fail); try go_wp2)
  go_ret
  exact ⟨by first | rfl | (simp; done) | (simp [*]; done), by repeat (first | exact Drawn0.refl _ | apply Drawn0.step)⟩
 rw [if_pos c4] at H
 have c4b0 : decide (x5_1 < (l0.length : Int)) = true := decide_eq_true c4
 clear c4
 by_cases c5 : 0 ≤ x5_1
 rotate_left
 ·rw [if_neg c5] at H
  exact absurd H (by simp)
 rw [if_pos c5] at H
 have c5b0 : decide (0 ≤ x5_1) = true := decide_eq_true c5
 clear c5
 by_cases c6 : x5_1 < (l1.length : Int)
 rotate_left
 ·rw [if_neg c6] at H
  exact absurd H (by simp)
 rw [if_pos c6] at H
 have c6b0 : decide (x5_1 < (l1.length : Int)) = true := decide_eq_true c6
 clear c6
 by_cases c7 : (rd l0 x5_1) = (rd l1 x5_1)
 rotate_left
 ·rw [if_neg c7] at H
  have c7b0 : ((rd l0 x5_1) == (rd l1 x5_1)) = false := beq_eq_false_iff_ne.mpr c7
  have c7b1 : ((rd l0 x5_1) != (rd l1 x5_1)) = true := bne_iff_ne.mpr c7
  obtain rfl := Option.some.inj H
  have p109 : 0 ≤ (x5_1 : Int) := of_decide_eq_true as_
  have q109 : x5_1 < (l0.length : Int) := of_decide_eq_true as_
  obtain ⟨ad109, e109, hx109_0⟩ := Kd.at_int HR0.out x5_1 p109 q109
  cases e109
  replace p109 := eq_true p109
  replace q109 := eq_true q109
  have p110 : 0 ≤ (x5_1 : Int) := of_decide_eq_true as_
  have q110 : x5_1 < (l1.length : Int) := of_decide_eq_true as_
  obtain ⟨ad110, e110, hx110_0⟩ := Kd.at_int HR1.out x5_1 p110 q110
  cases e110
  replace p110 := eq_true p110
  replace q110 := eq_true q110
  go_wp2
  repeat (go_quiet (fail); try go_wp2)
  go_ret
  exact ⟨by first | rfl | (simp; done) | (simp [*]; done), by repeat (first | exact Drawn0.refl _ | apply Drawn0.step)⟩
 rw [if_pos c7] at H
 have c7b0 : ((rd l0 x5_1) == (rd l1 x5_1)) = true := beq_iff_eq.mpr c7
 have c7b1 : ((rd l0 x5_1) != (rd l1 x5_1)) = false := bne_eq_false_iff_eq.mpr c7
 clear c7
 have H' := Aside0.mk H
 clear H
 have p109 : 0 ≤ (x5_1 : Int) := of_decide_eq_true as_
 have q109 : x5_1 < (l0.length : Int) := of_decide_eq_true as_
 obtain ⟨ad109, e109, hx109_0⟩ := Kd.at_int HR0.out x5_1 p109 q109
 cases e109
 replace p109 := eq_true p109
 replace q109 := eq_true q109
 have p110 : 0 ≤ (x5_1 : Int) := of_decide_eq_true as_
 have q110 : x5_1 < (l1.length : Int) := of_decide_eq_true as_
 obtain ⟨ad110, e110, hx110_0⟩ := Kd.at_int HR1.out x5_1 p110 q110
 cases e110
 replace p110 := eq_true p110
 replace q110 := eq_true q110
 go_wp2
 repeat (go_quiet (fail); try go_wp2)
 go_roundg k1
 case measure => have := HK1.out; omega
 case rel => exact ⟨(wrap64 (x5_1 + 1)), rf_, H', ⟨by have := HK1.out; omega⟩, by repeat (first | exact Drawn0.refl _ | apply Drawn0.step)⟩
def fencepostlaw18_head.g (k : Nat)  : Option (Bool) := (some (([(⟨9, 0, 0, 0, 2⟩ : S42), (⟨6, 0, 0, 0, 0⟩ : S42), (⟨8, 0, 0, 0, 4⟩ : S42), (⟨4, 0, 0, 0, 0⟩ : S42), (⟨2, 0, 0, 0, 0⟩ : S42)] : List (S42)) : List (S42))).bind fun y125 => ((cfg_Met.f k y125).bind fun t128 => ((cfg_Next.f y125 0).bind fun t131 => ((fencepostref07_SameInts.f k t131 (([1, 2] : List Int))).bind fun t137 => (if t137 = true then ((cfg_Next.f y125 2).bind fun t138 => ((fencepostref07_SameInts.f k t138 (([4] : List Int))).bind fun t144 => (if t144 = true then ((cfg_Next.f y125 5).bind fun t145 => (if (t145.length : Int) = 0 then ((cfg_Reach.f y125 0 4).bind fun t148 => (if t148 = true then ((cfg_Reach.f y125 0 3).bind fun t149 => (if t149 = true then (some false) else ((cfg_Reach.f y125 4 4).bind fun t150 => (if t150 = true then (some false) else ((cfg_Reach.f y125 1 5).bind fun t151 => (if t151 = true then ((cfg_Free.f y125 0 4).bind fun t152 => (if t152 = true then ((cfg_Free.f y125 1 4).bind fun t153 => (if t153 = true then ((cfg_Free.f y125 0 1).bind fun t154 => (if t154 = true then (if (t128.length : Int) = 6 then (if 0 < (t128.length : Int) then (if rdOf false t128 0 = true then (if 5 < (t128.length : Int) then (if rdOf false t128 5 = true then (if 3 < (t128.length : Int) then (if rdOf false t128 3 = true then (some false) else ((cfg_Met.f k ([] : List (S42))).bind fun t158 => (some ((t158.length : Int) == 1)))) else (none)) else (some false)) else (none)) else (some false)) else (none)) else (some false)) else (some false))) else (some false))) else (some false))) else (some false))))))) else (some false))) else (some false))) else (some false)))) else (some false)))))
theorem fencepostlaw18_head.monoT : ∀ k, LeO (fencepostlaw18_head.g k ) (fencepostlaw18_head.g (k + 1) ) := by
 intro  k
 unfold fencepostlaw18_head.g
 repeat' first
  | (with_reducible exact cfg_Met.mono _ _)
  | (with_reducible exact fencepostref07_SameInts.mono _ _ _)
  | (with_reducible exact LeO.refl _)
  | (with_reducible exact LeO.none _)
  | (with_reducible refine LeO.ite ?_ ?_)
  | (with_reducible refine LeO.bind ?_ (fun _ => ?_))
  | exact cfg_Met.mono _ _
  | exact fencepostref07_SameInts.mono _ _ _
  | exact LeO.none _
  | refine LeO.ite ?_ ?_
  | refine LeO.bind ?_ (fun _ => ?_)
set_option maxHeartbeats 8000000 in
set_option maxRecDepth 100000 in
theorem fencepostlaw18_head.callsT (k : Nat)  (r : Bool) (w : World) (ht_ : r = true) (h : fencepostlaw18_head.g k  = some r) :
 Calls Try.prog 4 #[] w fun e w' => e = .returned (.bool r) ∧ Below w.heap.size w w' := by
 have hu42 := Try.underlying42
 have HB := Aside0.mk (Below.refl w.heap.size w)
 have HT := Aside0.mk ht_
 clear ht_
 have H : ((some (([(⟨9, 0, 0, 0, 2⟩ : S42), (⟨6, 0, 0, 0, 0⟩ : S42), (⟨8, 0, 0, 0, 4⟩ : S42), (⟨4, 0, 0, 0, 0⟩ : S42), (⟨2, 0, 0, 0, 0⟩ : S42)] : List (S42)) : List (S42))).bind fun y125 => ((cfg_Met.f k y125).bind fun t128 => ((cfg_Next.f y125 0).bind fun t131 => ((fencepostref07_SameInts.f k t131 (([1, 2] : List Int))).bind fun t137 => (if t137 = true then ((cfg_Next.f y125 2).bind fun t138 => ((fencepostref07_SameInts.f k t138 (([4] : List Int))).bind fun t144 => (if t144 = true then ((cfg_Next.f y125 5).bind fun t145 => (if (t145.length : Int) = 0 then ((cfg_Reach.f y125 0 4).bind fun t148 => (if t148 = true then ((cfg_Reach.f y125 0 3).bind fun t149 => (if t149 = true then (some false) else ((cfg_Reach.f y125 4 4).bind fun t150 => (if t150 = true then (some false) else ((cfg_Reach.f y125 1 5).bind fun t151 => (if t151 = true then ((cfg_Free.f y125 0 4).bind fun t152 => (if t152 = true then ((cfg_Free.f y125 1 4).bind fun t153 => (if t153 = true then ((cfg_Free.f y125 0 1).bind fun t154 => (if t154 = true then (if (t128.length : Int) = 6 then (if 0 < (t128.length : Int) then (if rdOf false t128 0 = true then (if 5 < (t128.length : Int) then (if rdOf false t128 5 = true then (if 3 < (t128.length : Int) then (if rdOf false t128 3 = true then (some false) else ((cfg_Met.f k ([] : List (S42))).bind fun t158 => (some ((t158.length : Int) == 1)))) else (none)) else (some false)) else (none)) else (some false)) else (none)) else (some false)) else (some false))) else (some false))) else (some false))) else (some false))))))) else (some false))) else (some false))) else (some false)))) else (some false)))))) = some r := h
 clear h
 obtain ⟨y125, hy125⟩ : ∃ y_ : List (S42), y_ = (([(⟨9, 0, 0, 0, 2⟩ : S42), (⟨6, 0, 0, 0, 0⟩ : S42), (⟨8, 0, 0, 0, 4⟩ : S42), (⟨4, 0, 0, 0, 0⟩ : S42), (⟨2, 0, 0, 0, 0⟩ : S42)] : List (S42))) := ⟨_, rfl⟩
 replace H : ((cfg_Met.f k y125).bind fun t128 => ((cfg_Next.f y125 0).bind fun t131 => ((fencepostref07_SameInts.f k t131 (([1, 2] : List Int))).bind fun t137 => (if t137 = true then ((cfg_Next.f y125 2).bind fun t138 => ((fencepostref07_SameInts.f k t138 (([4] : List Int))).bind fun t144 => (if t144 = true then ((cfg_Next.f y125 5).bind fun t145 => (if (t145.length : Int) = 0 then ((cfg_Reach.f y125 0 4).bind fun t148 => (if t148 = true then ((cfg_Reach.f y125 0 3).bind fun t149 => (if t149 = true then (some false) else ((cfg_Reach.f y125 4 4).bind fun t150 => (if t150 = true then (some false) else ((cfg_Reach.f y125 1 5).bind fun t151 => (if t151 = true then ((cfg_Free.f y125 0 4).bind fun t152 => (if t152 = true then ((cfg_Free.f y125 1 4).bind fun t153 => (if t153 = true then ((cfg_Free.f y125 0 1).bind fun t154 => (if t154 = true then (if (t128.length : Int) = 6 then (if 0 < (t128.length : Int) then (if rdOf false t128 0 = true then (if 5 < (t128.length : Int) then (if rdOf false t128 5 = true then (if 3 < (t128.length : Int) then (if rdOf false t128 3 = true then (some false) else ((cfg_Met.f k ([] : List (S42))).bind fun t158 => (some ((t158.length : Int) == 1)))) else (none)) else (some false)) else (none)) else (some false)) else (none)) else (some false)) else (some false))) else (some false))) else (some false))) else (some false))))))) else (some false))) else (some false))) else (some false)))) else (some false))))) = some r := by first | (rw [hy125]; with_reducible exact H) | (have H2_ := (Option.bind_some _ _).symm.trans H; rw [hy125]; with_reducible exact H2_) | (have H2_ := (Option.bind_some _ _).symm.trans H; with_reducible exact H2_) | with_reducible exact H | (rw [hy125]; exact H) | exact H
 have Ny125 := Aside0.mk hy125
 clear hy125
 replace H := Option.bind_eq_some_iff.mp H
 obtain ⟨t128, A10, H⟩ := H
 replace H : ((cfg_Next.f y125 0).bind fun t131 => ((fencepostref07_SameInts.f k t131 (([1, 2] : List Int))).bind fun t137 => (if t137 = true then ((cfg_Next.f y125 2).bind fun t138 => ((fencepostref07_SameInts.f k t138 (([4] : List Int))).bind fun t144 => (if t144 = true then ((cfg_Next.f y125 5).bind fun t145 => (if (t145.length : Int) = 0 then ((cfg_Reach.f y125 0 4).bind fun t148 => (if t148 = true then ((cfg_Reach.f y125 0 3).bind fun t149 => (if t149 = true then (some false) else ((cfg_Reach.f y125 4 4).bind fun t150 => (if t150 = true then (some false) else ((cfg_Reach.f y125 1 5).bind fun t151 => (if t151 = true then ((cfg_Free.f y125 0 4).bind fun t152 => (if t152 = true then ((cfg_Free.f y125 1 4).bind fun t153 => (if t153 = true then ((cfg_Free.f y125 0 1).bind fun t154 => (if t154 = true then (if (t128.length : Int) = 6 then (if 0 < (t128.length : Int) then (if rdOf false t128 0 = true then (if 5 < (t128.length : Int) then (if rdOf false t128 5 = true then (if 3 < (t128.length : Int) then (if rdOf false t128 3 = true then (some false) else ((cfg_Met.f k ([] : List (S42))).bind fun t158 => (some ((t158.length : Int) == 1)))) else (none)) else (some false)) else (none)) else (some false)) else (none)) else (some false)) else (some false))) else (some false))) else (some false))) else (some false))))))) else (some false))) else (some false))) else (some false)))) else (some false)))) = some r := H
 have A1 := Aside0.mk A10
 clear A10
 replace H := Option.bind_eq_some_iff.mp H
 obtain ⟨t131, A20, H⟩ := H
 replace H : ((fencepostref07_SameInts.f k t131 (([1, 2] : List Int))).bind fun t137 => (if t137 = true then ((cfg_Next.f y125 2).bind fun t138 => ((fencepostref07_SameInts.f k t138 (([4] : List Int))).bind fun t144 => (if t144 = true then ((cfg_Next.f y125 5).bind fun t145 => (if (t145.length : Int) = 0 then ((cfg_Reach.f y125 0 4).bind fun t148 => (if t148 = true then ((cfg_Reach.f y125 0 3).bind fun t149 => (if t149 = true then (some false) else ((cfg_Reach.f y125 4 4).bind fun t150 => (if t150 = true then (some false) else ((cfg_Reach.f y125 1 5).bind fun t151 => (if t151 = true then ((cfg_Free.f y125 0 4).bind fun t152 => (if t152 = true then ((cfg_Free.f y125 1 4).bind fun t153 => (if t153 = true then ((cfg_Free.f y125 0 1).bind fun t154 => (if t154 = true then (if (t128.length : Int) = 6 then (if 0 < (t128.length : Int) then (if rdOf false t128 0 = true then (if 5 < (t128.length : Int) then (if rdOf false t128 5 = true then (if 3 < (t128.length : Int) then (if rdOf false t128 3 = true then (some false) else ((cfg_Met.f k ([] : List (S42))).bind fun t158 => (some ((t158.length : Int) == 1)))) else (none)) else (some false)) else (none)) else (some false)) else (none)) else (some false)) else (some false))) else (some false))) else (some false))) else (some false))))))) else (some false))) else (some false))) else (some false)))) else (some false))) = some r := H
 have A2 := Aside0.mk A20
 clear A20
 obtain ⟨y134, hy134⟩ : ∃ y_ : List Int, y_ = (([1, 2] : List Int)) := ⟨_, rfl⟩
 replace H : ((fencepostref07_SameInts.f k t131 y134).bind fun t137 => (if t137 = true then ((cfg_Next.f y125 2).bind fun t138 => ((fencepostref07_SameInts.f k t138 (([4] : List Int))).bind fun t144 => (if t144 = true then ((cfg_Next.f y125 5).bind fun t145 => (if (t145.length : Int) = 0 then ((cfg_Reach.f y125 0 4).bind fun t148 => (if t148 = true then ((cfg_Reach.f y125 0 3).bind fun t149 => (if t149 = true then (some false) else ((cfg_Reach.f y125 4 4).bind fun t150 => (if t150 = true then (some false) else ((cfg_Reach.f y125 1 5).bind fun t151 => (if t151 = true then ((cfg_Free.f y125 0 4).bind fun t152 => (if t152 = true then ((cfg_Free.f y125 1 4).bind fun t153 => (if t153 = true then ((cfg_Free.f y125 0 1).bind fun t154 => (if t154 = true then (if (t128.length : Int) = 6 then (if 0 < (t128.length : Int) then (if rdOf false t128 0 = true then (if 5 < (t128.length : Int) then (if rdOf false t128 5 = true then (if 3 < (t128.length : Int) then (if rdOf false t128 3 = true then (some false) else ((cfg_Met.f k ([] : List (S42))).bind fun t158 => (some ((t158.length : Int) == 1)))) else (none)) else (some false)) else (none)) else (some false)) else (none)) else (some false)) else (some false))) else (some false))) else (some false))) else (some false))))))) else (some false))) else (some false))) else (some false)))) else (some false))) = some r := by first | (rw [hy134]; with_reducible exact H) | (have H2_ := (Option.bind_some _ _).symm.trans H; rw [hy134]; with_reducible exact H2_) | (have H2_ := (Option.bind_some _ _).symm.trans H; with_reducible exact H2_) | with_reducible exact H | (rw [hy134]; exact H) | exact H
 have Ny134 := Aside0.mk hy134
 clear hy134
 replace H := Option.bind_eq_some_iff.mp H
 obtain ⟨t137, A30, H⟩ := H
 replace H : (if t137 = true then ((cfg_Next.f y125 2).bind fun t138 => ((fencepostref07_SameInts.f k t138 (([4] : List Int))).bind fun t144 => (if t144 = true then ((cfg_Next.f y125 5).bind fun t145 => (if (t145.length : Int) = 0 then ((cfg_Reach.f y125 0 4).bind fun t148 => (if t148 = true then ((cfg_Reach.f y125 0 3).bind fun t149 => (if t149 = true then (some false) else ((cfg_Reach.f y125 4 4).bind fun t150 => (if t150 = true then (some false) else ((cfg_Reach.f y125 1 5).bind fun t151 => (if t151 = true then ((cfg_Free.f y125 0 4).bind fun t152 => (if t152 = true then ((cfg_Free.f y125 1 4).bind fun t153 => (if t153 = true then ((cfg_Free.f y125 0 1).bind fun t154 => (if t154 = true then (if (t128.length : Int) = 6 then (if 0 < (t128.length : Int) then (if rdOf false t128 0 = true then (if 5 < (t128.length : Int) then (if rdOf false t128 5 = true then (if 3 < (t128.length : Int) then (if rdOf false t128 3 = true then (some false) else ((cfg_Met.f k ([] : List (S42))).bind fun t158 => (some ((t158.length : Int) == 1)))) else (none)) else (some false)) else (none)) else (some false)) else (none)) else (some false)) else (some false))) else (some false))) else (some false))) else (some false))))))) else (some false))) else (some false))) else (some false)))) else (some false)) = some r := H
 have A3 := Aside0.mk A30
 clear A30
 by_cases c4 : t137 = true
 rotate_left
 ·replace c4 := Bool.eq_false_iff.mpr c4
  subst c4
  have H1 : (some false) = some r := by rw [if_neg (show ¬ (false = true) by decide)] at H; exact H
  clear H
  have H := H1
  clear H1
  exact absurd ((Option.some.inj H).trans HT.out) (by simp)
 subst c4
 have H1 : ((cfg_Next.f y125 2).bind fun t138 => ((fencepostref07_SameInts.f k t138 (([4] : List Int))).bind fun t144 => (if t144 = true then ((cfg_Next.f y125 5).bind fun t145 => (if (t145.length : Int) = 0 then ((cfg_Reach.f y125 0 4).bind fun t148 => (if t148 = true then ((cfg_Reach.f y125 0 3).bind fun t149 => (if t149 = true then (some false) else ((cfg_Reach.f y125 4 4).bind fun t150 => (if t150 = true then (some false) else ((cfg_Reach.f y125 1 5).bind fun t151 => (if t151 = true then ((cfg_Free.f y125 0 4).bind fun t152 => (if t152 = true then ((cfg_Free.f y125 1 4).bind fun t153 => (if t153 = true then ((cfg_Free.f y125 0 1).bind fun t154 => (if t154 = true then (if (t128.length : Int) = 6 then (if 0 < (t128.length : Int) then (if rdOf false t128 0 = true then (if 5 < (t128.length : Int) then (if rdOf false t128 5 = true then (if 3 < (t128.length : Int) then (if rdOf false t128 3 = true then (some false) else ((cfg_Met.f k ([] : List (S42))).bind fun t158 => (some ((t158.length : Int) == 1)))) else (none)) else (some false)) else (none)) else (some false)) else (none)) else (some false)) else (some false))) else (some false))) else (some false))) else (some false))))))) else (some false))) else (some false))) else (some false)))) = some r := by rw [if_pos rfl] at H; exact H
 clear H
 have H := H1
 clear H1
 replace H := Option.bind_eq_some_iff.mp H
 obtain ⟨t138, A50, H⟩ := H
 replace H : ((fencepostref07_SameInts.f k t138 (([4] : List Int))).bind fun t144 => (if t144 = true then ((cfg_Next.f y125 5).bind fun t145 => (if (t145.length : Int) = 0 then ((cfg_Reach.f y125 0 4).bind fun t148 => (if t148 = true then ((cfg_Reach.f y125 0 3).bind fun t149 => (if t149 = true then (some false) else ((cfg_Reach.f y125 4 4).bind fun t150 => (if t150 = true then (some false) else ((cfg_Reach.f y125 1 5).bind fun t151 => (if t151 = true then ((cfg_Free.f y125 0 4).bind fun t152 => (if t152 = true then ((cfg_Free.f y125 1 4).bind fun t153 => (if t153 = true then ((cfg_Free.f y125 0 1).bind fun t154 => (if t154 = true then (if (t128.length : Int) = 6 then (if 0 < (t128.length : Int) then (if rdOf false t128 0 = true then (if 5 < (t128.length : Int) then (if rdOf false t128 5 = true then (if 3 < (t128.length : Int) then (if rdOf false t128 3 = true then (some false) else ((cfg_Met.f k ([] : List (S42))).bind fun t158 => (some ((t158.length : Int) == 1)))) else (none)) else (some false)) else (none)) else (some false)) else (none)) else (some false)) else (some false))) else (some false))) else (some false))) else (some false))))))) else (some false))) else (some false))) else (some false))) = some r := H
 have A5 := Aside0.mk A50
 clear A50
 obtain ⟨y141, hy141⟩ : ∃ y_ : List Int, y_ = (([4] : List Int)) := ⟨_, rfl⟩
 replace H : ((fencepostref07_SameInts.f k t138 y141).bind fun t144 => (if t144 = true then ((cfg_Next.f y125 5).bind fun t145 => (if (t145.length : Int) = 0 then ((cfg_Reach.f y125 0 4).bind fun t148 => (if t148 = true then ((cfg_Reach.f y125 0 3).bind fun t149 => (if t149 = true then (some false) else ((cfg_Reach.f y125 4 4).bind fun t150 => (if t150 = true then (some false) else ((cfg_Reach.f y125 1 5).bind fun t151 => (if t151 = true then ((cfg_Free.f y125 0 4).bind fun t152 => (if t152 = true then ((cfg_Free.f y125 1 4).bind fun t153 => (if t153 = true then ((cfg_Free.f y125 0 1).bind fun t154 => (if t154 = true then (if (t128.length : Int) = 6 then (if 0 < (t128.length : Int) then (if rdOf false t128 0 = true then (if 5 < (t128.length : Int) then (if rdOf false t128 5 = true then (if 3 < (t128.length : Int) then (if rdOf false t128 3 = true then (some false) else ((cfg_Met.f k ([] : List (S42))).bind fun t158 => (some ((t158.length : Int) == 1)))) else (none)) else (some false)) else (none)) else (some false)) else (none)) else (some false)) else (some false))) else (some false))) else (some false))) else (some false))))))) else (some false))) else (some false))) else (some false))) = some r := by first | (rw [hy141]; with_reducible exact H) | (have H2_ := (Option.bind_some _ _).symm.trans H; rw [hy141]; with_reducible exact H2_) | (have H2_ := (Option.bind_some _ _).symm.trans H; with_reducible exact H2_) | with_reducible exact H | (rw [hy141]; exact H) | exact H
 have Ny141 := Aside0.mk hy141
 clear hy141
 replace H := Option.bind_eq_some_iff.mp H
 obtain ⟨t144, A60, H⟩ := H
 replace H : (if t144 = true then ((cfg_Next.f y125 5).bind fun t145 => (if (t145.length : Int) = 0 then ((cfg_Reach.f y125 0 4).bind fun t148 => (if t148 = true then ((cfg_Reach.f y125 0 3).bind fun t149 => (if t149 = true then (some false) else ((cfg_Reach.f y125 4 4).bind fun t150 => (if t150 = true then (some false) else ((cfg_Reach.f y125 1 5).bind fun t151 => (if t151 = true then ((cfg_Free.f y125 0 4).bind fun t152 => (if t152 = true then ((cfg_Free.f y125 1 4).bind fun t153 => (if t153 = true then ((cfg_Free.f y125 0 1).bind fun t154 => (if t154 = true then (if (t128.length : Int) = 6 then (if 0 < (t128.length : Int) then (if rdOf false t128 0 = true then (if 5 < (t128.length : Int) then (if rdOf false t128 5 = true then (if 3 < (t128.length : Int) then (if rdOf false t128 3 = true then (some false) else ((cfg_Met.f k ([] : List (S42))).bind fun t158 => (some ((t158.length : Int) == 1)))) else (none)) else (some false)) else (none)) else (some false)) else (none)) else (some false)) else (some false))) else (some false))) else (some false))) else (some false))))))) else (some false))) else (some false))) else (some false)) = some r := H
 have A6 := Aside0.mk A60
 clear A60
 by_cases c7 : t144 = true
 rotate_left
 ·replace c7 := Bool.eq_false_iff.mpr c7
  subst c7
  have H1 : (some false) = some r := by rw [if_neg (show ¬ (false = true) by decide)] at H; exact H
  clear H
  have H := H1
  clear H1
  exact absurd ((Option.some.inj H).trans HT.out) (by simp)
 subst c7
 have H1 : ((cfg_Next.f y125 5).bind fun t145 => (if (t145.length : Int) = 0 then ((cfg_Reach.f y125 0 4).bind fun t148 => (if t148 = true then ((cfg_Reach.f y125 0 3).bind fun t149 => (if t149 = true then (some false) else ((cfg_Reach.f y125 4 4).bind fun t150 => (if t150 = true then (some false) else ((cfg_Reach.f y125 1 5).bind fun t151 => (if t151 = true then ((cfg_Free.f y125 0 4).bind fun t152 => (if t152 = true then ((cfg_Free.f y125 1 4).bind fun t153 => (if t153 = true then ((cfg_Free.f y125 0 1).bind fun t154 => (if t154 = true then (if (t128.length : Int) = 6 then (if 0 < (t128.length : Int) then (if rdOf false t128 0 = true then (if 5 < (t128.length : Int) then (if rdOf false t128 5 = true then (if 3 < (t128.length : Int) then (if rdOf false t128 3 = true then (some false) else ((cfg_Met.f k ([] : List (S42))).bind fun t158 => (some ((t158.length : Int) == 1)))) else (none)) else (some false)) else (none)) else (some false)) else (none)) else (some false)) else (some false))) else (some false))) else (some false))) else (some false))))))) else (some false))) else (some false))) = some r := by rw [if_pos rfl] at H; exact H
 clear H
 have H := H1
 clear H1
 replace H := Option.bind_eq_some_iff.mp H
 obtain ⟨t145, A80, H⟩ := H
 replace H : (if (t145.length : Int) = 0 then ((cfg_Reach.f y125 0 4).bind fun t148 => (if t148 = true then ((cfg_Reach.f y125 0 3).bind fun t149 => (if t149 = true then (some false) else ((cfg_Reach.f y125 4 4).bind fun t150 => (if t150 = true then (some false) else ((cfg_Reach.f y125 1 5).bind fun t151 => (if t151 = true then ((cfg_Free.f y125 0 4).bind fun t152 => (if t152 = true then ((cfg_Free.f y125 1 4).bind fun t153 => (if t153 = true then ((cfg_Free.f y125 0 1).bind fun t154 => (if t154 = true then (if (t128.length : Int) = 6 then (if 0 < (t128.length : Int) then (if rdOf false t128 0 = true then (if 5 < (t128.length : Int) then (if rdOf false t128 5 = true then (if 3 < (t128.length : Int) then (if rdOf false t128 3 = true then (some false) else ((cfg_Met.f k ([] : List (S42))).bind fun t158 => (some ((t158.length : Int) == 1)))) else (none)) else (some false)) else (none)) else (some false)) else (none)) else (some false)) else (some false))) else (some false))) else (some false))) else (some false))))))) else (some false))) else (some false)) = some r := H
 have A8 := Aside0.mk A80
 clear A80
 by_cases c9 : (t145.length : Int) = 0
 rotate_left
 ·rw [if_neg c9] at H
  have c9b0 : ((t145.length : Int) == 0) = false := beq_eq_false_iff_ne.mpr c9
  have c9b1 : ((t145.length : Int) != 0) = true := bne_iff_ne.mpr c9
  have c9b2 : ¬ (t145 = []) := fun h_ => c9 (by rw [h_]; rfl)
  exact absurd ((Option.some.inj H).trans HT.out) (by simp)
 rw [if_pos c9] at H
 have c9b0 : ((t145.length : Int) == 0) = true := beq_iff_eq.mpr c9
 have c9b1 : ((t145.length : Int) != 0) = false := bne_eq_false_iff_eq.mpr c9
 clear c9
 replace H := Option.bind_eq_some_iff.mp H
 obtain ⟨t148, A100, H⟩ := H
 replace H : (if t148 = true then ((cfg_Reach.f y125 0 3).bind fun t149 => (if t149 = true then (some false) else ((cfg_Reach.f y125 4 4).bind fun t150 => (if t150 = true then (some false) else ((cfg_Reach.f y125 1 5).bind fun t151 => (if t151 = true then ((cfg_Free.f y125 0 4).bind fun t152 => (if t152 = true then ((cfg_Free.f y125 1 4).bind fun t153 => (if t153 = true then ((cfg_Free.f y125 0 1).bind fun t154 => (if t154 = true then (if (t128.length : Int) = 6 then (if 0 < (t128.length : Int) then (if rdOf false t128 0 = true then (if 5 < (t128.length : Int) then (if rdOf false t128 5 = true then (if 3 < (t128.length : Int) then (if rdOf false t128 3 = true then (some false) else ((cfg_Met.f k ([] : List (S42))).bind fun t158 => (some ((t158.length : Int) == 1)))) else (none)) else (some false)) else (none)) else (some false)) else (none)) else (some false)) else (some false))) else (some false))) else (some false))) else (some false))))))) else (some false)) = some r := H
 have A10 := Aside0.mk A100
 clear A100
 by_cases c11 : t148 = true
 rotate_left
 ·replace c11 := Bool.eq_false_iff.mpr c11
  subst c11
  have H1 : (some false) = some r := by rw [if_neg (show ¬ (false = true) by decide)] at H; exact H
  clear H
  have H := H1
  clear H1
  exact absurd ((Option.some.inj H).trans HT.out) (by simp)
 subst c11
 have H1 : ((cfg_Reach.f y125 0 3).bind fun t149 => (if t149 = true then (some false) else ((cfg_Reach.f y125 4 4).bind fun t150 => (if t150 = true then (some false) else ((cfg_Reach.f y125 1 5).bind fun t151 => (if t151 = true then ((cfg_Free.f y125 0 4).bind fun t152 => (if t152 = true then ((cfg_Free.f y125 1 4).bind fun t153 => (if t153 = true then ((cfg_Free.f y125 0 1).bind fun t154 => (if t154 = true then (if (t128.length : Int) = 6 then (if 0 < (t128.length : Int) then (if rdOf false t128 0 = true then (if 5 < (t128.length : Int) then (if rdOf false t128 5 = true then (if 3 < (t128.length : Int) then (if rdOf false t128 3 = true then (some false) else ((cfg_Met.f k ([] : List (S42))).bind fun t158 => (some ((t158.length : Int) == 1)))) else (none)) else (some false)) else (none)) else (some false)) else (none)) else (some false)) else (some false))) else (some false))) else (some false))) else (some false))))))) = some r := by rw [if_pos rfl] at H; exact H
 clear H
 have H := H1
 clear H1
 replace H := Option.bind_eq_some_iff.mp H
 obtain ⟨t149, A120, H⟩ := H
 replace H : (if t149 = true then (some false) else ((cfg_Reach.f y125 4 4).bind fun t150 => (if t150 = true then (some false) else ((cfg_Reach.f y125 1 5).bind fun t151 => (if t151 = true then ((cfg_Free.f y125 0 4).bind fun t152 => (if t152 = true then ((cfg_Free.f y125 1 4).bind fun t153 => (if t153 = true then ((cfg_Free.f y125 0 1).bind fun t154 => (if t154 = true then (if (t128.length : Int) = 6 then (if 0 < (t128.length : Int) then (if rdOf false t128 0 = true then (if 5 < (t128.length : Int) then (if rdOf false t128 5 = true then (if 3 < (t128.length : Int) then (if rdOf false t128 3 = true then (some false) else ((cfg_Met.f k ([] : List (S42))).bind fun t158 => (some ((t158.length : Int) == 1)))) else (none)) else (some false)) else (none)) else (some false)) else (none)) else (some false)) else (some false))) else (some false))) else (some false))) else (some false)))))) = some r := H
 have A12 := Aside0.mk A120
 clear A120
 by_cases c13 : t149 = true
 ·subst c13
  have H1 : (some false) = some r := by rw [if_pos rfl] at H; exact H
  clear H
  have H := H1
  clear H1
  exact absurd ((Option.some.inj H).trans HT.out) (by simp)
 replace c13 := Bool.eq_false_iff.mpr c13
 subst c13
 have H1 : ((cfg_Reach.f y125 4 4).bind fun t150 => (if t150 = true then (some false) else ((cfg_Reach.f y125 1 5).bind fun t151 => (if t151 = true then ((cfg_Free.f y125 0 4).bind fun t152 => (if t152 = true then ((cfg_Free.f y125 1 4).bind fun t153 => (if t153 = true then ((cfg_Free.f y125 0 1).bind fun t154 => (if t154 = true then (if (t128.length : Int) = 6 then (if 0 < (t128.length : Int) then (if rdOf false t128 0 = true then (if 5 < (t128.length : Int) then (if rdOf false t128 5 = true then (if 3 < (t128.length : Int) then (if rdOf false t128 3 = true then (some false) else ((cfg_Met.f k ([] : List (S42))).bind fun t158 => (some ((t158.length : Int) == 1)))) else (none)) else (some false)) else (none)) else (some false)) else (none)) else (some false)) else (some false))) else (some false))) else (some false))) else (some false))))) = some r := by rw [if_neg (show ¬ (false = true) by decide)] at H; exact H
 clear H
 have H := H1
 clear H1
 replace H := Option.bind_eq_some_iff.mp H
 obtain ⟨t150, A140, H⟩ := H
 replace H : (if t150 = true then (some false) else ((cfg_Reach.f y125 1 5).bind fun t151 => (if t151 = true then ((cfg_Free.f y125 0 4).bind fun t152 => (if t152 = true then ((cfg_Free.f y125 1 4).bind fun t153 => (if t153 = true then ((cfg_Free.f y125 0 1).bind fun t154 => (if t154 = true then (if (t128.length : Int) = 6 then (if 0 < (t128.length : Int) then (if rdOf false t128 0 = true then (if 5 < (t128.length : Int) then (if rdOf false t128 5 = true then (if 3 < (t128.length : Int) then (if rdOf false t128 3 = true then (some false) else ((cfg_Met.f k ([] : List (S42))).bind fun t158 => (some ((t158.length : Int) == 1)))) else (none)) else (some false)) else (none)) else (some false)) else (none)) else (some false)) else (some false))) else (some false))) else (some false))) else (some false)))) = some r := H
 have A14 := Aside0.mk A140
 clear A140
 by_cases c15 : t150 = true
 ·subst c15
  have H1 : (some false) = some r := by rw [if_pos rfl] at H; exact H
  clear H
  have H := H1
  clear H1
  exact absurd ((Option.some.inj H).trans HT.out) (by simp)
 replace c15 := Bool.eq_false_iff.mpr c15
 subst c15
 have H1 : ((cfg_Reach.f y125 1 5).bind fun t151 => (if t151 = true then ((cfg_Free.f y125 0 4).bind fun t152 => (if t152 = true then ((cfg_Free.f y125 1 4).bind fun t153 => (if t153 = true then ((cfg_Free.f y125 0 1).bind fun t154 => (if t154 = true then (if (t128.length : Int) = 6 then (if 0 < (t128.length : Int) then (if rdOf false t128 0 = true then (if 5 < (t128.length : Int) then (if rdOf false t128 5 = true then (if 3 < (t128.length : Int) then (if rdOf false t128 3 = true then (some false) else ((cfg_Met.f k ([] : List (S42))).bind fun t158 => (some ((t158.length : Int) == 1)))) else (none)) else (some false)) else (none)) else (some false)) else (none)) else (some false)) else (some false))) else (some false))) else (some false))) else (some false))) = some r := by rw [if_neg (show ¬ (false = true) by decide)] at H; exact H
 clear H
 have H := H1
 clear H1
 replace H := Option.bind_eq_some_iff.mp H
 obtain ⟨t151, A160, H⟩ := H
 replace H : (if t151 = true then ((cfg_Free.f y125 0 4).bind fun t152 => (if t152 = true then ((cfg_Free.f y125 1 4).bind fun t153 => (if t153 = true then ((cfg_Free.f y125 0 1).bind fun t154 => (if t154 = true then (if (t128.length : Int) = 6 then (if 0 < (t128.length : Int) then (if rdOf false t128 0 = true then (if 5 < (t128.length : Int) then (if rdOf false t128 5 = true then (if 3 < (t128.length : Int) then (if rdOf false t128 3 = true then (some false) else ((cfg_Met.f k ([] : List (S42))).bind fun t158 => (some ((t158.length : Int) == 1)))) else (none)) else (some false)) else (none)) else (some false)) else (none)) else (some false)) else (some false))) else (some false))) else (some false))) else (some false)) = some r := H
 have A16 := Aside0.mk A160
 clear A160
 by_cases c17 : t151 = true
 rotate_left
 ·replace c17 := Bool.eq_false_iff.mpr c17
  subst c17
  have H1 : (some false) = some r := by rw [if_neg (show ¬ (false = true) by decide)] at H; exact H
  clear H
  have H := H1
  clear H1
  exact absurd ((Option.some.inj H).trans HT.out) (by simp)
 subst c17
 have H1 : ((cfg_Free.f y125 0 4).bind fun t152 => (if t152 = true then ((cfg_Free.f y125 1 4).bind fun t153 => (if t153 = true then ((cfg_Free.f y125 0 1).bind fun t154 => (if t154 = true then (if (t128.length : Int) = 6 then (if 0 < (t128.length : Int) then (if rdOf false t128 0 = true then (if 5 < (t128.length : Int) then (if rdOf false t128 5 = true then (if 3 < (t128.length : Int) then (if rdOf false t128 3 = true then (some false) else ((cfg_Met.f k ([] : List (S42))).bind fun t158 => (some ((t158.length : Int) == 1)))) else (none)) else (some false)) else (none)) else (some false)) else (none)) else (some false)) else (some false))) else (some false))) else (some false))) = some r := by rw [if_pos rfl] at H; exact H
 clear H
 have H := H1
 clear H1
 replace H := Option.bind_eq_some_iff.mp H
 obtain ⟨t152, A180, H⟩ := H
 replace H : (if t152 = true then ((cfg_Free.f y125 1 4).bind fun t153 => (if t153 = true then ((cfg_Free.f y125 0 1).bind fun t154 => (if t154 = true then (if (t128.length : Int) = 6 then (if 0 < (t128.length : Int) then (if rdOf false t128 0 = true then (if 5 < (t128.length : Int) then (if rdOf false t128 5 = true then (if 3 < (t128.length : Int) then (if rdOf false t128 3 = true then (some false) else ((cfg_Met.f k ([] : List (S42))).bind fun t158 => (some ((t158.length : Int) == 1)))) else (none)) else (some false)) else (none)) else (some false)) else (none)) else (some false)) else (some false))) else (some false))) else (some false)) = some r := H
 have A18 := Aside0.mk A180
 clear A180
 by_cases c19 : t152 = true
 rotate_left
 ·replace c19 := Bool.eq_false_iff.mpr c19
  subst c19
  have H1 : (some false) = some r := by rw [if_neg (show ¬ (false = true) by decide)] at H; exact H
  clear H
  have H := H1
  clear H1
  exact absurd ((Option.some.inj H).trans HT.out) (by simp)
 subst c19
 have H1 : ((cfg_Free.f y125 1 4).bind fun t153 => (if t153 = true then ((cfg_Free.f y125 0 1).bind fun t154 => (if t154 = true then (if (t128.length : Int) = 6 then (if 0 < (t128.length : Int) then (if rdOf false t128 0 = true then (if 5 < (t128.length : Int) then (if rdOf false t128 5 = true then (if 3 < (t128.length : Int) then (if rdOf false t128 3 = true then (some false) else ((cfg_Met.f k ([] : List (S42))).bind fun t158 => (some ((t158.length : Int) == 1)))) else (none)) else (some false)) else (none)) else (some false)) else (none)) else (some false)) else (some false))) else (some false))) = some r := by rw [if_pos rfl] at H; exact H
 clear H
 have H := H1
 clear H1
 replace H := Option.bind_eq_some_iff.mp H
 obtain ⟨t153, A200, H⟩ := H
 replace H : (if t153 = true then ((cfg_Free.f y125 0 1).bind fun t154 => (if t154 = true then (if (t128.length : Int) = 6 then (if 0 < (t128.length : Int) then (if rdOf false t128 0 = true then (if 5 < (t128.length : Int) then (if rdOf false t128 5 = true then (if 3 < (t128.length : Int) then (if rdOf false t128 3 = true then (some false) else ((cfg_Met.f k ([] : List (S42))).bind fun t158 => (some ((t158.length : Int) == 1)))) else (none)) else (some false)) else (none)) else (some false)) else (none)) else (some false)) else (some false))) else (some false)) = some r := H
 have A20 := Aside0.mk A200
 clear A200
 by_cases c21 : t153 = true
 rotate_left
 ·replace c21 := Bool.eq_false_iff.mpr c21
  subst c21
  have H1 : (some false) = some r := by rw [if_neg (show ¬ (false = true) by decide)] at H; exact H
  clear H
  have H := H1
  clear H1
  exact absurd ((Option.some.inj H).trans HT.out) (by simp)
 subst c21
 have H1 : ((cfg_Free.f y125 0 1).bind fun t154 => (if t154 = true then (if (t128.length : Int) = 6 then (if 0 < (t128.length : Int) then (if rdOf false t128 0 = true then (if 5 < (t128.length : Int) then (if rdOf false t128 5 = true then (if 3 < (t128.length : Int) then (if rdOf false t128 3 = true then (some false) else ((cfg_Met.f k ([] : List (S42))).bind fun t158 => (some ((t158.length : Int) == 1)))) else (none)) else (some false)) else (none)) else (some false)) else (none)) else (some false)) else (some false))) = some r := by rw [if_pos rfl] at H; exact H
 clear H
 have H := H1
 clear H1
 replace H := Option.bind_eq_some_iff.mp H
 obtain ⟨t154, A220, H⟩ := H
 replace H : (if t154 = true then (if (t128.length : Int) = 6 then (if 0 < (t128.length : Int) then (if rdOf false t128 0 = true then (if 5 < (t128.length : Int) then (if rdOf false t128 5 = true then (if 3 < (t128.length : Int) then (if rdOf false t128 3 = true then (some false) else ((cfg_Met.f k ([] : List (S42))).bind fun t158 => (some ((t158.length : Int) == 1)))) else (none)) else (some false)) else (none)) else (some false)) else (none)) else (some false)) else (some false)) = some r := H
 have A22 := Aside0.mk A220
 clear A220
 by_cases c23 : t154 = true
 rotate_left
 ·replace c23 := Bool.eq_false_iff.mpr c23
  subst c23
  have H1 : (some false) = some r := by rw [if_neg (show ¬ (false = true) by decide)] at H; exact H
  clear H
  have H := H1
  clear H1
  exact absurd ((Option.some.inj H).trans HT.out) (by simp)
 subst c23
 have H1 : (if (t128.length : Int) = 6 then (if 0 < (t128.length : Int) then (if rdOf false t128 0 = true then (if 5 < (t128.length : Int) then (if rdOf false t128 5 = true then (if 3 < (t128.length : Int) then (if rdOf false t128 3 = true then (some false) else ((cfg_Met.f k ([] : List (S42))).bind fun t158 => (some ((t158.length : Int) == 1)))) else (none)) else (some false)) else (none)) else (some false)) else (none)) else (some false)) = some r := by rw [if_pos rfl] at H; exact H
 clear H
 have H := H1
 clear H1
 by_cases c24 : (t128.length : Int) = 6
 rotate_left
 ·rw [if_neg c24] at H
  have c24b0 : ((t128.length : Int) == 6) = false := beq_eq_false_iff_ne.mpr c24
  have c24b1 : ((t128.length : Int) != 6) = true := bne_iff_ne.mpr c24
  exact absurd ((Option.some.inj H).trans HT.out) (by simp)
 rw [if_pos c24] at H
 have c24b0 : ((t128.length : Int) == 6) = true := beq_iff_eq.mpr c24
 have c24b1 : ((t128.length : Int) != 6) = false := bne_eq_false_iff_eq.mpr c24
 clear c24
 by_cases c25 : 0 < (t128.length : Int)
 rotate_left
 ·rw [if_neg c25] at H
  exact absurd H (by simp)
 rw [if_pos c25] at H
 have c25b0 : decide (0 < (t128.length : Int)) = true := decide_eq_true c25
 have c25b1 : decide (0 < t128.length) = true := decide_eq_true (by omega)
 clear c25
 obtain ⟨bq26, hbq26⟩ : ∃ b_ : Bool, b_ = (rdOf false t128 0) := ⟨_, rfl⟩
 replace H : (if bq26 = true then (if 5 < (t128.length : Int) then (if rdOf false t128 5 = true then (if 3 < (t128.length : Int) then (if rdOf false t128 3 = true then (some false) else ((cfg_Met.f k ([] : List (S42))).bind fun t158 => (some ((t158.length : Int) == 1)))) else (none)) else (some false)) else (none)) else (some false)) = some r := by rw [← hbq26] at H; exact H
 have Nbq26 := Aside0.mk hbq26
 clear hbq26
 by_cases c27 : bq26 = true
 rotate_left
 ·replace c27 := Bool.eq_false_iff.mpr c27
  subst c27
  have H1 : (some false) = some r := by rw [if_neg (show ¬ (false = true) by decide)] at H; exact H
  clear H
  have H := H1
  clear H1
  exact absurd ((Option.some.inj H).trans HT.out) (by simp)
 subst c27
 have H1 : (if 5 < (t128.length : Int) then (if rdOf false t128 5 = true then (if 3 < (t128.length : Int) then (if rdOf false t128 3 = true then (some false) else ((cfg_Met.f k ([] : List (S42))).bind fun t158 => (some ((t158.length : Int) == 1)))) else (none)) else (some false)) else (none)) = some r := by rw [if_pos rfl] at H; exact H
 clear H
 have H := H1
 clear H1
 by_cases c28 : 5 < (t128.length : Int)
 rotate_left
 ·rw [if_neg c28] at H
  exact absurd H (by simp)
 rw [if_pos c28] at H
 have c28b0 : decide (5 < (t128.length : Int)) = true := decide_eq_true c28
 have c28b1 : decide (5 < t128.length) = true := decide_eq_true (by omega)
 clear c28
 obtain ⟨bq29, hbq29⟩ : ∃ b_ : Bool, b_ = (rdOf false t128 5) := ⟨_, rfl⟩
 replace H : (if bq29 = true then (if 3 < (t128.length : Int) then (if rdOf false t128 3 = true then (some false) else ((cfg_Met.f k ([] : List (S42))).bind fun t158 => (some ((t158.length : Int) == 1)))) else (none)) else (some false)) = some r := by rw [← hbq29] at H; exact H
 have Nbq29 := Aside0.mk hbq29
 clear hbq29
 by_cases c30 : bq29 = true
 rotate_left
 ·replace c30 := Bool.eq_false_iff.mpr c30
  subst c30
  have H1 : (some false) = some r := by rw [if_neg (show ¬ (false = true) by decide)] at H; exact H
  clear H
  have H := H1
  clear H1
  exact absurd ((Option.some.inj H).trans HT.out) (by simp)
 subst c30
 have H1 : (if 3 < (t128.length : Int) then (if rdOf false t128 3 = true then (some false) else ((cfg_Met.f k ([] : List (S42))).bind fun t158 => (some ((t158.length : Int) == 1)))) else (none)) = some r := by rw [if_pos rfl] at H; exact H
 clear H
 have H := H1
 clear H1
 by_cases c31 : 3 < (t128.length : Int)
 rotate_left
 ·rw [if_neg c31] at H
  exact absurd H (by simp)
 rw [if_pos c31] at H
 have c31b0 : decide (3 < (t128.length : Int)) = true := decide_eq_true c31
 have c31b1 : decide (3 < t128.length) = true := decide_eq_true (by omega)
 clear c31
 obtain ⟨bq32, hbq32⟩ : ∃ b_ : Bool, b_ = (rdOf false t128 3) := ⟨_, rfl⟩
 replace H : (if bq32 = true then (some false) else ((cfg_Met.f k ([] : List (S42))).bind fun t158 => (some ((t158.length : Int) == 1)))) = some r := by rw [← hbq32] at H; exact H
 have Nbq32 := Aside0.mk hbq32
 clear hbq32
 by_cases c33 : bq32 = true
 ·subst c33
  have H1 : (some false) = some r := by rw [if_pos rfl] at H; exact H
  clear H
  have H := H1
  clear H1
  exact absurd ((Option.some.inj H).trans HT.out) (by simp)
 replace c33 := Bool.eq_false_iff.mpr c33
 subst c33
 have H1 : ((cfg_Met.f k ([] : List (S42))).bind fun t158 => (some ((t158.length : Int) == 1))) = some r := by rw [if_neg (show ¬ (false = true) by decide)] at H; exact H
 clear H
 have H := H1
 clear H1
 replace H := Option.bind_eq_some_iff.mp H
 obtain ⟨t158, A340, H⟩ := H
 replace H : (some ((t158.length : Int) == 1)) = some r := H
 have A34 := Aside0.mk A340
 clear A340
 obtain rfl := Option.some.inj H
 go_enter Try.func4, Try.ntmps4
 (try simp only [List.append_eq, List.cons_append, List.nil_append])
 go_wp2_with (first | ((with_reducible refine gate_dst (N := 8) rfl ?_); (try (refine gate_guard (by rfl) ?_; dsimp only)); refine Kd.R_lit k42 _ 42 ?hg (N := 8) ?hd (xs := ([(⟨9, 0, 0, 0, 2⟩ : S42), (⟨6, 0, 0, 0, 0⟩ : S42), (⟨8, 0, 0, 0, 4⟩ : S42), (⟨4, 0, 0, 0, 0⟩ : S42), (⟨2, 0, 0, 0, 0⟩ : S42)] : List (S42))) (inner := [.int .i64 9, .int .i64 0, .int .i64 0, .int .i64 0, .int .i64 2, .int .i64 6, .int .i64 0, .int .i64 0, .int .i64 0, .int .i64 0, .int .i64 8, .int .i64 0, .int .i64 0, .int .i64 0, .int .i64 4, .int .i64 4, .int .i64 0, .int .i64 0, .int .i64 0, .int .i64 0, .int .i64 2, .int .i64 0, .int .i64 0, .int .i64 0, .int .i64 0]) (ok := fun _ => True) (okp := fun _ => True) ?hr ?hp (fun _ hk => hk) trivial (Below.refl _ _) (Nat.le_refl _) (by simp) ?_; (case hd => rfl); (case hg => rfl); (case hr => first | (go_simp; done) | (go_simp; rfl)); (case hp => exact (Reps.c5 (show Kd.M k42 _ _ _ (⟨9, 0, 0, 0, 2⟩ : S42) [.int .i64 9, .int .i64 0, .int .i64 0, .int .i64 0, .int .i64 2] from (k42_mkM _ _ _ (⟨9, 0, 0, 0, 2⟩ : S42) )) (Reps.c5 (show Kd.M k42 _ _ _ (⟨6, 0, 0, 0, 0⟩ : S42) [.int .i64 6, .int .i64 0, .int .i64 0, .int .i64 0, .int .i64 0] from (k42_mkM _ _ _ (⟨6, 0, 0, 0, 0⟩ : S42) )) (Reps.c5 (show Kd.M k42 _ _ _ (⟨8, 0, 0, 0, 4⟩ : S42) [.int .i64 8, .int .i64 0, .int .i64 0, .int .i64 0, .int .i64 4] from (k42_mkM _ _ _ (⟨8, 0, 0, 0, 4⟩ : S42) )) (Reps.c5 (show Kd.M k42 _ _ _ (⟨4, 0, 0, 0, 0⟩ : S42) [.int .i64 4, .int .i64 0, .int .i64 0, .int .i64 0, .int .i64 0] from (k42_mkM _ _ _ (⟨4, 0, 0, 0, 0⟩ : S42) )) (Reps.c5 (show Kd.M k42 _ _ _ (⟨2, 0, 0, 0, 0⟩ : S42) [.int .i64 2, .int .i64 0, .int .i64 0, .int .i64 0, .int .i64 0] from (k42_mkM _ _ _ (⟨2, 0, 0, 0, 0⟩ : S42) )) (Reps.none _ _))))))); intro v126 w35 ho36 hb hg_ hnew_; clear hg_ hnew_; (first | rw [← Ny125.out] at ho36 | (simp only [Int.reduceToNat] at ho36; rw [← Ny125.out] at ho36)); have n0_ := Aside0.mk (Kd.R_lower ho36 (below_size (hb_ HB.out))); have n1_ := Aside0.mk (below_step (hb_ HB.out) hb); clear HB; have HO127 := n0_; have HB := n1_; clear n0_ n1_; clear hb ho36; obtain ⟨Ao37, co37, eo37⟩ := Kd.R_slice HO127.out; subst eo37) | ((with_reducible refine gate_callee (f := 7) rfl ?_); refine goesL_ (some 10) rfl rfl Try.func7 (by kernel_rfl) rfl #[.slice Ao37 y125.length co37] rfl ar_ ?_; (with_reducible refine (cfg_Met.calls k _ _ y125 t128 _ ?side1 ?side2 A1.out).mono ?_); (case side1 => repeat (first | exact (Kd.R_reads' HO127.out).2.2 | (with_reducible refine Kd.C_alloc ?_ _) | (with_reducible refine Kd.C_drewN ?_ _) | (with_reducible refine Kd.C_drew ?_))); (case side2 => exact (Kd.R_reads' HO127.out).2.1); rintro e w38 ⟨v129, rfl, ho0, hb⟩; refine ⟨_, rfl, ?_⟩; have n0_ := Aside0.mk (Kd.R_below (rd_ HO127.out) hb); have n1_ := Aside0.mk (Kd.R_lower ho0 (below_size (hb_ HB.out))); have n2_ := Aside0.mk (below_step (hb_ HB.out) hb); clear HO127; clear HB; have HO127 := n0_; have HO130 := n1_; have HB := n2_; clear n0_ n1_ n2_; (try clear hb); (try clear hb2); (try clear hk); (try clear hi); (try clear ho0)) | ((with_reducible refine gate_callee (f := 9) rfl ?_); refine goesL_ (some 12) rfl rfl Try.func9 (by kernel_rfl) rfl #[.slice Ao37 y125.length co37, .int .i64 0] rfl ar_ ?_; (with_reducible refine (cfg_Next.calls _ _ y125 0 t131 _ ?side1 ?side2 A2.out).mono ?_); (case side1 => repeat (first | exact (Kd.R_reads' HO127.out).2.2 | (with_reducible refine Kd.C_alloc ?_ _) | (with_reducible refine Kd.C_drewN ?_ _) | (with_reducible refine Kd.C_drew ?_))); (case side2 => exact (Kd.R_reads' HO127.out).2.1); rintro e w39 ⟨v132, rfl, ho0, hb⟩; refine ⟨_, rfl, ?_⟩; have n0_ := Aside0.mk (Kd.R_below (rd_ HO127.out) hb); have n1_ := Aside0.mk (Kd.R_below (rd_ HO130.out) hb); have n2_ := Aside0.mk (Kd.R_lower ho0 (below_size (hb_ HB.out))); have n3_ := Aside0.mk (below_step (hb_ HB.out) hb); clear HO127; clear HO130; clear HB; have HO127 := n0_; have HO130 := n1_; have HO133 := n2_; have HB := n3_; clear n0_ n1_ n2_ n3_; (try clear hb); (try clear hb2); (try clear hk); (try clear hi); (try clear ho0)) | ((with_reducible refine gate_dst (N := 13) rfl ?_); (try (refine gate_guard (by rfl) ?_; dsimp only)); refine Kd.R_lit (Kd.int .i64) _ 3 ?hg (N := 13) ?hd (xs := ([1, 2] : List Int)) (inner := [.int .i64 1, .int .i64 2]) (ok := fun _ => True) (okp := fun _ => True) ?hr ?hp (fun _ hk => hk) trivial (Below.refl _ _) (Nat.le_refl _) (by simp) ?_; (case hd => rfl); (case hg => rfl); (case hr => first | (go_simp; done) | (go_simp; rfl)); (case hp => exact (Reps.one (show Kd.M (Kd.int .i64) _ _ _ 1 [.int .i64 1] from rfl) (Reps.one (show Kd.M (Kd.int .i64) _ _ _ 2 [.int .i64 2] from rfl) (Reps.none _ _)))); intro v135 w40 ho41 hb hg_ hnew_; clear hg_ hnew_; (first | rw [← Ny134.out] at ho41 | (simp only [Int.reduceToNat] at ho41; rw [← Ny134.out] at ho41)); have n0_ := Aside0.mk (Kd.R_below (rd_ HO127.out) hb); have n1_ := Aside0.mk (Kd.R_below (rd_ HO130.out) hb); have n2_ := Aside0.mk (Kd.R_elder' (rd_ HO133.out) (Kd.R_base ho41) hb); have n3_ := Aside0.mk (Kd.R_lower (Kd.R_new' ho41 (Kd.R_lt (rd_ HO133.out))) (below_size (hb_ HB.out))); have n4_ := Aside0.mk (below_step (hb_ HB.out) hb); clear HO127; clear HO130; clear HO133; clear HB; have HO127 := n0_; have HO130 := n1_; have HO133 := n2_; have HO136 := n3_; have HB := n4_; clear n0_ n1_ n2_ n3_ n4_; clear hb ho41; obtain ⟨Ao42, co42, eo42⟩ := Kd.R_slice HO133.out; subst eo42; obtain ⟨Ao43, co43, eo43⟩ := Kd.R_slice HO136.out; subst eo43) | ((with_reducible refine gate_callee (f := 8) rfl ?_); refine goesL_ (some 14) rfl rfl Try.func8 (by kernel_rfl) rfl #[.slice Ao42 t131.length co42, .slice Ao43 y134.length co43] rfl ar_ ?_; (with_reducible refine (fencepostref07_SameInts.calls k _ _ t131 _ _ y134 true _ ?side1 ?side2 ?side3 ?side4 A3.out).mono ?_); (case side1 => repeat (first | exact (Kd.R_reads' HO133.out).2.2 | (with_reducible refine Kd.C_alloc ?_ _) | (with_reducible refine Kd.C_drewN ?_ _) | (with_reducible refine Kd.C_drew ?_))); (case side2 => exact (Kd.R_reads' HO133.out).2.1); (case side3 => repeat (first | exact (Kd.R_reads' HO136.out).2.2 | (with_reducible refine Kd.C_alloc ?_ _) | (with_reducible refine Kd.C_drewN ?_ _) | (with_reducible refine Kd.C_drew ?_))); (case side4 => exact (Kd.R_reads' HO136.out).2.1); rintro e w' ⟨rfl, ⟨nd, rfl⟩⟩; refine ⟨_, rfl, ?_⟩) | (go_at_call 9; (with_reducible refine (cfg_Next.calls _ _ y125 2 t138 _ ?side1 ?side2 A5.out).mono ?_); (case side1 => repeat (first | exact (Kd.R_reads' HO127.out).2.2 | (with_reducible refine Kd.C_alloc ?_ _) | (with_reducible refine Kd.C_drewN ?_ _) | (with_reducible refine Kd.C_drew ?_))); (case side2 => exact (Kd.R_reads' HO127.out).2.1); rintro e w44 ⟨v139, rfl, ho0, hb⟩; have n0_ := Aside0.mk (Kd.R_below (rd_ HO127.out) hb); have n1_ := Aside0.mk (Kd.R_below (rd_ HO130.out) hb); have n2_ := Aside0.mk (Kd.R_elder' (rd_ HO133.out) (Kd.R_base ho0) hb); have n3_ := Aside0.mk (Kd.R_elder' (rd_ HO136.out) (Kd.R_base ho0) hb); have n4_ := Aside0.mk (Kd.R_lower (Kd.R_new' (Kd.R_new' ho0 (Kd.R_lt (rd_ HO133.out))) (Kd.R_lt (rd_ HO136.out))) (below_size (hb_ HB.out))); have n5_ := Aside0.mk (below_step (hb_ HB.out) hb); clear HO127; clear HO130; clear HO133; clear HO136; clear HB; have HO127 := n0_; have HO130 := n1_; have HO133 := n2_; have HO136 := n3_; have HO140 := n4_; have HB := n5_; clear n0_ n1_ n2_ n3_ n4_ n5_; (try clear hb); (try clear hb2); (try clear hk); (try clear hi); (try clear ho0)) | ((with_reducible refine gate_dst (N := 18) rfl ?_); (try (refine gate_guard (by rfl) ?_; dsimp only)); refine Kd.R_lit (Kd.int .i64) _ 3 ?hg (N := 18) ?hd (xs := ([4] : List Int)) (inner := [.int .i64 4]) (ok := fun _ => True) (okp := fun _ => True) ?hr ?hp (fun _ hk => hk) trivial (Below.refl _ _) (Nat.le_refl _) (by simp) ?_; (case hd => rfl); (case hg => rfl); (case hr => first | (go_simp; done) | (go_simp; rfl)); (case hp => exact (Reps.one (show Kd.M (Kd.int .i64) _ _ _ 4 [.int .i64 4] from rfl) (Reps.none _ _))); intro v142 w45 ho46 hb hg_ hnew_; clear hg_ hnew_; (first | rw [← Ny141.out] at ho46 | (simp only [Int.reduceToNat] at ho46; rw [← Ny141.out] at ho46)); have n0_ := Aside0.mk (Kd.R_below (rd_ HO127.out) hb); have n1_ := Aside0.mk (Kd.R_below (rd_ HO130.out) hb); have n2_ := Aside0.mk (Kd.R_elder' (rd_ HO133.out) (Kd.R_base ho46) hb); have n3_ := Aside0.mk (Kd.R_elder' (rd_ HO136.out) (Kd.R_base ho46) hb); have n4_ := Aside0.mk (Kd.R_elder' (rd_ HO140.out) (Kd.R_base ho46) hb); have n5_ := Aside0.mk (Kd.R_lower (Kd.R_new' (Kd.R_new' (Kd.R_new' ho46 (Kd.R_lt (rd_ HO133.out))) (Kd.R_lt (rd_ HO136.out))) (Kd.R_lt (rd_ HO140.out))) (below_size (hb_ HB.out))); have n6_ := Aside0.mk (below_step (hb_ HB.out) hb); clear HO127; clear HO130; clear HO133; clear HO136; clear HO140; clear HB; have HO127 := n0_; have HO130 := n1_; have HO133 := n2_; have HO136 := n3_; have HO140 := n4_; have HO143 := n5_; have HB := n6_; clear n0_ n1_ n2_ n3_ n4_ n5_ n6_; clear hb ho46; obtain ⟨Ao47, co47, eo47⟩ := Kd.R_slice HO140.out; subst eo47; obtain ⟨Ao48, co48, eo48⟩ := Kd.R_slice HO143.out; subst eo48) | (go_at_call 8; (with_reducible refine (fencepostref07_SameInts.calls k _ _ t138 _ _ y141 true _ ?side1 ?side2 ?side3 ?side4 A6.out).mono ?_); (case side1 => repeat (first | exact (Kd.R_reads' HO140.out).2.2 | (with_reducible refine Kd.C_alloc ?_ _) | (with_reducible refine Kd.C_drewN ?_ _) | (with_reducible refine Kd.C_drew ?_))); (case side2 => exact (Kd.R_reads' HO140.out).2.1); (case side3 => repeat (first | exact (Kd.R_reads' HO143.out).2.2 | (with_reducible refine Kd.C_alloc ?_ _) | (with_reducible refine Kd.C_drewN ?_ _) | (with_reducible refine Kd.C_drew ?_))); (case side4 => exact (Kd.R_reads' HO143.out).2.1); rintro e w' ⟨rfl, ⟨nd, rfl⟩⟩) | (go_at_call 9; (with_reducible refine (cfg_Next.calls _ _ y125 5 t145 _ ?side1 ?side2 A8.out).mono ?_); (case side1 => repeat (first | exact (Kd.R_reads' HO127.out).2.2 | (with_reducible refine Kd.C_alloc ?_ _) | (with_reducible refine Kd.C_drewN ?_ _) | (with_reducible refine Kd.C_drew ?_))); (case side2 => exact (Kd.R_reads' HO127.out).2.1); rintro e w49 ⟨v146, rfl, ho0, hb⟩; have n0_ := Aside0.mk (Kd.R_below (rd_ HO127.out) hb); have n1_ := Aside0.mk (Kd.R_below (rd_ HO130.out) hb); have n2_ := Aside0.mk (Kd.R_elder' (rd_ HO133.out) (Kd.R_base ho0) hb); have n3_ := Aside0.mk (Kd.R_elder' (rd_ HO136.out) (Kd.R_base ho0) hb); have n4_ := Aside0.mk (Kd.R_elder' (rd_ HO140.out) (Kd.R_base ho0) hb); have n5_ := Aside0.mk (Kd.R_elder' (rd_ HO143.out) (Kd.R_base ho0) hb); have n6_ := Aside0.mk (Kd.R_lower (Kd.R_new' (Kd.R_new' (Kd.R_new' (Kd.R_new' ho0 (Kd.R_lt (rd_ HO133.out))) (Kd.R_lt (rd_ HO136.out))) (Kd.R_lt (rd_ HO140.out))) (Kd.R_lt (rd_ HO143.out))) (below_size (hb_ HB.out))); have n7_ := Aside0.mk (below_step (hb_ HB.out) hb); clear HO127; clear HO130; clear HO133; clear HO136; clear HO140; clear HO143; clear HB; have HO127 := n0_; have HO130 := n1_; have HO133 := n2_; have HO136 := n3_; have HO140 := n4_; have HO143 := n5_; have HO147 := n6_; have HB := n7_; clear n0_ n1_ n2_ n3_ n4_ n5_ n6_ n7_; (try clear hb); (try clear hb2); (try clear hk); (try clear hi); (try clear ho0); obtain ⟨Ao50, co50, eo50⟩ := Kd.R_slice HO147.out; subst eo50) | (go_at_call 10; (with_reducible refine (cfg_Reach.calls _ _ y125 0 4 true _ ?side1 ?side2 A10.out).mono ?_); (case side1 => repeat (first | exact (Kd.R_reads' HO127.out).2.2 | (with_reducible refine Kd.C_alloc ?_ _) | (with_reducible refine Kd.C_drewN ?_ _) | (with_reducible refine Kd.C_drew ?_))); (case side2 => exact (Kd.R_reads' HO127.out).2.1); rintro e w51 ⟨rfl, hb⟩; have n0_ := Aside0.mk (Kd.R_below (rd_ HO127.out) hb); have n1_ := Aside0.mk (Kd.R_below (rd_ HO130.out) hb); have n2_ := Aside0.mk (Kd.R_below (rd_ HO133.out) hb); have n3_ := Aside0.mk (Kd.R_below (rd_ HO136.out) hb); have n4_ := Aside0.mk (Kd.R_below (rd_ HO140.out) hb); have n5_ := Aside0.mk (Kd.R_below (rd_ HO143.out) hb); have n6_ := Aside0.mk (Kd.R_below (rd_ HO147.out) hb); have n7_ := Aside0.mk (below_step (hb_ HB.out) hb); clear HO127; clear HO130; clear HO133; clear HO136; clear HO140; clear HO143; clear HO147; clear HB; have HO127 := n0_; have HO130 := n1_; have HO133 := n2_; have HO136 := n3_; have HO140 := n4_; have HO143 := n5_; have HO147 := n6_; have HB := n7_; clear n0_ n1_ n2_ n3_ n4_ n5_ n6_ n7_; (try clear hb); (try clear hb2); (try clear hk); (try clear hi)) | (go_at_call 10; (with_reducible refine (cfg_Reach.calls _ _ y125 0 3 false _ ?side1 ?side2 A12.out).mono ?_); (case side1 => repeat (first | exact (Kd.R_reads' HO127.out).2.2 | (with_reducible refine Kd.C_alloc ?_ _) | (with_reducible refine Kd.C_drewN ?_ _) | (with_reducible refine Kd.C_drew ?_))); (case side2 => exact (Kd.R_reads' HO127.out).2.1); rintro e w52 ⟨rfl, hb⟩; have n0_ := Aside0.mk (Kd.R_below (rd_ HO127.out) hb); have n1_ := Aside0.mk (Kd.R_below (rd_ HO130.out) hb); have n2_ := Aside0.mk (Kd.R_below (rd_ HO133.out) hb); have n3_ := Aside0.mk (Kd.R_below (rd_ HO136.out) hb); have n4_ := Aside0.mk (Kd.R_below (rd_ HO140.out) hb); have n5_ := Aside0.mk (Kd.R_below (rd_ HO143.out) hb); have n6_ := Aside0.mk (Kd.R_below (rd_ HO147.out) hb); have n7_ := Aside0.mk (below_step (hb_ HB.out) hb); clear HO127; clear HO130; clear HO133; clear HO136; clear HO140; clear HO143; clear HO147; clear HB; have HO127 := n0_; have HO130 := n1_; have HO133 := n2_; have HO136 := n3_; have HO140 := n4_; have HO143 := n5_; have HO147 := n6_; have HB := n7_; clear n0_ n1_ n2_ n3_ n4_ n5_ n6_ n7_; (try clear hb); (try clear hb2); (try clear hk); (try clear hi)) | (go_at_call 10; (with_reducible refine (cfg_Reach.calls _ _ y125 4 4 false _ ?side1 ?side2 A14.out).mono ?_); (case side1 => repeat (first | exact (Kd.R_reads' HO127.out).2.2 | (with_reducible refine Kd.C_alloc ?_ _) | (with_reducible refine Kd.C_drewN ?_ _) | (with_reducible refine Kd.C_drew ?_))); (case side2 => exact (Kd.R_reads' HO127.out).2.1); rintro e w53 ⟨rfl, hb⟩; have n0_ := Aside0.mk (Kd.R_below (rd_ HO127.out) hb); have n1_ := Aside0.mk (Kd.R_below (rd_ HO130.out) hb); have n2_ := Aside0.mk (Kd.R_below (rd_ HO133.out) hb); have n3_ := Aside0.mk (Kd.R_below (rd_ HO136.out) hb); have n4_ := Aside0.mk (Kd.R_below (rd_ HO140.out) hb); have n5_ := Aside0.mk (Kd.R_below (rd_ HO143.out) hb); have n6_ := Aside0.mk (Kd.R_below (rd_ HO147.out) hb); have n7_ := Aside0.mk (below_step (hb_ HB.out) hb); clear HO127; clear HO130; clear HO133; clear HO136; clear HO140; clear HO143; clear HO147; clear HB; have HO127 := n0_; have HO130 := n1_; have HO133 := n2_; have HO136 := n3_; have HO140 := n4_; have HO143 := n5_; have HO147 := n6_; have HB := n7_; clear n0_ n1_ n2_ n3_ n4_ n5_ n6_ n7_; (try clear hb); (try clear hb2); (try clear hk); (try clear hi)) | (go_at_call 10; (with_reducible refine (cfg_Reach.calls _ _ y125 1 5 true _ ?side1 ?side2 A16.out).mono ?_); (case side1 => repeat (first | exact (Kd.R_reads' HO127.out).2.2 | (with_reducible refine Kd.C_alloc ?_ _) | (with_reducible refine Kd.C_drewN ?_ _) | (with_reducible refine Kd.C_drew ?_))); (case side2 => exact (Kd.R_reads' HO127.out).2.1); rintro e w54 ⟨rfl, hb⟩; have n0_ := Aside0.mk (Kd.R_below (rd_ HO127.out) hb); have n1_ := Aside0.mk (Kd.R_below (rd_ HO130.out) hb); have n2_ := Aside0.mk (Kd.R_below (rd_ HO133.out) hb); have n3_ := Aside0.mk (Kd.R_below (rd_ HO136.out) hb); have n4_ := Aside0.mk (Kd.R_below (rd_ HO140.out) hb); have n5_ := Aside0.mk (Kd.R_below (rd_ HO143.out) hb); have n6_ := Aside0.mk (Kd.R_below (rd_ HO147.out) hb); have n7_ := Aside0.mk (below_step (hb_ HB.out) hb); clear HO127; clear HO130; clear HO133; clear HO136; clear HO140; clear HO143; clear HO147; clear HB; have HO127 := n0_; have HO130 := n1_; have HO133 := n2_; have HO136 := n3_; have HO140 := n4_; have HO143 := n5_; have HO147 := n6_; have HB := n7_; clear n0_ n1_ n2_ n3_ n4_ n5_ n6_ n7_; (try clear hb); (try clear hb2); (try clear hk); (try clear hi)) | (go_at_call 11; (with_reducible refine (cfg_Free.calls _ _ y125 0 4 true _ ?side1 ?side2 A18.out).mono ?_); (case side1 => repeat (first | exact (Kd.R_reads' HO127.out).2.2 | (with_reducible refine Kd.C_alloc ?_ _) | (with_reducible refine Kd.C_drewN ?_ _) | (with_reducible refine Kd.C_drew ?_))); (case side2 => exact (Kd.R_reads' HO127.out).2.1); rintro e w55 ⟨rfl, hb⟩; have n0_ := Aside0.mk (Kd.R_below (rd_ HO127.out) hb); have n1_ := Aside0.mk (Kd.R_below (rd_ HO130.out) hb); have n2_ := Aside0.mk (Kd.R_below (rd_ HO133.out) hb); have n3_ := Aside0.mk (Kd.R_below (rd_ HO136.out) hb); have n4_ := Aside0.mk (Kd.R_below (rd_ HO140.out) hb); have n5_ := Aside0.mk (Kd.R_below (rd_ HO143.out) hb); have n6_ := Aside0.mk (Kd.R_below (rd_ HO147.out) hb); have n7_ := Aside0.mk (below_step (hb_ HB.out) hb); clear HO127; clear HO130; clear HO133; clear HO136; clear HO140; clear HO143; clear HO147; clear HB; have HO127 := n0_; have HO130 := n1_; have HO133 := n2_; have HO136 := n3_; have HO140 := n4_; have HO143 := n5_; have HO147 := n6_; have HB := n7_; clear n0_ n1_ n2_ n3_ n4_ n5_ n6_ n7_; (try clear hb); (try clear hb2); (try clear hk); (try clear hi)) | (go_at_call 11; (with_reducible refine (cfg_Free.calls _ _ y125 1 4 true _ ?side1 ?side2 A20.out).mono ?_); (case side1 => repeat (first | exact (Kd.R_reads' HO127.out).2.2 | (with_reducible refine Kd.C_alloc ?_ _) | (with_reducible refine Kd.C_drewN ?_ _) | (with_reducible refine Kd.C_drew ?_))); (case side2 => exact (Kd.R_reads' HO127.out).2.1); rintro e w56 ⟨rfl, hb⟩; have n0_ := Aside0.mk (Kd.R_below (rd_ HO127.out) hb); have n1_ := Aside0.mk (Kd.R_below (rd_ HO130.out) hb); have n2_ := Aside0.mk (Kd.R_below (rd_ HO133.out) hb); have n3_ := Aside0.mk (Kd.R_below (rd_ HO136.out) hb); have n4_ := Aside0.mk (Kd.R_below (rd_ HO140.out) hb); have n5_ := Aside0.mk (Kd.R_below (rd_ HO143.out) hb); have n6_ := Aside0.mk (Kd.R_below (rd_ HO147.out) hb); have n7_ := Aside0.mk (below_step (hb_ HB.out) hb); clear HO127; clear HO130; clear HO133; clear HO136; clear HO140; clear HO143; clear HO147; clear HB; have HO127 := n0_; have HO130 := n1_; have HO133 := n2_; have HO136 := n3_; have HO140 := n4_; have HO143 := n5_; have HO147 := n6_; have HB := n7_; clear n0_ n1_ n2_ n3_ n4_ n5_ n6_ n7_; (try clear hb); (try clear hb2); (try clear hk); (try clear hi)) | (go_at_call 11; (with_reducible refine (cfg_Free.calls _ _ y125 0 1 true _ ?side1 ?side2 A22.out).mono ?_); (case side1 => repeat (first | exact (Kd.R_reads' HO127.out).2.2 | (with_reducible refine Kd.C_alloc ?_ _) | (with_reducible refine Kd.C_drewN ?_ _) | (with_reducible refine Kd.C_drew ?_))); (case side2 => exact (Kd.R_reads' HO127.out).2.1); rintro e w57 ⟨rfl, hb⟩; have n0_ := Aside0.mk (Kd.R_below (rd_ HO127.out) hb); have n1_ := Aside0.mk (Kd.R_below (rd_ HO130.out) hb); have n2_ := Aside0.mk (Kd.R_below (rd_ HO133.out) hb); have n3_ := Aside0.mk (Kd.R_below (rd_ HO136.out) hb); have n4_ := Aside0.mk (Kd.R_below (rd_ HO140.out) hb); have n5_ := Aside0.mk (Kd.R_below (rd_ HO143.out) hb); have n6_ := Aside0.mk (Kd.R_below (rd_ HO147.out) hb); have n7_ := Aside0.mk (below_step (hb_ HB.out) hb); clear HO127; clear HO130; clear HO133; clear HO136; clear HO140; clear HO143; clear HO147; clear HB; have HO127 := n0_; have HO130 := n1_; have HO133 := n2_; have HO136 := n3_; have HO140 := n4_; have HO143 := n5_; have HO147 := n6_; have HB := n7_; clear n0_ n1_ n2_ n3_ n4_ n5_ n6_ n7_; (try clear hb); (try clear hb2); (try clear hk); (try clear hi); obtain ⟨Ao58, co58, eo58⟩ := Kd.R_slice HO130.out; subst eo58; have p155 : 0 ≤ (0 : Int) := (by omega); have q155 : 0 < (t128.length : Int) := of_decide_eq_true as_; obtain ⟨ad155, e155, hx155_0⟩ := Kd.at_bool (Kd.R_reads' HO130.out).2.2 0 p155 q155; (try rw [← Nbq26.out] at hx155_0); (try rw [← Nbq29.out] at hx155_0); (try rw [← Nbq32.out] at hx155_0); cases e155; have qi155 : (0 < t128.length) = True := eq_true (by omega); (try rw [show ((0 : Int)).toNat = 0 from rfl] at hx155_0); (try rw [Addr.add_zero'] at hx155_0); replace p155 := eq_true p155; replace q155 := eq_true q155; have p156 : 0 ≤ (5 : Int) := (by omega); have q156 : 5 < (t128.length : Int) := of_decide_eq_true as_; obtain ⟨ad156, e156, hx156_0⟩ := Kd.at_bool (Kd.R_reads' HO130.out).2.2 5 p156 q156; (try rw [← Nbq26.out] at hx156_0); (try rw [← Nbq29.out] at hx156_0); (try rw [← Nbq32.out] at hx156_0); obtain rfl : ad155 = ad156 := (by injection e156); (try simp only [show (5 : Int).toNat = 5 from rfl, Nat.reduceMul, Nat.reduceEqDiff, Go.Addr.add, ↓reduceIte] at hx156_0); have qi156 : (5 < t128.length) = True := eq_true (by omega); (try rw [show ((5 : Int)).toNat = 5 from rfl] at hx156_0); replace p156 := eq_true p156; replace q156 := eq_true q156; have p157 : 0 ≤ (3 : Int) := (by omega); have q157 : 3 < (t128.length : Int) := of_decide_eq_true as_; obtain ⟨ad157, e157, hx157_0⟩ := Kd.at_bool (Kd.R_reads' HO130.out).2.2 3 p157 q157; (try rw [← Nbq26.out] at hx157_0); (try rw [← Nbq29.out] at hx157_0); (try rw [← Nbq32.out] at hx157_0); obtain rfl : ad155 = ad157 := (by injection e157); (try simp only [show (3 : Int).toNat = 3 from rfl, Nat.reduceMul, Nat.reduceEqDiff, Go.Addr.add, ↓reduceIte] at hx157_0); have qi157 : (3 < t128.length) = True := eq_true (by omega); (try rw [show ((3 : Int)).toNat = 3 from rfl] at hx157_0); replace p157 := eq_true p157; replace q157 := eq_true q157) | (go_at_call 7; (refine (cfg_Met.calls k _ _ ([] : List (S42)) t158 _ ?side1 ?side2 A34.out).mono ?_); (case side1 => exact Kd.C_nil _ _); (case side2 => exact Nat.le_refl _); rintro e w59 ⟨v159, rfl, ho0, hb⟩; have n0_ := Aside0.mk (Kd.R_below (rd_ HO127.out) hb); have n1_ := Aside0.mk (Kd.R_elder' (rd_ HO130.out) (Kd.R_base ho0) hb); have n2_ := Aside0.mk (Kd.R_below (rd_ HO133.out) hb); have n3_ := Aside0.mk (Kd.R_below (rd_ HO136.out) hb); have n4_ := Aside0.mk (Kd.R_below (rd_ HO140.out) hb); have n5_ := Aside0.mk (Kd.R_below (rd_ HO143.out) hb); have n6_ := Aside0.mk (Kd.R_below (rd_ HO147.out) hb); have n7_ := Aside0.mk (Kd.R_lower (Kd.R_new' ho0 (Kd.R_lt (rd_ HO130.out))) (below_size (hb_ HB.out))); have n8_ := Aside0.mk (below_step (hb_ HB.out) hb); clear HO127; clear HO130; clear HO133; clear HO136; clear HO140; clear HO143; clear HO147; clear HB; have HO127 := n0_; have HO130 := n1_; have HO133 := n2_; have HO136 := n3_; have HO140 := n4_; have HO143 := n5_; have HO147 := n6_; have HO160 := n7_; have HB := n8_; clear n0_ n1_ n2_ n3_ n4_ n5_ n6_ n7_ n8_; (try clear hb); (try clear hb2); (try clear hk); (try clear hi); (try clear ho0); obtain ⟨Ao60, co60, eo60⟩ := Kd.R_slice HO160.out; subst eo60))
 go_ret
 exact ⟨by first | rfl | (simp [errW_none, errW_some] <;> rfl) | (simp [*, errW_none, errW_some] <;> rfl), hb_ HB.out⟩
def fencepostlaw18_head.f (k : Nat) : Option (Bool) := if fencepostlaw18_head.g k = some true then some true else none
theorem fencepostlaw18_head.mono : ∀ k, LeO (fencepostlaw18_head.f k) (fencepostlaw18_head.f (k + 1)) := by
 intro k r h
 unfold fencepostlaw18_head.f at h ⊢
 by_cases c : fencepostlaw18_head.g k = some true
 rotate_left
 ·rw [if_neg c] at h; exact absurd h (by simp)
 rw [if_pos c] at h; rw [if_pos (fencepostlaw18_head.monoT k true c)]; exact h
theorem fencepostlaw18_head.calls (k : Nat) (r : Bool) (w : World) (h : fencepostlaw18_head.f k = some r) :
 Calls Try.prog 4 #[] w fun e w' => e = .returned (.bool r) ∧ Below w.heap.size w w' := by
 unfold fencepostlaw18_head.f at h
 by_cases c : fencepostlaw18_head.g k = some true
 rotate_left
 ·rw [if_neg c] at h; exact absurd h (by simp)
 rw [if_pos c] at h; obtain rfl := Option.some.inj h; exact fencepostlaw18_head.callsT k true w rfl c
end Go.Proofs.Yteobpfgncohloaa.Print
