/- cfg.Met: printed -/
import Derived.Test.YtphklaajolpieaaPrint0
import Derived.Test.YtphklaajolpieaaHSq
import Derived.Test.YtphklaajolpieaaHCfg
namespace Go.Proofs.Ytphklaajolpieaa.Print
open Go.RowKit Go.Proofs.YtphklaajolpieaaW.PrintWords Go.Proofs.YtphklaajolpieaaW.PrintLast Go.Proofs.YtphklaajolpieaaW.PrintMore
attribute [local go_sem] max2_int min2_int max_two min_two max_three min_three max_four min_four   -- for this text's walks alone
set_option linter.unusedVariables false
set_option linter.unusedSimpArgs false
def cfg_Met.l0 : Nat → List (S36) → List Bool → Int → Int → Option (List Bool)
 | 0, _, _, _, _ => none
 | k + 1, x0, x3, x12, x13 => if x13 < x12 then (if 0 ≤ x13 then (if x13 < (x3.length : Int) then (if rdOf false x3 x13 = true then (cfg_Met.l0 k x0 (x3.set (x13 : Int).toNat true) x12 (wrap64 (x13 + 1))) else ((cfg_Reach.f x0 0 x13).bind fun t109 => (cfg_Met.l0 k x0 (x3.set (x13 : Int).toNat t109) x12 (wrap64 (x13 + 1))))) else (none)) else (none)) else (some x3)
def cfg_Met.f (k : Nat) (l0 : List (S36)) : Option (List Bool) := if 0 ≤ (wrap64 ((l0.length : Int) + 1)) then (if (wrap64 ((l0.length : Int) + 1) : Int).toNat ≤ 281474976710656 then ((some (List.replicate (wrap64 ((l0.length : Int) + 1) : Int).toNat false : List Bool)).bind fun y103 => (if 0 < (y103.length : Int) then (cfg_Met.l0 k l0 (y103.set (0 : Int).toNat true) (y103.length : Int) 0) else (none))) else (none)) else (none)
set_option maxHeartbeats 8000000 in
set_option maxRecDepth 100000 in
theorem cfg_Met.calls (k : Nat) (A0 : Option Addr) (c0 : Nat) (l0 : List (S36)) (r : List Bool) (w : World) (hr0 : Kd.C k36 w A0 l0.length l0) (hc0 : l0.length ≤ c0) (h : cfg_Met.f k l0 = some r) :
 Calls Try.prog 32 #[.slice A0 l0.length c0] w fun e w' => ∃ v0_ : Value, e = .returned (v0_) ∧ Kd.R Kd.bool 4 w' w.heap.size (fun _ => True) v0_ r ∧ Below w.heap.size w w' := by
 have HR0 := Aside0.mk hr0
 have HC0 := Aside0.mk hc0
 clear hr0 hc0
 have HB := Aside0.mk (Below.refl w.heap.size w)
 have H : (if 0 ≤ (wrap64 ((l0.length : Int) + 1)) then (if (wrap64 ((l0.length : Int) + 1) : Int).toNat ≤ 281474976710656 then ((some (List.replicate (wrap64 ((l0.length : Int) + 1) : Int).toNat false : List Bool)).bind fun y103 => (if 0 < (y103.length : Int) then (cfg_Met.l0 k l0 (y103.set (0 : Int).toNat true) (y103.length : Int) 0) else (none))) else (none)) else (none)) = some r := h
 clear h
 obtain ⟨ji2, hji2⟩ : ∃ j_ : Int, (wrap64 ((l0.length : Int) + 1)) = j_ := ⟨_, rfl⟩
 replace H : (if 0 ≤ (ji2) then (if (ji2 : Int).toNat ≤ 281474976710656 then ((some (List.replicate (ji2 : Int).toNat false : List Bool)).bind fun y103 => (if 0 < (y103.length : Int) then (cfg_Met.l0 k l0 (y103.set (0 : Int).toNat true) (y103.length : Int) 0) else (none))) else (none)) else (none)) = some r := by first | (rw [hji2] at H; exact H) | (simp only [hji2] at H ⊢; exact H)
 have hji2w : (IntKind.i64.wrap ((l0.length : Int) + 1)) = ji2 := (i64_w _).trans hji2
 by_cases c3 : 0 ≤ (ji2)
 rotate_left
 ·rw [if_neg c3] at H
  exact absurd H (by simp)
 rw [if_pos c3] at H
 have c3b0 := eq_true c3
 have c3b1 : decide (0 ≤ (ji2)) = true := decide_eq_true c3
 clear c3
 by_cases c4 : (ji2 : Int).toNat ≤ 281474976710656
 rotate_left
 ·rw [if_neg c4] at H
  exact absurd H (by simp)
 rw [if_pos c4] at H
 have c4b0 := eq_true c4
 have c4b1 : decide ((ji2 : Int).toNat ≤ 281474976710656) = true := decide_eq_true c4
 clear c4
 obtain ⟨y103, hy103⟩ : ∃ y_ : List Bool, y_ = (List.replicate (ji2 : Int).toNat false) := ⟨_, rfl⟩
 replace H : (if 0 < (y103.length : Int) then (cfg_Met.l0 k l0 (y103.set (0 : Int).toNat true) (y103.length : Int) 0) else (none)) = some r := by first | (rw [hy103]; with_reducible exact H) | (have H2_ := (Option.bind_some _ _).symm.trans H; rw [hy103]; with_reducible exact H2_) | (have H2_ := (Option.bind_some _ _).symm.trans H; with_reducible exact H2_) | with_reducible exact H | (rw [hy103]; exact H) | exact H
 have Ny103 := Aside0.mk hy103
 clear hy103
 by_cases c5 : 0 < (y103.length : Int)
 rotate_left
 ·rw [if_neg c5] at H
  exact absurd H (by simp)
 rw [if_pos c5] at H
 have c5b0 : decide (0 < (y103.length : Int)) = true := decide_eq_true c5
 have c5b1 : decide (0 < y103.length) = true := decide_eq_true (by omega)
 clear c5
 obtain ⟨y106, hy106⟩ : ∃ y_ : List Bool, y_ = (y103.set (0 : Int).toNat true) := ⟨_, rfl⟩
 replace H : (cfg_Met.l0 k l0 y106 (y103.length : Int) 0) = some r := by first | (rw [hy106]; with_reducible exact H) | (have H2_ := (Option.bind_some _ _).symm.trans H; rw [hy106]; with_reducible exact H2_) | (have H2_ := (Option.bind_some _ _).symm.trans H; with_reducible exact H2_) | with_reducible exact H | (rw [hy106]; exact H) | exact H
 have Ny106 := Aside0.mk hy106
 clear hy106
 have H' := Aside0.mk H
 clear H
 go_enter Try.func32, Try.ntmps32
 go_wp2_with (first | ((with_reducible refine gate_dst (N := 8) rfl ?_); refine Kd.R_make Kd.bool _ 4 rfl (N := 8) rfl 73 _ _ rfl ji2 rfl rfl Try.underlying73 (.bool false) 1 info4 rfl (by decide) (by omega) false (ok := fun _ => True) (okp := fun _ => True) rfl (fun _ hk => hk) trivial (of_decide_eq_true as_) (Nat.le_trans (Nat.mul_le_mul_right _ (of_decide_eq_true as_ : ji2.toNat ≤ 281474976710656)) (by omega)) (Below.refl _ _) (Nat.le_refl _) ?_; intro v104 w7 ho8 hb hg_ hnew_; clear hg_ hnew_; (first | rw [← Ny103.out] at ho8 | (simp only [Int.reduceToNat] at ho8; rw [← Ny103.out] at ho8)); have n0_ := Aside0.mk (Kd.R_lower ho8 (below_size (hb_ HB.out))); have n1_ := Aside0.mk (below_step (hb_ HB.out) hb); clear HB; have HO105 := n0_; have HB := n1_; clear n0_ n1_; clear hb ho8; have p6 : 0 ≤ (0 : Int) := (by omega); have q6 : (0 : Int) < ((y103.length : Int) : Int) := of_decide_eq_true as_; have qi6 : (0 < y103.length) = True := eq_true (by omega); obtain ⟨go6, co6, eo6, gb6, gl6, cl6, HG6⟩ := Kd.R_form HO105.out (by omega); (first | cases eo6 | (injection eo6 with ea_ en_ ec_; (first | subst ea_ | (injection ea_ with ea_; subst ea_)); subst ec_; clear en_)); have GB6 := Aside0.mk gb6; have GG6 := Aside0.mk HG6; clear gb6 gl6 HG6; obtain ⟨hx6_0, hf6_0⟩ := Kd.R_celln false HO105.out (0 : Int) p6 q6; (try rw [show ((0 : Int)).toNat = 0 from rfl] at hx6_0); (try simp only [Nat.reduceMul, Nat.zero_mul, Nat.zero_add, Nat.reduceAdd] at hx6_0); (try rw [show ((0 : Int)).toNat = 0 from rfl] at hf6_0); (try simp only [Nat.reduceMul, Nat.zero_mul, Nat.zero_add, Nat.reduceAdd] at hf6_0); replace p6 := eq_true p6; replace q6 := eq_true q6; obtain ⟨hy9_, hz9_⟩ := Kd.R_celln false HO105.out (0 : Int) (by omega) (of_decide_eq_true as_); (try simp only [Int.reduceToNat, Int.toNat_zero, Int.toNat_ofNat, Nat.reduceMul, Nat.zero_mul, Nat.zero_add] at hy9_ hz9_); (try rw [show ((0 : Int)).toNat = 0 from rfl] at hy9_); (try rw [show ((0 : Int)).toNat = 0 from rfl] at hz9_); have HP9 := Kd.R_putg HO105.out (0 : Int) true) | ((with_reducible refine gate_store (t := 4) (p := 10) rfl ?_); refine store_event (t := 4) (p := 10) (v := ?vo_w10) (w1 := (w7.setCell ⟨go6, (0 : Int).toNat, none⟩ (.bool true))) ?hg ?ho ?hn ?hr ?_; (case ho => rfl); (case hg => rfl); (case hn => rfl); (case hr => first | (go_simp; done) | (go_simp; rfl)); intro w10 hw; have hg : w7.grownBy w10 (some go6) := (by rw [hw]; exact HP9.2); have hp_ : Kd.R Kd.bool 4 w10 w.heap.size (fun _ => True) (.slice (some ⟨go6, 0, none⟩) y103.length co6) y106 := (by rw [hw, Ny106.out]; exact HP9.1); clear HP9; have n0_ := Aside0.mk (hp_); have n1_ := Aside0.mk ((by rw [hw]; exact below_set (HB.out) GB6.out : Below w.heap.size w w10)); clear HO105; clear HB; have HO105 := n0_; have HB := n1_; clear n0_ n1_; clear hg hw hp_))
 go_loopg [13] k (fun kq v13 w' => ∃ (x3_1 : List Bool) (x13_1 : Int), v13 = .int .i64 x13_1 ∧ Aside0 (cfg_Met.l0 kq l0 x3_1 (y103.length : Int) x13_1 = some r) ∧ Aside0 (kq ≤ k) ∧ Aside0 (Kd.R Kd.bool 4 w' w.heap.size (fun _ => True) (.slice (some ⟨go6, 0, none⟩) y103.length co6) x3_1) ∧ Aside0 (Below w.heap.size w w'))
 case atStart => exact ⟨(y106), (0), rf_, H', ⟨Nat.le_refl _⟩, ⟨rd_ HO105.out⟩, ⟨hb_ HB.out⟩⟩
 clear H'
 try clear c3
 try clear c3b0
 try clear c3b1
 try clear c4
 try clear c4b0
 try clear c4b1
 try clear c5
 try clear c5b0
 try clear c5b1
 try clear p6
 try clear q6
 try clear qi6
 try clear hx6_0
 try clear p6
 try clear q6
 obtain ⟨x3_1, x13_1, rfl, HA, HK1, HO_3, HB⟩ := hrel
 have hl3_1 := (Kd.R_reads' HO_3.out).1
 rw [hl3_1] at HO_3
 (try simp only [hl3_1])
 cases gk with
 | zero => exact absurd HA.out (by simp [cfg_Met.l0])
 | succ k1 => ?_
 have H := HA.out
 clear HA
 simp only [cfg_Met.l0] at H
 by_cases c11 : x13_1 < (y103.length : Int)
 rotate_left
 ·rw [if_neg c11] at H
  have c11b0 : decide (x13_1 < (y103.length : Int)) = false := decide_eq_false c11
  (try simp only [hl3_1] at c11b0)
  clear c11
  obtain rfl := Option.some.inj H
  go_wp2
  go_ret
  exact ⟨_, by first | rfl | (simp [errW_none, errW_some] <;> rfl) | (simp only [← hji2]; first | rfl | (simp [errW_none, errW_some] <;> rfl)) | (simp [*, errW_none, errW_some] <;> rfl), rd_ HO_3.out, hb_ HB.out⟩
 rw [if_pos c11] at H
 have c11b0 : decide (x13_1 < (y103.length : Int)) = true := decide_eq_true c11
 (try simp only [hl3_1] at c11b0)
 clear c11
 by_cases c12 : 0 ≤ x13_1
 rotate_left
 ·rw [if_neg c12] at H
  exact absurd H (by simp)
 rw [if_pos c12] at H
 have c12b0 : decide (0 ≤ x13_1) = true := decide_eq_true c12
 (try simp only [hl3_1] at c12b0)
 clear c12
 by_cases c13 : x13_1 < (x3_1.length : Int)
 rotate_left
 ·rw [if_neg c13] at H
  exact absurd H (by simp)
 rw [if_pos c13] at H
 have c13b0 : decide (x13_1 < (x3_1.length : Int)) = true := decide_eq_true c13
 (try simp only [hl3_1] at c13b0)
 clear c13
 obtain ⟨bq14, hbq14⟩ : ∃ b_ : Bool, b_ = (rdOf false x3_1 x13_1) := ⟨_, rfl⟩
 replace H : (if bq14 = true then (cfg_Met.l0 k1 l0 (x3_1.set (x13_1 : Int).toNat true) (y103.length : Int) (wrap64 (x13_1 + 1))) else ((cfg_Reach.f l0 0 x13_1).bind fun t109 => (cfg_Met.l0 k1 l0 (x3_1.set (x13_1 : Int).toNat t109) (y103.length : Int) (wrap64 (x13_1 + 1))))) = some r := by rw [← hbq14] at H; exact H
 have Nbq14 := Aside0.mk hbq14
 clear hbq14
 by_cases c15 : bq14 = true
 ·subst c15
  have H1 : (cfg_Met.l0 k1 l0 (x3_1.set (x13_1 : Int).toNat true) (y103.length : Int) (wrap64 (x13_1 + 1))) = some r := by rw [if_pos rfl] at H; exact H
  clear H
  have H := H1
  clear H1
  obtain ⟨y108, hy108⟩ : ∃ y_ : List Bool, y_ = (x3_1.set (x13_1 : Int).toNat true) := ⟨_, rfl⟩
  replace H : (cfg_Met.l0 k1 l0 y108 (y103.length : Int) (wrap64 (x13_1 + 1))) = some r := by first | (rw [hy108]; with_reducible exact H) | (have H2_ := (Option.bind_some _ _).symm.trans H; rw [hy108]; with_reducible exact H2_) | (have H2_ := (Option.bind_some _ _).symm.trans H; with_reducible exact H2_) | with_reducible exact H | (rw [hy108]; exact H) | exact H
  have Ny108 := Aside0.mk hy108
  clear hy108
  have H' := Aside0.mk H
  clear H
  have p107 : 0 ≤ (x13_1 : Int) := of_decide_eq_true as_
  have q107 : x13_1 < (x3_1.length : Int) := of_decide_eq_true as_
  obtain ⟨ad107, e107, hx107_0⟩ := Kd.at_bool (Kd.R_reads' HO_3.out).2.2 x13_1 p107 q107
  (try rw [← Nbq14.out] at hx107_0)
  obtain rfl : (⟨go6, 0, none⟩ : Addr) = ad107 := (by injection e107)
  (first | simp only [add_plain] at hx107_0 | simp only [add_at] at hx107_0 | simp only [Addr.add, Nat.zero_add] at hx107_0 | skip)
  replace p107 := eq_true p107
  replace q107 := eq_true q107
  have p16 : 0 ≤ (x13_1 : Int) := of_decide_eq_true as_
  have q16 : (x13_1 : Int) < ((x3_1.length : Int) : Int) := of_decide_eq_true as_
  obtain ⟨hx16_0, hf16_0⟩ := Kd.R_celln false HO_3.out (x13_1 : Int) p16 q16
  replace p16 := eq_true p16
  replace q16 := eq_true q16
  have HP17 := Kd.R_putg HO_3.out (x13_1 : Int) true
  go_wp2_with (first | ((with_reducible refine gate_store (t := 4) (p := 27) rfl ?_); refine store_event (t := 4) (p := 27) (v := ?vo_w18) (w1 := (wr.setCell ⟨go6, (x13_1 : Int).toNat, none⟩ (.bool true))) ?hg ?ho ?hn ?hr ?_; (case ho => rfl); (case hg => rfl); (case hn => rfl); (case hr => first | (go_simp; done) | (go_simp; rfl)); intro w18 hw; have hg : wr.grownBy w18 (some go6) := (by rw [hw]; exact HP17.2); have hp_ : Kd.R Kd.bool 4 w18 w.heap.size (fun _ => True) (.slice (some ⟨go6, 0, none⟩) x3_1.length co6) y108 := (by rw [hw, Ny108.out]; exact HP17.1); clear HP17; have n0_ := Aside0.mk (hp_); have n1_ := Aside0.mk ((by rw [hw]; exact below_set (HB.out) GB6.out : Below w.heap.size w w18)); clear HO_3; clear HB; have HO_3 := n0_; have HB := n1_; clear n0_ n1_; clear hg hw hp_))
  (try simp only [← hl3_1])
  go_roundg k1
  case measure => have := HK1.out; omega
  case rel => exact ⟨(y108), (wrap64 (x13_1 + 1)), rf_, H', ⟨by have := HK1.out; omega⟩, ⟨by (try simp only [hl3_1]); (with_reducible repeat (first | apply Kd.R_alloc | apply Kd.R_drewN | apply Kd.R_drew)); exact HO_3.out⟩, ⟨hb_ HB.out⟩⟩
 replace c15 := Bool.eq_false_iff.mpr c15
 subst c15
 have H1 : ((cfg_Reach.f l0 0 x13_1).bind fun t109 => (cfg_Met.l0 k1 l0 (x3_1.set (x13_1 : Int).toNat t109) (y103.length : Int) (wrap64 (x13_1 + 1)))) = some r := by rw [if_neg (show ¬ (false = true) by decide)] at H; exact H
 clear H
 have H := H1
 clear H1
 replace H := Option.bind_eq_some_iff.mp H
 obtain ⟨t109, A190, H⟩ := H
 replace H : (cfg_Met.l0 k1 l0 (x3_1.set (x13_1 : Int).toNat t109) (y103.length : Int) (wrap64 (x13_1 + 1))) = some r := H
 have A19 := Aside0.mk A190
 clear A190
 obtain ⟨y110, hy110⟩ : ∃ y_ : List Bool, y_ = (x3_1.set (x13_1 : Int).toNat t109) := ⟨_, rfl⟩
 replace H : (cfg_Met.l0 k1 l0 y110 (y103.length : Int) (wrap64 (x13_1 + 1))) = some r := by first | (rw [hy110]; with_reducible exact H) | (have H2_ := (Option.bind_some _ _).symm.trans H; rw [hy110]; with_reducible exact H2_) | (have H2_ := (Option.bind_some _ _).symm.trans H; with_reducible exact H2_) | with_reducible exact H | (rw [hy110]; exact H) | exact H
 have Ny110 := Aside0.mk hy110
 clear hy110
 have H' := Aside0.mk H
 clear H
 have p107 : 0 ≤ (x13_1 : Int) := of_decide_eq_true as_
 have q107 : x13_1 < (x3_1.length : Int) := of_decide_eq_true as_
 obtain ⟨ad107, e107, hx107_0⟩ := Kd.at_bool (Kd.R_reads' HO_3.out).2.2 x13_1 p107 q107
 (try rw [← Nbq14.out] at hx107_0)
 obtain rfl : (⟨go6, 0, none⟩ : Addr) = ad107 := (by injection e107)
 (first | simp only [add_plain] at hx107_0 | simp only [add_at] at hx107_0 | simp only [Addr.add, Nat.zero_add] at hx107_0 | skip)
 replace p107 := eq_true p107
 replace q107 := eq_true q107
 go_wp2_with (first | (go_at_call 36; (with_reducible refine (cfg_Reach.calls _ _ l0 0 x13_1 t109 _ ?side1 ?side2 A19.out).mono ?_); (case side1 => exact cd_ (Kd.C_below HR0.out HB.out)); (case side2 => exact HC0.out); rintro e w21 ⟨rfl, hb⟩; have n0_ := Aside0.mk (Kd.R_below (rd_ HO_3.out) hb); have n1_ := Aside0.mk (below_step (hb_ HB.out) hb); clear HO_3; clear HB; have HO_3 := n0_; have HB := n1_; clear n0_ n1_; (try clear hb); (try clear hb2); (try clear hk); (try clear hi); have p20 : 0 ≤ (x13_1 : Int) := of_decide_eq_true as_; have q20 : (x13_1 : Int) < ((x3_1.length : Int) : Int) := of_decide_eq_true as_; obtain ⟨hx20_0, hf20_0⟩ := Kd.R_celln false HO_3.out (x13_1 : Int) p20 q20; replace p20 := eq_true p20; replace q20 := eq_true q20; obtain ⟨hy22_, hz22_⟩ := Kd.R_celln false HO_3.out (x13_1 : Int) (of_decide_eq_true as_) (of_decide_eq_true as_); have HP22 := Kd.R_putg HO_3.out (x13_1 : Int) t109) | ((with_reducible refine gate_store (t := 4) (p := 27) rfl ?_); refine store_event (t := 4) (p := 27) (v := ?vo_w23) (w1 := (w21.setCell ⟨go6, (x13_1 : Int).toNat, none⟩ (.bool t109))) ?hg ?ho ?hn ?hr ?_; (case ho => rfl); (case hg => rfl); (case hn => rfl); (case hr => first | (go_simp; done) | (go_simp; rfl)); intro w23 hw; have hg : w21.grownBy w23 (some go6) := (by rw [hw]; exact HP22.2); have hp_ : Kd.R Kd.bool 4 w23 w.heap.size (fun _ => True) (.slice (some ⟨go6, 0, none⟩) x3_1.length co6) y110 := (by rw [hw, Ny110.out]; exact HP22.1); clear HP22; have n0_ := Aside0.mk (hp_); have n1_ := Aside0.mk ((by rw [hw]; exact below_set (HB.out) GB6.out : Below w.heap.size w w23)); clear HO_3; clear HB; have HO_3 := n0_; have HB := n1_; clear n0_ n1_; clear hg hw hp_))
 (try simp only [← hl3_1])
 go_roundg k1
 case measure => have := HK1.out; omega
 case rel => exact ⟨(y110), (wrap64 (x13_1 + 1)), rf_, H', ⟨by have := HK1.out; omega⟩, ⟨by (try simp only [hl3_1]); (with_reducible repeat (first | apply Kd.R_alloc | apply Kd.R_drewN | apply Kd.R_drew)); exact HO_3.out⟩, ⟨hb_ HB.out⟩⟩
end Go.Proofs.Ytphklaajolpieaa.Print
