-- Written by ownprint.py (this session's) with the kit's print.py: functions, contracts, rows; Lean checks it.
import Derived.Test.YteobpfgncohloaaPrint0
import Derived.Test.YteobpfgncohloaaHSq
namespace Go.Proofs.Yteobpfgncohloaa.Print
open Go.RowKit Go.Proofs.YteobpfgncohloaaW.PrintWords Go.Proofs.YteobpfgncohloaaW.PrintLast Go.Proofs.YteobpfgncohloaaW.PrintMore
attribute [local go_sem] max2_int min2_int max_two min_two max_three min_three max_four min_four   -- for this text's walks alone
set_option linter.unusedVariables false
set_option linter.unusedSimpArgs false
def fencepostref09_Push.f (l0 : List (S69)) (a1_0 : Int) (a1_1 : Int) : Option ((List (S69))) := (some (([] : List (S69)) : List (S69))).bind fun y272 => (if y272.length + l0.length < 8796093022208 then ((some (y272 ++ l0 : List (S69))).bind fun y275 => ((some (([(⟨a1_0, a1_1⟩ : S69)] : List (S69)) : List (S69))).bind fun y278 => (if y275.length + y278.length < 8796093022208 then (some (y275 ++ y278)) else (none)))) else (none))
set_option maxHeartbeats 8000000 in
set_option maxRecDepth 100000 in
theorem fencepostref09_Push.calls (A0 : Option Addr) (c0 : Nat) (l0 : List (S69)) (a1_0 : Int) (a1_1 : Int) (r : List (S69)) (w : World) (hr0 : Kd.C k69 w A0 l0.length l0) (hc0 : l0.length ≤ c0) (h : fencepostref09_Push.f l0 a1_0 a1_1 = some r) :
 Calls Try.prog 29 #[.slice A0 l0.length c0, .agg #[.int .i64 a1_0, .int .i64 a1_1]] w fun e w' => ∃ v0_ : Value, e = .returned (v0_) ∧ Kd.R k69 69 w' w.heap.size (fun _ => True) v0_ r ∧ Below w.heap.size w w' := by
 have hu69 := Try.underlying69
 have HR0 := Aside0.mk hr0
 have HC0 := Aside0.mk hc0
 clear hr0 hc0
 have HB := Aside0.mk (Below.refl w.heap.size w)
 have H : ((some (([] : List (S69)) : List (S69))).bind fun y272 => (if y272.length + l0.length < 8796093022208 then ((some (y272 ++ l0 : List (S69))).bind fun y275 => ((some (([(⟨a1_0, a1_1⟩ : S69)] : List (S69)) : List (S69))).bind fun y278 => (if y275.length + y278.length < 8796093022208 then (some (y275 ++ y278)) else (none)))) else (none))) = some r := h
 clear h
 obtain ⟨y272, hy272⟩ : ∃ y_ : List (S69), y_ = (([] : List (S69))) := ⟨_, rfl⟩
 replace H : (if y272.length + l0.length < 8796093022208 then ((some (y272 ++ l0 : List (S69))).bind fun y275 => ((some (([(⟨a1_0, a1_1⟩ : S69)] : List (S69)) : List (S69))).bind fun y278 => (if y275.length + y278.length < 8796093022208 then (some (y275 ++ y278)) else (none)))) else (none)) = some r := by first | (rw [hy272]; with_reducible exact H) | (have H2_ := (Option.bind_some _ _).symm.trans H; rw [hy272]; with_reducible exact H2_) | (have H2_ := (Option.bind_some _ _).symm.trans H; with_reducible exact H2_) | with_reducible exact H | (rw [hy272]; exact H) | exact H
 have Ny272 := Aside0.mk hy272
 clear hy272
 by_cases c3 : y272.length + l0.length < 8796093022208
 rotate_left
 ·rw [if_neg c3] at H
  exact absurd H (by simp)
 rw [if_pos c3] at H
 have LMc3 := Aside0.mk c3
 clear c3
 obtain ⟨y275, hy275⟩ : ∃ y_ : List (S69), y_ = (y272 ++ l0) := ⟨_, rfl⟩
 replace H : ((some (([(⟨a1_0, a1_1⟩ : S69)] : List (S69)) : List (S69))).bind fun y278 => (if y275.length + y278.length < 8796093022208 then (some (y275 ++ y278)) else (none))) = some r := by first | (rw [hy275]; with_reducible exact H) | (have H2_ := (Option.bind_some _ _).symm.trans H; rw [hy275]; with_reducible exact H2_) | (have H2_ := (Option.bind_some _ _).symm.trans H; with_reducible exact H2_) | with_reducible exact H | (rw [hy275]; exact H) | exact H
 have Ny275 := Aside0.mk hy275
 clear hy275
 obtain ⟨y278, hy278⟩ : ∃ y_ : List (S69), y_ = (([(⟨a1_0, a1_1⟩ : S69)] : List (S69))) := ⟨_, rfl⟩
 replace H : (if y275.length + y278.length < 8796093022208 then (some (y275 ++ y278)) else (none)) = some r := by first | (rw [hy278]; with_reducible exact H) | (have H2_ := (Option.bind_some _ _).symm.trans H; rw [hy278]; with_reducible exact H2_) | (have H2_ := (Option.bind_some _ _).symm.trans H; with_reducible exact H2_) | with_reducible exact H | (rw [hy278]; exact H) | exact H
 have Ny278 := Aside0.mk hy278
 clear hy278
 by_cases c4 : y275.length + y278.length < 8796093022208
 rotate_left
 ·rw [if_neg c4] at H
  exact absurd H (by simp)
 rw [if_pos c4] at H
 have LMc4 := Aside0.mk c4
 clear c4
 obtain ⟨y281, hy281⟩ : ∃ y_ : List (S69), y_ = (y275 ++ y278) := ⟨_, rfl⟩
 replace H : (some y281) = some r := by first | (rw [hy281]; with_reducible exact H) | (have H2_ := (Option.bind_some _ _).symm.trans H; rw [hy281]; with_reducible exact H2_) | (have H2_ := (Option.bind_some _ _).symm.trans H; with_reducible exact H2_) | with_reducible exact H | (rw [hy281]; exact H) | exact H
 have Ny281 := Aside0.mk hy281
 clear hy281
 obtain rfl := Option.some.inj H
 go_enter Try.func29, Try.ntmps29
 try go_wp2_with (first | ((with_reducible refine gate_dst (N := 3) rfl ?_); refine box_event ?hg (N := 3) ?hd (cs := #[.int .i64 a1_0, .int .i64 a1_1]) (t := 69) ?hr ?_; (case hd => rfl); (case hg => rfl); (case hr => first | (go_simp; done) | (go_simp; rfl)); intro gb271 hg w5 hbox hb; have n0_ := Aside0.mk (below_step (hb_ HB.out) hb); have n1_ := Aside0.mk (hbox); have n2_ := Aside0.mk (gs_ hg (hb_ HB.out)); have n3_ := Aside0.mk (gs_ hg (hb_ HB.out)); clear HB; have HB := n0_; have BK271 := n1_; have GW271 := n2_; have GE271 := n3_; clear n0_ n1_ n2_ n3_; clear hb hbox hg))
 have n0_ := Aside0.mk (blk_drew BK271.out)
 have n1_ := Aside0.mk (below_drew1 HB.out)
 clear BK271
 clear HB
 have BK271 := n0_
 have HB := n1_
 clear n0_ n1_
 refine start_ (n := 7) (S := fun w' => w'.cell? ⟨gb271, 0, none⟩ = some (.int .i64 a1_0) ∧ w'.cell? ⟨gb271, 1, none⟩ = some (.int .i64 a1_1)) (ds := []) #[false, false, false, false, false, false, false] (by kernel_rfl) rfl rfl ⟨(blk_cell BK271.out 0).trans rfl, (blk_cell BK271.out 1).trans rfl⟩ (fun hHeld => ?_)
 generalize w5.drew = w6 at BK271 HB hHeld ⊢
 refine pure_ (i := 1) (N := some 6) (v := ?_) (a' := ?_) #[false, true, false, false, false, false, false] rfl rfl (by kernel_rfl) (fun _ _ _ h => h) (Or.inl ⟨by rfl, ?_⟩) ?_ ?_; rotate_left; intro w'; go_simp; with_reducible rfl; rotate_left; simp only [Act.put, List.setIfInBounds_toArray, List.set_cons_zero, List.set_cons_succ, i64_w, i32_w]; rfl
 refine take_ (i := 3) (N := some 8) (v := ?_) (a' := ?_) #[false, true, false, true, false, false, false] rfl rfl (by kernel_rfl) (fun _ _ _ h => h) (Or.inl ⟨by rfl, ?_⟩) hHeld ?_ ?_; rotate_left; rintro w' ⟨s0, s1⟩; go_simp; with_reducible rfl; rotate_left; simp only [Act.put, List.setIfInBounds_toArray, List.set_cons_zero, List.set_cons_succ, i64_w, i32_w]; rfl
 refine join_ (σ := Value × Value × Value) 2 #[true, true, true, true, true, false, false] (fun s_ => [(5, s_.1), (7, s_.2.1), (9, s_.2.2)]) (fun s_ w' => (w'.cell? ⟨gb271, 0, none⟩ = some (.int .i64 a1_0) ∧ w'.cell? ⟨gb271, 1, none⟩ = some (.int .i64 a1_1)) ∧ (Kd.R k69 69 w' w.heap.size (fun k_ => some k_ ≠ (s_.2.2 : Value).ownBlock ∧ k_ ≠ gb271) s_.2.1 y275) ∧ (Kd.R k69 69 w' w.heap.size (fun k_ => some k_ ≠ (s_.2.1 : Value).ownBlock ∧ k_ ≠ gb271) s_.2.2 y278) ∧ (w'.heap[gb271]? = some (.cells #[.int .i64 a1_0, .int .i64 a1_1] 69 (0, 0))) ∧ (Below w.heap.size w w')) ?_ ?_
 rotate_left
 ·intro hCont
  refine two_ (i := 0) (j := 4) (Ni := some 5) (Nj := some 9) #[true, true, false, true, false, false, false] #[false, true, false, true, true, false, false] rfl rfl rfl rfl (by kernel_rfl) (by decide) (by decide) (fun K hK => ?_) (fun K hK => ?_)
  ·skip
   refine Kd.R_lit_step k69 _ 69 ?hg (N := 5) ?hd (xs := ([] : List (S69))) (inner := []) (ok := fun _ => True) (okp := fun _ => True) ?hr ?hp (fun _ hk => hk) trivial (Below.refl _ _) (Nat.le_refl _) (by simp) ?_; (case hd => rfl); (case hg => rfl); (case hr => first | (go_simp; done) | (go_simp; rfl)); (case hp => exact (Reps.none _ _))
   intro v273 w7 ho8 hb hg_ hnew_
   clear hg_ hnew_
   (first | rw [← Ny272.out] at ho8 | (simp only [Int.reduceToNat] at ho8; rw [← Ny272.out] at ho8))
   have n0_ := Aside0.mk (Kd.R_lower (Kd.R_newB ho8 (g := gb271) (o := .cells #[.int .i64 a1_0, .int .i64 a1_1] 69 (0, 0)) (bd_ BK271.out)) (below_size (hb_ HB.out)))
   have n1_ := Aside0.mk (bb_ BK271.out hb)
   have n2_ := Aside0.mk (below_step (hb_ HB.out) hb)
   clear BK271
   clear HB
   have HO274 := n0_
   have BK271 := n1_
   have HB := n2_
   clear n0_ n1_ n2_
   clear hb ho8
   refine hK.out _ _ ⟨(blk_cell BK271.out 0).trans rfl, (blk_cell BK271.out 1).trans rfl⟩ (fun hHeld => ?_)
   clear hK K
   refine norm_ (a' := ?_) ?_ ?_
   rotate_left
   ·show Act.put _ (some 5) _ = _
    simp only [Act.put, List.setIfInBounds_toArray, List.set_cons_zero, List.set_cons_succ, i64_w, i32_w]
    rfl
   refine two_ (i := 2) (j := 4) (Ni := some 7) (Nj := some 9) #[true, true, true, true, false, false, false] #[true, true, false, true, true, false, false] rfl rfl rfl rfl (by kernel_rfl) (by decide) (by decide) (fun K hK => ?_) (fun K hK => ?_)
   ·skip
    refine Kd.R_append_rows_step k69 (w0 := w) w.heap.size (by rfl) (.tmp 5) (.tmp 6) 37 69 (.agg #[(.int .i64 0), (.int .i64 0)]) 16 rfl Try.underlying37 info69 rfl (by decide) (by omega) v273 y272 l0 _ _ _ (fun k_ => k_ ≠ gb271) (fun _ => False) rfl rfl ?aO ?aR (fun _ _ h => h) (fun _ h => h.elim) ?aF ?aB ?aS ?aL ?_
    (case aR => repeat (first | exact (Kd.C_below HR0.out HB.out) | (with_reducible refine Kd.C_alloc ?_ _) | (with_reducible refine Kd.C_drewN ?_ _) | (with_reducible refine Kd.C_drew ?_)))
    (case aB => exact (hb_ HB.out))
    (case aF => exact (fun k_ hk => Kd.freshB (g := gb271) (o := .cells #[.int .i64 a1_0, .int .i64 a1_1] 69 (0, 0)) (bd_ BK271.out) k_ hk))
    (case aO => exact (by (with_reducible repeat (first | apply Kd.R_alloc | apply Kd.R_drewN | apply Kd.R_drew)); exact Kd.R_mono HO274.out (fun _ hk => hk.2)))
    (case aS => exact (below_size (hb_ HB.out)))
    (case aL => have := LMc3.out; omega)
    intro v276 w9 ho hb hg hat
    rw [← Ny275.out] at ho
    have n0_ := Aside0.mk (blk_grown (g := gb271) (o := .cells #[.int .i64 a1_0, .int .i64 a1_1] 69 (0, 0)) (bd_ BK271.out) hg (Kd.R_away HO274.out (fun _ hk => hk.2)))
    have n1_ := Aside0.mk (hb)
    have n2_ := Aside0.mk (ho)
    clear BK271
    clear HB
    clear HO274
    have BK271 := n0_
    have HB := n1_
    have HO277 := n2_
    clear n0_ n1_ n2_
    clear ho hb hg hat
    refine hK.out _ _ ⟨(blk_cell BK271.out 0).trans rfl, (blk_cell BK271.out 1).trans rfl⟩ (fun hHeld => ?_)
    clear hK K
    refine norm_ (a' := ?_) ?_ ?_
    rotate_left
    ·show Act.put _ (some 7) _ = _
     simp only [Act.put, List.setIfInBounds_toArray, List.set_cons_zero, List.set_cons_succ, i64_w, i32_w]
     rfl
    refine one_ (i := 4) (N := some 9) #[true, true, true, true, true, false, false] rfl rfl (by kernel_rfl) (by decide) (fun K hK => ?_)
    refine Kd.R_lit_step k69 _ 69 ?hg (N := 9) ?hd (xs := ([(⟨a1_0, a1_1⟩ : S69)] : List (S69))) (inner := [.int .i64 a1_0, .int .i64 a1_1]) (ok := fun _ => True) (okp := fun _ => True) ?hr ?hp (fun _ hk => hk) trivial (Below.refl _ _) (Nat.le_refl _) (by simp) ?_; (case hd => rfl); (case hg => rfl); (case hr => first | (go_simp; done) | (go_simp; rfl)); (case hp => exact (Reps.c2 (show Kd.M k69 _ _ _ (⟨a1_0, a1_1⟩ : S69) [.int .i64 a1_0, .int .i64 a1_1] from (k69_mkM _ _ _ (⟨a1_0, a1_1⟩ : S69) )) (Reps.none _ _)))
    intro v279 w10 ho11 hb hg_ hnew_
    clear hg_ hnew_
    (first | rw [← Ny278.out] at ho11 | (simp only [Int.reduceToNat] at ho11; rw [← Ny278.out] at ho11))
    have n0_ := Aside0.mk (Kd.R_elder' (rd_ HO277.out) (Kd.R_base ho11) hb)
    have n1_ := Aside0.mk (Kd.R_lower (Kd.R_newB (Kd.R_new' ho11 (Kd.R_lt (rd_ HO277.out))) (g := gb271) (o := .cells #[.int .i64 a1_0, .int .i64 a1_1] 69 (0, 0)) (bd_ BK271.out)) (below_size (hb_ HB.out)))
    have n2_ := Aside0.mk (bb_ BK271.out hb)
    have n3_ := Aside0.mk (below_step (hb_ HB.out) hb)
    clear HO277
    clear BK271
    clear HB
    have HO277 := n0_
    have HO280 := n1_
    have BK271 := n2_
    have HB := n3_
    clear n0_ n1_ n2_ n3_
    clear hb ho11
    refine hK.out _ _ ⟨(blk_cell BK271.out 0).trans rfl, (blk_cell BK271.out 1).trans rfl⟩ (fun hHeld => ?_)
    clear hK K
    refine norm_ (a' := ?_) ?_ ?_
    rotate_left
    ·show Act.put _ (some 9) _ = _
     simp only [Act.put, List.setIfInBounds_toArray, List.set_cons_zero, List.set_cons_succ, i64_w, i32_w]
     rfl
    exact norm_ (by simp only [putAll, Act.put, List.setIfInBounds_toArray, List.set_cons_zero, List.set_cons_succ]) (hCont (v273, v276, v279) _ ⟨hHeld, (by (with_reducible repeat (first | apply Kd.R_alloc | apply Kd.R_drewN | apply Kd.R_drew)); exact Kd.R_mono HO277.out (fun _ hk => ⟨hk.2, hk.1⟩)), (by (with_reducible repeat (first | apply Kd.R_alloc | apply Kd.R_drewN | apply Kd.R_drew)); exact Kd.R_mono HO280.out (fun _ hk => ⟨hk.1.2, hk.2⟩)), (bd_ BK271.out), (hb_ HB.out)⟩)
   skip
   refine Kd.R_lit_step k69 _ 69 ?hg (N := 9) ?hd (xs := ([(⟨a1_0, a1_1⟩ : S69)] : List (S69))) (inner := [.int .i64 a1_0, .int .i64 a1_1]) (ok := fun _ => True) (okp := fun _ => True) ?hr ?hp (fun _ hk => hk) trivial (Below.refl _ _) (Nat.le_refl _) (by simp) ?_; (case hd => rfl); (case hg => rfl); (case hr => first | (go_simp; done) | (go_simp; rfl)); (case hp => exact (Reps.c2 (show Kd.M k69 _ _ _ (⟨a1_0, a1_1⟩ : S69) [.int .i64 a1_0, .int .i64 a1_1] from (k69_mkM _ _ _ (⟨a1_0, a1_1⟩ : S69) )) (Reps.none _ _)))
   intro v279 w9 ho10 hb hg_ hnew_
   clear hg_ hnew_
   (first | rw [← Ny278.out] at ho10 | (simp only [Int.reduceToNat] at ho10; rw [← Ny278.out] at ho10))
   have n0_ := Aside0.mk (Kd.R_elder' (rd_ HO274.out) (Kd.R_base ho10) hb)
   have n1_ := Aside0.mk (Kd.R_lower (Kd.R_newB (Kd.R_new' ho10 (Kd.R_lt (rd_ HO274.out))) (g := gb271) (o := .cells #[.int .i64 a1_0, .int .i64 a1_1] 69 (0, 0)) (bd_ BK271.out)) (below_size (hb_ HB.out)))
   have n2_ := Aside0.mk (bb_ BK271.out hb)
   have n3_ := Aside0.mk (below_step (hb_ HB.out) hb)
   clear HO274
   clear BK271
   clear HB
   have HO274 := n0_
   have HO280 := n1_
   have BK271 := n2_
   have HB := n3_
   clear n0_ n1_ n2_ n3_
   clear hb ho10
   refine hK.out _ _ ⟨(blk_cell BK271.out 0).trans rfl, (blk_cell BK271.out 1).trans rfl⟩ (fun hHeld => ?_)
   clear hK K
   refine norm_ (a' := ?_) ?_ ?_
   rotate_left
   ·show Act.put _ (some 9) _ = _
    simp only [Act.put, List.setIfInBounds_toArray, List.set_cons_zero, List.set_cons_succ, i64_w, i32_w]
    rfl
   refine one_ (i := 2) (N := some 7) #[true, true, true, true, true, false, false] rfl rfl (by kernel_rfl) (by decide) (fun K hK => ?_)
   refine Kd.R_append_rows_step k69 (w0 := w) w.heap.size (by rfl) (.tmp 5) (.tmp 6) 37 69 (.agg #[(.int .i64 0), (.int .i64 0)]) 16 rfl Try.underlying37 info69 rfl (by decide) (by omega) v273 y272 l0 _ _ _ (fun k_ => some k_ ≠ (v279 : Value).ownBlock ∧ k_ ≠ gb271) (fun _ => False) rfl rfl ?aO ?aR (fun _ _ h => h) (fun _ h => h.elim) ?aF ?aB ?aS ?aL ?_
   (case aR => repeat (first | exact (Kd.C_below HR0.out HB.out) | (with_reducible refine Kd.C_alloc ?_ _) | (with_reducible refine Kd.C_drewN ?_ _) | (with_reducible refine Kd.C_drew ?_)))
   (case aB => exact (hb_ HB.out))
   (case aF => exact (fun k_ hk => ⟨Kd.fresh' (Kd.R_lt (rd_ HO280.out)) k_ hk, Kd.freshB (g := gb271) (o := .cells #[.int .i64 a1_0, .int .i64 a1_1] 69 (0, 0)) (bd_ BK271.out) k_ hk⟩))
   (case aO => exact (by (with_reducible repeat (first | apply Kd.R_alloc | apply Kd.R_drewN | apply Kd.R_drew)); exact Kd.R_mono HO274.out (fun _ hk => ⟨hk.2, hk.1.2⟩)))
   (case aS => exact (below_size (hb_ HB.out)))
   (case aL => have := LMc3.out; omega)
   intro v276 w11 ho hb hg hat
   rw [← Ny275.out] at ho
   have n0_ := Aside0.mk (blk_grown (g := gb271) (o := .cells #[.int .i64 a1_0, .int .i64 a1_1] 69 (0, 0)) (bd_ BK271.out) hg (Kd.R_away HO274.out (fun _ hk => hk.1.2)))
   have n1_ := Aside0.mk (Kd.R_after (ok := (fun k_ => k_ ≠ gb271)) (by (with_reducible repeat (first | apply Kd.R_alloc | apply Kd.R_drewN | apply Kd.R_drew)); exact Kd.R_mono HO280.out (fun _ hk => ⟨hk.2, hk.1.2⟩)) hg hat)
   have n2_ := Aside0.mk (hb)
   have n3_ := Aside0.mk (ho)
   clear BK271
   clear HO280
   clear HB
   clear HO274
   have BK271 := n0_
   have HO280 := n1_
   have HB := n2_
   have HO277 := n3_
   clear n0_ n1_ n2_ n3_
   clear ho hb hg hat
   refine hK.out _ _ ⟨(blk_cell BK271.out 0).trans rfl, (blk_cell BK271.out 1).trans rfl⟩ (fun hHeld => ?_)
   clear hK K
   refine norm_ (a' := ?_) ?_ ?_
   rotate_left
   ·show Act.put _ (some 7) _ = _
    simp only [Act.put, List.setIfInBounds_toArray, List.set_cons_zero, List.set_cons_succ, i64_w, i32_w]
    rfl
   exact norm_ (by simp only [putAll, Act.put, List.setIfInBounds_toArray, List.set_cons_zero, List.set_cons_succ]) (hCont (v273, v276, v279) _ ⟨hHeld, (rd_ HO277.out), (by (with_reducible repeat (first | apply Kd.R_alloc | apply Kd.R_drewN | apply Kd.R_drew)); exact Kd.R_mono HO280.out (fun _ hk => ⟨hk.2, hk.1⟩)), (bd_ BK271.out), (hb_ HB.out)⟩)
  skip
  refine Kd.R_lit_step k69 _ 69 ?hg (N := 9) ?hd (xs := ([(⟨a1_0, a1_1⟩ : S69)] : List (S69))) (inner := [.int .i64 a1_0, .int .i64 a1_1]) (ok := fun _ => True) (okp := fun _ => True) ?hr ?hp (fun _ hk => hk) trivial (Below.refl _ _) (Nat.le_refl _) (by simp) ?_; (case hd => rfl); (case hg => rfl); (case hr => first | (go_simp; done) | (go_simp; rfl)); (case hp => exact (Reps.c2 (show Kd.M k69 _ _ _ (⟨a1_0, a1_1⟩ : S69) [.int .i64 a1_0, .int .i64 a1_1] from (k69_mkM _ _ _ (⟨a1_0, a1_1⟩ : S69) )) (Reps.none _ _)))
  intro v279 w7 ho8 hb hg_ hnew_
  clear hg_ hnew_
  (first | rw [← Ny278.out] at ho8 | (simp only [Int.reduceToNat] at ho8; rw [← Ny278.out] at ho8))
  have n0_ := Aside0.mk (Kd.R_lower (Kd.R_newB ho8 (g := gb271) (o := .cells #[.int .i64 a1_0, .int .i64 a1_1] 69 (0, 0)) (bd_ BK271.out)) (below_size (hb_ HB.out)))
  have n1_ := Aside0.mk (bb_ BK271.out hb)
  have n2_ := Aside0.mk (below_step (hb_ HB.out) hb)
  clear BK271
  clear HB
  have HO280 := n0_
  have BK271 := n1_
  have HB := n2_
  clear n0_ n1_ n2_
  clear hb ho8
  refine hK.out _ _ ⟨(blk_cell BK271.out 0).trans rfl, (blk_cell BK271.out 1).trans rfl⟩ (fun hHeld => ?_)
  clear hK K
  refine norm_ (a' := ?_) ?_ ?_
  rotate_left
  ·show Act.put _ (some 9) _ = _
   simp only [Act.put, List.setIfInBounds_toArray, List.set_cons_zero, List.set_cons_succ, i64_w, i32_w]
   rfl
  refine one_ (i := 0) (N := some 5) #[true, true, false, true, true, false, false] rfl rfl (by kernel_rfl) (by decide) (fun K hK => ?_)
  refine Kd.R_lit_step k69 _ 69 ?hg (N := 5) ?hd (xs := ([] : List (S69))) (inner := []) (ok := fun _ => True) (okp := fun _ => True) ?hr ?hp (fun _ hk => hk) trivial (Below.refl _ _) (Nat.le_refl _) (by simp) ?_; (case hd => rfl); (case hg => rfl); (case hr => first | (go_simp; done) | (go_simp; rfl)); (case hp => exact (Reps.none _ _))
  intro v273 w9 ho10 hb hg_ hnew_
  clear hg_ hnew_
  (first | rw [← Ny272.out] at ho10 | (simp only [Int.reduceToNat] at ho10; rw [← Ny272.out] at ho10))
  have n0_ := Aside0.mk (Kd.R_elder' (rd_ HO280.out) (Kd.R_base ho10) hb)
  have n1_ := Aside0.mk (Kd.R_lower (Kd.R_newB (Kd.R_new' ho10 (Kd.R_lt (rd_ HO280.out))) (g := gb271) (o := .cells #[.int .i64 a1_0, .int .i64 a1_1] 69 (0, 0)) (bd_ BK271.out)) (below_size (hb_ HB.out)))
  have n2_ := Aside0.mk (bb_ BK271.out hb)
  have n3_ := Aside0.mk (below_step (hb_ HB.out) hb)
  clear HO280
  clear BK271
  clear HB
  have HO280 := n0_
  have HO274 := n1_
  have BK271 := n2_
  have HB := n3_
  clear n0_ n1_ n2_ n3_
  clear hb ho10
  refine hK.out _ _ ⟨(blk_cell BK271.out 0).trans rfl, (blk_cell BK271.out 1).trans rfl⟩ (fun hHeld => ?_)
  clear hK K
  refine norm_ (a' := ?_) ?_ ?_
  rotate_left
  ·show Act.put _ (some 5) _ = _
   simp only [Act.put, List.setIfInBounds_toArray, List.set_cons_zero, List.set_cons_succ, i64_w, i32_w]
   rfl
  refine one_ (i := 2) (N := some 7) #[true, true, true, true, true, false, false] rfl rfl (by kernel_rfl) (by decide) (fun K hK => ?_)
  refine Kd.R_append_rows_step k69 (w0 := w) w.heap.size (by rfl) (.tmp 5) (.tmp 6) 37 69 (.agg #[(.int .i64 0), (.int .i64 0)]) 16 rfl Try.underlying37 info69 rfl (by decide) (by omega) v273 y272 l0 _ _ _ (fun k_ => some k_ ≠ (v279 : Value).ownBlock ∧ k_ ≠ gb271) (fun _ => False) rfl rfl ?aO ?aR (fun _ _ h => h) (fun _ h => h.elim) ?aF ?aB ?aS ?aL ?_
  (case aR => repeat (first | exact (Kd.C_below HR0.out HB.out) | (with_reducible refine Kd.C_alloc ?_ _) | (with_reducible refine Kd.C_drewN ?_ _) | (with_reducible refine Kd.C_drew ?_)))
  (case aB => exact (hb_ HB.out))
  (case aF => exact (fun k_ hk => ⟨Kd.fresh' (Kd.R_lt (rd_ HO280.out)) k_ hk, Kd.freshB (g := gb271) (o := .cells #[.int .i64 a1_0, .int .i64 a1_1] 69 (0, 0)) (bd_ BK271.out) k_ hk⟩))
  (case aO => exact (by (with_reducible repeat (first | apply Kd.R_alloc | apply Kd.R_drewN | apply Kd.R_drew)); exact Kd.R_mono HO274.out (fun _ hk => ⟨hk.1.2, hk.2⟩)))
  (case aS => exact (below_size (hb_ HB.out)))
  (case aL => have := LMc3.out; omega)
  intro v276 w11 ho hb hg hat
  rw [← Ny275.out] at ho
  have n0_ := Aside0.mk (blk_grown (g := gb271) (o := .cells #[.int .i64 a1_0, .int .i64 a1_1] 69 (0, 0)) (bd_ BK271.out) hg (Kd.R_away HO274.out (fun _ hk => hk.2)))
  have n1_ := Aside0.mk (Kd.R_after (ok := (fun k_ => k_ ≠ gb271)) (by (with_reducible repeat (first | apply Kd.R_alloc | apply Kd.R_drewN | apply Kd.R_drew)); exact Kd.R_mono HO280.out (fun _ hk => ⟨hk.1.2, hk.2⟩)) hg hat)
  have n2_ := Aside0.mk (hb)
  have n3_ := Aside0.mk (ho)
  clear BK271
  clear HO280
  clear HB
  clear HO274
  have BK271 := n0_
  have HO280 := n1_
  have HB := n2_
  have HO277 := n3_
  clear n0_ n1_ n2_ n3_
  clear ho hb hg hat
  refine hK.out _ _ ⟨(blk_cell BK271.out 0).trans rfl, (blk_cell BK271.out 1).trans rfl⟩ (fun hHeld => ?_)
  clear hK K
  refine norm_ (a' := ?_) ?_ ?_
  rotate_left
  ·show Act.put _ (some 7) _ = _
   simp only [Act.put, List.setIfInBounds_toArray, List.set_cons_zero, List.set_cons_succ, i64_w, i32_w]
   rfl
  exact norm_ (by simp only [putAll, Act.put, List.setIfInBounds_toArray, List.set_cons_zero, List.set_cons_succ]) (hCont (v273, v276, v279) _ ⟨hHeld, (rd_ HO277.out), (by (with_reducible repeat (first | apply Kd.R_alloc | apply Kd.R_drewN | apply Kd.R_drew)); exact Kd.R_mono HO280.out (fun _ hk => ⟨hk.2, hk.1⟩)), (bd_ BK271.out), (hb_ HB.out)⟩)
 rintro ⟨v273, v276, v279⟩ w12 ⟨hS_, h0_, h1_, h2_, h3_⟩
 have n0_ : Aside0 (Kd.R k69 69 w12 w.heap.size (fun k_ => some k_ ≠ (v279 : Value).ownBlock ∧ k_ ≠ gb271) v276 y275) := ⟨h0_⟩
 have n1_ : Aside0 (Kd.R k69 69 w12 w.heap.size (fun k_ => some k_ ≠ (v276 : Value).ownBlock ∧ k_ ≠ gb271) v279 y278) := ⟨h1_⟩
 have n2_ : Aside0 (w12.heap[gb271]? = some (.cells #[.int .i64 a1_0, .int .i64 a1_1] 69 (0, 0))) := ⟨h2_⟩
 have n3_ : Aside0 (Below w.heap.size w w12) := ⟨h3_⟩
 clear BK271
 clear HB
 clear h0_ h1_ h2_ h3_
 have HO277 := n0_
 have HO280 := n1_
 have BK271 := n2_
 have HB := n3_
 clear n0_ n1_ n2_ n3_
 have hHeld : w12.cell? ⟨gb271, 0, none⟩ = some (.int .i64 a1_0) ∧ w12.cell? ⟨gb271, 1, none⟩ = some (.int .i64 a1_1) := hS_
 obtain ⟨Ao14, co14, eo14⟩ := Kd.R_slice HO280.out
 (first | subst eo14 | (injection eo14 with f1_ f2_ f3_; have f4_ := f1_.symm; have f5_ := f3_.symm; clear f1_ f2_ f3_; subst f4_; subst f5_))
 refine norm_ (a' := ?_) ?_ ?_
 rotate_left
 ·simp only [putAll, Act.put, List.setIfInBounds_toArray, List.set_cons_zero, List.set_cons_succ]
  rfl
 refine one_ (i := 5) (N := some 10) #[true, true, true, true, true, true, false] rfl rfl (by kernel_rfl) (by decide) (fun K hK => ?_)
 refine Kd.R_append_rows_step k69 (w0 := w) w.heap.size (by rfl) (.tmp 7) (.tmp 9) 37 69 (.agg #[(.int .i64 0), (.int .i64 0)]) 16 rfl Try.underlying37 info69 rfl (by decide) (by omega) v276 y275 y278 _ _ _ (fun k_ => some k_ ≠ (.slice Ao14 y278.length co14 : Value).ownBlock ∧ k_ ≠ gb271) (fun _ => False) rfl rfl ?aO ?aR (fun _ _ h => h) (fun _ h => h.elim) ?aF ?aB ?aS ?aL ?_
 (case aR => repeat (first | exact (Kd.R_reads' HO280.out).2.2 | (with_reducible refine Kd.C_alloc ?_ _) | (with_reducible refine Kd.C_drewN ?_ _) | (with_reducible refine Kd.C_drew ?_)))
 (case aB => exact (hb_ HB.out))
 (case aF => exact (fun k_ hk => ⟨Kd.fresh' (Kd.R_lt (rd_ HO280.out)) k_ hk, Kd.freshB (g := gb271) (o := .cells #[.int .i64 a1_0, .int .i64 a1_1] 69 (0, 0)) (bd_ BK271.out) k_ hk⟩))
 (case aO => exact (rd_ HO277.out))
 (case aS => exact (below_size (hb_ HB.out)))
 (case aL => have := LMc4.out; omega)
 intro v282 w13 ho hb hg hat
 rw [← Ny281.out] at ho
 have n0_ := Aside0.mk (blk_grown (g := gb271) (o := .cells #[.int .i64 a1_0, .int .i64 a1_1] 69 (0, 0)) (bd_ BK271.out) hg (Kd.R_away HO277.out (fun _ hk => hk.2)))
 have n1_ := Aside0.mk (Kd.R_after (ok := (fun k_ => k_ ≠ gb271)) (by (with_reducible repeat (first | apply Kd.R_alloc | apply Kd.R_drewN | apply Kd.R_drew)); exact Kd.R_mono HO280.out (fun _ hk => ⟨hk.2, hk.1⟩)) hg hat)
 have n2_ := Aside0.mk (hb)
 have n3_ := Aside0.mk (ho)
 clear BK271
 clear HO280
 clear HB
 clear HO277
 have BK271 := n0_
 have HO280 := n1_
 have HB := n2_
 have HO283 := n3_
 clear n0_ n1_ n2_ n3_
 clear ho hb hg hat
 refine hK.out _ _ ⟨(blk_cell BK271.out 0).trans rfl, (blk_cell BK271.out 1).trans rfl⟩ (fun hHeld => ?_)
 clear hK K
 refine norm_ (a' := ?_) ?_ ?_
 rotate_left
 ·show Act.put _ (some 10) _ = _
  simp only [Act.put, List.setIfInBounds_toArray, List.set_cons_zero, List.set_cons_succ, i64_w, i32_w]
  rfl
 refine pure_ (i := 6) (N := some 4) (v := ?_) (a' := ?_) #[true, true, true, true, true, true, true] rfl rfl (by kernel_rfl) (fun _ _ _ h => h) (Or.inl ⟨by rfl, ?_⟩) ?_ ?_; rotate_left; intro w'; go_simp; with_reducible rfl; rotate_left; simp only [Act.put, List.setIfInBounds_toArray, List.set_cons_zero, List.set_cons_succ, i64_w, i32_w]; rfl
 refine done_ (by kernel_rfl) ?_
 try go_wp2
 go_ret
 exact ⟨_, by first | rfl | (simp [errW_none, errW_some] <;> rfl) | (simp [*, errW_none, errW_some] <;> rfl), by (with_reducible repeat (first | apply Kd.R_alloc | apply Kd.R_drewN | apply Kd.R_drew)); exact Kd.R_mono HO283.out (fun _ hk => trivial), hb_ HB.out⟩
end Go.Proofs.Yteobpfgncohloaa.Print
