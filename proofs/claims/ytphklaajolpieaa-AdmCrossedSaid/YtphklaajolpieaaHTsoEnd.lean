/- ref11.Step: its contract, by walking its text: a thread at its end. -/
import Derived.Test.YtphklaajolpieaaHTsoF
import Derived.StillTailTactics
import Derived.RegionTactic
import Derived.BigRegion
namespace Go.Proofs.Ytphklaajolpieaa.Print
open Go.RowKit Go.Proofs.YtphklaajolpieaaW.PrintWords Go.Proofs.YtphklaajolpieaaW.PrintLast Go.Proofs.YtphklaajolpieaaW.PrintMore
set_option linter.unusedVariables false
set_option linter.unusedSimpArgs false
set_option maxRecDepth 100000 in
set_option maxHeartbeats 20000000 in
theorem tso_end (A0_0 : Option Addr) (c0_0 : Nat) (l0_0 : List Int) (A0_1 : Option Addr) (c0_1 : Nat) (l0_1 : List (List S36)) (A1_0 : Option Addr) (c1_0 : Nat) (l1_0 : List Int) (A1_1 : Option Addr) (c1_1 : Nat) (l1_1 : List S49) (t : Nat) (x : S49) (s : S36) (r : Nat) (kk : Nat) (w : World)
 (hr0_0 : Kd.C (Kd.int .i64) w A0_0 l0_0.length l0_0) (hc0_0 : l0_0.length ≤ c0_0) (hr0_1 : Kd.C (Kd.slice 36 k36) w A0_1 l0_1.length l0_1) (hc0_1 : l0_1.length ≤ c0_1) (hr1_0 : Kd.C (Kd.int .i64) w A1_0 l1_0.length l1_0) (hc1_0 : l1_0.length ≤ c1_0) (hr1_1 : Kd.C k49 w A1_1 l1_1.length l1_1) (hc1_1 : l1_1.length ≤ c1_1)
 (hown : fencepostref10_Own.f kk l1_0 l1_1 = some (l1_0, l1_1)) (hx : l1_1[t]? = some x) (hx1 : x.f1.length = 4) (hx0 : 0 ≤ x.f0) (hx9 : x.f0 ≤ 1000000) (hx3 : x.f3.length ≤ 1000000) (hat : fencepostref10_At.f l0_0 l0_1 l1_0 l1_1 (t : Int) = some (s.f0, s.f1, s.f2, s.f3, s.f4, false)) (hr : s.f1 = (r : Int)) :
 Calls Try.prog 14 #[.agg #[.slice A0_0 l0_0.length c0_0, .slice A0_1 l0_1.length c0_1], .agg #[.slice A1_0 l1_0.length c1_0, .slice A1_1 l1_1.length c1_1], .agg #[.int .i64 ((t : Int)), .bool false]] w fun e w' => ∃ v0_ v1_ : Value, e = .returned (.tuple #[.agg #[v0_, v1_], .bool false]) ∧ Kd.V (Kd.int .i64) 3 w' w.heap.size (fun k_ => (w.heap.size ≤ k_)) v0_ (l1_0) ∧ Kd.V k49 49 w' w.heap.size (fun k_ => (w.heap.size ≤ k_)) v1_ (l1_1) ∧ Below w.heap.size w w' := by
 obtain ⟨y0, y1, y2, y3, y4⟩ := s
 simp only at hat hr  ⊢
 subst hr
 have hu1 := Try.underlying41
 have hu2 := Try.underlying25
 have hu3 := Try.underlying49
 have hu4 := Try.underlying36
 have hu5 := Try.underlying46
 have HR00 := Aside0.mk hr0_0
 have HR01 := Aside0.mk hr0_1
 have HR10 := Aside0.mk hr1_0
 have HR11 := Aside0.mk hr1_1
 have HC00 := Aside0.mk hc0_0
 have HC01 := Aside0.mk hc0_1
 have HC10 := Aside0.mk hc1_0
 have HC11 := Aside0.mk hc1_1
 have HOWN := Aside0.mk hown
 have HX := Aside0.mk hx
 have HX1 := Aside0.mk hx1
 have HX0 := Aside0.mk hx0
 have HX9 := Aside0.mk hx9
 have HX3 := Aside0.mk hx3
 have HAT := Aside0.mk hat
 clear hr0_0 hr0_1 hr1_0 hr1_1 hc0_0 hc0_1 hc1_0 hc1_1 hown hx hx1 hx0 hx9 hx3 hat
 obtain ⟨W1, hW1⟩ : ∃ W1, W1 = (((w.alloc (.cells #[.slice A0_0 l0_0.length c0_0, .slice A0_1 l0_1.length c0_1] 25)).alloc (.cells #[.slice A1_0 l1_0.length c1_0, .slice A1_1 l1_1.length c1_1] 41)).alloc (.cells #[.int .i64 ((t : Int)), .bool false] 46)).alloc (.cells #[.slice none 0 0, .slice none 0 0] 41) := ⟨_, rfl⟩
 have bP : W1.heap[w.heap.size]? = some (.cells #[.slice A0_0 l0_0.length c0_0, .slice A0_1 l0_1.length c0_1] 25 (0, 0)) := by
  have := blk_alloc (blk_alloc (blk_alloc (blk_new w (.cells #[.slice A0_0 l0_0.length c0_0, .slice A0_1 l0_1.length c0_1] 25)) (.cells #[.slice A1_0 l1_0.length c1_0, .slice A1_1 l1_1.length c1_1] 41)) (.cells #[.int .i64 ((t : Int)), .bool false] 46)) (.cells #[.slice none 0 0, .slice none 0 0] 41)
  rw [hW1]; exact this
 have bS : W1.heap[w.heap.size + 1]? = some (.cells #[.slice A1_0 l1_0.length c1_0, .slice A1_1 l1_1.length c1_1] 41 (0, 0)) := by
  have := blk_alloc (blk_alloc (blk_new (w.alloc (.cells #[.slice A0_0 l0_0.length c0_0, .slice A0_1 l0_1.length c0_1] 25)) (.cells #[.slice A1_0 l1_0.length c1_0, .slice A1_1 l1_1.length c1_1] 41)) (.cells #[.int .i64 ((t : Int)), .bool false] 46)) (.cells #[.slice none 0 0, .slice none 0 0] 41)
  rw [World.size_alloc] at this
  rw [hW1]; exact this
 have bK : W1.heap[w.heap.size + 1 + 1]? = some (.cells #[.int .i64 ((t : Int)), .bool false] 46 (0, 0)) := by
  have := blk_alloc (blk_new ((w.alloc (.cells #[.slice A0_0 l0_0.length c0_0, .slice A0_1 l0_1.length c0_1] 25)).alloc (.cells #[.slice A1_0 l1_0.length c1_0, .slice A1_1 l1_1.length c1_1] 41)) (.cells #[.int .i64 ((t : Int)), .bool false] 46)) (.cells #[.slice none 0 0, .slice none 0 0] 41)
  rw [World.size_alloc, World.size_alloc] at this
  rw [hW1]; exact this
 have bR : W1.heap[w.heap.size + 1 + 1 + 1]? = some (.cells #[.slice none 0 0, .slice none 0 0] 41 (0, 0)) := by
  have := blk_new (((w.alloc (.cells #[.slice A0_0 l0_0.length c0_0, .slice A0_1 l0_1.length c0_1] 25)).alloc (.cells #[.slice A1_0 l1_0.length c1_0, .slice A1_1 l1_1.length c1_1] 41)).alloc (.cells #[.int .i64 ((t : Int)), .bool false] 46)) (.cells #[.slice none 0 0, .slice none 0 0] 41)
  rw [World.size_alloc, World.size_alloc, World.size_alloc] at this
  rw [hW1]; exact this
 have hB1 : Below w.heap.size w W1 := by rw [hW1]; exact below_alloc (below_alloc (below_alloc (below_alloc (Below.refl _ _) _) _) _) _
 have es0 : W1.cell? ⟨w.heap.size + 1, 0, none⟩ = some (.slice A1_0 l1_0.length c1_0) := (blk_cell bS 0).trans rfl
 have es1 : W1.cell? ⟨w.heap.size + 1, 1, none⟩ = some (.slice A1_1 l1_1.length c1_1) := (blk_cell bS 1).trans rfl
 have HW1 := Aside0.mk hW1
 have BP := Aside0.mk bP
 have BS := Aside0.mk bS
 have BK := Aside0.mk bK
 have BR := Aside0.mk bR
 have HBW := Aside0.mk hB1
 clear hW1 bP bS bK bR hB1
 go_enter Try.func14, Try.ntmps14
 (try simp only [List.append_eq, List.cons_append, List.nil_append])
 go_upto_region 1 with fail
 rw [← HW1.out]
 go_upto_region 2 with (go_at_call 22; refine (fencepostref10_Own.calls kk A1_0 c1_0 l1_0 A1_1 c1_1 l1_1 l1_0 l1_1 W1 (Kd.C_below HR10.out HBW.out) HC10.out (Kd.C_below HR11.out HBW.out) HC11.out HOWN.out).mono ?_; rintro e w2 ⟨vm, vt, rfl, hRm, hSt, hb2⟩; obtain ⟨Am, cm, rfl⟩ := Kd.R_slice hRm; obtain ⟨At, ct, rfl⟩ := Kd.S_slice hSt; have HRM := Aside0.mk hRm; have HST := Aside0.mk hSt; have HB2' := Aside0.mk hb2; clear hRm hSt hb2)
 obtain ⟨W3, hW3⟩ : ∃ W3, W3 = w2.alloc (.cells #[.slice Am l1_0.length cm, .slice At l1_1.length ct] 41) := ⟨_, rfl⟩
 have hb23 : Below w2.heap.size w2 W3 := by rw [hW3]; exact below_alloc (Below.refl _ _) _
 have bO : W3.heap[w2.heap.size]? = some (.cells #[.slice Am l1_0.length cm, .slice At l1_1.length ct] 41 (0, 0)) := by rw [hW3]; exact blk_new w2 _
 have BP3 := Aside0.mk (blk_below (blk_below BP.out HB2'.out) hb23)
 have BS3 := Aside0.mk (blk_below (blk_below BS.out HB2'.out) hb23)
 have BK3 := Aside0.mk (blk_below (blk_below BK.out HB2'.out) hb23)
 have BR3 := Aside0.mk (blk_below (blk_below BR.out HB2'.out) hb23)
 have HB3 := Aside0.mk (below_step (below_step HBW.out HB2'.out) hb23)
 have HJ3 : Aside0 (SJ w.heap.size (.slice Am l1_0.length cm) (.slice At l1_1.length ct) l1_0 l1_1 W3) := Aside0.mk (SJ.below ⟨Kd.R_lower HRM.out HBW.out.size, Kd.S_lower HST.out HBW.out.size⟩ hb23)
 have BO3 := Aside0.mk bO
 have hro : w.heap.size + 1 + 1 + 1 < w2.heap.size := Nat.lt_of_lt_of_le (blk_lt BR.out) HB2'.out.size
 rw [← hW3]
 clear BP BS BK BR HBW HRM HST HB2' es0 es1 hb23 hW3 bO HW1
 generalize w2.heap.size = bo at BO3 hro ⊢
 have ht : t < l1_1.length := (List.getElem?_eq_some_iff.1 HX.out).1
 have p0 : decide ((t : Int) < 0) = false := decide_eq_false (by omega)
 have p1 : ((t : Int) < 0) = False := eq_false (by omega)
 have p2 : decide ((l1_1.length : Int) ≤ (t : Int)) = false := decide_eq_false (by omega)
 have p3 : ((l1_1.length : Int) ≤ (t : Int)) = False := eq_false (by omega)
 have q1 : ((t : Int) < (l1_1.length : Int)) = True := eq_true (by omega)
 have q2 : (0 ≤ (t : Int)) = True := eq_true (by omega)
 have q3 : (t < l1_1.length) = True := eq_true ht
 have hxe : rd_T49 l1_1 (t : Int) = x := by unfold rd_T49; rw [Int.toNat_natCast, List.getD_eq_getElem?_getD, HX.out]; rfl
 obtain ⟨ad, A1, c1, A3, c3, ead, hx0_, hx1_, hx2_, hx3_, hl1, hi1, hl3, hi3⟩ := at_T49 HR11.out (t : Int) (by omega) (by omega)
 rw [hxe] at hx0_ hx1_ hx2_ hx3_ hl1 hi1 hl3 hi3
 subst ead
 rw [Int.toNat_natCast] at hx0_ hx1_ hx2_ hx3_
 have HY1 := Aside0.mk hx1_
 have HY3 := Aside0.mk hx3_
 have HI1 := Aside0.mk hi1
 have HI3 := Aside0.mk hi3
 have HL1 := Aside0.mk hl1
 have HL3 := Aside0.mk hl3
 clear hx0_ hx1_ hx2_ hx3_ hl1 hi1 hl3 hi3
 have ey3 := pw_cell_below HB3.out HY3.out
 have eq0 : W3.cell? ⟨w.heap.size + 1, 0, none⟩ = some (.slice A1_0 l1_0.length c1_0) := (blk_cell BS3.out 0).trans rfl
 have eq1 : W3.cell? ⟨w.heap.size + 1, 1, none⟩ = some (.slice (some ad) l1_1.length c1_1) := (blk_cell BS3.out 1).trans rfl
 have ek0 : W3.cell? ⟨w.heap.size + 1 + 1, 0, none⟩ = some (.int .i64 ((t : Int))) := (blk_cell BK3.out 0).trans rfl
 have ek1 : W3.cell? ⟨w.heap.size + 1 + 1, 1, none⟩ = some (.bool false) := (blk_cell BK3.out 1).trans rfl
 have ep0 : W3.cell? ⟨w.heap.size, 0, none⟩ = some (.slice A0_0 l0_0.length c0_0) := (blk_cell BP3.out 0).trans rfl
 have ep1 : W3.cell? ⟨w.heap.size, 1, none⟩ = some (.slice A0_1 l0_1.length c0_1) := (blk_cell BP3.out 1).trans rfl
 go_upto_region 13 with (go_at_call 24; refine (fencepostref10_At.calls A0_0 c0_0 l0_0 A0_1 c0_1 l0_1 A1_0 c1_0 l1_0 (some ad) c1_1 l1_1 (t : Int) _ _ _ _ _ _ W3 (Kd.C_below HR00.out HB3.out) HC00.out (Kd.C_below HR01.out HB3.out) HC01.out (Kd.C_below HR10.out HB3.out) HC10.out (Kd.C_below HR11.out HB3.out) HC11.out HAT.out).mono ?_; rintro e w4 ⟨rfl, hb4⟩; have HB4 := Aside0.mk hb4; clear hb4)
 obtain ⟨W5, hW5⟩ : ∃ W5, W5 = w4.alloc (.cells #[.int .i64 y0, .int .i64 (r : Int), .int .i64 y2, .int .i64 y3, .int .i64 y4] 36) := ⟨_, rfl⟩
 have hb45 : Below w4.heap.size w4 W5 := by rw [hW5]; exact below_alloc (Below.refl _ _) _
 have BX5 : Aside0 (W5.heap[w4.heap.size]? = some (.cells #[.int .i64 y0, .int .i64 (r : Int), .int .i64 y2, .int .i64 y3, .int .i64 y4] 36 (0, 0))) := Aside0.mk (by rw [hW5]; exact blk_new w4 _)
 have BP5 := Aside0.mk (blk_below (blk_below BP3.out HB4.out) hb45)
 have BS5 := Aside0.mk (blk_below (blk_below BS3.out HB4.out) hb45)
 have BO5 := Aside0.mk (blk_below (blk_below BO3.out HB4.out) hb45)
 have BR5 := Aside0.mk (blk_below (blk_below BR3.out HB4.out) hb45)
 have HB5 := Aside0.mk (below_step (below_step HB3.out HB4.out) hb45)
 have HM5 := Aside0.mk (Kd.R_below (Kd.R_below HJ3.out.mem HB4.out) hb45)
 have HT5 := Aside0.mk (Kd.S_below (Kd.S_below HJ3.out.ths HB4.out) hb45)
 rw [← hW5]
 clear hW5 hb45 BO3 BR3 BP3 BS3 BK3 HB3 HB4 HJ3 ep0 ep1 eq0 eq1 ek0 ek1 ey3
 generalize w4.heap.size = bx at BX5 ⊢
 have ey3 := pw_cell_below HB5.out HY3.out
 have eq0 : W5.cell? ⟨w.heap.size + 1, 0, none⟩ = some (.slice A1_0 l1_0.length c1_0) := (blk_cell BS5.out 0).trans rfl
 have eq1 : W5.cell? ⟨w.heap.size + 1, 1, none⟩ = some (.slice (some ad) l1_1.length c1_1) := (blk_cell BS5.out 1).trans rfl
 have ep0 : W5.cell? ⟨w.heap.size, 0, none⟩ = some (.slice A0_0 l0_0.length c0_0) := (blk_cell BP5.out 0).trans rfl
 have ep1 : W5.cell? ⟨w.heap.size, 1, none⟩ = some (.slice A0_1 l0_1.length c0_1) := (blk_cell BP5.out 1).trans rfl
 by_cases cf : (0 : Int) < (x.f3.length : Int)
 ·skip
  have f0 : decide ((0 : Int) < (x.f3.length : Int)) = true := decide_eq_true cf
  have f1 : ((0 : Int) < (x.f3.length : Int)) = True := eq_true cf
  have HCF := Aside0.mk cf
  clear cf
  go_upto_region 15 with fail
  clear eq0 eq1 ep0 ep1 ey3
  have o0 : W5.cell? ⟨bo, 0, none⟩ = some (.slice Am l1_0.length cm) := (blk_cell BO5.out 0).trans rfl
  have o1 : W5.cell? ⟨bo, 1, none⟩ = some (.slice At l1_1.length ct) := (blk_cell BO5.out 1).trans rfl
  have rz0 : W5.cell? ⟨w.heap.size + 1 + 1 + 1, 0, none⟩ = some (.slice none 0 0) := (blk_cell BR5.out 0).trans rfl
  have rz1 : W5.cell? ⟨w.heap.size + 1 + 1 + 1, 1, none⟩ = some (.slice none 0 0) := (blk_cell BR5.out 1).trans rfl
  have rf0 := blk_frozen BR5.out 0
  have rf1 := blk_frozen BR5.out 1
  go_wp2_with fail
  have eb0 : ((W5.setCell ⟨w.heap.size + 1 + 1 + 1, 0, none⟩ (.slice Am l1_0.length cm)).setCell ⟨w.heap.size + 1 + 1 + 1, 1, none⟩ (.slice At l1_1.length ct)).cell? ⟨w.heap.size + 1 + 1 + 1, 0, none⟩ = some (.slice Am l1_0.length cm) := (blk_cell (blk_set (blk_set BR5.out 0 _) 1 _) 0).trans rfl
  have eb1 : ((W5.setCell ⟨w.heap.size + 1 + 1 + 1, 0, none⟩ (.slice Am l1_0.length cm)).setCell ⟨w.heap.size + 1 + 1 + 1, 1, none⟩ (.slice At l1_1.length ct)).cell? ⟨w.heap.size + 1 + 1 + 1, 1, none⟩ = some (.slice At l1_1.length ct) := (blk_cell (blk_set (blk_set BR5.out 0 _) 1 _) 1).trans rfl
  have hV := Kd.R_V (base' := w.heap.size) (Kd.R_mono (Kd.R_bound (Kd.R_set (Kd.R_set HM5.out BR5.out (by decide) 0 (.slice Am l1_0.length cm)) (blk_set BR5.out 0 _) (by decide) 1 (.slice At l1_1.length ct))) (fun _ hk => hk.2.1))
  have hT := Kd.S_V (base' := w.heap.size) (Kd.S_mono (Kd.S_bound (Kd.S_set (Kd.S_set HT5.out BR5.out (by decide) 0 (.slice Am l1_0.length cm)) (blk_set BR5.out 0 _) (by decide) 1 (.slice At l1_1.length ct))) (fun _ hk => hk.2.1))
  have hbe := below_set (below_set HB5.out (show w.heap.size ≤ w.heap.size + 1 + 1 + 1 by omega) (j := 0) (v := (.slice Am l1_0.length cm))) (show w.heap.size ≤ w.heap.size + 1 + 1 + 1 by omega) (j := 1) (v := (.slice At l1_1.length ct))
  exact bodyPost_ret (v := .tuple #[.agg #[.slice Am l1_0.length cm, .slice At l1_1.length ct], .bool false]) (by simp [results, Try.results14, go_sem, eb0, eb1]) rfl ⟨_, _, rfl, hV, hT, hbe⟩
 ·skip
  have f0 : decide ((0 : Int) < (x.f3.length : Int)) = false := decide_eq_false cf
  have f1 : ((0 : Int) < (x.f3.length : Int)) = False := eq_false cf
  have HCF := Aside0.mk cf
  clear cf
  go_upto_region 15 with fail
  clear eq0 eq1 ep0 ep1 ey3
  have o0 : W5.cell? ⟨bo, 0, none⟩ = some (.slice Am l1_0.length cm) := (blk_cell BO5.out 0).trans rfl
  have o1 : W5.cell? ⟨bo, 1, none⟩ = some (.slice At l1_1.length ct) := (blk_cell BO5.out 1).trans rfl
  have rz0 : W5.cell? ⟨w.heap.size + 1 + 1 + 1, 0, none⟩ = some (.slice none 0 0) := (blk_cell BR5.out 0).trans rfl
  have rz1 : W5.cell? ⟨w.heap.size + 1 + 1 + 1, 1, none⟩ = some (.slice none 0 0) := (blk_cell BR5.out 1).trans rfl
  have rf0 := blk_frozen BR5.out 0
  have rf1 := blk_frozen BR5.out 1
  go_wp2_with fail
  have eb0 : ((W5.setCell ⟨w.heap.size + 1 + 1 + 1, 0, none⟩ (.slice Am l1_0.length cm)).setCell ⟨w.heap.size + 1 + 1 + 1, 1, none⟩ (.slice At l1_1.length ct)).cell? ⟨w.heap.size + 1 + 1 + 1, 0, none⟩ = some (.slice Am l1_0.length cm) := (blk_cell (blk_set (blk_set BR5.out 0 _) 1 _) 0).trans rfl
  have eb1 : ((W5.setCell ⟨w.heap.size + 1 + 1 + 1, 0, none⟩ (.slice Am l1_0.length cm)).setCell ⟨w.heap.size + 1 + 1 + 1, 1, none⟩ (.slice At l1_1.length ct)).cell? ⟨w.heap.size + 1 + 1 + 1, 1, none⟩ = some (.slice At l1_1.length ct) := (blk_cell (blk_set (blk_set BR5.out 0 _) 1 _) 1).trans rfl
  have hV := Kd.R_V (base' := w.heap.size) (Kd.R_mono (Kd.R_bound (Kd.R_set (Kd.R_set HM5.out BR5.out (by decide) 0 (.slice Am l1_0.length cm)) (blk_set BR5.out 0 _) (by decide) 1 (.slice At l1_1.length ct))) (fun _ hk => hk.2.1))
  have hT := Kd.S_V (base' := w.heap.size) (Kd.S_mono (Kd.S_bound (Kd.S_set (Kd.S_set HT5.out BR5.out (by decide) 0 (.slice Am l1_0.length cm)) (blk_set BR5.out 0 _) (by decide) 1 (.slice At l1_1.length ct))) (fun _ hk => hk.2.1))
  have hbe := below_set (below_set HB5.out (show w.heap.size ≤ w.heap.size + 1 + 1 + 1 by omega) (j := 0) (v := (.slice Am l1_0.length cm))) (show w.heap.size ≤ w.heap.size + 1 + 1 + 1 by omega) (j := 1) (v := (.slice At l1_1.length ct))
  exact bodyPost_ret (v := .tuple #[.agg #[.slice Am l1_0.length cm, .slice At l1_1.length ct], .bool false]) (by simp [results, Try.results14, go_sem, eb0, eb1]) rfl ⟨_, _, rfl, hV, hT, hbe⟩
end Go.Proofs.Ytphklaajolpieaa.Print
