/- ref11.Step: its contract, by walking its text: a step, with nothing on its way. -/
import Derived.Test.YtphklaajolpieaaHTsoF
import Derived.StillTailTactics
import Derived.RegionTactic
import Derived.BigRegion
namespace Go.Proofs.Ytphklaajolpieaa.Print
open Go.RowKit Go.Proofs.YtphklaajolpieaaW.PrintWords Go.Proofs.YtphklaajolpieaaW.PrintLast Go.Proofs.YtphklaajolpieaaW.PrintMore
set_option linter.unusedVariables false
set_option linter.unusedSimpArgs false
set_option maxRecDepth 100000 in
set_option maxHeartbeats 20000000 in
theorem tso_go0 (A0_0 : Option Addr) (c0_0 : Nat) (l0_0 : List Int) (A0_1 : Option Addr) (c0_1 : Nat) (l0_1 : List (List S36)) (A1_0 : Option Addr) (c1_0 : Nat) (l1_0 : List Int) (A1_1 : Option Addr) (c1_1 : Nat) (l1_1 : List S49) (t : Nat) (x : S49) (s : S36) (r : Nat) (kk : Nat) (w : World)
 (hr0_0 : Kd.C (Kd.int .i64) w A0_0 l0_0.length l0_0) (hc0_0 : l0_0.length ≤ c0_0) (hr0_1 : Kd.C (Kd.slice 36 k36) w A0_1 l0_1.length l0_1) (hc0_1 : l0_1.length ≤ c0_1) (hr1_0 : Kd.C (Kd.int .i64) w A1_0 l1_0.length l1_0) (hc1_0 : l1_0.length ≤ c1_0) (hr1_1 : Kd.C k49 w A1_1 l1_1.length l1_1) (hc1_1 : l1_1.length ≤ c1_1)
 (hown : fencepostref10_Own.f kk l1_0 l1_1 = some (l1_0, l1_1)) (hx : l1_1[t]? = some x) (hx1 : x.f1.length = 4) (hx0 : 0 ≤ x.f0) (hx9 : x.f0 ≤ 1000000) (hx3 : x.f3.length ≤ 1000000) (hat : fencepostref10_At.f l0_0 l0_1 l1_0 l1_1 (t : Int) = some (s.f0, s.f1, s.f2, s.f3, s.f4, true))
 (hop : 1 ≤ s.f0 ∧ s.f0 ≤ 10) (hr : s.f1 = (r : Int)) (hr4 : r < 4) (hlm : (s.f0 = 2 ∨ s.f0 = 3 ∨ s.f0 = 4 ∨ s.f0 = 5) → 0 ≤ s.f2 ∧ s.f2 < (l1_0.length : Int)) (hfull : x.f3.length = 0) :
 Calls Try.prog 14 #[.agg #[.slice A0_0 l0_0.length c0_0, .slice A0_1 l0_1.length c0_1], .agg #[.slice A1_0 l1_0.length c1_0, .slice A1_1 l1_1.length c1_1], .agg #[.int .i64 ((t : Int)), .bool false]] w fun e w' => ∃ v0_ v1_ : Value, e = .returned (.tuple #[.agg #[v0_, v1_], .bool true]) ∧ Kd.V (Kd.int .i64) 3 w' w.heap.size (fun k_ => (w.heap.size ≤ k_)) v0_ ((tsoGo s l1_0 x).1) ∧ Kd.V k49 49 w' w.heap.size (fun k_ => (w.heap.size ≤ k_)) v1_ (l1_1.set t (tsoGo s l1_0 x).2) ∧ Below w.heap.size w w' := by
 obtain ⟨y0, y1, y2, y3, y4⟩ := s
 simp only at hat hr hop hlm ⊢
 subst hr
 have hu1 := Try.underlying41
 have hu2 := Try.underlying25
 have hu3 := Try.underlying49
 have hu4 := Try.underlying36
 have hu5 := Try.underlying46
 have HR00 := Aside0.mk hr0_0
 have HR01 := Aside0.mk hr0_1
 have HR10 := Aside0.mk hr1_0
 have HR11 := Aside0.mk hr1_1
 have HC00 := Aside0.mk hc0_0
 have HC01 := Aside0.mk hc0_1
 have HC10 := Aside0.mk hc1_0
 have HC11 := Aside0.mk hc1_1
 have HOWN := Aside0.mk hown
 have HX := Aside0.mk hx
 have HX1 := Aside0.mk hx1
 have HX0 := Aside0.mk hx0
 have HX9 := Aside0.mk hx9
 have HX3 := Aside0.mk hx3
 have HAT := Aside0.mk hat
 have HOP := Aside0.mk hop
 have HLM := Aside0.mk hlm
 have HR4 := Aside0.mk hr4
 have HFULL := Aside0.mk hfull
 clear hr0_0 hr0_1 hr1_0 hr1_1 hc0_0 hc0_1 hc1_0 hc1_1 hown hx hx1 hx0 hx9 hx3 hat hop hlm hr4 hfull
 obtain ⟨W1, hW1⟩ : ∃ W1, W1 = (((w.alloc (.cells #[.slice A0_0 l0_0.length c0_0, .slice A0_1 l0_1.length c0_1] 25)).alloc (.cells #[.slice A1_0 l1_0.length c1_0, .slice A1_1 l1_1.length c1_1] 41)).alloc (.cells #[.int .i64 ((t : Int)), .bool false] 46)).alloc (.cells #[.slice none 0 0, .slice none 0 0] 41) := ⟨_, rfl⟩
 have bP : W1.heap[w.heap.size]? = some (.cells #[.slice A0_0 l0_0.length c0_0, .slice A0_1 l0_1.length c0_1] 25 (0, 0)) := by
  have := blk_alloc (blk_alloc (blk_alloc (blk_new w (.cells #[.slice A0_0 l0_0.length c0_0, .slice A0_1 l0_1.length c0_1] 25)) (.cells #[.slice A1_0 l1_0.length c1_0, .slice A1_1 l1_1.length c1_1] 41)) (.cells #[.int .i64 ((t : Int)), .bool false] 46)) (.cells #[.slice none 0 0, .slice none 0 0] 41)
  rw [hW1]; exact this
 have bS : W1.heap[w.heap.size + 1]? = some (.cells #[.slice A1_0 l1_0.length c1_0, .slice A1_1 l1_1.length c1_1] 41 (0, 0)) := by
  have := blk_alloc (blk_alloc (blk_new (w.alloc (.cells #[.slice A0_0 l0_0.length c0_0, .slice A0_1 l0_1.length c0_1] 25)) (.cells #[.slice A1_0 l1_0.length c1_0, .slice A1_1 l1_1.length c1_1] 41)) (.cells #[.int .i64 ((t : Int)), .bool false] 46)) (.cells #[.slice none 0 0, .slice none 0 0] 41)
  rw [World.size_alloc] at this
  rw [hW1]; exact this
 have bK : W1.heap[w.heap.size + 1 + 1]? = some (.cells #[.int .i64 ((t : Int)), .bool false] 46 (0, 0)) := by
  have := blk_alloc (blk_new ((w.alloc (.cells #[.slice A0_0 l0_0.length c0_0, .slice A0_1 l0_1.length c0_1] 25)).alloc (.cells #[.slice A1_0 l1_0.length c1_0, .slice A1_1 l1_1.length c1_1] 41)) (.cells #[.int .i64 ((t : Int)), .bool false] 46)) (.cells #[.slice none 0 0, .slice none 0 0] 41)
  rw [World.size_alloc, World.size_alloc] at this
  rw [hW1]; exact this
 have bR : W1.heap[w.heap.size + 1 + 1 + 1]? = some (.cells #[.slice none 0 0, .slice none 0 0] 41 (0, 0)) := by
  have := blk_new (((w.alloc (.cells #[.slice A0_0 l0_0.length c0_0, .slice A0_1 l0_1.length c0_1] 25)).alloc (.cells #[.slice A1_0 l1_0.length c1_0, .slice A1_1 l1_1.length c1_1] 41)).alloc (.cells #[.int .i64 ((t : Int)), .bool false] 46)) (.cells #[.slice none 0 0, .slice none 0 0] 41)
  rw [World.size_alloc, World.size_alloc, World.size_alloc] at this
  rw [hW1]; exact this
 have hB1 : Below w.heap.size w W1 := by rw [hW1]; exact below_alloc (below_alloc (below_alloc (below_alloc (Below.refl _ _) _) _) _) _
 have es0 : W1.cell? ⟨w.heap.size + 1, 0, none⟩ = some (.slice A1_0 l1_0.length c1_0) := (blk_cell bS 0).trans rfl
 have es1 : W1.cell? ⟨w.heap.size + 1, 1, none⟩ = some (.slice A1_1 l1_1.length c1_1) := (blk_cell bS 1).trans rfl
 have HW1 := Aside0.mk hW1
 have BP := Aside0.mk bP
 have BS := Aside0.mk bS
 have BK := Aside0.mk bK
 have BR := Aside0.mk bR
 have HBW := Aside0.mk hB1
 clear hW1 bP bS bK bR hB1
 go_enter Try.func14, Try.ntmps14
 (try simp only [List.append_eq, List.cons_append, List.nil_append])
 go_upto_region 1 with fail
 rw [← HW1.out]
 go_upto_region 2 with (go_at_call 22; refine (fencepostref10_Own.calls kk A1_0 c1_0 l1_0 A1_1 c1_1 l1_1 l1_0 l1_1 W1 (Kd.C_below HR10.out HBW.out) HC10.out (Kd.C_below HR11.out HBW.out) HC11.out HOWN.out).mono ?_; rintro e w2 ⟨vm, vt, rfl, hRm, hSt, hb2⟩; obtain ⟨Am, cm, rfl⟩ := Kd.R_slice hRm; obtain ⟨At, ct, rfl⟩ := Kd.S_slice hSt; have HRM := Aside0.mk hRm; have HST := Aside0.mk hSt; have HB2' := Aside0.mk hb2; clear hRm hSt hb2)
 obtain ⟨W3, hW3⟩ : ∃ W3, W3 = w2.alloc (.cells #[.slice Am l1_0.length cm, .slice At l1_1.length ct] 41) := ⟨_, rfl⟩
 have hb23 : Below w2.heap.size w2 W3 := by rw [hW3]; exact below_alloc (Below.refl _ _) _
 have bO : W3.heap[w2.heap.size]? = some (.cells #[.slice Am l1_0.length cm, .slice At l1_1.length ct] 41 (0, 0)) := by rw [hW3]; exact blk_new w2 _
 have BP3 := Aside0.mk (blk_below (blk_below BP.out HB2'.out) hb23)
 have BS3 := Aside0.mk (blk_below (blk_below BS.out HB2'.out) hb23)
 have BK3 := Aside0.mk (blk_below (blk_below BK.out HB2'.out) hb23)
 have BR3 := Aside0.mk (blk_below (blk_below BR.out HB2'.out) hb23)
 have HB3 := Aside0.mk (below_step (below_step HBW.out HB2'.out) hb23)
 have HJ3 : Aside0 (SJ w.heap.size (.slice Am l1_0.length cm) (.slice At l1_1.length ct) l1_0 l1_1 W3) := Aside0.mk (SJ.below ⟨Kd.R_lower HRM.out HBW.out.size, Kd.S_lower HST.out HBW.out.size⟩ hb23)
 have BO3 := Aside0.mk bO
 have hro : w.heap.size + 1 + 1 + 1 < w2.heap.size := Nat.lt_of_lt_of_le (blk_lt BR.out) HB2'.out.size
 rw [← hW3]
 clear BP BS BK BR HBW HRM HST HB2' es0 es1 hb23 hW3 bO HW1
 generalize w2.heap.size = bo at BO3 hro ⊢
 have ht : t < l1_1.length := (List.getElem?_eq_some_iff.1 HX.out).1
 have p0 : decide ((t : Int) < 0) = false := decide_eq_false (by omega)
 have p1 : ((t : Int) < 0) = False := eq_false (by omega)
 have p2 : decide ((l1_1.length : Int) ≤ (t : Int)) = false := decide_eq_false (by omega)
 have p3 : ((l1_1.length : Int) ≤ (t : Int)) = False := eq_false (by omega)
 have q1 : ((t : Int) < (l1_1.length : Int)) = True := eq_true (by omega)
 have q2 : (0 ≤ (t : Int)) = True := eq_true (by omega)
 have q3 : (t < l1_1.length) = True := eq_true ht
 have hxe : rd_T49 l1_1 (t : Int) = x := by unfold rd_T49; rw [Int.toNat_natCast, List.getD_eq_getElem?_getD, HX.out]; rfl
 obtain ⟨ad, A1, c1, A3, c3, ead, hx0_, hx1_, hx2_, hx3_, hl1, hi1, hl3, hi3⟩ := at_T49 HR11.out (t : Int) (by omega) (by omega)
 rw [hxe] at hx0_ hx1_ hx2_ hx3_ hl1 hi1 hl3 hi3
 subst ead
 rw [Int.toNat_natCast] at hx0_ hx1_ hx2_ hx3_
 have HY1 := Aside0.mk hx1_
 have HY3 := Aside0.mk hx3_
 have HI1 := Aside0.mk hi1
 have HI3 := Aside0.mk hi3
 have HL1 := Aside0.mk hl1
 have HL3 := Aside0.mk hl3
 clear hx0_ hx1_ hx2_ hx3_ hl1 hi1 hl3 hi3
 have ey3 := pw_cell_below HB3.out HY3.out
 have eq0 : W3.cell? ⟨w.heap.size + 1, 0, none⟩ = some (.slice A1_0 l1_0.length c1_0) := (blk_cell BS3.out 0).trans rfl
 have eq1 : W3.cell? ⟨w.heap.size + 1, 1, none⟩ = some (.slice (some ad) l1_1.length c1_1) := (blk_cell BS3.out 1).trans rfl
 have ek0 : W3.cell? ⟨w.heap.size + 1 + 1, 0, none⟩ = some (.int .i64 ((t : Int))) := (blk_cell BK3.out 0).trans rfl
 have ek1 : W3.cell? ⟨w.heap.size + 1 + 1, 1, none⟩ = some (.bool false) := (blk_cell BK3.out 1).trans rfl
 have ep0 : W3.cell? ⟨w.heap.size, 0, none⟩ = some (.slice A0_0 l0_0.length c0_0) := (blk_cell BP3.out 0).trans rfl
 have ep1 : W3.cell? ⟨w.heap.size, 1, none⟩ = some (.slice A0_1 l0_1.length c0_1) := (blk_cell BP3.out 1).trans rfl
 go_upto_region 13 with (go_at_call 24; refine (fencepostref10_At.calls A0_0 c0_0 l0_0 A0_1 c0_1 l0_1 A1_0 c1_0 l1_0 (some ad) c1_1 l1_1 (t : Int) _ _ _ _ _ _ W3 (Kd.C_below HR00.out HB3.out) HC00.out (Kd.C_below HR01.out HB3.out) HC01.out (Kd.C_below HR10.out HB3.out) HC10.out (Kd.C_below HR11.out HB3.out) HC11.out HAT.out).mono ?_; rintro e w4 ⟨rfl, hb4⟩; have HB4 := Aside0.mk hb4; clear hb4)
 obtain ⟨W5, hW5⟩ : ∃ W5, W5 = w4.alloc (.cells #[.int .i64 y0, .int .i64 (r : Int), .int .i64 y2, .int .i64 y3, .int .i64 y4] 36) := ⟨_, rfl⟩
 have hb45 : Below w4.heap.size w4 W5 := by rw [hW5]; exact below_alloc (Below.refl _ _) _
 have BX5 : Aside0 (W5.heap[w4.heap.size]? = some (.cells #[.int .i64 y0, .int .i64 (r : Int), .int .i64 y2, .int .i64 y3, .int .i64 y4] 36 (0, 0))) := Aside0.mk (by rw [hW5]; exact blk_new w4 _)
 have BP5 := Aside0.mk (blk_below (blk_below BP3.out HB4.out) hb45)
 have BS5 := Aside0.mk (blk_below (blk_below BS3.out HB4.out) hb45)
 have BO5 := Aside0.mk (blk_below (blk_below BO3.out HB4.out) hb45)
 have BR5 := Aside0.mk (blk_below (blk_below BR3.out HB4.out) hb45)
 have HB5 := Aside0.mk (below_step (below_step HB3.out HB4.out) hb45)
 have HM5 := Aside0.mk (Kd.R_below (Kd.R_below HJ3.out.mem HB4.out) hb45)
 rw [← hW5]
 clear hW5 hb45 BO3 BR3 BP3 BS3 BK3 HB3 HB4 HJ3 ep0 ep1 eq0 eq1 ek0 ek1 ey3
 generalize w4.heap.size = bx at BX5 ⊢
 have ey3 := pw_cell_below HB5.out HY3.out
 have eq0 : W5.cell? ⟨w.heap.size + 1, 0, none⟩ = some (.slice A1_0 l1_0.length c1_0) := (blk_cell BS5.out 0).trans rfl
 have eq1 : W5.cell? ⟨w.heap.size + 1, 1, none⟩ = some (.slice (some ad) l1_1.length c1_1) := (blk_cell BS5.out 1).trans rfl
 have ep0 : W5.cell? ⟨w.heap.size, 0, none⟩ = some (.slice A0_0 l0_0.length c0_0) := (blk_cell BP5.out 0).trans rfl
 have ep1 : W5.cell? ⟨w.heap.size, 1, none⟩ = some (.slice A0_1 l0_1.length c0_1) := (blk_cell BP5.out 1).trans rfl
 have f0 := HFULL.out
 obtain ⟨mm, hmm⟩ : ∃ q, q = (refF (⟨y0, (r : Int), y2, y3, y4⟩ : S36) l1_0 x).1 := ⟨_, rfl⟩
 obtain ⟨xx, hxx⟩ : ∃ q, q = (refF (⟨y0, (r : Int), y2, y3, y4⟩ : S36) l1_0 x).2 := ⟨_, rfl⟩
 have HMM := Aside0.mk hmm
 have HXX := Aside0.mk hxx
 have HXL : Aside0 (xx.f1.length = 4) := Aside0.mk (by rw [hxx, refF_len]; exact HX1.out)
 clear hmm hxx
 go_upto_region 17 with (go_at_call 25; refine (refStep_any A0_0 c0_0 l0_0 A0_1 c0_1 l0_1 A1_0 c1_0 l1_0 (some ad) c1_1 l1_1 t x ⟨y0, (r : Int), y2, y3, y4⟩ kk r W5 (Kd.C_below HR00.out HB5.out) HC00.out (Kd.C_below HR01.out HB5.out) HC01.out (Kd.C_below HR10.out HB5.out) HC10.out (Kd.C_below HR11.out HB5.out) HC11.out HX.out HX1.out HX0.out HX9.out HOWN.out HAT.out HOP.out rfl HR4.out HLM.out).mono ?_; rintro e w6 ⟨vn0, vn1, rfl, hJn, hb6⟩; rw [← HMM.out, ← HXX.out] at hJn; obtain ⟨An, cn, rfl⟩ := Kd.R_slice hJn.mem; obtain ⟨At2, ct2, hv1⟩ := Kd.S_slice hJn.ths; rw [List.length_set] at hv1; subst hv1; have HJN := Aside0.mk hJn; have HB6' := Aside0.mk hb6; clear hJn hb6)
 obtain ⟨g, ctt, hform, hgb, hglt, cg, hcg⟩ := Kd.R_form (Kd.S_R HJN.out.ths) (by rw [List.length_set]; omega)
 obtain rfl : At2 = some ⟨g, 0, none⟩ := by injection hform
 clear hform cg hcg hglt hgb
 have hw05 : w.heap.size ≤ W5.heap.size := HB5.out.size
 obtain ⟨W7, hW7⟩ : ∃ W7, W7 = w6.alloc (.cells #[.slice An mm.length cn, .slice (some ⟨g, 0, none⟩) l1_1.length ct2] 41) := ⟨_, rfl⟩
 have hb67 : Below w6.heap.size w6 W7 := by rw [hW7]; exact below_alloc (Below.refl _ _) _
 have BN7 : Aside0 (W7.heap[w6.heap.size]? = some (.cells #[.slice An mm.length cn, .slice (some ⟨g, 0, none⟩) l1_1.length ct2] 41 (0, 0))) := Aside0.mk (by rw [hW7]; exact blk_new w6 _)
 have BS7 := Aside0.mk (blk_below (blk_below BS5.out HB6'.out) hb67)
 have BO7 := Aside0.mk (blk_below (blk_below BO5.out HB6'.out) hb67)
 have BR7 := Aside0.mk (blk_below (blk_below BR5.out HB6'.out) hb67)
 have BX7 := Aside0.mk (blk_below (blk_below BX5.out HB6'.out) hb67)
 have HB7 := Aside0.mk (below_step (below_step HB5.out HB6'.out) hb67)
 have HM7 := Aside0.mk (Kd.R_below (Kd.R_below HM5.out HB6'.out) hb67)
 have HJN7 : Aside0 (SJ w.heap.size (.slice An mm.length cn) (.slice (some ⟨g, 0, none⟩) l1_1.length ct2) mm (l1_1.set t xx) W7) := Aside0.mk (SJ.below ⟨Kd.R_lower HJN.out.mem hw05, Kd.S_lower HJN.out.ths hw05⟩ hb67)
 have hbx5 : bx < W5.heap.size := blk_lt BX5.out
 have hbo5 : bo < W5.heap.size := blk_lt BO5.out
 have hbn6 : W5.heap.size ≤ w6.heap.size := HB6'.out.size
 rw [← hW7]
 clear hW7 hb67 BP5 BS5 BO5 BR5 BX5 HB5 HM5 HJN HB6' ep0 ep1 eq0 eq1 ey3 f0
 generalize w6.heap.size = bn at BN7 hbn6 ⊢
 by_cases k2 : y0 = 2
 ·skip
  subst k2
  obtain ⟨kv, hkv⟩ := (rview_ev x.f3 HX3.out l1_0 y2).rounds
  have HKV : Aside0 (fencepostref09_View.f kv x.f3 l1_0 y2 = some ((viewF x.f3 l1_0 y2).1, (viewF x.f3 l1_0 y2).2)) := Aside0.mk hkv
  clear hkv
  have ey3 := pw_cell_below HB7.out HY3.out
  have eq0 : W7.cell? ⟨w.heap.size + 1, 0, none⟩ = some (.slice A1_0 l1_0.length c1_0) := (blk_cell BS7.out 0).trans rfl
  have eq1 : W7.cell? ⟨w.heap.size + 1, 1, none⟩ = some (.slice (some ad) l1_1.length c1_1) := (blk_cell BS7.out 1).trans rfl
  have ex0 : W7.cell? ⟨bx, 0, none⟩ = some (.int .i64 2) := (blk_cell BX7.out 0).trans rfl
  have ex2 : W7.cell? ⟨bx, 2, none⟩ = some (.int .i64 y2) := (blk_cell BX7.out 2).trans rfl
  go_upto_region 19 with fail
  clear ex0
  refine start_ (n := 16) (S := fun w' => w'.cell? ⟨w.heap.size + 1, 0, none⟩ = some (.slice A1_0 l1_0.length c1_0) ∧ w'.cell? ⟨w.heap.size + 1, 1, none⟩ = some (.slice (some ad) l1_1.length c1_1) ∧ w'.cell? ⟨(ad.add (t * 4)).block, (ad.add (t * 4)).off + 3, none⟩ = some (.slice A3 x.f3.length c3) ∧ w'.cell? ⟨bx, 2, none⟩ = some (.int .i64 y2)) (ds := [10]) #[false, false, false, false, false, false, false, false, false, false, false, false, false, false, false, false] (by kernel_rfl) rfl rfl ⟨by first | exact eq0 | simpa using eq0, by first | exact eq1 | simpa using eq1, by first | exact ey3 | simpa using ey3, by first | exact ex2 | simpa using ex2⟩ (fun hHeld => ?_)
  have BS8 : Aside0 (W7.drew.heap[w.heap.size + 1]? = some (.cells #[.slice A1_0 l1_0.length c1_0, .slice (some ad) l1_1.length c1_1] 41 (0, 0))) := Aside0.mk (blk_drewN BS7.out 1)
  have BO8 : Aside0 (W7.drew.heap[bo]? = some (.cells #[.slice Am l1_0.length cm, .slice At l1_1.length ct] 41 (0, 0))) := Aside0.mk (blk_drewN BO7.out 1)
  have BR8 : Aside0 (W7.drew.heap[w.heap.size + 1 + 1 + 1]? = some (.cells #[.slice none 0 0, .slice none 0 0] 41 (0, 0))) := Aside0.mk (blk_drewN BR7.out 1)
  have BX8 : Aside0 (W7.drew.heap[bx]? = some (.cells #[.int .i64 2, .int .i64 (r : Int), .int .i64 y2, .int .i64 y3, .int .i64 y4] 36 (0, 0))) := Aside0.mk (blk_drewN BX7.out 1)
  have BN8 : Aside0 (W7.drew.heap[bn]? = some (.cells #[.slice An mm.length cn, .slice (some ⟨g, 0, none⟩) l1_1.length ct2] 41 (0, 0))) := Aside0.mk (blk_drewN BN7.out 1)
  have HB8 : Aside0 (Below w.heap.size w (W7.drew)) := Aside0.mk (below_drew1 HB7.out)
  have HM8 : Aside0 (Kd.R (Kd.int .i64) 3 W7.drew w.heap.size (fun _ => True) (.slice Am l1_0.length cm) l1_0) := Aside0.mk (Kd.R_drewN HM7.out 1)
  have HJN8 : Aside0 (SJ w.heap.size (.slice An mm.length cn) (.slice (some ⟨g, 0, none⟩) l1_1.length ct2) mm (l1_1.set t xx) W7.drew) := Aside0.mk (HJN7.out.drewN 1)
  clear BS7 BO7 BR7 BX7 BN7 HB7 HM7 HJN7
  generalize W7.drew = W8 at BS8 BO8 BR8 BX8 BN8 HB8 HM8 HJN8 hHeld ⊢
  clear eq0 eq1 ey3 ex2
  refine pure_ (i := 0) (N := some 104) (v := ?_) (a' := ?_) #[true, false, false, false, false, false, false, false, false, false, false, false, false, false, false, false] rfl rfl (by kernel_rfl) (fun _ _ _ h => h) (Or.inl ⟨by rfl, ?_⟩) ?_ ?_
  rotate_left
  ·intro w'
   go_simp
   with_reducible rfl
  rotate_left
  ·simp only [Act.put, List.setIfInBounds_toArray, List.set_cons_zero, List.set_cons_succ, i64_w, i32_w]
   rfl
  refine take_ (i := 1) (N := some 105) (v := ?_) (a' := ?_) #[true, true, false, false, false, false, false, false, false, false, false, false, false, false, false, false] rfl rfl (by kernel_rfl) (fun _ _ _ h => h) (Or.inl ⟨by rfl, ?_⟩) hHeld ?_ ?_
  rotate_left
  ·rintro w' ⟨s0, s1, s3, s4⟩
   go_simp
   with_reducible rfl
  rotate_left
  ·simp only [Act.put, List.setIfInBounds_toArray, List.set_cons_zero, List.set_cons_succ, i64_w, i32_w]
   rfl
  refine pure_ (i := 2) (N := some 106) (v := ?_) (a' := ?_) #[true, true, true, false, false, false, false, false, false, false, false, false, false, false, false, false] rfl rfl (by kernel_rfl) (fun _ _ _ h => h) (Or.inl ⟨by rfl, ?_⟩) ?_ ?_
  rotate_left
  ·intro w'
   go_simp
   with_reducible rfl
  rotate_left
  ·simp only [Act.put, List.setIfInBounds_toArray, List.set_cons_zero, List.set_cons_succ, i64_w, i32_w]
   rfl
  refine pure_ (i := 3) (N := some 107) (v := ?_) (a' := ?_) #[true, true, true, true, false, false, false, false, false, false, false, false, false, false, false, false] rfl rfl (by kernel_rfl) (fun _ _ _ h => h) (Or.inl ⟨by rfl, ?_⟩) ?_ ?_
  rotate_left
  ·intro w'
   go_simp
   with_reducible rfl
  rotate_left
  ·simp only [Act.put, List.setIfInBounds_toArray, List.set_cons_zero, List.set_cons_succ, i64_w, i32_w]
   rfl
  refine pure_ (i := 4) (N := some 108) (v := ?_) (a' := ?_) #[true, true, true, true, true, false, false, false, false, false, false, false, false, false, false, false] rfl rfl (by kernel_rfl) (fun _ _ _ h => h) (Or.inl ⟨by rfl, ?_⟩) ?_ ?_
  rotate_left
  ·intro w'
   go_simp
   with_reducible rfl
  rotate_left
  ·simp only [Act.put, List.setIfInBounds_toArray, List.set_cons_zero, List.set_cons_succ, i64_w, i32_w]
   rfl
  refine take_ (i := 5) (N := some 109) (v := ?_) (a' := ?_) #[true, true, true, true, true, true, false, false, false, false, false, false, false, false, false, false] rfl rfl (by kernel_rfl) (fun _ _ _ h => h) (Or.inl ⟨by rfl, ?_⟩) hHeld ?_ ?_
  rotate_left
  ·rintro w' ⟨s0, s1, s3, s4⟩
   go_simp
   with_reducible rfl
  rotate_left
  ·simp only [Act.put, List.setIfInBounds_toArray, List.set_cons_zero, List.set_cons_succ, i64_w, i32_w]
   rfl
  refine pure_ (i := 6) (N := some 110) (v := ?_) (a' := ?_) #[true, true, true, true, true, true, true, false, false, false, false, false, false, false, false, false] rfl rfl (by kernel_rfl) (fun _ _ _ h => h) (Or.inl ⟨by rfl, ?_⟩) ?_ ?_
  rotate_left
  ·intro w'
   go_simp
   with_reducible rfl
  rotate_left
  ·simp only [Act.put, List.setIfInBounds_toArray, List.set_cons_zero, List.set_cons_succ, i64_w, i32_w]
   rfl
  refine take_ (i := 7) (N := some 111) (v := ?_) (a' := ?_) #[true, true, true, true, true, true, true, true, false, false, false, false, false, false, false, false] rfl rfl (by kernel_rfl) (fun _ _ _ h => h) (Or.inl ⟨by rfl, ?_⟩) hHeld ?_ ?_
  rotate_left
  ·rintro w' ⟨s0, s1, s3, s4⟩
   go_simp
   with_reducible rfl
  rotate_left
  ·simp only [Act.put, List.setIfInBounds_toArray, List.set_cons_zero, List.set_cons_succ, i64_w, i32_w]
   rfl
  refine pure_ (i := 8) (N := some 112) (v := ?_) (a' := ?_) #[true, true, true, true, true, true, true, true, true, false, false, false, false, false, false, false] rfl rfl (by kernel_rfl) (fun _ _ _ h => h) (Or.inl ⟨by rfl, ?_⟩) ?_ ?_
  rotate_left
  ·intro w'
   go_simp
   with_reducible rfl
  rotate_left
  ·simp only [Act.put, List.setIfInBounds_toArray, List.set_cons_zero, List.set_cons_succ, i64_w, i32_w]
   rfl
  refine take_ (i := 9) (N := some 113) (v := ?_) (a' := ?_) #[true, true, true, true, true, true, true, true, true, true, false, false, false, false, false, false] rfl rfl (by kernel_rfl) (fun _ _ _ h => h) (Or.inl ⟨by rfl, ?_⟩) hHeld ?_ ?_
  rotate_left
  ·rintro w' ⟨s0, s1, s3, s4⟩
   go_simp
   with_reducible rfl
  rotate_left
  ·simp only [Act.put, List.setIfInBounds_toArray, List.set_cons_zero, List.set_cons_succ, i64_w, i32_w]
   rfl
  refine last_ (i := 10) (N := some 114) #[true, true, true, true, true, true, true, true, true, true, true, false, false, false, false, false] rfl rfl (by kernel_rfl) (by decide) (fun K hK => ?_)
  refine goes_ Try.func26 (by kernel_rfl) rfl #[.slice A3 x.f3.length c3, .slice A1_0 l1_0.length c1_0, .int .i64 y2] (by rfl) rfl rfl (by (try simp only [List.map_toArray, List.map_cons, List.map_nil]); first | done | rfl) ?_
  refine (fencepostref09_View.calls kv A3 c3 x.f3 A1_0 c1_0 l1_0 y2 (viewF x.f3 l1_0 y2).1 (viewF x.f3 l1_0 y2).2 W8 (Kd.C_below HI3.out HB8.out) HL3.out (Kd.C_below HR10.out HB8.out) HC10.out HKV.out).mono ?_
  rintro e w9 ⟨rfl, hdr⟩
  refine ⟨_, rfl, ?_⟩
  have HD9 := Aside0.mk hdr.below
  clear hdr
  refine hK.out _ _ ?_
  clear hK K
  refine norm_ (a' := ?_) ?_ ?_
  rotate_left
  ·show Act.put _ (some 114) _ = _
   simp only [Act.put, List.setIfInBounds_toArray, List.set_cons_zero, List.set_cons_succ, i64_w, i32_w]
   rfl
  refine pure_ (i := 11) (N := some 103) (v := ?_) (a' := ?_) #[true, true, true, true, true, true, true, true, true, true, true, true, false, false, false, false] rfl rfl (by kernel_rfl) (fun _ _ _ h => h) (Or.inl ⟨by rfl, ?_⟩) ?_ ?_
  rotate_left
  ·intro w'
   go_simp
   with_reducible rfl
  rotate_left
  ·simp only [Act.put, List.setIfInBounds_toArray, List.set_cons_zero, List.set_cons_succ, i64_w, i32_w]
   rfl
  refine pure_ (i := 12) (N := some 115) (v := ?_) (a' := ?_) #[true, true, true, true, true, true, true, true, true, true, true, true, true, false, false, false] rfl rfl (by kernel_rfl) (fun _ _ _ h => h) (Or.inl ⟨by rfl, ?_⟩) ?_ ?_
  rotate_left
  ·intro w'
   go_simp
   with_reducible rfl
  rotate_left
  ·simp only [Act.put, List.setIfInBounds_toArray, List.set_cons_zero, List.set_cons_succ, i64_w, i32_w]
   rfl
  refine pure_ (i := 13) (N := some 116) (v := ?_) (a' := ?_) #[true, true, true, true, true, true, true, true, true, true, true, true, true, true, false, false] rfl rfl (by kernel_rfl) (fun _ _ _ h => h) (Or.inl ⟨by rfl, ?_⟩) ?_ ?_
  rotate_left
  ·intro w'
   go_simp
   with_reducible rfl
  rotate_left
  ·simp only [Act.put, List.setIfInBounds_toArray, List.set_cons_zero, List.set_cons_succ, i64_w, i32_w]
   rfl
  refine pure_ (i := 14) (N := some 18) (v := ?_) (a' := ?_) #[true, true, true, true, true, true, true, true, true, true, true, true, true, true, true, false] rfl rfl (by kernel_rfl) (fun _ _ _ h => h) (Or.inl ⟨by rfl, ?_⟩) ?_ ?_
  rotate_left
  ·intro w'
   go_simp
   with_reducible rfl
  rotate_left
  ·simp only [Act.put, List.setIfInBounds_toArray, List.set_cons_zero, List.set_cons_succ, i64_w, i32_w]
   rfl
  refine pure_ (i := 15) (N := some 19) (v := ?_) (a' := ?_) #[true, true, true, true, true, true, true, true, true, true, true, true, true, true, true, true] rfl rfl (by kernel_rfl) (fun _ _ _ h => h) (Or.inl ⟨by rfl, ?_⟩) ?_ ?_
  rotate_left
  ·intro w'
   go_simp
   with_reducible rfl
  rotate_left
  ·simp only [Act.put, List.setIfInBounds_toArray, List.set_cons_zero, List.set_cons_succ, i64_w, i32_w]
   rfl
  refine done_ (by kernel_rfl) ?_
  have BS9 := Aside0.mk (blk_below BS8.out HD9.out)
  have BO9 := Aside0.mk (blk_below BO8.out HD9.out)
  have BR9 := Aside0.mk (blk_below BR8.out HD9.out)
  have BX9 := Aside0.mk (blk_below BX8.out HD9.out)
  have BN9 := Aside0.mk (blk_below BN8.out HD9.out)
  have HB9 := Aside0.mk (below_step HB8.out HD9.out)
  have HM9 := Aside0.mk (Kd.R_below HM8.out HD9.out)
  have HJN9 := Aside0.mk (HJN8.out.below HD9.out)
  clear BS8 BO8 BR8 BX8 BN8 HB8 HM8 HJN8
  clear HD9
  obtain ⟨nv, hnv⟩ : ∃ q, q = (viewF x.f3 l1_0 y2).1 := ⟨_, rfl⟩
  have HNV := Aside0.mk hnv
  rw [← hnv]
  clear hnv
  have en0 : w9.cell? ⟨bn, 0, none⟩ = some (.slice An mm.length cn) := (blk_cell BN9.out 0).trans rfl
  have en1 : w9.cell? ⟨bn, 1, none⟩ = some (.slice (some ⟨g, 0, none⟩) l1_1.length ct2) := (blk_cell BN9.out 1).trans rfl
  have ex1 : w9.cell? ⟨bx, 1, none⟩ = some (.int .i64 (r : Int)) := (blk_cell BX9.out 1).trans rfl
  have hxl : xx.f1.length = 4 := HXL.out
  obtain ⟨gr, cr, A3', c3', ⟨d0_, d1, d2_, d3_⟩, hfz_, hreg_, ⟨hty_, ⟨cgr, hcgr⟩⟩, ⟨hgb_, hgrb, hq1_, hq2_⟩, hne_, hset, hput_⟩ := (SQ.of HJN9.out).cells xx (set_get HX.out) (by omega)
  rw [hxl] at d1
  have hr4 : r < 4 := HR4.out
  have hreg := hreg_ r (by omega)
  have d2 := hreg.1
  have d3 := hreg.2
  have hrn : gr ≠ bn := types_ne hcgr BN9.out (by decide)
  have hrR : gr ≠ w.heap.size + 1 + 1 + 1 := types_ne hcgr BR9.out (by decide)
  have p4 : ((r : Int) < 4) = True := eq_true (by omega)
  have HSET := Aside0.mk (hset r nv (by omega)).toSJ
  clear hset hput_ hreg hreg_ hcgr cgr d0_ d2_ d3_ hfz_ hty_ hgb_ hq1_ hq2_ hne_
  go_upto_region 20 with fail
  go_still_tail 10, (by kernel_rfl)
  change wpList _ _ _ _ _ w9.drew
  go_upto_region 27 with fail
  change Code.wp _ _ _ _ (w9.drew.setCell ⟨gr, r, none⟩ (.int .i64 nv))
  obtain ⟨w10, hw10⟩ : ∃ w10, w10 = w9.drew.setCell ⟨gr, r, none⟩ (.int .i64 nv) := ⟨_, rfl⟩
  have BN10 : Aside0 (w10.heap[bn]? = some (.cells #[.slice An mm.length cn, .slice (some ⟨g, 0, none⟩) l1_1.length ct2] 41 (0, 0))) := Aside0.mk (by rw [hw10]; exact blk_far (blk_drewN BN9.out 1) (fun e => hrn e.symm) _)
  have BR10 : Aside0 (w10.heap[w.heap.size + 1 + 1 + 1]? = some (.cells #[.slice none 0 0, .slice none 0 0] 41 (0, 0))) := Aside0.mk (by rw [hw10]; exact blk_far (blk_drewN BR9.out 1) (fun e => hrR e.symm) _)
  have HB10 : Aside0 (Below w.heap.size w w10) := Aside0.mk (by rw [hw10]; exact below_set (below_drew1 HB9.out) hgrb)
  have HJ10 : Aside0 (SJ w.heap.size (.slice An mm.length cn) (.slice (some ⟨g, 0, none⟩) l1_1.length ct2) mm ((l1_1.set t xx).set t ⟨xx.f0, xx.f1.set r nv, xx.f2, xx.f3⟩) w10) := Aside0.mk (by rw [hw10, show w9.drew = w9.drewN 1 from rfl, st_drewN]; exact HSET.out.drewN 1)
  rw [← hw10]
  clear hw10 BN9 BR9 BX9 BS9 BO9 HB9 HM9 HJN9 HSET d1 d2 d3 en0 en1 ex1
  have HS10 : Aside0 (Kd.S k49 49 w10 w.heap.size (fun k => some k ≠ (Value.slice An mm.length cn).ownBlock) (.slice (some ⟨g, 0, none⟩) l1_1.length ct2) (l1_1.set t ⟨xx.f0, xx.f1.set r nv, xx.f2, xx.f3⟩)) := Aside0.mk (by have := HJ10.out.ths; rwa [List.set_set] at this)
  have HN10 := Aside0.mk HJ10.out.mem
  have o0 : w10.cell? ⟨bn, 0, none⟩ = some (.slice An mm.length cn) := (blk_cell BN10.out 0).trans rfl
  have o1 : w10.cell? ⟨bn, 1, none⟩ = some (.slice (some ⟨g, 0, none⟩) l1_1.length ct2) := (blk_cell BN10.out 1).trans rfl
  have rz0 : w10.cell? ⟨w.heap.size + 1 + 1 + 1, 0, none⟩ = some (.slice none 0 0) := (blk_cell BR10.out 0).trans rfl
  have rz1 : w10.cell? ⟨w.heap.size + 1 + 1 + 1, 1, none⟩ = some (.slice none 0 0) := (blk_cell BR10.out 1).trans rfl
  have rf0 := blk_frozen BR10.out 0
  have rf1 := blk_frozen BR10.out 1
  go_wp2_with fail
  have eb0 : ((w10.setCell ⟨w.heap.size + 1 + 1 + 1, 0, none⟩ (.slice An mm.length cn)).setCell ⟨w.heap.size + 1 + 1 + 1, 1, none⟩ (.slice (some ⟨g, 0, none⟩) l1_1.length ct2)).cell? ⟨w.heap.size + 1 + 1 + 1, 0, none⟩ = some (.slice An mm.length cn) := (blk_cell (blk_set (blk_set BR10.out 0 _) 1 _) 0).trans rfl
  have eb1 : ((w10.setCell ⟨w.heap.size + 1 + 1 + 1, 0, none⟩ (.slice An mm.length cn)).setCell ⟨w.heap.size + 1 + 1 + 1, 1, none⟩ (.slice (some ⟨g, 0, none⟩) l1_1.length ct2)).cell? ⟨w.heap.size + 1 + 1 + 1, 1, none⟩ = some (.slice (some ⟨g, 0, none⟩) l1_1.length ct2) := (blk_cell (blk_set (blk_set BR10.out 0 _) 1 _) 1).trans rfl
  have hV := Kd.R_V (base' := w.heap.size) (Kd.R_mono (Kd.R_bound (Kd.R_set (Kd.R_set HN10.out BR10.out (by decide) 0 (.slice An mm.length cn)) (blk_set BR10.out 0 _) (by decide) 1 (.slice (some ⟨g, 0, none⟩) l1_1.length ct2))) (fun _ hk => hk.2.1))
  have hT := Kd.S_V (base' := w.heap.size) (Kd.S_mono (Kd.S_bound (Kd.S_set (Kd.S_set HS10.out BR10.out (by decide) 0 (.slice An mm.length cn)) (blk_set BR10.out 0 _) (by decide) 1 (.slice (some ⟨g, 0, none⟩) l1_1.length ct2))) (fun _ hk => hk.2.1))
  have hG : tsoGo (⟨2, (r : Int), y2, y3, y4⟩ : S36) l1_0 x = (mm, ⟨xx.f0, xx.f1.set r nv, xx.f2, xx.f3⟩) := by unfold tsoGo; rw [HMM.out, HXX.out, HNV.out]; simp
  refine bodyPost_ret (v := .tuple #[.agg #[.slice An mm.length cn, .slice (some ⟨g, 0, none⟩) l1_1.length ct2], .bool true]) (by simp [results, Try.results14, go_sem, eb0, eb1]) rfl ⟨_, _, rfl, ?_, ?_, below_set (below_set HB10.out (by omega)) (by omega)⟩
  ·rw [hG]; exact hV
  ·rw [hG]; exact hT
 by_cases k3 : y0 = 3
 ·skip
  subst k3
  have nc2 : ((3 : Int) == 2) = false := by decide
  have ex0 : W7.cell? ⟨bx, 0, none⟩ = some (.int .i64 3) := (blk_cell BX7.out 0).trans rfl
  have eo0 : W7.cell? ⟨bo, 0, none⟩ = some (.slice Am l1_0.length cm) := (blk_cell BO7.out 0).trans rfl
  have en0 : W7.cell? ⟨bn, 0, none⟩ = some (.slice An mm.length cn) := (blk_cell BN7.out 0).trans rfl
  have en1 : W7.cell? ⟨bn, 1, none⟩ = some (.slice (some ⟨g, 0, none⟩) l1_1.length ct2) := (blk_cell BN7.out 1).trans rfl
  have nf := blk_frozen BN7.out 0
  go_upto_region 23 with fail
  obtain ⟨W8, hW8⟩ : ∃ W8, W8 = W7.setCell ⟨bn, 0, none⟩ (.slice Am l1_0.length cm) := ⟨_, rfl⟩
  have BS8 : Aside0 (W8.heap[w.heap.size + 1]? = some (.cells #[.slice A1_0 l1_0.length c1_0, .slice (some ad) l1_1.length c1_1] 41 (0, 0))) := Aside0.mk (by rw [hW8]; exact blk_far BS7.out (by show w.heap.size + 1 ≠ bn; omega) _)
  have BO8 : Aside0 (W8.heap[bo]? = some (.cells #[.slice Am l1_0.length cm, .slice At l1_1.length ct] 41 (0, 0))) := Aside0.mk (by rw [hW8]; exact blk_far BO7.out (by show bo ≠ bn; omega) _)
  have BR8 : Aside0 (W8.heap[w.heap.size + 1 + 1 + 1]? = some (.cells #[.slice none 0 0, .slice none 0 0] 41 (0, 0))) := Aside0.mk (by rw [hW8]; exact blk_far BR7.out (by show w.heap.size + 1 + 1 + 1 ≠ bn; omega) _)
  have BX8 : Aside0 (W8.heap[bx]? = some (.cells #[.int .i64 3, .int .i64 (r : Int), .int .i64 y2, .int .i64 y3, .int .i64 y4] 36 (0, 0))) := Aside0.mk (by rw [hW8]; exact blk_far BX7.out (by show bx ≠ bn; omega) _)
  have BN8 : Aside0 (W8.heap[bn]? = some (.cells #[.slice Am l1_0.length cm, .slice (some ⟨g, 0, none⟩) l1_1.length ct2] 41 (0, 0))) := Aside0.mk (by rw [hW8]; exact blk_set BN7.out 0 _)
  have HB8 : Aside0 (Below w.heap.size w W8) := Aside0.mk (by rw [hW8]; exact below_set HB7.out (by omega))
  have HM8 : Aside0 (Kd.R (Kd.int .i64) 3 W8 w.heap.size (fun _ => True) (.slice Am l1_0.length cm) l1_0) := Aside0.mk (by rw [hW8]; exact Kd.R_set HM7.out BN7.out (by decide) 0 _)
  have HJN8 : Aside0 (SJ w.heap.size (.slice An mm.length cn) (.slice (some ⟨g, 0, none⟩) l1_1.length ct2) mm (l1_1.set t xx) W8) := Aside0.mk (by rw [hW8]; exact HJN7.out.other BN7.out (by decide) (by decide) (by decide) _)
  rw [← hW8]
  clear hW8 BS7 BO7 BR7 BX7 BN7 HB7 HM7 HJN7 ex0 eo0 en0 en1 nf
  have ey3 := pw_cell_below HB8.out HY3.out
  have eq1 : W8.cell? ⟨w.heap.size + 1, 1, none⟩ = some (.slice (some ad) l1_1.length c1_1) := (blk_cell BS8.out 1).trans rfl
  have en1 : W8.cell? ⟨bn, 1, none⟩ = some (.slice (some ⟨g, 0, none⟩) l1_1.length ct2) := (blk_cell BN8.out 1).trans rfl
  have ex1 : W8.cell? ⟨bx, 1, none⟩ = some (.int .i64 (r : Int)) := (blk_cell BX8.out 1).trans rfl
  have ex2 : W8.cell? ⟨bx, 2, none⟩ = some (.int .i64 y2) := (blk_cell BX8.out 2).trans rfl
  have hxl : x.f1.length = 4 := HX1.out
  have hr4 : r < 4 := HR4.out
  have p4 : ((r : Int) < 4) = True := eq_true (by omega)
  have p5 : ((r : Int) < (x.f1.length : Int)) = True := eq_true (by omega)
  have p6 : (0 ≤ (r : Int)) = True := eq_true (by omega)
  have ey1 := pw_cell_below HB8.out HY1.out
  obtain ⟨ar, ear, har⟩ := Kd.at_int (Kd.C_below HI1.out HB8.out) (r : Int) (by omega) (by omega)
  subst ear
  have er : W8.cell? (ar.add r) = some (.int .i64 (rd x.f1 (r : Int))) := by have := har; rwa [Int.toNat_natCast] at this
  clear har
  obtain ⟨bs, hbs⟩ : ∃ q, q = x.f3 ++ [(⟨y2, rd x.f1 (r : Int)⟩ : S66)] := ⟨_, rfl⟩
  have HBS := Aside0.mk hbs
  have HPF : Aside0 (fencepostref09_Push.f x.f3 y2 (rd x.f1 (r : Int)) = some bs) := Aside0.mk (by rw [hbs]; exact rpush_f HX3.out y2 _)
  clear hbs
  refine start_ (n := 26) (S := fun w' => w'.cell? ⟨w.heap.size + 1, 1, none⟩ = some (.slice (some ad) l1_1.length c1_1) ∧ w'.cell? ⟨bn, 1, none⟩ = some (.slice (some ⟨g, 0, none⟩) l1_1.length ct2) ∧ w'.cell? ⟨(ad.add (t * 4)).block, (ad.add (t * 4)).off + 3, none⟩ = some (.slice A3 x.f3.length c3) ∧ w'.cell? ⟨bx, 2, none⟩ = some (.int .i64 y2) ∧ w'.cell? ⟨bx, 1, none⟩ = some (.int .i64 (r : Int)) ∧ w'.cell? ⟨(ad.add (t * 4)).block, (ad.add (t * 4)).off + 1, none⟩ = some (.slice (some ar) x.f1.length c1) ∧ w'.cell? (ar.add r) = some (.int .i64 (rd x.f1 (r : Int)))) (ds := [25]) #[false, false, false, false, false, false, false, false, false, false, false, false, false, false, false, false, false, false, false, false, false, false, false, false, false, false] (by kernel_rfl) rfl rfl ⟨by first | exact eq1 | simpa using eq1, by first | exact en1 | simpa using en1, by first | exact ey3 | simpa using ey3, by first | exact ex2 | simpa using ex2, by first | exact ex1 | simpa using ex1, by first | exact ey1 | simpa using ey1, by first | exact er | simpa using er⟩ (fun hHeld => ?_)
  have BS9 : Aside0 (W8.drew.heap[w.heap.size + 1]? = some (.cells #[.slice A1_0 l1_0.length c1_0, .slice (some ad) l1_1.length c1_1] 41 (0, 0))) := Aside0.mk (blk_drewN BS8.out 1)
  have BO9 : Aside0 (W8.drew.heap[bo]? = some (.cells #[.slice Am l1_0.length cm, .slice At l1_1.length ct] 41 (0, 0))) := Aside0.mk (blk_drewN BO8.out 1)
  have BR9 : Aside0 (W8.drew.heap[w.heap.size + 1 + 1 + 1]? = some (.cells #[.slice none 0 0, .slice none 0 0] 41 (0, 0))) := Aside0.mk (blk_drewN BR8.out 1)
  have BX9 : Aside0 (W8.drew.heap[bx]? = some (.cells #[.int .i64 3, .int .i64 (r : Int), .int .i64 y2, .int .i64 y3, .int .i64 y4] 36 (0, 0))) := Aside0.mk (blk_drewN BX8.out 1)
  have BN9 : Aside0 (W8.drew.heap[bn]? = some (.cells #[.slice Am l1_0.length cm, .slice (some ⟨g, 0, none⟩) l1_1.length ct2] 41 (0, 0))) := Aside0.mk (blk_drewN BN8.out 1)
  have HB9 : Aside0 (Below w.heap.size w (W8.drew)) := Aside0.mk (below_drew1 HB8.out)
  have HM9 : Aside0 (Kd.R (Kd.int .i64) 3 W8.drew w.heap.size (fun _ => True) (.slice Am l1_0.length cm) l1_0) := Aside0.mk (Kd.R_drewN HM8.out 1)
  have HJN9 : Aside0 (SJ w.heap.size (.slice An mm.length cn) (.slice (some ⟨g, 0, none⟩) l1_1.length ct2) mm (l1_1.set t xx) W8.drew) := Aside0.mk (HJN8.out.drewN 1)
  clear BS8 BO8 BR8 BX8 BN8 HB8 HM8 HJN8
  generalize W8.drew = W9 at BS9 BO9 BR9 BX9 BN9 HB9 HM9 HJN9 hHeld ⊢
  clear eq1 en1 ey3 ex2 ex1 ey1 er
  refine pure_ (i := 0) (N := some 132) (v := ?_) (a' := ?_) #[true, false, false, false, false, false, false, false, false, false, false, false, false, false, false, false, false, false, false, false, false, false, false, false, false, false] rfl rfl (by kernel_rfl) (fun _ _ _ h => h) (Or.inl ⟨by rfl, ?_⟩) ?_ ?_
  rotate_left
  ·intro w'
   go_simp
   with_reducible rfl
  rotate_left
  ·simp only [Act.put, List.setIfInBounds_toArray, List.set_cons_zero, List.set_cons_succ, i64_w, i32_w]
   rfl
  refine take_ (i := 1) (N := some 133) (v := ?_) (a' := ?_) #[true, true, false, false, false, false, false, false, false, false, false, false, false, false, false, false, false, false, false, false, false, false, false, false, false, false] rfl rfl (by kernel_rfl) (fun _ _ _ h => h) (Or.inl ⟨by rfl, ?_⟩) hHeld ?_ ?_
  rotate_left
  ·rintro w' ⟨s0, s1, s2, s3, s4, s5, s6⟩
   go_simp
   with_reducible rfl
  rotate_left
  ·simp only [Act.put, List.setIfInBounds_toArray, List.set_cons_zero, List.set_cons_succ, i64_w, i32_w]
   rfl
  refine pure_ (i := 2) (N := some 134) (v := ?_) (a' := ?_) #[true, true, true, false, false, false, false, false, false, false, false, false, false, false, false, false, false, false, false, false, false, false, false, false, false, false] rfl rfl (by kernel_rfl) (fun _ _ _ h => h) (Or.inl ⟨by rfl, ?_⟩) ?_ ?_
  rotate_left
  ·intro w'
   go_simp
   with_reducible rfl
  rotate_left
  ·simp only [Act.put, List.setIfInBounds_toArray, List.set_cons_zero, List.set_cons_succ, i64_w, i32_w]
   rfl
  refine pure_ (i := 3) (N := some 135) (v := ?_) (a' := ?_) #[true, true, true, true, false, false, false, false, false, false, false, false, false, false, false, false, false, false, false, false, false, false, false, false, false, false] rfl rfl (by kernel_rfl) (fun _ _ _ h => h) (Or.inl ⟨by rfl, ?_⟩) ?_ ?_
  rotate_left
  ·intro w'
   go_simp
   with_reducible rfl
  rotate_left
  ·simp only [Act.put, List.setIfInBounds_toArray, List.set_cons_zero, List.set_cons_succ, i64_w, i32_w]
   rfl
  refine take_ (i := 4) (N := some 136) (v := ?_) (a' := ?_) #[true, true, true, true, true, false, false, false, false, false, false, false, false, false, false, false, false, false, false, false, false, false, false, false, false, false] rfl rfl (by kernel_rfl) (fun _ _ _ h => h) (Or.inl ⟨by rfl, ?_⟩) hHeld ?_ ?_
  rotate_left
  ·rintro w' ⟨s0, s1, s2, s3, s4, s5, s6⟩
   go_simp
   with_reducible rfl
  rotate_left
  ·simp only [Act.put, List.setIfInBounds_toArray, List.set_cons_zero, List.set_cons_succ, i64_w, i32_w]
   rfl
  refine pure_ (i := 5) (N := some 137) (v := ?_) (a' := ?_) #[true, true, true, true, true, true, false, false, false, false, false, false, false, false, false, false, false, false, false, false, false, false, false, false, false, false] rfl rfl (by kernel_rfl) (fun _ _ _ h => h) (Or.inl ⟨by rfl, ?_⟩) ?_ ?_
  rotate_left
  ·intro w'
   go_simp
   with_reducible rfl
  rotate_left
  ·simp only [Act.put, List.setIfInBounds_toArray, List.set_cons_zero, List.set_cons_succ, i64_w, i32_w]
   rfl
  refine pure_ (i := 6) (N := some 138) (v := ?_) (a' := ?_) #[true, true, true, true, true, true, true, false, false, false, false, false, false, false, false, false, false, false, false, false, false, false, false, false, false, false] rfl rfl (by kernel_rfl) (fun _ _ _ h => h) (Or.inl ⟨by rfl, ?_⟩) ?_ ?_
  rotate_left
  ·intro w'
   go_simp
   with_reducible rfl
  rotate_left
  ·simp only [Act.put, List.setIfInBounds_toArray, List.set_cons_zero, List.set_cons_succ, i64_w, i32_w]
   rfl
  refine pure_ (i := 7) (N := some 139) (v := ?_) (a' := ?_) #[true, true, true, true, true, true, true, true, false, false, false, false, false, false, false, false, false, false, false, false, false, false, false, false, false, false] rfl rfl (by kernel_rfl) (fun _ _ _ h => h) (Or.inl ⟨by rfl, ?_⟩) ?_ ?_
  rotate_left
  ·intro w'
   go_simp
   with_reducible rfl
  rotate_left
  ·simp only [Act.put, List.setIfInBounds_toArray, List.set_cons_zero, List.set_cons_succ, i64_w, i32_w]
   rfl
  refine take_ (i := 8) (N := some 140) (v := ?_) (a' := ?_) #[true, true, true, true, true, true, true, true, true, false, false, false, false, false, false, false, false, false, false, false, false, false, false, false, false, false] rfl rfl (by kernel_rfl) (fun _ _ _ h => h) (Or.inl ⟨by rfl, ?_⟩) hHeld ?_ ?_
  rotate_left
  ·rintro w' ⟨s0, s1, s2, s3, s4, s5, s6⟩
   go_simp
   with_reducible rfl
  rotate_left
  ·simp only [Act.put, List.setIfInBounds_toArray, List.set_cons_zero, List.set_cons_succ, i64_w, i32_w]
   rfl
  refine pure_ (i := 9) (N := some 141) (v := ?_) (a' := ?_) #[true, true, true, true, true, true, true, true, true, true, false, false, false, false, false, false, false, false, false, false, false, false, false, false, false, false] rfl rfl (by kernel_rfl) (fun _ _ _ h => h) (Or.inl ⟨by rfl, ?_⟩) ?_ ?_
  rotate_left
  ·intro w'
   go_simp
   with_reducible rfl
  rotate_left
  ·simp only [Act.put, List.setIfInBounds_toArray, List.set_cons_zero, List.set_cons_succ, i64_w, i32_w]
   rfl
  refine take_ (i := 10) (N := some 142) (v := ?_) (a' := ?_) #[true, true, true, true, true, true, true, true, true, true, true, false, false, false, false, false, false, false, false, false, false, false, false, false, false, false] rfl rfl (by kernel_rfl) (fun _ _ _ h => h) (Or.inl ⟨by rfl, ?_⟩) hHeld ?_ ?_
  rotate_left
  ·rintro w' ⟨s0, s1, s2, s3, s4, s5, s6⟩
   go_simp
   with_reducible rfl
  rotate_left
  ·simp only [Act.put, List.setIfInBounds_toArray, List.set_cons_zero, List.set_cons_succ, i64_w, i32_w]
   rfl
  refine pure_ (i := 11) (N := some 143) (v := ?_) (a' := ?_) #[true, true, true, true, true, true, true, true, true, true, true, true, false, false, false, false, false, false, false, false, false, false, false, false, false, false] rfl rfl (by kernel_rfl) (fun _ _ _ h => h) (Or.inl ⟨by rfl, ?_⟩) ?_ ?_
  rotate_left
  ·intro w'
   go_simp
   with_reducible rfl
  rotate_left
  ·simp only [Act.put, List.setIfInBounds_toArray, List.set_cons_zero, List.set_cons_succ, i64_w, i32_w]
   rfl
  refine take_ (i := 12) (N := some 144) (v := ?_) (a' := ?_) #[true, true, true, true, true, true, true, true, true, true, true, true, true, false, false, false, false, false, false, false, false, false, false, false, false, false] rfl rfl (by kernel_rfl) (fun _ _ _ h => h) (Or.inl ⟨by rfl, ?_⟩) hHeld ?_ ?_
  rotate_left
  ·rintro w' ⟨s0, s1, s2, s3, s4, s5, s6⟩
   go_simp
   with_reducible rfl
  rotate_left
  ·simp only [Act.put, List.setIfInBounds_toArray, List.set_cons_zero, List.set_cons_succ, i64_w, i32_w]
   rfl
  refine pure_ (i := 13) (N := some 145) (v := ?_) (a' := ?_) #[true, true, true, true, true, true, true, true, true, true, true, true, true, true, false, false, false, false, false, false, false, false, false, false, false, false] rfl rfl (by kernel_rfl) (fun _ _ _ h => h) (Or.inl ⟨by rfl, ?_⟩) ?_ ?_
  rotate_left
  ·intro w'
   go_simp
   with_reducible rfl
  rotate_left
  ·simp only [Act.put, List.setIfInBounds_toArray, List.set_cons_zero, List.set_cons_succ, i64_w, i32_w]
   rfl
  refine pure_ (i := 14) (N := some 146) (v := ?_) (a' := ?_) #[true, true, true, true, true, true, true, true, true, true, true, true, true, true, true, false, false, false, false, false, false, false, false, false, false, false] rfl rfl (by kernel_rfl) (fun _ _ _ h => h) (Or.inl ⟨by rfl, ?_⟩) ?_ ?_
  rotate_left
  ·intro w'
   go_simp
   with_reducible rfl
  rotate_left
  ·simp only [Act.put, List.setIfInBounds_toArray, List.set_cons_zero, List.set_cons_succ, i64_w, i32_w]
   rfl
  refine pure_ (i := 15) (N := some 147) (v := ?_) (a' := ?_) #[true, true, true, true, true, true, true, true, true, true, true, true, true, true, true, true, false, false, false, false, false, false, false, false, false, false] rfl rfl (by kernel_rfl) (fun _ _ _ h => h) (Or.inl ⟨by rfl, ?_⟩) ?_ ?_
  rotate_left
  ·intro w'
   go_simp
   with_reducible rfl
  rotate_left
  ·simp only [Act.put, List.setIfInBounds_toArray, List.set_cons_zero, List.set_cons_succ, i64_w, i32_w]
   rfl
  refine take_ (i := 16) (N := some 148) (v := ?_) (a' := ?_) #[true, true, true, true, true, true, true, true, true, true, true, true, true, true, true, true, true, false, false, false, false, false, false, false, false, false] rfl rfl (by kernel_rfl) (fun _ _ _ h => h) (Or.inl ⟨by rfl, ?_⟩) hHeld ?_ ?_
  rotate_left
  ·rintro w' ⟨s0, s1, s2, s3, s4, s5, s6⟩
   go_simp
   with_reducible rfl
  rotate_left
  ·simp only [Act.put, List.setIfInBounds_toArray, List.set_cons_zero, List.set_cons_succ, i64_w, i32_w]
   rfl
  refine pure_ (i := 17) (N := some 149) (v := ?_) (a' := ?_) #[true, true, true, true, true, true, true, true, true, true, true, true, true, true, true, true, true, true, false, false, false, false, false, false, false, false] rfl rfl (by kernel_rfl) (fun _ _ _ h => h) (Or.inl ⟨by rfl, ?_⟩) ?_ ?_
  rotate_left
  ·intro w'
   go_simp
   with_reducible rfl
  rotate_left
  ·simp only [Act.put, List.setIfInBounds_toArray, List.set_cons_zero, List.set_cons_succ, i64_w, i32_w]
   rfl
  refine take_ (i := 18) (N := some 150) (v := ?_) (a' := ?_) #[true, true, true, true, true, true, true, true, true, true, true, true, true, true, true, true, true, true, true, false, false, false, false, false, false, false] rfl rfl (by kernel_rfl) (fun _ _ _ h => h) (Or.inl ⟨by rfl, ?_⟩) hHeld ?_ ?_
  rotate_left
  ·rintro w' ⟨s0, s1, s2, s3, s4, s5, s6⟩
   go_simp
   with_reducible rfl
  rotate_left
  ·simp only [Act.put, List.setIfInBounds_toArray, List.set_cons_zero, List.set_cons_succ, i64_w, i32_w]
   rfl
  refine pure_ (i := 19) (N := some 151) (v := ?_) (a' := ?_) #[true, true, true, true, true, true, true, true, true, true, true, true, true, true, true, true, true, true, true, true, false, false, false, false, false, false] rfl rfl (by kernel_rfl) (fun _ _ _ h => h) (Or.inl ⟨by rfl, ?_⟩) ?_ ?_
  rotate_left
  ·intro w'
   go_simp
   with_reducible rfl
  rotate_left
  ·simp only [Act.put, List.setIfInBounds_toArray, List.set_cons_zero, List.set_cons_succ, i64_w, i32_w]
   rfl
  refine take_ (i := 20) (N := some 152) (v := ?_) (a' := ?_) #[true, true, true, true, true, true, true, true, true, true, true, true, true, true, true, true, true, true, true, true, true, false, false, false, false, false] rfl rfl (by kernel_rfl) (fun _ _ _ h => h) (Or.inl ⟨by rfl, ?_⟩) hHeld ?_ ?_
  rotate_left
  ·rintro w' ⟨s0, s1, s2, s3, s4, s5, s6⟩
   go_simp
   with_reducible rfl
  rotate_left
  ·simp only [Act.put, List.setIfInBounds_toArray, List.set_cons_zero, List.set_cons_succ, i64_w, i32_w]
   rfl
  refine pure_ (i := 21) (N := some 153) (v := ?_) (a' := ?_) #[true, true, true, true, true, true, true, true, true, true, true, true, true, true, true, true, true, true, true, true, true, true, false, false, false, false] rfl rfl (by kernel_rfl) (fun _ _ _ h => h) (Or.inl ⟨by rfl, ?_⟩) ?_ ?_
  rotate_left
  ·intro w'
   go_simp
   with_reducible rfl
  rotate_left
  ·simp only [Act.put, List.setIfInBounds_toArray, List.set_cons_zero, List.set_cons_succ, i64_w, i32_w]
   rfl
  refine one_ (i := 22) (N := some 154) #[true, true, true, true, true, true, true, true, true, true, true, true, true, true, true, true, true, true, true, true, true, true, true, false, false, false] rfl rfl (by kernel_rfl) (by decide) (fun K hK => ?_)
  refine goes_ Try.func27 (by kernel_rfl) rfl #[.slice A3 x.f3.length c3, .agg #[.int .i64 y2, .int .i64 (rd x.f1 (r : Int))]] (by rfl) rfl rfl (by (try simp only [List.map_toArray, List.map_cons, List.map_nil]); first | done | rfl) ?_
  refine (fencepostref09_Push.calls A3 c3 x.f3 y2 (rd x.f1 (r : Int)) bs W9 (Kd.C_below HI3.out HB9.out) HL3.out HPF.out).mono ?_
  rintro e w10 ⟨vb, rfl, hRb, hb10⟩
  obtain ⟨Ab, cb, rfl⟩ := Kd.R_slice hRb
  refine ⟨_, rfl, ?_⟩
  have HRB := Aside0.mk hRb
  have HB10' := Aside0.mk hb10
  clear hRb hb10
  have hh : w10.cell? ⟨w.heap.size + 1, 1, none⟩ = some (.slice (some ad) l1_1.length c1_1) ∧ w10.cell? ⟨bn, 1, none⟩ = some (.slice (some ⟨g, 0, none⟩) l1_1.length ct2) ∧ w10.cell? ⟨(ad.add (t * 4)).block, (ad.add (t * 4)).off + 3, none⟩ = some (.slice A3 x.f3.length c3) ∧ w10.cell? ⟨bx, 2, none⟩ = some (.int .i64 y2) ∧ w10.cell? ⟨bx, 1, none⟩ = some (.int .i64 (r : Int)) ∧ w10.cell? ⟨(ad.add (t * 4)).block, (ad.add (t * 4)).off + 1, none⟩ = some (.slice (some ar) x.f1.length c1) ∧ w10.cell? (ar.add r) = some (.int .i64 (rd x.f1 (r : Int))) := by obtain ⟨s0, s1, s2, s3, s4, s5, s6⟩ := hHeld; exact ⟨pw_cell_below HB10'.out s0, pw_cell_below HB10'.out s1, pw_cell_below HB10'.out s2, pw_cell_below HB10'.out s3, pw_cell_below HB10'.out s4, pw_cell_below HB10'.out s5, pw_cell_below HB10'.out s6⟩
  refine hK.out _ _ hh (fun hHeld => ?_)
  clear hh hHeld
  clear hK K
  refine norm_ (a' := ?_) ?_ ?_
  rotate_left
  ·show Act.put _ (some 154) _ = _
   simp only [Act.put, List.setIfInBounds_toArray, List.set_cons_zero, List.set_cons_succ, i64_w, i32_w]
   rfl
  refine pure_ (i := 23) (N := some 155) (v := ?_) (a' := ?_) #[true, true, true, true, true, true, true, true, true, true, true, true, true, true, true, true, true, true, true, true, true, true, true, true, false, false] rfl rfl (by kernel_rfl) (fun _ _ _ h => h) (Or.inl ⟨by rfl, ?_⟩) ?_ ?_
  rotate_left
  ·intro w'
   go_simp
   with_reducible rfl
  rotate_left
  ·simp only [Act.put, List.setIfInBounds_toArray, List.set_cons_zero, List.set_cons_succ, i64_w, i32_w]
   rfl
  refine pure_ (i := 24) (N := some 156) (v := ?_) (a' := ?_) #[true, true, true, true, true, true, true, true, true, true, true, true, true, true, true, true, true, true, true, true, true, true, true, true, true, false] rfl rfl (by kernel_rfl) (fun _ _ _ h => h) (Or.inl ⟨by rfl, ?_⟩) ?_ ?_
  rotate_left
  ·intro w'
   go_simp
   with_reducible rfl
  rotate_left
  ·simp only [Act.put, List.setIfInBounds_toArray, List.set_cons_zero, List.set_cons_succ, i64_w, i32_w]
   rfl
  have hb09 : w.heap.size ≤ W9.heap.size := HB9.out.size
  have HS10 := Aside0.mk (Kd.S_mono (ok' := fun k => True ∧ some k ≠ (Value.slice Ab bs.length cb).ownBlock) (Kd.S_elder' HJN9.out.ths (v := .slice Ab bs.length cb) (Kd.R_base HRB.out) HB10'.out) (fun k hk => ⟨trivial, hk.2⟩))
  have HRB10 := Aside0.mk (Kd.R_lower HRB.out hb09)
  have BS10 := Aside0.mk (blk_below BS9.out HB10'.out)
  have BO10 := Aside0.mk (blk_below BO9.out HB10'.out)
  have BR10 := Aside0.mk (blk_below BR9.out HB10'.out)
  have BX10 := Aside0.mk (blk_below BX9.out HB10'.out)
  have BN10 := Aside0.mk (blk_below BN9.out HB10'.out)
  have HB10 := Aside0.mk (below_step HB9.out HB10'.out)
  have HM10 := Aside0.mk (Kd.R_below HM9.out HB10'.out)
  have HJN10 := Aside0.mk (HJN9.out.below HB10'.out)
  clear BS9 BO9 BR9 BX9 BN9 HB9 HM9 HJN9
  clear HRB HB10'
  obtain ⟨v3, hc3⟩ : ∃ v3, w10.cell? ⟨g, t * 4 + 3, none⟩ = some v3 := S_c3 HS10.out (set_get HX.out)
  have hf3 : w10.frozen? ⟨g, t * 4 + 3, none⟩ = false := S_f3 HS10.out (set_get HX.out)
  refine last_ (i := 25) (N := none) #[true, true, true, true, true, true, true, true, true, true, true, true, true, true, true, true, true, true, true, true, true, true, true, true, true, true] rfl rfl (by kernel_rfl) (by decide) (fun K hK => ?_)
  refine skip_ (w1 := ?_) (by rfl) rfl ?_ ?_
  rotate_left
  ·go_simp
   rfl
  refine hK.out _ _ ?_
  clear hK K
  refine done_ (by kernel_rfl) ?_
  go_upto_region 27 with fail
  obtain ⟨w11, hw11⟩ : ∃ w11, w11 = w10.setCell ⟨g, t * 4 + 3, none⟩ (.slice Ab bs.length cb) := ⟨_, rfl⟩
  obtain ⟨cg, hcg⟩ := Kd.S_typed HS10.out g (by simp [Value.ownBlock])
  have hgb : w.heap.size ≤ g := Kd.S_base HS10.out g (by simp [Value.ownBlock])
  have hgR : g ≠ w.heap.size + 1 + 1 + 1 := types_ne hcg BR10.out (by decide)
  have hgn : g ≠ bn := types_ne hcg BN10.out (by decide)
  have BN11 : Aside0 (w11.heap[bn]? = some (.cells #[.slice Am l1_0.length cm, .slice (some ⟨g, 0, none⟩) l1_1.length ct2] 41 (0, 0))) := Aside0.mk (by rw [hw11]; exact blk_far BN10.out (fun e => hgn e.symm) _)
  have BR11 : Aside0 (w11.heap[w.heap.size + 1 + 1 + 1]? = some (.cells #[.slice none 0 0, .slice none 0 0] 41 (0, 0))) := Aside0.mk (by rw [hw11]; exact blk_far BR10.out (fun e => hgR e.symm) _)
  have HB11 : Aside0 (Below w.heap.size w w11) := Aside0.mk (by rw [hw11]; exact below_set HB10.out hgb)
  have HS11 : Aside0 (Kd.S k49 49 w11 w.heap.size (fun _ => True) (.slice (some ⟨g, 0, none⟩) l1_1.length ct2) (l1_1.set t ⟨xx.f0, xx.f1, xx.f2, bs⟩)) := Aside0.mk (by have := S_buf HS10.out (set_get HX.out) HRB10.out; rw [List.set_set] at this; rw [hw11]; exact this)
  have HM11 : Aside0 (Kd.R (Kd.int .i64) 3 w11 w.heap.size (fun _ => True) (.slice Am l1_0.length cm) l1_0) := Aside0.mk (by rw [hw11]; exact Kd.R_set HM10.out hcg (by decide) _ _)
  change Code.wp _ _ _ _ (w10.setCell ⟨g, t * 4 + 3, none⟩ (.slice Ab bs.length cb))
  rw [← hw11]
  clear hw11 BS10 BO10 BR10 BX10 BN10 HB10 HM10 HJN10 HS10 HRB10 hc3 hf3 hcg cg
  have o0 : w11.cell? ⟨bn, 0, none⟩ = some (.slice Am l1_0.length cm) := (blk_cell BN11.out 0).trans rfl
  have o1 : w11.cell? ⟨bn, 1, none⟩ = some (.slice (some ⟨g, 0, none⟩) l1_1.length ct2) := (blk_cell BN11.out 1).trans rfl
  have rz0 : w11.cell? ⟨w.heap.size + 1 + 1 + 1, 0, none⟩ = some (.slice none 0 0) := (blk_cell BR11.out 0).trans rfl
  have rz1 : w11.cell? ⟨w.heap.size + 1 + 1 + 1, 1, none⟩ = some (.slice none 0 0) := (blk_cell BR11.out 1).trans rfl
  have rf0 := blk_frozen BR11.out 0
  have rf1 := blk_frozen BR11.out 1
  go_wp2_with fail
  have eb0 : ((w11.setCell ⟨w.heap.size + 1 + 1 + 1, 0, none⟩ (.slice Am l1_0.length cm)).setCell ⟨w.heap.size + 1 + 1 + 1, 1, none⟩ (.slice (some ⟨g, 0, none⟩) l1_1.length ct2)).cell? ⟨w.heap.size + 1 + 1 + 1, 0, none⟩ = some (.slice Am l1_0.length cm) := (blk_cell (blk_set (blk_set BR11.out 0 _) 1 _) 0).trans rfl
  have eb1 : ((w11.setCell ⟨w.heap.size + 1 + 1 + 1, 0, none⟩ (.slice Am l1_0.length cm)).setCell ⟨w.heap.size + 1 + 1 + 1, 1, none⟩ (.slice (some ⟨g, 0, none⟩) l1_1.length ct2)).cell? ⟨w.heap.size + 1 + 1 + 1, 1, none⟩ = some (.slice (some ⟨g, 0, none⟩) l1_1.length ct2) := (blk_cell (blk_set (blk_set BR11.out 0 _) 1 _) 1).trans rfl
  have hV := Kd.R_V (base' := w.heap.size) (Kd.R_mono (Kd.R_bound (Kd.R_set (Kd.R_set HM11.out BR11.out (by decide) 0 (.slice Am l1_0.length cm)) (blk_set BR11.out 0 _) (by decide) 1 (.slice (some ⟨g, 0, none⟩) l1_1.length ct2))) (fun _ hk => hk.2.1))
  have hT := Kd.S_V (base' := w.heap.size) (Kd.S_mono (Kd.S_bound (Kd.S_set (Kd.S_set HS11.out BR11.out (by decide) 0 (.slice Am l1_0.length cm)) (blk_set BR11.out 0 _) (by decide) 1 (.slice (some ⟨g, 0, none⟩) l1_1.length ct2))) (fun _ hk => hk.2.1))
  have hG : tsoGo (⟨3, (r : Int), y2, y3, y4⟩ : S36) l1_0 x = (l1_0, ⟨xx.f0, xx.f1, xx.f2, bs⟩) := by unfold tsoGo; rw [HXX.out, HBS.out]; simp
  refine bodyPost_ret (v := .tuple #[.agg #[.slice Am l1_0.length cm, .slice (some ⟨g, 0, none⟩) l1_1.length ct2], .bool true]) (by simp [results, Try.results14, go_sem, eb0, eb1]) rfl ⟨_, _, rfl, ?_, ?_, below_set (below_set HB11.out (by omega)) (by omega)⟩
  ·rw [hG]; exact hV
  ·rw [hG]; exact hT
 by_cases k4 : y0 = 4
 ·skip
  subst k4
  have nc2 : ((4 : Int) == 2) = false := by decide
  have nc3 : ((4 : Int) == 3) = false := by decide
  have ex0 : W7.cell? ⟨bx, 0, none⟩ = some (.int .i64 4) := (blk_cell BX7.out 0).trans rfl
  have eo0 : W7.cell? ⟨bo, 0, none⟩ = some (.slice Am l1_0.length cm) := (blk_cell BO7.out 0).trans rfl
  have en0 : W7.cell? ⟨bn, 0, none⟩ = some (.slice An mm.length cn) := (blk_cell BN7.out 0).trans rfl
  have en1 : W7.cell? ⟨bn, 1, none⟩ = some (.slice (some ⟨g, 0, none⟩) l1_1.length ct2) := (blk_cell BN7.out 1).trans rfl
  have nf := blk_frozen BN7.out 0
  go_upto_region 26 with fail
  obtain ⟨W8, hW8⟩ : ∃ W8, W8 = W7.setCell ⟨bn, 0, none⟩ (.slice Am l1_0.length cm) := ⟨_, rfl⟩
  have BS8 : Aside0 (W8.heap[w.heap.size + 1]? = some (.cells #[.slice A1_0 l1_0.length c1_0, .slice (some ad) l1_1.length c1_1] 41 (0, 0))) := Aside0.mk (by rw [hW8]; exact blk_far BS7.out (by show w.heap.size + 1 ≠ bn; omega) _)
  have BO8 : Aside0 (W8.heap[bo]? = some (.cells #[.slice Am l1_0.length cm, .slice At l1_1.length ct] 41 (0, 0))) := Aside0.mk (by rw [hW8]; exact blk_far BO7.out (by show bo ≠ bn; omega) _)
  have BR8 : Aside0 (W8.heap[w.heap.size + 1 + 1 + 1]? = some (.cells #[.slice none 0 0, .slice none 0 0] 41 (0, 0))) := Aside0.mk (by rw [hW8]; exact blk_far BR7.out (by show w.heap.size + 1 + 1 + 1 ≠ bn; omega) _)
  have BX8 : Aside0 (W8.heap[bx]? = some (.cells #[.int .i64 4, .int .i64 (r : Int), .int .i64 y2, .int .i64 y3, .int .i64 y4] 36 (0, 0))) := Aside0.mk (by rw [hW8]; exact blk_far BX7.out (by show bx ≠ bn; omega) _)
  have BN8 : Aside0 (W8.heap[bn]? = some (.cells #[.slice Am l1_0.length cm, .slice (some ⟨g, 0, none⟩) l1_1.length ct2] 41 (0, 0))) := Aside0.mk (by rw [hW8]; exact blk_set BN7.out 0 _)
  have HB8 : Aside0 (Below w.heap.size w W8) := Aside0.mk (by rw [hW8]; exact below_set HB7.out (by omega))
  have HM8 : Aside0 (Kd.R (Kd.int .i64) 3 W8 w.heap.size (fun _ => True) (.slice Am l1_0.length cm) l1_0) := Aside0.mk (by rw [hW8]; exact Kd.R_set HM7.out BN7.out (by decide) 0 _)
  have HJN8 : Aside0 (SJ w.heap.size (.slice An mm.length cn) (.slice (some ⟨g, 0, none⟩) l1_1.length ct2) mm (l1_1.set t xx) W8) := Aside0.mk (by rw [hW8]; exact HJN7.out.other BN7.out (by decide) (by decide) (by decide) _)
  rw [← hW8]
  clear hW8 BS7 BO7 BR7 BX7 BN7 HB7 HM7 HJN7 ex0 eo0 en0 en1 nf
  have ey3 := pw_cell_below HB8.out HY3.out
  have eq1 : W8.cell? ⟨w.heap.size + 1, 1, none⟩ = some (.slice (some ad) l1_1.length c1_1) := (blk_cell BS8.out 1).trans rfl
  have en1 : W8.cell? ⟨bn, 1, none⟩ = some (.slice (some ⟨g, 0, none⟩) l1_1.length ct2) := (blk_cell BN8.out 1).trans rfl
  have ex2 : W8.cell? ⟨bx, 2, none⟩ = some (.int .i64 y2) := (blk_cell BX8.out 2).trans rfl
  have ex3 : W8.cell? ⟨bx, 3, none⟩ = some (.int .i64 y3) := (blk_cell BX8.out 3).trans rfl
  obtain ⟨bs, hbs⟩ : ∃ q, q = x.f3 ++ [(⟨y2, y3⟩ : S66)] := ⟨_, rfl⟩
  have HBS := Aside0.mk hbs
  have HPF : Aside0 (fencepostref09_Push.f x.f3 y2 (y3) = some bs) := Aside0.mk (by rw [hbs]; exact rpush_f HX3.out y2 _)
  clear hbs
  refine start_ (n := 18) (S := fun w' => w'.cell? ⟨w.heap.size + 1, 1, none⟩ = some (.slice (some ad) l1_1.length c1_1) ∧ w'.cell? ⟨bn, 1, none⟩ = some (.slice (some ⟨g, 0, none⟩) l1_1.length ct2) ∧ w'.cell? ⟨(ad.add (t * 4)).block, (ad.add (t * 4)).off + 3, none⟩ = some (.slice A3 x.f3.length c3) ∧ w'.cell? ⟨bx, 2, none⟩ = some (.int .i64 y2) ∧ w'.cell? ⟨bx, 3, none⟩ = some (.int .i64 y3)) (ds := [17]) #[false, false, false, false, false, false, false, false, false, false, false, false, false, false, false, false, false, false] (by kernel_rfl) rfl rfl ⟨by first | exact eq1 | simpa using eq1, by first | exact en1 | simpa using en1, by first | exact ey3 | simpa using ey3, by first | exact ex2 | simpa using ex2, by first | exact ex3 | simpa using ex3⟩ (fun hHeld => ?_)
  have BS9 : Aside0 (W8.drew.heap[w.heap.size + 1]? = some (.cells #[.slice A1_0 l1_0.length c1_0, .slice (some ad) l1_1.length c1_1] 41 (0, 0))) := Aside0.mk (blk_drewN BS8.out 1)
  have BO9 : Aside0 (W8.drew.heap[bo]? = some (.cells #[.slice Am l1_0.length cm, .slice At l1_1.length ct] 41 (0, 0))) := Aside0.mk (blk_drewN BO8.out 1)
  have BR9 : Aside0 (W8.drew.heap[w.heap.size + 1 + 1 + 1]? = some (.cells #[.slice none 0 0, .slice none 0 0] 41 (0, 0))) := Aside0.mk (blk_drewN BR8.out 1)
  have BX9 : Aside0 (W8.drew.heap[bx]? = some (.cells #[.int .i64 4, .int .i64 (r : Int), .int .i64 y2, .int .i64 y3, .int .i64 y4] 36 (0, 0))) := Aside0.mk (blk_drewN BX8.out 1)
  have BN9 : Aside0 (W8.drew.heap[bn]? = some (.cells #[.slice Am l1_0.length cm, .slice (some ⟨g, 0, none⟩) l1_1.length ct2] 41 (0, 0))) := Aside0.mk (blk_drewN BN8.out 1)
  have HB9 : Aside0 (Below w.heap.size w (W8.drew)) := Aside0.mk (below_drew1 HB8.out)
  have HM9 : Aside0 (Kd.R (Kd.int .i64) 3 W8.drew w.heap.size (fun _ => True) (.slice Am l1_0.length cm) l1_0) := Aside0.mk (Kd.R_drewN HM8.out 1)
  have HJN9 : Aside0 (SJ w.heap.size (.slice An mm.length cn) (.slice (some ⟨g, 0, none⟩) l1_1.length ct2) mm (l1_1.set t xx) W8.drew) := Aside0.mk (HJN8.out.drewN 1)
  clear BS8 BO8 BR8 BX8 BN8 HB8 HM8 HJN8
  generalize W8.drew = W9 at BS9 BO9 BR9 BX9 BN9 HB9 HM9 HJN9 hHeld ⊢
  clear eq1 en1 ey3 ex2 ex3
  refine pure_ (i := 0) (N := some 162) (v := ?_) (a' := ?_) #[true, false, false, false, false, false, false, false, false, false, false, false, false, false, false, false, false, false] rfl rfl (by kernel_rfl) (fun _ _ _ h => h) (Or.inl ⟨by rfl, ?_⟩) ?_ ?_
  rotate_left
  ·intro w'
   go_simp
   with_reducible rfl
  rotate_left
  ·simp only [Act.put, List.setIfInBounds_toArray, List.set_cons_zero, List.set_cons_succ, i64_w, i32_w]
   rfl
  refine take_ (i := 1) (N := some 163) (v := ?_) (a' := ?_) #[true, true, false, false, false, false, false, false, false, false, false, false, false, false, false, false, false, false] rfl rfl (by kernel_rfl) (fun _ _ _ h => h) (Or.inl ⟨by rfl, ?_⟩) hHeld ?_ ?_
  rotate_left
  ·rintro w' ⟨s0, s1, s2, s3, s4⟩
   go_simp
   with_reducible rfl
  rotate_left
  ·simp only [Act.put, List.setIfInBounds_toArray, List.set_cons_zero, List.set_cons_succ, i64_w, i32_w]
   rfl
  refine pure_ (i := 2) (N := some 164) (v := ?_) (a' := ?_) #[true, true, true, false, false, false, false, false, false, false, false, false, false, false, false, false, false, false] rfl rfl (by kernel_rfl) (fun _ _ _ h => h) (Or.inl ⟨by rfl, ?_⟩) ?_ ?_
  rotate_left
  ·intro w'
   go_simp
   with_reducible rfl
  rotate_left
  ·simp only [Act.put, List.setIfInBounds_toArray, List.set_cons_zero, List.set_cons_succ, i64_w, i32_w]
   rfl
  refine pure_ (i := 3) (N := some 165) (v := ?_) (a' := ?_) #[true, true, true, true, false, false, false, false, false, false, false, false, false, false, false, false, false, false] rfl rfl (by kernel_rfl) (fun _ _ _ h => h) (Or.inl ⟨by rfl, ?_⟩) ?_ ?_
  rotate_left
  ·intro w'
   go_simp
   with_reducible rfl
  rotate_left
  ·simp only [Act.put, List.setIfInBounds_toArray, List.set_cons_zero, List.set_cons_succ, i64_w, i32_w]
   rfl
  refine take_ (i := 4) (N := some 166) (v := ?_) (a' := ?_) #[true, true, true, true, true, false, false, false, false, false, false, false, false, false, false, false, false, false] rfl rfl (by kernel_rfl) (fun _ _ _ h => h) (Or.inl ⟨by rfl, ?_⟩) hHeld ?_ ?_
  rotate_left
  ·rintro w' ⟨s0, s1, s2, s3, s4⟩
   go_simp
   with_reducible rfl
  rotate_left
  ·simp only [Act.put, List.setIfInBounds_toArray, List.set_cons_zero, List.set_cons_succ, i64_w, i32_w]
   rfl
  refine pure_ (i := 5) (N := some 167) (v := ?_) (a' := ?_) #[true, true, true, true, true, true, false, false, false, false, false, false, false, false, false, false, false, false] rfl rfl (by kernel_rfl) (fun _ _ _ h => h) (Or.inl ⟨by rfl, ?_⟩) ?_ ?_
  rotate_left
  ·intro w'
   go_simp
   with_reducible rfl
  rotate_left
  ·simp only [Act.put, List.setIfInBounds_toArray, List.set_cons_zero, List.set_cons_succ, i64_w, i32_w]
   rfl
  refine pure_ (i := 6) (N := some 168) (v := ?_) (a' := ?_) #[true, true, true, true, true, true, true, false, false, false, false, false, false, false, false, false, false, false] rfl rfl (by kernel_rfl) (fun _ _ _ h => h) (Or.inl ⟨by rfl, ?_⟩) ?_ ?_
  rotate_left
  ·intro w'
   go_simp
   with_reducible rfl
  rotate_left
  ·simp only [Act.put, List.setIfInBounds_toArray, List.set_cons_zero, List.set_cons_succ, i64_w, i32_w]
   rfl
  refine pure_ (i := 7) (N := some 169) (v := ?_) (a' := ?_) #[true, true, true, true, true, true, true, true, false, false, false, false, false, false, false, false, false, false] rfl rfl (by kernel_rfl) (fun _ _ _ h => h) (Or.inl ⟨by rfl, ?_⟩) ?_ ?_
  rotate_left
  ·intro w'
   go_simp
   with_reducible rfl
  rotate_left
  ·simp only [Act.put, List.setIfInBounds_toArray, List.set_cons_zero, List.set_cons_succ, i64_w, i32_w]
   rfl
  refine take_ (i := 8) (N := some 170) (v := ?_) (a' := ?_) #[true, true, true, true, true, true, true, true, true, false, false, false, false, false, false, false, false, false] rfl rfl (by kernel_rfl) (fun _ _ _ h => h) (Or.inl ⟨by rfl, ?_⟩) hHeld ?_ ?_
  rotate_left
  ·rintro w' ⟨s0, s1, s2, s3, s4⟩
   go_simp
   with_reducible rfl
  rotate_left
  ·simp only [Act.put, List.setIfInBounds_toArray, List.set_cons_zero, List.set_cons_succ, i64_w, i32_w]
   rfl
  refine pure_ (i := 9) (N := some 171) (v := ?_) (a' := ?_) #[true, true, true, true, true, true, true, true, true, true, false, false, false, false, false, false, false, false] rfl rfl (by kernel_rfl) (fun _ _ _ h => h) (Or.inl ⟨by rfl, ?_⟩) ?_ ?_
  rotate_left
  ·intro w'
   go_simp
   with_reducible rfl
  rotate_left
  ·simp only [Act.put, List.setIfInBounds_toArray, List.set_cons_zero, List.set_cons_succ, i64_w, i32_w]
   rfl
  refine take_ (i := 10) (N := some 172) (v := ?_) (a' := ?_) #[true, true, true, true, true, true, true, true, true, true, true, false, false, false, false, false, false, false] rfl rfl (by kernel_rfl) (fun _ _ _ h => h) (Or.inl ⟨by rfl, ?_⟩) hHeld ?_ ?_
  rotate_left
  ·rintro w' ⟨s0, s1, s2, s3, s4⟩
   go_simp
   with_reducible rfl
  rotate_left
  ·simp only [Act.put, List.setIfInBounds_toArray, List.set_cons_zero, List.set_cons_succ, i64_w, i32_w]
   rfl
  refine pure_ (i := 11) (N := some 173) (v := ?_) (a' := ?_) #[true, true, true, true, true, true, true, true, true, true, true, true, false, false, false, false, false, false] rfl rfl (by kernel_rfl) (fun _ _ _ h => h) (Or.inl ⟨by rfl, ?_⟩) ?_ ?_
  rotate_left
  ·intro w'
   go_simp
   with_reducible rfl
  rotate_left
  ·simp only [Act.put, List.setIfInBounds_toArray, List.set_cons_zero, List.set_cons_succ, i64_w, i32_w]
   rfl
  refine take_ (i := 12) (N := some 174) (v := ?_) (a' := ?_) #[true, true, true, true, true, true, true, true, true, true, true, true, true, false, false, false, false, false] rfl rfl (by kernel_rfl) (fun _ _ _ h => h) (Or.inl ⟨by rfl, ?_⟩) hHeld ?_ ?_
  rotate_left
  ·rintro w' ⟨s0, s1, s2, s3, s4⟩
   go_simp
   with_reducible rfl
  rotate_left
  ·simp only [Act.put, List.setIfInBounds_toArray, List.set_cons_zero, List.set_cons_succ, i64_w, i32_w]
   rfl
  refine pure_ (i := 13) (N := some 175) (v := ?_) (a' := ?_) #[true, true, true, true, true, true, true, true, true, true, true, true, true, true, false, false, false, false] rfl rfl (by kernel_rfl) (fun _ _ _ h => h) (Or.inl ⟨by rfl, ?_⟩) ?_ ?_
  rotate_left
  ·intro w'
   go_simp
   with_reducible rfl
  rotate_left
  ·simp only [Act.put, List.setIfInBounds_toArray, List.set_cons_zero, List.set_cons_succ, i64_w, i32_w]
   rfl
  refine one_ (i := 14) (N := some 176) #[true, true, true, true, true, true, true, true, true, true, true, true, true, true, true, false, false, false] rfl rfl (by kernel_rfl) (by decide) (fun K hK => ?_)
  refine goes_ Try.func27 (by kernel_rfl) rfl #[.slice A3 x.f3.length c3, .agg #[.int .i64 y2, .int .i64 (y3)]] (by rfl) rfl rfl (by (try simp only [List.map_toArray, List.map_cons, List.map_nil]); first | done | rfl) ?_
  refine (fencepostref09_Push.calls A3 c3 x.f3 y2 (y3) bs W9 (Kd.C_below HI3.out HB9.out) HL3.out HPF.out).mono ?_
  rintro e w10 ⟨vb, rfl, hRb, hb10⟩
  obtain ⟨Ab, cb, rfl⟩ := Kd.R_slice hRb
  refine ⟨_, rfl, ?_⟩
  have HRB := Aside0.mk hRb
  have HB10' := Aside0.mk hb10
  clear hRb hb10
  have hh : w10.cell? ⟨w.heap.size + 1, 1, none⟩ = some (.slice (some ad) l1_1.length c1_1) ∧ w10.cell? ⟨bn, 1, none⟩ = some (.slice (some ⟨g, 0, none⟩) l1_1.length ct2) ∧ w10.cell? ⟨(ad.add (t * 4)).block, (ad.add (t * 4)).off + 3, none⟩ = some (.slice A3 x.f3.length c3) ∧ w10.cell? ⟨bx, 2, none⟩ = some (.int .i64 y2) ∧ w10.cell? ⟨bx, 3, none⟩ = some (.int .i64 y3) := by obtain ⟨s0, s1, s2, s3, s4⟩ := hHeld; exact ⟨pw_cell_below HB10'.out s0, pw_cell_below HB10'.out s1, pw_cell_below HB10'.out s2, pw_cell_below HB10'.out s3, pw_cell_below HB10'.out s4⟩
  refine hK.out _ _ hh (fun hHeld => ?_)
  clear hh hHeld
  clear hK K
  refine norm_ (a' := ?_) ?_ ?_
  rotate_left
  ·show Act.put _ (some 176) _ = _
   simp only [Act.put, List.setIfInBounds_toArray, List.set_cons_zero, List.set_cons_succ, i64_w, i32_w]
   rfl
  refine pure_ (i := 15) (N := some 177) (v := ?_) (a' := ?_) #[true, true, true, true, true, true, true, true, true, true, true, true, true, true, true, true, false, false] rfl rfl (by kernel_rfl) (fun _ _ _ h => h) (Or.inl ⟨by rfl, ?_⟩) ?_ ?_
  rotate_left
  ·intro w'
   go_simp
   with_reducible rfl
  rotate_left
  ·simp only [Act.put, List.setIfInBounds_toArray, List.set_cons_zero, List.set_cons_succ, i64_w, i32_w]
   rfl
  refine pure_ (i := 16) (N := some 178) (v := ?_) (a' := ?_) #[true, true, true, true, true, true, true, true, true, true, true, true, true, true, true, true, true, false] rfl rfl (by kernel_rfl) (fun _ _ _ h => h) (Or.inl ⟨by rfl, ?_⟩) ?_ ?_
  rotate_left
  ·intro w'
   go_simp
   with_reducible rfl
  rotate_left
  ·simp only [Act.put, List.setIfInBounds_toArray, List.set_cons_zero, List.set_cons_succ, i64_w, i32_w]
   rfl
  have hb09 : w.heap.size ≤ W9.heap.size := HB9.out.size
  have HS10 := Aside0.mk (Kd.S_mono (ok' := fun k => True ∧ some k ≠ (Value.slice Ab bs.length cb).ownBlock) (Kd.S_elder' HJN9.out.ths (v := .slice Ab bs.length cb) (Kd.R_base HRB.out) HB10'.out) (fun k hk => ⟨trivial, hk.2⟩))
  have HRB10 := Aside0.mk (Kd.R_lower HRB.out hb09)
  have BS10 := Aside0.mk (blk_below BS9.out HB10'.out)
  have BO10 := Aside0.mk (blk_below BO9.out HB10'.out)
  have BR10 := Aside0.mk (blk_below BR9.out HB10'.out)
  have BX10 := Aside0.mk (blk_below BX9.out HB10'.out)
  have BN10 := Aside0.mk (blk_below BN9.out HB10'.out)
  have HB10 := Aside0.mk (below_step HB9.out HB10'.out)
  have HM10 := Aside0.mk (Kd.R_below HM9.out HB10'.out)
  have HJN10 := Aside0.mk (HJN9.out.below HB10'.out)
  clear BS9 BO9 BR9 BX9 BN9 HB9 HM9 HJN9
  clear HRB HB10'
  obtain ⟨v3, hc3⟩ : ∃ v3, w10.cell? ⟨g, t * 4 + 3, none⟩ = some v3 := S_c3 HS10.out (set_get HX.out)
  have hf3 : w10.frozen? ⟨g, t * 4 + 3, none⟩ = false := S_f3 HS10.out (set_get HX.out)
  refine last_ (i := 17) (N := none) #[true, true, true, true, true, true, true, true, true, true, true, true, true, true, true, true, true, true] rfl rfl (by kernel_rfl) (by decide) (fun K hK => ?_)
  refine skip_ (w1 := ?_) (by rfl) rfl ?_ ?_
  rotate_left
  ·go_simp
   rfl
  refine hK.out _ _ ?_
  clear hK K
  refine done_ (by kernel_rfl) ?_
  go_upto_region 27 with fail
  obtain ⟨w11, hw11⟩ : ∃ w11, w11 = w10.setCell ⟨g, t * 4 + 3, none⟩ (.slice Ab bs.length cb) := ⟨_, rfl⟩
  obtain ⟨cg, hcg⟩ := Kd.S_typed HS10.out g (by simp [Value.ownBlock])
  have hgb : w.heap.size ≤ g := Kd.S_base HS10.out g (by simp [Value.ownBlock])
  have hgR : g ≠ w.heap.size + 1 + 1 + 1 := types_ne hcg BR10.out (by decide)
  have hgn : g ≠ bn := types_ne hcg BN10.out (by decide)
  have BN11 : Aside0 (w11.heap[bn]? = some (.cells #[.slice Am l1_0.length cm, .slice (some ⟨g, 0, none⟩) l1_1.length ct2] 41 (0, 0))) := Aside0.mk (by rw [hw11]; exact blk_far BN10.out (fun e => hgn e.symm) _)
  have BR11 : Aside0 (w11.heap[w.heap.size + 1 + 1 + 1]? = some (.cells #[.slice none 0 0, .slice none 0 0] 41 (0, 0))) := Aside0.mk (by rw [hw11]; exact blk_far BR10.out (fun e => hgR e.symm) _)
  have HB11 : Aside0 (Below w.heap.size w w11) := Aside0.mk (by rw [hw11]; exact below_set HB10.out hgb)
  have HS11 : Aside0 (Kd.S k49 49 w11 w.heap.size (fun _ => True) (.slice (some ⟨g, 0, none⟩) l1_1.length ct2) (l1_1.set t ⟨xx.f0, xx.f1, xx.f2, bs⟩)) := Aside0.mk (by have := S_buf HS10.out (set_get HX.out) HRB10.out; rw [List.set_set] at this; rw [hw11]; exact this)
  have HM11 : Aside0 (Kd.R (Kd.int .i64) 3 w11 w.heap.size (fun _ => True) (.slice Am l1_0.length cm) l1_0) := Aside0.mk (by rw [hw11]; exact Kd.R_set HM10.out hcg (by decide) _ _)
  change Code.wp _ _ _ _ (w10.setCell ⟨g, t * 4 + 3, none⟩ (.slice Ab bs.length cb))
  rw [← hw11]
  clear hw11 BS10 BO10 BR10 BX10 BN10 HB10 HM10 HJN10 HS10 HRB10 hc3 hf3 hcg cg
  have o0 : w11.cell? ⟨bn, 0, none⟩ = some (.slice Am l1_0.length cm) := (blk_cell BN11.out 0).trans rfl
  have o1 : w11.cell? ⟨bn, 1, none⟩ = some (.slice (some ⟨g, 0, none⟩) l1_1.length ct2) := (blk_cell BN11.out 1).trans rfl
  have rz0 : w11.cell? ⟨w.heap.size + 1 + 1 + 1, 0, none⟩ = some (.slice none 0 0) := (blk_cell BR11.out 0).trans rfl
  have rz1 : w11.cell? ⟨w.heap.size + 1 + 1 + 1, 1, none⟩ = some (.slice none 0 0) := (blk_cell BR11.out 1).trans rfl
  have rf0 := blk_frozen BR11.out 0
  have rf1 := blk_frozen BR11.out 1
  go_wp2_with fail
  have eb0 : ((w11.setCell ⟨w.heap.size + 1 + 1 + 1, 0, none⟩ (.slice Am l1_0.length cm)).setCell ⟨w.heap.size + 1 + 1 + 1, 1, none⟩ (.slice (some ⟨g, 0, none⟩) l1_1.length ct2)).cell? ⟨w.heap.size + 1 + 1 + 1, 0, none⟩ = some (.slice Am l1_0.length cm) := (blk_cell (blk_set (blk_set BR11.out 0 _) 1 _) 0).trans rfl
  have eb1 : ((w11.setCell ⟨w.heap.size + 1 + 1 + 1, 0, none⟩ (.slice Am l1_0.length cm)).setCell ⟨w.heap.size + 1 + 1 + 1, 1, none⟩ (.slice (some ⟨g, 0, none⟩) l1_1.length ct2)).cell? ⟨w.heap.size + 1 + 1 + 1, 1, none⟩ = some (.slice (some ⟨g, 0, none⟩) l1_1.length ct2) := (blk_cell (blk_set (blk_set BR11.out 0 _) 1 _) 1).trans rfl
  have hV := Kd.R_V (base' := w.heap.size) (Kd.R_mono (Kd.R_bound (Kd.R_set (Kd.R_set HM11.out BR11.out (by decide) 0 (.slice Am l1_0.length cm)) (blk_set BR11.out 0 _) (by decide) 1 (.slice (some ⟨g, 0, none⟩) l1_1.length ct2))) (fun _ hk => hk.2.1))
  have hT := Kd.S_V (base' := w.heap.size) (Kd.S_mono (Kd.S_bound (Kd.S_set (Kd.S_set HS11.out BR11.out (by decide) 0 (.slice Am l1_0.length cm)) (blk_set BR11.out 0 _) (by decide) 1 (.slice (some ⟨g, 0, none⟩) l1_1.length ct2))) (fun _ hk => hk.2.1))
  have hG : tsoGo (⟨4, (r : Int), y2, y3, y4⟩ : S36) l1_0 x = (l1_0, ⟨xx.f0, xx.f1, xx.f2, bs⟩) := by unfold tsoGo; rw [HXX.out, HBS.out]; simp
  refine bodyPost_ret (v := .tuple #[.agg #[.slice Am l1_0.length cm, .slice (some ⟨g, 0, none⟩) l1_1.length ct2], .bool true]) (by simp [results, Try.results14, go_sem, eb0, eb1]) rfl ⟨_, _, rfl, ?_, ?_, below_set (below_set HB11.out (by omega)) (by omega)⟩
  ·rw [hG]; exact hV
  ·rw [hG]; exact hT
 have nc2 : (y0 == 2) = false := beq_eq_false_iff_ne.2 k2
 have nc3 : (y0 == 3) = false := beq_eq_false_iff_ne.2 k3
 have nc4 : (y0 == 4) = false := beq_eq_false_iff_ne.2 k4
 have ex0 : W7.cell? ⟨bx, 0, none⟩ = some (.int .i64 y0) := (blk_cell BX7.out 0).trans rfl
 go_upto_region 27 with fail
 clear ex0
 have HS7 := Aside0.mk HJN7.out.ths
 have HN7 := Aside0.mk HJN7.out.mem
 have o0 : W7.cell? ⟨bn, 0, none⟩ = some (.slice An mm.length cn) := (blk_cell BN7.out 0).trans rfl
 have o1 : W7.cell? ⟨bn, 1, none⟩ = some (.slice (some ⟨g, 0, none⟩) l1_1.length ct2) := (blk_cell BN7.out 1).trans rfl
 have rz0 : W7.cell? ⟨w.heap.size + 1 + 1 + 1, 0, none⟩ = some (.slice none 0 0) := (blk_cell BR7.out 0).trans rfl
 have rz1 : W7.cell? ⟨w.heap.size + 1 + 1 + 1, 1, none⟩ = some (.slice none 0 0) := (blk_cell BR7.out 1).trans rfl
 have rf0 := blk_frozen BR7.out 0
 have rf1 := blk_frozen BR7.out 1
 go_wp2_with fail
 have eb0 : ((W7.setCell ⟨w.heap.size + 1 + 1 + 1, 0, none⟩ (.slice An mm.length cn)).setCell ⟨w.heap.size + 1 + 1 + 1, 1, none⟩ (.slice (some ⟨g, 0, none⟩) l1_1.length ct2)).cell? ⟨w.heap.size + 1 + 1 + 1, 0, none⟩ = some (.slice An mm.length cn) := (blk_cell (blk_set (blk_set BR7.out 0 _) 1 _) 0).trans rfl
 have eb1 : ((W7.setCell ⟨w.heap.size + 1 + 1 + 1, 0, none⟩ (.slice An mm.length cn)).setCell ⟨w.heap.size + 1 + 1 + 1, 1, none⟩ (.slice (some ⟨g, 0, none⟩) l1_1.length ct2)).cell? ⟨w.heap.size + 1 + 1 + 1, 1, none⟩ = some (.slice (some ⟨g, 0, none⟩) l1_1.length ct2) := (blk_cell (blk_set (blk_set BR7.out 0 _) 1 _) 1).trans rfl
 have hV := Kd.R_V (base' := w.heap.size) (Kd.R_mono (Kd.R_bound (Kd.R_set (Kd.R_set HN7.out BR7.out (by decide) 0 (.slice An mm.length cn)) (blk_set BR7.out 0 _) (by decide) 1 (.slice (some ⟨g, 0, none⟩) l1_1.length ct2))) (fun _ hk => hk.2.1))
 have hT := Kd.S_V (base' := w.heap.size) (Kd.S_mono (Kd.S_bound (Kd.S_set (Kd.S_set HS7.out BR7.out (by decide) 0 (.slice An mm.length cn)) (blk_set BR7.out 0 _) (by decide) 1 (.slice (some ⟨g, 0, none⟩) l1_1.length ct2))) (fun _ hk => hk.2.1))
 have hG : tsoGo (⟨y0, (r : Int), y2, y3, y4⟩ : S36) l1_0 x = (mm, xx) := by unfold tsoGo; rw [HMM.out, HXX.out]; simp [k2, k3, k4]
 refine bodyPost_ret (v := .tuple #[.agg #[.slice An mm.length cn, .slice (some ⟨g, 0, none⟩) l1_1.length ct2], .bool true]) (by simp [results, Try.results14, go_sem, eb0, eb1]) rfl ⟨_, _, rfl, ?_, ?_, below_set (below_set HB7.out (by omega)) (by omega)⟩
 ·rw [hG]; exact hV
 ·rw [hG]; exact hT
end Go.Proofs.Ytphklaajolpieaa.Print
