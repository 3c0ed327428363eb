/- ref11.Step: its contract, by walking its text: a write comes there. -/
import Derived.Test.YtphklaajolpieaaHTsoF
import Derived.StillTailTactics
import Derived.RegionTactic
import Derived.BigRegion
namespace Go.Proofs.Ytphklaajolpieaa.Print
open Go.RowKit Go.Proofs.YtphklaajolpieaaW.PrintWords Go.Proofs.YtphklaajolpieaaW.PrintLast Go.Proofs.YtphklaajolpieaaW.PrintMore
set_option linter.unusedVariables false
set_option linter.unusedSimpArgs false
set_option maxRecDepth 100000 in
set_option maxHeartbeats 20000000 in
theorem tso_dr0 (A0_0 : Option Addr) (c0_0 : Nat) (l0_0 : List Int) (A0_1 : Option Addr) (c0_1 : Nat) (l0_1 : List (List S36)) (A1_0 : Option Addr) (c1_0 : Nat) (l1_0 : List Int) (A1_1 : Option Addr) (c1_1 : Nat) (l1_1 : List S49) (t : Nat) (x : S49) (r1 : List S66) (r2 : List Int) (kk : Nat) (w : World)
 (hr0_0 : Kd.C (Kd.int .i64) w A0_0 l0_0.length l0_0) (hc0_0 : l0_0.length ≤ c0_0) (hr0_1 : Kd.C (Kd.slice 36 k36) w A0_1 l0_1.length l0_1) (hc0_1 : l0_1.length ≤ c0_1) (hr1_0 : Kd.C (Kd.int .i64) w A1_0 l1_0.length l1_0) (hc1_0 : l1_0.length ≤ c1_0) (hr1_1 : Kd.C k49 w A1_1 l1_1.length l1_1) (hc1_1 : l1_1.length ≤ c1_1)
 (hown : fencepostref10_Own.f kk l1_0 l1_1 = some (l1_0, l1_1)) (hx : l1_1[t]? = some x) (hx1 : x.f1.length = 4) (hdr : fencepostref09_Drain.f x.f3 l1_0 = some (r1, r2, false)) :
 Calls Try.prog 14 #[.agg #[.slice A0_0 l0_0.length c0_0, .slice A0_1 l0_1.length c0_1], .agg #[.slice A1_0 l1_0.length c1_0, .slice A1_1 l1_1.length c1_1], .agg #[.int .i64 ((t : Int)), .bool true]] w fun e w' => ∃ v0_ v1_ : Value, e = .returned (.tuple #[.agg #[v0_, v1_], .bool false]) ∧ Kd.V (Kd.int .i64) 3 w' w.heap.size (fun k_ => (w.heap.size ≤ k_)) v0_ (l1_0) ∧ Kd.V k49 49 w' w.heap.size (fun k_ => (w.heap.size ≤ k_)) v1_ (l1_1) ∧ Below w.heap.size w w' := by
 have hu1 := Try.underlying41
 have hu2 := Try.underlying25
 have hu3 := Try.underlying49
 have hu4 := Try.underlying36
 have hu5 := Try.underlying46
 have HR00 := Aside0.mk hr0_0
 have HR01 := Aside0.mk hr0_1
 have HR10 := Aside0.mk hr1_0
 have HR11 := Aside0.mk hr1_1
 have HC00 := Aside0.mk hc0_0
 have HC01 := Aside0.mk hc0_1
 have HC10 := Aside0.mk hc1_0
 have HC11 := Aside0.mk hc1_1
 have HOWN := Aside0.mk hown
 have HX := Aside0.mk hx
 have HX1 := Aside0.mk hx1
 have HDR := Aside0.mk hdr
 clear hr0_0 hr0_1 hr1_0 hr1_1 hc0_0 hc0_1 hc1_0 hc1_1 hown hx hx1 hdr
 obtain ⟨W1, hW1⟩ : ∃ W1, W1 = (((w.alloc (.cells #[.slice A0_0 l0_0.length c0_0, .slice A0_1 l0_1.length c0_1] 25)).alloc (.cells #[.slice A1_0 l1_0.length c1_0, .slice A1_1 l1_1.length c1_1] 41)).alloc (.cells #[.int .i64 ((t : Int)), .bool true] 46)).alloc (.cells #[.slice none 0 0, .slice none 0 0] 41) := ⟨_, rfl⟩
 have bP : W1.heap[w.heap.size]? = some (.cells #[.slice A0_0 l0_0.length c0_0, .slice A0_1 l0_1.length c0_1] 25 (0, 0)) := by
  have := blk_alloc (blk_alloc (blk_alloc (blk_new w (.cells #[.slice A0_0 l0_0.length c0_0, .slice A0_1 l0_1.length c0_1] 25)) (.cells #[.slice A1_0 l1_0.length c1_0, .slice A1_1 l1_1.length c1_1] 41)) (.cells #[.int .i64 ((t : Int)), .bool true] 46)) (.cells #[.slice none 0 0, .slice none 0 0] 41)
  rw [hW1]; exact this
 have bS : W1.heap[w.heap.size + 1]? = some (.cells #[.slice A1_0 l1_0.length c1_0, .slice A1_1 l1_1.length c1_1] 41 (0, 0)) := by
  have := blk_alloc (blk_alloc (blk_new (w.alloc (.cells #[.slice A0_0 l0_0.length c0_0, .slice A0_1 l0_1.length c0_1] 25)) (.cells #[.slice A1_0 l1_0.length c1_0, .slice A1_1 l1_1.length c1_1] 41)) (.cells #[.int .i64 ((t : Int)), .bool true] 46)) (.cells #[.slice none 0 0, .slice none 0 0] 41)
  rw [World.size_alloc] at this
  rw [hW1]; exact this
 have bK : W1.heap[w.heap.size + 1 + 1]? = some (.cells #[.int .i64 ((t : Int)), .bool true] 46 (0, 0)) := by
  have := blk_alloc (blk_new ((w.alloc (.cells #[.slice A0_0 l0_0.length c0_0, .slice A0_1 l0_1.length c0_1] 25)).alloc (.cells #[.slice A1_0 l1_0.length c1_0, .slice A1_1 l1_1.length c1_1] 41)) (.cells #[.int .i64 ((t : Int)), .bool true] 46)) (.cells #[.slice none 0 0, .slice none 0 0] 41)
  rw [World.size_alloc, World.size_alloc] at this
  rw [hW1]; exact this
 have bR : W1.heap[w.heap.size + 1 + 1 + 1]? = some (.cells #[.slice none 0 0, .slice none 0 0] 41 (0, 0)) := by
  have := blk_new (((w.alloc (.cells #[.slice A0_0 l0_0.length c0_0, .slice A0_1 l0_1.length c0_1] 25)).alloc (.cells #[.slice A1_0 l1_0.length c1_0, .slice A1_1 l1_1.length c1_1] 41)).alloc (.cells #[.int .i64 ((t : Int)), .bool true] 46)) (.cells #[.slice none 0 0, .slice none 0 0] 41)
  rw [World.size_alloc, World.size_alloc, World.size_alloc] at this
  rw [hW1]; exact this
 have hB1 : Below w.heap.size w W1 := by rw [hW1]; exact below_alloc (below_alloc (below_alloc (below_alloc (Below.refl _ _) _) _) _) _
 have es0 : W1.cell? ⟨w.heap.size + 1, 0, none⟩ = some (.slice A1_0 l1_0.length c1_0) := (blk_cell bS 0).trans rfl
 have es1 : W1.cell? ⟨w.heap.size + 1, 1, none⟩ = some (.slice A1_1 l1_1.length c1_1) := (blk_cell bS 1).trans rfl
 have HW1 := Aside0.mk hW1
 have BP := Aside0.mk bP
 have BS := Aside0.mk bS
 have BK := Aside0.mk bK
 have BR := Aside0.mk bR
 have HBW := Aside0.mk hB1
 clear hW1 bP bS bK bR hB1
 go_enter Try.func14, Try.ntmps14
 (try simp only [List.append_eq, List.cons_append, List.nil_append])
 go_upto_region 1 with fail
 rw [← HW1.out]
 go_upto_region 2 with (go_at_call 22; refine (fencepostref10_Own.calls kk A1_0 c1_0 l1_0 A1_1 c1_1 l1_1 l1_0 l1_1 W1 (Kd.C_below HR10.out HBW.out) HC10.out (Kd.C_below HR11.out HBW.out) HC11.out HOWN.out).mono ?_; rintro e w2 ⟨vm, vt, rfl, hRm, hSt, hb2⟩; obtain ⟨Am, cm, rfl⟩ := Kd.R_slice hRm; obtain ⟨At, ct, rfl⟩ := Kd.S_slice hSt; have HRM := Aside0.mk hRm; have HST := Aside0.mk hSt; have HB2' := Aside0.mk hb2; clear hRm hSt hb2)
 obtain ⟨W3, hW3⟩ : ∃ W3, W3 = w2.alloc (.cells #[.slice Am l1_0.length cm, .slice At l1_1.length ct] 41) := ⟨_, rfl⟩
 have hb23 : Below w2.heap.size w2 W3 := by rw [hW3]; exact below_alloc (Below.refl _ _) _
 have bO : W3.heap[w2.heap.size]? = some (.cells #[.slice Am l1_0.length cm, .slice At l1_1.length ct] 41 (0, 0)) := by rw [hW3]; exact blk_new w2 _
 have BP3 := Aside0.mk (blk_below (blk_below BP.out HB2'.out) hb23)
 have BS3 := Aside0.mk (blk_below (blk_below BS.out HB2'.out) hb23)
 have BK3 := Aside0.mk (blk_below (blk_below BK.out HB2'.out) hb23)
 have BR3 := Aside0.mk (blk_below (blk_below BR.out HB2'.out) hb23)
 have HB3 := Aside0.mk (below_step (below_step HBW.out HB2'.out) hb23)
 have HJ3 : Aside0 (SJ w.heap.size (.slice Am l1_0.length cm) (.slice At l1_1.length ct) l1_0 l1_1 W3) := Aside0.mk (SJ.below ⟨Kd.R_lower HRM.out HBW.out.size, Kd.S_lower HST.out HBW.out.size⟩ hb23)
 have BO3 := Aside0.mk bO
 have hro : w.heap.size + 1 + 1 + 1 < w2.heap.size := Nat.lt_of_lt_of_le (blk_lt BR.out) HB2'.out.size
 rw [← hW3]
 clear BP BS BK BR HBW HRM HST HB2' es0 es1 hb23 hW3 bO HW1
 generalize w2.heap.size = bo at BO3 hro ⊢
 have ht : t < l1_1.length := (List.getElem?_eq_some_iff.1 HX.out).1
 have p0 : decide ((t : Int) < 0) = false := decide_eq_false (by omega)
 have p1 : ((t : Int) < 0) = False := eq_false (by omega)
 have p2 : decide ((l1_1.length : Int) ≤ (t : Int)) = false := decide_eq_false (by omega)
 have p3 : ((l1_1.length : Int) ≤ (t : Int)) = False := eq_false (by omega)
 have q1 : ((t : Int) < (l1_1.length : Int)) = True := eq_true (by omega)
 have q2 : (0 ≤ (t : Int)) = True := eq_true (by omega)
 have q3 : (t < l1_1.length) = True := eq_true ht
 have hxe : rd_T49 l1_1 (t : Int) = x := by unfold rd_T49; rw [Int.toNat_natCast, List.getD_eq_getElem?_getD, HX.out]; rfl
 obtain ⟨ad, A1, c1, A3, c3, ead, hx0, hx1_, hx2, hx3, hl1, hi1, hl3, hi3⟩ := at_T49 HR11.out (t : Int) (by omega) (by omega)
 rw [hxe] at hx0 hx1_ hx2 hx3 hl1 hi1 hl3 hi3
 subst ead
 rw [Int.toNat_natCast] at hx0 hx1_ hx2 hx3
 have hy0 := pw_cell_below HB3.out hx0
 have hy1 := pw_cell_below HB3.out hx1_
 have hy2 := pw_cell_below HB3.out hx2
 have hy3 := pw_cell_below HB3.out hx3
 have HI1 := Aside0.mk hi1
 have HI3 := Aside0.mk hi3
 have HL1 := Aside0.mk hl1
 have HL3 := Aside0.mk hl3
 clear hx0 hx1_ hx2 hx3 hl1 hi1 hl3 hi3
 have eq0 : W3.cell? ⟨w.heap.size + 1, 0, none⟩ = some (.slice A1_0 l1_0.length c1_0) := (blk_cell BS3.out 0).trans rfl
 have eq1 : W3.cell? ⟨w.heap.size + 1, 1, none⟩ = some (.slice (some ad) l1_1.length c1_1) := (blk_cell BS3.out 1).trans rfl
 have ek0 : W3.cell? ⟨w.heap.size + 1 + 1, 0, none⟩ = some (.int .i64 ((t : Int))) := (blk_cell BK3.out 0).trans rfl
 have ek1 : W3.cell? ⟨w.heap.size + 1 + 1, 1, none⟩ = some (.bool true) := (blk_cell BK3.out 1).trans rfl
 go_upto_region 6 with fail
 refine start_ (n := 16) (S := fun w' => w'.cell? ⟨w.heap.size + 1, 0, none⟩ = some (.slice A1_0 l1_0.length c1_0) ∧ w'.cell? ⟨w.heap.size + 1, 1, none⟩ = some (.slice (some ad) l1_1.length c1_1) ∧ w'.cell? ⟨(ad.add (t * 4)).block, (ad.add (t * 4)).off + 3, none⟩ = some (.slice A3 x.f3.length c3)) (ds := [8]) #[false, false, false, false, false, false, false, false, false, false, false, false, false, false, false, false] (by kernel_rfl) rfl rfl ⟨by first | exact eq0 | simpa using eq0, by first | exact eq1 | simpa using eq1, by first | exact hy3 | simpa using hy3⟩ (fun hHeld => ?_)
 have HB4 : Aside0 (Below w.heap.size w W3.drew) := Aside0.mk (below_drew1 HB3.out)
 have BO4 : Aside0 (W3.drew.heap[bo]? = some (.cells #[.slice Am l1_0.length cm, .slice At l1_1.length ct] 41 (0, 0))) := Aside0.mk (blk_drewN BO3.out 1)
 have BR4 : Aside0 (W3.drew.heap[w.heap.size + 1 + 1 + 1]? = some (.cells #[.slice none 0 0, .slice none 0 0] 41 (0, 0))) := Aside0.mk (blk_drewN BR3.out 1)
 have HJ4 : Aside0 (SJ w.heap.size (.slice Am l1_0.length cm) (.slice At l1_1.length ct) l1_0 l1_1 W3.drew) := Aside0.mk (HJ3.out.drewN 1)
 generalize W3.drew = W4 at HB4 BO4 BR4 HJ4 hHeld ⊢
 clear HB3 BO3 BR3 BS3 BK3 BP3 HJ3 eq0 eq1 ek0 ek1 hy0 hy1 hy2 hy3
 refine pure_ (i := 0) (N := some 37) (v := ?_) (a' := ?_) #[true, false, false, false, false, false, false, false, false, false, false, false, false, false, false, false] rfl rfl (by kernel_rfl) (fun _ _ _ h => h) (Or.inl ⟨by rfl, ?_⟩) ?_ ?_
 rotate_left
 ·intro w'
  go_simp
  with_reducible rfl
 rotate_left
 ·simp only [Act.put, List.setIfInBounds_toArray, List.set_cons_zero, List.set_cons_succ, i64_w, i32_w]
  rfl
 refine take_ (i := 1) (N := some 38) (v := ?_) (a' := ?_) #[true, true, false, false, false, false, false, false, false, false, false, false, false, false, false, false] rfl rfl (by kernel_rfl) (fun _ _ _ h => h) (Or.inl ⟨by rfl, ?_⟩) hHeld ?_ ?_
 rotate_left
 ·rintro w' ⟨s0, s1, s3⟩
  go_simp
  with_reducible rfl
 rotate_left
 ·simp only [Act.put, List.setIfInBounds_toArray, List.set_cons_zero, List.set_cons_succ, i64_w, i32_w]
  rfl
 refine pure_ (i := 2) (N := some 39) (v := ?_) (a' := ?_) #[true, true, true, false, false, false, false, false, false, false, false, false, false, false, false, false] rfl rfl (by kernel_rfl) (fun _ _ _ h => h) (Or.inl ⟨by rfl, ?_⟩) ?_ ?_
 rotate_left
 ·intro w'
  go_simp
  with_reducible rfl
 rotate_left
 ·simp only [Act.put, List.setIfInBounds_toArray, List.set_cons_zero, List.set_cons_succ, i64_w, i32_w]
  rfl
 refine pure_ (i := 3) (N := some 40) (v := ?_) (a' := ?_) #[true, true, true, true, false, false, false, false, false, false, false, false, false, false, false, false] rfl rfl (by kernel_rfl) (fun _ _ _ h => h) (Or.inl ⟨by rfl, ?_⟩) ?_ ?_
 rotate_left
 ·intro w'
  go_simp
  with_reducible rfl
 rotate_left
 ·simp only [Act.put, List.setIfInBounds_toArray, List.set_cons_zero, List.set_cons_succ, i64_w, i32_w]
  rfl
 refine pure_ (i := 4) (N := some 41) (v := ?_) (a' := ?_) #[true, true, true, true, true, false, false, false, false, false, false, false, false, false, false, false] rfl rfl (by kernel_rfl) (fun _ _ _ h => h) (Or.inl ⟨by rfl, ?_⟩) ?_ ?_
 rotate_left
 ·intro w'
  go_simp
  with_reducible rfl
 rotate_left
 ·simp only [Act.put, List.setIfInBounds_toArray, List.set_cons_zero, List.set_cons_succ, i64_w, i32_w]
  rfl
 refine take_ (i := 5) (N := some 42) (v := ?_) (a' := ?_) #[true, true, true, true, true, true, false, false, false, false, false, false, false, false, false, false] rfl rfl (by kernel_rfl) (fun _ _ _ h => h) (Or.inl ⟨by rfl, ?_⟩) hHeld ?_ ?_
 rotate_left
 ·rintro w' ⟨s0, s1, s3⟩
  go_simp
  with_reducible rfl
 rotate_left
 ·simp only [Act.put, List.setIfInBounds_toArray, List.set_cons_zero, List.set_cons_succ, i64_w, i32_w]
  rfl
 refine pure_ (i := 6) (N := some 43) (v := ?_) (a' := ?_) #[true, true, true, true, true, true, true, false, false, false, false, false, false, false, false, false] rfl rfl (by kernel_rfl) (fun _ _ _ h => h) (Or.inl ⟨by rfl, ?_⟩) ?_ ?_
 rotate_left
 ·intro w'
  go_simp
  with_reducible rfl
 rotate_left
 ·simp only [Act.put, List.setIfInBounds_toArray, List.set_cons_zero, List.set_cons_succ, i64_w, i32_w]
  rfl
 refine take_ (i := 7) (N := some 44) (v := ?_) (a' := ?_) #[true, true, true, true, true, true, true, true, false, false, false, false, false, false, false, false] rfl rfl (by kernel_rfl) (fun _ _ _ h => h) (Or.inl ⟨by rfl, ?_⟩) hHeld ?_ ?_
 rotate_left
 ·rintro w' ⟨s0, s1, s3⟩
  go_simp
  with_reducible rfl
 rotate_left
 ·simp only [Act.put, List.setIfInBounds_toArray, List.set_cons_zero, List.set_cons_succ, i64_w, i32_w]
  rfl
 refine last_ (i := 8) (N := some 45) #[true, true, true, true, true, true, true, true, true, false, false, false, false, false, false, false] rfl rfl (by kernel_rfl) (by decide) (fun K hK => ?_)
 refine goes_ Try.func23 (by kernel_rfl) rfl #[.slice A3 x.f3.length c3, .slice A1_0 l1_0.length c1_0] (by rfl) rfl rfl (by (try simp only [List.map_toArray, List.map_cons, List.map_nil]); first | done | rfl) ?_
 refine (fencepostref09_Drain.calls A3 c3 x.f3 A1_0 c1_0 l1_0 r1 r2 false W4 (Kd.C_below HI3.out HB4.out) HL3.out (Kd.C_below HR10.out HB4.out) HC10.out HDR.out).mono ?_
 rintro e w5 ⟨vb, vn, rfl, hRb, hRn, hb5⟩
 obtain ⟨Ab, cb, rfl⟩ := Kd.R_slice hRb
 obtain ⟨An, cn, rfl⟩ := Kd.R_slice hRn
 refine ⟨_, rfl, ?_⟩
 have HRB := Aside0.mk hRb
 have HRN := Aside0.mk hRn
 have HB5' := Aside0.mk hb5
 clear hRb hRn hb5
 refine hK.out _ _ ?_
 clear hK K
 refine norm_ (a' := ?_) ?_ ?_
 rotate_left
 ·show Act.put _ (some 45) _ = _
  simp only [Act.put, List.setIfInBounds_toArray, List.set_cons_zero, List.set_cons_succ, i64_w, i32_w]
  rfl
 refine pure_ (i := 9) (N := some 36) (v := ?_) (a' := ?_) #[true, true, true, true, true, true, true, true, true, true, false, false, false, false, false, false] rfl rfl (by kernel_rfl) (fun _ _ _ h => h) (Or.inl ⟨by rfl, ?_⟩) ?_ ?_
 rotate_left
 ·intro w'
  go_simp
  with_reducible rfl
 rotate_left
 ·simp only [Act.put, List.setIfInBounds_toArray, List.set_cons_zero, List.set_cons_succ, i64_w, i32_w]
  rfl
 refine pure_ (i := 10) (N := some 46) (v := ?_) (a' := ?_) #[true, true, true, true, true, true, true, true, true, true, true, false, false, false, false, false] rfl rfl (by kernel_rfl) (fun _ _ _ h => h) (Or.inl ⟨by rfl, ?_⟩) ?_ ?_
 rotate_left
 ·intro w'
  go_simp
  with_reducible rfl
 rotate_left
 ·simp only [Act.put, List.setIfInBounds_toArray, List.set_cons_zero, List.set_cons_succ, i64_w, i32_w]
  rfl
 refine pure_ (i := 11) (N := some 47) (v := ?_) (a' := ?_) #[true, true, true, true, true, true, true, true, true, true, true, true, false, false, false, false] rfl rfl (by kernel_rfl) (fun _ _ _ h => h) (Or.inl ⟨by rfl, ?_⟩) ?_ ?_
 rotate_left
 ·intro w'
  go_simp
  with_reducible rfl
 rotate_left
 ·simp only [Act.put, List.setIfInBounds_toArray, List.set_cons_zero, List.set_cons_succ, i64_w, i32_w]
  rfl
 refine pure_ (i := 12) (N := some 48) (v := ?_) (a' := ?_) #[true, true, true, true, true, true, true, true, true, true, true, true, true, false, false, false] rfl rfl (by kernel_rfl) (fun _ _ _ h => h) (Or.inl ⟨by rfl, ?_⟩) ?_ ?_
 rotate_left
 ·intro w'
  go_simp
  with_reducible rfl
 rotate_left
 ·simp only [Act.put, List.setIfInBounds_toArray, List.set_cons_zero, List.set_cons_succ, i64_w, i32_w]
  rfl
 refine pure_ (i := 13) (N := some 10) (v := ?_) (a' := ?_) #[true, true, true, true, true, true, true, true, true, true, true, true, true, true, false, false] rfl rfl (by kernel_rfl) (fun _ _ _ h => h) (Or.inl ⟨by rfl, ?_⟩) ?_ ?_
 rotate_left
 ·intro w'
  go_simp
  with_reducible rfl
 rotate_left
 ·simp only [Act.put, List.setIfInBounds_toArray, List.set_cons_zero, List.set_cons_succ, i64_w, i32_w]
  rfl
 refine pure_ (i := 14) (N := some 11) (v := ?_) (a' := ?_) #[true, true, true, true, true, true, true, true, true, true, true, true, true, true, true, false] rfl rfl (by kernel_rfl) (fun _ _ _ h => h) (Or.inl ⟨by rfl, ?_⟩) ?_ ?_
 rotate_left
 ·intro w'
  go_simp
  with_reducible rfl
 rotate_left
 ·simp only [Act.put, List.setIfInBounds_toArray, List.set_cons_zero, List.set_cons_succ, i64_w, i32_w]
  rfl
 refine pure_ (i := 15) (N := some 12) (v := ?_) (a' := ?_) #[true, true, true, true, true, true, true, true, true, true, true, true, true, true, true, true] rfl rfl (by kernel_rfl) (fun _ _ _ h => h) (Or.inl ⟨by rfl, ?_⟩) ?_ ?_
 rotate_left
 ·intro w'
  go_simp
  with_reducible rfl
 rotate_left
 ·simp only [Act.put, List.setIfInBounds_toArray, List.set_cons_zero, List.set_cons_succ, i64_w, i32_w]
  rfl
 refine done_ (by kernel_rfl) ?_
 go_upto_region 7 with fail
 have HB5 := Aside0.mk (below_step HB4.out HB5'.out)
 have BO5 := Aside0.mk (blk_below BO4.out HB5'.out)
 have BR5 := Aside0.mk (blk_below BR4.out HB5'.out)
 have hb45 : w.heap.size ≤ W4.heap.size := HB4.out.size
 have hbo4 : bo < W4.heap.size := blk_lt BO4.out
 have HS5 := Aside0.mk (Kd.S_mono (ok' := fun k => True ∧ some k ≠ (Value.slice Ab r1.length cb).ownBlock) (Kd.S_elder' HJ4.out.ths (v := .slice Ab r1.length cb) (Kd.R_base HRB.out) HB5'.out) (fun k hk => ⟨trivial, hk.2⟩))
 have HRB5 := Aside0.mk (Kd.R_lower HRB.out hb45)
 have HRN5 := Aside0.mk (Kd.R_lower HRN.out hb45)
 have HM5 := Aside0.mk (Kd.R_below HJ4.out.mem HB5'.out)
 clear HB4 BO4 BR4 HJ4 HB5' HRB HRN
 have o0 : w5.cell? ⟨bo, 0, none⟩ = some (.slice Am l1_0.length cm) := (blk_cell BO5.out 0).trans rfl
 have o1 : w5.cell? ⟨bo, 1, none⟩ = some (.slice At l1_1.length ct) := (blk_cell BO5.out 1).trans rfl
 have rz0 : w5.cell? ⟨w.heap.size + 1 + 1 + 1, 0, none⟩ = some (.slice none 0 0) := (blk_cell BR5.out 0).trans rfl
 have rz1 : w5.cell? ⟨w.heap.size + 1 + 1 + 1, 1, none⟩ = some (.slice none 0 0) := (blk_cell BR5.out 1).trans rfl
 have rf0 := blk_frozen BR5.out 0
 have rf1 := blk_frozen BR5.out 1
 go_wp2_with fail
 have eb0 : ((w5.setCell ⟨w.heap.size + 1 + 1 + 1, 0, none⟩ (.slice Am l1_0.length cm)).setCell ⟨w.heap.size + 1 + 1 + 1, 1, none⟩ (.slice At l1_1.length ct)).cell? ⟨w.heap.size + 1 + 1 + 1, 0, none⟩ = some (.slice Am l1_0.length cm) := (blk_cell (blk_set (blk_set BR5.out 0 _) 1 _) 0).trans rfl
 have eb1 : ((w5.setCell ⟨w.heap.size + 1 + 1 + 1, 0, none⟩ (.slice Am l1_0.length cm)).setCell ⟨w.heap.size + 1 + 1 + 1, 1, none⟩ (.slice At l1_1.length ct)).cell? ⟨w.heap.size + 1 + 1 + 1, 1, none⟩ = some (.slice At l1_1.length ct) := (blk_cell (blk_set (blk_set BR5.out 0 _) 1 _) 1).trans rfl
 have hV := Kd.R_V (base' := w.heap.size) (Kd.R_mono (Kd.R_bound (Kd.R_set (Kd.R_set HM5.out BR5.out (by decide) 0 (.slice Am l1_0.length cm)) (blk_set BR5.out 0 _) (by decide) 1 (.slice At l1_1.length ct))) (fun _ hk => hk.2.1))
 have hT := Kd.S_V (base' := w.heap.size) (Kd.S_mono (Kd.S_bound (Kd.S_set (Kd.S_set HS5.out BR5.out (by decide) 0 (.slice Am l1_0.length cm)) (blk_set BR5.out 0 _) (by decide) 1 (.slice At l1_1.length ct))) (fun _ hk => hk.2.1))
 have hbe := below_set (below_set HB5.out (show w.heap.size ≤ w.heap.size + 1 + 1 + 1 by omega) (j := 0) (v := (.slice Am l1_0.length cm))) (show w.heap.size ≤ w.heap.size + 1 + 1 + 1 by omega) (j := 1) (v := (.slice At l1_1.length ct))
 exact bodyPost_ret (v := .tuple #[.agg #[.slice Am l1_0.length cm, .slice At l1_1.length ct], .bool false]) (by simp [results, Try.results14, go_sem, eb0, eb1]) rfl ⟨_, _, rfl, hV, hT, hbe⟩
set_option maxRecDepth 100000 in
set_option maxHeartbeats 20000000 in
theorem tso_dr1 (A0_0 : Option Addr) (c0_0 : Nat) (l0_0 : List Int) (A0_1 : Option Addr) (c0_1 : Nat) (l0_1 : List (List S36)) (A1_0 : Option Addr) (c1_0 : Nat) (l1_0 : List Int) (A1_1 : Option Addr) (c1_1 : Nat) (l1_1 : List S49) (t : Nat) (x : S49) (r1 : List S66) (r2 : List Int) (kk : Nat) (w : World)
 (hr0_0 : Kd.C (Kd.int .i64) w A0_0 l0_0.length l0_0) (hc0_0 : l0_0.length ≤ c0_0) (hr0_1 : Kd.C (Kd.slice 36 k36) w A0_1 l0_1.length l0_1) (hc0_1 : l0_1.length ≤ c0_1) (hr1_0 : Kd.C (Kd.int .i64) w A1_0 l1_0.length l1_0) (hc1_0 : l1_0.length ≤ c1_0) (hr1_1 : Kd.C k49 w A1_1 l1_1.length l1_1) (hc1_1 : l1_1.length ≤ c1_1)
 (hown : fencepostref10_Own.f kk l1_0 l1_1 = some (l1_0, l1_1)) (hx : l1_1[t]? = some x) (hx1 : x.f1.length = 4) (hdr : fencepostref09_Drain.f x.f3 l1_0 = some (r1, r2, true)) :
 Calls Try.prog 14 #[.agg #[.slice A0_0 l0_0.length c0_0, .slice A0_1 l0_1.length c0_1], .agg #[.slice A1_0 l1_0.length c1_0, .slice A1_1 l1_1.length c1_1], .agg #[.int .i64 ((t : Int)), .bool true]] w fun e w' => ∃ v0_ v1_ : Value, e = .returned (.tuple #[.agg #[v0_, v1_], .bool true]) ∧ Kd.V (Kd.int .i64) 3 w' w.heap.size (fun k_ => (w.heap.size ≤ k_)) v0_ (r2) ∧ Kd.V k49 49 w' w.heap.size (fun k_ => (w.heap.size ≤ k_)) v1_ (l1_1.set t ⟨x.f0, x.f1, x.f2, r1⟩) ∧ Below w.heap.size w w' := by
 have hu1 := Try.underlying41
 have hu2 := Try.underlying25
 have hu3 := Try.underlying49
 have hu4 := Try.underlying36
 have hu5 := Try.underlying46
 have HR00 := Aside0.mk hr0_0
 have HR01 := Aside0.mk hr0_1
 have HR10 := Aside0.mk hr1_0
 have HR11 := Aside0.mk hr1_1
 have HC00 := Aside0.mk hc0_0
 have HC01 := Aside0.mk hc0_1
 have HC10 := Aside0.mk hc1_0
 have HC11 := Aside0.mk hc1_1
 have HOWN := Aside0.mk hown
 have HX := Aside0.mk hx
 have HX1 := Aside0.mk hx1
 have HDR := Aside0.mk hdr
 clear hr0_0 hr0_1 hr1_0 hr1_1 hc0_0 hc0_1 hc1_0 hc1_1 hown hx hx1 hdr
 obtain ⟨W1, hW1⟩ : ∃ W1, W1 = (((w.alloc (.cells #[.slice A0_0 l0_0.length c0_0, .slice A0_1 l0_1.length c0_1] 25)).alloc (.cells #[.slice A1_0 l1_0.length c1_0, .slice A1_1 l1_1.length c1_1] 41)).alloc (.cells #[.int .i64 ((t : Int)), .bool true] 46)).alloc (.cells #[.slice none 0 0, .slice none 0 0] 41) := ⟨_, rfl⟩
 have bP : W1.heap[w.heap.size]? = some (.cells #[.slice A0_0 l0_0.length c0_0, .slice A0_1 l0_1.length c0_1] 25 (0, 0)) := by
  have := blk_alloc (blk_alloc (blk_alloc (blk_new w (.cells #[.slice A0_0 l0_0.length c0_0, .slice A0_1 l0_1.length c0_1] 25)) (.cells #[.slice A1_0 l1_0.length c1_0, .slice A1_1 l1_1.length c1_1] 41)) (.cells #[.int .i64 ((t : Int)), .bool true] 46)) (.cells #[.slice none 0 0, .slice none 0 0] 41)
  rw [hW1]; exact this
 have bS : W1.heap[w.heap.size + 1]? = some (.cells #[.slice A1_0 l1_0.length c1_0, .slice A1_1 l1_1.length c1_1] 41 (0, 0)) := by
  have := blk_alloc (blk_alloc (blk_new (w.alloc (.cells #[.slice A0_0 l0_0.length c0_0, .slice A0_1 l0_1.length c0_1] 25)) (.cells #[.slice A1_0 l1_0.length c1_0, .slice A1_1 l1_1.length c1_1] 41)) (.cells #[.int .i64 ((t : Int)), .bool true] 46)) (.cells #[.slice none 0 0, .slice none 0 0] 41)
  rw [World.size_alloc] at this
  rw [hW1]; exact this
 have bK : W1.heap[w.heap.size + 1 + 1]? = some (.cells #[.int .i64 ((t : Int)), .bool true] 46 (0, 0)) := by
  have := blk_alloc (blk_new ((w.alloc (.cells #[.slice A0_0 l0_0.length c0_0, .slice A0_1 l0_1.length c0_1] 25)).alloc (.cells #[.slice A1_0 l1_0.length c1_0, .slice A1_1 l1_1.length c1_1] 41)) (.cells #[.int .i64 ((t : Int)), .bool true] 46)) (.cells #[.slice none 0 0, .slice none 0 0] 41)
  rw [World.size_alloc, World.size_alloc] at this
  rw [hW1]; exact this
 have bR : W1.heap[w.heap.size + 1 + 1 + 1]? = some (.cells #[.slice none 0 0, .slice none 0 0] 41 (0, 0)) := by
  have := blk_new (((w.alloc (.cells #[.slice A0_0 l0_0.length c0_0, .slice A0_1 l0_1.length c0_1] 25)).alloc (.cells #[.slice A1_0 l1_0.length c1_0, .slice A1_1 l1_1.length c1_1] 41)).alloc (.cells #[.int .i64 ((t : Int)), .bool true] 46)) (.cells #[.slice none 0 0, .slice none 0 0] 41)
  rw [World.size_alloc, World.size_alloc, World.size_alloc] at this
  rw [hW1]; exact this
 have hB1 : Below w.heap.size w W1 := by rw [hW1]; exact below_alloc (below_alloc (below_alloc (below_alloc (Below.refl _ _) _) _) _) _
 have es0 : W1.cell? ⟨w.heap.size + 1, 0, none⟩ = some (.slice A1_0 l1_0.length c1_0) := (blk_cell bS 0).trans rfl
 have es1 : W1.cell? ⟨w.heap.size + 1, 1, none⟩ = some (.slice A1_1 l1_1.length c1_1) := (blk_cell bS 1).trans rfl
 have HW1 := Aside0.mk hW1
 have BP := Aside0.mk bP
 have BS := Aside0.mk bS
 have BK := Aside0.mk bK
 have BR := Aside0.mk bR
 have HBW := Aside0.mk hB1
 clear hW1 bP bS bK bR hB1
 go_enter Try.func14, Try.ntmps14
 (try simp only [List.append_eq, List.cons_append, List.nil_append])
 go_upto_region 1 with fail
 rw [← HW1.out]
 go_upto_region 2 with (go_at_call 22; refine (fencepostref10_Own.calls kk A1_0 c1_0 l1_0 A1_1 c1_1 l1_1 l1_0 l1_1 W1 (Kd.C_below HR10.out HBW.out) HC10.out (Kd.C_below HR11.out HBW.out) HC11.out HOWN.out).mono ?_; rintro e w2 ⟨vm, vt, rfl, hRm, hSt, hb2⟩; obtain ⟨Am, cm, rfl⟩ := Kd.R_slice hRm; obtain ⟨At, ct, rfl⟩ := Kd.S_slice hSt; have HRM := Aside0.mk hRm; have HST := Aside0.mk hSt; have HB2' := Aside0.mk hb2; clear hRm hSt hb2)
 obtain ⟨W3, hW3⟩ : ∃ W3, W3 = w2.alloc (.cells #[.slice Am l1_0.length cm, .slice At l1_1.length ct] 41) := ⟨_, rfl⟩
 have hb23 : Below w2.heap.size w2 W3 := by rw [hW3]; exact below_alloc (Below.refl _ _) _
 have bO : W3.heap[w2.heap.size]? = some (.cells #[.slice Am l1_0.length cm, .slice At l1_1.length ct] 41 (0, 0)) := by rw [hW3]; exact blk_new w2 _
 have BP3 := Aside0.mk (blk_below (blk_below BP.out HB2'.out) hb23)
 have BS3 := Aside0.mk (blk_below (blk_below BS.out HB2'.out) hb23)
 have BK3 := Aside0.mk (blk_below (blk_below BK.out HB2'.out) hb23)
 have BR3 := Aside0.mk (blk_below (blk_below BR.out HB2'.out) hb23)
 have HB3 := Aside0.mk (below_step (below_step HBW.out HB2'.out) hb23)
 have HJ3 : Aside0 (SJ w.heap.size (.slice Am l1_0.length cm) (.slice At l1_1.length ct) l1_0 l1_1 W3) := Aside0.mk (SJ.below ⟨Kd.R_lower HRM.out HBW.out.size, Kd.S_lower HST.out HBW.out.size⟩ hb23)
 have BO3 := Aside0.mk bO
 have hro : w.heap.size + 1 + 1 + 1 < w2.heap.size := Nat.lt_of_lt_of_le (blk_lt BR.out) HB2'.out.size
 rw [← hW3]
 clear BP BS BK BR HBW HRM HST HB2' es0 es1 hb23 hW3 bO HW1
 generalize w2.heap.size = bo at BO3 hro ⊢
 have ht : t < l1_1.length := (List.getElem?_eq_some_iff.1 HX.out).1
 have p0 : decide ((t : Int) < 0) = false := decide_eq_false (by omega)
 have p1 : ((t : Int) < 0) = False := eq_false (by omega)
 have p2 : decide ((l1_1.length : Int) ≤ (t : Int)) = false := decide_eq_false (by omega)
 have p3 : ((l1_1.length : Int) ≤ (t : Int)) = False := eq_false (by omega)
 have q1 : ((t : Int) < (l1_1.length : Int)) = True := eq_true (by omega)
 have q2 : (0 ≤ (t : Int)) = True := eq_true (by omega)
 have q3 : (t < l1_1.length) = True := eq_true ht
 have hxe : rd_T49 l1_1 (t : Int) = x := by unfold rd_T49; rw [Int.toNat_natCast, List.getD_eq_getElem?_getD, HX.out]; rfl
 obtain ⟨ad, A1, c1, A3, c3, ead, hx0, hx1_, hx2, hx3, hl1, hi1, hl3, hi3⟩ := at_T49 HR11.out (t : Int) (by omega) (by omega)
 rw [hxe] at hx0 hx1_ hx2 hx3 hl1 hi1 hl3 hi3
 subst ead
 rw [Int.toNat_natCast] at hx0 hx1_ hx2 hx3
 have hy0 := pw_cell_below HB3.out hx0
 have hy1 := pw_cell_below HB3.out hx1_
 have hy2 := pw_cell_below HB3.out hx2
 have hy3 := pw_cell_below HB3.out hx3
 have HI1 := Aside0.mk hi1
 have HI3 := Aside0.mk hi3
 have HL1 := Aside0.mk hl1
 have HL3 := Aside0.mk hl3
 clear hx0 hx1_ hx2 hx3 hl1 hi1 hl3 hi3
 have eq0 : W3.cell? ⟨w.heap.size + 1, 0, none⟩ = some (.slice A1_0 l1_0.length c1_0) := (blk_cell BS3.out 0).trans rfl
 have eq1 : W3.cell? ⟨w.heap.size + 1, 1, none⟩ = some (.slice (some ad) l1_1.length c1_1) := (blk_cell BS3.out 1).trans rfl
 have ek0 : W3.cell? ⟨w.heap.size + 1 + 1, 0, none⟩ = some (.int .i64 ((t : Int))) := (blk_cell BK3.out 0).trans rfl
 have ek1 : W3.cell? ⟨w.heap.size + 1 + 1, 1, none⟩ = some (.bool true) := (blk_cell BK3.out 1).trans rfl
 go_upto_region 6 with fail
 refine start_ (n := 16) (S := fun w' => w'.cell? ⟨w.heap.size + 1, 0, none⟩ = some (.slice A1_0 l1_0.length c1_0) ∧ w'.cell? ⟨w.heap.size + 1, 1, none⟩ = some (.slice (some ad) l1_1.length c1_1) ∧ w'.cell? ⟨(ad.add (t * 4)).block, (ad.add (t * 4)).off + 3, none⟩ = some (.slice A3 x.f3.length c3)) (ds := [8]) #[false, false, false, false, false, false, false, false, false, false, false, false, false, false, false, false] (by kernel_rfl) rfl rfl ⟨by first | exact eq0 | simpa using eq0, by first | exact eq1 | simpa using eq1, by first | exact hy3 | simpa using hy3⟩ (fun hHeld => ?_)
 have HB4 : Aside0 (Below w.heap.size w W3.drew) := Aside0.mk (below_drew1 HB3.out)
 have BO4 : Aside0 (W3.drew.heap[bo]? = some (.cells #[.slice Am l1_0.length cm, .slice At l1_1.length ct] 41 (0, 0))) := Aside0.mk (blk_drewN BO3.out 1)
 have BR4 : Aside0 (W3.drew.heap[w.heap.size + 1 + 1 + 1]? = some (.cells #[.slice none 0 0, .slice none 0 0] 41 (0, 0))) := Aside0.mk (blk_drewN BR3.out 1)
 have HJ4 : Aside0 (SJ w.heap.size (.slice Am l1_0.length cm) (.slice At l1_1.length ct) l1_0 l1_1 W3.drew) := Aside0.mk (HJ3.out.drewN 1)
 generalize W3.drew = W4 at HB4 BO4 BR4 HJ4 hHeld ⊢
 clear HB3 BO3 BR3 BS3 BK3 BP3 HJ3 eq0 eq1 ek0 ek1 hy0 hy1 hy2 hy3
 refine pure_ (i := 0) (N := some 37) (v := ?_) (a' := ?_) #[true, false, false, false, false, false, false, false, false, false, false, false, false, false, false, false] rfl rfl (by kernel_rfl) (fun _ _ _ h => h) (Or.inl ⟨by rfl, ?_⟩) ?_ ?_
 rotate_left
 ·intro w'
  go_simp
  with_reducible rfl
 rotate_left
 ·simp only [Act.put, List.setIfInBounds_toArray, List.set_cons_zero, List.set_cons_succ, i64_w, i32_w]
  rfl
 refine take_ (i := 1) (N := some 38) (v := ?_) (a' := ?_) #[true, true, false, false, false, false, false, false, false, false, false, false, false, false, false, false] rfl rfl (by kernel_rfl) (fun _ _ _ h => h) (Or.inl ⟨by rfl, ?_⟩) hHeld ?_ ?_
 rotate_left
 ·rintro w' ⟨s0, s1, s3⟩
  go_simp
  with_reducible rfl
 rotate_left
 ·simp only [Act.put, List.setIfInBounds_toArray, List.set_cons_zero, List.set_cons_succ, i64_w, i32_w]
  rfl
 refine pure_ (i := 2) (N := some 39) (v := ?_) (a' := ?_) #[true, true, true, false, false, false, false, false, false, false, false, false, false, false, false, false] rfl rfl (by kernel_rfl) (fun _ _ _ h => h) (Or.inl ⟨by rfl, ?_⟩) ?_ ?_
 rotate_left
 ·intro w'
  go_simp
  with_reducible rfl
 rotate_left
 ·simp only [Act.put, List.setIfInBounds_toArray, List.set_cons_zero, List.set_cons_succ, i64_w, i32_w]
  rfl
 refine pure_ (i := 3) (N := some 40) (v := ?_) (a' := ?_) #[true, true, true, true, false, false, false, false, false, false, false, false, false, false, false, false] rfl rfl (by kernel_rfl) (fun _ _ _ h => h) (Or.inl ⟨by rfl, ?_⟩) ?_ ?_
 rotate_left
 ·intro w'
  go_simp
  with_reducible rfl
 rotate_left
 ·simp only [Act.put, List.setIfInBounds_toArray, List.set_cons_zero, List.set_cons_succ, i64_w, i32_w]
  rfl
 refine pure_ (i := 4) (N := some 41) (v := ?_) (a' := ?_) #[true, true, true, true, true, false, false, false, false, false, false, false, false, false, false, false] rfl rfl (by kernel_rfl) (fun _ _ _ h => h) (Or.inl ⟨by rfl, ?_⟩) ?_ ?_
 rotate_left
 ·intro w'
  go_simp
  with_reducible rfl
 rotate_left
 ·simp only [Act.put, List.setIfInBounds_toArray, List.set_cons_zero, List.set_cons_succ, i64_w, i32_w]
  rfl
 refine take_ (i := 5) (N := some 42) (v := ?_) (a' := ?_) #[true, true, true, true, true, true, false, false, false, false, false, false, false, false, false, false] rfl rfl (by kernel_rfl) (fun _ _ _ h => h) (Or.inl ⟨by rfl, ?_⟩) hHeld ?_ ?_
 rotate_left
 ·rintro w' ⟨s0, s1, s3⟩
  go_simp
  with_reducible rfl
 rotate_left
 ·simp only [Act.put, List.setIfInBounds_toArray, List.set_cons_zero, List.set_cons_succ, i64_w, i32_w]
  rfl
 refine pure_ (i := 6) (N := some 43) (v := ?_) (a' := ?_) #[true, true, true, true, true, true, true, false, false, false, false, false, false, false, false, false] rfl rfl (by kernel_rfl) (fun _ _ _ h => h) (Or.inl ⟨by rfl, ?_⟩) ?_ ?_
 rotate_left
 ·intro w'
  go_simp
  with_reducible rfl
 rotate_left
 ·simp only [Act.put, List.setIfInBounds_toArray, List.set_cons_zero, List.set_cons_succ, i64_w, i32_w]
  rfl
 refine take_ (i := 7) (N := some 44) (v := ?_) (a' := ?_) #[true, true, true, true, true, true, true, true, false, false, false, false, false, false, false, false] rfl rfl (by kernel_rfl) (fun _ _ _ h => h) (Or.inl ⟨by rfl, ?_⟩) hHeld ?_ ?_
 rotate_left
 ·rintro w' ⟨s0, s1, s3⟩
  go_simp
  with_reducible rfl
 rotate_left
 ·simp only [Act.put, List.setIfInBounds_toArray, List.set_cons_zero, List.set_cons_succ, i64_w, i32_w]
  rfl
 refine last_ (i := 8) (N := some 45) #[true, true, true, true, true, true, true, true, true, false, false, false, false, false, false, false] rfl rfl (by kernel_rfl) (by decide) (fun K hK => ?_)
 refine goes_ Try.func23 (by kernel_rfl) rfl #[.slice A3 x.f3.length c3, .slice A1_0 l1_0.length c1_0] (by rfl) rfl rfl (by (try simp only [List.map_toArray, List.map_cons, List.map_nil]); first | done | rfl) ?_
 refine (fencepostref09_Drain.calls A3 c3 x.f3 A1_0 c1_0 l1_0 r1 r2 true W4 (Kd.C_below HI3.out HB4.out) HL3.out (Kd.C_below HR10.out HB4.out) HC10.out HDR.out).mono ?_
 rintro e w5 ⟨vb, vn, rfl, hRb, hRn, hb5⟩
 obtain ⟨Ab, cb, rfl⟩ := Kd.R_slice hRb
 obtain ⟨An, cn, rfl⟩ := Kd.R_slice hRn
 refine ⟨_, rfl, ?_⟩
 have HRB := Aside0.mk hRb
 have HRN := Aside0.mk hRn
 have HB5' := Aside0.mk hb5
 clear hRb hRn hb5
 refine hK.out _ _ ?_
 clear hK K
 refine norm_ (a' := ?_) ?_ ?_
 rotate_left
 ·show Act.put _ (some 45) _ = _
  simp only [Act.put, List.setIfInBounds_toArray, List.set_cons_zero, List.set_cons_succ, i64_w, i32_w]
  rfl
 refine pure_ (i := 9) (N := some 36) (v := ?_) (a' := ?_) #[true, true, true, true, true, true, true, true, true, true, false, false, false, false, false, false] rfl rfl (by kernel_rfl) (fun _ _ _ h => h) (Or.inl ⟨by rfl, ?_⟩) ?_ ?_
 rotate_left
 ·intro w'
  go_simp
  with_reducible rfl
 rotate_left
 ·simp only [Act.put, List.setIfInBounds_toArray, List.set_cons_zero, List.set_cons_succ, i64_w, i32_w]
  rfl
 refine pure_ (i := 10) (N := some 46) (v := ?_) (a' := ?_) #[true, true, true, true, true, true, true, true, true, true, true, false, false, false, false, false] rfl rfl (by kernel_rfl) (fun _ _ _ h => h) (Or.inl ⟨by rfl, ?_⟩) ?_ ?_
 rotate_left
 ·intro w'
  go_simp
  with_reducible rfl
 rotate_left
 ·simp only [Act.put, List.setIfInBounds_toArray, List.set_cons_zero, List.set_cons_succ, i64_w, i32_w]
  rfl
 refine pure_ (i := 11) (N := some 47) (v := ?_) (a' := ?_) #[true, true, true, true, true, true, true, true, true, true, true, true, false, false, false, false] rfl rfl (by kernel_rfl) (fun _ _ _ h => h) (Or.inl ⟨by rfl, ?_⟩) ?_ ?_
 rotate_left
 ·intro w'
  go_simp
  with_reducible rfl
 rotate_left
 ·simp only [Act.put, List.setIfInBounds_toArray, List.set_cons_zero, List.set_cons_succ, i64_w, i32_w]
  rfl
 refine pure_ (i := 12) (N := some 48) (v := ?_) (a' := ?_) #[true, true, true, true, true, true, true, true, true, true, true, true, true, false, false, false] rfl rfl (by kernel_rfl) (fun _ _ _ h => h) (Or.inl ⟨by rfl, ?_⟩) ?_ ?_
 rotate_left
 ·intro w'
  go_simp
  with_reducible rfl
 rotate_left
 ·simp only [Act.put, List.setIfInBounds_toArray, List.set_cons_zero, List.set_cons_succ, i64_w, i32_w]
  rfl
 refine pure_ (i := 13) (N := some 10) (v := ?_) (a' := ?_) #[true, true, true, true, true, true, true, true, true, true, true, true, true, true, false, false] rfl rfl (by kernel_rfl) (fun _ _ _ h => h) (Or.inl ⟨by rfl, ?_⟩) ?_ ?_
 rotate_left
 ·intro w'
  go_simp
  with_reducible rfl
 rotate_left
 ·simp only [Act.put, List.setIfInBounds_toArray, List.set_cons_zero, List.set_cons_succ, i64_w, i32_w]
  rfl
 refine pure_ (i := 14) (N := some 11) (v := ?_) (a' := ?_) #[true, true, true, true, true, true, true, true, true, true, true, true, true, true, true, false] rfl rfl (by kernel_rfl) (fun _ _ _ h => h) (Or.inl ⟨by rfl, ?_⟩) ?_ ?_
 rotate_left
 ·intro w'
  go_simp
  with_reducible rfl
 rotate_left
 ·simp only [Act.put, List.setIfInBounds_toArray, List.set_cons_zero, List.set_cons_succ, i64_w, i32_w]
  rfl
 refine pure_ (i := 15) (N := some 12) (v := ?_) (a' := ?_) #[true, true, true, true, true, true, true, true, true, true, true, true, true, true, true, true] rfl rfl (by kernel_rfl) (fun _ _ _ h => h) (Or.inl ⟨by rfl, ?_⟩) ?_ ?_
 rotate_left
 ·intro w'
  go_simp
  with_reducible rfl
 rotate_left
 ·simp only [Act.put, List.setIfInBounds_toArray, List.set_cons_zero, List.set_cons_succ, i64_w, i32_w]
  rfl
 refine done_ (by kernel_rfl) ?_
 go_upto_region 7 with fail
 have HB5 := Aside0.mk (below_step HB4.out HB5'.out)
 have BO5 := Aside0.mk (blk_below BO4.out HB5'.out)
 have BR5 := Aside0.mk (blk_below BR4.out HB5'.out)
 have hb45 : w.heap.size ≤ W4.heap.size := HB4.out.size
 have hbo4 : bo < W4.heap.size := blk_lt BO4.out
 have HS5 := Aside0.mk (Kd.S_mono (ok' := fun k => True ∧ some k ≠ (Value.slice Ab r1.length cb).ownBlock) (Kd.S_elder' HJ4.out.ths (v := .slice Ab r1.length cb) (Kd.R_base HRB.out) HB5'.out) (fun k hk => ⟨trivial, hk.2⟩))
 have HRB5 := Aside0.mk (Kd.R_lower HRB.out hb45)
 have HRN5 := Aside0.mk (Kd.R_lower HRN.out hb45)
 have HM5 := Aside0.mk (Kd.R_below HJ4.out.mem HB5'.out)
 clear HB4 BO4 BR4 HJ4 HB5' HRB HRN
 have hn5 := (Kd.S_reads' HS5.out).1
 obtain ⟨g, ctt, hform, hgb, hglt, cg, hcg⟩ := Kd.R_form (Kd.S_R HS5.out) (by omega)
 obtain rfl : At = some ⟨g, 0, none⟩ := by injection hform
 obtain rfl : ct = ctt := by injection hform
 have hgo : g ≠ bo := types_ne hcg BO5.out (by decide)
 clear hform
 have o0 : w5.cell? ⟨bo, 0, none⟩ = some (.slice Am l1_0.length cm) := (blk_cell BO5.out 0).trans rfl
 have o1 : w5.cell? ⟨bo, 1, none⟩ = some (.slice (some ⟨g, 0, none⟩) l1_1.length ct) := (blk_cell BO5.out 1).trans rfl
 have of0 := blk_frozen BO5.out 0
 go_upto_region 10 with fail
 obtain ⟨w6, hw6⟩ : ∃ w6, w6 = w5.setCell ⟨bo, 0, none⟩ (.slice An r2.length cn) := ⟨_, rfl⟩
 have BO6 : Aside0 (w6.heap[bo]? = some (.cells #[.slice An r2.length cn, .slice (some ⟨g, 0, none⟩) l1_1.length ct] 41 (0, 0))) := Aside0.mk (by rw [hw6]; exact blk_set BO5.out 0 _)
 have BR6 : Aside0 (w6.heap[w.heap.size + 1 + 1 + 1]? = some (.cells #[.slice none 0 0, .slice none 0 0] 41 (0, 0))) := Aside0.mk (by rw [hw6]; exact blk_far BR5.out (by show w.heap.size + 1 + 1 + 1 ≠ bo; omega) _)
 have HB6 : Aside0 (Below w.heap.size w w6) := Aside0.mk (by rw [hw6]; exact below_set HB5.out (by omega))
 have HS6 : Aside0 (Kd.S k49 49 w6 w.heap.size (fun k => True ∧ some k ≠ (Value.slice Ab r1.length cb).ownBlock) (.slice (some ⟨g, 0, none⟩) l1_1.length ct) l1_1) := Aside0.mk (by rw [hw6]; exact Kd.S_set HS5.out BO5.out (by decide) 0 _)
 have HRB6 : Aside0 (Kd.R k66 66 w6 w.heap.size (fun _ => True) (.slice Ab r1.length cb) r1) := Aside0.mk (by rw [hw6]; exact Kd.R_set HRB5.out BO5.out (by decide) 0 _)
 have HRN6 : Aside0 (Kd.R (Kd.int .i64) 3 w6 w.heap.size (fun _ => True) (.slice An r2.length cn) r2) := Aside0.mk (by rw [hw6]; exact Kd.R_set HRN5.out BO5.out (by decide) 0 _)
 rw [← hw6]
 clear hw6 BO5 BR5 HB5 HS5 HRB5 HRN5 o0 o1 of0 hcg cg
 have o1 : w6.cell? ⟨bo, 1, none⟩ = some (.slice (some ⟨g, 0, none⟩) l1_1.length ct) := (blk_cell BO6.out 1).trans rfl
 obtain ⟨v3, hc3⟩ : ∃ v3, w6.cell? ⟨g, t * 4 + 3, none⟩ = some v3 := S_c3 HS6.out HX.out
 have hf3 : w6.frozen? ⟨g, t * 4 + 3, none⟩ = false := S_f3 HS6.out HX.out
 go_upto_region 11 with fail
 obtain ⟨w7, hw7⟩ : ∃ w7, w7 = w6.setCell ⟨g, t * 4 + 3, none⟩ (.slice Ab r1.length cb) := ⟨_, rfl⟩
 obtain ⟨cg, hcg⟩ := Kd.S_typed HS6.out g (by simp [Value.ownBlock])
 have hgR : g ≠ w.heap.size + 1 + 1 + 1 := types_ne hcg BR6.out (by decide)
 have BO7 : Aside0 (w7.heap[bo]? = some (.cells #[.slice An r2.length cn, .slice (some ⟨g, 0, none⟩) l1_1.length ct] 41 (0, 0))) := Aside0.mk (by rw [hw7]; exact blk_far BO6.out (fun e => hgo e.symm) _)
 have BR7 : Aside0 (w7.heap[w.heap.size + 1 + 1 + 1]? = some (.cells #[.slice none 0 0, .slice none 0 0] 41 (0, 0))) := Aside0.mk (by rw [hw7]; exact blk_far BR6.out (fun e => hgR e.symm) _)
 have HB7 : Aside0 (Below w.heap.size w w7) := Aside0.mk (by rw [hw7]; exact below_set HB6.out hgb)
 have HS7 : Aside0 (Kd.S k49 49 w7 w.heap.size (fun _ => True) (.slice (some ⟨g, 0, none⟩) l1_1.length ct) (l1_1.set t ⟨x.f0, x.f1, x.f2, r1⟩)) := Aside0.mk (by rw [hw7]; exact S_buf HS6.out HX.out HRB6.out)
 have HRN7 : Aside0 (Kd.R (Kd.int .i64) 3 w7 w.heap.size (fun _ => True) (.slice An r2.length cn) r2) := Aside0.mk (by rw [hw7]; exact Kd.R_set HRN6.out hcg (by decide) _ _)
 rw [← hw7]
 clear hw7 BO6 BR6 HB6 HS6 HRB6 HRN6 o1 hc3 hf3 hcg cg
 have o0 : w7.cell? ⟨bo, 0, none⟩ = some (.slice An r2.length cn) := (blk_cell BO7.out 0).trans rfl
 have o1 : w7.cell? ⟨bo, 1, none⟩ = some (.slice (some ⟨g, 0, none⟩) l1_1.length ct) := (blk_cell BO7.out 1).trans rfl
 have rz0 : w7.cell? ⟨w.heap.size + 1 + 1 + 1, 0, none⟩ = some (.slice none 0 0) := (blk_cell BR7.out 0).trans rfl
 have rz1 : w7.cell? ⟨w.heap.size + 1 + 1 + 1, 1, none⟩ = some (.slice none 0 0) := (blk_cell BR7.out 1).trans rfl
 have rf0 := blk_frozen BR7.out 0
 have rf1 := blk_frozen BR7.out 1
 go_wp2_with fail
 have eb0 : ((w7.setCell ⟨w.heap.size + 1 + 1 + 1, 0, none⟩ (.slice An r2.length cn)).setCell ⟨w.heap.size + 1 + 1 + 1, 1, none⟩ (.slice (some ⟨g, 0, none⟩) l1_1.length ct)).cell? ⟨w.heap.size + 1 + 1 + 1, 0, none⟩ = some (.slice An r2.length cn) := (blk_cell (blk_set (blk_set BR7.out 0 _) 1 _) 0).trans rfl
 have eb1 : ((w7.setCell ⟨w.heap.size + 1 + 1 + 1, 0, none⟩ (.slice An r2.length cn)).setCell ⟨w.heap.size + 1 + 1 + 1, 1, none⟩ (.slice (some ⟨g, 0, none⟩) l1_1.length ct)).cell? ⟨w.heap.size + 1 + 1 + 1, 1, none⟩ = some (.slice (some ⟨g, 0, none⟩) l1_1.length ct) := (blk_cell (blk_set (blk_set BR7.out 0 _) 1 _) 1).trans rfl
 have hV := Kd.R_V (base' := w.heap.size) (Kd.R_mono (Kd.R_bound (Kd.R_set (Kd.R_set HRN7.out BR7.out (by decide) 0 (.slice An r2.length cn)) (blk_set BR7.out 0 _) (by decide) 1 (.slice (some ⟨g, 0, none⟩) l1_1.length ct))) (fun _ hk => hk.2.1))
 have hT := Kd.S_V (base' := w.heap.size) (Kd.S_mono (Kd.S_bound (Kd.S_set (Kd.S_set HS7.out BR7.out (by decide) 0 (.slice An r2.length cn)) (blk_set BR7.out 0 _) (by decide) 1 (.slice (some ⟨g, 0, none⟩) l1_1.length ct))) (fun _ hk => hk.2.1))
 exact bodyPost_ret (v := .tuple #[.agg #[.slice An r2.length cn, .slice (some ⟨g, 0, none⟩) l1_1.length ct], .bool true]) (by simp [results, Try.results14, go_sem, eb0, eb1]) rfl ⟨_, _, rfl, hV, hT, below_set (below_set HB7.out (by omega)) (by omega)⟩
end Go.Proofs.Ytphklaajolpieaa.Print
