/- slots.Insert: its contract, by walking its text. -/
import Derived.Test.YtijpfonbeepmfaaHSlIns1
import Derived.Test.YtijpfonbeepmfaaHCloneInt
namespace Go.Proofs.Ytijpfonbeepmfaa.Print
open Go.RowKit Go.Maps Go.Proofs.YtijpfonbeepmfaaW.PrintWords Go.Proofs.YtijpfonbeepmfaaW.PrintLast Go.Proofs.YtijpfonbeepmfaaW.PrintMore
set_option linter.unusedVariables false
set_option linter.unusedSimpArgs false
theorem cellI {e base : Nat} {ok : Nat → Prop} {g n cap l : Nat} {xs : List Int} {W : World} (h : Kd.R (Kd.int .i64) e W base ok (.slice (some ⟨g, 0, none⟩) n cap) xs) (hl : l < n) :
 W.cell? ⟨g, l, none⟩ = some (.int .i64 (rd xs (l : Int))) := by
 obtain ⟨c, hc, hM, hcc, hfr⟩ := Kd.R_elem h 0 (l : Int) (by omega) (by omega)
 have hM' : c = [.int .i64 (xs.getD (l : Int).toNat 0)] := hM
 have h1 := hcc 0 (.int .i64 (xs.getD (l : Int).toNat 0)) (by rw [hM']; rfl)
 rw [show ((l : Int)).toNat * (Kd.int .i64).sz + 0 = l by show ((l : Int)).toNat * 1 + 0 = l; omega] at h1
 exact h1
theorem cellsS {e base : Nat} {ok : Nat → Prop} {g n cap k : Nat} {xs : List S53} {W : World} (h : Kd.R k53 e W base ok (.slice (some ⟨g, 0, none⟩) n cap) xs) (hl : k < n) {x : S53} (hx : rd_T53 xs (k : Int) = x) :
 W.cell? ⟨g, k * 5, none⟩ = some (.int .i64 x.f0) ∧ W.cell? ⟨g, k * 5 + 1, none⟩ = some (.int .i64 x.f1) ∧ W.cell? ⟨g, k * 5 + 2, none⟩ = some (.int .i64 x.f2) ∧ W.cell? ⟨g, k * 5 + 3, none⟩ = some (.int .i64 x.f3) ∧ W.cell? ⟨g, k * 5 + 4, none⟩ = some (.int .i64 x.f4) ∧ W.frozen? ⟨g, k * 5 + 4, none⟩ = false := by
 obtain ⟨c, hc, hM, hcc, hfr⟩ := Kd.R_elem h z53 (k : Int) (by omega) (by omega)
 have hx' : xs.getD (k : Int).toNat z53 = x := hx
 rw [hx'] at hM
 have hM' : c = [.int .i64 x.f0, .int .i64 x.f1, .int .i64 x.f2, .int .i64 x.f3, .int .i64 x.f4] := k53_openM hM
 subst hM'
 have hk : ((k : Int)).toNat * k53.sz = k * 5 := by show ((k : Int)).toNat * 5 = k * 5; omega
 rw [hk] at hcc hfr
 exact ⟨hcc 0 _ rfl, hcc 1 _ rfl, hcc 2 _ rfl, hcc 3 _ rfl, hcc 4 _ rfl, hfr 4⟩
set_option maxHeartbeats 8000000 in
set_option maxRecDepth 100000 in
theorem slots_Insert.calls (A0_0 : Option Addr) (c0_0 : Nat) (l0_0 : List Int) (A0_1 : Option Addr) (c0_1 : Nat) (l0_1 : List (List S53)) (A1 : Option Addr) (c1 : Nat) (l1 : List Int) (r1 : List Int) (r2 : List (List S53)) (w : World) (hr0_0 : Kd.C (Kd.int .i64) w A0_0 l0_0.length l0_0) (hc0_0 : l0_0.length ≤ c0_0) (hr0_1 : Kd.C (Kd.slice 53 k53) w A0_1 l0_1.length l0_1) (hc0_1 : l0_1.length ≤ c0_1) (hr1 : Kd.C (Kd.int .i64) w A1 l1.length l1) (hc1 : l1.length ≤ c1) (h : slots_Insert.f l0_0 l0_1 l1 = some (r1, r2)) :
 Calls Try.prog 22 #[.agg #[.slice A0_0 l0_0.length c0_0, .slice A0_1 l0_1.length c0_1], .slice A1 l1.length c1] w fun e w' => ∃ v0_ v1_ : Value, e = .returned (.agg #[v0_, v1_]) ∧ Kd.R (Kd.int .i64) 3 w' w.heap.size (fun _ => True) v0_ r1 ∧ Kd.S (Kd.slice 53 k53) 50 w' w.heap.size (fun _ => True) v1_ r2 ∧ Below w.heap.size w w' := by
 unfold slots_Insert.f at h
 by_cases hib : insB l0_0 l0_1 l1 = true
 rotate_left
 ·rw [if_neg hib] at h; exact absurd h (by simp)
 rw [if_pos hib] at h
 simp only [Option.some.injEq, Prod.mk.injEq] at h
 obtain ⟨rfl, rfl⟩ := h
 obtain ⟨b1, b2, b3, b4, b5, b6⟩ := insB_of hib
 have hu1 := Try.underlying25
 have hu2 := Try.underlying53
 have HR00 := Aside0.mk hr0_0
 have HR01 := Aside0.mk hr0_1
 have HR1 := Aside0.mk hr1
 have HC00 := Aside0.mk hc0_0
 have HC01 := Aside0.mk hc0_1
 have HC1 := Aside0.mk hc1
 have HL0 := Aside0.mk b1
 have HTOT := Aside0.mk b2
 have HLB := Aside0.mk b3
 have HLG := Aside0.mk b4
 have HTO := Aside0.mk b5
 have HWF := Aside0.mk b6
 clear hr0_0 hr0_1 hr1 hc0_0 hc0_1 hc1 b1 b2 b3 b4 b5 b6 hib
 obtain ⟨W1, hW1⟩ : ∃ W1, W1 = (w.alloc (.cells #[.slice A0_0 l0_0.length c0_0, .slice A0_1 l0_1.length c0_1] 25)).alloc (.cells #[.slice none 0 0, .slice none 0 0] 25) := ⟨_, rfl⟩
 have bP : W1.heap[w.heap.size]? = some (.cells #[.slice A0_0 l0_0.length c0_0, .slice A0_1 l0_1.length c0_1] 25 (0, 0)) := by rw [hW1]; exact blk_alloc (blk_new w _) _
 have bR : W1.heap[w.heap.size + 1]? = some (.cells #[.slice none 0 0, .slice none 0 0] 25 (0, 0)) := by
  have := blk_new (w.alloc (.cells #[.slice A0_0 l0_0.length c0_0, .slice A0_1 l0_1.length c0_1] 25)) (.cells #[.slice none 0 0, .slice none 0 0] 25)
  rw [World.size_alloc] at this; rw [hW1]; exact this
 have hB1 : Below w.heap.size w W1 := by rw [hW1]; exact below_alloc (below_alloc (Below.refl _ _) _) _
 have ep0 : W1.cell? ⟨w.heap.size, 0, none⟩ = some (.slice A0_0 l0_0.length c0_0) := (blk_cell bP 0).trans rfl
 have HW1 := Aside0.mk hW1
 have BP := Aside0.mk bP
 have BR := Aside0.mk bR
 have HBW := Aside0.mk hB1
 clear hW1 bP bR hB1
 have hcl : slices_Clone_int_int.f l0_0 = some l0_0 := by unfold slices_Clone_int_int.f; rw [if_pos HL0.out]
 go_enter Try.func22, Try.ntmps22
 go_upto_region 1 with fail
 rw [← HW1.out]
 go_upto_region 2 with (go_at_call 41; refine (slices_Clone_int_int.calls A0_0 c0_0 l0_0 l0_0 W1 (Kd.C_below HR00.out HBW.out) HC00.out hcl).mono ?_; rintro e w2 ⟨vA, rfl, hA2, hb2⟩; obtain ⟨Am, cm, rfl⟩ := Kd.R_slice hA2; have HA2 := Aside0.mk hA2; have HB2 := Aside0.mk hb2; clear hA2 hb2)
 obtain ⟨W3, hW3⟩ : ∃ W3, W3 = w2.alloc (.cells #[.slice Am l0_0.length cm, .slice none 0 0] 25) := ⟨_, rfl⟩
 have hb23 : Below w2.heap.size w2 W3 := by rw [hW3]; exact below_alloc (Below.refl _ _) _
 have BQ3 : Aside0 (W3.heap[w2.heap.size]? = some (.cells #[.slice Am l0_0.length cm, .slice none 0 0] 25 (0, 0))) := Aside0.mk (by rw [hW3]; exact blk_new w2 _)
 have BP3 := Aside0.mk (blk_below (blk_below BP.out HB2.out) hb23)
 have BR3 := Aside0.mk (blk_below (blk_below BR.out HB2.out) hb23)
 have HB3 := Aside0.mk (below_step (below_step HBW.out HB2.out) hb23)
 have HA3 := Aside0.mk (Kd.R_below (Kd.R_lower HA2.out HBW.out.size) hb23)
 have HQ : Aside0 (w.heap.size + 1 < w2.heap.size) := Aside0.mk (Nat.lt_of_lt_of_le (blk_lt BR.out) HB2.out.size)
 rw [← hW3]
 clear BP BR HBW HB2 HA2 ep0 hb23 hW3 hcl HW1
 generalize w2.heap.size = bq at BQ3 HQ ⊢
 go_upto_region 3 with (go_at_call 35; refine (keys_calls A1 c1 l1 W3 (Kd.C_below HR1.out HB3.out) HC1.out HWF.out HLG.out).mono ?_; rintro e w4 ⟨B, nn, rfl, hM4, hBB, hb4⟩; have HM4 := Aside0.mk hM4; have HB4 := Aside0.mk hb4; clear hM4 hb4 hBB)
 have HK0 : Aside0 (IK w bq B nn l1 (.slice Am l0_0.length cm) l0_0 (.slice none 0 0) [] (.slice none 0 0) [] (.slice none 0 0) [] w4) := Aside0.mk
  ⟨blk_below BR3.out HB4.out, blk_below BQ3.out HB4.out, HM4.out, Kd.R_mono (Kd.R_below HA3.out HB4.out) (fun k _ => ⟨trivial, by simp [Value.ownBlock]⟩), Kd.S_nil _ _ _ _ _, Kd.R_nil _ _ _ _ _, Kd.R_nil _ _ _ _ _, below_step HB3.out HB4.out, HQ.out⟩
 have ep1 : w4.cell? ⟨w.heap.size, 1, none⟩ = some (.slice A0_1 l0_1.length c0_1) := (blk_cell (blk_below BP3.out HB4.out) 1).trans rfl
 clear BP3 BR3 BQ3 HB3 HA3 HB4 HM4 HQ
 go_upto_region 5 with fail
 clear ep1
 go_loopw [7, 25] (fun v7 v25 wr => ∃ i : Nat, i ≤ l0_1.length ∧ v25 = .int .i64 i ∧ v7 = .int .i64 ((l0_1.take i).foldl (progStep l1) ([], 0)).2 ∧ Aside0 (∃ v, IK w bq B nn l1 (.slice Am l0_0.length cm) l0_0 v ((l0_1.take i).foldl (progStep l1) ([], 0)).1 (.slice none 0 0) [] (.slice none 0 0) [] wr)) (fun _ i _ => l0_1.length - (intOf i).toNat)
 case atStart => exact ⟨0, Nat.zero_le _, rfl, rfl, Aside0.mk ⟨_, HK0.out⟩⟩
 case round =>
  clear HK0
  obtain ⟨i, hi, rfl, rfl, HJ⟩ := hrel
  by_cases hlt : i < l0_1.length
  ·have p1 : ((i : Int) < (l0_1.length : Int)) = True := eq_true (by omega)
   have p2 : (0 ≤ (i : Int)) = True := eq_true (by omega)
   have p3 : (i < l0_1.length) = True := eq_true hlt
   obtain ⟨v, J⟩ := HJ.out
   obtain ⟨ad, A0, c0, rfl, hcell0, hc0, hC0⟩ := at_L3 HR01.out (i : Int) (by omega) (by omega)
   rw [Int.toNat_natCast] at hcell0
   have hcell := pw_cell_below J.hB hcell0
   obtain ⟨ht1, ht2, ht3⟩ := totS_take l0_1 i hlt
   have hst : (l0_1.take (i + 1)).foldl (progStep l1) ([], 0) = progStep l1 ((l0_1.take i).foldl (progStep l1) ([], 0)) (rd_L3 l0_1 (i : Int)) := by rw [ht3, List.foldl_append]; rfl
   obtain ⟨hp1, hp2⟩ := prog_len l1 (l0_1.take i) ([], 0)
   rw [List.length_take] at hp1
   simp only [List.length_nil] at hp1
   have hto := HTO.out _ ht2
   have HST := Aside0.mk hst
   have HJJ := Aside0.mk J
   have HC0 := Aside0.mk hC0
   have HLT := Aside0.mk hlt
   have HP1 := Aside0.mk hp1
   have HTT := Aside0.mk hto
   have hn0 : 0 ≤ ((l0_1.take i).foldl (progStep l1) ([], 0)).2 ∧ ((l0_1.take i).foldl (progStep l1) ([], 0)).2 + (rd_L3 l0_1 (i : Int)).length ≤ 1000000 := by have := HTOT.out; rw [hp2]; omega
   clear J hC0 HJ hst hlt hcell0 hp1 hp2 hto ht1 ht2 ht3
   generalize (l0_1.take i).foldl (progStep l1) ([], 0) = st at *
   generalize rd_L3 l0_1 (i : Int) = t at *
   have HN0 := Aside0.mk hn0
   have htl : t.length ≤ 1000000 := by omega
   clear hn0
   go_upto_region 10 with fail
   clear hcell
   go_loopw [7, 10, 11, 31] (fun v7 v10 v11 v31 wi => ∃ j : Nat, j ≤ t.length ∧ v31 = .int .i64 j ∧ v7 = .int .i64 ((t.take j).foldl (insStep l1) ([], [], st.2)).2.2 ∧ Aside0 (IK w bq B nn l1 (.slice Am l0_0.length cm) l0_0 v st.1 v10 ((t.take j).foldl (insStep l1) ([], [], st.2)).1 v11 ((t.take j).foldl (insStep l1) ([], [], st.2)).2.1 wi)) (fun _ _ _ j _ => t.length - (intOf j).toNat)
   case atStart => exact ⟨0, Nat.zero_le _, rfl, rfl, Aside0.mk HJJ.out⟩
   case round =>
    obtain ⟨j, hj, rfl, rfl, HK⟩ := hrel
    by_cases hjl : j < t.length
    ·have p4 : ((j : Int) < (t.length : Int)) = True := eq_true (by omega)
     have p5 : (0 ≤ (j : Int)) = True := eq_true (by omega)
     have p6 : (j < t.length) = True := eq_true hjl
     obtain ⟨ad2, rfl, y0, y1, y2, y3, y4⟩ := at_T53 (Kd.C_below HC0.out HK.out.hB) (j : Int) (by omega) (by omega)
     have hst2 : (t.take (j + 1)).foldl (insStep l1) ([], [], st.2) = insStep l1 ((t.take j).foldl (insStep l1) ([], [], st.2)) (rd_T53 t (j : Int)) := by
      rw [takeS_snoc t j hjl, List.foldl_append]; rfl
     obtain ⟨hq1, hq2, hq3, _⟩ := ins_len l1 (t.take j) ([], [], st.2)
     simp only [List.length_take, List.length_nil] at hq1 hq2 hq3
     have HST2 := Aside0.mk hst2
     have HJL := Aside0.mk hjl
     have HQ2 := Aside0.mk hq2
     have hn2 : 0 ≤ ((t.take j).foldl (insStep l1) ([], [], st.2)).2.2 ∧ ((t.take j).foldl (insStep l1) ([], [], st.2)).2.2 ≤ 1000000 := by have := HN0.out; omega
     clear hst2 hjl hq2 hq3
     generalize (t.take j).foldl (insStep l1) ([], [], st.2) = q at *
     rw [Int.toNat_natCast] at y0 y1 y2 y3 y4
     generalize rd_T53 t (j : Int) = x at *
     obtain ⟨Ao, co, rfl⟩ := Kd.R_slice HK.out.ho
     go_upto_region 12 with fail
     obtain ⟨W4, hW4⟩ : ∃ W4, W4 = wr.alloc (.cells #[.int .i64 x.f0, .int .i64 x.f1, .int .i64 x.f2, .int .i64 x.f3, .int .i64 x.f4] 53) := ⟨_, rfl⟩
     have b4 : W4.heap[wr.heap.size]? = some (.cells #[.int .i64 x.f0, .int .i64 x.f1, .int .i64 x.f2, .int .i64 x.f3, .int .i64 x.f4] 53 (0, 0)) := by rw [hW4]; exact blk_new _ _
     have HK4 := Aside0.mk (HK.out.below (W' := W4) (by rw [hW4]; exact below_alloc (Below.refl _ _) _))
     have hne4 : some wr.heap.size ≠ (Value.slice Ao q.1.length co).ownBlock := Kd.R_ne_new HK.out.ho 0
     have HNE := Aside0.mk hne4
     rw [← hW4]
     have B4 := Aside0.mk b4
     generalize wr.heap.size = b13 at B4 HNE ⊢
     clear hW4 b4 hne4 y0 y1 y2 y3 y4 HK
     go_upto_region 13 with ((with_reducible refine gate_builtin (b := .append) (xs := #[.tmp 35, .tmp 38]) rfl ?_); at_builtin; refine Kd.R_append (Kd.int .i64) (w0 := w) w.heap.size rfl (.tmp 35) (.tmp 38) 22 3 (.int .i64 0) 8 rfl Try.underlying22 info3 rfl (by decide) (by omega) u11 q.2.1 (q.1.length : Int) [.int .i64 (q.1.length : Int)] (fun _ => True) (fun _ => False) rfl rfl rfl (fun _ hk => hk.elim) (fun _ _ => trivial) HK4.out.hb HK4.out.hB HK4.out.hB.size (by have := HQ2.out; omega) ?_; intro u1 w5 hn hbw hgw hatw)
     have HK5 := Aside0.mk (HK4.out.grewI hgw hn hatw)
     have B5 := Aside0.mk (blk_grown B4.out hgw (Kd.R_ne HK4.out.hb B4.out (by decide)))
     clear hn hbw hgw hatw HK4 B4
     have hlook := (HK5.out.hM.look q.2.2 (wf_i64_of (by omega) (by omega))).1
     have hpos := cnt_pos l1 q.2.2
     have s1 : q.2.2 + 1 ≤ 9223372036854775807 := by omega
     have s2 : -9223372036854775808 ≤ q.2.2 + 1 := by omega
     by_cases c : q.2.2 ∈ l1
     ·have p7 : (0 < cntF l1 q.2.2) = True := eq_true (hpos.2 c)
      have HST3 : Aside0 (insStep l1 q x = (q.1 ++ [fenceS] ++ [x], q.2.1 ++ [(q.1.length : Int)], q.2.2 + 1)) := Aside0.mk (by unfold insStep; rw [if_pos c])
      clear hpos
      go_upto_region 14 with fail
      clear hlook
      go_upto_region 15 with ((with_reducible refine gate_builtin (b := .append) (xs := #[.tmp 44, .tmp 46]) rfl ?_); at_builtin; refine Kd.R_append k53 (w0 := w) w.heap.size rfl (.tmp 44) (.tmp 46) 50 53 (.agg #[(.int .i64 0), (.int .i64 0), (.int .i64 0), (.int .i64 0), (.int .i64 0)]) 40 rfl Try.underlying50 info53 rfl (by decide) (by omega) (.slice Ao q.1.length co) q.1 fenceS [.int .i64 6, .int .i64 0, .int .i64 0, .int .i64 0, .int .i64 0] (fun _ => True) (fun _ => False) rfl rfl (k53_mkM w5 w.heap.size _ fenceS) (fun _ hk => hk.elim) (fun _ _ => trivial) HK5.out.ho HK5.out.hB HK5.out.hB.size (by omega) ?_; intro u2 w6 hn hbw hgw hatw)
      have HK6 := Aside0.mk (HK5.out.grewS hgw hn hatw)
      have B6 := Aside0.mk (blk_grown B5.out hgw HNE.out)
      clear hn hbw hgw hatw HK5 B5
      have z0 : w6.cell? ⟨b13, 0, none⟩ = some (.int .i64 x.f0) := (blk_cell B6.out 0).trans rfl
      have z1 : w6.cell? ⟨b13, 1, none⟩ = some (.int .i64 x.f1) := (blk_cell B6.out 1).trans rfl
      have z2 : w6.cell? ⟨b13, 2, none⟩ = some (.int .i64 x.f2) := (blk_cell B6.out 2).trans rfl
      have z3 : w6.cell? ⟨b13, 3, none⟩ = some (.int .i64 x.f3) := (blk_cell B6.out 3).trans rfl
      have z4 : w6.cell? ⟨b13, 4, none⟩ = some (.int .i64 x.f4) := (blk_cell B6.out 4).trans rfl
      go_wp2_with ((with_reducible refine gate_builtin (b := .append) (xs := #[.tmp 48, .tmp 50]) rfl ?_); at_builtin; refine Kd.R_append k53 (w0 := w) w.heap.size rfl (.tmp 48) (.tmp 50) 50 53 (.agg #[(.int .i64 0), (.int .i64 0), (.int .i64 0), (.int .i64 0), (.int .i64 0)]) 40 rfl Try.underlying50 info53 rfl (by decide) (by omega) u2 (q.1 ++ [fenceS]) x [.int .i64 x.f0, .int .i64 x.f1, .int .i64 x.f2, .int .i64 x.f3, .int .i64 x.f4] (fun _ => True) (fun _ => False) rfl rfl (k53_mkM w6 w.heap.size _ x) (fun _ hk => hk.elim) (fun _ _ => trivial) HK6.out.ho HK6.out.hB HK6.out.hB.size (by simp only [List.length_append, List.length_cons, List.length_nil]; omega) ?_; intro u3 w7 hn hbw hgw hatw)
      go_roundw
      case rel => exact ⟨j + 1, HJL.out, by simp, by rw [HST2.out, HST3.out], Aside0.mk (by rw [HST2.out, HST3.out]; exact HK6.out.grewS hgw hn hatw)⟩
      case measure => have := HJL.out; simp [intOf]; omega
     ·have p7 : (0 < cntF l1 q.2.2) = False := eq_false (fun h => c (hpos.1 h))
      have HST3 : Aside0 (insStep l1 q x = (q.1 ++ [x], q.2.1 ++ [(q.1.length : Int)], q.2.2 + 1)) := Aside0.mk (by unfold insStep; rw [if_neg c])
      clear hpos
      go_upto_region 15 with fail
      clear hlook
      have z0 : w5.cell? ⟨b13, 0, none⟩ = some (.int .i64 x.f0) := (blk_cell B5.out 0).trans rfl
      have z1 : w5.cell? ⟨b13, 1, none⟩ = some (.int .i64 x.f1) := (blk_cell B5.out 1).trans rfl
      have z2 : w5.cell? ⟨b13, 2, none⟩ = some (.int .i64 x.f2) := (blk_cell B5.out 2).trans rfl
      have z3 : w5.cell? ⟨b13, 3, none⟩ = some (.int .i64 x.f3) := (blk_cell B5.out 3).trans rfl
      have z4 : w5.cell? ⟨b13, 4, none⟩ = some (.int .i64 x.f4) := (blk_cell B5.out 4).trans rfl
      go_wp2_with ((with_reducible refine gate_builtin (b := .append) (xs := #[.tmp 48, .tmp 50]) rfl ?_); at_builtin; refine Kd.R_append k53 (w0 := w) w.heap.size rfl (.tmp 48) (.tmp 50) 50 53 (.agg #[(.int .i64 0), (.int .i64 0), (.int .i64 0), (.int .i64 0), (.int .i64 0)]) 40 rfl Try.underlying50 info53 rfl (by decide) (by omega) (.slice Ao q.1.length co) q.1 x [.int .i64 x.f0, .int .i64 x.f1, .int .i64 x.f2, .int .i64 x.f3, .int .i64 x.f4] (fun _ => True) (fun _ => False) rfl rfl (k53_mkM w5 w.heap.size _ x) (fun _ hk => hk.elim) (fun _ _ => trivial) HK5.out.ho HK5.out.hB HK5.out.hB.size (by omega) ?_; intro u3 w7 hn hbw hgw hatw)
      go_roundw
      case rel => exact ⟨j + 1, HJL.out, by simp, by rw [HST2.out, HST3.out], Aside0.mk (by rw [HST2.out, HST3.out]; exact HK5.out.grewS hgw hn hatw)⟩
      case measure => have := HJL.out; simp [intOf]; omega
    ·obtain rfl : j = t.length := by omega
     have p4 : ((t.length : Int) < (t.length : Int)) = False := eq_false (by omega)
     have hfin : (t.take t.length).foldl (insStep l1) ([], [], st.2) = insF l1 t st.2 := by rw [List.take_length]; rfl
     obtain ⟨hq1, hq2, hq3, hq4⟩ := ins_len l1 t ([], [], st.2)
     rw [show t.foldl (insStep l1) ([], [], st.2) = insF l1 t st.2 from rfl] at hq1 hq2 hq3 hq4
     have hth : thF l1 t st.2 = (insF l1 t st.2).1.map (toF (begF (insF l1 t st.2))) := rfl
     rw [hfin] at HK ⊢
     clear hfin
     simp only [List.length_nil] at hq1 hq2
     have HTH := Aside0.mk hth
     have HQ2 := Aside0.mk hq2
     have HQ3 := Aside0.mk hq3
     have htgt : ∀ s ∈ (insF l1 t st.2).1, 8 ≤ s.f0 → 0 ≤ s.f4 ∧ s.f4 < (t.length : Int) + 1 := fun s hs h8 => by
      rcases hq4 s hs with h | h | h
      ·simp at h
      ·subst h; simp [fenceS] at h8
      ·have := HTT.out s h h8; omega
     have HTG := Aside0.mk htgt
     clear hth hq2 hq3 hq4 htgt
     generalize insF l1 t st.2 = q at *
     obtain ⟨Ao, co, rfl⟩ := Kd.R_slice HK.out.ho
     go_upto_region 20 with ((with_reducible refine gate_builtin (b := .append) (xs := #[.tmp 55, .tmp 58]) rfl ?_); at_builtin; refine Kd.R_append (Kd.int .i64) (w0 := w) w.heap.size rfl (.tmp 55) (.tmp 58) 22 3 (.int .i64 0) 8 rfl Try.underlying22 info3 rfl (by decide) (by omega) u11 q.2.1 (q.1.length : Int) [.int .i64 (q.1.length : Int)] (fun _ => True) (fun _ => False) rfl rfl rfl (fun _ hk => hk.elim) (fun _ _ => trivial) HK.out.hb HK.out.hB HK.out.hB.size (by have := HQ2.out; omega) ?_; intro u1 w5 hn hbw hgw hatw)
     have HK5 := Aside0.mk (HK.out.grewI hgw hn hatw)
     rw [show q.2.1 ++ [(q.1.length : Int)] = begF q from rfl] at HK5
     have hbl : (begF q).length = t.length + 1 := by have := HQ2.out; unfold begF; simp only [List.length_append, List.length_cons, List.length_nil]; omega
     have HBL := Aside0.mk hbl
     clear hn hbw hgw hatw HK hbl
     generalize begF q = beg at *
     obtain ⟨Ab, cb, rfl⟩ := Kd.R_slice HK5.out.hb
     go_loopw [62] (fun v62 wi => ∃ k : Nat, k ≤ q.1.length ∧ v62 = .int .i64 k ∧ Aside0 (IK w bq B nn l1 (.slice Am l0_0.length cm) l0_0 v st.1 (.slice Ao q.1.length co) (midF beg q.1 k) (.slice Ab beg.length cb) beg wi)) (fun k _ => q.1.length - (intOf k).toNat)
     case atStart => exact ⟨0, Nat.zero_le _, rfl, Aside0.mk (by have h := HK5.out; simp only [midF, List.take_zero, List.map_nil, List.drop_zero, List.nil_append]; exact h)⟩
     case round =>
      clear HK5
      obtain ⟨k, hk, rfl, HK⟩ := hrel
      by_cases hkl : k < q.1.length
      ·have p4 : ((k : Int) < (q.1.length : Int)) = True := eq_true (by omega)
       have p5 : (0 ≤ (k : Int)) = True := eq_true (by omega)
       have p6 : (k < q.1.length) = True := eq_true hkl
       have hml := mid_len beg q.1 k
       obtain ⟨g10, cc, hform, _, _, _⟩ := Kd.R_form HK.out.ho (by omega)
       obtain rfl : Ao = some ⟨g10, 0, none⟩ := by injection hform
       obtain rfl : co = cc := by injection hform
       have hx := mid_get beg q.1 k hkl
       have hxm : rd_T53 q.1 (k : Int) ∈ q.1 := by
        have e : rd_T53 q.1 (k : Int) = q.1[k] := by unfold rd_T53; rw [Int.toNat_natCast, List.getD_eq_getElem?_getD, List.getElem?_eq_getElem hkl]; rfl
        rw [e]; exact List.getElem_mem _
       have htg := HTG.out _ hxm
       have hnx := mid_next beg q.1 k hkl
       have hsm := mid_same beg q.1 k hkl
       obtain ⟨y0, y1, y2, y3, y4, yf⟩ := cellsS HK.out.ho hkl hx
       have HX := Aside0.mk hx
       have HKL := Aside0.mk hkl
       have HNX := Aside0.mk hnx
       have HSM := Aside0.mk hsm
       clear hform hml hxm hkl hx hnx hsm
       generalize rd_T53 q.1 (k : Int) = x at *
       obtain ⟨x0, x1, x2, x3, x4⟩ := x
       simp only at htg y0 y1 y2 y3 y4
       go_upto_region 22 with fail
       obtain ⟨W4, hW4⟩ : ∃ W4, W4 = wr.alloc (.cells #[.int .i64 x0, .int .i64 x1, .int .i64 x2, .int .i64 x3, .int .i64 x4] 53) := ⟨_, rfl⟩
       have b4 : W4.heap[wr.heap.size]? = some (.cells #[.int .i64 x0, .int .i64 x1, .int .i64 x2, .int .i64 x3, .int .i64 x4] 53 (0, 0)) := by rw [hW4]; exact blk_new _ _
       have HK4 := Aside0.mk (HK.out.below (W' := W4) (by rw [hW4]; exact below_alloc (Below.refl _ _) _))
       rw [← hW4]
       generalize wr.heap.size = b15 at b4 ⊢
       have z0 : W4.cell? ⟨b15, 0, none⟩ = some (.int .i64 x0) := (blk_cell b4 0).trans rfl
       have z4 : W4.cell? ⟨b15, 4, none⟩ = some (.int .i64 x4) := (blk_cell b4 4).trans rfl
       clear hW4 b4 y0 y1 y2 y3 y4 yf HK
       by_cases c8 : 8 ≤ x0
       ·have p7 : (8 ≤ x0) = True := eq_true c8
        obtain ⟨t1, t2⟩ := htg c8
        obtain ⟨m, rfl⟩ : ∃ m : Nat, x4 = (m : Int) := ⟨x4.toNat, by omega⟩
        have hbl := HBL.out
        obtain ⟨g11, cd, hform, _, _, _⟩ := Kd.R_form HK4.out.hb (by omega)
        obtain rfl : Ab = some ⟨g11, 0, none⟩ := by injection hform
        obtain rfl : cb = cd := by injection hform
        have y11 := cellI HK4.out.hb (l := m) (by omega)
        have yf := (cellsS HK4.out.ho HKL.out HX.out).2.2.2.2.2
        have yc := (cellsS HK4.out.ho HKL.out HX.out).2.2.2.2.1
        have q4 : ((m : Int) < (beg.length : Int)) = True := eq_true (by omega)
        have q5 : (0 ≤ (m : Int)) = True := eq_true (by omega)
        have q6 : (m < beg.length) = True := eq_true (by omega)
        have hnew := HK4.out.setTo HKL.out HX.out (rd beg (m : Int))
        have HNEW := Aside0.mk hnew
        clear hnew hform htg t1 t2 hbl
        go_wp2_with fail
        go_roundw
        case rel => exact ⟨k + 1, HKL.out, by simp, Aside0.mk (by rw [HNX.out]; unfold toF; rw [if_pos c8]; exact HNEW.out)⟩
        case measure => have := HKL.out; simp [intOf]; omega
       ·have p7 : (8 ≤ x0) = False := eq_false c8
        clear htg
        go_wp2_with fail
        go_roundw
        case rel => exact ⟨k + 1, HKL.out, by simp, Aside0.mk (by rw [HSM.out c8]; exact HK4.out)⟩
        case measure => have := HKL.out; simp [intOf]; omega
      ·obtain rfl : k = q.1.length := by omega
       have p4 : ((q.1.length : Int) < (q.1.length : Int)) = False := eq_false (by omega)
       have hmid : midF beg q.1 q.1.length = thF l1 t st.2 := by rw [HTH.out]; unfold midF; rw [List.take_length, List.drop_length, List.append_nil]
       have hthl : (thF l1 t st.2).length = q.1.length := by rw [HTH.out, List.length_map]
       have hstn : progStep l1 st t = (st.1 ++ [thF l1 t st.2], st.2 + t.length) := rfl
       have HSTN := Aside0.mk hstn
       have HQ3N : Aside0 (q.2.2 = st.2 + t.length) := Aside0.mk HQ3.out
       rw [hmid] at HK
       have HK1 := Aside0.mk HK.out
       obtain ⟨Av, cv, rfl⟩ := Kd.S_slice HK1.out.hS
       have f1 : wr.cell? ⟨bq, 1, none⟩ = some (.slice Av st.1.length cv) := (blk_cell HK1.out.bQ 1).trans rfl
       have hbls : (st.1.length + 1) * 24 ≤ 140737488355328 := by have := HP1.out; have := HLB.out; omega
       clear hmid hstn HK
       generalize thF l1 t st.2 = th at *
       rw [← hthl] at p4 HK1 ⊢
       clear hthl
       have s3 : (i : Int) + 1 ≤ 9223372036854775807 := by have := HLB.out; have := HLT.out; omega
       have s4 : -9223372036854775808 ≤ (i : Int) + 1 := by omega
       go_wp2_with ((with_reducible refine gate_builtin (b := .append) (xs := #[.tmp 81, .tmp 83]) rfl ?_); at_builtin; refine Kd.S_append (Kd.slice 53 k53) (w0 := w) w.heap.size rfl (.tmp 81) (.tmp 83) 23 50 (.slice none 0 0) 24 rfl Try.underlying23 info50 rfl (by decide) (by omega) (.slice Av st.1.length cv) st.1 th [.slice Ao th.length co] (fun _ => True) (fun k => some k = (Value.slice Ao th.length co).ownBlock) rfl rfl (Kd.M_row (Kd.R_tight rfl HK1.out.ho)) (fun k hk => (Kd.R_apart' HK1.out.ho (Kd.S_typed HK1.out.hS) (by decide)).1 k hk.symm) (fun _ _ => trivial) (Kd.S_mono HK1.out.hS (fun k hk => ⟨trivial, fun e => hk.2 e⟩)) HK1.out.hB HK1.out.hB.size hbls ?_; intro u1 w1 hu hbw hgw hatw; obtain ⟨Au, cu, rfl⟩ := Kd.S_slice hu; have bQ1 := blk_grown HK1.out.bQ hgw (Kd.S_ne HK1.out.hS HK1.out.bQ (by decide)); have ff1 := blk_frozen bQ1 1; have cQ1 : w1.cell? ⟨bq, 1, none⟩ = some (.slice Av st.1.length cv) := (blk_cell bQ1 1).trans rfl)
       have bR1 := blk_grown HK1.out.bR hgw (Kd.S_ne HK1.out.hS HK1.out.bR (by decide))
       have hM1 := HK1.out.hM.kept hgw (fun e => by obtain ⟨c, hc⟩ := Kd.S_typed HK1.out.hS _ e.symm; exact map_ne HK1.out.hM hc rfl)
       have hqq := HK1.out.hq
       have HKN : Aside0 (IK w bq B nn l1 (.slice Am l0_0.length cm) l0_0 (.slice Au (st.1 ++ [th]).length cu) (st.1 ++ [th]) (.slice none 0 0) [] (.slice none 0 0) [] (w1.setCell ⟨bq, 1, none⟩ (.slice Au (st.1 ++ [th]).length cu))) := Aside0.mk
        ⟨blk_far bR1 (by show w.heap.size + 1 ≠ bq; omega) _, blk_set bQ1 1 _, hM1.setCell (map_ne hM1 bQ1) _, Kd.R_mono (Kd.R_set (Kd.R_over' HK1.out.hA (Kd.S_typed HK1.out.hS) (by decide) hgw) bQ1 (by decide) 1 _) (fun k _ => ⟨trivial, by simp [Value.ownBlock]⟩), Kd.S_mono (Kd.S_set hu bQ1 (by decide) 1 _) (fun k _ => ⟨trivial, by simp [Value.ownBlock]⟩), Kd.R_nil _ _ _ _ _, Kd.R_nil _ _ _ _ _, below_set hbw (by omega), hqq⟩
       clear bQ1 ff1 cQ1 hu hbw hgw hatw bR1 hM1 hqq
       go_roundw
       case rel => exact ⟨i + 1, HLT.out, by simp, by rw [HST.out, HSTN.out]; show _ = Value.int .i64 (st.2 + t.length); rw [← HQ3N.out], Aside0.mk ⟨_, by rw [HST.out, HSTN.out]; have h := HKN.out; simp only [List.length_append, List.length_cons, List.length_nil, Nat.zero_add] at h; exact h⟩⟩
       case measure => have := HLT.out; simp [intOf]; omega
  ·obtain rfl : i = l0_1.length := by omega
   have p1 : ((l0_1.length : Int) < (l0_1.length : Int)) = False := eq_false (by omega)
   obtain ⟨v, J⟩ := HJ.out
   have hfin : (l0_1.take l0_1.length).foldl (progStep l1) ([], 0) = progF l1 l0_1 := by rw [List.take_length]; rfl
   rw [hfin] at J ⊢
   clear hfin
   obtain ⟨Av, cv, rfl⟩ := Kd.S_slice J.hS
   have d0 : wr.cell? ⟨bq, 0, none⟩ = some (.slice Am l0_0.length cm) := (blk_cell J.bQ 0).trans rfl
   have d1 : wr.cell? ⟨bq, 1, none⟩ = some (.slice Av (progF l1 l0_1).1.length cv) := (blk_cell J.bQ 1).trans rfl
   have e0 : wr.cell? ⟨w.heap.size + 1, 0, none⟩ = some (.slice none 0 0) := (blk_cell J.bR 0).trans rfl
   have e1 : wr.cell? ⟨w.heap.size + 1, 1, none⟩ = some (.slice none 0 0) := (blk_cell J.bR 1).trans rfl
   have rf0 := blk_frozen J.bR 0
   have rf1 := blk_frozen J.bR 1
   have JJ := Aside0.mk J
   clear J HJ
   go_wp2_with fail
   have eb0 : ((wr.setCell ⟨w.heap.size + 1, 0, none⟩ (.slice Am l0_0.length cm)).setCell ⟨w.heap.size + 1, 1, none⟩ (.slice Av (progF l1 l0_1).1.length cv)).cell? ⟨w.heap.size + 1, 0, none⟩ = some (.slice Am l0_0.length cm) := (blk_cell (blk_set (blk_set JJ.out.bR 0 _) 1 _) 0).trans rfl
   have eb1 : ((wr.setCell ⟨w.heap.size + 1, 0, none⟩ (.slice Am l0_0.length cm)).setCell ⟨w.heap.size + 1, 1, none⟩ (.slice Av (progF l1 l0_1).1.length cv)).cell? ⟨w.heap.size + 1, 1, none⟩ = some (.slice Av (progF l1 l0_1).1.length cv) := (blk_cell (blk_set (blk_set JJ.out.bR 0 _) 1 _) 1).trans rfl
   refine bodyPost_ret (v := .agg #[.slice Am l0_0.length cm, .slice Av (progF l1 l0_1).1.length cv]) (by simp [results, Try.results22, go_sem, eb0, eb1]) rfl ⟨_, _, rfl, Kd.R_mono (Kd.R_set (Kd.R_set JJ.out.hA JJ.out.bR (by decide) 0 _) (blk_set JJ.out.bR 0 _) (by decide) 1 _) (fun _ _ => trivial), Kd.S_mono (Kd.S_set (Kd.S_set JJ.out.hS JJ.out.bR (by decide) 0 _) (blk_set JJ.out.bR 0 _) (by decide) 1 _) (fun _ _ => trivial), below_set (below_set JJ.out.hB (by omega)) (by omega)⟩
end Go.Proofs.Ytijpfonbeepmfaa.Print
