/- ref14.Cross: its contract, by walking its text. -/
import Derived.Test.YtphklaajolpieaaHCrossInv
import Derived.StillTailTactics
import Derived.RegionTactic
import Derived.BigRegion
namespace Go.Proofs.Ytphklaajolpieaa.Print
open Go.RowKit Go.Proofs.YtphklaajolpieaaW.PrintWords Go.Proofs.YtphklaajolpieaaW.PrintLast Go.Proofs.YtphklaajolpieaaW.PrintMore
set_option linter.unusedVariables false
set_option linter.unusedSimpArgs false
/-- What is handed back. -/
def XP (r1 : List Int) (r2 : Bool) (e : Ending) (w w' : World) : Prop := ∃ v0_ : Value, e = .returned (.tuple #[v0_, .bool r2]) ∧ Kd.R (Kd.int .i64) 3 w' w.heap.size (fun _ => True) v0_ r1 ∧ Below w.heap.size w w'
set_option maxRecDepth 100000 in
set_option maxHeartbeats 20000000 in
theorem cross_calls (A0_0 : Option Addr) (c0_0 : Nat) (l0_0 : List Int) (A0_1 : Option Addr) (c0_1 : Nat) (l0_1 : List (List S36)) (A1 : Option Addr) (c1 : Nat) (l1 : List S46) (r1 : List Int) (r2 : Bool) (kk : Nat) (w : World)
 (hr0_0 : Kd.C (Kd.int .i64) w A0_0 l0_0.length l0_0) (hc0_0 : l0_0.length ≤ c0_0) (hr0_1 : Kd.C (Kd.slice 36 k36) w A0_1 l0_1.length l0_1) (hc0_1 : l0_1.length ≤ c0_1) (hr1 : Kd.C k46 w A1 l1.length l1) (hc1 : l1.length ≤ c1)
 (hl : l1.length ≤ 1000000) (hbg : fencepostref10_Begin.f kk l0_0 l0_1 = some (l0_0, List.replicate l0_1.length th0)) (hrun : crossL l0_1 l1 l0_0 (List.replicate l0_1.length th0) [] = some (r1, r2)) :
 Calls Try.prog 6 #[.agg #[.slice A0_0 l0_0.length c0_0, .slice A0_1 l0_1.length c0_1], .slice A1 l1.length c1] w fun e w' => XP r1 r2 e w w' := by
 have hu1 := Try.underlying41
 have hu2 := Try.underlying25
 have hu3 := Try.underlying46
 have hu4 := Try.underlying49
 have HR00 := Aside0.mk hr0_0
 have HR01 := Aside0.mk hr0_1
 have HR1 := Aside0.mk hr1
 have HC00 := Aside0.mk hc0_0
 have HC01 := Aside0.mk hc0_1
 have HC1 := Aside0.mk hc1
 have HL := Aside0.mk hl
 have HBG := Aside0.mk hbg
 have HRUN := Aside0.mk hrun
 clear hr0_0 hc0_0 hr0_1 hc0_1 hr1 hc1 hl hbg hrun
 obtain ⟨W1, hW1⟩ : ∃ W1, W1 = w.alloc (.cells #[.slice A0_0 l0_0.length c0_0, .slice A0_1 l0_1.length c0_1] 25) := ⟨_, rfl⟩
 have bP : W1.heap[w.heap.size]? = some (.cells #[.slice A0_0 l0_0.length c0_0, .slice A0_1 l0_1.length c0_1] 25 (0, 0)) := by rw [hW1]; exact blk_new w _
 have hB1 : Below w.heap.size w W1 := by rw [hW1]; exact below_alloc (Below.refl _ _) _
 have HW1 := Aside0.mk hW1
 have BP := Aside0.mk bP
 have HBW := Aside0.mk hB1
 clear hW1 bP hB1
 go_enter Try.func6, Try.ntmps6
 (try simp only [List.append_eq, List.cons_append, List.nil_append])
 go_upto_region 1 with fail
 rw [← HW1.out]
 have ep0 : W1.cell? ⟨w.heap.size, 0, none⟩ = some (.slice A0_0 l0_0.length c0_0) := (blk_cell BP.out 0).trans rfl
 have ep1 : W1.cell? ⟨w.heap.size, 1, none⟩ = some (.slice A0_1 l0_1.length c0_1) := (blk_cell BP.out 1).trans rfl
 go_upto_region 2 with (go_at_call 13; refine (fencepostref10_Begin.calls kk A0_0 c0_0 l0_0 A0_1 c0_1 l0_1 l0_0 (List.replicate l0_1.length th0) W1 (Kd.C_below HR00.out HBW.out) HC00.out (Kd.C_below HR01.out HBW.out) HC01.out HBG.out).mono ?_; rintro e w2 ⟨vm, vt, rfl, hRm, hSt, hb2⟩; obtain ⟨Am, cm, rfl⟩ := Kd.R_slice hRm; obtain ⟨At, ct, rfl⟩ := Kd.S_slice hSt; have HRM := Aside0.mk hRm; have HST := Aside0.mk hSt; have HB2' := Aside0.mk hb2; clear hRm hSt hb2)
 have hlen : (List.replicate l0_1.length th0).length = l0_1.length := List.length_replicate ..
 obtain ⟨W3, hW3⟩ : ∃ W3, W3 = w2.alloc (.cells #[.slice Am l0_0.length cm, .slice At l0_1.length ct] 41) := ⟨_, rfl⟩
 have hb23 : Below w2.heap.size w2 W3 := by rw [hW3]; exact below_alloc (Below.refl _ _) _
 have bO : W3.heap[w2.heap.size]? = some (.cells #[.slice Am l0_0.length cm, .slice At l0_1.length ct] 41 (0, 0)) := by rw [hW3]; exact blk_new w2 _
 have hlt1 : w.heap.size < W1.heap.size := blk_lt BP.out
 have hlt2 : W1.heap.size ≤ w2.heap.size := HB2'.out.size
 rw [hlen] at HST
 have HI3 : Aside0 (CI w (.slice A0_0 l0_0.length c0_0) (.slice A0_1 l0_1.length c0_1) w2.heap.size w2.heap.size l0_0 (List.replicate l0_1.length th0) Am cm At ct [] (.slice none 0 0) W3) := Aside0.mk ⟨blk_below (blk_below BP.out HB2'.out) hb23, by rw [hlen]; exact bO, Kd.V_below (Kd.R_V (Kd.R_mono (Kd.R_bound HRM.out) (fun k hk => ⟨by have := hk.2.2.1; omega, by have := hk.2.2.1; omega, by have := hk.2.1; omega⟩))) hb23, by rw [hlen]; exact Kd.V_below (Kd.S_V (Kd.S_mono (Kd.S_bound HST.out) (fun k hk => ⟨by have := hk.2.2.1; omega, by have := hk.2.2.1; omega, by have := hk.2.1; omega⟩))) hb23, Kd.R_nil _ _ _ _ _, below_step (below_step HBW.out HB2'.out) hb23, by omega⟩
 rw [← hW3]
 clear BP HBW HRM HST HB2' hb23 hW3 bO ep0 ep1 HW1 HBG
 generalize w2.heap.size = bs at HI3 ⊢
 clear hlt1 hlt2 hlen
 go_wp2_with fail
 go_loopw [7, 8] (fun v7 v8 wr => ∃ i : Nat, i ≤ l1.length ∧ v8 = .int .i64 (i : Int) ∧ ∃ mem ths A0 c0 A1_ c1_ out, crossL l0_1 (l1.drop i) mem ths out = some (r1, r2) ∧ CI w (.slice A0_0 l0_0.length c0_0) (.slice A0_1 l0_1.length c0_1) bs bs mem ths A0 c0 A1_ c1_ out v7 wr) (fun _ v8 _ => l1.length - (intOf v8).toNat)
 case atStart => exact ⟨0, Nat.zero_le _, rfl, _, _, _, _, _, _, _, HRUN.out, HI3.out⟩
 case round =>
  obtain ⟨i, hi, rfl, mem, ths, A0, c0, A1_, c1_, out, hrn, hI⟩ := hrel
  clear HI3 HRUN
  obtain ⟨Ao, co, hvo⟩ := Kd.R_slice hI.ro
  subst hvo
  have HI := Aside0.mk hI
  have HRN := Aside0.mk hrn
  clear hI hrn
  have hll : l1.length ≤ 1000000 := HL.out
  by_cases hlt : i < l1.length
  ·have hdrop : l1.drop i = rd_T46 l1 (i : Int) :: l1.drop (i + 1) := by
    rw [List.drop_eq_getElem_cons hlt]
    have : rd_T46 l1 (i : Int) = l1[i] := by unfold rd_T46; rw [Int.toNat_natCast, List.getD_eq_getElem?_getD, List.getElem?_eq_getElem hlt]; rfl
    rw [this]
   have hrn := HRN.out
   rw [hdrop, crossL] at hrn
   by_cases hok : okB l0_1 mem ths = true ∧ out.length ≤ 1000000 ∧ tot l0_1 ≤ 1000000
   rotate_left
   ·rw [if_neg hok] at hrn; cases hrn
   rw [if_pos hok] at hrn
   obtain ⟨ad, ead, hk0, hk1⟩ := at_T46 (Kd.C_below HR1.out HI.out.bel) (i : Int) (by omega) (by omega)
   rw [Int.toNat_natCast] at hk0 hk1
   generalize hke : rd_T46 l1 (i : Int) = k at hrn hk0 hk1 hdrop
   obtain ⟨k0, k1⟩ := k
   simp only at hrn hk0 hk1
   have HRN2 := Aside0.mk hrn
   have HKE := Aside0.mk hke
   clear hke
   have HOK := Aside0.mk hok
   have HLT := Aside0.mk hlt
   subst ead
   clear hrn hok HRN hdrop
   have p1 : ((i : Int) < (l1.length : Int)) = True := eq_true (by omega)
   have p2 : (0 ≤ (i : Int)) = True := eq_true (by omega)
   have p3 : (i < l1.length) = True := eq_true hlt
   have s1 : (i : Int) + 1 ≤ 9223372036854775807 := by omega
   have s2 : -9223372036854775808 ≤ (i : Int) + 1 := by omega
   have ep0 : wr.cell? ⟨w.heap.size, 0, none⟩ = some (.slice A0_0 l0_0.length c0_0) := (blk_cell HI.out.hp 0).trans rfl
   have ep1 : wr.cell? ⟨w.heap.size, 1, none⟩ = some (.slice A0_1 l0_1.length c0_1) := (blk_cell HI.out.hp 1).trans rfl
   have es0 : wr.cell? ⟨bs, 0, none⟩ = some (.slice A0 mem.length c0) := (blk_cell HI.out.hs 0).trans rfl
   have es1 : wr.cell? ⟨bs, 1, none⟩ = some (.slice A1_ ths.length c1_) := (blk_cell HI.out.hs 1).trans rfl
   clear hlt hi hll
   go_wp2_with fail
   refine start_ (n := 13) (S := fun w' => w'.cell? ⟨w.heap.size, 0, none⟩ = some (.slice A0_0 l0_0.length c0_0) ∧ w'.cell? ⟨w.heap.size, 1, none⟩ = some (.slice A0_1 l0_1.length c0_1) ∧ w'.cell? ⟨bs, 0, none⟩ = some (.slice A0 mem.length c0) ∧ w'.cell? ⟨bs, 1, none⟩ = some (.slice A1_ ths.length c1_) ∧ w'.cell? (ad.add (i * 2)) = some (.int .i64 k0) ∧ w'.cell? ⟨(ad.add (i * 2)).block, (ad.add (i * 2)).off + 1, none⟩ = some (.bool k1)) (ds := [11]) #[false, false, false, false, false, false, false, false, false, false, false, false, false] (by kernel_rfl) rfl rfl ⟨by first | exact ep0 | simpa using ep0, by first | exact ep1 | simpa using ep1, by first | exact es0 | simpa using es0, by first | exact es1 | simpa using es1, by first | exact hk0 | simpa using hk0, by first | exact hk1 | simpa using hk1⟩ (fun hHeld => ?_)
   have HI0 : Aside0 (CI w (.slice A0_0 l0_0.length c0_0) (.slice A0_1 l0_1.length c0_1) bs bs mem ths A0 c0 A1_ c1_ out (.slice Ao out.length co) wr.drew) := Aside0.mk (HI.out.below (below_drew1 (Below.refl _ wr)))
   generalize wr.drew = W5 at HI0 hHeld ⊢
   clear HI ep0 ep1 es0 es1 hk0 hk1
   refine take_ (i := 0) (N := some 21) (v := ?_) (a' := ?_) #[true, false, false, false, false, false, false, false, false, false, false, false, false] rfl rfl (by kernel_rfl) (fun _ _ _ h => h) (Or.inl ⟨by rfl, ?_⟩) hHeld ?_ ?_
   rotate_left
   ·rintro w' ⟨s0, s1, s2, s3, s4, s5⟩
    go_simp
    with_reducible rfl
   rotate_left
   ·simp only [Act.put, List.setIfInBounds_toArray, List.set_cons_zero, List.set_cons_succ, i64_w, i32_w]
    rfl
   refine take_ (i := 1) (N := some 22) (v := ?_) (a' := ?_) #[true, true, false, false, false, false, false, false, false, false, false, false, false] rfl rfl (by kernel_rfl) (fun _ _ _ h => h) (Or.inl ⟨by rfl, ?_⟩) hHeld ?_ ?_
   rotate_left
   ·rintro w' ⟨s0, s1, s2, s3, s4, s5⟩
    go_simp
    with_reducible rfl
   rotate_left
   ·simp only [Act.put, List.setIfInBounds_toArray, List.set_cons_zero, List.set_cons_succ, i64_w, i32_w]
    rfl
   refine pure_ (i := 2) (N := some 23) (v := ?_) (a' := ?_) #[true, true, true, false, false, false, false, false, false, false, false, false, false] rfl rfl (by kernel_rfl) (fun _ _ _ h => h) (Or.inl ⟨by rfl, ?_⟩) ?_ ?_
   rotate_left
   ·intro w'
    go_simp
    with_reducible rfl
   rotate_left
   ·simp only [Act.put, List.setIfInBounds_toArray, List.set_cons_zero, List.set_cons_succ, i64_w, i32_w]
    rfl
   refine pure_ (i := 3) (N := some 24) (v := ?_) (a' := ?_) #[true, true, true, true, false, false, false, false, false, false, false, false, false] rfl rfl (by kernel_rfl) (fun _ _ _ h => h) (Or.inl ⟨by rfl, ?_⟩) ?_ ?_
   rotate_left
   ·intro w'
    go_simp
    with_reducible rfl
   rotate_left
   ·simp only [Act.put, List.setIfInBounds_toArray, List.set_cons_zero, List.set_cons_succ, i64_w, i32_w]
    rfl
   refine pure_ (i := 4) (N := some 25) (v := ?_) (a' := ?_) #[true, true, true, true, true, false, false, false, false, false, false, false, false] rfl rfl (by kernel_rfl) (fun _ _ _ h => h) (Or.inl ⟨by rfl, ?_⟩) ?_ ?_
   rotate_left
   ·intro w'
    go_simp
    with_reducible rfl
   rotate_left
   ·simp only [Act.put, List.setIfInBounds_toArray, List.set_cons_zero, List.set_cons_succ, i64_w, i32_w]
    rfl
   refine take_ (i := 5) (N := some 26) (v := ?_) (a' := ?_) #[true, true, true, true, true, true, false, false, false, false, false, false, false] rfl rfl (by kernel_rfl) (fun _ _ _ h => h) (Or.inl ⟨by rfl, ?_⟩) hHeld ?_ ?_
   rotate_left
   ·rintro w' ⟨s0, s1, s2, s3, s4, s5⟩
    go_simp
    with_reducible rfl
   rotate_left
   ·simp only [Act.put, List.setIfInBounds_toArray, List.set_cons_zero, List.set_cons_succ, i64_w, i32_w]
    rfl
   refine join_ (σ := (Option Addr × Nat × Nat) × (Option Addr × Nat × Nat) × Nat) 2 #[true, true, true, true, true, true, true, true, true, true, true, false, false] (fun s_ => [(27, .tuple #[.agg #[.slice s_.1.1 s_.1.2.1 s_.1.2.2, .slice s_.2.1.1 s_.2.1.2.1 s_.2.1.2.2], .bool (tsoF l0_1 mem ths k0 k1).isSome]), (20, .tuple #[.agg #[.slice s_.1.1 s_.1.2.1 s_.1.2.2, .slice s_.2.1.1 s_.2.1.2.1 s_.2.1.2.2], .bool (tsoF l0_1 mem ths k0 k1).isSome]), (28, .agg #[.slice s_.1.1 s_.1.2.1 s_.1.2.2, .slice s_.2.1.1 s_.2.1.2.1 s_.2.1.2.2]), (29, .bool (tsoF l0_1 mem ths k0 k1).isSome), (9, .pointer (some ⟨s_.2.2, 0, none⟩))]) (fun s_ w' => CI w (.slice A0_0 l0_0.length c0_0) (.slice A0_1 l0_1.length c0_1) bs s_.2.2 mem ths A0 c0 A1_ c1_ out (.slice Ao out.length co) w' ∧ (w'.heap[s_.2.2]? = some (.cells #[.slice none 0 0, .slice none 0 0] 41 (0, 0))) ∧ bs < s_.2.2 ∧ NC w bs s_.2.2 (tsoF l0_1 mem ths k0 k1) (.slice s_.1.1 s_.1.2.1 s_.1.2.2) (.slice s_.2.1.1 s_.2.1.2.1 s_.2.1.2.2) w' ∧ w'.cell? (ad.add (i * 2)) = some (.int .i64 k0) ∧ w'.cell? ⟨(ad.add (i * 2)).block, (ad.add (i * 2)).off + 1, none⟩ = some (.bool k1)) ?_ ?_
   rotate_left
   ·intro hCont
    refine two_ (i := 6) (j := 10) (Ni := some 27) (Nj := some 9) #[true, true, true, true, true, true, true, false, false, false, false, false, false] #[true, true, true, true, true, true, false, false, false, false, true, false, false] rfl rfl rfl rfl (by kernel_rfl) (by decide) (by decide) (fun K hK => ?_) (fun K hK => ?_)
    ·skip
     obtain ⟨hm0, hm1, hm2⟩ := Kd.V_reads' HI0.out.vm
     obtain ⟨ht0, ht1, ht2⟩ := Kd.V_reads' HI0.out.vt
     have HM2 := Aside0.mk hm2
     have HT2 := Aside0.mk ht2
     have HM1 := Aside0.mk hm1
     have HT1 := Aside0.mk ht1
     clear hm0 hm1 hm2 ht0 ht1 ht2
     refine goes_ Try.func14 (by kernel_rfl) rfl #[.agg #[.slice A0_0 l0_0.length c0_0, .slice A0_1 l0_1.length c0_1], .agg #[.slice A0 mem.length c0, .slice A1_ ths.length c1_], .agg #[.int .i64 k0, .bool k1]] (by rfl) rfl rfl (by (try simp only [List.map_toArray, List.map_cons, List.map_nil]); first | done | rfl) ?_
     refine (tso_calls A0_0 c0_0 l0_0 A0_1 c0_1 l0_1 A0 c0 mem A1_ c1_ ths k0 k1 W5 (Kd.C_below HR00.out HI0.out.bel) HC00.out (Kd.C_below HR01.out HI0.out.bel) HC01.out HM2.out HM1.out HT2.out HT1.out HOK.out.1).mono ?_
     rintro e wc ⟨B0, n0, d0, B1, n1, d1, rfl, hv, hbc⟩
     refine ⟨_, rfl, ?_⟩
     have HV := Aside0.mk hv
     have HBC := Aside0.mk hbc
     clear hv hbc HM1 HM2 HT1 HT2
     have hbsl : bs < W5.heap.size := blk_lt HI0.out.hs
     have HIc : Aside0 (CI w (.slice A0_0 l0_0.length c0_0) (.slice A0_1 l0_1.length c0_1) bs bs mem ths A0 c0 A1_ c1_ out (.slice Ao out.length co) wc) := Aside0.mk (HI0.out.below HBC.out)
     have HNc : Aside0 (NC w bs bs (tsoF l0_1 mem ths k0 k1) (.slice B0 n0 d0) (.slice B1 n1 d1) wc) := Aside0.mk (NC.of HV.out HI0.out.lt hbsl hbsl)
     have hh : wc.cell? ⟨w.heap.size, 0, none⟩ = some (.slice A0_0 l0_0.length c0_0) ∧ wc.cell? ⟨w.heap.size, 1, none⟩ = some (.slice A0_1 l0_1.length c0_1) ∧ wc.cell? ⟨bs, 0, none⟩ = some (.slice A0 mem.length c0) ∧ wc.cell? ⟨bs, 1, none⟩ = some (.slice A1_ ths.length c1_) ∧ wc.cell? (ad.add (i * 2)) = some (.int .i64 k0) ∧ wc.cell? ⟨(ad.add (i * 2)).block, (ad.add (i * 2)).off + 1, none⟩ = some (.bool k1) := by obtain ⟨s0, s1, s2, s3, s4, s5⟩ := hHeld; exact ⟨pw_cell_below HBC.out s0, pw_cell_below HBC.out s1, pw_cell_below HBC.out s2, pw_cell_below HBC.out s3, pw_cell_below HBC.out s4, pw_cell_below HBC.out s5⟩
     clear HV hbsl
     refine hK.out _ _ hh (fun hHeld => ?_)
     clear hh
     clear hK K
     refine norm_ (a' := ?_) ?_ ?_
     rotate_left
     ·show Act.put _ (some 27) _ = _
      simp only [Act.put, List.setIfInBounds_toArray, List.set_cons_zero, List.set_cons_succ, i64_w, i32_w]
      rfl
     refine pure_ (i := 7) (N := some 20) (v := ?_) (a' := ?_) #[true, true, true, true, true, true, true, true, false, false, false, false, false] rfl rfl (by kernel_rfl) (fun _ _ _ h => h) (Or.inl ⟨by rfl, ?_⟩) ?_ ?_
     rotate_left
     ·intro w'
      go_simp
      with_reducible rfl
     rotate_left
     ·simp only [Act.put, List.setIfInBounds_toArray, List.set_cons_zero, List.set_cons_succ, i64_w, i32_w]
      rfl
     refine pure_ (i := 8) (N := some 28) (v := ?_) (a' := ?_) #[true, true, true, true, true, true, true, true, true, false, false, false, false] rfl rfl (by kernel_rfl) (fun _ _ _ h => h) (Or.inl ⟨by rfl, ?_⟩) ?_ ?_
     rotate_left
     ·intro w'
      go_simp
      with_reducible rfl
     rotate_left
     ·simp only [Act.put, List.setIfInBounds_toArray, List.set_cons_zero, List.set_cons_succ, i64_w, i32_w]
      rfl
     refine pure_ (i := 9) (N := some 29) (v := ?_) (a' := ?_) #[true, true, true, true, true, true, true, true, true, true, false, false, false] rfl rfl (by kernel_rfl) (fun _ _ _ h => h) (Or.inl ⟨by rfl, ?_⟩) ?_ ?_
     rotate_left
     ·intro w'
      go_simp
      with_reducible rfl
     rotate_left
     ·simp only [Act.put, List.setIfInBounds_toArray, List.set_cons_zero, List.set_cons_succ, i64_w, i32_w]
      rfl
     refine one_ (i := 10) (N := some 9) #[true, true, true, true, true, true, true, true, true, true, true, false, false] rfl rfl (by kernel_rfl) (by decide) (fun K hK => ?_)
     refine box_step ?hg (N := 9) ?hd (cs := #[.slice none 0 0, .slice none 0 0]) (t := 41) ?hr ?_; (case hd => rfl); (case hg => rfl); (case hr => first | (go_simp; done) | (go_simp; rfl))
     intro gN hg wd hbox hb
     have HLT_ : Aside0 (bs < gN) := Aside0.mk (by rw [hg]; exact blk_lt HIc.out.hs)
     have BNd := Aside0.mk hbox
     have HId : Aside0 (CI w (.slice A0_0 l0_0.length c0_0) (.slice A0_1 l0_1.length c0_1) bs gN mem ths A0 c0 A1_ c1_ out (.slice Ao out.length co) wd) := Aside0.mk (HIc.out.box hg hb)
     have HNd : Aside0 (NC w bs gN (tsoF l0_1 mem ths k0 k1) (.slice B0 n0 d0) (.slice B1 n1 d1) wd) := Aside0.mk (HNc.out.box hg hb)
     have hh : wd.cell? ⟨w.heap.size, 0, none⟩ = some (.slice A0_0 l0_0.length c0_0) ∧ wd.cell? ⟨w.heap.size, 1, none⟩ = some (.slice A0_1 l0_1.length c0_1) ∧ wd.cell? ⟨bs, 0, none⟩ = some (.slice A0 mem.length c0) ∧ wd.cell? ⟨bs, 1, none⟩ = some (.slice A1_ ths.length c1_) ∧ wd.cell? (ad.add (i * 2)) = some (.int .i64 k0) ∧ wd.cell? ⟨(ad.add (i * 2)).block, (ad.add (i * 2)).off + 1, none⟩ = some (.bool k1) := by obtain ⟨s0, s1, s2, s3, s4, s5⟩ := hHeld; exact ⟨pw_cell_below hb s0, pw_cell_below hb s1, pw_cell_below hb s2, pw_cell_below hb s3, pw_cell_below hb s4, pw_cell_below hb s5⟩
     clear hbox
     clear hb hg
     refine hK.out _ _ hh (fun hHeld => ?_)
     clear hh
     clear hK K
     refine norm_ (a' := ?_) ?_ ?_
     rotate_left
     ·show Act.put _ (some 9) _ = _
      simp only [Act.put, List.setIfInBounds_toArray, List.set_cons_zero, List.set_cons_succ, i64_w, i32_w]
      rfl
     exact norm_ (by simp only [putAll, Act.put, List.setIfInBounds_toArray, List.set_cons_zero, List.set_cons_succ]) (hCont ((B0, n0, d0), (B1, n1, d1), gN) _ ⟨HId.out, BNd.out, HLT_.out, HNd.out, hHeld.2.2.2.2⟩)
    ·skip
     refine box_step ?hg (N := 9) ?hd (cs := #[.slice none 0 0, .slice none 0 0]) (t := 41) ?hr ?_; (case hd => rfl); (case hg => rfl); (case hr => first | (go_simp; done) | (go_simp; rfl))
     intro gN hg wa hbox hb
     have HLT_ : Aside0 (bs < gN) := Aside0.mk (by rw [hg]; exact blk_lt HI0.out.hs)
     have BNa := Aside0.mk hbox
     have HIa : Aside0 (CI w (.slice A0_0 l0_0.length c0_0) (.slice A0_1 l0_1.length c0_1) bs gN mem ths A0 c0 A1_ c1_ out (.slice Ao out.length co) wa) := Aside0.mk (HI0.out.box hg hb)
     have hh : wa.cell? ⟨w.heap.size, 0, none⟩ = some (.slice A0_0 l0_0.length c0_0) ∧ wa.cell? ⟨w.heap.size, 1, none⟩ = some (.slice A0_1 l0_1.length c0_1) ∧ wa.cell? ⟨bs, 0, none⟩ = some (.slice A0 mem.length c0) ∧ wa.cell? ⟨bs, 1, none⟩ = some (.slice A1_ ths.length c1_) ∧ wa.cell? (ad.add (i * 2)) = some (.int .i64 k0) ∧ wa.cell? ⟨(ad.add (i * 2)).block, (ad.add (i * 2)).off + 1, none⟩ = some (.bool k1) := by obtain ⟨s0, s1, s2, s3, s4, s5⟩ := hHeld; exact ⟨pw_cell_below hb s0, pw_cell_below hb s1, pw_cell_below hb s2, pw_cell_below hb s3, pw_cell_below hb s4, pw_cell_below hb s5⟩
     clear hbox
     clear hb hg
     refine hK.out _ _ hh (fun hHeld => ?_)
     clear hh
     clear hK K
     refine norm_ (a' := ?_) ?_ ?_
     rotate_left
     ·show Act.put _ (some 9) _ = _
      simp only [Act.put, List.setIfInBounds_toArray, List.set_cons_zero, List.set_cons_succ, i64_w, i32_w]
      rfl
     refine one_ (i := 6) (N := some 27) #[true, true, true, true, true, true, true, false, false, false, true, false, false] rfl rfl (by kernel_rfl) (by decide) (fun K hK => ?_)
     obtain ⟨hm0, hm1, hm2⟩ := Kd.V_reads' HIa.out.vm
     obtain ⟨ht0, ht1, ht2⟩ := Kd.V_reads' HIa.out.vt
     have HM2 := Aside0.mk hm2
     have HT2 := Aside0.mk ht2
     have HM1 := Aside0.mk hm1
     have HT1 := Aside0.mk ht1
     clear hm0 hm1 hm2 ht0 ht1 ht2
     refine goes_ Try.func14 (by kernel_rfl) rfl #[.agg #[.slice A0_0 l0_0.length c0_0, .slice A0_1 l0_1.length c0_1], .agg #[.slice A0 mem.length c0, .slice A1_ ths.length c1_], .agg #[.int .i64 k0, .bool k1]] (by rfl) rfl rfl (by (try simp only [List.map_toArray, List.map_cons, List.map_nil]); first | done | rfl) ?_
     refine (tso_calls A0_0 c0_0 l0_0 A0_1 c0_1 l0_1 A0 c0 mem A1_ c1_ ths k0 k1 wa (Kd.C_below HR00.out HIa.out.bel) HC00.out (Kd.C_below HR01.out HIa.out.bel) HC01.out HM2.out HM1.out HT2.out HT1.out HOK.out.1).mono ?_
     rintro e wc ⟨B0, n0, d0, B1, n1, d1, rfl, hv, hbc⟩
     refine ⟨_, rfl, ?_⟩
     have HV := Aside0.mk hv
     have HBC := Aside0.mk hbc
     clear hv hbc HM1 HM2 HT1 HT2
     have hbsl : bs < wa.heap.size := blk_lt HIa.out.hs
     have hgnl : gN < wa.heap.size := blk_lt BNa.out
     have HIc : Aside0 (CI w (.slice A0_0 l0_0.length c0_0) (.slice A0_1 l0_1.length c0_1) bs gN mem ths A0 c0 A1_ c1_ out (.slice Ao out.length co) wc) := Aside0.mk (HIa.out.below HBC.out)
     have HNc : Aside0 (NC w bs gN (tsoF l0_1 mem ths k0 k1) (.slice B0 n0 d0) (.slice B1 n1 d1) wc) := Aside0.mk (NC.of HV.out HIa.out.lt hbsl hgnl)
     have BNc := Aside0.mk (blk_below BNa.out HBC.out)
     have hh : wc.cell? ⟨w.heap.size, 0, none⟩ = some (.slice A0_0 l0_0.length c0_0) ∧ wc.cell? ⟨w.heap.size, 1, none⟩ = some (.slice A0_1 l0_1.length c0_1) ∧ wc.cell? ⟨bs, 0, none⟩ = some (.slice A0 mem.length c0) ∧ wc.cell? ⟨bs, 1, none⟩ = some (.slice A1_ ths.length c1_) ∧ wc.cell? (ad.add (i * 2)) = some (.int .i64 k0) ∧ wc.cell? ⟨(ad.add (i * 2)).block, (ad.add (i * 2)).off + 1, none⟩ = some (.bool k1) := by obtain ⟨s0, s1, s2, s3, s4, s5⟩ := hHeld; exact ⟨pw_cell_below HBC.out s0, pw_cell_below HBC.out s1, pw_cell_below HBC.out s2, pw_cell_below HBC.out s3, pw_cell_below HBC.out s4, pw_cell_below HBC.out s5⟩
     clear HV hbsl BNa
     refine hK.out _ _ hh (fun hHeld => ?_)
     clear hh
     clear hK K
     refine norm_ (a' := ?_) ?_ ?_
     rotate_left
     ·show Act.put _ (some 27) _ = _
      simp only [Act.put, List.setIfInBounds_toArray, List.set_cons_zero, List.set_cons_succ, i64_w, i32_w]
      rfl
     refine pure_ (i := 7) (N := some 20) (v := ?_) (a' := ?_) #[true, true, true, true, true, true, true, true, false, false, true, false, false] rfl rfl (by kernel_rfl) (fun _ _ _ h => h) (Or.inl ⟨by rfl, ?_⟩) ?_ ?_
     rotate_left
     ·intro w'
      go_simp
      with_reducible rfl
     rotate_left
     ·simp only [Act.put, List.setIfInBounds_toArray, List.set_cons_zero, List.set_cons_succ, i64_w, i32_w]
      rfl
     refine pure_ (i := 8) (N := some 28) (v := ?_) (a' := ?_) #[true, true, true, true, true, true, true, true, true, false, true, false, false] rfl rfl (by kernel_rfl) (fun _ _ _ h => h) (Or.inl ⟨by rfl, ?_⟩) ?_ ?_
     rotate_left
     ·intro w'
      go_simp
      with_reducible rfl
     rotate_left
     ·simp only [Act.put, List.setIfInBounds_toArray, List.set_cons_zero, List.set_cons_succ, i64_w, i32_w]
      rfl
     refine pure_ (i := 9) (N := some 29) (v := ?_) (a' := ?_) #[true, true, true, true, true, true, true, true, true, true, true, false, false] rfl rfl (by kernel_rfl) (fun _ _ _ h => h) (Or.inl ⟨by rfl, ?_⟩) ?_ ?_
     rotate_left
     ·intro w'
      go_simp
      with_reducible rfl
     rotate_left
     ·simp only [Act.put, List.setIfInBounds_toArray, List.set_cons_zero, List.set_cons_succ, i64_w, i32_w]
      rfl
     exact norm_ (by simp only [putAll, Act.put, List.setIfInBounds_toArray, List.set_cons_zero, List.set_cons_succ]) (hCont ((B0, n0, d0), (B1, n1, d1), gN) _ ⟨HIc.out, BNc.out, HLT_.out, HNc.out, hHeld.2.2.2.2⟩)
   rintro ⟨⟨B0, n0, d0⟩, ⟨B1, n1, d1⟩, gN⟩ W6 ⟨hi6, hb6, hl6, hn6, hk0, hk1⟩
   simp only at hi6 hb6 hl6 hn6
   clear HI0 hHeld
   have HI6 := Aside0.mk hi6
   have BN6 := Aside0.mk hb6
   have HL6 := Aside0.mk hl6
   have HN6 := Aside0.mk hn6
   have HK0 := Aside0.mk hk0
   have HK1 := Aside0.mk hk1
   clear hi6 hb6 hl6 hn6 hk0 hk1
   refine norm_ (a' := ?_) ?_ ?_
   rotate_left
   ·simp only [putAll, Act.put, List.setIfInBounds_toArray, List.set_cons_zero, List.set_cons_succ]
    rfl
   refine last_ (i := 11) (N := none) #[true, true, true, true, true, true, true, true, true, true, true, true, false] rfl rfl (by kernel_rfl) (by decide) (fun K hK => ?_)
   have hs0 : W6.cell? ⟨gN, 0, none⟩ = some (.slice none 0 0) := (blk_cell BN6.out 0).trans rfl
   have hs1 : W6.cell? ⟨gN, 1, none⟩ = some (.slice none 0 0) := (blk_cell BN6.out 1).trans rfl
   have hf0 := blk_frozen BN6.out 0
   have hf1 := blk_frozen BN6.out 1
   refine skip_ (w1 := ?_) (by rfl) rfl ?_ ?_
   rotate_left
   ·go_simp
    rfl
   refine hK.out _ _ ?_
   clear hK K
   refine pure_ (i := 12) (N := some 10) (v := ?_) (a' := ?_) #[true, true, true, true, true, true, true, true, true, true, true, true, true] rfl rfl (by kernel_rfl) (fun _ _ _ h => h) (Or.inl ⟨by rfl, ?_⟩) ?_ ?_
   rotate_left
   ·intro w'
    go_simp
    with_reducible rfl
   rotate_left
   ·simp only [Act.put, List.setIfInBounds_toArray, List.set_cons_zero, List.set_cons_succ, i64_w, i32_w]
    rfl
   refine done_ (by kernel_rfl) ?_
   clear hs0 hs1 hf0 hf1
   obtain ⟨W7, hW7⟩ : ∃ W7, W7 = (W6.setCell ⟨gN, 0, none⟩ (.slice B0 n0 d0)).setCell ⟨gN, 1, none⟩ (.slice B1 n1 d1) := ⟨_, rfl⟩
   have HI7 : Aside0 (CI w (.slice A0_0 l0_0.length c0_0) (.slice A0_1 l0_1.length c0_1) bs gN mem ths A0 c0 A1_ c1_ out (.slice Ao out.length co) W7) := Aside0.mk (by rw [hW7]; exact (HI6.out.setBox HL6.out BN6.out (by decide) 0 _).setBox HL6.out (blk_set BN6.out 0 _) (by decide) 1 _)
   have HN7 : Aside0 (NC w bs gN (tsoF l0_1 mem ths k0 k1) (.slice B0 n0 d0) (.slice B1 n1 d1) W7) := Aside0.mk (by rw [hW7]; exact (HN6.out.setBox 0 _).setBox 1 _)
   have BN7 : Aside0 (W7.heap[gN]? = some (.cells #[.slice B0 n0 d0, .slice B1 n1 d1] 41 (0, 0))) := Aside0.mk (by rw [hW7]; exact blk_set (blk_set BN6.out 0 _) 1 _)
   rw [← hW7]
   clear hW7 HI6 BN6 HN6 HK0 HK1
   cases hst : tsoF l0_1 mem ths k0 k1 with
   | none =>
    have hrn := HRN2.out
    rw [hst] at hrn
    simp only [Option.some.injEq, Prod.mk.injEq] at hrn
    obtain ⟨rfl, rfl⟩ := hrn
    have HST := Aside0.mk hst
    clear hst HRN2
    simp only [Option.isSome_none]
    go_wp2_with fail
    exact bodyPost_ret (v := .tuple #[.slice none 0 0, .bool false]) (by simp [results, Try.results6, go_sem]) rfl ⟨_, rfl, Kd.R_nil _ _ _ _ _, HI7.out.bel⟩
   | some p =>
    obtain ⟨m', t'⟩ := p
    have hrn := HRN2.out
    rw [hst] at hrn
    simp only at hrn
    obtain ⟨q0, q1, q2⟩ := tso_some hst
    obtain ⟨t, rfl⟩ : ∃ t : Nat, k0 = (t : Int) := ⟨k0.toNat, by omega⟩
    have HST := Aside0.mk hst
    have HRN3 := Aside0.mk hrn
    have HQ2 := Aside0.mk q2
    have htl : t < ths.length := by omega
    have HTL := Aside0.mk htl
    clear hrn hst HRN2 q0 q2
    obtain ⟨hv0, hv1, hvc⟩ := Kd.V_reads' HI7.out.vt
    obtain ⟨adT, X1, d1_, X3, d3_, eadT, hx0, hx1, hx2, hx3, -, -, -, -⟩ := at_T49 hvc (t : Int) (by omega) (by omega)
    rw [Int.toNat_natCast] at hx0 hx1 hx2 hx3
    generalize hxe : rd_T49 ths (t : Int) = x at hx0 hx1 hx2 hx3
    have HXE := Aside0.mk hxe
    clear hxe hv0 hv1 hvc
    subst eadT
    have es1 : W7.cell? ⟨bs, 1, none⟩ = some (.slice (some adT) ths.length c1_) := (blk_cell HI7.out.hs 1).trans rfl
    obtain ⟨ad', ead', hk0, hk1⟩ := at_T46 (Kd.C_below HR1.out HI7.out.bel) (i : Int) (by omega) (by have := HLT.out; omega)
    obtain rfl : ad = ad' := by injection ead'
    rw [Int.toNat_natCast, HKE.out] at hk0 hk1
    simp only at hk0 hk1
    clear ead'
    have p4 : ((t : Int) < (ths.length : Int)) = True := eq_true (by omega)
    have p5 : (0 ≤ (t : Int)) = True := eq_true (by omega)
    have p6 : (t < ths.length) = True := eq_true htl
    clear htl q1
    simp only [Option.isSome_some]
    go_upto_region 9 with fail
    refine start_ (n := 11) (S := fun w' => w'.cell? ⟨bs, 1, none⟩ = some (.slice (some adT) ths.length c1_) ∧ w'.cell? (ad.add (i * 2)) = some (.int .i64 (t : Int)) ∧ w'.cell? (adT.add (t * 4)) = some (.int .i64 x.f0) ∧ w'.cell? ⟨(adT.add (t * 4)).block, (adT.add (t * 4)).off + 1, none⟩ = some (.slice X1 x.f1.length d1_) ∧ w'.cell? ⟨(adT.add (t * 4)).block, (adT.add (t * 4)).off + 2, none⟩ = some (.bool x.f2) ∧ w'.cell? ⟨(adT.add (t * 4)).block, (adT.add (t * 4)).off + 3, none⟩ = some (.slice X3 x.f3.length d3_)) (ds := [10]) #[false, false, false, false, false, false, false, false, false, false, false] (by kernel_rfl) rfl rfl ⟨by first | exact es1 | simpa using es1, by first | exact hk0 | simpa using hk0, by first | exact hx0 | simpa using hx0, by first | exact hx1 | simpa using hx1, by first | exact hx2 | simpa using hx2, by first | exact hx3 | simpa using hx3⟩ (fun hHeld => ?_)
    have HI8 : Aside0 (CI w (.slice A0_0 l0_0.length c0_0) (.slice A0_1 l0_1.length c0_1) bs gN mem ths A0 c0 (some adT) c1_ out (.slice Ao out.length co) W7.drew) := Aside0.mk (HI7.out.below (below_drew1 (Below.refl _ W7)))
    have HN8 := Aside0.mk (HN7.out.below (below_drew1 (Below.refl _ W7)))
    have BN8 := Aside0.mk (blk_drewN BN7.out 1)
    change Aside0 (W7.drew.heap[gN]? = _) at BN8
    generalize W7.drew = W8 at HI8 HN8 BN8 hHeld ⊢
    clear HI7 HN7 BN7 es1 hk0 hk1 hx0 hx1 hx2 hx3
    refine pure_ (i := 0) (N := some 32) (v := ?_) (a' := ?_) #[true, false, false, false, false, false, false, false, false, false, false] rfl rfl (by kernel_rfl) (fun _ _ _ h => h) (Or.inl ⟨by rfl, ?_⟩) ?_ ?_
    rotate_left
    ·intro w'
     go_simp
     with_reducible rfl
    rotate_left
    ·simp only [Act.put, List.setIfInBounds_toArray, List.set_cons_zero, List.set_cons_succ, i64_w, i32_w]
     rfl
    refine take_ (i := 1) (N := some 33) (v := ?_) (a' := ?_) #[true, true, false, false, false, false, false, false, false, false, false] rfl rfl (by kernel_rfl) (fun _ _ _ h => h) (Or.inl ⟨by rfl, ?_⟩) hHeld ?_ ?_
    rotate_left
    ·rintro w' ⟨s0, s1, s2, s3, s4, s5⟩
     go_simp
     with_reducible rfl
    rotate_left
    ·simp only [Act.put, List.setIfInBounds_toArray, List.set_cons_zero, List.set_cons_succ, i64_w, i32_w]
     rfl
    refine pure_ (i := 2) (N := some 34) (v := ?_) (a' := ?_) #[true, true, true, false, false, false, false, false, false, false, false] rfl rfl (by kernel_rfl) (fun _ _ _ h => h) (Or.inl ⟨by rfl, ?_⟩) ?_ ?_
    rotate_left
    ·intro w'
     go_simp
     with_reducible rfl
    rotate_left
    ·simp only [Act.put, List.setIfInBounds_toArray, List.set_cons_zero, List.set_cons_succ, i64_w, i32_w]
     rfl
    refine pure_ (i := 3) (N := some 35) (v := ?_) (a' := ?_) #[true, true, true, true, false, false, false, false, false, false, false] rfl rfl (by kernel_rfl) (fun _ _ _ h => h) (Or.inl ⟨by rfl, ?_⟩) ?_ ?_
    rotate_left
    ·intro w'
     go_simp
     with_reducible rfl
    rotate_left
    ·simp only [Act.put, List.setIfInBounds_toArray, List.set_cons_zero, List.set_cons_succ, i64_w, i32_w]
     rfl
    refine pure_ (i := 4) (N := some 36) (v := ?_) (a' := ?_) #[true, true, true, true, true, false, false, false, false, false, false] rfl rfl (by kernel_rfl) (fun _ _ _ h => h) (Or.inl ⟨by rfl, ?_⟩) ?_ ?_
    rotate_left
    ·intro w'
     go_simp
     with_reducible rfl
    rotate_left
    ·simp only [Act.put, List.setIfInBounds_toArray, List.set_cons_zero, List.set_cons_succ, i64_w, i32_w]
     rfl
    refine pure_ (i := 5) (N := some 37) (v := ?_) (a' := ?_) #[true, true, true, true, true, true, false, false, false, false, false] rfl rfl (by kernel_rfl) (fun _ _ _ h => h) (Or.inl ⟨by rfl, ?_⟩) ?_ ?_
    rotate_left
    ·intro w'
     go_simp
     with_reducible rfl
    rotate_left
    ·simp only [Act.put, List.setIfInBounds_toArray, List.set_cons_zero, List.set_cons_succ, i64_w, i32_w]
     rfl
    refine take_ (i := 6) (N := some 38) (v := ?_) (a' := ?_) #[true, true, true, true, true, true, true, false, false, false, false] rfl rfl (by kernel_rfl) (fun _ _ _ h => h) (Or.inl ⟨by rfl, ?_⟩) hHeld ?_ ?_
    rotate_left
    ·rintro w' ⟨s0, s1, s2, s3, s4, s5⟩
     go_simp
     with_reducible rfl
    rotate_left
    ·simp only [Act.put, List.setIfInBounds_toArray, List.set_cons_zero, List.set_cons_succ, i64_w, i32_w]
     rfl
    refine pure_ (i := 7) (N := some 39) (v := ?_) (a' := ?_) #[true, true, true, true, true, true, true, true, false, false, false] rfl rfl (by kernel_rfl) (fun _ _ _ h => h) (Or.inl ⟨by rfl, ?_⟩) ?_ ?_
    rotate_left
    ·intro w'
     go_simp
     with_reducible rfl
    rotate_left
    ·simp only [Act.put, List.setIfInBounds_toArray, List.set_cons_zero, List.set_cons_succ, i64_w, i32_w]
     rfl
    refine take_ (i := 8) (N := some 40) (v := ?_) (a' := ?_) #[true, true, true, true, true, true, true, true, true, false, false] rfl rfl (by kernel_rfl) (fun _ _ _ h => h) (Or.inl ⟨by rfl, ?_⟩) hHeld ?_ ?_
    rotate_left
    ·rintro w' ⟨s0, s1, s2, s3, s4, s5⟩
     go_simp
     with_reducible rfl
    rotate_left
    ·simp only [Act.put, List.setIfInBounds_toArray, List.set_cons_zero, List.set_cons_succ, i64_w, i32_w]
     rfl
    refine one_ (i := 9) (N := some 11) #[true, true, true, true, true, true, true, true, true, true, false] rfl rfl (by kernel_rfl) (by decide) (fun K hK => ?_)
    refine box_step ?hg (N := 11) ?hd (cs := #[.int .i64 0, .slice none 0 0, .bool false, .slice none 0 0]) (t := 49) ?hr ?_; (case hd => rfl); (case hg => rfl); (case hr => first | (go_simp; done) | (go_simp; rfl))
    intro gX hg W9 hbox hb
    have HLX : Aside0 (bs < gX) := Aside0.mk (by rw [hg]; exact blk_lt HI8.out.hs)
    have HNX : Aside0 (gN < gX) := Aside0.mk (by rw [hg]; exact blk_lt BN8.out)
    have BX9 := Aside0.mk hbox
    have HI9 : Aside0 (CI w (.slice A0_0 l0_0.length c0_0) (.slice A0_1 l0_1.length c0_1) bs gX mem ths A0 c0 (some adT) c1_ out (.slice Ao out.length co) W9) := Aside0.mk (HI8.out.box hg hb)
    have HN9 := Aside0.mk (HN8.out.box hg hb)
    have BN9 := Aside0.mk (blk_below BN8.out hb)
    have hh : W9.cell? ⟨bs, 1, none⟩ = some (.slice (some adT) ths.length c1_) ∧ W9.cell? (ad.add (i * 2)) = some (.int .i64 (t : Int)) ∧ W9.cell? (adT.add (t * 4)) = some (.int .i64 x.f0) ∧ W9.cell? ⟨(adT.add (t * 4)).block, (adT.add (t * 4)).off + 1, none⟩ = some (.slice X1 x.f1.length d1_) ∧ W9.cell? ⟨(adT.add (t * 4)).block, (adT.add (t * 4)).off + 2, none⟩ = some (.bool x.f2) ∧ W9.cell? ⟨(adT.add (t * 4)).block, (adT.add (t * 4)).off + 3, none⟩ = some (.slice X3 x.f3.length d3_) := by obtain ⟨s0, s1, s2, s3, s4, s5⟩ := hHeld; exact ⟨pw_cell_below hb s0, pw_cell_below hb s1, pw_cell_below hb s2, pw_cell_below hb s3, pw_cell_below hb s4, pw_cell_below hb s5⟩
    clear hbox HI8 HN8 BN8
    clear hb hg
    refine hK.out _ _ hh (fun hHeld => ?_)
    clear hh hHeld
    clear hK K
    refine norm_ (a' := ?_) ?_ ?_
    rotate_left
    ·show Act.put _ (some 11) _ = _
     simp only [Act.put, List.setIfInBounds_toArray, List.set_cons_zero, List.set_cons_succ, i64_w, i32_w]
     rfl
    refine last_ (i := 10) (N := none) #[true, true, true, true, true, true, true, true, true, true, true] rfl rfl (by kernel_rfl) (by decide) (fun K hK => ?_)
    have hs0 : W9.cell? ⟨gX, 0, none⟩ = some (.int .i64 0) := (blk_cell BX9.out 0).trans rfl
    have hf0 := blk_frozen BX9.out 0
    have hs1 : W9.cell? ⟨gX, 1, none⟩ = some (.slice none 0 0) := (blk_cell BX9.out 1).trans rfl
    have hf1 := blk_frozen BX9.out 1
    have hs2 : W9.cell? ⟨gX, 2, none⟩ = some (.bool false) := (blk_cell BX9.out 2).trans rfl
    have hf2 := blk_frozen BX9.out 2
    have hs3 : W9.cell? ⟨gX, 3, none⟩ = some (.slice none 0 0) := (blk_cell BX9.out 3).trans rfl
    have hf3 := blk_frozen BX9.out 3
    refine skip_ (w1 := ?_) (by rfl) rfl ?_ ?_
    rotate_left
    ·go_simp
     rfl
    refine hK.out _ _ ?_
    clear hK K
    refine done_ (by kernel_rfl) ?_
    clear hs0 hs1 hs2 hs3 hf0 hf1 hf2 hf3
    obtain ⟨W10, hW10⟩ : ∃ W10, W10 = ((((W9.setCell ⟨gX, 0, none⟩ (.int .i64 x.f0)).setCell ⟨gX, 1, none⟩ (.slice X1 x.f1.length d1_)).setCell ⟨gX, 2, none⟩ (.bool x.f2)).setCell ⟨gX, 3, none⟩ (.slice X3 x.f3.length d3_)) := ⟨_, rfl⟩
    have HI10 : Aside0 (CI w (.slice A0_0 l0_0.length c0_0) (.slice A0_1 l0_1.length c0_1) bs gX mem ths A0 c0 (some adT) c1_ out (.slice Ao out.length co) W10) := Aside0.mk (by rw [hW10]; exact ((((HI9.out.setBox HLX.out BX9.out (by decide) 0 _).setBox HLX.out (blk_set BX9.out 0 _) (by decide) 1 _).setBox HLX.out (blk_set (blk_set BX9.out 0 _) 1 _) (by decide) 2 _).setBox HLX.out (blk_set (blk_set (blk_set BX9.out 0 _) 1 _) 2 _) (by decide) 3 _))
    have HN10 : Aside0 (NC w bs gX (tsoF l0_1 mem ths (t : Int) k1) (.slice B0 n0 d0) (.slice B1 n1 d1) W10) := Aside0.mk (by rw [hW10]; exact ((((HN9.out.setBox 0 _).setBox 1 _).setBox 2 _).setBox 3 _))
    have BN10 : Aside0 (W10.heap[gN]? = some (.cells #[.slice B0 n0 d0, .slice B1 n1 d1] 41 (0, 0))) := Aside0.mk (by rw [hW10]; exact (blk_far (blk_far (blk_far (blk_far BN9.out (Nat.ne_of_lt HNX.out) _) (Nat.ne_of_lt HNX.out) _) (Nat.ne_of_lt HNX.out) _) (Nat.ne_of_lt HNX.out) _))
    have BX10 : Aside0 (W10.heap[gX]? = some (.cells #[.int .i64 x.f0, .slice X1 x.f1.length d1_, .bool x.f2, .slice X3 x.f3.length d3_] 49 (0, 0))) := Aside0.mk (by rw [hW10]; exact (blk_set (blk_set (blk_set (blk_set BX9.out 0 _) 1 _) 2 _) 3 _))
    rw [← hW10]
    clear hW10 HI9 HN9 BN9 BX9
    obtain ⟨ad', ead', hk0, hk1⟩ := at_T46 (Kd.C_below HR1.out HI10.out.bel) (i : Int) (by omega) (by have := HLT.out; omega)
    obtain rfl : ad = ad' := by injection ead'
    rw [Int.toNat_natCast, HKE.out] at hk0 hk1
    simp only at hk0 hk1
    clear ead'
    have ex3 : W10.cell? ⟨gX, 3, none⟩ = some (.slice X3 x.f3.length d3_) := (blk_cell BX10.out 3).trans rfl
    cases k1 with
    | true =>
     have hrn := HRN3.out
     rw [HXE.out] at hrn
     rw [if_neg (by simp)] at hrn
     have HRN4 := Aside0.mk hrn
     clear hrn
     have en0 : W10.cell? ⟨gN, 0, none⟩ = some (.slice B0 n0 d0) := (blk_cell BN10.out 0).trans rfl
     have en1 : W10.cell? ⟨gN, 1, none⟩ = some (.slice B1 n1 d1) := (blk_cell BN10.out 1).trans rfl
     have et0 : W10.cell? ⟨bs, 0, none⟩ = some (.slice A0 mem.length c0) := (blk_cell HI10.out.hs 0).trans rfl
     have et1 : W10.cell? ⟨bs, 1, none⟩ = some (.slice (some adT) ths.length c1_) := (blk_cell HI10.out.hs 1).trans rfl
     have ef0 := blk_frozen HI10.out.hs 0
     have ef1 := blk_frozen HI10.out.hs 1
     go_wp2_with fail
     have hnext := HI10.out.next HN10.out HST.out
     go_roundw
     case rel => exact ⟨i + 1, by have := HLT.out; omega, by simp, m', t', B0, d0, B1, d1, out, HRN4.out, hnext⟩
     case measure => have := HLT.out; simp [intOf]; omega
    | false =>
     by_cases hz : 0 < x.f3.length
     ·skip
      have hrn := HRN3.out
      rw [HXE.out, if_pos ⟨rfl, hz⟩] at hrn
      obtain ⟨nn, hnn⟩ : ∃ q, q = numR l0_1 (t : Int) x.f0 := ⟨_, rfl⟩
      obtain ⟨pp, hpp⟩ : ∃ q, q = putR out nn := ⟨_, rfl⟩
      rw [← hnn, ← hpp] at hrn
      have HRN4 := Aside0.mk hrn
      obtain ⟨kn, hkn⟩ : ∃ kn, fencepostref08_Num.f kn l0_0 l0_1 (t : Int) x.f0 = some nn := by rw [hnn]; exact num_of HOK.out.1 HOK.out.2.2 HST.out HXE.out
      obtain ⟨kp, hkp⟩ : ∃ kp, fencepostref14_put.f kp out nn = some pp := by rw [hpp]; exact (put_ev HOK.out.2.1 nn).rounds
      have HKN := Aside0.mk hkn
      have HKP := Aside0.mk hkp
      have z1 : decide ((0 : Int) < (x.f3.length : Int)) = true := decide_eq_true (by omega)
      have z2 : ((0 : Int) < (x.f3.length : Int)) = True := eq_true (by omega)
      have z3 : (0 < x.f3.length) = True := eq_true hz
      have ep0 : W10.cell? ⟨w.heap.size, 0, none⟩ = some (.slice A0_0 l0_0.length c0_0) := (blk_cell HI10.out.hp 0).trans rfl
      have ep1 : W10.cell? ⟨w.heap.size, 1, none⟩ = some (.slice A0_1 l0_1.length c0_1) := (blk_cell HI10.out.hp 1).trans rfl
      have ex0 : W10.cell? ⟨gX, 0, none⟩ = some (.int .i64 x.f0) := (blk_cell BX10.out 0).trans rfl
      clear hrn hnn hpp hkn hkp hz
      go_upto_region 11 with fail
      refine start_ (n := 12) (S := fun w' => w'.cell? ⟨w.heap.size, 0, none⟩ = some (.slice A0_0 l0_0.length c0_0) ∧ w'.cell? ⟨w.heap.size, 1, none⟩ = some (.slice A0_1 l0_1.length c0_1) ∧ w'.cell? (ad.add (i * 2)) = some (.int .i64 (t : Int)) ∧ w'.cell? ⟨gX, 0, none⟩ = some (.int .i64 x.f0)) (ds := [9, 10]) #[false, false, false, false, false, false, false, false, false, false, false, false] (by kernel_rfl) rfl rfl ⟨by first | exact ep0 | simpa using ep0, by first | exact ep1 | simpa using ep1, by first | exact hk0 | simpa using hk0, by first | exact ex0 | simpa using ex0⟩ (fun hHeld => ?_)
      have HI11 : Aside0 (CI w (.slice A0_0 l0_0.length c0_0) (.slice A0_1 l0_1.length c0_1) bs gX mem ths A0 c0 (some adT) c1_ out (.slice Ao out.length co) W10.drew) := Aside0.mk (HI10.out.below (below_drew1 (Below.refl _ W10)))
      have HN11 := Aside0.mk (HN10.out.below (below_drew1 (Below.refl _ W10)))
      have BN11 := Aside0.mk (blk_drewN BN10.out 1)
      change Aside0 (W10.drew.heap[gN]? = _) at BN11
      generalize W10.drew = W11 at HI11 HN11 BN11 hHeld ⊢
      clear HI10 HN10 BN10 BX10 ep0 ep1 hk0 hk1 ex0 ex3
      refine pure_ (i := 0) (N := some 53) (v := ?_) (a' := ?_) #[true, false, false, false, false, false, false, false, false, false, false, false] rfl rfl (by kernel_rfl) (fun _ _ _ h => h) (Or.inl ⟨by rfl, ?_⟩) ?_ ?_
      rotate_left
      ·intro w'
       go_simp
       with_reducible rfl
      rotate_left
      ·simp only [Act.put, List.setIfInBounds_toArray, List.set_cons_zero, List.set_cons_succ, i64_w, i32_w]
       rfl
      refine take_ (i := 1) (N := some 54) (v := ?_) (a' := ?_) #[true, true, false, false, false, false, false, false, false, false, false, false] rfl rfl (by kernel_rfl) (fun _ _ _ h => h) (Or.inl ⟨by rfl, ?_⟩) hHeld ?_ ?_
      rotate_left
      ·rintro w' ⟨s0, s1, s2, s3⟩
       go_simp
       with_reducible rfl
      rotate_left
      ·simp only [Act.put, List.setIfInBounds_toArray, List.set_cons_zero, List.set_cons_succ, i64_w, i32_w]
       rfl
      refine pure_ (i := 2) (N := some 55) (v := ?_) (a' := ?_) #[true, true, true, false, false, false, false, false, false, false, false, false] rfl rfl (by kernel_rfl) (fun _ _ _ h => h) (Or.inl ⟨by rfl, ?_⟩) ?_ ?_
      rotate_left
      ·intro w'
       go_simp
       with_reducible rfl
      rotate_left
      ·simp only [Act.put, List.setIfInBounds_toArray, List.set_cons_zero, List.set_cons_succ, i64_w, i32_w]
       rfl
      refine pure_ (i := 3) (N := some 56) (v := ?_) (a' := ?_) #[true, true, true, true, false, false, false, false, false, false, false, false] rfl rfl (by kernel_rfl) (fun _ _ _ h => h) (Or.inl ⟨by rfl, ?_⟩) ?_ ?_
      rotate_left
      ·intro w'
       go_simp
       with_reducible rfl
      rotate_left
      ·simp only [Act.put, List.setIfInBounds_toArray, List.set_cons_zero, List.set_cons_succ, i64_w, i32_w]
       rfl
      refine pure_ (i := 4) (N := some 57) (v := ?_) (a' := ?_) #[true, true, true, true, true, false, false, false, false, false, false, false] rfl rfl (by kernel_rfl) (fun _ _ _ h => h) (Or.inl ⟨by rfl, ?_⟩) ?_ ?_
      rotate_left
      ·intro w'
       go_simp
       with_reducible rfl
      rotate_left
      ·simp only [Act.put, List.setIfInBounds_toArray, List.set_cons_zero, List.set_cons_succ, i64_w, i32_w]
       rfl
      refine pure_ (i := 5) (N := some 58) (v := ?_) (a' := ?_) #[true, true, true, true, true, true, false, false, false, false, false, false] rfl rfl (by kernel_rfl) (fun _ _ _ h => h) (Or.inl ⟨by rfl, ?_⟩) ?_ ?_
      rotate_left
      ·intro w'
       go_simp
       with_reducible rfl
      rotate_left
      ·simp only [Act.put, List.setIfInBounds_toArray, List.set_cons_zero, List.set_cons_succ, i64_w, i32_w]
       rfl
      refine take_ (i := 6) (N := some 59) (v := ?_) (a' := ?_) #[true, true, true, true, true, true, true, false, false, false, false, false] rfl rfl (by kernel_rfl) (fun _ _ _ h => h) (Or.inl ⟨by rfl, ?_⟩) hHeld ?_ ?_
      rotate_left
      ·rintro w' ⟨s0, s1, s2, s3⟩
       go_simp
       with_reducible rfl
      rotate_left
      ·simp only [Act.put, List.setIfInBounds_toArray, List.set_cons_zero, List.set_cons_succ, i64_w, i32_w]
       rfl
      refine pure_ (i := 7) (N := some 60) (v := ?_) (a' := ?_) #[true, true, true, true, true, true, true, true, false, false, false, false] rfl rfl (by kernel_rfl) (fun _ _ _ h => h) (Or.inl ⟨by rfl, ?_⟩) ?_ ?_
      rotate_left
      ·intro w'
       go_simp
       with_reducible rfl
      rotate_left
      ·simp only [Act.put, List.setIfInBounds_toArray, List.set_cons_zero, List.set_cons_succ, i64_w, i32_w]
       rfl
      refine take_ (i := 8) (N := some 61) (v := ?_) (a' := ?_) #[true, true, true, true, true, true, true, true, true, false, false, false] rfl rfl (by kernel_rfl) (fun _ _ _ h => h) (Or.inl ⟨by rfl, ?_⟩) hHeld ?_ ?_
      rotate_left
      ·rintro w' ⟨s0, s1, s2, s3⟩
       go_simp
       with_reducible rfl
      rotate_left
      ·simp only [Act.put, List.setIfInBounds_toArray, List.set_cons_zero, List.set_cons_succ, i64_w, i32_w]
       rfl
      refine last_ (i := 9) (N := some 62) #[true, true, true, true, true, true, true, true, true, true, false, false] rfl rfl (by kernel_rfl) (by decide) (fun K hK => ?_)
      refine goes_ Try.func16 (by kernel_rfl) rfl #[.agg #[.slice A0_0 l0_0.length c0_0, .slice A0_1 l0_1.length c0_1], .int .i64 (t : Int), .int .i64 x.f0] (by rfl) rfl rfl (by (try simp only [List.map_toArray, List.map_cons, List.map_nil]); first | done | rfl) ?_
      refine (fencepostref08_Num.calls kn A0_0 c0_0 l0_0 A0_1 c0_1 l0_1 (t : Int) x.f0 nn W11 (Kd.C_below HR00.out HI11.out.bel) HC00.out (Kd.C_below HR01.out HI11.out.bel) HC01.out HKN.out).mono ?_
      rintro e W12 ⟨rfl, hb12⟩
      refine ⟨_, rfl, ?_⟩
      have HI12 := Aside0.mk (HI11.out.below hb12)
      have HN12 := Aside0.mk (HN11.out.below hb12)
      have BN12 := Aside0.mk (blk_below BN11.out hb12)
      clear hb12 HI11 HN11 BN11
      refine hK.out _ _ ?_
      clear hK K
      refine norm_ (a' := ?_) ?_ ?_
      rotate_left
      ·show Act.put _ (some 62) _ = _
       simp only [Act.put, List.setIfInBounds_toArray, List.set_cons_zero, List.set_cons_succ, i64_w, i32_w]
       rfl
      refine last_ (i := 10) (N := some 63) #[true, true, true, true, true, true, true, true, true, true, true, false] rfl rfl (by kernel_rfl) (by decide) (fun K hK => ?_)
      have HRO := Aside0.mk (Kd.R_reads' HI12.out.ro)
      refine goes_ Try.func15 (by kernel_rfl) rfl #[.slice Ao out.length co, .int .i64 nn] (by rfl) rfl rfl (by (try simp only [List.map_toArray, List.map_cons, List.map_nil]); first | done | rfl) ?_
      refine (fencepostref14_put.calls kp Ao co out nn pp W12 HRO.out.2.2 HRO.out.2.1 HKP.out).mono ?_
      rintro e W13 ⟨vp, rfl, hRp, hb13⟩
      obtain ⟨Ap, cp, rfl⟩ := Kd.R_slice hRp
      refine ⟨_, rfl, ?_⟩
      have hw12 : w.heap.size ≤ W12.heap.size := HI12.out.bel.size
      have HI13 : Aside0 (CI w (.slice A0_0 l0_0.length c0_0) (.slice A0_1 l0_1.length c0_1) bs gX mem ths A0 c0 (some adT) c1_ pp (.slice Ap pp.length cp) W13) := Aside0.mk ((HI12.out.below hb13).out_ (Kd.R_lower hRp hw12))
      have HN13 := Aside0.mk (HN12.out.below hb13)
      have BN13 := Aside0.mk (blk_below BN12.out hb13)
      clear hRp hb13 hw12 HRO HI12 HN12 BN12
      refine hK.out _ _ ?_
      clear hK K
      refine norm_ (a' := ?_) ?_ ?_
      rotate_left
      ·show Act.put _ (some 63) _ = _
       simp only [Act.put, List.setIfInBounds_toArray, List.set_cons_zero, List.set_cons_succ, i64_w, i32_w]
       rfl
      refine pure_ (i := 11) (N := some 7) (v := ?_) (a' := ?_) #[true, true, true, true, true, true, true, true, true, true, true, true] rfl rfl (by kernel_rfl) (fun _ _ _ h => h) (Or.inl ⟨by rfl, ?_⟩) ?_ ?_
      rotate_left
      ·intro w'
       go_simp
       with_reducible rfl
      rotate_left
      ·simp only [Act.put, List.setIfInBounds_toArray, List.set_cons_zero, List.set_cons_succ, i64_w, i32_w]
       rfl
      refine done_ (by kernel_rfl) ?_
      have en0 : W13.cell? ⟨gN, 0, none⟩ = some (.slice B0 n0 d0) := (blk_cell BN13.out 0).trans rfl
      have en1 : W13.cell? ⟨gN, 1, none⟩ = some (.slice B1 n1 d1) := (blk_cell BN13.out 1).trans rfl
      have et0 : W13.cell? ⟨bs, 0, none⟩ = some (.slice A0 mem.length c0) := (blk_cell HI13.out.hs 0).trans rfl
      have et1 : W13.cell? ⟨bs, 1, none⟩ = some (.slice (some adT) ths.length c1_) := (blk_cell HI13.out.hs 1).trans rfl
      have ef0 := blk_frozen HI13.out.hs 0
      have ef1 := blk_frozen HI13.out.hs 1
      go_wp2_with fail
      have hnext := HI13.out.next HN13.out HST.out
      go_roundw
      case rel => exact ⟨i + 1, by have := HLT.out; omega, by simp, m', t', B0, d0, B1, d1, pp, HRN4.out, hnext⟩
      case measure => have := HLT.out; simp [intOf]; omega
     ·skip
      have z1 : decide ((0 : Int) < (x.f3.length : Int)) = false := decide_eq_false (by omega)
      have z2 : ((0 : Int) < (x.f3.length : Int)) = False := eq_false (by omega)
      have z4 : x.f3.length = 0 := by omega
      have hrn := HRN3.out
      rw [HXE.out, if_neg (by omega)] at hrn
      have HRN4 := Aside0.mk hrn
      clear hrn
      have HZ := Aside0.mk hz
      clear hz
      have en0 : W10.cell? ⟨gN, 0, none⟩ = some (.slice B0 n0 d0) := (blk_cell BN10.out 0).trans rfl
      have en1 : W10.cell? ⟨gN, 1, none⟩ = some (.slice B1 n1 d1) := (blk_cell BN10.out 1).trans rfl
      have et0 : W10.cell? ⟨bs, 0, none⟩ = some (.slice A0 mem.length c0) := (blk_cell HI10.out.hs 0).trans rfl
      have et1 : W10.cell? ⟨bs, 1, none⟩ = some (.slice (some adT) ths.length c1_) := (blk_cell HI10.out.hs 1).trans rfl
      have ef0 := blk_frozen HI10.out.hs 0
      have ef1 := blk_frozen HI10.out.hs 1
      go_wp2_with fail
      have hnext := HI10.out.next HN10.out HST.out
      go_roundw
      case rel => exact ⟨i + 1, by have := HLT.out; omega, by simp, m', t', B0, d0, B1, d1, out, HRN4.out, hnext⟩
      case measure => have := HLT.out; simp [intOf]; omega
  ·obtain rfl : i = l1.length := by omega
   have hrn := HRN.out
   rw [List.drop_length, crossL] at hrn
   simp only [Option.some.injEq, Prod.mk.injEq] at hrn
   obtain ⟨rfl, rfl⟩ := hrn
   have p1 : ((l1.length : Int) < (l1.length : Int)) = False := eq_false (by omega)
   clear HRN hlt
   go_wp2_with fail
   exact bodyPost_ret (v := .tuple #[.slice Ao out.length co, .bool true]) (by simp [results, Try.results6, go_sem]) rfl ⟨_, rfl, HI.out.ro, HI.out.bel⟩
theorem fencepostref14_Cross.calls (A0_0 : Option Addr) (c0_0 : Nat) (l0_0 : List Int) (A0_1 : Option Addr) (c0_1 : Nat) (l0_1 : List (List S36)) (A1 : Option Addr) (c1 : Nat) (l1 : List S46) (r1 : List Int) (r2 : Bool) (w : World)
 (hr0_0 : Kd.C (Kd.int .i64) w A0_0 l0_0.length l0_0) (hc0_0 : l0_0.length ≤ c0_0) (hr0_1 : Kd.C (Kd.slice 36 k36) w A0_1 l0_1.length l0_1) (hc0_1 : l0_1.length ≤ c0_1) (hr1 : Kd.C k46 w A1 l1.length l1) (hc1 : l1.length ≤ c1)
 (h : fencepostref14_Cross.f l0_0 l0_1 l1 = some (r1, r2)) :
 Calls Try.prog 6 #[.agg #[.slice A0_0 l0_0.length c0_0, .slice A0_1 l0_1.length c0_1], .slice A1 l1.length c1] w fun e w' => ∃ v0_ : Value, e = .returned (.tuple #[v0_, .bool r2]) ∧ Kd.R (Kd.int .i64) 3 w' w.heap.size (fun _ => True) v0_ r1 ∧ Below w.heap.size w w' := by
 unfold fencepostref14_Cross.f at h
 by_cases c : l0_0.length ≤ 1000000 ∧ l0_1.length ≤ 1000 ∧ l1.length ≤ 1000000
 ·rw [if_pos c] at h
  obtain ⟨kk, hkk⟩ := begin_some (A := l0_0) (B := l0_1) c.1 c.2.1
  exact cross_calls A0_0 c0_0 l0_0 A0_1 c0_1 l0_1 A1 c1 l1 r1 r2 kk w hr0_0 hc0_0 hr0_1 hc0_1 hr1 hc1 c.2.2 hkk h
 ·rw [if_neg c] at h; cases h
end Go.Proofs.Ytphklaajolpieaa.Print
