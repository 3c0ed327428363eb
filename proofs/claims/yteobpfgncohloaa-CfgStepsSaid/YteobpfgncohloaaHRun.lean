/- ref13.Run: its contract, by walking its text. -/
import Derived.Test.YteobpfgncohloaaHRunInv
import Derived.StillTailTactics
import Derived.RegionTactic
import Derived.BigRegion
namespace Go.Proofs.Yteobpfgncohloaa.Print
open Go.RowKit Go.Proofs.YteobpfgncohloaaW.PrintWords Go.Proofs.YteobpfgncohloaaW.PrintLast Go.Proofs.YteobpfgncohloaaW.PrintMore
set_option linter.unusedVariables false
set_option linter.unusedSimpArgs false
/-- What is handed back of a run. -/
def RP (r1 : List Int) (r2 : List S39) (r3 : Int) (r4 : Bool) (e : Ending) (w w' : World) : Prop := ∃ v0_ v1_ : Value, e = .returned (.tuple #[.agg #[v0_, v1_], .int .i64 r3, .bool r4]) ∧ Kd.V (Kd.int .i64) 3 w' w.heap.size (fun k_ => (w.heap.size ≤ k_)) v0_ r1 ∧ Kd.V k39 39 w' w.heap.size (fun k_ => (w.heap.size ≤ k_)) v1_ r2 ∧ Below w.heap.size w w'
set_option maxRecDepth 100000 in
set_option maxHeartbeats 20000000 in
theorem run_calls (A0_0 : Option Addr) (c0_0 : Nat) (l0_0 : List Int) (A0_1 : Option Addr) (c0_1 : Nat) (l0_1 : List (List S42)) (A1 : Option Addr) (c1 : Nat) (l1 : List S51) (a2 : Bool) (r1 : List Int) (r2 : List S39) (r3 : Int) (r4 : Bool) (kk : Nat) (w : World)
 (hr0_0 : Kd.C (Kd.int .i64) w A0_0 l0_0.length l0_0) (hc0_0 : l0_0.length ≤ c0_0) (hr0_1 : Kd.C (Kd.slice 42 k42) w A0_1 l0_1.length l0_1) (hc0_1 : l0_1.length ≤ c0_1) (hr1 : Kd.C k51 w A1 l1.length l1) (hc1 : l1.length ≤ c1)
 (hl : l1.length ≤ 1000000) (hbg : fencepostref10_Begin.f kk l0_0 l0_1 = some (l0_0, List.replicate l0_1.length th0)) (hrun : runL l0_1 a2 l1 0 l0_0 (List.replicate l0_1.length th0) = some (r1, r2, r3, r4)) :
 Calls Try.prog 6 #[.agg #[.slice A0_0 l0_0.length c0_0, .slice A0_1 l0_1.length c0_1], .slice A1 l1.length c1, .bool a2] w fun e w' => RP r1 r2 r3 r4 e w w' := by
 have hu1 := Try.underlying31
 have hu2 := Try.underlying25
 have hu3 := Try.underlying51
 have HR00 := Aside0.mk hr0_0
 have HR01 := Aside0.mk hr0_1
 have HR1 := Aside0.mk hr1
 have HC00 := Aside0.mk hc0_0
 have HC01 := Aside0.mk hc0_1
 have HC1 := Aside0.mk hc1
 have HL := Aside0.mk hl
 have HBG := Aside0.mk hbg
 have HRUN := Aside0.mk hrun
 clear hr0_0 hc0_0 hr0_1 hc0_1 hr1 hc1 hl hbg hrun
 obtain ⟨W1, hW1⟩ : ∃ W1, W1 = (w.alloc (.cells #[.slice A0_0 l0_0.length c0_0, .slice A0_1 l0_1.length c0_1] 25)).alloc (.cells #[.slice none 0 0, .slice none 0 0] 31) := ⟨_, rfl⟩
 have bP : W1.heap[w.heap.size]? = some (.cells #[.slice A0_0 l0_0.length c0_0, .slice A0_1 l0_1.length c0_1] 25 (0, 0)) := by rw [hW1]; exact blk_alloc (blk_new w _) _
 have bR : W1.heap[w.heap.size + 1]? = some (.cells #[.slice none 0 0, .slice none 0 0] 31 (0, 0)) := by
  have := blk_new (w.alloc (.cells #[.slice A0_0 l0_0.length c0_0, .slice A0_1 l0_1.length c0_1] 25)) (.cells #[.slice none 0 0, .slice none 0 0] 31)
  rw [World.size_alloc] at this; rw [hW1]; exact this
 have hB1 : Below w.heap.size w W1 := by rw [hW1]; exact below_alloc (below_alloc (Below.refl _ _) _) _
 have HW1 := Aside0.mk hW1
 have BP := Aside0.mk bP
 have BR := Aside0.mk bR
 have HBW := Aside0.mk hB1
 clear hW1 bP bR hB1
 go_enter Try.func6, Try.ntmps6
 (try simp only [List.append_eq, List.cons_append, List.nil_append])
 go_upto_region 1 with fail
 rw [← HW1.out]
 have ep0 : W1.cell? ⟨w.heap.size, 0, none⟩ = some (.slice A0_0 l0_0.length c0_0) := (blk_cell BP.out 0).trans rfl
 have ep1 : W1.cell? ⟨w.heap.size, 1, none⟩ = some (.slice A0_1 l0_1.length c0_1) := (blk_cell BP.out 1).trans rfl
 go_upto_region 2 with (go_at_call 13; refine (fencepostref10_Begin.calls kk A0_0 c0_0 l0_0 A0_1 c0_1 l0_1 l0_0 (List.replicate l0_1.length th0) W1 (Kd.C_below HR00.out HBW.out) HC00.out (Kd.C_below HR01.out HBW.out) HC01.out HBG.out).mono ?_; rintro e w2 ⟨vm, vt, rfl, hRm, hSt, hb2⟩; obtain ⟨Am, cm, rfl⟩ := Kd.R_slice hRm; obtain ⟨At, ct, rfl⟩ := Kd.S_slice hSt; have HRM := Aside0.mk hRm; have HST := Aside0.mk hSt; have HB2' := Aside0.mk hb2; clear hRm hSt hb2)
 have hlen : (List.replicate l0_1.length th0).length = l0_1.length := List.length_replicate ..
 obtain ⟨W3, hW3⟩ : ∃ W3, W3 = w2.alloc (.cells #[.slice Am l0_0.length cm, .slice At l0_1.length ct] 31) := ⟨_, rfl⟩
 have hb23 : Below w2.heap.size w2 W3 := by rw [hW3]; exact below_alloc (Below.refl _ _) _
 have bO : W3.heap[w2.heap.size]? = some (.cells #[.slice Am l0_0.length cm, .slice At l0_1.length ct] 31 (0, 0)) := by rw [hW3]; exact blk_new w2 _
 have hlt1 : w.heap.size + 1 < W1.heap.size := blk_lt BR.out
 have hlt2 : W1.heap.size ≤ w2.heap.size := HB2'.out.size
 rw [hlen] at HST
 have HI3 : Aside0 (RI w (.slice A0_0 l0_0.length c0_0) (.slice A0_1 l0_1.length c0_1) w2.heap.size w2.heap.size l0_0 (List.replicate l0_1.length th0) Am cm At ct W3) := Aside0.mk ⟨blk_below (blk_below BP.out HB2'.out) hb23, blk_below (blk_below BR.out HB2'.out) hb23, by rw [hlen]; exact bO, Kd.V_below (Kd.R_V (Kd.R_mono (Kd.R_bound HRM.out) (fun k hk => ⟨by have := hk.2.2.1; omega, by have := hk.2.1; omega, by have := hk.2.2.1; omega, by have := hk.2.1; omega⟩))) hb23, by rw [hlen]; exact Kd.V_below (Kd.S_V (Kd.S_mono (Kd.S_bound HST.out) (fun k hk => ⟨by have := hk.2.2.1; omega, by have := hk.2.1; omega, by have := hk.2.2.1; omega, by have := hk.2.1; omega⟩))) hb23, below_step (below_step HBW.out HB2'.out) hb23, by omega⟩
 rw [← hW3]
 clear BP BR HBW HRM HST HB2' hb23 hW3 bO ep0 ep1 HW1 HBG
 generalize w2.heap.size = bs at HI3 ⊢
 clear hlt1 hlt2 hlen
 go_wp2_with fail
 go_loopw [10] (fun v10 wr => ∃ i : Nat, i ≤ l1.length ∧ v10 = .int .i64 (i : Int) ∧ ∃ mem ths A0 c0 A1_ c1_, runL l0_1 a2 (l1.drop i) (i : Int) mem ths = some (r1, r2, r3, r4) ∧ RI w (.slice A0_0 l0_0.length c0_0) (.slice A0_1 l0_1.length c0_1) bs bs mem ths A0 c0 A1_ c1_ wr) (fun v10 _ => l1.length - (intOf v10).toNat)
 case atStart => exact ⟨0, Nat.zero_le _, rfl, _, _, _, _, _, _, HRUN.out, HI3.out⟩
 case round =>
  obtain ⟨i, hi, rfl, mem, ths, A0, c0, A1_, c1_, hrn, hI⟩ := hrel
  clear HI3 HRUN
  have HI := Aside0.mk hI
  have HRN := Aside0.mk hrn
  clear hI hrn
  have hll : l1.length ≤ 1000000 := HL.out
  by_cases hlt : i < l1.length
  ·have hdrop : l1.drop i = rd_T51 l1 (i : Int) :: l1.drop (i + 1) := by
    rw [List.drop_eq_getElem_cons hlt]
    have : rd_T51 l1 (i : Int) = l1[i] := by unfold rd_T51; rw [Int.toNat_natCast, List.getD_eq_getElem?_getD, List.getElem?_eq_getElem hlt]; rfl
    rw [this]
   have hrn := HRN.out
   rw [hdrop, runL] at hrn
   by_cases hok : okB l0_1 mem ths = true
   rotate_left
   ·rw [if_neg hok] at hrn; cases hrn
   rw [if_pos hok] at hrn
   obtain ⟨ad, ead, hk0, hk1⟩ := at_T51 (Kd.C_below HR1.out HI.out.bel) (i : Int) (by omega) (by omega)
   rw [Int.toNat_natCast] at hk0 hk1
   generalize rd_T51 l1 (i : Int) = k at hrn hk0 hk1 hdrop
   have HRN2 := Aside0.mk hrn
   have HOK := Aside0.mk hok
   have HLT := Aside0.mk hlt
   subst ead
   clear hrn hok HRN hdrop
   have p1 : ((i : Int) < (l1.length : Int)) = True := eq_true (by omega)
   have p2 : (0 ≤ (i : Int)) = True := eq_true (by omega)
   have p3 : (i < l1.length) = True := eq_true hlt
   have s1 : (i : Int) + 1 ≤ 9223372036854775807 := by omega
   have s2 : -9223372036854775808 ≤ (i : Int) + 1 := by omega
   have ep0 : wr.cell? ⟨w.heap.size, 0, none⟩ = some (.slice A0_0 l0_0.length c0_0) := (blk_cell HI.out.hp 0).trans rfl
   have ep1 : wr.cell? ⟨w.heap.size, 1, none⟩ = some (.slice A0_1 l0_1.length c0_1) := (blk_cell HI.out.hp 1).trans rfl
   have es0 : wr.cell? ⟨bs, 0, none⟩ = some (.slice A0 mem.length c0) := (blk_cell HI.out.hs 0).trans rfl
   have es1 : wr.cell? ⟨bs, 1, none⟩ = some (.slice A1_ ths.length c1_) := (blk_cell HI.out.hs 1).trans rfl
   clear hlt hi hll
   go_wp2_with fail
   refine start_ (n := 14) (S := fun w' => w'.cell? ⟨w.heap.size, 0, none⟩ = some (.slice A0_0 l0_0.length c0_0) ∧ w'.cell? ⟨w.heap.size, 1, none⟩ = some (.slice A0_1 l0_1.length c0_1) ∧ w'.cell? ⟨bs, 0, none⟩ = some (.slice A0 mem.length c0) ∧ w'.cell? ⟨bs, 1, none⟩ = some (.slice A1_ ths.length c1_) ∧ w'.cell? (ad.add (i * 2)) = some (.int .i64 k.f0) ∧ w'.cell? ⟨(ad.add (i * 2)).block, (ad.add (i * 2)).off + 1, none⟩ = some (.bool k.f1)) (ds := [12]) #[false, false, false, false, false, false, false, false, false, false, false, false, false, false] (by kernel_rfl) rfl rfl ⟨by first | exact ep0 | simpa using ep0, by first | exact ep1 | simpa using ep1, by first | exact es0 | simpa using es0, by first | exact es1 | simpa using es1, by first | exact hk0 | simpa using hk0, by first | exact hk1 | simpa using hk1⟩ (fun hHeld => ?_)
   have HI0 : Aside0 (RI w (.slice A0_0 l0_0.length c0_0) (.slice A0_1 l0_1.length c0_1) bs bs mem ths A0 c0 A1_ c1_ wr.drew) := Aside0.mk (HI.out.below (below_drew1 (Below.refl _ wr)))
   generalize wr.drew = W5 at HI0 hHeld ⊢
   clear HI ep0 ep1 es0 es1 hk0 hk1
   refine take_ (i := 0) (N := some 22) (v := ?_) (a' := ?_) #[true, false, false, false, false, false, false, false, false, false, false, false, false, false] rfl rfl (by kernel_rfl) (fun _ _ _ h => h) (Or.inl ⟨by rfl, ?_⟩) hHeld ?_ ?_
   rotate_left
   ·rintro w' ⟨s0, s1, s2, s3, s4, s5⟩
    go_simp
    with_reducible rfl
   rotate_left
   ·simp only [Act.put, List.setIfInBounds_toArray, List.set_cons_zero, List.set_cons_succ, i64_w, i32_w]
    rfl
   refine take_ (i := 1) (N := some 23) (v := ?_) (a' := ?_) #[true, true, false, false, false, false, false, false, false, false, false, false, false, false] rfl rfl (by kernel_rfl) (fun _ _ _ h => h) (Or.inl ⟨by rfl, ?_⟩) hHeld ?_ ?_
   rotate_left
   ·rintro w' ⟨s0, s1, s2, s3, s4, s5⟩
    go_simp
    with_reducible rfl
   rotate_left
   ·simp only [Act.put, List.setIfInBounds_toArray, List.set_cons_zero, List.set_cons_succ, i64_w, i32_w]
    rfl
   refine pure_ (i := 2) (N := some 24) (v := ?_) (a' := ?_) #[true, true, true, false, false, false, false, false, false, false, false, false, false, false] rfl rfl (by kernel_rfl) (fun _ _ _ h => h) (Or.inl ⟨by rfl, ?_⟩) ?_ ?_
   rotate_left
   ·intro w'
    go_simp
    with_reducible rfl
   rotate_left
   ·simp only [Act.put, List.setIfInBounds_toArray, List.set_cons_zero, List.set_cons_succ, i64_w, i32_w]
    rfl
   refine pure_ (i := 3) (N := some 25) (v := ?_) (a' := ?_) #[true, true, true, true, false, false, false, false, false, false, false, false, false, false] rfl rfl (by kernel_rfl) (fun _ _ _ h => h) (Or.inl ⟨by rfl, ?_⟩) ?_ ?_
   rotate_left
   ·intro w'
    go_simp
    with_reducible rfl
   rotate_left
   ·simp only [Act.put, List.setIfInBounds_toArray, List.set_cons_zero, List.set_cons_succ, i64_w, i32_w]
    rfl
   refine pure_ (i := 4) (N := some 26) (v := ?_) (a' := ?_) #[true, true, true, true, true, false, false, false, false, false, false, false, false, false] rfl rfl (by kernel_rfl) (fun _ _ _ h => h) (Or.inl ⟨by rfl, ?_⟩) ?_ ?_
   rotate_left
   ·intro w'
    go_simp
    with_reducible rfl
   rotate_left
   ·simp only [Act.put, List.setIfInBounds_toArray, List.set_cons_zero, List.set_cons_succ, i64_w, i32_w]
    rfl
   refine take_ (i := 5) (N := some 27) (v := ?_) (a' := ?_) #[true, true, true, true, true, true, false, false, false, false, false, false, false, false] rfl rfl (by kernel_rfl) (fun _ _ _ h => h) (Or.inl ⟨by rfl, ?_⟩) hHeld ?_ ?_
   rotate_left
   ·rintro w' ⟨s0, s1, s2, s3, s4, s5⟩
    go_simp
    with_reducible rfl
   rotate_left
   ·simp only [Act.put, List.setIfInBounds_toArray, List.set_cons_zero, List.set_cons_succ, i64_w, i32_w]
    rfl
   refine pure_ (i := 6) (N := some 28) (v := ?_) (a' := ?_) #[true, true, true, true, true, true, true, false, false, false, false, false, false, false] rfl rfl (by kernel_rfl) (fun _ _ _ h => h) (Or.inl ⟨by rfl, ?_⟩) ?_ ?_
   rotate_left
   ·intro w'
    go_simp
    with_reducible rfl
   rotate_left
   ·simp only [Act.put, List.setIfInBounds_toArray, List.set_cons_zero, List.set_cons_succ, i64_w, i32_w]
    rfl
   refine join_ (σ := (Option Addr × Nat × Nat) × (Option Addr × Nat × Nat) × Nat) 2 #[true, true, true, true, true, true, true, true, true, true, true, true, false, false] (fun s_ => [(29, .tuple #[.agg #[.slice s_.1.1 s_.1.2.1 s_.1.2.2, .slice s_.2.1.1 s_.2.1.2.1 s_.2.1.2.2], .bool (rstF l0_1 mem ths k a2).isSome]), (21, .tuple #[.agg #[.slice s_.1.1 s_.1.2.1 s_.1.2.2, .slice s_.2.1.1 s_.2.1.2.1 s_.2.1.2.2], .bool (rstF l0_1 mem ths k a2).isSome]), (30, .agg #[.slice s_.1.1 s_.1.2.1 s_.1.2.2, .slice s_.2.1.1 s_.2.1.2.1 s_.2.1.2.2]), (31, .bool (rstF l0_1 mem ths k a2).isSome), (11, .pointer (some ⟨s_.2.2, 0, none⟩))]) (fun s_ w' => RI w (.slice A0_0 l0_0.length c0_0) (.slice A0_1 l0_1.length c0_1) bs s_.2.2 mem ths A0 c0 A1_ c1_ w' ∧ (w'.heap[s_.2.2]? = some (.cells #[.slice none 0 0, .slice none 0 0] 31 (0, 0))) ∧ bs < s_.2.2 ∧ NV w bs s_.2.2 (rstF l0_1 mem ths k a2) (.slice s_.1.1 s_.1.2.1 s_.1.2.2) (.slice s_.2.1.1 s_.2.1.2.1 s_.2.1.2.2) w') ?_ ?_
   rotate_left
   ·intro hCont
    refine two_ (i := 7) (j := 11) (Ni := some 29) (Nj := some 11) #[true, true, true, true, true, true, true, true, false, false, false, false, false, false] #[true, true, true, true, true, true, true, false, false, false, false, true, false, false] rfl rfl rfl rfl (by kernel_rfl) (by decide) (by decide) (fun K hK => ?_) (fun K hK => ?_)
    ·skip
     obtain ⟨hm0, hm1, hm2⟩ := Kd.V_reads' HI0.out.vm
     obtain ⟨ht0, ht1, ht2⟩ := Kd.V_reads' HI0.out.vt
     have HM2 := Aside0.mk hm2
     have HT2 := Aside0.mk ht2
     have HM1 := Aside0.mk hm1
     have HT1 := Aside0.mk ht1
     clear hm0 hm1 hm2 ht0 ht1 ht2
     refine goes_ Try.func14 (by kernel_rfl) rfl #[.agg #[.slice A0_0 l0_0.length c0_0, .slice A0_1 l0_1.length c0_1], .agg #[.slice A0 mem.length c0, .slice A1_ ths.length c1_], .agg #[.int .i64 k.f0, .bool k.f1], .bool a2] (by rfl) rfl rfl (by (try simp only [List.map_toArray, List.map_cons, List.map_nil]); first | done | rfl) ?_
     refine (rs_calls A0_0 c0_0 l0_0 A0_1 c0_1 l0_1 A0 c0 mem A1_ c1_ ths k a2 W5 (Kd.C_below HR00.out HI0.out.bel) HC00.out (Kd.C_below HR01.out HI0.out.bel) HC01.out HM2.out HM1.out HT2.out HT1.out HOK.out).mono ?_
     rintro e wc ⟨B0, n0, d0, B1, n1, d1, rfl, hv, hbc⟩
     refine ⟨_, rfl, ?_⟩
     have HV := Aside0.mk hv
     have HBC := Aside0.mk hbc
     clear hv hbc HM1 HM2 HT1 HT2
     have hbsl : bs < W5.heap.size := blk_lt HI0.out.hs
     have HIc : Aside0 (RI w (.slice A0_0 l0_0.length c0_0) (.slice A0_1 l0_1.length c0_1) bs bs mem ths A0 c0 A1_ c1_ wc) := Aside0.mk (HI0.out.below HBC.out)
     have HNc : Aside0 (NV w bs bs (rstF l0_1 mem ths k a2) (.slice B0 n0 d0) (.slice B1 n1 d1) wc) := Aside0.mk (NV.of HV.out HI0.out.lt hbsl hbsl)
     have hh : wc.cell? ⟨w.heap.size, 0, none⟩ = some (.slice A0_0 l0_0.length c0_0) ∧ wc.cell? ⟨w.heap.size, 1, none⟩ = some (.slice A0_1 l0_1.length c0_1) ∧ wc.cell? ⟨bs, 0, none⟩ = some (.slice A0 mem.length c0) ∧ wc.cell? ⟨bs, 1, none⟩ = some (.slice A1_ ths.length c1_) ∧ wc.cell? (ad.add (i * 2)) = some (.int .i64 k.f0) ∧ wc.cell? ⟨(ad.add (i * 2)).block, (ad.add (i * 2)).off + 1, none⟩ = some (.bool k.f1) := by obtain ⟨s0, s1, s2, s3, s4, s5⟩ := hHeld; exact ⟨pw_cell_below HBC.out s0, pw_cell_below HBC.out s1, pw_cell_below HBC.out s2, pw_cell_below HBC.out s3, pw_cell_below HBC.out s4, pw_cell_below HBC.out s5⟩
     clear HV hbsl
     refine hK.out _ _ hh (fun hHeld => ?_)
     clear hh
     clear hK K
     refine norm_ (a' := ?_) ?_ ?_
     rotate_left
     ·show Act.put _ (some 29) _ = _
      simp only [Act.put, List.setIfInBounds_toArray, List.set_cons_zero, List.set_cons_succ, i64_w, i32_w]
      rfl
     refine pure_ (i := 8) (N := some 21) (v := ?_) (a' := ?_) #[true, true, true, true, true, true, true, true, true, false, false, false, false, false] rfl rfl (by kernel_rfl) (fun _ _ _ h => h) (Or.inl ⟨by rfl, ?_⟩) ?_ ?_
     rotate_left
     ·intro w'
      go_simp
      with_reducible rfl
     rotate_left
     ·simp only [Act.put, List.setIfInBounds_toArray, List.set_cons_zero, List.set_cons_succ, i64_w, i32_w]
      rfl
     refine pure_ (i := 9) (N := some 30) (v := ?_) (a' := ?_) #[true, true, true, true, true, true, true, true, true, true, false, false, false, false] rfl rfl (by kernel_rfl) (fun _ _ _ h => h) (Or.inl ⟨by rfl, ?_⟩) ?_ ?_
     rotate_left
     ·intro w'
      go_simp
      with_reducible rfl
     rotate_left
     ·simp only [Act.put, List.setIfInBounds_toArray, List.set_cons_zero, List.set_cons_succ, i64_w, i32_w]
      rfl
     refine pure_ (i := 10) (N := some 31) (v := ?_) (a' := ?_) #[true, true, true, true, true, true, true, true, true, true, true, false, false, false] rfl rfl (by kernel_rfl) (fun _ _ _ h => h) (Or.inl ⟨by rfl, ?_⟩) ?_ ?_
     rotate_left
     ·intro w'
      go_simp
      with_reducible rfl
     rotate_left
     ·simp only [Act.put, List.setIfInBounds_toArray, List.set_cons_zero, List.set_cons_succ, i64_w, i32_w]
      rfl
     refine one_ (i := 11) (N := some 11) #[true, true, true, true, true, true, true, true, true, true, true, true, false, false] rfl rfl (by kernel_rfl) (by decide) (fun K hK => ?_)
     refine box_step ?hg (N := 11) ?hd (cs := #[.slice none 0 0, .slice none 0 0]) (t := 31) ?hr ?_; (case hd => rfl); (case hg => rfl); (case hr => first | (go_simp; done) | (go_simp; rfl))
     intro gN hg wd hbox hb
     have HLT_ : Aside0 (bs < gN) := Aside0.mk (by rw [hg]; exact blk_lt HIc.out.hs)
     have BNd := Aside0.mk hbox
     have HId : Aside0 (RI w (.slice A0_0 l0_0.length c0_0) (.slice A0_1 l0_1.length c0_1) bs gN mem ths A0 c0 A1_ c1_ wd) := Aside0.mk (HIc.out.box hg hb)
     have HNd : Aside0 (NV w bs gN (rstF l0_1 mem ths k a2) (.slice B0 n0 d0) (.slice B1 n1 d1) wd) := Aside0.mk (HNc.out.box hg hb)
     have hh : wd.cell? ⟨w.heap.size, 0, none⟩ = some (.slice A0_0 l0_0.length c0_0) ∧ wd.cell? ⟨w.heap.size, 1, none⟩ = some (.slice A0_1 l0_1.length c0_1) ∧ wd.cell? ⟨bs, 0, none⟩ = some (.slice A0 mem.length c0) ∧ wd.cell? ⟨bs, 1, none⟩ = some (.slice A1_ ths.length c1_) ∧ wd.cell? (ad.add (i * 2)) = some (.int .i64 k.f0) ∧ wd.cell? ⟨(ad.add (i * 2)).block, (ad.add (i * 2)).off + 1, none⟩ = some (.bool k.f1) := by obtain ⟨s0, s1, s2, s3, s4, s5⟩ := hHeld; exact ⟨pw_cell_below hb s0, pw_cell_below hb s1, pw_cell_below hb s2, pw_cell_below hb s3, pw_cell_below hb s4, pw_cell_below hb s5⟩
     clear hbox
     clear hb hg
     refine hK.out _ _ hh (fun hHeld => ?_)
     clear hh
     clear hK K
     refine norm_ (a' := ?_) ?_ ?_
     rotate_left
     ·show Act.put _ (some 11) _ = _
      simp only [Act.put, List.setIfInBounds_toArray, List.set_cons_zero, List.set_cons_succ, i64_w, i32_w]
      rfl
     exact norm_ (by simp only [putAll, Act.put, List.setIfInBounds_toArray, List.set_cons_zero, List.set_cons_succ]) (hCont ((B0, n0, d0), (B1, n1, d1), gN) _ ⟨HId.out, BNd.out, HLT_.out, HNd.out⟩)
    ·skip
     refine box_step ?hg (N := 11) ?hd (cs := #[.slice none 0 0, .slice none 0 0]) (t := 31) ?hr ?_; (case hd => rfl); (case hg => rfl); (case hr => first | (go_simp; done) | (go_simp; rfl))
     intro gN hg wa hbox hb
     have HLT_ : Aside0 (bs < gN) := Aside0.mk (by rw [hg]; exact blk_lt HI0.out.hs)
     have BNa := Aside0.mk hbox
     have HIa : Aside0 (RI w (.slice A0_0 l0_0.length c0_0) (.slice A0_1 l0_1.length c0_1) bs gN mem ths A0 c0 A1_ c1_ wa) := Aside0.mk (HI0.out.box hg hb)
     have hh : wa.cell? ⟨w.heap.size, 0, none⟩ = some (.slice A0_0 l0_0.length c0_0) ∧ wa.cell? ⟨w.heap.size, 1, none⟩ = some (.slice A0_1 l0_1.length c0_1) ∧ wa.cell? ⟨bs, 0, none⟩ = some (.slice A0 mem.length c0) ∧ wa.cell? ⟨bs, 1, none⟩ = some (.slice A1_ ths.length c1_) ∧ wa.cell? (ad.add (i * 2)) = some (.int .i64 k.f0) ∧ wa.cell? ⟨(ad.add (i * 2)).block, (ad.add (i * 2)).off + 1, none⟩ = some (.bool k.f1) := by obtain ⟨s0, s1, s2, s3, s4, s5⟩ := hHeld; exact ⟨pw_cell_below hb s0, pw_cell_below hb s1, pw_cell_below hb s2, pw_cell_below hb s3, pw_cell_below hb s4, pw_cell_below hb s5⟩
     clear hbox
     clear hb hg
     refine hK.out _ _ hh (fun hHeld => ?_)
     clear hh
     clear hK K
     refine norm_ (a' := ?_) ?_ ?_
     rotate_left
     ·show Act.put _ (some 11) _ = _
      simp only [Act.put, List.setIfInBounds_toArray, List.set_cons_zero, List.set_cons_succ, i64_w, i32_w]
      rfl
     refine one_ (i := 7) (N := some 29) #[true, true, true, true, true, true, true, true, false, false, false, true, false, false] rfl rfl (by kernel_rfl) (by decide) (fun K hK => ?_)
     obtain ⟨hm0, hm1, hm2⟩ := Kd.V_reads' HIa.out.vm
     obtain ⟨ht0, ht1, ht2⟩ := Kd.V_reads' HIa.out.vt
     have HM2 := Aside0.mk hm2
     have HT2 := Aside0.mk ht2
     have HM1 := Aside0.mk hm1
     have HT1 := Aside0.mk ht1
     clear hm0 hm1 hm2 ht0 ht1 ht2
     refine goes_ Try.func14 (by kernel_rfl) rfl #[.agg #[.slice A0_0 l0_0.length c0_0, .slice A0_1 l0_1.length c0_1], .agg #[.slice A0 mem.length c0, .slice A1_ ths.length c1_], .agg #[.int .i64 k.f0, .bool k.f1], .bool a2] (by rfl) rfl rfl (by (try simp only [List.map_toArray, List.map_cons, List.map_nil]); first | done | rfl) ?_
     refine (rs_calls A0_0 c0_0 l0_0 A0_1 c0_1 l0_1 A0 c0 mem A1_ c1_ ths k a2 wa (Kd.C_below HR00.out HIa.out.bel) HC00.out (Kd.C_below HR01.out HIa.out.bel) HC01.out HM2.out HM1.out HT2.out HT1.out HOK.out).mono ?_
     rintro e wc ⟨B0, n0, d0, B1, n1, d1, rfl, hv, hbc⟩
     refine ⟨_, rfl, ?_⟩
     have HV := Aside0.mk hv
     have HBC := Aside0.mk hbc
     clear hv hbc HM1 HM2 HT1 HT2
     have hbsl : bs < wa.heap.size := blk_lt HIa.out.hs
     have hgnl : gN < wa.heap.size := blk_lt BNa.out
     have HIc : Aside0 (RI w (.slice A0_0 l0_0.length c0_0) (.slice A0_1 l0_1.length c0_1) bs gN mem ths A0 c0 A1_ c1_ wc) := Aside0.mk (HIa.out.below HBC.out)
     have HNc : Aside0 (NV w bs gN (rstF l0_1 mem ths k a2) (.slice B0 n0 d0) (.slice B1 n1 d1) wc) := Aside0.mk (NV.of HV.out HIa.out.lt hbsl hgnl)
     have BNc := Aside0.mk (blk_below BNa.out HBC.out)
     have hh : wc.cell? ⟨w.heap.size, 0, none⟩ = some (.slice A0_0 l0_0.length c0_0) ∧ wc.cell? ⟨w.heap.size, 1, none⟩ = some (.slice A0_1 l0_1.length c0_1) ∧ wc.cell? ⟨bs, 0, none⟩ = some (.slice A0 mem.length c0) ∧ wc.cell? ⟨bs, 1, none⟩ = some (.slice A1_ ths.length c1_) ∧ wc.cell? (ad.add (i * 2)) = some (.int .i64 k.f0) ∧ wc.cell? ⟨(ad.add (i * 2)).block, (ad.add (i * 2)).off + 1, none⟩ = some (.bool k.f1) := by obtain ⟨s0, s1, s2, s3, s4, s5⟩ := hHeld; exact ⟨pw_cell_below HBC.out s0, pw_cell_below HBC.out s1, pw_cell_below HBC.out s2, pw_cell_below HBC.out s3, pw_cell_below HBC.out s4, pw_cell_below HBC.out s5⟩
     clear HV hbsl BNa
     refine hK.out _ _ hh (fun hHeld => ?_)
     clear hh
     clear hK K
     refine norm_ (a' := ?_) ?_ ?_
     rotate_left
     ·show Act.put _ (some 29) _ = _
      simp only [Act.put, List.setIfInBounds_toArray, List.set_cons_zero, List.set_cons_succ, i64_w, i32_w]
      rfl
     refine pure_ (i := 8) (N := some 21) (v := ?_) (a' := ?_) #[true, true, true, true, true, true, true, true, true, false, false, true, false, false] rfl rfl (by kernel_rfl) (fun _ _ _ h => h) (Or.inl ⟨by rfl, ?_⟩) ?_ ?_
     rotate_left
     ·intro w'
      go_simp
      with_reducible rfl
     rotate_left
     ·simp only [Act.put, List.setIfInBounds_toArray, List.set_cons_zero, List.set_cons_succ, i64_w, i32_w]
      rfl
     refine pure_ (i := 9) (N := some 30) (v := ?_) (a' := ?_) #[true, true, true, true, true, true, true, true, true, true, false, true, false, false] rfl rfl (by kernel_rfl) (fun _ _ _ h => h) (Or.inl ⟨by rfl, ?_⟩) ?_ ?_
     rotate_left
     ·intro w'
      go_simp
      with_reducible rfl
     rotate_left
     ·simp only [Act.put, List.setIfInBounds_toArray, List.set_cons_zero, List.set_cons_succ, i64_w, i32_w]
      rfl
     refine pure_ (i := 10) (N := some 31) (v := ?_) (a' := ?_) #[true, true, true, true, true, true, true, true, true, true, true, true, false, false] rfl rfl (by kernel_rfl) (fun _ _ _ h => h) (Or.inl ⟨by rfl, ?_⟩) ?_ ?_
     rotate_left
     ·intro w'
      go_simp
      with_reducible rfl
     rotate_left
     ·simp only [Act.put, List.setIfInBounds_toArray, List.set_cons_zero, List.set_cons_succ, i64_w, i32_w]
      rfl
     exact norm_ (by simp only [putAll, Act.put, List.setIfInBounds_toArray, List.set_cons_zero, List.set_cons_succ]) (hCont ((B0, n0, d0), (B1, n1, d1), gN) _ ⟨HIc.out, BNc.out, HLT_.out, HNc.out⟩)
   rintro ⟨⟨B0, n0, d0⟩, ⟨B1, n1, d1⟩, gN⟩ W6 ⟨hi6, hb6, hl6, hn6⟩
   simp only at hi6 hb6 hl6 hn6
   clear HI0 hHeld
   have HI6 := Aside0.mk hi6
   have BN6 := Aside0.mk hb6
   have HL6 := Aside0.mk hl6
   have HN6 := Aside0.mk hn6
   clear hi6 hb6 hl6 hn6
   refine norm_ (a' := ?_) ?_ ?_
   rotate_left
   ·simp only [putAll, Act.put, List.setIfInBounds_toArray, List.set_cons_zero, List.set_cons_succ]
    rfl
   refine last_ (i := 12) (N := none) #[true, true, true, true, true, true, true, true, true, true, true, true, true, false] rfl rfl (by kernel_rfl) (by decide) (fun K hK => ?_)
   have hs0 : W6.cell? ⟨gN, 0, none⟩ = some (.slice none 0 0) := (blk_cell BN6.out 0).trans rfl
   have hs1 : W6.cell? ⟨gN, 1, none⟩ = some (.slice none 0 0) := (blk_cell BN6.out 1).trans rfl
   have hf0 := blk_frozen BN6.out 0
   have hf1 := blk_frozen BN6.out 1
   refine skip_ (w1 := ?_) (by rfl) rfl ?_ ?_
   rotate_left
   ·go_simp
    rfl
   refine hK.out _ _ ?_
   clear hK K
   refine pure_ (i := 13) (N := some 12) (v := ?_) (a' := ?_) #[true, true, true, true, true, true, true, true, true, true, true, true, true, true] rfl rfl (by kernel_rfl) (fun _ _ _ h => h) (Or.inl ⟨by rfl, ?_⟩) ?_ ?_
   rotate_left
   ·intro w'
    go_simp
    with_reducible rfl
   rotate_left
   ·simp only [Act.put, List.setIfInBounds_toArray, List.set_cons_zero, List.set_cons_succ, i64_w, i32_w]
    rfl
   refine done_ (by kernel_rfl) ?_
   clear hs0 hs1 hf0 hf1
   obtain ⟨W7, hW7⟩ : ∃ W7, W7 = (W6.setCell ⟨gN, 0, none⟩ (.slice B0 n0 d0)).setCell ⟨gN, 1, none⟩ (.slice B1 n1 d1) := ⟨_, rfl⟩
   have HI7 : Aside0 (RI w (.slice A0_0 l0_0.length c0_0) (.slice A0_1 l0_1.length c0_1) bs gN mem ths A0 c0 A1_ c1_ W7) := Aside0.mk (by rw [hW7]; exact (HI6.out.setBox HL6.out 0 _).setBox HL6.out 1 _)
   have HN7 : Aside0 (NV w bs gN (rstF l0_1 mem ths k a2) (.slice B0 n0 d0) (.slice B1 n1 d1) W7) := Aside0.mk (by rw [hW7]; exact (HN6.out.setBox 0 _).setBox 1 _)
   have BN7 : Aside0 (W7.heap[gN]? = some (.cells #[.slice B0 n0 d0, .slice B1 n1 d1] 31 (0, 0))) := Aside0.mk (by rw [hW7]; exact blk_set (blk_set BN6.out 0 _) 1 _)
   rw [← hW7]
   clear hW7 HI6 BN6 HN6
   have es0 : W7.cell? ⟨bs, 0, none⟩ = some (.slice A0 mem.length c0) := (blk_cell HI7.out.hs 0).trans rfl
   have es1 : W7.cell? ⟨bs, 1, none⟩ = some (.slice A1_ ths.length c1_) := (blk_cell HI7.out.hs 1).trans rfl
   cases hst : rstF l0_1 mem ths k a2 with
   | none =>
    have hrn := HRN2.out
    rw [hst] at hrn
    simp only [Option.some.injEq, Prod.mk.injEq] at hrn
    obtain ⟨rfl, rfl, rfl, rfl⟩ := hrn
    have rz0 : W7.cell? ⟨w.heap.size + 1, 0, none⟩ = some (.slice none 0 0) := (blk_cell HI7.out.hr 0).trans rfl
    have rz1 : W7.cell? ⟨w.heap.size + 1, 1, none⟩ = some (.slice none 0 0) := (blk_cell HI7.out.hr 1).trans rfl
    have rf0 := blk_frozen HI7.out.hr 0
    have rf1 := blk_frozen HI7.out.hr 1
    have HST := Aside0.mk hst
    clear hst HRN2
    simp only [Option.isSome_none]
    go_wp2_with fail
    have eb0 : ((W7.setCell ⟨w.heap.size + 1, 0, none⟩ (.slice A0 mem.length c0)).setCell ⟨w.heap.size + 1, 1, none⟩ (.slice A1_ ths.length c1_)).cell? ⟨w.heap.size + 1, 0, none⟩ = some (.slice A0 mem.length c0) := (blk_cell (blk_set (blk_set HI7.out.hr 0 _) 1 _) 0).trans rfl
    have eb1 : ((W7.setCell ⟨w.heap.size + 1, 0, none⟩ (.slice A0 mem.length c0)).setCell ⟨w.heap.size + 1, 1, none⟩ (.slice A1_ ths.length c1_)).cell? ⟨w.heap.size + 1, 1, none⟩ = some (.slice A1_ ths.length c1_) := (blk_cell (blk_set (blk_set HI7.out.hr 0 _) 1 _) 1).trans rfl
    exact bodyPost_ret (v := .tuple #[.agg #[.slice A0 mem.length c0, .slice A1_ ths.length c1_], .int .i64 (i : Int), .bool false]) (by simp [results, Try.results6, go_sem, eb0, eb1]) rfl ⟨_, _, rfl, HI7.out.done _ _⟩
   | some p =>
    obtain ⟨m', t'⟩ := p
    have hrn := HRN2.out
    rw [hst] at hrn
    have HST := Aside0.mk hst
    have HRN3 := Aside0.mk hrn
    clear hrn hst HRN2
    have en0 : W7.cell? ⟨gN, 0, none⟩ = some (.slice B0 n0 d0) := (blk_cell BN7.out 0).trans rfl
    have en1 : W7.cell? ⟨gN, 1, none⟩ = some (.slice B1 n1 d1) := (blk_cell BN7.out 1).trans rfl
    have ef0 := blk_frozen HI7.out.hs 0
    have ef1 := blk_frozen HI7.out.hs 1
    simp only [Option.isSome_some]
    go_wp2_with fail
    obtain ⟨hn0, hn1, hnext⟩ := HI7.out.next HN7.out HST.out
    go_roundw
    case rel => exact ⟨i + 1, by have := HLT.out; omega, by simp, m', t', B0, d0, B1, d1, HRN3.out, hnext⟩
    case measure => have := HLT.out; simp [intOf]; omega
  ·obtain rfl : i = l1.length := by omega
   have hrn := HRN.out
   rw [List.drop_length, runL] at hrn
   simp only [Option.some.injEq, Prod.mk.injEq] at hrn
   obtain ⟨rfl, rfl, rfl, rfl⟩ := hrn
   have p1 : ((l1.length : Int) < (l1.length : Int)) = False := eq_false (by omega)
   have es0 : wr.cell? ⟨bs, 0, none⟩ = some (.slice A0 mem.length c0) := (blk_cell HI.out.hs 0).trans rfl
   have es1 : wr.cell? ⟨bs, 1, none⟩ = some (.slice A1_ ths.length c1_) := (blk_cell HI.out.hs 1).trans rfl
   have rz0 : wr.cell? ⟨w.heap.size + 1, 0, none⟩ = some (.slice none 0 0) := (blk_cell HI.out.hr 0).trans rfl
   have rz1 : wr.cell? ⟨w.heap.size + 1, 1, none⟩ = some (.slice none 0 0) := (blk_cell HI.out.hr 1).trans rfl
   have rf0 := blk_frozen HI.out.hr 0
   have rf1 := blk_frozen HI.out.hr 1
   clear HRN hlt
   go_wp2_with fail
   have eb0 : ((wr.setCell ⟨w.heap.size + 1, 0, none⟩ (.slice A0 mem.length c0)).setCell ⟨w.heap.size + 1, 1, none⟩ (.slice A1_ ths.length c1_)).cell? ⟨w.heap.size + 1, 0, none⟩ = some (.slice A0 mem.length c0) := (blk_cell (blk_set (blk_set HI.out.hr 0 _) 1 _) 0).trans rfl
   have eb1 : ((wr.setCell ⟨w.heap.size + 1, 0, none⟩ (.slice A0 mem.length c0)).setCell ⟨w.heap.size + 1, 1, none⟩ (.slice A1_ ths.length c1_)).cell? ⟨w.heap.size + 1, 1, none⟩ = some (.slice A1_ ths.length c1_) := (blk_cell (blk_set (blk_set HI.out.hr 0 _) 1 _) 1).trans rfl
   exact bodyPost_ret (v := .tuple #[.agg #[.slice A0 mem.length c0, .slice A1_ ths.length c1_], .int .i64 (l1.length : Int), .bool true]) (by simp [results, Try.results6, go_sem, eb0, eb1]) rfl ⟨_, _, rfl, HI.out.done _ _⟩
theorem fencepostref13_Run.calls (A0_0 : Option Addr) (c0_0 : Nat) (l0_0 : List Int) (A0_1 : Option Addr) (c0_1 : Nat) (l0_1 : List (List S42)) (A1 : Option Addr) (c1 : Nat) (l1 : List S51) (a2 : Bool) (r1 : List Int) (r2 : List S39) (r3 : Int) (r4 : Bool) (w : World)
 (hr0_0 : Kd.C (Kd.int .i64) w A0_0 l0_0.length l0_0) (hc0_0 : l0_0.length ≤ c0_0) (hr0_1 : Kd.C (Kd.slice 42 k42) w A0_1 l0_1.length l0_1) (hc0_1 : l0_1.length ≤ c0_1) (hr1 : Kd.C k51 w A1 l1.length l1) (hc1 : l1.length ≤ c1)
 (h : fencepostref13_Run.f l0_0 l0_1 l1 a2 = some (r1, r2, r3, r4)) :
 Calls Try.prog 6 #[.agg #[.slice A0_0 l0_0.length c0_0, .slice A0_1 l0_1.length c0_1], .slice A1 l1.length c1, .bool a2] w fun e w' => ∃ v0_ v1_ : Value, e = .returned (.tuple #[.agg #[v0_, v1_], .int .i64 r3, .bool r4]) ∧ Kd.V (Kd.int .i64) 3 w' w.heap.size (fun k_ => (w.heap.size ≤ k_)) v0_ r1 ∧ Kd.V k39 39 w' w.heap.size (fun k_ => (w.heap.size ≤ k_)) v1_ r2 ∧ Below w.heap.size w w' := by
 unfold fencepostref13_Run.f at h
 by_cases c : l0_0.length ≤ 1000000 ∧ l0_1.length ≤ 1000 ∧ l1.length ≤ 1000000
 ·rw [if_pos c] at h
  obtain ⟨kk, hkk⟩ := begin_some (A := l0_0) (B := l0_1) c.1 c.2.1
  exact run_calls A0_0 c0_0 l0_0 A0_1 c0_1 l0_1 A1 c1 l1 a2 r1 r2 r3 r4 kk w hr0_0 hc0_0 hr0_1 hc0_1 hr1 hc1 c.2.2 hkk h
 ·rw [if_neg c] at h; cases h
end Go.Proofs.Yteobpfgncohloaa.Print
