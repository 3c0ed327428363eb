/- ref13.Step: its contract, by walking its text. -/
import Derived.Test.YteobpfgncohloaaHRunF
import Derived.StillTailTactics
import Derived.RegionTactic
import Derived.BigRegion
namespace Go.Proofs.Yteobpfgncohloaa.Print
open Go.RowKit Go.Proofs.YteobpfgncohloaaW.PrintWords Go.Proofs.YteobpfgncohloaaW.PrintLast Go.Proofs.YteobpfgncohloaaW.PrintMore
set_option linter.unusedVariables false
set_option linter.unusedSimpArgs false
set_option maxRecDepth 100000 in
set_option maxHeartbeats 20000000 in
theorem rs_weak (A0_0 : Option Addr) (c0_0 : Nat) (l0_0 : List Int) (A0_1 : Option Addr) (c0_1 : Nat) (l0_1 : List (List S42)) (A1_0 : Option Addr) (c1_0 : Nat) (l1_0 : List Int) (A1_1 : Option Addr) (c1_1 : Nat) (l1_1 : List S39) (a2 : Int) (d : Bool) (w : World)
 (hr0_0 : Kd.C (Kd.int .i64) w A0_0 l0_0.length l0_0) (hc0_0 : l0_0.length ≤ c0_0) (hr0_1 : Kd.C (Kd.slice 42 k42) w A0_1 l0_1.length l0_1) (hc0_1 : l0_1.length ≤ c0_1) (hr1_0 : Kd.C (Kd.int .i64) w A1_0 l1_0.length l1_0) (hc1_0 : l1_0.length ≤ c1_0) (hr1_1 : Kd.C k39 w A1_1 l1_1.length l1_1) (hc1_1 : l1_1.length ≤ c1_1)
 (hok : okB l0_1 l1_0 l1_1 = true) :
 Calls Try.prog 14 #[.agg #[.slice A0_0 l0_0.length c0_0, .slice A0_1 l0_1.length c0_1], .agg #[.slice A1_0 l1_0.length c1_0, .slice A1_1 l1_1.length c1_1], .agg #[.int .i64 (a2), .bool d], .bool true] w fun e w' => TP (tsoF l0_1 l1_0 l1_1 a2 d) e w w' := by
 have hu1 := Try.underlying31
 have hu2 := Try.underlying25
 have hu3 := Try.underlying39
 have hu4 := Try.underlying42
 have hu5 := Try.underlying51
 have HR00 := Aside0.mk hr0_0
 have HR01 := Aside0.mk hr0_1
 have HR10 := Aside0.mk hr1_0
 have HR11 := Aside0.mk hr1_1
 have HC00 := Aside0.mk hc0_0
 have HC01 := Aside0.mk hc0_1
 have HC10 := Aside0.mk hc1_0
 have HC11 := Aside0.mk hc1_1
 have HOK := Aside0.mk hok
 clear hr0_0 hr0_1 hr1_0 hr1_1 hc0_0 hc0_1 hc1_0 hc1_1 hok
 obtain ⟨W1, hW1⟩ : ∃ W1, W1 = (((w.alloc (.cells #[.slice A0_0 l0_0.length c0_0, .slice A0_1 l0_1.length c0_1] 25)).alloc (.cells #[.slice A1_0 l1_0.length c1_0, .slice A1_1 l1_1.length c1_1] 31)).alloc (.cells #[.int .i64 (a2), .bool d] 51)).alloc (.cells #[.slice none 0 0, .slice none 0 0] 31) := ⟨_, rfl⟩
 have bP : W1.heap[w.heap.size]? = some (.cells #[.slice A0_0 l0_0.length c0_0, .slice A0_1 l0_1.length c0_1] 25 (0, 0)) := by
  have := blk_alloc (blk_alloc (blk_alloc (blk_new w (.cells #[.slice A0_0 l0_0.length c0_0, .slice A0_1 l0_1.length c0_1] 25)) (.cells #[.slice A1_0 l1_0.length c1_0, .slice A1_1 l1_1.length c1_1] 31)) (.cells #[.int .i64 (a2), .bool d] 51)) (.cells #[.slice none 0 0, .slice none 0 0] 31)
  rw [hW1]; exact this
 have bS : W1.heap[w.heap.size + 1]? = some (.cells #[.slice A1_0 l1_0.length c1_0, .slice A1_1 l1_1.length c1_1] 31 (0, 0)) := by
  have := blk_alloc (blk_alloc (blk_new (w.alloc (.cells #[.slice A0_0 l0_0.length c0_0, .slice A0_1 l0_1.length c0_1] 25)) (.cells #[.slice A1_0 l1_0.length c1_0, .slice A1_1 l1_1.length c1_1] 31)) (.cells #[.int .i64 (a2), .bool d] 51)) (.cells #[.slice none 0 0, .slice none 0 0] 31)
  rw [World.size_alloc] at this
  rw [hW1]; exact this
 have bK : W1.heap[w.heap.size + 1 + 1]? = some (.cells #[.int .i64 (a2), .bool d] 51 (0, 0)) := by
  have := blk_alloc (blk_new ((w.alloc (.cells #[.slice A0_0 l0_0.length c0_0, .slice A0_1 l0_1.length c0_1] 25)).alloc (.cells #[.slice A1_0 l1_0.length c1_0, .slice A1_1 l1_1.length c1_1] 31)) (.cells #[.int .i64 (a2), .bool d] 51)) (.cells #[.slice none 0 0, .slice none 0 0] 31)
  rw [World.size_alloc, World.size_alloc] at this
  rw [hW1]; exact this
 have bR : W1.heap[w.heap.size + 1 + 1 + 1]? = some (.cells #[.slice none 0 0, .slice none 0 0] 31 (0, 0)) := by
  have := blk_new (((w.alloc (.cells #[.slice A0_0 l0_0.length c0_0, .slice A0_1 l0_1.length c0_1] 25)).alloc (.cells #[.slice A1_0 l1_0.length c1_0, .slice A1_1 l1_1.length c1_1] 31)).alloc (.cells #[.int .i64 (a2), .bool d] 51)) (.cells #[.slice none 0 0, .slice none 0 0] 31)
  rw [World.size_alloc, World.size_alloc, World.size_alloc] at this
  rw [hW1]; exact this
 have hB1 : Below w.heap.size w W1 := by rw [hW1]; exact below_alloc (below_alloc (below_alloc (below_alloc (Below.refl _ _) _) _) _) _
 have es0 : W1.cell? ⟨w.heap.size + 1, 0, none⟩ = some (.slice A1_0 l1_0.length c1_0) := (blk_cell bS 0).trans rfl
 have es1 : W1.cell? ⟨w.heap.size + 1, 1, none⟩ = some (.slice A1_1 l1_1.length c1_1) := (blk_cell bS 1).trans rfl
 have HW1 := Aside0.mk hW1
 have BP := Aside0.mk bP
 have BS := Aside0.mk bS
 have BK := Aside0.mk bK
 have BR := Aside0.mk bR
 have HBW := Aside0.mk hB1
 clear hW1 bP bS bK bR hB1
 go_enter Try.func14, Try.ntmps14
 (try simp only [List.append_eq, List.cons_append, List.nil_append])
 go_upto_region 1 with fail
 rw [← HW1.out]
 clear es0 es1 HW1
 have ep0 : W1.cell? ⟨w.heap.size, 0, none⟩ = some (.slice A0_0 l0_0.length c0_0) := (blk_cell BP.out 0).trans rfl
 have ep1 : W1.cell? ⟨w.heap.size, 1, none⟩ = some (.slice A0_1 l0_1.length c0_1) := (blk_cell BP.out 1).trans rfl
 have eq0 : W1.cell? ⟨w.heap.size + 1, 0, none⟩ = some (.slice A1_0 l1_0.length c1_0) := (blk_cell BS.out 0).trans rfl
 have eq1 : W1.cell? ⟨w.heap.size + 1, 1, none⟩ = some (.slice A1_1 l1_1.length c1_1) := (blk_cell BS.out 1).trans rfl
 have ek0 : W1.cell? ⟨w.heap.size + 1 + 1, 0, none⟩ = some (.int .i64 (a2)) := (blk_cell BK.out 0).trans rfl
 have ek1 : W1.cell? ⟨w.heap.size + 1 + 1, 1, none⟩ = some (.bool d) := (blk_cell BK.out 1).trans rfl
 go_upto_region 3 with (go_at_call 21; refine (tso_calls A0_0 c0_0 l0_0 A0_1 c0_1 l0_1 A1_0 c1_0 l1_0 A1_1 c1_1 l1_1 a2 d W1 (Kd.C_below HR00.out HBW.out) HC00.out (Kd.C_below HR01.out HBW.out) HC01.out (Kd.C_below HR10.out HBW.out) HC10.out (Kd.C_below HR11.out HBW.out) HC11.out HOK.out).mono ?_; rintro e w2 ⟨E0, n0, d0, E1, n1, d1, rfl, hv, hb2⟩; have HV := Aside0.mk hv; have HB2' := Aside0.mk hb2; clear hv hb2)
 obtain ⟨W3, hW3⟩ : ∃ W3, W3 = w2.alloc (.cells #[.slice E0 n0 d0, .slice E1 n1 d1] 31) := ⟨_, rfl⟩
 have hb23 : Below w2.heap.size w2 W3 := by rw [hW3]; exact below_alloc (Below.refl _ _) _
 have bO : W3.heap[w2.heap.size]? = some (.cells #[.slice E0 n0 d0, .slice E1 n1 d1] 31 (0, 0)) := by rw [hW3]; exact blk_new w2 _
 have BR3 := Aside0.mk (blk_below (blk_below BR.out HB2'.out) hb23)
 have HB3 := Aside0.mk (below_step (below_step HBW.out HB2'.out) hb23)
 have BO3 := Aside0.mk bO
 have hlt : w.heap.size + 1 + 1 + 1 < W1.heap.size := blk_lt BR.out
 have HV3 : Aside0 (∀ m' t', tsoF l0_1 l1_0 l1_1 a2 d = some (m', t') → Kd.V (Kd.int .i64) 3 W3 W1.heap.size (fun k_ => (W1.heap.size ≤ k_)) (.slice E0 n0 d0) m' ∧ Kd.V k39 39 W3 W1.heap.size (fun k_ => (W1.heap.size ≤ k_)) (.slice E1 n1 d1) t') := Aside0.mk (fun m' t' hh => ⟨Kd.V_below (HV.out m' t' hh).1 hb23, Kd.V_below (HV.out m' t' hh).2 hb23⟩)
 rw [← hW3]
 clear BP BS BK BR HBW HV HB2' hb23 hW3 bO ep0 ep1 eq0 eq1 ek0 ek1
 generalize w2.heap.size = bo at BO3 ⊢
 have o0 : W3.cell? ⟨bo, 0, none⟩ = some (.slice E0 n0 d0) := (blk_cell BO3.out 0).trans rfl
 have o1 : W3.cell? ⟨bo, 1, none⟩ = some (.slice E1 n1 d1) := (blk_cell BO3.out 1).trans rfl
 have rz0 : W3.cell? ⟨w.heap.size + 1 + 1 + 1, 0, none⟩ = some (.slice none 0 0) := (blk_cell BR3.out 0).trans rfl
 have rz1 : W3.cell? ⟨w.heap.size + 1 + 1 + 1, 1, none⟩ = some (.slice none 0 0) := (blk_cell BR3.out 1).trans rfl
 have rf0 := blk_frozen BR3.out 0
 have rf1 := blk_frozen BR3.out 1
 go_wp2_with fail
 have eb0 : ((W3.setCell ⟨w.heap.size + 1 + 1 + 1, 0, none⟩ (.slice E0 n0 d0)).setCell ⟨w.heap.size + 1 + 1 + 1, 1, none⟩ (.slice E1 n1 d1)).cell? ⟨w.heap.size + 1 + 1 + 1, 0, none⟩ = some (.slice E0 n0 d0) := (blk_cell (blk_set (blk_set BR3.out 0 _) 1 _) 0).trans rfl
 have eb1 : ((W3.setCell ⟨w.heap.size + 1 + 1 + 1, 0, none⟩ (.slice E0 n0 d0)).setCell ⟨w.heap.size + 1 + 1 + 1, 1, none⟩ (.slice E1 n1 d1)).cell? ⟨w.heap.size + 1 + 1 + 1, 1, none⟩ = some (.slice E1 n1 d1) := (blk_cell (blk_set (blk_set BR3.out 0 _) 1 _) 1).trans rfl
 have hbe := below_set (below_set HB3.out (show w.heap.size ≤ w.heap.size + 1 + 1 + 1 by omega) (j := 0) (v := (.slice E0 n0 d0))) (show w.heap.size ≤ w.heap.size + 1 + 1 + 1 by omega) (j := 1) (v := (.slice E1 n1 d1))
 exact bodyPost_ret (v := .tuple #[.agg #[.slice E0 n0 d0, .slice E1 n1 d1], .bool (tsoF l0_1 l1_0 l1_1 a2 d).isSome]) (by simp [results, Try.results14, go_sem, eb0, eb1]) rfl (TP.mk rfl rfl (fun m' t' hh => ⟨Kd.V_lower (Kd.V_mono (Kd.V_far (p := ⟨w.heap.size + 1 + 1 + 1, 1, none⟩) (Kd.V_far (p := ⟨w.heap.size + 1 + 1 + 1, 0, none⟩) (HV3.out m' t' hh).1 (fun k hk => by show k ≠ w.heap.size + 1 + 1 + 1; omega) _) (fun k hk => by show k ≠ w.heap.size + 1 + 1 + 1; omega) _) (fun k hk => by omega)) (by omega), Kd.V_lower (Kd.V_mono (Kd.V_far (p := ⟨w.heap.size + 1 + 1 + 1, 1, none⟩) (Kd.V_far (p := ⟨w.heap.size + 1 + 1 + 1, 0, none⟩) (HV3.out m' t' hh).2 (fun k hk => by show k ≠ w.heap.size + 1 + 1 + 1; omega) _) (fun k hk => by show k ≠ w.heap.size + 1 + 1 + 1; omega) _) (fun k hk => by omega)) (by omega)⟩) hbe)
set_option maxRecDepth 100000 in
set_option maxHeartbeats 20000000 in
theorem rs_str (A0_0 : Option Addr) (c0_0 : Nat) (l0_0 : List Int) (A0_1 : Option Addr) (c0_1 : Nat) (l0_1 : List (List S42)) (A1_0 : Option Addr) (c1_0 : Nat) (l1_0 : List Int) (A1_1 : Option Addr) (c1_1 : Nat) (l1_1 : List S39) (a2 : Int) (d : Bool) (w : World)
 (hr0_0 : Kd.C (Kd.int .i64) w A0_0 l0_0.length l0_0) (hc0_0 : l0_0.length ≤ c0_0) (hr0_1 : Kd.C (Kd.slice 42 k42) w A0_1 l0_1.length l0_1) (hc0_1 : l0_1.length ≤ c0_1) (hr1_0 : Kd.C (Kd.int .i64) w A1_0 l1_0.length l1_0) (hc1_0 : l1_0.length ≤ c1_0) (hr1_1 : Kd.C k39 w A1_1 l1_1.length l1_1) (hc1_1 : l1_1.length ≤ c1_1)
 (hok : okB l0_1 l1_0 l1_1 = true) :
 Calls Try.prog 14 #[.agg #[.slice A0_0 l0_0.length c0_0, .slice A0_1 l0_1.length c0_1], .agg #[.slice A1_0 l1_0.length c1_0, .slice A1_1 l1_1.length c1_1], .agg #[.int .i64 (a2), .bool false], .bool false] w fun e w' => TP (strF l0_1 l1_0 l1_1 a2) e w w' := by
 have hu1 := Try.underlying31
 have hu2 := Try.underlying25
 have hu3 := Try.underlying39
 have hu4 := Try.underlying42
 have hu5 := Try.underlying51
 have HR00 := Aside0.mk hr0_0
 have HR01 := Aside0.mk hr0_1
 have HR10 := Aside0.mk hr1_0
 have HR11 := Aside0.mk hr1_1
 have HC00 := Aside0.mk hc0_0
 have HC01 := Aside0.mk hc0_1
 have HC10 := Aside0.mk hc1_0
 have HC11 := Aside0.mk hc1_1
 have HOK := Aside0.mk hok
 clear hr0_0 hr0_1 hr1_0 hr1_1 hc0_0 hc0_1 hc1_0 hc1_1 hok
 obtain ⟨W1, hW1⟩ : ∃ W1, W1 = (((w.alloc (.cells #[.slice A0_0 l0_0.length c0_0, .slice A0_1 l0_1.length c0_1] 25)).alloc (.cells #[.slice A1_0 l1_0.length c1_0, .slice A1_1 l1_1.length c1_1] 31)).alloc (.cells #[.int .i64 (a2), .bool false] 51)).alloc (.cells #[.slice none 0 0, .slice none 0 0] 31) := ⟨_, rfl⟩
 have bP : W1.heap[w.heap.size]? = some (.cells #[.slice A0_0 l0_0.length c0_0, .slice A0_1 l0_1.length c0_1] 25 (0, 0)) := by
  have := blk_alloc (blk_alloc (blk_alloc (blk_new w (.cells #[.slice A0_0 l0_0.length c0_0, .slice A0_1 l0_1.length c0_1] 25)) (.cells #[.slice A1_0 l1_0.length c1_0, .slice A1_1 l1_1.length c1_1] 31)) (.cells #[.int .i64 (a2), .bool false] 51)) (.cells #[.slice none 0 0, .slice none 0 0] 31)
  rw [hW1]; exact this
 have bS : W1.heap[w.heap.size + 1]? = some (.cells #[.slice A1_0 l1_0.length c1_0, .slice A1_1 l1_1.length c1_1] 31 (0, 0)) := by
  have := blk_alloc (blk_alloc (blk_new (w.alloc (.cells #[.slice A0_0 l0_0.length c0_0, .slice A0_1 l0_1.length c0_1] 25)) (.cells #[.slice A1_0 l1_0.length c1_0, .slice A1_1 l1_1.length c1_1] 31)) (.cells #[.int .i64 (a2), .bool false] 51)) (.cells #[.slice none 0 0, .slice none 0 0] 31)
  rw [World.size_alloc] at this
  rw [hW1]; exact this
 have bK : W1.heap[w.heap.size + 1 + 1]? = some (.cells #[.int .i64 (a2), .bool false] 51 (0, 0)) := by
  have := blk_alloc (blk_new ((w.alloc (.cells #[.slice A0_0 l0_0.length c0_0, .slice A0_1 l0_1.length c0_1] 25)).alloc (.cells #[.slice A1_0 l1_0.length c1_0, .slice A1_1 l1_1.length c1_1] 31)) (.cells #[.int .i64 (a2), .bool false] 51)) (.cells #[.slice none 0 0, .slice none 0 0] 31)
  rw [World.size_alloc, World.size_alloc] at this
  rw [hW1]; exact this
 have bR : W1.heap[w.heap.size + 1 + 1 + 1]? = some (.cells #[.slice none 0 0, .slice none 0 0] 31 (0, 0)) := by
  have := blk_new (((w.alloc (.cells #[.slice A0_0 l0_0.length c0_0, .slice A0_1 l0_1.length c0_1] 25)).alloc (.cells #[.slice A1_0 l1_0.length c1_0, .slice A1_1 l1_1.length c1_1] 31)).alloc (.cells #[.int .i64 (a2), .bool false] 51)) (.cells #[.slice none 0 0, .slice none 0 0] 31)
  rw [World.size_alloc, World.size_alloc, World.size_alloc] at this
  rw [hW1]; exact this
 have hB1 : Below w.heap.size w W1 := by rw [hW1]; exact below_alloc (below_alloc (below_alloc (below_alloc (Below.refl _ _) _) _) _) _
 have es0 : W1.cell? ⟨w.heap.size + 1, 0, none⟩ = some (.slice A1_0 l1_0.length c1_0) := (blk_cell bS 0).trans rfl
 have es1 : W1.cell? ⟨w.heap.size + 1, 1, none⟩ = some (.slice A1_1 l1_1.length c1_1) := (blk_cell bS 1).trans rfl
 have HW1 := Aside0.mk hW1
 have BP := Aside0.mk bP
 have BS := Aside0.mk bS
 have BK := Aside0.mk bK
 have BR := Aside0.mk bR
 have HBW := Aside0.mk hB1
 clear hW1 bP bS bK bR hB1
 go_enter Try.func14, Try.ntmps14
 (try simp only [List.append_eq, List.cons_append, List.nil_append])
 go_upto_region 1 with fail
 rw [← HW1.out]
 clear es0 es1 HW1
 have ep0 : W1.cell? ⟨w.heap.size, 0, none⟩ = some (.slice A0_0 l0_0.length c0_0) := (blk_cell BP.out 0).trans rfl
 have ep1 : W1.cell? ⟨w.heap.size, 1, none⟩ = some (.slice A0_1 l0_1.length c0_1) := (blk_cell BP.out 1).trans rfl
 have eq0 : W1.cell? ⟨w.heap.size + 1, 0, none⟩ = some (.slice A1_0 l1_0.length c1_0) := (blk_cell BS.out 0).trans rfl
 have eq1 : W1.cell? ⟨w.heap.size + 1, 1, none⟩ = some (.slice A1_1 l1_1.length c1_1) := (blk_cell BS.out 1).trans rfl
 have ek0 : W1.cell? ⟨w.heap.size + 1 + 1, 0, none⟩ = some (.int .i64 (a2)) := (blk_cell BK.out 0).trans rfl
 have ek1 : W1.cell? ⟨w.heap.size + 1 + 1, 1, none⟩ = some (.bool false) := (blk_cell BK.out 1).trans rfl
 go_upto_region 7 with (go_at_call 22; refine (str_calls A0_0 c0_0 l0_0 A0_1 c0_1 l0_1 A1_0 c1_0 l1_0 A1_1 c1_1 l1_1 a2 W1 (Kd.C_below HR00.out HBW.out) HC00.out (Kd.C_below HR01.out HBW.out) HC01.out (Kd.C_below HR10.out HBW.out) HC10.out (Kd.C_below HR11.out HBW.out) HC11.out HOK.out).mono ?_; rintro e w2 ⟨E0, n0, d0, E1, n1, d1, rfl, hv, hb2⟩; have HV := Aside0.mk hv; have HB2' := Aside0.mk hb2; clear hv hb2)
 obtain ⟨W3, hW3⟩ : ∃ W3, W3 = w2.alloc (.cells #[.slice E0 n0 d0, .slice E1 n1 d1] 31) := ⟨_, rfl⟩
 have hb23 : Below w2.heap.size w2 W3 := by rw [hW3]; exact below_alloc (Below.refl _ _) _
 have bO : W3.heap[w2.heap.size]? = some (.cells #[.slice E0 n0 d0, .slice E1 n1 d1] 31 (0, 0)) := by rw [hW3]; exact blk_new w2 _
 have BR3 := Aside0.mk (blk_below (blk_below BR.out HB2'.out) hb23)
 have HB3 := Aside0.mk (below_step (below_step HBW.out HB2'.out) hb23)
 have BO3 := Aside0.mk bO
 have hlt : w.heap.size + 1 + 1 + 1 < W1.heap.size := blk_lt BR.out
 have HV3 : Aside0 (∀ m' t', strF l0_1 l1_0 l1_1 a2 = some (m', t') → Kd.V (Kd.int .i64) 3 W3 W1.heap.size (fun k_ => (W1.heap.size ≤ k_)) (.slice E0 n0 d0) m' ∧ Kd.V k39 39 W3 W1.heap.size (fun k_ => (W1.heap.size ≤ k_)) (.slice E1 n1 d1) t') := Aside0.mk (fun m' t' hh => ⟨Kd.V_below (HV.out m' t' hh).1 hb23, Kd.V_below (HV.out m' t' hh).2 hb23⟩)
 rw [← hW3]
 clear BP BS BK BR HBW HV HB2' hb23 hW3 bO ep0 ep1 eq0 eq1 ek0 ek1
 generalize w2.heap.size = bo at BO3 ⊢
 have o0 : W3.cell? ⟨bo, 0, none⟩ = some (.slice E0 n0 d0) := (blk_cell BO3.out 0).trans rfl
 have o1 : W3.cell? ⟨bo, 1, none⟩ = some (.slice E1 n1 d1) := (blk_cell BO3.out 1).trans rfl
 have rz0 : W3.cell? ⟨w.heap.size + 1 + 1 + 1, 0, none⟩ = some (.slice none 0 0) := (blk_cell BR3.out 0).trans rfl
 have rz1 : W3.cell? ⟨w.heap.size + 1 + 1 + 1, 1, none⟩ = some (.slice none 0 0) := (blk_cell BR3.out 1).trans rfl
 have rf0 := blk_frozen BR3.out 0
 have rf1 := blk_frozen BR3.out 1
 go_wp2_with fail
 have eb0 : ((W3.setCell ⟨w.heap.size + 1 + 1 + 1, 0, none⟩ (.slice E0 n0 d0)).setCell ⟨w.heap.size + 1 + 1 + 1, 1, none⟩ (.slice E1 n1 d1)).cell? ⟨w.heap.size + 1 + 1 + 1, 0, none⟩ = some (.slice E0 n0 d0) := (blk_cell (blk_set (blk_set BR3.out 0 _) 1 _) 0).trans rfl
 have eb1 : ((W3.setCell ⟨w.heap.size + 1 + 1 + 1, 0, none⟩ (.slice E0 n0 d0)).setCell ⟨w.heap.size + 1 + 1 + 1, 1, none⟩ (.slice E1 n1 d1)).cell? ⟨w.heap.size + 1 + 1 + 1, 1, none⟩ = some (.slice E1 n1 d1) := (blk_cell (blk_set (blk_set BR3.out 0 _) 1 _) 1).trans rfl
 have hbe := below_set (below_set HB3.out (show w.heap.size ≤ w.heap.size + 1 + 1 + 1 by omega) (j := 0) (v := (.slice E0 n0 d0))) (show w.heap.size ≤ w.heap.size + 1 + 1 + 1 by omega) (j := 1) (v := (.slice E1 n1 d1))
 exact bodyPost_ret (v := .tuple #[.agg #[.slice E0 n0 d0, .slice E1 n1 d1], .bool (strF l0_1 l1_0 l1_1 a2).isSome]) (by simp [results, Try.results14, go_sem, eb0, eb1]) rfl (TP.mk rfl rfl (fun m' t' hh => ⟨Kd.V_lower (Kd.V_mono (Kd.V_far (p := ⟨w.heap.size + 1 + 1 + 1, 1, none⟩) (Kd.V_far (p := ⟨w.heap.size + 1 + 1 + 1, 0, none⟩) (HV3.out m' t' hh).1 (fun k hk => by show k ≠ w.heap.size + 1 + 1 + 1; omega) _) (fun k hk => by show k ≠ w.heap.size + 1 + 1 + 1; omega) _) (fun k hk => by omega)) (by omega), Kd.V_lower (Kd.V_mono (Kd.V_far (p := ⟨w.heap.size + 1 + 1 + 1, 1, none⟩) (Kd.V_far (p := ⟨w.heap.size + 1 + 1 + 1, 0, none⟩) (HV3.out m' t' hh).2 (fun k hk => by show k ≠ w.heap.size + 1 + 1 + 1; omega) _) (fun k hk => by show k ≠ w.heap.size + 1 + 1 + 1; omega) _) (fun k hk => by omega)) (by omega)⟩) hbe)
set_option maxRecDepth 100000 in
set_option maxHeartbeats 20000000 in
theorem rs_none (A0_0 : Option Addr) (c0_0 : Nat) (l0_0 : List Int) (A0_1 : Option Addr) (c0_1 : Nat) (l0_1 : List (List S42)) (A1_0 : Option Addr) (c1_0 : Nat) (l1_0 : List Int) (A1_1 : Option Addr) (c1_1 : Nat) (l1_1 : List S39) (a2 : Int) (d : Bool) (w : World)
 (hr0_0 : Kd.C (Kd.int .i64) w A0_0 l0_0.length l0_0) (hc0_0 : l0_0.length ≤ c0_0) (hr0_1 : Kd.C (Kd.slice 42 k42) w A0_1 l0_1.length l0_1) (hc0_1 : l0_1.length ≤ c0_1) (hr1_0 : Kd.C (Kd.int .i64) w A1_0 l1_0.length l1_0) (hc1_0 : l1_0.length ≤ c1_0) (hr1_1 : Kd.C k39 w A1_1 l1_1.length l1_1) (hc1_1 : l1_1.length ≤ c1_1)
 (hok : okB l0_1 l1_0 l1_1 = true) :
 Calls Try.prog 14 #[.agg #[.slice A0_0 l0_0.length c0_0, .slice A0_1 l0_1.length c0_1], .agg #[.slice A1_0 l1_0.length c1_0, .slice A1_1 l1_1.length c1_1], .agg #[.int .i64 (a2), .bool true], .bool false] w fun e w' => TP none e w w' := by
 have hu1 := Try.underlying31
 have hu2 := Try.underlying25
 have hu3 := Try.underlying39
 have hu4 := Try.underlying42
 have hu5 := Try.underlying51
 have HR00 := Aside0.mk hr0_0
 have HR01 := Aside0.mk hr0_1
 have HR10 := Aside0.mk hr1_0
 have HR11 := Aside0.mk hr1_1
 have HC00 := Aside0.mk hc0_0
 have HC01 := Aside0.mk hc0_1
 have HC10 := Aside0.mk hc1_0
 have HC11 := Aside0.mk hc1_1
 have HOK := Aside0.mk hok
 clear hr0_0 hr0_1 hr1_0 hr1_1 hc0_0 hc0_1 hc1_0 hc1_1 hok
 obtain ⟨W1, hW1⟩ : ∃ W1, W1 = (((w.alloc (.cells #[.slice A0_0 l0_0.length c0_0, .slice A0_1 l0_1.length c0_1] 25)).alloc (.cells #[.slice A1_0 l1_0.length c1_0, .slice A1_1 l1_1.length c1_1] 31)).alloc (.cells #[.int .i64 (a2), .bool true] 51)).alloc (.cells #[.slice none 0 0, .slice none 0 0] 31) := ⟨_, rfl⟩
 have bP : W1.heap[w.heap.size]? = some (.cells #[.slice A0_0 l0_0.length c0_0, .slice A0_1 l0_1.length c0_1] 25 (0, 0)) := by
  have := blk_alloc (blk_alloc (blk_alloc (blk_new w (.cells #[.slice A0_0 l0_0.length c0_0, .slice A0_1 l0_1.length c0_1] 25)) (.cells #[.slice A1_0 l1_0.length c1_0, .slice A1_1 l1_1.length c1_1] 31)) (.cells #[.int .i64 (a2), .bool true] 51)) (.cells #[.slice none 0 0, .slice none 0 0] 31)
  rw [hW1]; exact this
 have bS : W1.heap[w.heap.size + 1]? = some (.cells #[.slice A1_0 l1_0.length c1_0, .slice A1_1 l1_1.length c1_1] 31 (0, 0)) := by
  have := blk_alloc (blk_alloc (blk_new (w.alloc (.cells #[.slice A0_0 l0_0.length c0_0, .slice A0_1 l0_1.length c0_1] 25)) (.cells #[.slice A1_0 l1_0.length c1_0, .slice A1_1 l1_1.length c1_1] 31)) (.cells #[.int .i64 (a2), .bool true] 51)) (.cells #[.slice none 0 0, .slice none 0 0] 31)
  rw [World.size_alloc] at this
  rw [hW1]; exact this
 have bK : W1.heap[w.heap.size + 1 + 1]? = some (.cells #[.int .i64 (a2), .bool true] 51 (0, 0)) := by
  have := blk_alloc (blk_new ((w.alloc (.cells #[.slice A0_0 l0_0.length c0_0, .slice A0_1 l0_1.length c0_1] 25)).alloc (.cells #[.slice A1_0 l1_0.length c1_0, .slice A1_1 l1_1.length c1_1] 31)) (.cells #[.int .i64 (a2), .bool true] 51)) (.cells #[.slice none 0 0, .slice none 0 0] 31)
  rw [World.size_alloc, World.size_alloc] at this
  rw [hW1]; exact this
 have bR : W1.heap[w.heap.size + 1 + 1 + 1]? = some (.cells #[.slice none 0 0, .slice none 0 0] 31 (0, 0)) := by
  have := blk_new (((w.alloc (.cells #[.slice A0_0 l0_0.length c0_0, .slice A0_1 l0_1.length c0_1] 25)).alloc (.cells #[.slice A1_0 l1_0.length c1_0, .slice A1_1 l1_1.length c1_1] 31)).alloc (.cells #[.int .i64 (a2), .bool true] 51)) (.cells #[.slice none 0 0, .slice none 0 0] 31)
  rw [World.size_alloc, World.size_alloc, World.size_alloc] at this
  rw [hW1]; exact this
 have hB1 : Below w.heap.size w W1 := by rw [hW1]; exact below_alloc (below_alloc (below_alloc (below_alloc (Below.refl _ _) _) _) _) _
 have es0 : W1.cell? ⟨w.heap.size + 1, 0, none⟩ = some (.slice A1_0 l1_0.length c1_0) := (blk_cell bS 0).trans rfl
 have es1 : W1.cell? ⟨w.heap.size + 1, 1, none⟩ = some (.slice A1_1 l1_1.length c1_1) := (blk_cell bS 1).trans rfl
 have HW1 := Aside0.mk hW1
 have BP := Aside0.mk bP
 have BS := Aside0.mk bS
 have BK := Aside0.mk bK
 have BR := Aside0.mk bR
 have HBW := Aside0.mk hB1
 clear hW1 bP bS bK bR hB1
 go_enter Try.func14, Try.ntmps14
 (try simp only [List.append_eq, List.cons_append, List.nil_append])
 go_upto_region 1 with fail
 rw [← HW1.out]
 clear es0 es1 HW1
 have ep0 : W1.cell? ⟨w.heap.size, 0, none⟩ = some (.slice A0_0 l0_0.length c0_0) := (blk_cell BP.out 0).trans rfl
 have ep1 : W1.cell? ⟨w.heap.size, 1, none⟩ = some (.slice A0_1 l0_1.length c0_1) := (blk_cell BP.out 1).trans rfl
 have eq0 : W1.cell? ⟨w.heap.size + 1, 0, none⟩ = some (.slice A1_0 l1_0.length c1_0) := (blk_cell BS.out 0).trans rfl
 have eq1 : W1.cell? ⟨w.heap.size + 1, 1, none⟩ = some (.slice A1_1 l1_1.length c1_1) := (blk_cell BS.out 1).trans rfl
 have ek0 : W1.cell? ⟨w.heap.size + 1 + 1, 0, none⟩ = some (.int .i64 (a2)) := (blk_cell BK.out 0).trans rfl
 have ek1 : W1.cell? ⟨w.heap.size + 1 + 1, 1, none⟩ = some (.bool true) := (blk_cell BK.out 1).trans rfl
 have rz0 : W1.cell? ⟨w.heap.size + 1 + 1 + 1, 0, none⟩ = some (.slice none 0 0) := (blk_cell BR.out 0).trans rfl
 have rz1 : W1.cell? ⟨w.heap.size + 1 + 1 + 1, 1, none⟩ = some (.slice none 0 0) := (blk_cell BR.out 1).trans rfl
 have rf0 := blk_frozen BR.out 0
 have rf1 := blk_frozen BR.out 1
 go_wp2_with fail
 have eb0 : ((W1.setCell ⟨w.heap.size + 1 + 1 + 1, 0, none⟩ (.slice A1_0 l1_0.length c1_0)).setCell ⟨w.heap.size + 1 + 1 + 1, 1, none⟩ (.slice A1_1 l1_1.length c1_1)).cell? ⟨w.heap.size + 1 + 1 + 1, 0, none⟩ = some (.slice A1_0 l1_0.length c1_0) := (blk_cell (blk_set (blk_set BR.out 0 _) 1 _) 0).trans rfl
 have eb1 : ((W1.setCell ⟨w.heap.size + 1 + 1 + 1, 0, none⟩ (.slice A1_0 l1_0.length c1_0)).setCell ⟨w.heap.size + 1 + 1 + 1, 1, none⟩ (.slice A1_1 l1_1.length c1_1)).cell? ⟨w.heap.size + 1 + 1 + 1, 1, none⟩ = some (.slice A1_1 l1_1.length c1_1) := (blk_cell (blk_set (blk_set BR.out 0 _) 1 _) 1).trans rfl
 have hbe := below_set (below_set HBW.out (show w.heap.size ≤ w.heap.size + 1 + 1 + 1 by omega) (j := 0) (v := (.slice A1_0 l1_0.length c1_0))) (show w.heap.size ≤ w.heap.size + 1 + 1 + 1 by omega) (j := 1) (v := (.slice A1_1 l1_1.length c1_1))
 exact bodyPost_ret (v := .tuple #[.agg #[.slice A1_0 l1_0.length c1_0, .slice A1_1 l1_1.length c1_1], .bool false]) (by simp [results, Try.results14, go_sem, eb0, eb1]) rfl (TP.mk rfl rfl (fun _ _ hh => by cases hh) hbe)
theorem rs_calls (A0_0 : Option Addr) (c0_0 : Nat) (l0_0 : List Int) (A0_1 : Option Addr) (c0_1 : Nat) (l0_1 : List (List S42)) (A1_0 : Option Addr) (c1_0 : Nat) (l1_0 : List Int) (A1_1 : Option Addr) (c1_1 : Nat) (l1_1 : List S39) (k : S51) (weak : Bool) (w : World)
 (hr0_0 : Kd.C (Kd.int .i64) w A0_0 l0_0.length l0_0) (hc0_0 : l0_0.length ≤ c0_0) (hr0_1 : Kd.C (Kd.slice 42 k42) w A0_1 l0_1.length l0_1) (hc0_1 : l0_1.length ≤ c0_1) (hr1_0 : Kd.C (Kd.int .i64) w A1_0 l1_0.length l1_0) (hc1_0 : l1_0.length ≤ c1_0) (hr1_1 : Kd.C k39 w A1_1 l1_1.length l1_1) (hc1_1 : l1_1.length ≤ c1_1)
 (hok : okB l0_1 l1_0 l1_1 = true) :
 Calls Try.prog 14 #[.agg #[.slice A0_0 l0_0.length c0_0, .slice A0_1 l0_1.length c0_1], .agg #[.slice A1_0 l1_0.length c1_0, .slice A1_1 l1_1.length c1_1], .agg #[.int .i64 k.f0, .bool k.f1], .bool weak] w fun e w' => TP (rstF l0_1 l1_0 l1_1 k weak) e w w' := by
 unfold rstF
 cases weak with
 | true => rw [if_pos rfl]; exact rs_weak A0_0 c0_0 l0_0 A0_1 c0_1 l0_1 A1_0 c1_0 l1_0 A1_1 c1_1 l1_1 k.f0 k.f1 w hr0_0 hc0_0 hr0_1 hc0_1 hr1_0 hc1_0 hr1_1 hc1_1 hok
 | false =>
  rw [if_neg (by decide)]
  cases hk : k.f1 with
  | true => rw [if_pos rfl]; exact rs_none A0_0 c0_0 l0_0 A0_1 c0_1 l0_1 A1_0 c1_0 l1_0 A1_1 c1_1 l1_1 k.f0 true w hr0_0 hc0_0 hr0_1 hc0_1 hr1_0 hc1_0 hr1_1 hc1_1 hok
  | false => rw [if_neg (by decide)]; exact rs_str A0_0 c0_0 l0_0 A0_1 c0_1 l0_1 A1_0 c1_0 l1_0 A1_1 c1_1 l1_1 k.f0 false w hr0_0 hc0_0 hr0_1 hc0_1 hr1_0 hc1_0 hr1_1 hc1_1 hok
end Go.Proofs.Yteobpfgncohloaa.Print
