/- sc.own: its contract, by walking its text. -/
import Derived.Test.YtdliojcpnkggnaaHScInv
import Derived.Lib.SliceRun
namespace Go.Proofs.Ytdliojcpnkggnaa.Print
open Go.RowKit Go.Proofs.YtdliojcpnkggnaaW.PrintWords Go.Proofs.YtdliojcpnkggnaaW.PrintLast Go.Proofs.YtdliojcpnkggnaaW.PrintMore
set_option linter.unusedVariables false
set_option linter.unusedSimpArgs false
set_option maxRecDepth 100000 in
set_option maxHeartbeats 4000000 in
theorem own_calls (A0 : Option Addr) (c0 : Nat) (l0 : List Int) (A1 : Option Addr) (c1 : Nat) (l1 : List S45) (w : World) (hr0 : Kd.C (Kd.int .i64) w A0 l0.length l0) (hc0 : l0.length ≤ c0) (hr1 : Kd.C k45 w A1 l1.length l1) (hc1 : l1.length ≤ c1) (h0 : l0.length ≤ 1000000) (h1 : l1.length ≤ 1000) (hth : ∀ x ∈ l1, x.f1.length ≤ 1000000 ∧ x.f3.length ≤ 1000000) :
    Calls Try.prog 26 #[.agg #[.slice A0 l0.length c0, .slice A1 l1.length c1]] w fun e w' => ∃ v0_ v1_ : Value, e = .returned (.agg #[v0_, v1_]) ∧ Kd.R (Kd.int .i64) 3 w' w.heap.size (fun _ => True) v0_ l0 ∧ Kd.S k45 45 w' w.heap.size (fun k => some k ≠ v0_.ownBlock) v1_ l1 ∧ Below w.heap.size w w' := by
  obtain ⟨rows, hrl, hr2, hrK⟩ := Kd.reads_raw hr1 (fun x c h => ⟨k45.K_len h, k45.K_one h⟩)
  have hr2' : Kd.C (Kd.raw 4) w A1 rows.length rows := by rw [hrl]; exact hr2
  rw [← hrl] at h1 hc1 ⊢
  have hu := Try.underlying28
  have HR0 := Aside0.mk hr0
  have HR1 := Aside0.mk hr2'
  have H0 := Aside0.mk h0
  have H1 := Aside0.mk h1
  have HC0 := Aside0.mk hc0
  have HC1 := Aside0.mk hc1
  have HRL := Aside0.mk hrl
  have HRK := Aside0.mk hrK
  have HTH := Aside0.mk hth
  have hcl : slices_Clone_int_int.f l0 = some l0 := by unfold slices_Clone_int_int.f; rw [if_pos h0]
  have HCL := Aside0.mk hcl
  clear hr0 hr1 hr2 hr2' h0 h1 hc0 hc1 hcl hrl hrK hth
  go_enter Try.func26, Try.ntmps26
  go_wp2_with fail
  have BK := Aside0.mk (blk_drew (blk_alloc (blk_new w (.cells #[.slice A0 l0.length c0, .slice A1 rows.length c1] 28)) (.cells #[.slice none 0 0, .slice none 0 0] 28)))
  have BR := Aside0.mk (blk_drew (blk_new (w.alloc (.cells #[.slice A0 l0.length c0, .slice A1 rows.length c1] 28)) (.cells #[.slice none 0 0, .slice none 0 0] 28)))
  have HB := Aside0.mk (below_drew1 (below_alloc (below_alloc (Below.refl w.heap.size w) (.cells #[.slice A0 l0.length c0, .slice A1 rows.length c1] 28)) (.cells #[.slice none 0 0, .slice none 0 0] 28)))
  refine start_ (n := 9) (S := fun w' => w'.cell? ⟨w.heap.size, 0, none⟩ = some (.slice A0 l0.length c0) ∧ w'.cell? ⟨w.heap.size, 1, none⟩ = some (.slice A1 rows.length c1)) (ds := [8]) #[false, false, false, false, false, false, false, false, false] (by kernel_rfl) rfl rfl ⟨(blk_cell BK.out 0).trans rfl, (blk_cell BK.out 1).trans rfl⟩ (fun hHeld => ?_)
  rw [World.size_alloc] at BR
  generalize ((w.alloc (.cells #[.slice A0 l0.length c0, .slice A1 rows.length c1] 28)).alloc (.cells #[.slice none 0 0, .slice none 0 0] 28)).drew = w0 at BK BR HB hHeld ⊢
  refine pure_ (i := 0) (N := some 6) (v := ?_) (a' := ?_) #[true, false, false, false, false, false, false, false, false] rfl rfl (by kernel_rfl) (fun _ _ _ h => h) (Or.inl ⟨by rfl, ?_⟩) ?_ ?_
  rotate_left
  · intro w'
    go_simp
    with_reducible rfl
  rotate_left
  · simp only [Act.put, List.setIfInBounds_toArray, List.set_cons_zero, List.set_cons_succ, i64_w, i32_w]
    rfl
  refine pure_ (i := 3) (N := some 9) (v := ?_) (a' := ?_) #[true, false, false, true, false, false, false, false, false] rfl rfl (by kernel_rfl) (fun _ _ _ h => h) (Or.inl ⟨by rfl, ?_⟩) ?_ ?_
  rotate_left
  · intro w'
    go_simp
    with_reducible rfl
  rotate_left
  · simp only [Act.put, List.setIfInBounds_toArray, List.set_cons_zero, List.set_cons_succ, i64_w, i32_w]
    rfl
  refine take_ (i := 1) (N := some 7) (v := ?_) (a' := ?_) #[true, true, false, true, false, false, false, false, false] rfl rfl (by kernel_rfl) (fun _ _ _ h => h) (Or.inl ⟨by rfl, ?_⟩) hHeld ?_ ?_
  rotate_left
  · rintro w' ⟨s0, s1⟩
    go_simp
    with_reducible rfl
  rotate_left
  · simp only [Act.put, List.setIfInBounds_toArray, List.set_cons_zero, List.set_cons_succ, i64_w, i32_w]
    rfl
  refine take_ (i := 4) (N := some 10) (v := ?_) (a' := ?_) #[true, true, false, true, true, false, false, false, false] rfl rfl (by kernel_rfl) (fun _ _ _ h => h) (Or.inl ⟨by rfl, ?_⟩) hHeld ?_ ?_
  rotate_left
  · rintro w' ⟨s0, s1⟩
    go_simp
    with_reducible rfl
  rotate_left
  · simp only [Act.put, List.setIfInBounds_toArray, List.set_cons_zero, List.set_cons_succ, i64_w, i32_w]
    rfl
  refine join_ (σ := (Option Addr × Nat) × (Option Addr × Nat) × Nat) 1 #[true, true, true, true, true, true, true, true, false] (fun s_ => [(8, .slice s_.1.1 l0.length s_.1.2), (11, .slice s_.2.1.1 rows.length s_.2.1.2), (12, .agg #[.slice s_.1.1 l0.length s_.1.2, .slice s_.2.1.1 rows.length s_.2.1.2]), (3, .pointer (some ⟨s_.2.2, 0, none⟩))]) (fun s_ w' => (w'.heap[w.heap.size]? = some (.cells #[.slice A0 l0.length c0, .slice A1 rows.length c1] 28 (0, 0))) ∧ (w'.heap[w.heap.size + 1]? = some (.cells #[.slice none 0 0, .slice none 0 0] 28 (0, 0))) ∧ Kd.R (Kd.int .i64) 3 w' w.heap.size (fun _ => True) (.slice s_.1.1 l0.length s_.1.2) l0 ∧ Kd.R (Kd.raw 4) 45 w' w.heap.size (fun _ => True) (.slice s_.2.1.1 rows.length s_.2.1.2) rows ∧ (w'.heap[s_.2.2]? = some (.cells #[.slice none 0 0, .slice none 0 0] 28 (0, 0))) ∧ w.heap.size ≤ s_.2.2 ∧ s_.2.2 ≠ w.heap.size ∧ s_.2.2 ≠ w.heap.size + 1 ∧ Below w.heap.size w w') ?_ ?_
  rotate_left
  · intro hCont
    refine two_ (i := 2) (j := 7) (Ni := some 8) (Nj := some 3) #[true, true, true, true, true, false, false, false, false] #[true, true, false, true, true, false, false, true, false] rfl rfl rfl rfl (by kernel_rfl) (by decide) (by decide) (fun K hK => ?_) (fun K hK => ?_)
    · skip
      refine goes_ Try.func33 (by kernel_rfl) rfl #[.slice A0 l0.length c0] (by rfl) rfl rfl (by (try simp only [List.map_toArray, List.map_cons, List.map_nil]); first | done | rfl) ?_
      refine (slices_Clone_int_int.calls A0 c0 l0 l0 _ (Kd.C_below HR0.out HB.out) HC0.out HCL.out).mono ?_
      rintro e w1_ ⟨va, rfl, hRa, hb⟩
      obtain ⟨Aa, ca, rfl⟩ := Kd.R_slice hRa
      refine ⟨_, rfl, ?_⟩
      have HA := Aside0.mk (Kd.R_lower hRa (below_size HB.out))
      clear hRa
      have n0_ := Aside0.mk (blk_below BK.out hb)
      have n1_ := Aside0.mk (blk_below BR.out hb)
      have n2_ := Aside0.mk (below_step HB.out hb)
      clear BK BR HB
      have BK := n0_
      have BR := n1_
      have HB := n2_
      clear n0_ n1_ n2_
      clear hb
      refine hK.out _ _ ⟨(blk_cell BK.out 0).trans rfl, (blk_cell BK.out 1).trans rfl⟩ (fun hHeld => ?_)
      clear hK K
      refine norm_ (a' := ?_) ?_ ?_
      rotate_left
      · show Act.put _ (some 8) _ = _
        simp only [Act.put, List.setIfInBounds_toArray, List.set_cons_zero, List.set_cons_succ, i64_w, i32_w]
        rfl
      refine two_ (i := 5) (j := 7) (Ni := some 11) (Nj := some 3) #[true, true, true, true, true, true, false, false, false] #[true, true, true, true, true, false, false, true, false] rfl rfl rfl rfl (by kernel_rfl) (by decide) (by decide) (fun K hK => ?_) (fun K hK => ?_)
      · skip
        refine goes_ Try.func34 (by kernel_rfl) rfl #[.slice A1 rows.length c1] (by rfl) rfl rfl (by (try simp only [List.map_toArray, List.map_cons, List.map_nil]); first | done | rfl) ?_
        refine (clone_th A1 c1 rows _ (Kd.C_below HR1.out HB.out) HC1.out (Nat.le_trans H1.out (by decide))).mono ?_
        rintro e w1_ ⟨vb, rfl, hRb, hb⟩
        obtain ⟨Ab, cb, rfl⟩ := Kd.R_slice hRb
        refine ⟨_, rfl, ?_⟩
        have HT := Aside0.mk (Kd.R_lower hRb (below_size HB.out))
        clear hRb
        have n0_ := Aside0.mk (blk_below BK.out hb)
        have n1_ := Aside0.mk (blk_below BR.out hb)
        have n2_ := Aside0.mk (below_step HB.out hb)
        have n3_ := Aside0.mk (Kd.R_below HA.out hb)
        clear BK BR HB HA
        have BK := n0_
        have BR := n1_
        have HB := n2_
        have HA := n3_
        clear n0_ n1_ n2_ n3_
        clear hb
        refine hK.out _ _ ⟨(blk_cell BK.out 0).trans rfl, (blk_cell BK.out 1).trans rfl⟩ (fun hHeld => ?_)
        clear hK K
        refine norm_ (a' := ?_) ?_ ?_
        rotate_left
        · show Act.put _ (some 11) _ = _
          simp only [Act.put, List.setIfInBounds_toArray, List.set_cons_zero, List.set_cons_succ, i64_w, i32_w]
          rfl
        refine pure_ (i := 6) (N := some 12) (v := ?_) (a' := ?_) #[true, true, true, true, true, true, true, false, false] rfl rfl (by kernel_rfl) (fun _ _ _ h => h) (Or.inl ⟨by rfl, ?_⟩) ?_ ?_
        rotate_left
        · intro w'
          go_simp
          with_reducible rfl
        rotate_left
        · simp only [Act.put, List.setIfInBounds_toArray, List.set_cons_zero, List.set_cons_succ, i64_w, i32_w]
          rfl
        refine one_ (i := 7) (N := some 3) #[true, true, true, true, true, true, true, true, false] rfl rfl (by kernel_rfl) (by decide) (fun K hK => ?_)
        refine box_step ?hg (N := 3) ?hd (cs := #[.slice none 0 0, .slice none 0 0]) (t := 28) ?hr ?_; (case hd => rfl); (case hg => rfl); (case hr => first | (go_simp; done) | (go_simp; rfl))
        intro gO hg w1_ hbox hb
        have GE : Aside0 (w.heap.size ≤ gO) := Aside0.mk (by rw [hg]; exact below_size HB.out)
        have NE : Aside0 (gO ≠ w.heap.size) := Aside0.mk (by rw [hg]; exact Nat.ne_of_gt (blk_lt BK.out))
        have NR : Aside0 (gO ≠ w.heap.size + 1) := Aside0.mk (by rw [hg]; exact Nat.ne_of_gt (blk_lt BR.out))
        have BO := Aside0.mk hbox
        clear hbox
        have n0_ := Aside0.mk (blk_below BK.out hb)
        have n1_ := Aside0.mk (blk_below BR.out hb)
        have n2_ := Aside0.mk (below_step HB.out hb)
        have n3_ := Aside0.mk (Kd.R_below HA.out hb)
        have n4_ := Aside0.mk (Kd.R_below HT.out hb)
        clear BK BR HB HA HT
        have BK := n0_
        have BR := n1_
        have HB := n2_
        have HA := n3_
        have HT := n4_
        clear n0_ n1_ n2_ n3_ n4_
        clear hb hg
        refine hK.out _ _ ⟨(blk_cell BK.out 0).trans rfl, (blk_cell BK.out 1).trans rfl⟩ (fun hHeld => ?_)
        clear hK K
        refine norm_ (a' := ?_) ?_ ?_
        rotate_left
        · show Act.put _ (some 3) _ = _
          simp only [Act.put, List.setIfInBounds_toArray, List.set_cons_zero, List.set_cons_succ, i64_w, i32_w]
          rfl
        exact norm_ (by simp only [putAll, Act.put, List.setIfInBounds_toArray, List.set_cons_zero, List.set_cons_succ]) (hCont ((Aa, ca), (Ab, cb), gO) _ ⟨BK.out, BR.out, HA.out, HT.out, BO.out, GE.out, NE.out, NR.out, HB.out⟩)
      · skip
        refine box_step ?hg (N := 3) ?hd (cs := #[.slice none 0 0, .slice none 0 0]) (t := 28) ?hr ?_; (case hd => rfl); (case hg => rfl); (case hr => first | (go_simp; done) | (go_simp; rfl))
        intro gO hg w1_ hbox hb
        have GE : Aside0 (w.heap.size ≤ gO) := Aside0.mk (by rw [hg]; exact below_size HB.out)
        have NE : Aside0 (gO ≠ w.heap.size) := Aside0.mk (by rw [hg]; exact Nat.ne_of_gt (blk_lt BK.out))
        have NR : Aside0 (gO ≠ w.heap.size + 1) := Aside0.mk (by rw [hg]; exact Nat.ne_of_gt (blk_lt BR.out))
        have BO := Aside0.mk hbox
        clear hbox
        have n0_ := Aside0.mk (blk_below BK.out hb)
        have n1_ := Aside0.mk (blk_below BR.out hb)
        have n2_ := Aside0.mk (below_step HB.out hb)
        have n3_ := Aside0.mk (Kd.R_below HA.out hb)
        clear BK BR HB HA
        have BK := n0_
        have BR := n1_
        have HB := n2_
        have HA := n3_
        clear n0_ n1_ n2_ n3_
        clear hb hg
        refine hK.out _ _ ⟨(blk_cell BK.out 0).trans rfl, (blk_cell BK.out 1).trans rfl⟩ (fun hHeld => ?_)
        clear hK K
        refine norm_ (a' := ?_) ?_ ?_
        rotate_left
        · show Act.put _ (some 3) _ = _
          simp only [Act.put, List.setIfInBounds_toArray, List.set_cons_zero, List.set_cons_succ, i64_w, i32_w]
          rfl
        refine one_ (i := 5) (N := some 11) #[true, true, true, true, true, true, false, true, false] rfl rfl (by kernel_rfl) (by decide) (fun K hK => ?_)
        refine goes_ Try.func34 (by kernel_rfl) rfl #[.slice A1 rows.length c1] (by rfl) rfl rfl (by (try simp only [List.map_toArray, List.map_cons, List.map_nil]); first | done | rfl) ?_
        refine (clone_th A1 c1 rows _ (Kd.C_below HR1.out HB.out) HC1.out (Nat.le_trans H1.out (by decide))).mono ?_
        rintro e w1_ ⟨vb, rfl, hRb, hb⟩
        obtain ⟨Ab, cb, rfl⟩ := Kd.R_slice hRb
        refine ⟨_, rfl, ?_⟩
        have HT := Aside0.mk (Kd.R_lower hRb (below_size HB.out))
        clear hRb
        have n0_ := Aside0.mk (blk_below BK.out hb)
        have n1_ := Aside0.mk (blk_below BR.out hb)
        have n2_ := Aside0.mk (below_step HB.out hb)
        have n3_ := Aside0.mk (Kd.R_below HA.out hb)
        have n4_ := Aside0.mk (blk_below BO.out hb)
        clear BK BR HB HA BO
        have BK := n0_
        have BR := n1_
        have HB := n2_
        have HA := n3_
        have BO := n4_
        clear n0_ n1_ n2_ n3_ n4_
        clear hb
        refine hK.out _ _ ⟨(blk_cell BK.out 0).trans rfl, (blk_cell BK.out 1).trans rfl⟩ (fun hHeld => ?_)
        clear hK K
        refine norm_ (a' := ?_) ?_ ?_
        rotate_left
        · show Act.put _ (some 11) _ = _
          simp only [Act.put, List.setIfInBounds_toArray, List.set_cons_zero, List.set_cons_succ, i64_w, i32_w]
          rfl
        refine pure_ (i := 6) (N := some 12) (v := ?_) (a' := ?_) #[true, true, true, true, true, true, true, true, false] rfl rfl (by kernel_rfl) (fun _ _ _ h => h) (Or.inl ⟨by rfl, ?_⟩) ?_ ?_
        rotate_left
        · intro w'
          go_simp
          with_reducible rfl
        rotate_left
        · simp only [Act.put, List.setIfInBounds_toArray, List.set_cons_zero, List.set_cons_succ, i64_w, i32_w]
          rfl
        exact norm_ (by simp only [putAll, Act.put, List.setIfInBounds_toArray, List.set_cons_zero, List.set_cons_succ]) (hCont ((Aa, ca), (Ab, cb), gO) _ ⟨BK.out, BR.out, HA.out, HT.out, BO.out, GE.out, NE.out, NR.out, HB.out⟩)
    · skip
      refine box_step ?hg (N := 3) ?hd (cs := #[.slice none 0 0, .slice none 0 0]) (t := 28) ?hr ?_; (case hd => rfl); (case hg => rfl); (case hr => first | (go_simp; done) | (go_simp; rfl))
      intro gO hg w1_ hbox hb
      have GE : Aside0 (w.heap.size ≤ gO) := Aside0.mk (by rw [hg]; exact below_size HB.out)
      have NE : Aside0 (gO ≠ w.heap.size) := Aside0.mk (by rw [hg]; exact Nat.ne_of_gt (blk_lt BK.out))
      have NR : Aside0 (gO ≠ w.heap.size + 1) := Aside0.mk (by rw [hg]; exact Nat.ne_of_gt (blk_lt BR.out))
      have BO := Aside0.mk hbox
      clear hbox
      have n0_ := Aside0.mk (blk_below BK.out hb)
      have n1_ := Aside0.mk (blk_below BR.out hb)
      have n2_ := Aside0.mk (below_step HB.out hb)
      clear BK BR HB
      have BK := n0_
      have BR := n1_
      have HB := n2_
      clear n0_ n1_ n2_
      clear hb hg
      refine hK.out _ _ ⟨(blk_cell BK.out 0).trans rfl, (blk_cell BK.out 1).trans rfl⟩ (fun hHeld => ?_)
      clear hK K
      refine norm_ (a' := ?_) ?_ ?_
      rotate_left
      · show Act.put _ (some 3) _ = _
        simp only [Act.put, List.setIfInBounds_toArray, List.set_cons_zero, List.set_cons_succ, i64_w, i32_w]
        rfl
      refine one_ (i := 2) (N := some 8) #[true, true, true, true, true, false, false, true, false] rfl rfl (by kernel_rfl) (by decide) (fun K hK => ?_)
      refine goes_ Try.func33 (by kernel_rfl) rfl #[.slice A0 l0.length c0] (by rfl) rfl rfl (by (try simp only [List.map_toArray, List.map_cons, List.map_nil]); first | done | rfl) ?_
      refine (slices_Clone_int_int.calls A0 c0 l0 l0 _ (Kd.C_below HR0.out HB.out) HC0.out HCL.out).mono ?_
      rintro e w1_ ⟨va, rfl, hRa, hb⟩
      obtain ⟨Aa, ca, rfl⟩ := Kd.R_slice hRa
      refine ⟨_, rfl, ?_⟩
      have HA := Aside0.mk (Kd.R_lower hRa (below_size HB.out))
      clear hRa
      have n0_ := Aside0.mk (blk_below BK.out hb)
      have n1_ := Aside0.mk (blk_below BR.out hb)
      have n2_ := Aside0.mk (below_step HB.out hb)
      have n3_ := Aside0.mk (blk_below BO.out hb)
      clear BK BR HB BO
      have BK := n0_
      have BR := n1_
      have HB := n2_
      have BO := n3_
      clear n0_ n1_ n2_ n3_
      clear hb
      refine hK.out _ _ ⟨(blk_cell BK.out 0).trans rfl, (blk_cell BK.out 1).trans rfl⟩ (fun hHeld => ?_)
      clear hK K
      refine norm_ (a' := ?_) ?_ ?_
      rotate_left
      · show Act.put _ (some 8) _ = _
        simp only [Act.put, List.setIfInBounds_toArray, List.set_cons_zero, List.set_cons_succ, i64_w, i32_w]
        rfl
      refine one_ (i := 5) (N := some 11) #[true, true, true, true, true, true, false, true, false] rfl rfl (by kernel_rfl) (by decide) (fun K hK => ?_)
      refine goes_ Try.func34 (by kernel_rfl) rfl #[.slice A1 rows.length c1] (by rfl) rfl rfl (by (try simp only [List.map_toArray, List.map_cons, List.map_nil]); first | done | rfl) ?_
      refine (clone_th A1 c1 rows _ (Kd.C_below HR1.out HB.out) HC1.out (Nat.le_trans H1.out (by decide))).mono ?_
      rintro e w1_ ⟨vb, rfl, hRb, hb⟩
      obtain ⟨Ab, cb, rfl⟩ := Kd.R_slice hRb
      refine ⟨_, rfl, ?_⟩
      have HT := Aside0.mk (Kd.R_lower hRb (below_size HB.out))
      clear hRb
      have n0_ := Aside0.mk (blk_below BK.out hb)
      have n1_ := Aside0.mk (blk_below BR.out hb)
      have n2_ := Aside0.mk (below_step HB.out hb)
      have n3_ := Aside0.mk (Kd.R_below HA.out hb)
      have n4_ := Aside0.mk (blk_below BO.out hb)
      clear BK BR HB HA BO
      have BK := n0_
      have BR := n1_
      have HB := n2_
      have HA := n3_
      have BO := n4_
      clear n0_ n1_ n2_ n3_ n4_
      clear hb
      refine hK.out _ _ ⟨(blk_cell BK.out 0).trans rfl, (blk_cell BK.out 1).trans rfl⟩ (fun hHeld => ?_)
      clear hK K
      refine norm_ (a' := ?_) ?_ ?_
      rotate_left
      · show Act.put _ (some 11) _ = _
        simp only [Act.put, List.setIfInBounds_toArray, List.set_cons_zero, List.set_cons_succ, i64_w, i32_w]
        rfl
      refine pure_ (i := 6) (N := some 12) (v := ?_) (a' := ?_) #[true, true, true, true, true, true, true, true, false] rfl rfl (by kernel_rfl) (fun _ _ _ h => h) (Or.inl ⟨by rfl, ?_⟩) ?_ ?_
      rotate_left
      · intro w'
        go_simp
        with_reducible rfl
      rotate_left
      · simp only [Act.put, List.setIfInBounds_toArray, List.set_cons_zero, List.set_cons_succ, i64_w, i32_w]
        rfl
      exact norm_ (by simp only [putAll, Act.put, List.setIfInBounds_toArray, List.set_cons_zero, List.set_cons_succ]) (hCont ((Aa, ca), (Ab, cb), gO) _ ⟨BK.out, BR.out, HA.out, HT.out, BO.out, GE.out, NE.out, NR.out, HB.out⟩)
  rintro ⟨⟨Aa, ca⟩, ⟨Ab, cb⟩, gO⟩ W1 ⟨hBK, hBR, hA, hT, hO, hge, hne, hnr, hB⟩
  clear BK BR HB hHeld
  refine norm_ (a' := ?_) ?_ ?_
  rotate_left
  · simp only [putAll, Act.put, List.setIfInBounds_toArray, List.set_cons_zero, List.set_cons_succ]
    rfl
  have HBK := Aside0.mk hBK
  have HBR := Aside0.mk hBR
  have HA := Aside0.mk hA
  have HT := Aside0.mk hT
  have HO := Aside0.mk hO
  have HGE := Aside0.mk hge
  have HNR := Aside0.mk hnr
  have HB := Aside0.mk hB
  clear hBK hBR hA hT hO hge hne hnr hB
  refine last_ (i := 8) (N := none) #[true, true, true, true, true, true, true, true, true] rfl rfl (by kernel_rfl) (by decide) (fun K hK => ?_)
  have hs0 : W1.cell? ⟨gO, 0, none⟩ = some (.slice none 0 0) := (blk_cell HO.out 0).trans rfl
  have hs1 : W1.cell? ⟨gO, 1, none⟩ = some (.slice none 0 0) := (blk_cell HO.out 1).trans rfl
  have hf0 := blk_frozen HO.out 0
  have hf1 := blk_frozen HO.out 1
  refine skip_ (w1 := ?_) (by rfl) rfl ?_ ?_
  rotate_left
  · go_simp
    rfl
  refine hK.out _ _ ?_
  clear hK K
  refine done_ (by kernel_rfl) ?_
  clear hs0 hs1 hf0 hf1
  have hO1 := blk_set HO.out 0 (Value.slice Aa l0.length ca)
  have hO2 := blk_set hO1 1 (Value.slice Ab rows.length cb)
  have hA2 := Aside0.mk (Kd.R_set (Kd.R_set HA.out HO.out (by decide) 0 (Value.slice Aa l0.length ca)) hO1 (by decide) 1 (Value.slice Ab rows.length cb))
  have hT2 := Aside0.mk (Kd.R_set (Kd.R_set HT.out HO.out (by decide) 0 (Value.slice Aa l0.length ca)) hO1 (by decide) 1 (Value.slice Ab rows.length cb))
  have hB2 := Aside0.mk (below_set (j := 1) (v := Value.slice Ab rows.length cb) (below_set (j := 0) (v := Value.slice Aa l0.length ca) HB.out HGE.out) HGE.out)
  have hR2 := Aside0.mk ((Below.heap_setCell (W1.setCell ⟨gO, 0, none⟩ (Value.slice Aa l0.length ca)) ⟨gO, 1, none⟩ (Value.slice Ab rows.length cb) (w.heap.size + 1) (fun e => HNR.out e.symm)).trans ((Below.heap_setCell W1 ⟨gO, 0, none⟩ (Value.slice Aa l0.length ca) (w.heap.size + 1) (fun e => HNR.out e.symm)).trans HBR.out))
  have hOO : Aside0 (((W1.setCell ⟨gO, 0, none⟩ (Value.slice Aa l0.length ca)).setCell ⟨gO, 1, none⟩ (Value.slice Ab rows.length cb)).heap[gO]? = some (.cells #[.slice Aa l0.length ca, .slice Ab rows.length cb] 28 (0, 0))) := Aside0.mk (by rw [hO2]; rfl)
  clear hO1 hO2 HO HA HT HB HBK HBR
  generalize (W1.setCell ⟨gO, 0, none⟩ (Value.slice Aa l0.length ca)).setCell ⟨gO, 1, none⟩ (Value.slice Ab rows.length cb) = W2 at hOO hA2 hT2 hB2 hR2 ⊢
  have eo1 : W2.cell? ⟨gO, 1, none⟩ = some (.slice Ab rows.length cb) := (blk_cell hOO.out 1).trans rfl
  go_wp2_with fail
  go_loopw [16] (fun v16 wr => ∃ t : Nat, t ≤ rows.length ∧ v16 = .int .i64 (t : Int) ∧ OInv w l0 l1 rows gO (.slice Aa l0.length ca) (.slice Ab rows.length cb) t wr) (fun v16 _ => rows.length - (intOf v16).toNat)
  case atStart => exact ⟨0, Nat.zero_le _, rfl, hOO.out, HGE.out, hR2.out, hA2.out, ⟨rows, HRL.out, hT2.out, fun j _ => rfl, fun _ => 0, fun j x c hj => by omega⟩, hB2.out⟩
  case round =>
    obtain ⟨t, ht, rfl, hI⟩ := hrel
    clear hOO hA2 hT2 hB2 hR2 eo1
    have eo1 : wr.cell? ⟨gO, 1, none⟩ = some (.slice Ab rows.length cb) := (blk_cell hI.out 1).trans rfl
    have HI := Aside0.mk hI
    clear hI
    by_cases hlt : t < rows.length
    · obtain ⟨rws, hws, hRw, hrest, _⟩ := HI.out.ths
      have hrl := HRL.out
      obtain ⟨g, cap, hv, hge_, hg1, _⟩ := Kd.R_form hRw (by omega)
      injection hv with hv1 hv2 hv3
      clear hv2
      subst hv1
      subst hv3
      have htl : t < l1.length := by omega
      obtain ⟨x, hx⟩ : ∃ x, l1[t]? = some x := ⟨_, List.getElem?_eq_getElem htl⟩
      obtain ⟨c, hc⟩ : ∃ c, rows[t]? = some c := ⟨_, List.getElem?_eq_getElem hlt⟩
      have hK := HRK.out t x c hx hc
      obtain ⟨B1, d1, B3, d3, rfl, e1, k1, e3, k3⟩ := k45_open hK
      obtain ⟨c', hc4, hM, hcc⟩ := Kd.R_getA hRw [] (t : Int) (by omega) (by omega)
      rw [List.getD_eq_getElem?_getD, show ((t : Int)).toNat = t by omega, hrest t (Nat.le_refl _), hc] at hM
      simp only [Option.getD_some] at hM
      obtain ⟨rfl, _, _⟩ := hM
      have y1 : wr.cell? ⟨g, t * 4 + 1, none⟩ = some (.slice B1 x.f1.length d1) := by
        have := hcc 1 _ rfl
        rwa [add_at, Nat.zero_add, show ((t : Int)).toNat = t by omega] at this
      have y3 : wr.cell? ⟨g, t * 4 + 3, none⟩ = some (.slice B3 x.f3.length d3) := by
        have := hcc 3 _ rfl
        rwa [add_at, Nat.zero_add, show ((t : Int)).toNat = t by omega] at this
      have hth := HTH.out x (List.mem_of_getElem? hx)
      have hq1 : slices_Clone_int_int.f x.f1 = some x.f1 := by unfold slices_Clone_int_int.f; rw [if_pos hth.1]
      have hq3 : api_Write.f x.f3 = some x.f3 := by unfold api_Write.f; rw [if_pos hth.2]
      have HQ1 := Aside0.mk hq1
      have HQ3 := Aside0.mk hq3
      have HX := Aside0.mk hx
      have HC := Aside0.mk hc
      have HE1 := Aside0.mk e1
      have HE3 := Aside0.mk e3
      have HK1 := Aside0.mk (Kd.C_below k1 HI.out.bel)
      have HK3 := Aside0.mk (Kd.C_below k3 HI.out.bel)
      have HLT := Aside0.mk hlt
      have HBG : Aside0 (∃ cells, wr.heap[g]? = some (.cells cells 45 (0, 0))) := Aside0.mk (Kd.R_typed hRw g (by simp [Value.ownBlock]))
      have h1_ := H1.out
      have p1 : ((t : Int) < (rows.length : Int)) = True := eq_true (by omega)
      have p2 : (0 ≤ (t : Int)) = True := eq_true (by omega)
      have p3 : (t < rows.length) = True := eq_true hlt
      have s1 : (t : Int) + 1 ≤ 9223372036854775807 := by omega
      have s2 : -9223372036854775808 ≤ (t : Int) + 1 := by omega
      clear hws hRw hrest hK hcc hc4 hth hq1 hq3 hx hc e1 e3 k1 k3 hg1 hge_ htl hrl hlt ht
      go_wp2_with fail
      have HCell := Aside0.mk y1
      refine start_ (n := 18) (S := fun w' => w'.cell? ⟨g, t * 4 + 1, none⟩ = some (.slice B1 x.f1.length d1) ∧ w'.cell? ⟨g, t * 4 + 3, none⟩ = some (.slice B3 x.f3.length d3)) (ds := [14, 17]) #[false, false, false, false, false, false, false, false, false, false, false, false, false, false, false, false, false, false] (by kernel_rfl) rfl rfl ⟨by first | exact y1 | simpa using y1, by first | exact y3 | simpa using y3⟩ (fun hHeld => ?_)
      have HI0 := Aside0.mk (HI.out.below (below_drew1 (Below.refl _ wr)))
      have HK1d := Aside0.mk (Kd.C_drew HK1.out)
      have HK3d := Aside0.mk (Kd.C_drew HK3.out)
      have HBG0 : Aside0 (∃ cells, wr.drew.heap[g]? = some (.cells cells 45 (0, 0))) := Aside0.mk (by obtain ⟨c_, h_⟩ := HBG.out; exact ⟨c_, blk_drew h_⟩)
      generalize wr.drew = W3 at HI0 HK1d HK3d HBG0 hHeld ⊢
      refine pure_ (i := 0) (N := some 23) (v := ?_) (a' := ?_) #[true, false, false, false, false, false, false, false, false, false, false, false, false, false, false, false, false, false] rfl rfl (by kernel_rfl) (fun _ _ _ h => h) (Or.inl ⟨by rfl, ?_⟩) ?_ ?_
      rotate_left
      · intro w'
        go_simp
        with_reducible rfl
      rotate_left
      · simp only [Act.put, List.setIfInBounds_toArray, List.set_cons_zero, List.set_cons_succ, i64_w, i32_w]
        rfl
      refine pure_ (i := 1) (N := some 24) (v := ?_) (a' := ?_) #[true, true, false, false, false, false, false, false, false, false, false, false, false, false, false, false, false, false] rfl rfl (by kernel_rfl) (fun _ _ _ h => h) (Or.inl ⟨by rfl, ?_⟩) ?_ ?_
      rotate_left
      · intro w'
        go_simp
        with_reducible rfl
      rotate_left
      · simp only [Act.put, List.setIfInBounds_toArray, List.set_cons_zero, List.set_cons_succ, i64_w, i32_w]
        rfl
      refine pure_ (i := 2) (N := some 25) (v := ?_) (a' := ?_) #[true, true, true, false, false, false, false, false, false, false, false, false, false, false, false, false, false, false] rfl rfl (by kernel_rfl) (fun _ _ _ h => h) (Or.inl ⟨by rfl, ?_⟩) ?_ ?_
      rotate_left
      · intro w'
        go_simp
        with_reducible rfl
      rotate_left
      · simp only [Act.put, List.setIfInBounds_toArray, List.set_cons_zero, List.set_cons_succ, i64_w, i32_w]
        rfl
      refine pure_ (i := 3) (N := some 26) (v := ?_) (a' := ?_) #[true, true, true, true, false, false, false, false, false, false, false, false, false, false, false, false, false, false] rfl rfl (by kernel_rfl) (fun _ _ _ h => h) (Or.inl ⟨by rfl, ?_⟩) ?_ ?_
      rotate_left
      · intro w'
        go_simp
        with_reducible rfl
      rotate_left
      · simp only [Act.put, List.setIfInBounds_toArray, List.set_cons_zero, List.set_cons_succ, i64_w, i32_w]
        rfl
      refine pure_ (i := 4) (N := some 27) (v := ?_) (a' := ?_) #[true, true, true, true, true, false, false, false, false, false, false, false, false, false, false, false, false, false] rfl rfl (by kernel_rfl) (fun _ _ _ h => h) (Or.inl ⟨by rfl, ?_⟩) ?_ ?_
      rotate_left
      · intro w'
        go_simp
        with_reducible rfl
      rotate_left
      · simp only [Act.put, List.setIfInBounds_toArray, List.set_cons_zero, List.set_cons_succ, i64_w, i32_w]
        rfl
      refine take_ (i := 5) (N := some 28) (v := ?_) (a' := ?_) #[true, true, true, true, true, true, false, false, false, false, false, false, false, false, false, false, false, false] rfl rfl (by kernel_rfl) (fun _ _ _ h => h) (Or.inl ⟨by rfl, ?_⟩) hHeld ?_ ?_
      rotate_left
      · rintro w' ⟨s1, s3⟩
        go_simp
        with_reducible rfl
      rotate_left
      · simp only [Act.put, List.setIfInBounds_toArray, List.set_cons_zero, List.set_cons_succ, i64_w, i32_w]
        rfl
      refine pure_ (i := 7) (N := some 30) (v := ?_) (a' := ?_) #[true, true, true, true, true, true, false, true, false, false, false, false, false, false, false, false, false, false] rfl rfl (by kernel_rfl) (fun _ _ _ h => h) (Or.inl ⟨by rfl, ?_⟩) ?_ ?_
      rotate_left
      · intro w'
        go_simp
        with_reducible rfl
      rotate_left
      · simp only [Act.put, List.setIfInBounds_toArray, List.set_cons_zero, List.set_cons_succ, i64_w, i32_w]
        rfl
      refine pure_ (i := 8) (N := some 31) (v := ?_) (a' := ?_) #[true, true, true, true, true, true, false, true, true, false, false, false, false, false, false, false, false, false] rfl rfl (by kernel_rfl) (fun _ _ _ h => h) (Or.inl ⟨by rfl, ?_⟩) ?_ ?_
      rotate_left
      · intro w'
        go_simp
        with_reducible rfl
      rotate_left
      · simp only [Act.put, List.setIfInBounds_toArray, List.set_cons_zero, List.set_cons_succ, i64_w, i32_w]
        rfl
      refine pure_ (i := 9) (N := some 32) (v := ?_) (a' := ?_) #[true, true, true, true, true, true, false, true, true, true, false, false, false, false, false, false, false, false] rfl rfl (by kernel_rfl) (fun _ _ _ h => h) (Or.inl ⟨by rfl, ?_⟩) ?_ ?_
      rotate_left
      · intro w'
        go_simp
        with_reducible rfl
      rotate_left
      · simp only [Act.put, List.setIfInBounds_toArray, List.set_cons_zero, List.set_cons_succ, i64_w, i32_w]
        rfl
      refine take_ (i := 10) (N := some 33) (v := ?_) (a' := ?_) #[true, true, true, true, true, true, false, true, true, true, true, false, false, false, false, false, false, false] rfl rfl (by kernel_rfl) (fun _ _ _ h => h) (Or.inl ⟨by rfl, ?_⟩) hHeld ?_ ?_
      rotate_left
      · rintro w' ⟨s1, s3⟩
        go_simp
        with_reducible rfl
      rotate_left
      · simp only [Act.put, List.setIfInBounds_toArray, List.set_cons_zero, List.set_cons_succ, i64_w, i32_w]
        rfl
      refine one_ (i := 6) (N := some 29) #[true, true, true, true, true, true, true, true, true, true, true, false, false, false, false, false, false, false] rfl rfl (by kernel_rfl) (by decide) (fun K hK => ?_)
      refine goes_ Try.func33 (by kernel_rfl) rfl #[.slice B1 x.f1.length d1] (by rfl) rfl rfl (by (try simp only [List.map_toArray, List.map_cons, List.map_nil]); first | done | rfl) ?_
      refine (slices_Clone_int_int.calls B1 d1 x.f1 x.f1 _ HK1d.out HE1.out HQ1.out).mono ?_
      rintro e w4_ ⟨va, rfl, hRa, hb4⟩
      obtain ⟨Ac, cc, rfl⟩ := Kd.R_slice hRa
      refine ⟨_, rfl, ?_⟩
      have HG4 : Aside0 (∃ cells, w4_.heap[g]? = some (.cells cells 45 (0, 0))) := Aside0.mk (by obtain ⟨c_, h_⟩ := HBG0.out; exact ⟨c_, blk_below h_ hb4⟩)
      have hh4 : w4_.cell? ⟨g, t * 4 + 1, none⟩ = some (.slice B1 x.f1.length d1) ∧ w4_.cell? ⟨g, t * 4 + 3, none⟩ = some (.slice B3 x.f3.length d3) := by obtain ⟨c_, h_⟩ := HBG0.out; have := (blk_lt h_); exact ⟨(hb4.cell (p := ⟨g, t * 4 + 1, none⟩) this).trans hHeld.1, (hb4.cell (p := ⟨g, t * 4 + 3, none⟩) this).trans hHeld.2⟩
      have HRA := Aside0.mk hRa
      have HB4 := Aside0.mk hb4
      clear hRa hb4
      refine hK.out _ _ hh4 (fun hHeld => ?_)
      clear hh4
      clear hK K
      refine norm_ (a' := ?_) ?_ ?_
      rotate_left
      · show Act.put _ (some 29) _ = _
        simp only [Act.put, List.setIfInBounds_toArray, List.set_cons_zero, List.set_cons_succ, i64_w, i32_w]
        rfl
      refine one_ (i := 11) (N := some 34) #[true, true, true, true, true, true, true, true, true, true, true, true, false, false, false, false, false, false] rfl rfl (by kernel_rfl) (by decide) (fun K hK => ?_)
      refine goes_ Try.func35 (by kernel_rfl) rfl #[.slice B3 x.f3.length d3] (by rfl) rfl rfl (by (try simp only [List.map_toArray, List.map_cons, List.map_nil]); first | done | rfl) ?_
      refine (api_Write.calls B3 d3 x.f3 x.f3 _ (Kd.C_below HK3d.out HB4.out) HE3.out HQ3.out).mono ?_
      rintro e w5_ ⟨vb, rfl, hRb, hb5⟩
      obtain ⟨Ad, cd, rfl⟩ := Kd.R_slice hRb
      refine ⟨_, rfl, ?_⟩
      have hh5 : w5_.cell? ⟨g, t * 4 + 1, none⟩ = some (.slice B1 x.f1.length d1) ∧ w5_.cell? ⟨g, t * 4 + 3, none⟩ = some (.slice B3 x.f3.length d3) := by obtain ⟨c_, h_⟩ := HG4.out; have := (blk_lt h_); exact ⟨(hb5.cell (p := ⟨g, t * 4 + 1, none⟩) this).trans hHeld.1, (hb5.cell (p := ⟨g, t * 4 + 3, none⟩) this).trans hHeld.2⟩
      have HG5 : Aside0 (∃ cells, w5_.heap[g]? = some (.cells cells 45 (0, 0))) := Aside0.mk (by obtain ⟨c_, h_⟩ := HG4.out; exact ⟨c_, blk_below h_ hb5⟩)
      have HRB := Aside0.mk hRb
      have HB5 := Aside0.mk hb5
      clear hRb hb5
      refine hK.out _ _ hh5 (fun hHeld => ?_)
      clear hh5
      clear hK K
      refine norm_ (a' := ?_) ?_ ?_
      rotate_left
      · show Act.put _ (some 34) _ = _
        simp only [Act.put, List.setIfInBounds_toArray, List.set_cons_zero, List.set_cons_succ, i64_w, i32_w]
        rfl
      refine pure_ (i := 12) (N := some 35) (v := ?_) (a' := ?_) #[true, true, true, true, true, true, true, true, true, true, true, true, true, false, false, false, false, false] rfl rfl (by kernel_rfl) (fun _ _ _ h => h) (Or.inl ⟨by rfl, ?_⟩) ?_ ?_
      rotate_left
      · intro w'
        go_simp
        with_reducible rfl
      rotate_left
      · simp only [Act.put, List.setIfInBounds_toArray, List.set_cons_zero, List.set_cons_succ, i64_w, i32_w]
        rfl
      refine pure_ (i := 13) (N := some 36) (v := ?_) (a' := ?_) #[true, true, true, true, true, true, true, true, true, true, true, true, true, true, false, false, false, false] rfl rfl (by kernel_rfl) (fun _ _ _ h => h) (Or.inl ⟨by rfl, ?_⟩) ?_ ?_
      rotate_left
      · intro w'
        go_simp
        with_reducible rfl
      rotate_left
      · simp only [Act.put, List.setIfInBounds_toArray, List.set_cons_zero, List.set_cons_succ, i64_w, i32_w]
        rfl
      refine last_ (i := 14) (N := none) #[true, true, true, true, true, true, true, true, true, true, true, true, true, true, true, false, false, false] rfl rfl (by kernel_rfl) (by decide) (fun K hK => ?_)
      obtain ⟨hs1, hs3⟩ := hHeld
      have hf1 : w5_.frozen? ⟨g, t * 4 + 1, none⟩ = false := by obtain ⟨c_, h_⟩ := HG5.out; exact blk_frozen h_ _
      refine skip_ (w1 := ?_) (by rfl) rfl ?_ ?_
      rotate_left
      · go_simp
        rfl
      refine hK.out _ _ ?_
      clear hK K
      refine pure_ (i := 15) (N := some 37) (v := ?_) (a' := ?_) #[true, true, true, true, true, true, true, true, true, true, true, true, true, true, true, true, false, false] rfl rfl (by kernel_rfl) (fun _ _ _ h => h) (Or.inl ⟨by rfl, ?_⟩) ?_ ?_
      rotate_left
      · intro w'
        go_simp
        with_reducible rfl
      rotate_left
      · simp only [Act.put, List.setIfInBounds_toArray, List.set_cons_zero, List.set_cons_succ, i64_w, i32_w]
        rfl
      refine pure_ (i := 16) (N := some 38) (v := ?_) (a' := ?_) #[true, true, true, true, true, true, true, true, true, true, true, true, true, true, true, true, true, false] rfl rfl (by kernel_rfl) (fun _ _ _ h => h) (Or.inl ⟨by rfl, ?_⟩) ?_ ?_
      rotate_left
      · intro w'
        go_simp
        with_reducible rfl
      rotate_left
      · simp only [Act.put, List.setIfInBounds_toArray, List.set_cons_zero, List.set_cons_succ, i64_w, i32_w]
        rfl
      refine last_ (i := 17) (N := none) #[true, true, true, true, true, true, true, true, true, true, true, true, true, true, true, true, true, true] rfl rfl (by kernel_rfl) (by decide) (fun K hK => ?_)
      skip
      have hf3 : w5_.frozen? ⟨g, t * 4 + 3, none⟩ = false := by obtain ⟨c_, h_⟩ := HG5.out; exact blk_frozen h_ _
      refine skip_ (w1 := ?_) (by rfl) rfl ?_ ?_
      rotate_left
      · go_simp
        rfl
      refine hK.out _ _ ?_
      clear hK K
      refine done_ (by kernel_rfl) ?_
      clear hf1 hf3 hs1 hs3
      have HN := Aside0.mk (HI0.out.next (below_then (Below.refl _ _) (Nat.le_refl _) (HB4.out.trans (HB5.out.mono HB4.out.size))) (Kd.R_below HRA.out HB5.out) (Kd.R_lower HRB.out HB4.out.size) HX.out HC.out HRL.out)
      generalize (w5_.setCell ⟨g, t * 4 + 1, none⟩ (Value.slice Ac x.f1.length cc)).setCell ⟨g, t * 4 + 3, none⟩ (Value.slice Ad x.f3.length cd) = W6 at HN ⊢
      go_wp2_with fail
      go_roundw
      case rel => exact ⟨t + 1, by have := HLT.out; omega, by simp, HN.out⟩
      case measure => have := HLT.out; simp [intOf]; omega
    · obtain rfl : t = rows.length := by omega
      have p3 : (rows.length < rows.length) = False := eq_false (by omega)
      have eo0 : wr.cell? ⟨gO, 0, none⟩ = some (.slice Aa l0.length ca) := (blk_cell HI.out.out 0).trans rfl
      have er0 : wr.cell? ⟨w.heap.size + 1, 0, none⟩ = some (.slice none 0 0) := (blk_cell HI.out.res 0).trans rfl
      have er1 : wr.cell? ⟨w.heap.size + 1, 1, none⟩ = some (.slice none 0 0) := (blk_cell HI.out.res 1).trans rfl
      have ef0 := blk_frozen HI.out.res 0
      have ef1 := blk_frozen HI.out.res 1
      go_wp2_with fail
      have hd := HI.out
      have eb0 : ((wr.setCell ⟨w.heap.size + 1, 0, none⟩ (.slice Aa l0.length ca)).setCell ⟨w.heap.size + 1, 1, none⟩ (.slice Ab rows.length cb)).cell? ⟨w.heap.size + 1, 0, none⟩ = some (.slice Aa l0.length ca) := (blk_cell (blk_set (blk_set hd.res 0 _) 1 _) 0).trans rfl
      have eb1 : ((wr.setCell ⟨w.heap.size + 1, 0, none⟩ (.slice Aa l0.length ca)).setCell ⟨w.heap.size + 1, 1, none⟩ (.slice Ab rows.length cb)).cell? ⟨w.heap.size + 1, 1, none⟩ = some (.slice Ab rows.length cb) := (blk_cell (blk_set (blk_set hd.res 0 _) 1 _) 1).trans rfl
      refine bodyPost_ret (v := .agg #[.slice Aa l0.length ca, .slice Ab rows.length cb]) (by simp [results, Try.results26, go_sem, eb0, eb1]) rfl ⟨_, _, rfl, ?_, ?_, below_set (below_set hd.bel (Nat.le_succ _)) (Nat.le_succ _)⟩
      · exact Kd.R_set (Kd.R_set hd.mem hd.res (by decide) _ _) (blk_set hd.res _ _) (by decide) _ _
      · have hS := OInv.done (by rw [← HRL.out]; exact hd)
        exact Kd.S_set (Kd.S_set hS hd.res (by decide) _ _) (blk_set hd.res _ _) (by decide) _ _
end Go.Proofs.Ytdliojcpnkggnaa.Print
