/- sc.Begin: its Lean function and its contract, by walking its text. -/
import Derived.Test.YtdliojcpnkggnaaHScInv
import Derived.Lib.SliceRun
namespace Go.Proofs.Ytdliojcpnkggnaa.Print
open Go.RowKit Go.Proofs.YtdliojcpnkggnaaW.PrintWords Go.Proofs.YtdliojcpnkggnaaW.PrintLast Go.Proofs.YtdliojcpnkggnaaW.PrintMore
set_option linter.unusedVariables false
set_option linter.unusedSimpArgs false
/-- A thread's cells, before it has registers. -/
def zrow : List Value := [.int .i64 0, .slice none 0 0, .bool false, .slice none 0 0]
theorem zrow_M (W : World) (base : Nat) (ok : Nat → Prop) : (Kd.raw 4).M W base ok zrow [.int .i64 0, .slice none 0 0, .bool false, .slice none 0 0] := ⟨rfl, rfl, by intro u hu; simp at hu; rcases hu with rfl | rfl | rfl | rfl <;> rfl⟩
/-- A thread at its beginning. -/
def th0 : S45 := ⟨0, [0, 0, 0, 0], false, []⟩
def sc_Begin.f (l0_0 : List Int) (l0_1 : List (List S39)) : Option (List Int × List S45) := if l0_0.length ≤ 1000000 ∧ l0_1.length ≤ 1000 then some (l0_0, List.replicate l0_1.length th0) else none
theorem OInv.next1 {w W3 W4 : World} {l0 : List Int} {l1 : List S45} {rows : List (List Value)} {gO t g n cap : Nat} {vm v1 : Value} {x : S45} {c0 : List Value} (h : OInv w l0 l1 rows gO vm (.slice (some ⟨g, 0, none⟩) n cap) t W3) (hb : Below W3.heap.size W3 W4)
    (h1 : Kd.R (Kd.int .i64) 3 W4 W3.heap.size (fun _ => True) v1 x.f1) (hx : l1[t]? = some x) (hrow : rows[t]? = some c0) (hc0 : c0 = [.int .i64 x.f0, .slice none 0 0, .bool x.f2, .slice none 0 0]) (hf3 : x.f3 = []) (hlen : x.f1.length = 4) (hn : n = l1.length) :
    OInv w l0 l1 rows gO vm (.slice (some ⟨g, 0, none⟩) n cap) (t + 1) (W4.setCell ⟨g, t * 4 + 1, none⟩ v1) := by
  subst hc0
  have hg : (Value.slice (some ⟨g, 0, none⟩) n cap).ownBlock = some g := by simp [Value.ownBlock]
  have h4 := h.below hb
  obtain ⟨rws, hrl, hR, hrest, f, hf⟩ := h.ths
  have hR4 := Kd.R_below hR hb
  obtain ⟨cells, hcells⟩ := Kd.R_typed hR4 g hg
  have htl : t < l1.length := (List.getElem?_eq_some_iff.1 hx).1
  have hrt : rws[t]? = some [.int .i64 x.f0, .slice none 0 0, .bool x.f2, .slice none 0 0] := (hrest t (Nat.le_refl _)).trans hrow
  have hcl : ([.int .i64 x.f0, .slice none 0 0, .bool x.f2, .slice none 0 0] : List Value).length = 4 := rfl
  -- the cells of element t
  obtain ⟨c, hc4, hM, hcc⟩ := Kd.R_getA hR4 [] (t : Int) (by omega) (by omega)
  rw [List.getD_eq_getElem?_getD, show ((t : Int)).toNat = t by omega, hrt] at hM
  simp only [Option.getD_some] at hM
  obtain ⟨rfl, _, hone⟩ := hM
  have hcc' : ∀ (j : Nat) (u : Value), ([.int .i64 x.f0, .slice none 0 0, .bool x.f2, .slice none 0 0] : List Value)[j]? = some u → W4.cell? ⟨g, (t : Int).toNat * (Kd.raw 4).sz + j, none⟩ = some u := fun j u hu => by
    have := hcc j u hu
    rwa [add_at, Nat.zero_add] at this
  have hv1 : v1.oneCell' = true := (Kd.R_val h1).2
  have st1 := Kd.R_seg (okp := fun _ => False) hR4 (t : Int) (by omega) (by omega) (c := [.int .i64 x.f0, .slice none 0 0, .bool x.f2, .slice none 0 0]) (seg := [v1]) (j := 1) rfl hcc' (show 1 + 1 ≤ 4 by decide) (x' := [.int .i64 x.f0, v1, .bool x.f2, .slice none 0 0]) ⟨rfl, rfl, by intro u hu; simp at hu; rcases hu with rfl | rfl | rfl | rfl <;> first | rfl | assumption⟩ (fun _ hk => hk.elim)
  obtain ⟨hR5, hg5⟩ := st1
  have e5 : W4.setCells g ((t : Int).toNat * (Kd.raw 4).sz + 1) [v1] = W4.setCell ⟨g, t * 4 + 1, none⟩ v1 := by
    rw [show ((t : Int)).toNat = t by omega]; rfl
  rw [e5] at hR5 hg5
  have hfar : ∀ k, k ≠ g → (W4.setCell ⟨g, t * 4 + 1, none⟩ v1).heap[k]? = W4.heap[k]? := fun k hk => Below.heap_setCell W4 ⟨g, t * 4 + 1, none⟩ v1 k hk
  have hgO : gO ≠ g := types_ne h4.out hcells (by decide)
  have hres : w.heap.size + 1 ≠ g := types_ne h4.res hcells (by decide)
  have hgw : w.heap.size ≤ g := Kd.R_base hR g hg
  have hglt : g < W3.heap.size := Kd.R_lt hR g hg
  have hmlt := Kd.R_lt h.mem
  have hmove : ∀ {j : Nat} {y : S45} {c : List Value} {ok : Nat → Prop}, (∀ k, ok k → k ≠ g) → k45.M W4 w.heap.size ok y c → k45.M (W4.setCell ⟨g, t * 4 + 1, none⟩ v1) w.heap.size ok y c := fun hok hM => k45.M_move (fun k hk => hfar k (hok k hk)) hM
  refine ⟨(hfar gO hgO).trans h4.out, h.ge, (hfar _ hres).trans h4.res, ?_, ⟨_, ?_, hR5, ?_, fun k => if W3.heap.size ≤ k then t else f k, ?_⟩, below_set h4.bel hgw⟩
  · exact Kd.R_set h4.mem hcells (by decide) _ _
  · rw [List.length_set, hrl]
  · intro j hj
    rw [List.getElem?_set_ne (by omega)]
    exact hrest j (by omega)
  · intro j y c hj hy hc
    rw [hg]
    by_cases e : j = t
    · subst e
      rw [hx] at hy
      obtain rfl := Option.some.inj hy
      rw [show ((j : Int)).toNat = j by omega, List.getElem?_set_self (by omega)] at hc
      obtain rfl := Option.some.inj hc
      refine hmove (j := j) (fun k hk e => hk.2.1 (by rw [e])) ?_
      have new : ∀ k, W3.heap.size ≤ k → ((if W3.heap.size ≤ k then j else f k) = j ∧ some k ≠ some g ∧ some k ≠ vm.ownBlock) := fun k hk => ⟨if_pos hk, fun e => by injection e with e; omega, fun e => by have := hmlt k e.symm; omega⟩
      exact k45_mkM _ _ _ x (Kd.R_lower (Kd.R_mono (Kd.R_bound h1) (fun k hk => new k hk.2.1)) h.bel.size) (by rw [hf3]; exact Kd.R_nil _ _ _ _ _)
    · rw [List.getElem?_set_ne (by omega)] at hc
      have hM := hf j y c (by omega) hy hc
      rw [hg] at hM
      have hM2 := k45.M_mono (ok' := fun k => (if W3.heap.size ≤ k then t else f k) = j ∧ some k ≠ some g ∧ some k ≠ vm.ownBlock) (fun k hk => ⟨by rw [if_neg (by have := hk.2.2.1; omega)]; exact hk.1.1, hk.1.2⟩) (k45.M_bound hM)
      exact hmove (j := j) (fun k hk e => hk.2.1 (by rw [e])) (Kd.M_below hM2 hb)
theorem OInv.oldCell {w W3 W4 : World} {l0 : List Int} {l1 : List S45} {rows : List (List Value)} {gO t g n cap : Nat} {vm : Value} (h : OInv w l0 l1 rows gO vm (.slice (some ⟨g, 0, none⟩) n cap) t W3) (hb : Below W3.heap.size W3 W4) (ht : t < l1.length) : ∃ u, W4.cell? ⟨g, t * 4 + 1, none⟩ = some u := by
  obtain ⟨rws, hrl, hR, hrest, f, hf⟩ := h.ths
  obtain ⟨c, hc4, hM, hcc⟩ := Kd.R_getA (Kd.R_below hR hb) [] (t : Int) (by omega) (by have := (Kd.R_reads' hR).1; omega)
  have hc4' : c.length = 4 := hc4
  have := hcc 1 (c[1]'(by omega)) (List.getElem?_eq_getElem (by omega))
  rw [add_at, Nat.zero_add, show ((t : Int)).toNat = t by omega] at this
  exact ⟨_, this⟩
set_option maxRecDepth 100000 in
set_option maxHeartbeats 4000000 in
theorem sc_Begin.calls (A0_0 : Option Addr) (c0_0 : Nat) (l0_0 : List Int) (A0_1 : Option Addr) (c0_1 : Nat) (l0_1 : List (List S39)) (r1 : List Int) (r2 : List S45) (w : World)
    (hr0_0 : Kd.C (Kd.int .i64) w A0_0 l0_0.length l0_0) (hc0_0 : l0_0.length ≤ c0_0) (hr0_1 : Kd.C (Kd.slice 39 k39) w A0_1 l0_1.length l0_1) (hc0_1 : l0_1.length ≤ c0_1)
    (h : sc_Begin.f l0_0 l0_1 = some (r1, r2)) :
    Calls Try.prog 15 #[.agg #[.slice A0_0 l0_0.length c0_0, .slice A0_1 l0_1.length c0_1]] w fun e w' => ∃ v0_ v1_ : Value, e = .returned (.agg #[v0_, v1_]) ∧ Kd.V (Kd.int .i64) 3 w' w.heap.size (fun k_ => (w.heap.size ≤ k_)) v0_ r1 ∧ Kd.V k45 45 w' w.heap.size (fun k_ => (w.heap.size ≤ k_)) v1_ r2 ∧ Below w.heap.size w w' := by
  unfold sc_Begin.f at h
  by_cases hst : l0_0.length ≤ 1000000 ∧ l0_1.length ≤ 1000
  rotate_left
  · rw [if_neg hst] at h; exact absurd h (by simp)
  rw [if_pos hst] at h
  simp only [Option.some.injEq, Prod.mk.injEq] at h
  obtain ⟨rfl, rfl⟩ := h
  have hu := Try.underlying28
  have hu2 := Try.underlying25
  have hu3 := Try.underlying45
  have HR0 := Aside0.mk hr0_0
  have H0 := Aside0.mk hst.1
  have H1 := Aside0.mk hst.2
  clear hr0_0 hc0_0 hr0_1 hc0_1 hst
  go_enter Try.func15, Try.ntmps15
  go_wp2_with fail
  have BK := Aside0.mk (blk_drew (blk_alloc (blk_new w (.cells #[.slice A0_0 l0_0.length c0_0, .slice A0_1 l0_1.length c0_1] 25)) (.cells #[.slice none 0 0, .slice none 0 0] 28)))
  have BR := Aside0.mk (blk_drew (blk_new (w.alloc (.cells #[.slice A0_0 l0_0.length c0_0, .slice A0_1 l0_1.length c0_1] 25)) (.cells #[.slice none 0 0, .slice none 0 0] 28)))
  have HB := Aside0.mk (below_drew1 (below_alloc (below_alloc (Below.refl w.heap.size w) (.cells #[.slice A0_0 l0_0.length c0_0, .slice A0_1 l0_1.length c0_1] 25)) (.cells #[.slice none 0 0, .slice none 0 0] 28)))
  refine start_ (n := 11) (S := fun w' => w'.cell? ⟨w.heap.size, 0, none⟩ = some (.slice A0_0 l0_0.length c0_0) ∧ w'.cell? ⟨w.heap.size, 1, none⟩ = some (.slice A0_1 l0_1.length c0_1)) (ds := [10]) #[false, false, false, false, false, false, false, false, false, false, false] (by kernel_rfl) rfl rfl ⟨(blk_cell BK.out 0).trans rfl, (blk_cell BK.out 1).trans rfl⟩ (fun hHeld => ?_)
  rw [World.size_alloc] at BR
  generalize ((w.alloc (.cells #[.slice A0_0 l0_0.length c0_0, .slice A0_1 l0_1.length c0_1] 25)).alloc (.cells #[.slice none 0 0, .slice none 0 0] 28)).drew = w0 at BK BR HB hHeld ⊢
  refine pure_ (i := 0) (N := some 5) (v := ?_) (a' := ?_) #[true, false, false, false, false, false, false, false, false, false, false] rfl rfl (by kernel_rfl) (fun _ _ _ h => h) (Or.inl ⟨by rfl, ?_⟩) ?_ ?_
  rotate_left
  · intro w'
    go_simp
    with_reducible rfl
  rotate_left
  · simp only [Act.put, List.setIfInBounds_toArray, List.set_cons_zero, List.set_cons_succ, i64_w, i32_w]
    rfl
  refine pure_ (i := 4) (N := some 9) (v := ?_) (a' := ?_) #[true, false, false, false, true, false, false, false, false, false, false] rfl rfl (by kernel_rfl) (fun _ _ _ h => h) (Or.inl ⟨by rfl, ?_⟩) ?_ ?_
  rotate_left
  · intro w'
    go_simp
    with_reducible rfl
  rotate_left
  · simp only [Act.put, List.setIfInBounds_toArray, List.set_cons_zero, List.set_cons_succ, i64_w, i32_w]
    rfl
  refine take_ (i := 1) (N := some 6) (v := ?_) (a' := ?_) #[true, true, false, false, true, false, false, false, false, false, false] rfl rfl (by kernel_rfl) (fun _ _ _ h => h) (Or.inl ⟨by rfl, ?_⟩) hHeld ?_ ?_
  rotate_left
  · rintro w' ⟨s0, s1⟩
    go_simp
    with_reducible rfl
  rotate_left
  · simp only [Act.put, List.setIfInBounds_toArray, List.set_cons_zero, List.set_cons_succ, i64_w, i32_w]
    rfl
  refine take_ (i := 5) (N := some 10) (v := ?_) (a' := ?_) #[true, true, false, false, true, true, false, false, false, false, false] rfl rfl (by kernel_rfl) (fun _ _ _ h => h) (Or.inl ⟨by rfl, ?_⟩) hHeld ?_ ?_
  rotate_left
  · rintro w' ⟨s0, s1⟩
    go_simp
    with_reducible rfl
  rotate_left
  · simp only [Act.put, List.setIfInBounds_toArray, List.set_cons_zero, List.set_cons_succ, i64_w, i32_w]
    rfl
  refine pure_ (i := 2) (N := some 7) (v := ?_) (a' := ?_) #[true, true, true, false, true, true, false, false, false, false, false] rfl rfl (by kernel_rfl) (fun _ _ _ h => h) (Or.inl ⟨by rfl, ?_⟩) ?_ ?_
  rotate_left
  · intro w'
    go_simp
    with_reducible rfl
  rotate_left
  · simp only [Act.put, List.setIfInBounds_toArray, List.set_cons_zero, List.set_cons_succ, i64_w, i32_w]
    rfl
  refine pure_ (i := 6) (N := some 11) (v := ?_) (a' := ?_) #[true, true, true, false, true, true, true, false, false, false, false] rfl rfl (by kernel_rfl) (fun _ _ _ h => h) (Or.inl ⟨by rfl, ?_⟩) ?_ ?_
  rotate_left
  · intro w'
    go_simp
    with_reducible rfl
  rotate_left
  · simp only [Act.put, List.setIfInBounds_toArray, List.set_cons_zero, List.set_cons_succ, i64_w, i32_w]
    rfl
  refine join_ (σ := (Option Addr × Nat) × (Option Addr × Nat) × Nat) 1 #[true, true, true, true, true, true, true, true, true, true, false] (fun s_ => [(8, .slice s_.1.1 l0_0.length s_.1.2), (12, .slice s_.2.1.1 l0_1.length s_.2.1.2), (13, .agg #[.slice s_.1.1 l0_0.length s_.1.2, .slice s_.2.1.1 l0_1.length s_.2.1.2]), (3, .pointer (some ⟨s_.2.2, 0, none⟩))]) (fun s_ w' => (w'.heap[w.heap.size]? = some (.cells #[.slice A0_0 l0_0.length c0_0, .slice A0_1 l0_1.length c0_1] 25 (0, 0))) ∧ (w'.heap[w.heap.size + 1]? = some (.cells #[.slice none 0 0, .slice none 0 0] 28 (0, 0))) ∧ Kd.R (Kd.int .i64) 3 w' w.heap.size (fun _ => True) (.slice s_.1.1 l0_0.length s_.1.2) (List.replicate l0_0.length 0) ∧ Kd.R (Kd.raw 4) 45 w' w.heap.size (fun _ => True) (.slice s_.2.1.1 l0_1.length s_.2.1.2) (List.replicate l0_1.length zrow) ∧ (w'.heap[s_.2.2]? = some (.cells #[.slice none 0 0, .slice none 0 0] 28 (0, 0))) ∧ w.heap.size ≤ s_.2.2 ∧ s_.2.2 ≠ w.heap.size ∧ s_.2.2 ≠ w.heap.size + 1 ∧ Below w.heap.size w w') ?_ ?_
  rotate_left
  · intro hCont
    refine three_ (i := 3) (j := 7) (k := 9) (Ni := some 8) (Nj := some 12) (Nk := some 3) #[true, true, true, true, true, true, true, false, false, false, false] #[true, true, true, false, true, true, true, true, false, false, false] #[true, true, true, false, true, true, true, false, false, true, false] rfl rfl rfl rfl rfl rfl (by kernel_rfl) (by decide) (by decide) (by decide) (fun K hK => ?_) (fun K hK => ?_) (fun K hK => ?_)
    · skip
      refine Kd.R_make_step (Kd.int .i64) _ 3 (by rfl) (N := 8) rfl 22 _ _ rfl (l0_0.length : Int) rfl rfl Try.underlying22 (.int .i64 0) 8 info3 rfl (by decide) (by omega) 0 (ok := fun _ => True) (okp := fun _ => True) rfl (fun _ hk => hk) trivial (by omega) (by have := H0.out; omega) (Below.refl _ _) (Nat.le_refl _) ?_
      intro va w1_ hRa hb hg_ hnew_
      clear hg_ hnew_
      rw [Int.toNat_natCast] at hRa
      obtain ⟨Aa, ca, hva⟩ := Kd.R_slice hRa
      rw [List.length_replicate] at hva
      subst hva
      have HA := Aside0.mk (Kd.R_lower hRa (below_size HB.out))
      clear hRa
      have n0_ := Aside0.mk (blk_below BK.out hb)
      have n1_ := Aside0.mk (blk_below BR.out hb)
      have n2_ := Aside0.mk (below_step HB.out hb)
      clear BK BR HB
      have BK := n0_
      have BR := n1_
      have HB := n2_
      clear n0_ n1_ n2_
      clear hb
      refine hK.out _ _ ⟨(blk_cell BK.out 0).trans rfl, (blk_cell BK.out 1).trans rfl⟩ (fun hHeld => ?_)
      clear hK K
      refine norm_ (a' := ?_) ?_ ?_
      rotate_left
      · show Act.put _ (some 8) _ = _
        simp only [Act.put, List.setIfInBounds_toArray, List.set_cons_zero, List.set_cons_succ, i64_w, i32_w]
        rfl
      refine two_ (i := 7) (j := 9) (Ni := some 12) (Nj := some 3) #[true, true, true, true, true, true, true, true, false, false, false] #[true, true, true, true, true, true, true, false, false, true, false] rfl rfl rfl rfl (by kernel_rfl) (by decide) (by decide) (fun K hK => ?_) (fun K hK => ?_)
      · skip
        refine Kd.R_make_step (Kd.raw 4) _ 45 (by rfl) (N := 12) rfl 26 _ _ rfl (l0_1.length : Int) rfl rfl Try.underlying26 (.agg #[(.int .i64 0), (.slice none 0 0), (.bool false), (.slice none 0 0)]) 64 info45 rfl (by decide) (by omega) zrow (ok := fun _ => True) (okp := fun _ => True) (zrow_M _ _ _) (fun _ hk => hk) trivial (by omega) (by have := H1.out; omega) (Below.refl _ _) (Nat.le_refl _) ?_
        intro vb w1_ hRb hb hg_ hnew_
        clear hg_ hnew_
        rw [Int.toNat_natCast] at hRb
        obtain ⟨Ab, cb, hvb⟩ := Kd.R_slice hRb
        rw [List.length_replicate] at hvb
        subst hvb
        have HT := Aside0.mk (Kd.R_lower hRb (below_size HB.out))
        clear hRb
        have n0_ := Aside0.mk (blk_below BK.out hb)
        have n1_ := Aside0.mk (blk_below BR.out hb)
        have n2_ := Aside0.mk (below_step HB.out hb)
        have n3_ := Aside0.mk (Kd.R_below HA.out hb)
        clear BK BR HB HA
        have BK := n0_
        have BR := n1_
        have HB := n2_
        have HA := n3_
        clear n0_ n1_ n2_ n3_
        clear hb
        refine hK.out _ _ ⟨(blk_cell BK.out 0).trans rfl, (blk_cell BK.out 1).trans rfl⟩ (fun hHeld => ?_)
        clear hK K
        refine norm_ (a' := ?_) ?_ ?_
        rotate_left
        · show Act.put _ (some 12) _ = _
          simp only [Act.put, List.setIfInBounds_toArray, List.set_cons_zero, List.set_cons_succ, i64_w, i32_w]
          rfl
        refine pure_ (i := 8) (N := some 13) (v := ?_) (a' := ?_) #[true, true, true, true, true, true, true, true, true, false, false] rfl rfl (by kernel_rfl) (fun _ _ _ h => h) (Or.inl ⟨by rfl, ?_⟩) ?_ ?_
        rotate_left
        · intro w'
          go_simp
          with_reducible rfl
        rotate_left
        · simp only [Act.put, List.setIfInBounds_toArray, List.set_cons_zero, List.set_cons_succ, i64_w, i32_w]
          rfl
        refine one_ (i := 9) (N := some 3) #[true, true, true, true, true, true, true, true, true, true, false] rfl rfl (by kernel_rfl) (by decide) (fun K hK => ?_)
        refine box_step ?hg (N := 3) ?hd (cs := #[.slice none 0 0, .slice none 0 0]) (t := 28) ?hr ?_; (case hd => rfl); (case hg => rfl); (case hr => first | (go_simp; done) | (go_simp; rfl))
        intro gO hg w1_ hbox hb
        have GE : Aside0 (w.heap.size ≤ gO) := Aside0.mk (by rw [hg]; exact below_size HB.out)
        have NE : Aside0 (gO ≠ w.heap.size) := Aside0.mk (by rw [hg]; exact Nat.ne_of_gt (blk_lt BK.out))
        have NR : Aside0 (gO ≠ w.heap.size + 1) := Aside0.mk (by rw [hg]; exact Nat.ne_of_gt (blk_lt BR.out))
        have BO := Aside0.mk hbox
        clear hbox
        have n0_ := Aside0.mk (blk_below BK.out hb)
        have n1_ := Aside0.mk (blk_below BR.out hb)
        have n2_ := Aside0.mk (below_step HB.out hb)
        have n3_ := Aside0.mk (Kd.R_below HA.out hb)
        have n4_ := Aside0.mk (Kd.R_below HT.out hb)
        clear BK BR HB HA HT
        have BK := n0_
        have BR := n1_
        have HB := n2_
        have HA := n3_
        have HT := n4_
        clear n0_ n1_ n2_ n3_ n4_
        clear hb hg
        refine hK.out _ _ ⟨(blk_cell BK.out 0).trans rfl, (blk_cell BK.out 1).trans rfl⟩ (fun hHeld => ?_)
        clear hK K
        refine norm_ (a' := ?_) ?_ ?_
        rotate_left
        · show Act.put _ (some 3) _ = _
          simp only [Act.put, List.setIfInBounds_toArray, List.set_cons_zero, List.set_cons_succ, i64_w, i32_w]
          rfl
        exact norm_ (by simp only [putAll, Act.put, List.setIfInBounds_toArray, List.set_cons_zero, List.set_cons_succ]) (hCont ((Aa, ca), (Ab, cb), gO) _ ⟨BK.out, BR.out, HA.out, HT.out, BO.out, GE.out, NE.out, NR.out, HB.out⟩)
      · skip
        refine box_step ?hg (N := 3) ?hd (cs := #[.slice none 0 0, .slice none 0 0]) (t := 28) ?hr ?_; (case hd => rfl); (case hg => rfl); (case hr => first | (go_simp; done) | (go_simp; rfl))
        intro gO hg w1_ hbox hb
        have GE : Aside0 (w.heap.size ≤ gO) := Aside0.mk (by rw [hg]; exact below_size HB.out)
        have NE : Aside0 (gO ≠ w.heap.size) := Aside0.mk (by rw [hg]; exact Nat.ne_of_gt (blk_lt BK.out))
        have NR : Aside0 (gO ≠ w.heap.size + 1) := Aside0.mk (by rw [hg]; exact Nat.ne_of_gt (blk_lt BR.out))
        have BO := Aside0.mk hbox
        clear hbox
        have n0_ := Aside0.mk (blk_below BK.out hb)
        have n1_ := Aside0.mk (blk_below BR.out hb)
        have n2_ := Aside0.mk (below_step HB.out hb)
        have n3_ := Aside0.mk (Kd.R_below HA.out hb)
        clear BK BR HB HA
        have BK := n0_
        have BR := n1_
        have HB := n2_
        have HA := n3_
        clear n0_ n1_ n2_ n3_
        clear hb hg
        refine hK.out _ _ ⟨(blk_cell BK.out 0).trans rfl, (blk_cell BK.out 1).trans rfl⟩ (fun hHeld => ?_)
        clear hK K
        refine norm_ (a' := ?_) ?_ ?_
        rotate_left
        · show Act.put _ (some 3) _ = _
          simp only [Act.put, List.setIfInBounds_toArray, List.set_cons_zero, List.set_cons_succ, i64_w, i32_w]
          rfl
        refine one_ (i := 7) (N := some 12) #[true, true, true, true, true, true, true, true, false, true, false] rfl rfl (by kernel_rfl) (by decide) (fun K hK => ?_)
        refine Kd.R_make_step (Kd.raw 4) _ 45 (by rfl) (N := 12) rfl 26 _ _ rfl (l0_1.length : Int) rfl rfl Try.underlying26 (.agg #[(.int .i64 0), (.slice none 0 0), (.bool false), (.slice none 0 0)]) 64 info45 rfl (by decide) (by omega) zrow (ok := fun _ => True) (okp := fun _ => True) (zrow_M _ _ _) (fun _ hk => hk) trivial (by omega) (by have := H1.out; omega) (Below.refl _ _) (Nat.le_refl _) ?_
        intro vb w1_ hRb hb hg_ hnew_
        clear hg_ hnew_
        rw [Int.toNat_natCast] at hRb
        obtain ⟨Ab, cb, hvb⟩ := Kd.R_slice hRb
        rw [List.length_replicate] at hvb
        subst hvb
        have HT := Aside0.mk (Kd.R_lower hRb (below_size HB.out))
        clear hRb
        have n0_ := Aside0.mk (blk_below BK.out hb)
        have n1_ := Aside0.mk (blk_below BR.out hb)
        have n2_ := Aside0.mk (below_step HB.out hb)
        have n3_ := Aside0.mk (Kd.R_below HA.out hb)
        have n4_ := Aside0.mk (blk_below BO.out hb)
        clear BK BR HB HA BO
        have BK := n0_
        have BR := n1_
        have HB := n2_
        have HA := n3_
        have BO := n4_
        clear n0_ n1_ n2_ n3_ n4_
        clear hb
        refine hK.out _ _ ⟨(blk_cell BK.out 0).trans rfl, (blk_cell BK.out 1).trans rfl⟩ (fun hHeld => ?_)
        clear hK K
        refine norm_ (a' := ?_) ?_ ?_
        rotate_left
        · show Act.put _ (some 12) _ = _
          simp only [Act.put, List.setIfInBounds_toArray, List.set_cons_zero, List.set_cons_succ, i64_w, i32_w]
          rfl
        refine pure_ (i := 8) (N := some 13) (v := ?_) (a' := ?_) #[true, true, true, true, true, true, true, true, true, true, false] rfl rfl (by kernel_rfl) (fun _ _ _ h => h) (Or.inl ⟨by rfl, ?_⟩) ?_ ?_
        rotate_left
        · intro w'
          go_simp
          with_reducible rfl
        rotate_left
        · simp only [Act.put, List.setIfInBounds_toArray, List.set_cons_zero, List.set_cons_succ, i64_w, i32_w]
          rfl
        exact norm_ (by simp only [putAll, Act.put, List.setIfInBounds_toArray, List.set_cons_zero, List.set_cons_succ]) (hCont ((Aa, ca), (Ab, cb), gO) _ ⟨BK.out, BR.out, HA.out, HT.out, BO.out, GE.out, NE.out, NR.out, HB.out⟩)
    · skip
      refine Kd.R_make_step (Kd.raw 4) _ 45 (by rfl) (N := 12) rfl 26 _ _ rfl (l0_1.length : Int) rfl rfl Try.underlying26 (.agg #[(.int .i64 0), (.slice none 0 0), (.bool false), (.slice none 0 0)]) 64 info45 rfl (by decide) (by omega) zrow (ok := fun _ => True) (okp := fun _ => True) (zrow_M _ _ _) (fun _ hk => hk) trivial (by omega) (by have := H1.out; omega) (Below.refl _ _) (Nat.le_refl _) ?_
      intro vb w1_ hRb hb hg_ hnew_
      clear hg_ hnew_
      rw [Int.toNat_natCast] at hRb
      obtain ⟨Ab, cb, hvb⟩ := Kd.R_slice hRb
      rw [List.length_replicate] at hvb
      subst hvb
      have HT := Aside0.mk (Kd.R_lower hRb (below_size HB.out))
      clear hRb
      have n0_ := Aside0.mk (blk_below BK.out hb)
      have n1_ := Aside0.mk (blk_below BR.out hb)
      have n2_ := Aside0.mk (below_step HB.out hb)
      clear BK BR HB
      have BK := n0_
      have BR := n1_
      have HB := n2_
      clear n0_ n1_ n2_
      clear hb
      refine hK.out _ _ ⟨(blk_cell BK.out 0).trans rfl, (blk_cell BK.out 1).trans rfl⟩ (fun hHeld => ?_)
      clear hK K
      refine norm_ (a' := ?_) ?_ ?_
      rotate_left
      · show Act.put _ (some 12) _ = _
        simp only [Act.put, List.setIfInBounds_toArray, List.set_cons_zero, List.set_cons_succ, i64_w, i32_w]
        rfl
      refine two_ (i := 3) (j := 9) (Ni := some 8) (Nj := some 3) #[true, true, true, true, true, true, true, true, false, false, false] #[true, true, true, false, true, true, true, true, false, true, false] rfl rfl rfl rfl (by kernel_rfl) (by decide) (by decide) (fun K hK => ?_) (fun K hK => ?_)
      · skip
        refine Kd.R_make_step (Kd.int .i64) _ 3 (by rfl) (N := 8) rfl 22 _ _ rfl (l0_0.length : Int) rfl rfl Try.underlying22 (.int .i64 0) 8 info3 rfl (by decide) (by omega) 0 (ok := fun _ => True) (okp := fun _ => True) rfl (fun _ hk => hk) trivial (by omega) (by have := H0.out; omega) (Below.refl _ _) (Nat.le_refl _) ?_
        intro va w1_ hRa hb hg_ hnew_
        clear hg_ hnew_
        rw [Int.toNat_natCast] at hRa
        obtain ⟨Aa, ca, hva⟩ := Kd.R_slice hRa
        rw [List.length_replicate] at hva
        subst hva
        have HA := Aside0.mk (Kd.R_lower hRa (below_size HB.out))
        clear hRa
        have n0_ := Aside0.mk (blk_below BK.out hb)
        have n1_ := Aside0.mk (blk_below BR.out hb)
        have n2_ := Aside0.mk (below_step HB.out hb)
        have n3_ := Aside0.mk (Kd.R_below HT.out hb)
        clear BK BR HB HT
        have BK := n0_
        have BR := n1_
        have HB := n2_
        have HT := n3_
        clear n0_ n1_ n2_ n3_
        clear hb
        refine hK.out _ _ ⟨(blk_cell BK.out 0).trans rfl, (blk_cell BK.out 1).trans rfl⟩ (fun hHeld => ?_)
        clear hK K
        refine norm_ (a' := ?_) ?_ ?_
        rotate_left
        · show Act.put _ (some 8) _ = _
          simp only [Act.put, List.setIfInBounds_toArray, List.set_cons_zero, List.set_cons_succ, i64_w, i32_w]
          rfl
        refine pure_ (i := 8) (N := some 13) (v := ?_) (a' := ?_) #[true, true, true, true, true, true, true, true, true, false, false] rfl rfl (by kernel_rfl) (fun _ _ _ h => h) (Or.inl ⟨by rfl, ?_⟩) ?_ ?_
        rotate_left
        · intro w'
          go_simp
          with_reducible rfl
        rotate_left
        · simp only [Act.put, List.setIfInBounds_toArray, List.set_cons_zero, List.set_cons_succ, i64_w, i32_w]
          rfl
        refine one_ (i := 9) (N := some 3) #[true, true, true, true, true, true, true, true, true, true, false] rfl rfl (by kernel_rfl) (by decide) (fun K hK => ?_)
        refine box_step ?hg (N := 3) ?hd (cs := #[.slice none 0 0, .slice none 0 0]) (t := 28) ?hr ?_; (case hd => rfl); (case hg => rfl); (case hr => first | (go_simp; done) | (go_simp; rfl))
        intro gO hg w1_ hbox hb
        have GE : Aside0 (w.heap.size ≤ gO) := Aside0.mk (by rw [hg]; exact below_size HB.out)
        have NE : Aside0 (gO ≠ w.heap.size) := Aside0.mk (by rw [hg]; exact Nat.ne_of_gt (blk_lt BK.out))
        have NR : Aside0 (gO ≠ w.heap.size + 1) := Aside0.mk (by rw [hg]; exact Nat.ne_of_gt (blk_lt BR.out))
        have BO := Aside0.mk hbox
        clear hbox
        have n0_ := Aside0.mk (blk_below BK.out hb)
        have n1_ := Aside0.mk (blk_below BR.out hb)
        have n2_ := Aside0.mk (below_step HB.out hb)
        have n3_ := Aside0.mk (Kd.R_below HA.out hb)
        have n4_ := Aside0.mk (Kd.R_below HT.out hb)
        clear BK BR HB HA HT
        have BK := n0_
        have BR := n1_
        have HB := n2_
        have HA := n3_
        have HT := n4_
        clear n0_ n1_ n2_ n3_ n4_
        clear hb hg
        refine hK.out _ _ ⟨(blk_cell BK.out 0).trans rfl, (blk_cell BK.out 1).trans rfl⟩ (fun hHeld => ?_)
        clear hK K
        refine norm_ (a' := ?_) ?_ ?_
        rotate_left
        · show Act.put _ (some 3) _ = _
          simp only [Act.put, List.setIfInBounds_toArray, List.set_cons_zero, List.set_cons_succ, i64_w, i32_w]
          rfl
        exact norm_ (by simp only [putAll, Act.put, List.setIfInBounds_toArray, List.set_cons_zero, List.set_cons_succ]) (hCont ((Aa, ca), (Ab, cb), gO) _ ⟨BK.out, BR.out, HA.out, HT.out, BO.out, GE.out, NE.out, NR.out, HB.out⟩)
      · skip
        refine box_step ?hg (N := 3) ?hd (cs := #[.slice none 0 0, .slice none 0 0]) (t := 28) ?hr ?_; (case hd => rfl); (case hg => rfl); (case hr => first | (go_simp; done) | (go_simp; rfl))
        intro gO hg w1_ hbox hb
        have GE : Aside0 (w.heap.size ≤ gO) := Aside0.mk (by rw [hg]; exact below_size HB.out)
        have NE : Aside0 (gO ≠ w.heap.size) := Aside0.mk (by rw [hg]; exact Nat.ne_of_gt (blk_lt BK.out))
        have NR : Aside0 (gO ≠ w.heap.size + 1) := Aside0.mk (by rw [hg]; exact Nat.ne_of_gt (blk_lt BR.out))
        have BO := Aside0.mk hbox
        clear hbox
        have n0_ := Aside0.mk (blk_below BK.out hb)
        have n1_ := Aside0.mk (blk_below BR.out hb)
        have n2_ := Aside0.mk (below_step HB.out hb)
        have n3_ := Aside0.mk (Kd.R_below HT.out hb)
        clear BK BR HB HT
        have BK := n0_
        have BR := n1_
        have HB := n2_
        have HT := n3_
        clear n0_ n1_ n2_ n3_
        clear hb hg
        refine hK.out _ _ ⟨(blk_cell BK.out 0).trans rfl, (blk_cell BK.out 1).trans rfl⟩ (fun hHeld => ?_)
        clear hK K
        refine norm_ (a' := ?_) ?_ ?_
        rotate_left
        · show Act.put _ (some 3) _ = _
          simp only [Act.put, List.setIfInBounds_toArray, List.set_cons_zero, List.set_cons_succ, i64_w, i32_w]
          rfl
        refine one_ (i := 3) (N := some 8) #[true, true, true, true, true, true, true, true, false, true, false] rfl rfl (by kernel_rfl) (by decide) (fun K hK => ?_)
        refine Kd.R_make_step (Kd.int .i64) _ 3 (by rfl) (N := 8) rfl 22 _ _ rfl (l0_0.length : Int) rfl rfl Try.underlying22 (.int .i64 0) 8 info3 rfl (by decide) (by omega) 0 (ok := fun _ => True) (okp := fun _ => True) rfl (fun _ hk => hk) trivial (by omega) (by have := H0.out; omega) (Below.refl _ _) (Nat.le_refl _) ?_
        intro va w1_ hRa hb hg_ hnew_
        clear hg_ hnew_
        rw [Int.toNat_natCast] at hRa
        obtain ⟨Aa, ca, hva⟩ := Kd.R_slice hRa
        rw [List.length_replicate] at hva
        subst hva
        have HA := Aside0.mk (Kd.R_lower hRa (below_size HB.out))
        clear hRa
        have n0_ := Aside0.mk (blk_below BK.out hb)
        have n1_ := Aside0.mk (blk_below BR.out hb)
        have n2_ := Aside0.mk (below_step HB.out hb)
        have n3_ := Aside0.mk (Kd.R_below HT.out hb)
        have n4_ := Aside0.mk (blk_below BO.out hb)
        clear BK BR HB HT BO
        have BK := n0_
        have BR := n1_
        have HB := n2_
        have HT := n3_
        have BO := n4_
        clear n0_ n1_ n2_ n3_ n4_
        clear hb
        refine hK.out _ _ ⟨(blk_cell BK.out 0).trans rfl, (blk_cell BK.out 1).trans rfl⟩ (fun hHeld => ?_)
        clear hK K
        refine norm_ (a' := ?_) ?_ ?_
        rotate_left
        · show Act.put _ (some 8) _ = _
          simp only [Act.put, List.setIfInBounds_toArray, List.set_cons_zero, List.set_cons_succ, i64_w, i32_w]
          rfl
        refine pure_ (i := 8) (N := some 13) (v := ?_) (a' := ?_) #[true, true, true, true, true, true, true, true, true, true, false] rfl rfl (by kernel_rfl) (fun _ _ _ h => h) (Or.inl ⟨by rfl, ?_⟩) ?_ ?_
        rotate_left
        · intro w'
          go_simp
          with_reducible rfl
        rotate_left
        · simp only [Act.put, List.setIfInBounds_toArray, List.set_cons_zero, List.set_cons_succ, i64_w, i32_w]
          rfl
        exact norm_ (by simp only [putAll, Act.put, List.setIfInBounds_toArray, List.set_cons_zero, List.set_cons_succ]) (hCont ((Aa, ca), (Ab, cb), gO) _ ⟨BK.out, BR.out, HA.out, HT.out, BO.out, GE.out, NE.out, NR.out, HB.out⟩)
    · skip
      refine box_step ?hg (N := 3) ?hd (cs := #[.slice none 0 0, .slice none 0 0]) (t := 28) ?hr ?_; (case hd => rfl); (case hg => rfl); (case hr => first | (go_simp; done) | (go_simp; rfl))
      intro gO hg w1_ hbox hb
      have GE : Aside0 (w.heap.size ≤ gO) := Aside0.mk (by rw [hg]; exact below_size HB.out)
      have NE : Aside0 (gO ≠ w.heap.size) := Aside0.mk (by rw [hg]; exact Nat.ne_of_gt (blk_lt BK.out))
      have NR : Aside0 (gO ≠ w.heap.size + 1) := Aside0.mk (by rw [hg]; exact Nat.ne_of_gt (blk_lt BR.out))
      have BO := Aside0.mk hbox
      clear hbox
      have n0_ := Aside0.mk (blk_below BK.out hb)
      have n1_ := Aside0.mk (blk_below BR.out hb)
      have n2_ := Aside0.mk (below_step HB.out hb)
      clear BK BR HB
      have BK := n0_
      have BR := n1_
      have HB := n2_
      clear n0_ n1_ n2_
      clear hb hg
      refine hK.out _ _ ⟨(blk_cell BK.out 0).trans rfl, (blk_cell BK.out 1).trans rfl⟩ (fun hHeld => ?_)
      clear hK K
      refine norm_ (a' := ?_) ?_ ?_
      rotate_left
      · show Act.put _ (some 3) _ = _
        simp only [Act.put, List.setIfInBounds_toArray, List.set_cons_zero, List.set_cons_succ, i64_w, i32_w]
        rfl
      refine two_ (i := 3) (j := 7) (Ni := some 8) (Nj := some 12) #[true, true, true, true, true, true, true, false, false, true, false] #[true, true, true, false, true, true, true, true, false, true, false] rfl rfl rfl rfl (by kernel_rfl) (by decide) (by decide) (fun K hK => ?_) (fun K hK => ?_)
      · skip
        refine Kd.R_make_step (Kd.int .i64) _ 3 (by rfl) (N := 8) rfl 22 _ _ rfl (l0_0.length : Int) rfl rfl Try.underlying22 (.int .i64 0) 8 info3 rfl (by decide) (by omega) 0 (ok := fun _ => True) (okp := fun _ => True) rfl (fun _ hk => hk) trivial (by omega) (by have := H0.out; omega) (Below.refl _ _) (Nat.le_refl _) ?_
        intro va w1_ hRa hb hg_ hnew_
        clear hg_ hnew_
        rw [Int.toNat_natCast] at hRa
        obtain ⟨Aa, ca, hva⟩ := Kd.R_slice hRa
        rw [List.length_replicate] at hva
        subst hva
        have HA := Aside0.mk (Kd.R_lower hRa (below_size HB.out))
        clear hRa
        have n0_ := Aside0.mk (blk_below BK.out hb)
        have n1_ := Aside0.mk (blk_below BR.out hb)
        have n2_ := Aside0.mk (below_step HB.out hb)
        have n3_ := Aside0.mk (blk_below BO.out hb)
        clear BK BR HB BO
        have BK := n0_
        have BR := n1_
        have HB := n2_
        have BO := n3_
        clear n0_ n1_ n2_ n3_
        clear hb
        refine hK.out _ _ ⟨(blk_cell BK.out 0).trans rfl, (blk_cell BK.out 1).trans rfl⟩ (fun hHeld => ?_)
        clear hK K
        refine norm_ (a' := ?_) ?_ ?_
        rotate_left
        · show Act.put _ (some 8) _ = _
          simp only [Act.put, List.setIfInBounds_toArray, List.set_cons_zero, List.set_cons_succ, i64_w, i32_w]
          rfl
        refine one_ (i := 7) (N := some 12) #[true, true, true, true, true, true, true, true, false, true, false] rfl rfl (by kernel_rfl) (by decide) (fun K hK => ?_)
        refine Kd.R_make_step (Kd.raw 4) _ 45 (by rfl) (N := 12) rfl 26 _ _ rfl (l0_1.length : Int) rfl rfl Try.underlying26 (.agg #[(.int .i64 0), (.slice none 0 0), (.bool false), (.slice none 0 0)]) 64 info45 rfl (by decide) (by omega) zrow (ok := fun _ => True) (okp := fun _ => True) (zrow_M _ _ _) (fun _ hk => hk) trivial (by omega) (by have := H1.out; omega) (Below.refl _ _) (Nat.le_refl _) ?_
        intro vb w1_ hRb hb hg_ hnew_
        clear hg_ hnew_
        rw [Int.toNat_natCast] at hRb
        obtain ⟨Ab, cb, hvb⟩ := Kd.R_slice hRb
        rw [List.length_replicate] at hvb
        subst hvb
        have HT := Aside0.mk (Kd.R_lower hRb (below_size HB.out))
        clear hRb
        have n0_ := Aside0.mk (blk_below BK.out hb)
        have n1_ := Aside0.mk (blk_below BR.out hb)
        have n2_ := Aside0.mk (below_step HB.out hb)
        have n3_ := Aside0.mk (Kd.R_below HA.out hb)
        have n4_ := Aside0.mk (blk_below BO.out hb)
        clear BK BR HB HA BO
        have BK := n0_
        have BR := n1_
        have HB := n2_
        have HA := n3_
        have BO := n4_
        clear n0_ n1_ n2_ n3_ n4_
        clear hb
        refine hK.out _ _ ⟨(blk_cell BK.out 0).trans rfl, (blk_cell BK.out 1).trans rfl⟩ (fun hHeld => ?_)
        clear hK K
        refine norm_ (a' := ?_) ?_ ?_
        rotate_left
        · show Act.put _ (some 12) _ = _
          simp only [Act.put, List.setIfInBounds_toArray, List.set_cons_zero, List.set_cons_succ, i64_w, i32_w]
          rfl
        refine pure_ (i := 8) (N := some 13) (v := ?_) (a' := ?_) #[true, true, true, true, true, true, true, true, true, true, false] rfl rfl (by kernel_rfl) (fun _ _ _ h => h) (Or.inl ⟨by rfl, ?_⟩) ?_ ?_
        rotate_left
        · intro w'
          go_simp
          with_reducible rfl
        rotate_left
        · simp only [Act.put, List.setIfInBounds_toArray, List.set_cons_zero, List.set_cons_succ, i64_w, i32_w]
          rfl
        exact norm_ (by simp only [putAll, Act.put, List.setIfInBounds_toArray, List.set_cons_zero, List.set_cons_succ]) (hCont ((Aa, ca), (Ab, cb), gO) _ ⟨BK.out, BR.out, HA.out, HT.out, BO.out, GE.out, NE.out, NR.out, HB.out⟩)
      · skip
        refine Kd.R_make_step (Kd.raw 4) _ 45 (by rfl) (N := 12) rfl 26 _ _ rfl (l0_1.length : Int) rfl rfl Try.underlying26 (.agg #[(.int .i64 0), (.slice none 0 0), (.bool false), (.slice none 0 0)]) 64 info45 rfl (by decide) (by omega) zrow (ok := fun _ => True) (okp := fun _ => True) (zrow_M _ _ _) (fun _ hk => hk) trivial (by omega) (by have := H1.out; omega) (Below.refl _ _) (Nat.le_refl _) ?_
        intro vb w1_ hRb hb hg_ hnew_
        clear hg_ hnew_
        rw [Int.toNat_natCast] at hRb
        obtain ⟨Ab, cb, hvb⟩ := Kd.R_slice hRb
        rw [List.length_replicate] at hvb
        subst hvb
        have HT := Aside0.mk (Kd.R_lower hRb (below_size HB.out))
        clear hRb
        have n0_ := Aside0.mk (blk_below BK.out hb)
        have n1_ := Aside0.mk (blk_below BR.out hb)
        have n2_ := Aside0.mk (below_step HB.out hb)
        have n3_ := Aside0.mk (blk_below BO.out hb)
        clear BK BR HB BO
        have BK := n0_
        have BR := n1_
        have HB := n2_
        have BO := n3_
        clear n0_ n1_ n2_ n3_
        clear hb
        refine hK.out _ _ ⟨(blk_cell BK.out 0).trans rfl, (blk_cell BK.out 1).trans rfl⟩ (fun hHeld => ?_)
        clear hK K
        refine norm_ (a' := ?_) ?_ ?_
        rotate_left
        · show Act.put _ (some 12) _ = _
          simp only [Act.put, List.setIfInBounds_toArray, List.set_cons_zero, List.set_cons_succ, i64_w, i32_w]
          rfl
        refine one_ (i := 3) (N := some 8) #[true, true, true, true, true, true, true, true, false, true, false] rfl rfl (by kernel_rfl) (by decide) (fun K hK => ?_)
        refine Kd.R_make_step (Kd.int .i64) _ 3 (by rfl) (N := 8) rfl 22 _ _ rfl (l0_0.length : Int) rfl rfl Try.underlying22 (.int .i64 0) 8 info3 rfl (by decide) (by omega) 0 (ok := fun _ => True) (okp := fun _ => True) rfl (fun _ hk => hk) trivial (by omega) (by have := H0.out; omega) (Below.refl _ _) (Nat.le_refl _) ?_
        intro va w1_ hRa hb hg_ hnew_
        clear hg_ hnew_
        rw [Int.toNat_natCast] at hRa
        obtain ⟨Aa, ca, hva⟩ := Kd.R_slice hRa
        rw [List.length_replicate] at hva
        subst hva
        have HA := Aside0.mk (Kd.R_lower hRa (below_size HB.out))
        clear hRa
        have n0_ := Aside0.mk (blk_below BK.out hb)
        have n1_ := Aside0.mk (blk_below BR.out hb)
        have n2_ := Aside0.mk (below_step HB.out hb)
        have n3_ := Aside0.mk (Kd.R_below HT.out hb)
        have n4_ := Aside0.mk (blk_below BO.out hb)
        clear BK BR HB HT BO
        have BK := n0_
        have BR := n1_
        have HB := n2_
        have HT := n3_
        have BO := n4_
        clear n0_ n1_ n2_ n3_ n4_
        clear hb
        refine hK.out _ _ ⟨(blk_cell BK.out 0).trans rfl, (blk_cell BK.out 1).trans rfl⟩ (fun hHeld => ?_)
        clear hK K
        refine norm_ (a' := ?_) ?_ ?_
        rotate_left
        · show Act.put _ (some 8) _ = _
          simp only [Act.put, List.setIfInBounds_toArray, List.set_cons_zero, List.set_cons_succ, i64_w, i32_w]
          rfl
        refine pure_ (i := 8) (N := some 13) (v := ?_) (a' := ?_) #[true, true, true, true, true, true, true, true, true, true, false] rfl rfl (by kernel_rfl) (fun _ _ _ h => h) (Or.inl ⟨by rfl, ?_⟩) ?_ ?_
        rotate_left
        · intro w'
          go_simp
          with_reducible rfl
        rotate_left
        · simp only [Act.put, List.setIfInBounds_toArray, List.set_cons_zero, List.set_cons_succ, i64_w, i32_w]
          rfl
        exact norm_ (by simp only [putAll, Act.put, List.setIfInBounds_toArray, List.set_cons_zero, List.set_cons_succ]) (hCont ((Aa, ca), (Ab, cb), gO) _ ⟨BK.out, BR.out, HA.out, HT.out, BO.out, GE.out, NE.out, NR.out, HB.out⟩)
  rintro ⟨⟨Aa, ca⟩, ⟨Ab, cb⟩, gO⟩ W1 ⟨hBK, hBR, hA, hT, hO, hge, hne, hnr, hB⟩
  clear BK BR HB hHeld
  refine norm_ (a' := ?_) ?_ ?_
  rotate_left
  · simp only [putAll, Act.put, List.setIfInBounds_toArray, List.set_cons_zero, List.set_cons_succ]
    rfl
  have HBK := Aside0.mk hBK
  have HBR := Aside0.mk hBR
  have HA := Aside0.mk hA
  have HT := Aside0.mk hT
  have HO := Aside0.mk hO
  have HGE := Aside0.mk hge
  have HNE := Aside0.mk hne
  have HNR := Aside0.mk hnr
  have HB := Aside0.mk hB
  clear hBK hBR hA hT hO hge hne hnr hB
  refine last_ (i := 10) (N := none) #[true, true, true, true, true, true, true, true, true, true, true] rfl rfl (by kernel_rfl) (by decide) (fun K hK => ?_)
  have hs0 : W1.cell? ⟨gO, 0, none⟩ = some (.slice none 0 0) := (blk_cell HO.out 0).trans rfl
  have hs1 : W1.cell? ⟨gO, 1, none⟩ = some (.slice none 0 0) := (blk_cell HO.out 1).trans rfl
  have hf0 := blk_frozen HO.out 0
  have hf1 := blk_frozen HO.out 1
  refine skip_ (w1 := ?_) (by rfl) rfl ?_ ?_
  rotate_left
  · go_simp
    rfl
  refine hK.out _ _ ?_
  clear hK K
  refine done_ (by kernel_rfl) ?_
  clear hs0 hs1 hf0 hf1
  have hO1 := blk_set HO.out 0 (Value.slice Aa l0_0.length ca)
  have hO2 := blk_set hO1 1 (Value.slice Ab l0_1.length cb)
  have hA2 := Aside0.mk (Kd.R_set (Kd.R_set HA.out HO.out (by decide) 0 (Value.slice Aa l0_0.length ca)) hO1 (by decide) 1 (Value.slice Ab l0_1.length cb))
  have hT2 := Aside0.mk (Kd.R_set (Kd.R_set HT.out HO.out (by decide) 0 (Value.slice Aa l0_0.length ca)) hO1 (by decide) 1 (Value.slice Ab l0_1.length cb))
  have hB2 := Aside0.mk (below_set (j := 1) (v := Value.slice Ab l0_1.length cb) (below_set (j := 0) (v := Value.slice Aa l0_0.length ca) HB.out HGE.out) HGE.out)
  have hR2 := Aside0.mk ((Below.heap_setCell (W1.setCell ⟨gO, 0, none⟩ (Value.slice Aa l0_0.length ca)) ⟨gO, 1, none⟩ (Value.slice Ab l0_1.length cb) (w.heap.size + 1) (fun e => HNR.out e.symm)).trans ((Below.heap_setCell W1 ⟨gO, 0, none⟩ (Value.slice Aa l0_0.length ca) (w.heap.size + 1) (fun e => HNR.out e.symm)).trans HBR.out))
  have hK2 := Aside0.mk ((Below.heap_setCell (W1.setCell ⟨gO, 0, none⟩ (Value.slice Aa l0_0.length ca)) ⟨gO, 1, none⟩ (Value.slice Ab l0_1.length cb) w.heap.size (fun e => HNE.out e.symm)).trans ((Below.heap_setCell W1 ⟨gO, 0, none⟩ (Value.slice Aa l0_0.length ca) w.heap.size (fun e => HNE.out e.symm)).trans HBK.out))
  have hOO : Aside0 (((W1.setCell ⟨gO, 0, none⟩ (Value.slice Aa l0_0.length ca)).setCell ⟨gO, 1, none⟩ (Value.slice Ab l0_1.length cb)).heap[gO]? = some (.cells #[.slice Aa l0_0.length ca, .slice Ab l0_1.length cb] 28 (0, 0))) := Aside0.mk (by rw [hO2]; rfl)
  clear hO1 hO2 HO HA HT HB HBK HBR
  generalize (W1.setCell ⟨gO, 0, none⟩ (Value.slice Aa l0_0.length ca)).setCell ⟨gO, 1, none⟩ (Value.slice Ab l0_1.length cb) = W2 at hOO hA2 hT2 hB2 hR2 hK2 ⊢
  have eo0 : W2.cell? ⟨gO, 0, none⟩ = some (.slice Aa l0_0.length ca) := (blk_cell hOO.out 0).trans rfl
  have ep0 : W2.cell? ⟨w.heap.size, 0, none⟩ = some (.slice A0_0 l0_0.length c0_0) := (blk_cell hK2.out 0).trans rfl
  go_wp2_with ((with_reducible refine gate_builtin (b := .copy) (xs := #[.tmp 15, .tmp 17]) rfl ?_); refine Kd.R_copy (w0 := w) (0 : Int) w.heap.size rfl (.tmp 15) (.tmp 17) 22 22 3 rfl Try.underlying22 (by kernel_rfl) (.slice Aa l0_0.length ca) (List.replicate l0_0.length 0) l0_0 A0_0 l0_0.length c0_0 (fun _ => True) rfl rfl hA2.out (Kd.C_below HR0.out hB2.out) hB2.out (below_size hB2.out) ?_; intro W3 hA3 hB3 hg3; have HT3 := Aside0.mk (Kd.R_over' hT2.out (Kd.R_typed hA2.out) (by decide) hg3); have hO3 := blk_grown hOO.out hg3 (Kd.R_ne hA2.out hOO.out (by decide)); have HR3 := Aside0.mk (blk_grown hR2.out hg3 (Kd.R_ne hA2.out hR2.out (by decide))); rw [List.length_replicate, Nat.min_self, List.take_length, List.drop_of_length_le (by rw [List.length_replicate]; exact Nat.le_refl _), List.append_nil] at hA3; have HA3 := Aside0.mk hA3; have HB3 := Aside0.mk hB3; have eo1 : W3.cell? ⟨gO, 1, none⟩ = some (.slice Ab l0_1.length cb) := (blk_cell hO3 1).trans rfl; have HO3 := Aside0.mk hO3; clear hA3 hB3 hg3 hO3 hA2 hT2 hR2 hK2 hOO hB2)
  go_loopw [22] (fun v22 wr => ∃ t : Nat, t ≤ l0_1.length ∧ v22 = .int .i64 (t : Int) ∧ OInv w l0_0 (List.replicate l0_1.length th0) (List.replicate l0_1.length zrow) gO (.slice Aa l0_0.length ca) (.slice Ab l0_1.length cb) t wr) (fun v22 _ => l0_1.length - (intOf v22).toNat)
  case atStart => exact ⟨0, Nat.zero_le _, rfl, HO3.out, HGE.out, HR3.out, HA3.out, ⟨List.replicate l0_1.length zrow, by simp, HT3.out, fun j _ => rfl, fun _ => 0, fun j x c hj => by omega⟩, HB3.out⟩
  case round =>
    obtain ⟨t, ht, rfl, hI⟩ := hrel
    clear HO3 HR3 HA3 HT3 HB3 eo1
    have eo1 : wr.cell? ⟨gO, 1, none⟩ = some (.slice Ab l0_1.length cb) := (blk_cell hI.out 1).trans rfl
    have HI := Aside0.mk hI
    clear hI
    by_cases hlt : t < l0_1.length
    · obtain ⟨rws, hws, hRw, hrest, _⟩ := HI.out.ths
      obtain ⟨g, cap, hv, hge_, hg1, _⟩ := Kd.R_form hRw (by rw [hws, List.length_replicate]; omega)
      injection hv with hv1 hv2 hv3
      subst hv1
      subst hv3
      have HX : Aside0 ((List.replicate l0_1.length th0)[t]? = some th0) := Aside0.mk (by rw [List.getElem?_replicate, if_pos hlt])
      have HC : Aside0 ((List.replicate l0_1.length zrow)[t]? = some zrow) := Aside0.mk (by rw [List.getElem?_replicate, if_pos hlt])
      have HLT := Aside0.mk hlt
      have HBG : Aside0 (∃ cells, wr.heap[g]? = some (.cells cells 45 (0, 0))) := Aside0.mk (Kd.R_typed hRw g (by simp [Value.ownBlock]))
      have HBO := Aside0.mk HI.out.out
      have h1_ := H1.out
      have p1 : ((t : Int) < (l0_1.length : Int)) = True := eq_true (by omega)
      have p2 : (0 ≤ (t : Int)) = True := eq_true (by omega)
      have p3 : (t < l0_1.length) = True := eq_true hlt
      have s1 : (t : Int) + 1 ≤ 9223372036854775807 := by omega
      have s2 : -9223372036854775808 ≤ (t : Int) + 1 := by omega
      clear hv2 hws hRw hrest hg1 hge_ hlt ht
      go_wp2_with fail
      refine start_ (n := 7) (S := fun w' => w'.cell? ⟨gO, 1, none⟩ = some (.slice (some ⟨g, 0, none⟩) l0_1.length cb)) (ds := [6]) #[false, false, false, false, false, false, false] (by kernel_rfl) rfl rfl (by first | exact eo1 | simpa using eo1) (fun hHeld => ?_)
      have HI0 := Aside0.mk (HI.out.below (below_drew1 (Below.refl _ wr)))
      have HBG0 : Aside0 (∃ cells, wr.drew.heap[g]? = some (.cells cells 45 (0, 0))) := Aside0.mk (by obtain ⟨c_, h_⟩ := HBG.out; exact ⟨c_, blk_drew h_⟩)
      have HBO0 := Aside0.mk (blk_drew HBO.out)
      generalize wr.drew = W3 at HI0 HBG0 HBO0 hHeld ⊢
      refine pure_ (i := 0) (N := some 25) (v := ?_) (a' := ?_) #[true, false, false, false, false, false, false] rfl rfl (by kernel_rfl) (fun _ _ _ h => h) (Or.inl ⟨by rfl, ?_⟩) ?_ ?_
      rotate_left
      · intro w'
        go_simp
        with_reducible rfl
      rotate_left
      · simp only [Act.put, List.setIfInBounds_toArray, List.set_cons_zero, List.set_cons_succ, i64_w, i32_w]
        rfl
      refine pure_ (i := 2) (N := some 27) (v := ?_) (a' := ?_) #[true, false, true, false, false, false, false] rfl rfl (by kernel_rfl) (fun _ _ _ h => h) (Or.inl ⟨by rfl, ?_⟩) ?_ ?_
      rotate_left
      · intro w'
        go_simp
        with_reducible rfl
      rotate_left
      · simp only [Act.put, List.setIfInBounds_toArray, List.set_cons_zero, List.set_cons_succ, i64_w, i32_w]
        rfl
      refine take_ (i := 1) (N := some 26) (v := ?_) (a' := ?_) #[true, true, true, false, false, false, false] rfl rfl (by kernel_rfl) (fun _ _ _ h => h) (Or.inl ⟨by rfl, ?_⟩) hHeld ?_ ?_
      rotate_left
      · rintro w' s1
        go_simp
        with_reducible rfl
      rotate_left
      · simp only [Act.put, List.setIfInBounds_toArray, List.set_cons_zero, List.set_cons_succ, i64_w, i32_w]
        rfl
      refine one_ (i := 3) (N := some 28) #[true, true, true, true, false, false, false] rfl rfl (by kernel_rfl) (by decide) (fun K hK => ?_)
      refine Kd.R_make_step (Kd.int .i64) _ 3 (by rfl) (N := 28) rfl 22 _ _ rfl 4 rfl rfl Try.underlying22 (.int .i64 0) 8 info3 rfl (by decide) (by omega) 0 (ok := fun _ => True) (okp := fun _ => True) rfl (fun _ hk => hk) trivial (by omega) (by omega) (Below.refl _ _) (Nat.le_refl _) ?_
      intro va w4_ hRa hb4 hg_ hnew_
      clear hg_ hnew_
      have HRA : Aside0 (Kd.R (Kd.int .i64) 3 w4_ W3.heap.size (fun _ => True) va [0, 0, 0, 0]) := Aside0.mk hRa
      have HG4 : Aside0 (∃ cells, w4_.heap[g]? = some (.cells cells 45 (0, 0))) := Aside0.mk (by obtain ⟨c_, h_⟩ := HBG0.out; exact ⟨c_, blk_below h_ hb4⟩)
      have hh4 : w4_.cell? ⟨gO, 1, none⟩ = some (.slice (some ⟨g, 0, none⟩) l0_1.length cb) := (blk_cell (blk_below HBO0.out hb4) 1).trans rfl
      obtain ⟨Ac, cc, hva⟩ := Kd.R_slice HRA.out
      subst hva
      have HB4 := Aside0.mk hb4
      clear hRa hb4
      have hold : ∃ u, w4_.cell? ⟨g, t * 4 + 1, none⟩ = some u := HI0.out.oldCell HB4.out (by rw [List.length_replicate]; exact HLT.out)
      obtain ⟨u_, hu_⟩ := hold
      have HU := Aside0.mk hu_
      clear hu_
      refine hK.out _ _ hh4 (fun hHeld => ?_)
      clear hh4
      clear hK K
      refine norm_ (a' := ?_) ?_ ?_
      rotate_left
      · show Act.put _ (some 28) _ = _
        simp only [Act.put, List.setIfInBounds_toArray, List.set_cons_zero, List.set_cons_succ, i64_w, i32_w]
        rfl
      refine pure_ (i := 4) (N := some 29) (v := ?_) (a' := ?_) #[true, true, true, true, true, false, false] rfl rfl (by kernel_rfl) (fun _ _ _ h => h) (Or.inl ⟨by rfl, ?_⟩) ?_ ?_
      rotate_left
      · intro w'
        go_simp
        with_reducible rfl
      rotate_left
      · simp only [Act.put, List.setIfInBounds_toArray, List.set_cons_zero, List.set_cons_succ, i64_w, i32_w]
        rfl
      refine pure_ (i := 5) (N := some 30) (v := ?_) (a' := ?_) #[true, true, true, true, true, true, false] rfl rfl (by kernel_rfl) (fun _ _ _ h => h) (Or.inl ⟨by rfl, ?_⟩) ?_ ?_
      rotate_left
      · intro w'
        go_simp
        with_reducible rfl
      rotate_left
      · simp only [Act.put, List.setIfInBounds_toArray, List.set_cons_zero, List.set_cons_succ, i64_w, i32_w]
        rfl
      refine last_ (i := 6) (N := none) #[true, true, true, true, true, true, true] rfl rfl (by kernel_rfl) (by decide) (fun K hK => ?_)
      have hs1 := HU.out
      have hf1 : w4_.frozen? ⟨g, t * 4 + 1, none⟩ = false := by obtain ⟨c_, h_⟩ := HG4.out; exact blk_frozen h_ _
      refine skip_ (w1 := ?_) (by rfl) rfl ?_ ?_
      rotate_left
      · go_simp
        rfl
      refine hK.out _ _ ?_
      clear hK K
      refine done_ (by kernel_rfl) ?_
      clear hf1 hs1
      have HN := Aside0.mk (HI0.out.next1 HB4.out HRA.out HX.out HC.out rfl rfl rfl (by rw [List.length_replicate]))
      generalize w4_.setCell ⟨g, t * 4 + 1, none⟩ (Value.slice Ac ([0, 0, 0, 0] : List Int).length cc) = W6 at HN ⊢
      go_wp2_with fail
      go_roundw
      case rel => exact ⟨t + 1, by have := HLT.out; omega, by simp, HN.out⟩
      case measure => have := HLT.out; simp [intOf]; omega
    · obtain rfl : t = l0_1.length := by omega
      have p3 : (l0_1.length < l0_1.length) = False := eq_false (by omega)
      have eo0 : wr.cell? ⟨gO, 0, none⟩ = some (.slice Aa l0_0.length ca) := (blk_cell HI.out.out 0).trans rfl
      have er0 : wr.cell? ⟨w.heap.size + 1, 0, none⟩ = some (.slice none 0 0) := (blk_cell HI.out.res 0).trans rfl
      have er1 : wr.cell? ⟨w.heap.size + 1, 1, none⟩ = some (.slice none 0 0) := (blk_cell HI.out.res 1).trans rfl
      have ef0 := blk_frozen HI.out.res 0
      have ef1 := blk_frozen HI.out.res 1
      go_wp2_with fail
      have hd := HI.out
      have eb0 : ((wr.setCell ⟨w.heap.size + 1, 0, none⟩ (.slice Aa l0_0.length ca)).setCell ⟨w.heap.size + 1, 1, none⟩ (.slice Ab l0_1.length cb)).cell? ⟨w.heap.size + 1, 0, none⟩ = some (.slice Aa l0_0.length ca) := (blk_cell (blk_set (blk_set hd.res 0 _) 1 _) 0).trans rfl
      have eb1 : ((wr.setCell ⟨w.heap.size + 1, 0, none⟩ (.slice Aa l0_0.length ca)).setCell ⟨w.heap.size + 1, 1, none⟩ (.slice Ab l0_1.length cb)).cell? ⟨w.heap.size + 1, 1, none⟩ = some (.slice Ab l0_1.length cb) := (blk_cell (blk_set (blk_set hd.res 0 _) 1 _) 1).trans rfl
      have hS := OInv.done (by rw [List.length_replicate]; exact hd)
      refine bodyPost_ret (v := .agg #[.slice Aa l0_0.length ca, .slice Ab l0_1.length cb]) (by simp [results, Try.results15, go_sem, eb0, eb1]) rfl ⟨_, _, rfl, Kd.R_V (Kd.R_mono (Kd.R_bound (Kd.R_set (Kd.R_set hd.mem hd.res (by decide) _ _) (blk_set hd.res _ _) (by decide) _ _)) (fun _ hk => hk.2.1)), Kd.S_V (Kd.S_mono (Kd.S_bound (Kd.S_set (Kd.S_set hS hd.res (by decide) _ _) (blk_set hd.res _ _) (by decide) _ _)) (fun _ hk => hk.2.1)), below_set (below_set hd.bel (Nat.le_succ _)) (Nat.le_succ _)⟩
end Go.Proofs.Ytdliojcpnkggnaa.Print
