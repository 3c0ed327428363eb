/- slots.Erase: its Lean function and its contract. -/
import Derived.Test.YtijpfonbeepmfaaHSlSame
namespace Go.Proofs.Ytijpfonbeepmfaa.Print
open Go.RowKit Go.Maps Go.Proofs.YtijpfonbeepmfaaW.PrintWords Go.Proofs.YtijpfonbeepmfaaW.PrintLast Go.Proofs.YtijpfonbeepmfaaW.PrintMore
set_option linter.unusedVariables false
set_option linter.unusedSimpArgs false
deriving instance DecidableEq for S60, S58
def slots_Erase.f (a0_0 : ByteArray) (l0_1 : List S62) (l0_2 : List S58) (a0_3 : Bool) (l0_4 : List S64) (l1 : List Int) : Option (ByteArray × List S62 × List S58 × Bool × List S64 × Bool) :=
 if fileB l0_2 l1 = true then (if fileB (linesF (eraseTT l1) l0_2 (-1)).1 l1 = true then (if (linesF (fenceTT l1) (linesF (eraseTT l1) l0_2 (-1)).1 ()).1 = l0_2 then some (a0_0, l0_1, (linesF (eraseTT l1) l0_2 (-1)).1, a0_3, l0_4, true) else some (a0_0, l0_1, l0_2, a0_3, l0_4, false)) else none) else none
/-- What Erase's function has captured. -/
structure HasE (hb ob B nn : Nat) (g : List Int) (op : Int) (W : World) : Prop where
 h : HasI hb B nn g W
 o : W.heap[ob]? = some (.cells #[.int .i64 op] 3 (0, 0))
theorem turn_erase (g : List Int) (hb ob B nn : Nat) (h1 : hb ≠ ob) (h2 : B ≠ ob) : Turn 37 #[.pointer (some ⟨hb, 0, none⟩), .pointer (some ⟨ob, 0, none⟩)] (fun (op : Int) W => HasE hb ob B nn g op W) (some ob) (eraseTT g) := fun x n s W hn hI =>
 (erase_turn x n s hb ob B nn g W hn hI.h.1 hI.h.2 hI.o).mono fun e w' ⟨v, he, hR, ho, hg⟩ => ⟨v, he, hR, ⟨hI.h.kept hg (fun e => by injection e with e; exact h1 e) (fun e => by injection e with e; exact h2 e), ho⟩, hg⟩
theorem HasE.kept {hb ob B nn : Nat} {g : List Int} {op : Int} {W W' : World} {r : Option Nat} (h : HasE hb ob B nn g op W) (hg : W.grownBy W' r) (h1 : some hb ≠ r) (h2 : some B ≠ r) (h3 : some ob ≠ r) : HasE hb ob B nn g op W' := ⟨h.h.kept hg h1 h2, blk_grown h.o hg h3⟩
set_option maxHeartbeats 8000000 in
set_option maxRecDepth 100000 in
theorem slots_Erase.calls (a0_0 : ByteArray) (P0_1_ : Nat → Prop) (A0_1 : Option Addr) (c0_1 : Nat) (l0_1 : List (S62)) (P0_2_ : Nat → Prop) (A0_2 : Option Addr) (c0_2 : Nat) (l0_2 : List (S58)) (a0_3 : Bool) (P0_4_ : Nat → Prop) (A0_4 : Option Addr) (c0_4 : Nat) (l0_4 : List (S64)) (A1 : Option Addr) (c1 : Nat) (l1 : List Int) (r1 : ByteArray) (r2 : List (S62)) (r3 : List (S58)) (r4 : Bool) (r5 : List (S64)) (r6 : Bool) (w : World)
 (hs0_1 : Kd.V k62 62 w w.heap.size (fun k_ => P0_1_ k_) (.slice A0_1 l0_1.length c0_1) l0_1) (hs0_2 : Kd.V k58 58 w w.heap.size (fun k_ => P0_2_ k_) (.slice A0_2 l0_2.length c0_2) l0_2) (hs0_4 : Kd.V k64 64 w w.heap.size (fun k_ => P0_4_ k_) (.slice A0_4 l0_4.length c0_4) l0_4) (hr1 : Kd.C (Kd.int .i64) w A1 l1.length l1) (hc1 : l1.length ≤ c1) (h : slots_Erase.f a0_0 l0_1 l0_2 a0_3 l0_4 l1 = some (r1, r2, r3, r4, r5, r6)) :
 Calls Try.prog 15 #[.agg #[.string a0_0, .slice A0_1 l0_1.length c0_1, .slice A0_2 l0_2.length c0_2, .bool a0_3, .slice A0_4 l0_4.length c0_4], .slice A1 l1.length c1] w fun e w' => ∃ v1_ v2_ v4_ : Value, e = .returned (.tuple #[.agg #[.string r1, v1_, v2_, .bool r4, v4_], .bool r6]) ∧ Kd.V k62 62 w' w.heap.size (fun k_ => ((P0_1_ k_ ∨ P0_2_ k_ ∨ P0_4_ k_) ∨ w.heap.size ≤ k_)) v1_ r2 ∧ Kd.V k58 58 w' w.heap.size (fun k_ => ((P0_1_ k_ ∨ P0_2_ k_ ∨ P0_4_ k_) ∨ w.heap.size ≤ k_)) v2_ r3 ∧ Kd.V k64 64 w' w.heap.size (fun k_ => ((P0_1_ k_ ∨ P0_2_ k_ ∨ P0_4_ k_) ∨ w.heap.size ≤ k_)) v4_ r5 ∧ Below w.heap.size w w' := by
 unfold slots_Erase.f at h
 by_cases hfb : fileB l0_2 l1 = true
 ·by_cases hfq : fileB (linesF (eraseTT l1) l0_2 (-1)).1 l1 = true
  ·rw [if_pos hfb, if_pos hfq] at h
   obtain ⟨b1, b2, b3, b4⟩ := fileB_of hfb
   have hu1 := Try.underlying30
   have HS1 := Aside0.mk hs0_1
   have HS2 := Aside0.mk hs0_2
   have HS4 := Aside0.mk hs0_4
   have HR1 := Aside0.mk hr1
   have HB4 := Aside0.mk b4
   have H := Aside0.mk h
   have HFQ := Aside0.mk hfq
   clear hs0_1 hs0_2 hs0_4 hr1 b4 hfb hfq h
   obtain ⟨W1, hW1⟩ : ∃ W1, W1 = (w.alloc (.cells #[.string a0_0, .slice A0_1 l0_1.length c0_1, .slice A0_2 l0_2.length c0_2, .bool a0_3, .slice A0_4 l0_4.length c0_4] 30)).alloc (.cells #[.string ⟨#[]⟩, .slice none 0 0, .slice none 0 0, .bool false, .slice none 0 0] 30) := ⟨_, rfl⟩
   have bF : W1.heap[w.heap.size]? = some (.cells #[.string a0_0, .slice A0_1 l0_1.length c0_1, .slice A0_2 l0_2.length c0_2, .bool a0_3, .slice A0_4 l0_4.length c0_4] 30 (0, 0)) := by rw [hW1]; exact blk_alloc (blk_new w _) _
   have bR : W1.heap[w.heap.size + 1]? = some (.cells #[.string ⟨#[]⟩, .slice none 0 0, .slice none 0 0, .bool false, .slice none 0 0] 30 (0, 0)) := by
    have := blk_new (w.alloc (.cells #[.string a0_0, .slice A0_1 l0_1.length c0_1, .slice A0_2 l0_2.length c0_2, .bool a0_3, .slice A0_4 l0_4.length c0_4] 30)) (.cells #[.string ⟨#[]⟩, .slice none 0 0, .slice none 0 0, .bool false, .slice none 0 0] 30)
    rw [World.size_alloc] at this; rw [hW1]; exact this
   have hB1 : Below w.heap.size w W1 := by rw [hW1]; exact below_alloc (below_alloc (Below.refl _ _) _) _
   have HW1 := Aside0.mk hW1
   have BF := Aside0.mk bF
   have BR := Aside0.mk bR
   have HB1 := Aside0.mk hB1
   clear hW1 bF bR hB1
   go_enter Try.func15, Try.ntmps15
   go_upto_region 1 with fail
   rw [← HW1.out]
   go_upto_region 2 with fail
   refine (keys_calls A1 c1 l1 W1 (Kd.C_below HR1.out HB1.out) hc1 HB4.out b3).mono ?_
   rintro e w2 ⟨B, nn, rfl, hM, hBs, hb2⟩
   have HM := Aside0.mk hM
   have HB2 := Aside0.mk hb2
   clear hM hb2
   go_upto_region 3 with fail
   obtain ⟨W3, hW3⟩ : ∃ W3, W3 = (w2.alloc (.cells #[.map (some B)] 70)).alloc (.cells #[.int .i64 (-1)] 3) := ⟨_, rfl⟩
   have hb23 : Below w2.heap.size w2 W3 := by rw [hW3]; exact below_alloc (below_alloc (Below.refl _ _) _) _
   have bH : W3.heap[w2.heap.size]? = some (.cells #[.map (some B)] 70 (0, 0)) := by rw [hW3]; exact blk_alloc (blk_new w2 _) _
   have bO : W3.heap[w2.heap.size + 1]? = some (.cells #[.int .i64 (-1)] 3 (0, 0)) := by
    have := blk_new (w2.alloc (.cells #[.map (some B)] 70)) (.cells #[.int .i64 (-1)] 3)
    rw [World.size_alloc] at this; rw [hW3]; exact this
   have BF3 := Aside0.mk (blk_below (blk_below BF.out HB2.out) hb23)
   have BR3 := Aside0.mk (blk_below (blk_below BR.out HB2.out) hb23)
   have HB3 := Aside0.mk (below_step (below_step HB1.out HB2.out) hb23)
   have HI3 : Aside0 (HasE w2.heap.size (w2.heap.size + 1) B nn l1 (-1) W3) := Aside0.mk ⟨⟨(blk_cell bH 0).trans rfl, HM.out.below hb23⟩, bO⟩
   have hlt : w2.heap.size + 1 < W3.heap.size := blk_lt bO
   have hBlt : B < w2.heap.size := HM.out.lt
   have hw2 : w.heap.size + 1 < w2.heap.size := Nat.lt_of_lt_of_le (blk_lt BR.out) HB2.out.size
   rw [← hW3]
   clear hW3 hb23 bH bO BF BR HB1 HB2 HM
   have hobe : w2.heap.size + 1 = w2.heap.size + 1 := rfl
   generalize w2.heap.size = hb at HI3 hlt hBlt hw2 ⊢
   clear hobe
   have f0 : W3.cell? ⟨w.heap.size, 0, none⟩ = some (.string a0_0) := (blk_cell BF3.out 0).trans rfl
   have f1 : W3.cell? ⟨w.heap.size, 1, none⟩ = some (.slice A0_1 l0_1.length c0_1) := (blk_cell BF3.out 1).trans rfl
   have f2 : W3.cell? ⟨w.heap.size, 2, none⟩ = some (.slice A0_2 l0_2.length c0_2) := (blk_cell BF3.out 2).trans rfl
   have f3 : W3.cell? ⟨w.heap.size, 3, none⟩ = some (.bool a0_3) := (blk_cell BF3.out 3).trans rfl
   have f4 : W3.cell? ⟨w.heap.size, 4, none⟩ = some (.slice A0_4 l0_4.length c0_4) := (blk_cell BF3.out 4).trans rfl
   go_upto_region 4 with fail
   refine (lines_calls 37 #[.pointer (some ⟨hb, 0, none⟩), .pointer (some ⟨hb + 1, 0, none⟩)] (fun (op : Int) W => HasE hb (hb + 1) B nn l1 op W) (some (hb + 1)) (eraseTT l1) (Aside0.mk (turn_erase l1 hb (hb + 1) B nn (by omega) (by omega))) (fun args w => by kernel_rfl) (Aside0.mk (erase_short l1)) a0_0 A0_1 l0_1.length c0_1 A0_2 c0_2 l0_2 a0_3 A0_4 l0_4.length c0_4 (-1) w W3 (Kd.V_reads' HS2.out).2.2 HB3 (Kd.V_reads' HS2.out).2.1 (Aside0.mk (fun k e => by injection e with e; omega)) HI3.out (Aside0.mk (fun s W W' r hI hsz hg hr => hI.kept hg (fun e => by have := hr _ e.symm; omega) (fun e => by have := hr _ e.symm; omega) (fun e => by have := hr _ e.symm; omega))) b1 b2).mono ?_
   rintro e w4 ⟨v, rfl, hS, hI4, hg4⟩
   clear hI4 HI3
   obtain ⟨q, hq⟩ : ∃ q, q = (linesF (eraseTT l1) l0_2 (-1)).1 := ⟨_, rfl⟩
   have HQ := Aside0.mk hq
   rw [← hq] at hS
   obtain ⟨Aq, cq, rfl⟩ := Kd.S_slice hS
   have HB4' := Aside0.mk (pw_below_grown HB3.out (some (hb + 1)) HB3.out.size hg4 (fun k e => by injection e with e; omega))
   have BF4 := Aside0.mk (blk_grown BF3.out hg4 (fun e => by injection e with e; omega))
   have BR4 := Aside0.mk (blk_grown BR3.out hg4 (fun e => by injection e with e; omega))
   have HS := Aside0.mk hS
   have hw3 : W3.heap.size ≤ w4.heap.size := hg4.size
   clear hS hg4 BF3 BR3 f0 f1 f2 f3 f4 hq
   unfold fileC
   go_upto_region 4 with fail
   obtain ⟨W5, hW5⟩ : ∃ W5, W5 = w4.alloc (.cells #[.string a0_0, .slice A0_1 l0_1.length c0_1, .slice Aq q.length cq, .bool a0_3, .slice A0_4 l0_4.length c0_4] 30) := ⟨_, rfl⟩
   have hb45 : Below w4.heap.size w4 W5 := by rw [hW5]; exact below_alloc (Below.refl _ _) _
   have BQ5 : Aside0 (W5.heap[w4.heap.size]? = some (.cells #[.string a0_0, .slice A0_1 l0_1.length c0_1, .slice Aq q.length cq, .bool a0_3, .slice A0_4 l0_4.length c0_4] 30 (0, 0))) := Aside0.mk (by rw [hW5]; exact blk_new w4 _)
   have BF5 := Aside0.mk (blk_below BF4.out hb45)
   have BR5 := Aside0.mk (blk_below BR4.out hb45)
   have HB5 := Aside0.mk (below_step HB4'.out hb45)
   have HS5 := Aside0.mk (Kd.S_below HS.out hb45)
   rw [← hW5]
   have hbq : W3.heap.size ≤ w4.heap.size := hw3
   clear hW5 hb45 BF4 BR4 HB4' HS
   generalize w4.heap.size = bq at BQ5 hbq ⊢
   refine start_ (n := 6) (S := fun w' => w'.cell? ⟨bq, 0, none⟩ = some (.string a0_0) ∧ w'.cell? ⟨bq, 1, none⟩ = some (.slice A0_1 l0_1.length c0_1) ∧ w'.cell? ⟨bq, 2, none⟩ = some (.slice Aq q.length cq) ∧ w'.cell? ⟨bq, 3, none⟩ = some (.bool a0_3) ∧ w'.cell? ⟨bq, 4, none⟩ = some (.slice A0_4 l0_4.length c0_4) ∧ w'.cell? ⟨w.heap.size, 0, none⟩ = some (.string a0_0) ∧ w'.cell? ⟨w.heap.size, 1, none⟩ = some (.slice A0_1 l0_1.length c0_1) ∧ w'.cell? ⟨w.heap.size, 2, none⟩ = some (.slice A0_2 l0_2.length c0_2) ∧ w'.cell? ⟨w.heap.size, 3, none⟩ = some (.bool a0_3) ∧ w'.cell? ⟨w.heap.size, 4, none⟩ = some (.slice A0_4 l0_4.length c0_4)) (ds := []) #[false, false, false, false, false, false] (by kernel_rfl) rfl rfl ⟨(blk_cell BQ5.out 0).trans rfl, (blk_cell BQ5.out 1).trans rfl, (blk_cell BQ5.out 2).trans rfl, (blk_cell BQ5.out 3).trans rfl, (blk_cell BQ5.out 4).trans rfl, (blk_cell BF5.out 0).trans rfl, (blk_cell BF5.out 1).trans rfl, (blk_cell BF5.out 2).trans rfl, (blk_cell BF5.out 3).trans rfl, (blk_cell BF5.out 4).trans rfl⟩ (fun hHeld => ?_)
   have BQ6 := Aside0.mk (blk_drewN BQ5.out 1)
   have BF6 := Aside0.mk (blk_drewN BF5.out 1)
   have BR6 := Aside0.mk (blk_drewN BR5.out 1)
   have HB6 := Aside0.mk (below_drew1 HB5.out)
   have HS6 := Aside0.mk (Kd.S_drew HS5.out)
   change Aside0 (W5.drew.heap[bq]? = _) at BQ6
   change Aside0 (W5.drew.heap[w.heap.size]? = _) at BF6
   change Aside0 (W5.drew.heap[w.heap.size + 1]? = _) at BR6
   clear BQ5 BF5 BR5 HB5 HS5
   generalize W5.drew = w6 at BQ6 BF6 BR6 HB6 HS6 hHeld ⊢
   refine pure_ (i := 1) (N := some 15) (v := ?_) (a' := ?_) #[false, true, false, false, false, false] rfl rfl (by kernel_rfl) (fun _ _ _ h => h) (Or.inl ⟨by rfl, ?_⟩) ?_ ?_; rotate_left; intro w'; go_simp; with_reducible rfl; rotate_left; simp only [Act.put, List.setIfInBounds_toArray, List.set_cons_zero, List.set_cons_succ, i64_w, i32_w]; rfl
   refine take_ (i := 0) (N := some 14) (v := ?_) (a' := ?_) #[true, true, false, false, false, false] rfl rfl (by kernel_rfl) (fun _ _ _ h => h) (Or.inl ⟨by rfl, ?_⟩) hHeld ?_ ?_; rotate_left; rintro w' ⟨s0, s1, s2, s3, s4, s5, s6, s7, s8, s9⟩; go_simp; with_reducible rfl; rotate_left; simp only [Act.put, List.setIfInBounds_toArray, List.set_cons_zero, List.set_cons_succ, i64_w, i32_w]; rfl
   refine take_ (i := 3) (N := some 17) (v := ?_) (a' := ?_) #[true, true, false, true, false, false] rfl rfl (by kernel_rfl) (fun _ _ _ h => h) (Or.inl ⟨by rfl, ?_⟩) hHeld ?_ ?_; rotate_left; rintro w' ⟨s0, s1, s2, s3, s4, s5, s6, s7, s8, s9⟩; go_simp; with_reducible rfl; rotate_left; simp only [Act.put, List.setIfInBounds_toArray, List.set_cons_zero, List.set_cons_succ, i64_w, i32_w]; rfl
   refine one_ (i := 2) (N := some 16) #[true, true, true, true, false, false] rfl rfl (by kernel_rfl) (by decide) (fun K hK => ?_)
   refine goes_ Try.func25 (by kernel_rfl) rfl #[.agg #[.string a0_0, .slice A0_1 l0_1.length c0_1, .slice Aq q.length cq, .bool a0_3, .slice A0_4 l0_4.length c0_4], .slice A1 l1.length c1] (by rfl) rfl rfl (by (try simp only [List.map_toArray, List.map_cons, List.map_nil]); first | done | rfl) ?_
   have hv1 := Kd.V_below (Kd.V_bound HS1.out) HB6.out
   have hv4 := Kd.V_below (Kd.V_bound HS4.out) HB6.out
   have hff : slots_Fence.f a0_0 l0_1 q a0_3 l0_4 l1 = some (a0_0, l0_1, (linesF (fenceTT l1) q ()).1, a0_3, l0_4) := by unfold slots_Fence.f; rw [if_pos (by rw [HQ.out]; exact HFQ.out)]
   refine (slots_Fence.calls a0_0 (fun k_ => P0_1_ k_ ∧ k_ < w.heap.size) A0_1 c0_1 l0_1 Aq cq q a0_3 (fun k_ => P0_4_ k_ ∧ k_ < w.heap.size) A0_4 c0_4 l0_4 A1 c1 l1 _ _ _ _ _ w6 hv1 (Kd.S_reads' HS6.out).2.2 (Kd.S_reads' HS6.out).2.1 hv4 (Kd.C_below HR1.out HB6.out) hc1 hff).mono ?_
   clear hv1 hv4 hff
   rintro e w7 ⟨u1, u2, u4, rfl, hu1_, hu2_, hu4_, hb7⟩
   refine ⟨_, rfl, ?_⟩
   obtain ⟨Au1, cu1, rfl⟩ := Kd.V_slice hu1_
   obtain ⟨Au2, cu2, rfl⟩ := Kd.S_slice hu2_
   obtain ⟨Au4, cu4, rfl⟩ := Kd.V_slice hu4_
   have BQ7 := Aside0.mk (blk_below BQ6.out hb7)
   have BF7 := Aside0.mk (blk_below BF6.out hb7)
   have BR7 := Aside0.mk (blk_below BR6.out hb7)
   have HB7 := Aside0.mk (below_step HB6.out hb7)
   have HS7 := Aside0.mk (Kd.S_below HS6.out hb7)
   have HU7 := Aside0.mk hu2_
   clear BQ6 BF6 BR6 HB6 HS6 hb7 hu1_ hu2_ hu4_ hHeld
   refine hK.out _ _ ⟨(blk_cell BQ7.out 0).trans rfl, (blk_cell BQ7.out 1).trans rfl, (blk_cell BQ7.out 2).trans rfl, (blk_cell BQ7.out 3).trans rfl, (blk_cell BQ7.out 4).trans rfl, (blk_cell BF7.out 0).trans rfl, (blk_cell BF7.out 1).trans rfl, (blk_cell BF7.out 2).trans rfl, (blk_cell BF7.out 3).trans rfl, (blk_cell BF7.out 4).trans rfl⟩ (fun hHeld => ?_)
   clear hK K
   refine norm_ (a' := ?_) ?_ ?_
   rotate_left
   ·show Act.put _ (some 16) _ = _
    simp only [Act.put, List.setIfInBounds_toArray, List.set_cons_zero, List.set_cons_succ, i64_w, i32_w]
    rfl
   refine one_ (i := 4) (N := some 18) #[true, true, true, true, true, false] rfl rfl (by kernel_rfl) (by decide) (fun K hK => ?_)
   refine goes_ Try.func38 (by kernel_rfl) rfl #[.agg #[.string a0_0, .slice Au1 l0_1.length cu1, .slice Au2 (linesF (fenceTT l1) q ()).1.length cu2, .bool a0_3, .slice Au4 l0_4.length cu4], .agg #[.string a0_0, .slice A0_1 l0_1.length c0_1, .slice A0_2 l0_2.length c0_2, .bool a0_3, .slice A0_4 l0_4.length c0_4]] (by rfl) rfl rfl (by (try simp only [List.map_toArray, List.map_cons, List.map_nil]); first | done | rfl) ?_
   refine (same_calls a0_0 a0_0 Au1 Au2 Au4 A0_1 A0_2 A0_4 l0_1.length cu1 cu2 l0_4.length cu4 l0_1.length c0_1 c0_2 l0_4.length c0_4 a0_3 a0_3 (linesF (fenceTT l1) q ()).1 l0_2 w7 (Kd.S_reads' HU7.out).2.2 (Kd.C_below (Kd.V_reads' HS2.out).2.2 HB7.out) (Kd.S_reads' HU7.out).2.1 (Kd.V_reads' HS2.out).2.1).mono ?_
   rintro e w8 ⟨rr, rfl, hrr, hb8⟩
   refine ⟨_, rfl, ?_⟩
   have BQ8 := Aside0.mk (blk_below BQ7.out hb8)
   have BF8 := Aside0.mk (blk_below BF7.out hb8)
   have BR8 := Aside0.mk (blk_below BR7.out hb8)
   have HB8 := Aside0.mk (below_step HB7.out hb8)
   have HS8 := Aside0.mk (Kd.S_below HS7.out hb8)
   have HRR := Aside0.mk hrr
   clear BQ7 BF7 BR7 HB7 HS7 HU7 hb8 hrr hHeld
   refine hK.out _ _ ⟨(blk_cell BQ8.out 0).trans rfl, (blk_cell BQ8.out 1).trans rfl, (blk_cell BQ8.out 2).trans rfl, (blk_cell BQ8.out 3).trans rfl, (blk_cell BQ8.out 4).trans rfl, (blk_cell BF8.out 0).trans rfl, (blk_cell BF8.out 1).trans rfl, (blk_cell BF8.out 2).trans rfl, (blk_cell BF8.out 3).trans rfl, (blk_cell BF8.out 4).trans rfl⟩ (fun hHeld => ?_)
   clear hK K
   refine norm_ (a' := ?_) ?_ ?_
   rotate_left
   ·show Act.put _ (some 18) _ = _
    simp only [Act.put, List.setIfInBounds_toArray, List.set_cons_zero, List.set_cons_succ, i64_w, i32_w]
    rfl
   refine pure_ (i := 5) (N := some 19) (v := ?_) (a' := ?_) #[true, true, true, true, true, true] rfl rfl (by kernel_rfl) (fun _ _ _ h => h) (Or.inl ⟨by rfl, ?_⟩) ?_ ?_; rotate_left; intro w'; go_simp; with_reducible rfl; rotate_left; simp only [Act.put, List.setIfInBounds_toArray, List.set_cons_zero, List.set_cons_succ, i64_w, i32_w]; rfl
   refine done_ (by kernel_rfl) ?_
   clear hHeld
   have hh := H.out
   rw [← HQ.out] at hh
   clear H
   have fz0 : w8.cell? ⟨w.heap.size, 0, none⟩ = some (.string a0_0) := (blk_cell BF8.out 0).trans rfl
   have fz1 : w8.cell? ⟨w.heap.size, 1, none⟩ = some (.slice A0_1 l0_1.length c0_1) := (blk_cell BF8.out 1).trans rfl
   have fz2 : w8.cell? ⟨w.heap.size, 2, none⟩ = some (.slice A0_2 l0_2.length c0_2) := (blk_cell BF8.out 2).trans rfl
   have fz3 : w8.cell? ⟨w.heap.size, 3, none⟩ = some (.bool a0_3) := (blk_cell BF8.out 3).trans rfl
   have fz4 : w8.cell? ⟨w.heap.size, 4, none⟩ = some (.slice A0_4 l0_4.length c0_4) := (blk_cell BF8.out 4).trans rfl
   have qz0 : w8.cell? ⟨bq, 0, none⟩ = some (.string a0_0) := (blk_cell BQ8.out 0).trans rfl
   have qz1 : w8.cell? ⟨bq, 1, none⟩ = some (.slice A0_1 l0_1.length c0_1) := (blk_cell BQ8.out 1).trans rfl
   have qz2 : w8.cell? ⟨bq, 2, none⟩ = some (.slice Aq q.length cq) := (blk_cell BQ8.out 2).trans rfl
   have qz3 : w8.cell? ⟨bq, 3, none⟩ = some (.bool a0_3) := (blk_cell BQ8.out 3).trans rfl
   have qz4 : w8.cell? ⟨bq, 4, none⟩ = some (.slice A0_4 l0_4.length c0_4) := (blk_cell BQ8.out 4).trans rfl
   have rz0 : w8.cell? ⟨w.heap.size + 1, 0, none⟩ = some (.string ⟨#[]⟩) := (blk_cell BR8.out 0).trans rfl
   have rz1 : w8.cell? ⟨w.heap.size + 1, 1, none⟩ = some (.slice none 0 0) := (blk_cell BR8.out 1).trans rfl
   have rz2 : w8.cell? ⟨w.heap.size + 1, 2, none⟩ = some (.slice none 0 0) := (blk_cell BR8.out 2).trans rfl
   have rz3 : w8.cell? ⟨w.heap.size + 1, 3, none⟩ = some (.bool false) := (blk_cell BR8.out 3).trans rfl
   have rz4 : w8.cell? ⟨w.heap.size + 1, 4, none⟩ = some (.slice none 0 0) := (blk_cell BR8.out 4).trans rfl
   have rf0 := blk_frozen BR8.out 0
   have rf1 := blk_frozen BR8.out 1
   have rf2 := blk_frozen BR8.out 2
   have rf3 := blk_frozen BR8.out 3
   have rf4 := blk_frozen BR8.out 4
   have hty : ∀ q', q' ∈ 58 :: k58.E → q' ≠ 30 := by
    intro q' hq'; have hq2 : q' ∈ ([58, 60] : List Nat) := hq'; simp at hq2; rcases hq2 with rfl | rfl <;> decide
   have hfar : ∀ {P : Nat → Prop} (k : Nat), P k ∧ k < w.heap.size → k ≠ w.heap.size + 1 := fun k hk => by omega
   have HV1 := Aside0.mk (Kd.V_below (Kd.V_bound HS1.out) HB8.out)
   have HV2 := Aside0.mk (Kd.V_below (Kd.V_bound HS2.out) HB8.out)
   have HV4 := Aside0.mk (Kd.V_below (Kd.V_bound HS4.out) HB8.out)
   cases rr with
   | true =>
    rw [if_pos (HRR.out.1 rfl)] at hh
    simp only [Option.some.injEq, Prod.mk.injEq] at hh
    obtain ⟨rfl, rfl, rfl, rfl, rfl, rfl⟩ := hh
    go_wp2_with fail
    clear rz0 rz1 rz2 rz3 rz4
    have e0 : ((((((w8.setCell ⟨w.heap.size + 1, 0, none⟩ (.string a0_0)).setCell ⟨w.heap.size + 1, 1, none⟩ (.slice A0_1 l0_1.length c0_1)).setCell ⟨w.heap.size + 1, 2, none⟩ (.slice Aq q.length cq)).setCell ⟨w.heap.size + 1, 3, none⟩ (.bool a0_3)).setCell ⟨w.heap.size + 1, 4, none⟩ (.slice A0_4 l0_4.length c0_4))).cell? ⟨w.heap.size + 1, 0, none⟩ = some (.string a0_0) := (blk_cell (blk_set (blk_set (blk_set (blk_set (blk_set BR8.out 0 _) 1 _) 2 _) 3 _) 4 _) 0).trans rfl
    have e1 : ((((((w8.setCell ⟨w.heap.size + 1, 0, none⟩ (.string a0_0)).setCell ⟨w.heap.size + 1, 1, none⟩ (.slice A0_1 l0_1.length c0_1)).setCell ⟨w.heap.size + 1, 2, none⟩ (.slice Aq q.length cq)).setCell ⟨w.heap.size + 1, 3, none⟩ (.bool a0_3)).setCell ⟨w.heap.size + 1, 4, none⟩ (.slice A0_4 l0_4.length c0_4))).cell? ⟨w.heap.size + 1, 1, none⟩ = some (.slice A0_1 l0_1.length c0_1) := (blk_cell (blk_set (blk_set (blk_set (blk_set (blk_set BR8.out 0 _) 1 _) 2 _) 3 _) 4 _) 1).trans rfl
    have e2 : ((((((w8.setCell ⟨w.heap.size + 1, 0, none⟩ (.string a0_0)).setCell ⟨w.heap.size + 1, 1, none⟩ (.slice A0_1 l0_1.length c0_1)).setCell ⟨w.heap.size + 1, 2, none⟩ (.slice Aq q.length cq)).setCell ⟨w.heap.size + 1, 3, none⟩ (.bool a0_3)).setCell ⟨w.heap.size + 1, 4, none⟩ (.slice A0_4 l0_4.length c0_4))).cell? ⟨w.heap.size + 1, 2, none⟩ = some (.slice Aq q.length cq) := (blk_cell (blk_set (blk_set (blk_set (blk_set (blk_set BR8.out 0 _) 1 _) 2 _) 3 _) 4 _) 2).trans rfl
    have e3 : ((((((w8.setCell ⟨w.heap.size + 1, 0, none⟩ (.string a0_0)).setCell ⟨w.heap.size + 1, 1, none⟩ (.slice A0_1 l0_1.length c0_1)).setCell ⟨w.heap.size + 1, 2, none⟩ (.slice Aq q.length cq)).setCell ⟨w.heap.size + 1, 3, none⟩ (.bool a0_3)).setCell ⟨w.heap.size + 1, 4, none⟩ (.slice A0_4 l0_4.length c0_4))).cell? ⟨w.heap.size + 1, 3, none⟩ = some (.bool a0_3) := (blk_cell (blk_set (blk_set (blk_set (blk_set (blk_set BR8.out 0 _) 1 _) 2 _) 3 _) 4 _) 3).trans rfl
    have e4 : ((((((w8.setCell ⟨w.heap.size + 1, 0, none⟩ (.string a0_0)).setCell ⟨w.heap.size + 1, 1, none⟩ (.slice A0_1 l0_1.length c0_1)).setCell ⟨w.heap.size + 1, 2, none⟩ (.slice Aq q.length cq)).setCell ⟨w.heap.size + 1, 3, none⟩ (.bool a0_3)).setCell ⟨w.heap.size + 1, 4, none⟩ (.slice A0_4 l0_4.length c0_4))).cell? ⟨w.heap.size + 1, 4, none⟩ = some (.slice A0_4 l0_4.length c0_4) := (blk_cell (blk_set (blk_set (blk_set (blk_set (blk_set BR8.out 0 _) 1 _) 2 _) 3 _) 4 _) 4).trans rfl
    exact bodyPost_ret (v := .tuple #[.agg #[.string a0_0, .slice A0_1 l0_1.length c0_1, .slice Aq q.length cq, .bool a0_3, .slice A0_4 l0_4.length c0_4], .bool true]) (by simp [results, Try.results15, go_sem, e0, e1, e2, e3, e4]) rfl ⟨_, _, _, rfl, Kd.V_mono (Kd.V_far (p := ⟨w.heap.size + 1, 4, none⟩) (Kd.V_far (p := ⟨w.heap.size + 1, 3, none⟩) (Kd.V_far (p := ⟨w.heap.size + 1, 2, none⟩) (Kd.V_far (p := ⟨w.heap.size + 1, 1, none⟩) (Kd.V_far (p := ⟨w.heap.size + 1, 0, none⟩) HV1.out hfar _) hfar _) hfar _) hfar _) hfar _) (fun k hk => Or.inl (Or.inl hk.1)), Kd.S_V (Kd.S_mono (Kd.S_bound (Kd.S_set (Kd.S_set (Kd.S_set (Kd.S_set (Kd.S_set HS8.out BR8.out hty 0 _) (blk_set BR8.out 0 _) hty 1 _) (blk_set (blk_set BR8.out 0 _) 1 _) hty 2 _) (blk_set (blk_set (blk_set BR8.out 0 _) 1 _) 2 _) hty 3 _) (blk_set (blk_set (blk_set (blk_set BR8.out 0 _) 1 _) 2 _) 3 _) hty 4 _)) (fun k hk => Or.inr (Nat.le_trans HB3.out.size hk.2.1))), Kd.V_mono (Kd.V_far (p := ⟨w.heap.size + 1, 4, none⟩) (Kd.V_far (p := ⟨w.heap.size + 1, 3, none⟩) (Kd.V_far (p := ⟨w.heap.size + 1, 2, none⟩) (Kd.V_far (p := ⟨w.heap.size + 1, 1, none⟩) (Kd.V_far (p := ⟨w.heap.size + 1, 0, none⟩) HV4.out hfar _) hfar _) hfar _) hfar _) hfar _) (fun k hk => Or.inl (Or.inr (Or.inr hk.1))), (below_set (below_set (below_set (below_set (below_set HB8.out (by omega)) (by omega)) (by omega)) (by omega)) (by omega))⟩
   | false =>
    rw [if_neg (fun e => by have := HRR.out.2 e; simp at this)] at hh
    simp only [Option.some.injEq, Prod.mk.injEq] at hh
    obtain ⟨rfl, rfl, rfl, rfl, rfl, rfl⟩ := hh
    go_wp2_with fail
    clear rz0 rz1 rz2 rz3 rz4
    have e0 : ((((((w8.setCell ⟨w.heap.size + 1, 0, none⟩ (.string a0_0)).setCell ⟨w.heap.size + 1, 1, none⟩ (.slice A0_1 l0_1.length c0_1)).setCell ⟨w.heap.size + 1, 2, none⟩ (.slice A0_2 l0_2.length c0_2)).setCell ⟨w.heap.size + 1, 3, none⟩ (.bool a0_3)).setCell ⟨w.heap.size + 1, 4, none⟩ (.slice A0_4 l0_4.length c0_4))).cell? ⟨w.heap.size + 1, 0, none⟩ = some (.string a0_0) := (blk_cell (blk_set (blk_set (blk_set (blk_set (blk_set BR8.out 0 _) 1 _) 2 _) 3 _) 4 _) 0).trans rfl
    have e1 : ((((((w8.setCell ⟨w.heap.size + 1, 0, none⟩ (.string a0_0)).setCell ⟨w.heap.size + 1, 1, none⟩ (.slice A0_1 l0_1.length c0_1)).setCell ⟨w.heap.size + 1, 2, none⟩ (.slice A0_2 l0_2.length c0_2)).setCell ⟨w.heap.size + 1, 3, none⟩ (.bool a0_3)).setCell ⟨w.heap.size + 1, 4, none⟩ (.slice A0_4 l0_4.length c0_4))).cell? ⟨w.heap.size + 1, 1, none⟩ = some (.slice A0_1 l0_1.length c0_1) := (blk_cell (blk_set (blk_set (blk_set (blk_set (blk_set BR8.out 0 _) 1 _) 2 _) 3 _) 4 _) 1).trans rfl
    have e2 : ((((((w8.setCell ⟨w.heap.size + 1, 0, none⟩ (.string a0_0)).setCell ⟨w.heap.size + 1, 1, none⟩ (.slice A0_1 l0_1.length c0_1)).setCell ⟨w.heap.size + 1, 2, none⟩ (.slice A0_2 l0_2.length c0_2)).setCell ⟨w.heap.size + 1, 3, none⟩ (.bool a0_3)).setCell ⟨w.heap.size + 1, 4, none⟩ (.slice A0_4 l0_4.length c0_4))).cell? ⟨w.heap.size + 1, 2, none⟩ = some (.slice A0_2 l0_2.length c0_2) := (blk_cell (blk_set (blk_set (blk_set (blk_set (blk_set BR8.out 0 _) 1 _) 2 _) 3 _) 4 _) 2).trans rfl
    have e3 : ((((((w8.setCell ⟨w.heap.size + 1, 0, none⟩ (.string a0_0)).setCell ⟨w.heap.size + 1, 1, none⟩ (.slice A0_1 l0_1.length c0_1)).setCell ⟨w.heap.size + 1, 2, none⟩ (.slice A0_2 l0_2.length c0_2)).setCell ⟨w.heap.size + 1, 3, none⟩ (.bool a0_3)).setCell ⟨w.heap.size + 1, 4, none⟩ (.slice A0_4 l0_4.length c0_4))).cell? ⟨w.heap.size + 1, 3, none⟩ = some (.bool a0_3) := (blk_cell (blk_set (blk_set (blk_set (blk_set (blk_set BR8.out 0 _) 1 _) 2 _) 3 _) 4 _) 3).trans rfl
    have e4 : ((((((w8.setCell ⟨w.heap.size + 1, 0, none⟩ (.string a0_0)).setCell ⟨w.heap.size + 1, 1, none⟩ (.slice A0_1 l0_1.length c0_1)).setCell ⟨w.heap.size + 1, 2, none⟩ (.slice A0_2 l0_2.length c0_2)).setCell ⟨w.heap.size + 1, 3, none⟩ (.bool a0_3)).setCell ⟨w.heap.size + 1, 4, none⟩ (.slice A0_4 l0_4.length c0_4))).cell? ⟨w.heap.size + 1, 4, none⟩ = some (.slice A0_4 l0_4.length c0_4) := (blk_cell (blk_set (blk_set (blk_set (blk_set (blk_set BR8.out 0 _) 1 _) 2 _) 3 _) 4 _) 4).trans rfl
    exact bodyPost_ret (v := .tuple #[.agg #[.string a0_0, .slice A0_1 l0_1.length c0_1, .slice A0_2 l0_2.length c0_2, .bool a0_3, .slice A0_4 l0_4.length c0_4], .bool false]) (by simp [results, Try.results15, go_sem, e0, e1, e2, e3, e4]) rfl ⟨_, _, _, rfl, Kd.V_mono (Kd.V_far (p := ⟨w.heap.size + 1, 4, none⟩) (Kd.V_far (p := ⟨w.heap.size + 1, 3, none⟩) (Kd.V_far (p := ⟨w.heap.size + 1, 2, none⟩) (Kd.V_far (p := ⟨w.heap.size + 1, 1, none⟩) (Kd.V_far (p := ⟨w.heap.size + 1, 0, none⟩) HV1.out hfar _) hfar _) hfar _) hfar _) hfar _) (fun k hk => Or.inl (Or.inl hk.1)), Kd.V_mono (Kd.V_far (p := ⟨w.heap.size + 1, 4, none⟩) (Kd.V_far (p := ⟨w.heap.size + 1, 3, none⟩) (Kd.V_far (p := ⟨w.heap.size + 1, 2, none⟩) (Kd.V_far (p := ⟨w.heap.size + 1, 1, none⟩) (Kd.V_far (p := ⟨w.heap.size + 1, 0, none⟩) HV2.out hfar _) hfar _) hfar _) hfar _) hfar _) (fun k hk => Or.inl (Or.inr (Or.inl hk.1))), Kd.V_mono (Kd.V_far (p := ⟨w.heap.size + 1, 4, none⟩) (Kd.V_far (p := ⟨w.heap.size + 1, 3, none⟩) (Kd.V_far (p := ⟨w.heap.size + 1, 2, none⟩) (Kd.V_far (p := ⟨w.heap.size + 1, 1, none⟩) (Kd.V_far (p := ⟨w.heap.size + 1, 0, none⟩) HV4.out hfar _) hfar _) hfar _) hfar _) hfar _) (fun k hk => Or.inl (Or.inr (Or.inr hk.1))), (below_set (below_set (below_set (below_set (below_set HB8.out (by omega)) (by omega)) (by omega)) (by omega)) (by omega))⟩
  ·rw [if_pos hfb, if_neg hfq] at h; exact absurd h (by simp)
 ·rw [if_neg hfb] at h; exact absurd h (by simp)
end Go.Proofs.Ytijpfonbeepmfaa.Print
