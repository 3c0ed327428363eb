-- Written by ownprint.py (this session's) with the kit's print.py: functions, contracts, rows; Lean checks it.
import Derived.Test.YtijpfonbeepmfaaPrint0
import Derived.Test.YtijpfonbeepmfaaPrint6
import Derived.Test.YtijpfonbeepmfaaPrint12
import Derived.Test.YtijpfonbeepmfaaPrint13
import Derived.Test.YtijpfonbeepmfaaPrint1
namespace Go.Proofs.Ytijpfonbeepmfaa.Print
open Go.RowKit Go.Proofs.YtijpfonbeepmfaaW.PrintWords Go.Proofs.YtijpfonbeepmfaaW.PrintLast Go.Proofs.YtijpfonbeepmfaaW.PrintMore
attribute [local go_sem] max2_int min2_int max_two min_two max_three min_three max_four min_four   -- for this text's walks alone
set_option linter.unusedVariables false
set_option linter.unusedSimpArgs false
def fencepostref08_Erase.l0 : Nat → List Int → Int → Int → ByteArray → List (S62) → List (S58) → Bool → List (S64) → ByteArray → List (S62) → List (S58) → Bool → List (S64) → Option (ByteArray × (List (S62)) × (List (S58)) × Bool × (List (S64)) × Bool)
 | 0, _, _, _, _, _, _, _, _, _, _, _, _, _ => none
 | k + 1, x1, x7, x8, x204000, x204001, x204002, x204003, x204004, x206000, x206001, x206002, x206003, x206004 => if x8 < (x204002.length : Int) then (if 0 ≤ x8 then ((fencepostref08_without.f k ((rd_T58 x204002 x8).f0) x1 x7).bind fun bt207 => (if x206002.length < 5864062014805 then (fencepostref08_Erase.l0 k x1 (wrap64 (x7 + bt207.2)) (wrap64 (x8 + 1)) x204000 x204001 x204002 x204003 x204004 x206000 x206001 (x206002 ++ [(⟨bt207.1⟩ : S58)]) x206003 x206004) else (none))) else (none)) else ((fencepostref08_Fence.f k x206000 x206001 x206002 x206003 x206004 x1).bind fun bt214 => ((fencepostref04_Same.f k bt214.1 bt214.2.1 bt214.2.2.1 bt214.2.2.2.1 bt214.2.2.2.2 x204000 x204001 x204002 x204003 x204004).bind fun t225 => (if t225 = true then (some (x206000, x206001, x206002, x206003, x206004, true)) else (some (x204000, x204001, x204002, x204003, x204004, false)))))
def fencepostref08_Erase.f (k : Nat) (a0_0 : ByteArray) (l0_1 : List (S62)) (l0_2 : List (S58)) (a0_3 : Bool) (l0_4 : List (S64)) (l1 : List Int) : Option (ByteArray × (List (S62)) × (List (S58)) × Bool × (List (S64)) × Bool) := fencepostref08_Erase.l0 k l1 0 0 a0_0 l0_1 l0_2 a0_3 l0_4 a0_0 l0_1 ([] : List (S58)) a0_3 l0_4
theorem fencepostref08_Erase.mono_l : ∀ k, (∀ y0 y1 y2 y3 y4 y5 y6 y7 y8 y9 y10 y11 y12, LeO (fencepostref08_Erase.l0 k y0 y1 y2 y3 y4 y5 y6 y7 y8 y9 y10 y11 y12) (fencepostref08_Erase.l0 (k + 1) y0 y1 y2 y3 y4 y5 y6 y7 y8 y9 y10 y11 y12))
 | 0 => fun _ _ _ _ _ _ _ _ _ _ _ _ _ r h => by simp [fencepostref08_Erase.l0] at h
 | k + 1 => by
  have ih0 := fencepostref08_Erase.mono_l k
  ·intro y0 y1 y2 y3 y4 y5 y6 y7 y8 y9 y10 y11 y12
   unfold fencepostref08_Erase.l0
   repeat' first
   | (with_reducible exact ih0 _ _ _ _ _ _ _ _ _ _ _ _ _)
   | (with_reducible exact fencepostref04_Same.mono _ _ _ _ _ _ _ _ _ _ _)
   | (with_reducible exact fencepostref08_Fence.mono _ _ _ _ _ _ _)
   | (with_reducible exact fencepostref08_without.mono _ _ _ _)
   | (with_reducible exact LeO.refl _)
   | (with_reducible exact LeO.none _)
   | (with_reducible refine LeO.ite ?_ ?_)
   | (with_reducible refine LeO.bind ?_ (fun _ => ?_))
   | exact ih0 _ _ _ _ _ _ _ _ _ _ _ _ _
   | exact fencepostref04_Same.mono _ _ _ _ _ _ _ _ _ _ _
   | exact fencepostref08_Fence.mono _ _ _ _ _ _ _
   | exact fencepostref08_without.mono _ _ _ _
   | exact LeO.none _
   | refine LeO.ite ?_ ?_
   | refine LeO.bind ?_ (fun _ => ?_)
theorem fencepostref08_Erase.mono : ∀ a0 a1 a2 a3 a4 a5 k, LeO (fencepostref08_Erase.f k a0 a1 a2 a3 a4 a5) (fencepostref08_Erase.f (k + 1) a0 a1 a2 a3 a4 a5) := by
 intro a0 a1 a2 a3 a4 a5 k
 have ih0 := fencepostref08_Erase.mono_l k
 unfold fencepostref08_Erase.f
 repeat' first
  | (with_reducible exact ih0 _ _ _ _ _ _ _ _ _ _ _ _ _)
  | (with_reducible exact fencepostref04_Same.mono _ _ _ _ _ _ _ _ _ _ _)
  | (with_reducible exact fencepostref08_Fence.mono _ _ _ _ _ _ _)
  | (with_reducible exact fencepostref08_without.mono _ _ _ _)
  | (with_reducible exact LeO.refl _)
  | (with_reducible exact LeO.none _)
  | (with_reducible refine LeO.ite ?_ ?_)
  | (with_reducible refine LeO.bind ?_ (fun _ => ?_))
  | exact ih0 _ _ _ _ _ _ _ _ _ _ _ _ _
  | exact fencepostref04_Same.mono _ _ _ _ _ _ _ _ _ _ _
  | exact fencepostref08_Fence.mono _ _ _ _ _ _ _
  | exact fencepostref08_without.mono _ _ _ _
  | exact LeO.none _
  | refine LeO.ite ?_ ?_
  | refine LeO.bind ?_ (fun _ => ?_)
set_option maxHeartbeats 8000000 in
set_option maxRecDepth 100000 in
theorem fencepostref08_Erase.calls (k : Nat) (a0_0 : ByteArray) (P0_1_ : Nat → Prop) (A0_1 : Option Addr) (c0_1 : Nat) (l0_1 : List (S62)) (P0_2_ : Nat → Prop) (A0_2 : Option Addr) (c0_2 : Nat) (l0_2 : List (S58)) (a0_3 : Bool) (P0_4_ : Nat → Prop) (A0_4 : Option Addr) (c0_4 : Nat) (l0_4 : List (S64)) (A1 : Option Addr) (c1 : Nat) (l1 : List Int) (r1 : ByteArray) (r2 : List (S62)) (r3 : List (S58)) (r4 : Bool) (r5 : List (S64)) (r6 : Bool) (w : World) (hs0_1 : Kd.V k62 62 w w.heap.size (fun k_ => P0_1_ k_) (.slice A0_1 l0_1.length c0_1) l0_1) (hs0_2 : Kd.V k58 58 w w.heap.size (fun k_ => P0_2_ k_) (.slice A0_2 l0_2.length c0_2) l0_2) (hs0_4 : Kd.V k64 64 w w.heap.size (fun k_ => P0_4_ k_) (.slice A0_4 l0_4.length c0_4) l0_4) (hr1 : Kd.C (Kd.int .i64) w A1 l1.length l1) (hc1 : l1.length ≤ c1) (h : fencepostref08_Erase.f k a0_0 l0_1 l0_2 a0_3 l0_4 l1 = some (r1, r2, r3, r4, r5, r6)) :
 Calls Try.prog 16 #[.agg #[.string a0_0, .slice A0_1 l0_1.length c0_1, .slice A0_2 l0_2.length c0_2, .bool a0_3, .slice A0_4 l0_4.length c0_4], .slice A1 l1.length c1] w fun e w' => ∃ v1_ v2_ v4_ : Value, e = .returned (.tuple #[.agg #[.string r1, v1_, v2_, .bool r4, v4_], .bool r6]) ∧ Kd.V k62 62 w' w.heap.size (fun k_ => ((P0_1_ k_ ∨ P0_2_ k_ ∨ P0_4_ k_) ∨ w.heap.size ≤ k_)) v1_ r2 ∧ Kd.V k58 58 w' w.heap.size (fun k_ => ((P0_1_ k_ ∨ P0_2_ k_ ∨ P0_4_ k_) ∨ w.heap.size ≤ k_)) v2_ r3 ∧ Kd.V k64 64 w' w.heap.size (fun k_ => ((P0_1_ k_ ∨ P0_2_ k_ ∨ P0_4_ k_) ∨ w.heap.size ≤ k_)) v4_ r5 ∧ Below w.heap.size w w' := by
 have hu30 := Try.underlying30
 have hu58 := Try.underlying58
 have HO0_1 := Aside0.mk (show Kd.V k62 62 w w.heap.size (fun k_ => ((P0_1_ k_ ∨ P0_2_ k_ ∨ P0_4_ k_) ∨ w.heap.size ≤ k_)) (.slice A0_1 l0_1.length c0_1) l0_1 from Kd.V_mono hs0_1 (fun k_ hk => .inl (.inl hk)))
 have HO0_2 := Aside0.mk (show Kd.V k58 58 w w.heap.size (fun k_ => ((P0_1_ k_ ∨ P0_2_ k_ ∨ P0_4_ k_) ∨ w.heap.size ≤ k_)) (.slice A0_2 l0_2.length c0_2) l0_2 from Kd.V_mono hs0_2 (fun k_ hk => .inl (.inr (.inl hk))))
 have HO0_4 := Aside0.mk (show Kd.V k64 64 w w.heap.size (fun k_ => ((P0_1_ k_ ∨ P0_2_ k_ ∨ P0_4_ k_) ∨ w.heap.size ≤ k_)) (.slice A0_4 l0_4.length c0_4) l0_4 from Kd.V_mono hs0_4 (fun k_ hk => .inl (.inr (.inr hk))))
 have HR1 := Aside0.mk hr1
 have HC1 := Aside0.mk hc1
 clear hr1 hc1
 have HB := Aside0.mk (Below.refl w.heap.size w)
 have H : (fencepostref08_Erase.l0 k l1 0 0 a0_0 l0_1 l0_2 a0_3 l0_4 a0_0 l0_1 ([] : List (S58)) a0_3 l0_4) = some (r1, r2, r3, r4, r5, r6) := h
 clear h
 have H' := Aside0.mk H
 clear H
 go_enter Try.func16, Try.ntmps16
 go_wp2_with (first | ((with_reducible refine gate_dst (N := 2) rfl ?_); refine box_event ?hg (N := 2) ?hd (cs := #[.string a0_0, .slice A0_1 l0_1.length c0_1, .slice A0_2 l0_2.length c0_2, .bool a0_3, .slice A0_4 l0_4.length c0_4]) (t := 30) ?hr ?_; (case hd => rfl); (case hg => rfl); (case hr => first | (go_simp; done) | (go_simp; rfl)); intro gb203 hg w3 hbox hb; have n0_ := Aside0.mk (Kd.V_below (Kd.V_elderB (vd_ HO0_1.out) gb203 (Nat.le_of_eq hg.symm)) hb); have n1_ := Aside0.mk (Kd.V_below (Kd.V_elderB (vd_ HO0_2.out) gb203 (Nat.le_of_eq hg.symm)) hb); have n2_ := Aside0.mk (Kd.V_below (Kd.V_elderB (vd_ HO0_4.out) gb203 (Nat.le_of_eq hg.symm)) hb); have n3_ := Aside0.mk (below_step (hb_ HB.out) hb); have n4_ := Aside0.mk (hbox); have n5_ := Aside0.mk (gs_ hg (hb_ HB.out)); have n6_ := Aside0.mk (gs_ hg (hb_ HB.out)); clear HO0_1; clear HO0_2; clear HO0_4; clear HB; have HO0_1 := n0_; have HO0_2 := n1_; have HO0_4 := n2_; have HB := n3_; have BK203 := n4_; have GW203 := n5_; have GE203 := n6_; clear n0_ n1_ n2_ n3_ n4_ n5_ n6_; clear hb hbox hg) | ((with_reducible refine gate_dst (N := 4) rfl ?_); refine box_event ?hg (N := 4) ?hd (cs := #[.string (⟨#[]⟩ : ByteArray), .slice none 0 0, .slice none 0 0, .bool false, .slice none 0 0]) (t := 30) ?hr ?_; (case hd => rfl); (case hg => rfl); (case hr => first | (go_simp; done) | (go_simp; rfl)); intro gb204 hg w4 hbox hb; have n0_ := Aside0.mk (Kd.V_below (Kd.V_elderB (vd_ HO0_1.out) gb204 (Nat.le_of_eq hg.symm)) hb); have n1_ := Aside0.mk (Kd.V_below (Kd.V_elderB (vd_ HO0_2.out) gb204 (Nat.le_of_eq hg.symm)) hb); have n2_ := Aside0.mk (Kd.V_below (Kd.V_elderB (vd_ HO0_4.out) gb204 (Nat.le_of_eq hg.symm)) hb); have n3_ := Aside0.mk (bb_ BK203.out hb); have n4_ := Aside0.mk (below_step (hb_ HB.out) hb); have n5_ := Aside0.mk (hbox); have n6_ := Aside0.mk (gs_ hg (hb_ HB.out)); have n7_ := Aside0.mk (gs_ hg (hb_ HB.out)); have n8_ := Aside0.mk (gn_ hg BK203.out); have n9_ := Aside0.mk (gn_ hg BK203.out).symm; clear HO0_1; clear HO0_2; clear HO0_4; clear BK203; clear HB; have HO0_1 := n0_; have HO0_2 := n1_; have HO0_4 := n2_; have BK203 := n3_; have HB := n4_; have BK204 := n5_; have GW204 := n6_; have GE204 := n7_; have NB203_204 := n8_; have NB204_203 := n9_; clear n0_ n1_ n2_ n3_ n4_ n5_ n6_ n7_ n8_ n9_; clear hb hbox hg; have hnb5 := NB203_204.out; have hnc5 := NB204_203.out; have hcz6_0 : w4.cell? ⟨gb203, 0, none⟩ = some (.string a0_0) := (blk_cell BK203.out 0).trans rfl; have hcz6_1 : w4.cell? ⟨gb203, 1, none⟩ = some (.slice A0_1 l0_1.length c0_1) := (blk_cell BK203.out 1).trans rfl; have hcz6_2 : w4.cell? ⟨gb203, 2, none⟩ = some (.slice A0_2 l0_2.length c0_2) := (blk_cell BK203.out 2).trans rfl; have hcz6_3 : w4.cell? ⟨gb203, 3, none⟩ = some (.bool a0_3) := (blk_cell BK203.out 3).trans rfl; have hcz6_4 : w4.cell? ⟨gb203, 4, none⟩ = some (.slice A0_4 l0_4.length c0_4) := (blk_cell BK203.out 4).trans rfl; have hfz6_0 := blk_frozen BK203.out 0; have hfz6_1 := blk_frozen BK203.out 1; have hfz6_2 := blk_frozen BK203.out 2; have hfz6_3 := blk_frozen BK203.out 3; have hfz6_4 := blk_frozen BK203.out 4) | ((with_reducible refine gate_dst (N := 6) rfl ?_); refine box_event ?hg (N := 6) ?hd (cs := #[.string (⟨#[]⟩ : ByteArray), .slice none 0 0, .slice none 0 0, .bool false, .slice none 0 0]) (t := 30) ?hr ?_; (case hd => rfl); (case hg => rfl); (case hr => first | (go_simp; done) | (go_simp; rfl)); intro gb205 hg w7 hbox hb; have n0_ := Aside0.mk (Kd.V_below (Kd.V_elderB (vd_ HO0_1.out) gb205 (Nat.le_of_eq hg.symm)) hb); have n1_ := Aside0.mk (Kd.V_below (Kd.V_elderB (vd_ HO0_2.out) gb205 (Nat.le_of_eq hg.symm)) hb); have n2_ := Aside0.mk (Kd.V_below (Kd.V_elderB (vd_ HO0_4.out) gb205 (Nat.le_of_eq hg.symm)) hb); have n3_ := Aside0.mk (bb_ BK203.out hb); have n4_ := Aside0.mk (bb_ BK204.out hb); have n5_ := Aside0.mk (below_step (hb_ HB.out) hb); have n6_ := Aside0.mk (hbox); have n7_ := Aside0.mk (gs_ hg (hb_ HB.out)); have n8_ := Aside0.mk (gs_ hg (hb_ HB.out)); have n9_ := Aside0.mk (gn_ hg BK203.out); have n10_ := Aside0.mk (gn_ hg BK203.out).symm; have n11_ := Aside0.mk (gn_ hg BK204.out); have n12_ := Aside0.mk (gn_ hg BK204.out).symm; clear HO0_1; clear HO0_2; clear HO0_4; clear BK203; clear BK204; clear HB; have HO0_1 := n0_; have HO0_2 := n1_; have HO0_4 := n2_; have BK203 := n3_; have BK204 := n4_; have HB := n5_; have BK205 := n6_; have GW205 := n7_; have GE205 := n8_; have NB203_205 := n9_; have NB205_203 := n10_; have NB204_205 := n11_; have NB205_204 := n12_; clear n0_ n1_ n2_ n3_ n4_ n5_ n6_ n7_ n8_ n9_ n10_ n11_ n12_; clear hb hbox hg; have hnb8 := NB205_203.out; have hnc8 := NB203_205.out; have hnb9 := NB205_204.out; have hnc9 := NB204_205.out; have hcz10_0 : w7.cell? ⟨gb205, 0, none⟩ = some (.string (⟨#[]⟩ : ByteArray)) := (blk_cell BK205.out 0).trans rfl; have hcz10_1 : w7.cell? ⟨gb205, 1, none⟩ = some (.slice none 0 0) := (blk_cell BK205.out 1).trans rfl; have hcz10_2 : w7.cell? ⟨gb205, 2, none⟩ = some (.slice none 0 0) := (blk_cell BK205.out 2).trans rfl; have hcz10_3 : w7.cell? ⟨gb205, 3, none⟩ = some (.bool false) := (blk_cell BK205.out 3).trans rfl; have hcz10_4 : w7.cell? ⟨gb205, 4, none⟩ = some (.slice none 0 0) := (blk_cell BK205.out 4).trans rfl; have hfz10_0 := blk_frozen BK205.out 0; have hfz10_1 := blk_frozen BK205.out 1; have hfz10_2 := blk_frozen BK205.out 2; have hfz10_3 := blk_frozen BK205.out 3; have hfz10_4 := blk_frozen BK205.out 4))
 go_loopg [7, 8] k (fun kq v7 v8 w' => ∃ (x7_1 : Int) (x8_1 : Int) (x206002_1 : List (S58)) (u206002 : Value), v7 = .int .i64 x7_1 ∧ v8 = .int .i64 x8_1 ∧ Aside0 (fencepostref08_Erase.l0 kq l1 x7_1 x8_1 a0_0 l0_1 l0_2 a0_3 l0_4 a0_0 l0_1 x206002_1 a0_3 l0_4 = some (r1, r2, r3, r4, r5, r6)) ∧ Aside0 (kq ≤ k) ∧ Aside0 (Kd.V k62 62 w' w.heap.size (fun k_ => ((P0_1_ k_ ∨ P0_2_ k_ ∨ P0_4_ k_) ∨ w.heap.size ≤ k_) ∧ some k_ ≠ (u206002 : Value).ownBlock ∧ k_ ≠ gb203 ∧ k_ ≠ gb204 ∧ k_ ≠ gb205) (.slice A0_1 l0_1.length c0_1) l0_1) ∧ Aside0 (Kd.V k58 58 w' w.heap.size (fun k_ => ((P0_1_ k_ ∨ P0_2_ k_ ∨ P0_4_ k_) ∨ w.heap.size ≤ k_) ∧ some k_ ≠ (u206002 : Value).ownBlock ∧ k_ ≠ gb203 ∧ k_ ≠ gb204 ∧ k_ ≠ gb205) (.slice A0_2 l0_2.length c0_2) l0_2) ∧ Aside0 (Kd.V k64 64 w' w.heap.size (fun k_ => ((P0_1_ k_ ∨ P0_2_ k_ ∨ P0_4_ k_) ∨ w.heap.size ≤ k_) ∧ some k_ ≠ (u206002 : Value).ownBlock ∧ k_ ≠ gb203 ∧ k_ ≠ gb204 ∧ k_ ≠ gb205) (.slice A0_4 l0_4.length c0_4) l0_4) ∧ Aside0 (Kd.V k62 62 w' w.heap.size (fun k_ => ((P0_1_ k_ ∨ P0_2_ k_ ∨ P0_4_ k_) ∨ w.heap.size ≤ k_) ∧ some k_ ≠ (u206002 : Value).ownBlock ∧ k_ ≠ gb203 ∧ k_ ≠ gb204 ∧ k_ ≠ gb205) (.slice A0_1 l0_1.length c0_1) l0_1) ∧ Aside0 (Kd.S k58 58 w' w.heap.size (fun k_ => (w.heap.size ≤ k_)) u206002 x206002_1) ∧ Aside0 (Kd.V k64 64 w' w.heap.size (fun k_ => ((P0_1_ k_ ∨ P0_2_ k_ ∨ P0_4_ k_) ∨ w.heap.size ≤ k_) ∧ some k_ ≠ (u206002 : Value).ownBlock ∧ k_ ≠ gb203 ∧ k_ ≠ gb204 ∧ k_ ≠ gb205) (.slice A0_4 l0_4.length c0_4) l0_4) ∧ Aside0 (w'.heap[gb203]? = some (.cells #[.string a0_0, (.slice A0_1 l0_1.length c0_1), (.slice A0_2 l0_2.length c0_2), .bool a0_3, (.slice A0_4 l0_4.length c0_4)] 30 (0, 0))) ∧ Aside0 (w'.heap[gb204]? = some (.cells #[.string (⟨#[]⟩ : ByteArray), (.slice none 0 0), (.slice none 0 0), .bool false, (.slice none 0 0)] 30 (0, 0))) ∧ Aside0 (w'.heap[gb205]? = some (.cells #[.string a0_0, (.slice A0_1 l0_1.length c0_1), u206002, .bool a0_3, (.slice A0_4 l0_4.length c0_4)] 30 (0, 0))) ∧ Aside0 (Below w.heap.size w w'))
 case atStart => exact ⟨(0), (0), (([] : List (S58))), (.slice none 0 0), rf_, rf_, H', ⟨Nat.le_refl _⟩, ⟨by (with_reducible repeat (first | apply Kd.V_alloc | apply Kd.V_drewN | apply Kd.V_drew)); exact Kd.V_mono (Kd.V_far (p := ⟨gb205, 2, none⟩) (Kd.V_far (p := ⟨gb205, 4, none⟩) (Kd.V_far (p := ⟨gb205, 3, none⟩) (Kd.V_far (p := ⟨gb205, 2, none⟩) (Kd.V_far (p := ⟨gb205, 1, none⟩) (Kd.V_far (p := ⟨gb205, 0, none⟩) (Kd.V_mono HO0_1.out (fun k_ hk => (⟨hk, hk.2⟩ : _ ∧ k_ ≠ gb205))) (fun _ hk => hk.2) (.string a0_0)) (fun _ hk => hk.2) (.slice A0_1 l0_1.length c0_1)) (fun _ hk => hk.2) (.slice A0_2 l0_2.length c0_2)) (fun _ hk => hk.2) (.bool a0_3)) (fun _ hk => hk.2) (.slice A0_4 l0_4.length c0_4)) (fun _ hk => hk.2) (.slice none 0 0)) (fun _ hk => ⟨hk.1.1.1.1, ⟨(by simp [Value.ownBlock]), ⟨hk.1.1.1.2, ⟨hk.1.1.2, hk.1.2⟩⟩⟩⟩)⟩, ⟨by (with_reducible repeat (first | apply Kd.V_alloc | apply Kd.V_drewN | apply Kd.V_drew)); exact Kd.V_mono (Kd.V_far (p := ⟨gb205, 2, none⟩) (Kd.V_far (p := ⟨gb205, 4, none⟩) (Kd.V_far (p := ⟨gb205, 3, none⟩) (Kd.V_far (p := ⟨gb205, 2, none⟩) (Kd.V_far (p := ⟨gb205, 1, none⟩) (Kd.V_far (p := ⟨gb205, 0, none⟩) (Kd.V_mono HO0_2.out (fun k_ hk => (⟨hk, hk.2⟩ : _ ∧ k_ ≠ gb205))) (fun _ hk => hk.2) (.string a0_0)) (fun _ hk => hk.2) (.slice A0_1 l0_1.length c0_1)) (fun _ hk => hk.2) (.slice A0_2 l0_2.length c0_2)) (fun _ hk => hk.2) (.bool a0_3)) (fun _ hk => hk.2) (.slice A0_4 l0_4.length c0_4)) (fun _ hk => hk.2) (.slice none 0 0)) (fun _ hk => ⟨hk.1.1.1.1, ⟨(by simp [Value.ownBlock]), ⟨hk.1.1.1.2, ⟨hk.1.1.2, hk.1.2⟩⟩⟩⟩)⟩, ⟨by (with_reducible repeat (first | apply Kd.V_alloc | apply Kd.V_drewN | apply Kd.V_drew)); exact Kd.V_mono (Kd.V_far (p := ⟨gb205, 2, none⟩) (Kd.V_far (p := ⟨gb205, 4, none⟩) (Kd.V_far (p := ⟨gb205, 3, none⟩) (Kd.V_far (p := ⟨gb205, 2, none⟩) (Kd.V_far (p := ⟨gb205, 1, none⟩) (Kd.V_far (p := ⟨gb205, 0, none⟩) (Kd.V_mono HO0_4.out (fun k_ hk => (⟨hk, hk.2⟩ : _ ∧ k_ ≠ gb205))) (fun _ hk => hk.2) (.string a0_0)) (fun _ hk => hk.2) (.slice A0_1 l0_1.length c0_1)) (fun _ hk => hk.2) (.slice A0_2 l0_2.length c0_2)) (fun _ hk => hk.2) (.bool a0_3)) (fun _ hk => hk.2) (.slice A0_4 l0_4.length c0_4)) (fun _ hk => hk.2) (.slice none 0 0)) (fun _ hk => ⟨hk.1.1.1.1, ⟨(by simp [Value.ownBlock]), ⟨hk.1.1.1.2, ⟨hk.1.1.2, hk.1.2⟩⟩⟩⟩)⟩, ⟨by (with_reducible repeat (first | apply Kd.V_alloc | apply Kd.V_drewN | apply Kd.V_drew)); exact Kd.V_mono (Kd.V_far (p := ⟨gb205, 2, none⟩) (Kd.V_far (p := ⟨gb205, 4, none⟩) (Kd.V_far (p := ⟨gb205, 3, none⟩) (Kd.V_far (p := ⟨gb205, 2, none⟩) (Kd.V_far (p := ⟨gb205, 1, none⟩) (Kd.V_far (p := ⟨gb205, 0, none⟩) (Kd.V_mono HO0_1.out (fun k_ hk => (⟨hk, hk.2⟩ : _ ∧ k_ ≠ gb205))) (fun _ hk => hk.2) (.string a0_0)) (fun _ hk => hk.2) (.slice A0_1 l0_1.length c0_1)) (fun _ hk => hk.2) (.slice A0_2 l0_2.length c0_2)) (fun _ hk => hk.2) (.bool a0_3)) (fun _ hk => hk.2) (.slice A0_4 l0_4.length c0_4)) (fun _ hk => hk.2) (.slice none 0 0)) (fun _ hk => ⟨hk.1.1.1.1, ⟨(by simp [Value.ownBlock]), ⟨hk.1.1.1.2, ⟨hk.1.1.2, hk.1.2⟩⟩⟩⟩)⟩, ⟨by first | exact Kd.S_nil _ _ _ _ _ | exact Kd.N_nil _ _ _ _ _ | exact Kd.V_nil _ _ _ _ _ | exact Kd.Q_nil _ _ _ _ _ | exact Kd.R_nil _ _ _ _ _⟩, ⟨by (with_reducible repeat (first | apply Kd.V_alloc | apply Kd.V_drewN | apply Kd.V_drew)); exact Kd.V_mono (Kd.V_far (p := ⟨gb205, 2, none⟩) (Kd.V_far (p := ⟨gb205, 4, none⟩) (Kd.V_far (p := ⟨gb205, 3, none⟩) (Kd.V_far (p := ⟨gb205, 2, none⟩) (Kd.V_far (p := ⟨gb205, 1, none⟩) (Kd.V_far (p := ⟨gb205, 0, none⟩) (Kd.V_mono HO0_4.out (fun k_ hk => (⟨hk, hk.2⟩ : _ ∧ k_ ≠ gb205))) (fun _ hk => hk.2) (.string a0_0)) (fun _ hk => hk.2) (.slice A0_1 l0_1.length c0_1)) (fun _ hk => hk.2) (.slice A0_2 l0_2.length c0_2)) (fun _ hk => hk.2) (.bool a0_3)) (fun _ hk => hk.2) (.slice A0_4 l0_4.length c0_4)) (fun _ hk => hk.2) (.slice none 0 0)) (fun _ hk => ⟨hk.1.1.1.1, ⟨(by simp [Value.ownBlock]), ⟨hk.1.1.1.2, ⟨hk.1.1.2, hk.1.2⟩⟩⟩⟩)⟩, ⟨by (with_reducible repeat (first | refine blk_drewN ?_ _ | refine blk_drew ?_ | refine blk_alloc ?_ _)); refine blk_far ?_ NB203_205.out _; (with_reducible repeat (first | refine blk_drewN ?_ _ | refine blk_drew ?_ | refine blk_alloc ?_ _)); refine blk_far ?_ NB203_205.out _; (with_reducible repeat (first | refine blk_drewN ?_ _ | refine blk_drew ?_ | refine blk_alloc ?_ _)); refine blk_far ?_ NB203_205.out _; (with_reducible repeat (first | refine blk_drewN ?_ _ | refine blk_drew ?_ | refine blk_alloc ?_ _)); refine blk_far ?_ NB203_205.out _; (with_reducible repeat (first | refine blk_drewN ?_ _ | refine blk_drew ?_ | refine blk_alloc ?_ _)); refine blk_far ?_ NB203_205.out _; (with_reducible repeat (first | refine blk_drewN ?_ _ | refine blk_drew ?_ | refine blk_alloc ?_ _)); refine blk_far ?_ NB203_205.out _; (with_reducible repeat (first | refine blk_drewN ?_ _ | refine blk_drew ?_ | refine blk_alloc ?_ _)); exact BK203.out⟩, ⟨by (with_reducible repeat (first | refine blk_drewN ?_ _ | refine blk_drew ?_ | refine blk_alloc ?_ _)); refine blk_far ?_ NB204_205.out _; (with_reducible repeat (first | refine blk_drewN ?_ _ | refine blk_drew ?_ | refine blk_alloc ?_ _)); refine blk_far ?_ NB204_205.out _; (with_reducible repeat (first | refine blk_drewN ?_ _ | refine blk_drew ?_ | refine blk_alloc ?_ _)); refine blk_far ?_ NB204_205.out _; (with_reducible repeat (first | refine blk_drewN ?_ _ | refine blk_drew ?_ | refine blk_alloc ?_ _)); refine blk_far ?_ NB204_205.out _; (with_reducible repeat (first | refine blk_drewN ?_ _ | refine blk_drew ?_ | refine blk_alloc ?_ _)); refine blk_far ?_ NB204_205.out _; (with_reducible repeat (first | refine blk_drewN ?_ _ | refine blk_drew ?_ | refine blk_alloc ?_ _)); refine blk_far ?_ NB204_205.out _; (with_reducible repeat (first | refine blk_drewN ?_ _ | refine blk_drew ?_ | refine blk_alloc ?_ _)); exact BK204.out⟩, ⟨by (with_reducible repeat (first | refine blk_drewN ?_ _ | refine blk_drew ?_ | refine blk_alloc ?_ _)); refine blk_put (cs := #[.string a0_0, .slice A0_1 l0_1.length c0_1, .slice A0_2 l0_2.length c0_2, .bool a0_3, .slice A0_4 l0_4.length c0_4]) ?_ 2 _ rfl; (with_reducible repeat (first | refine blk_drewN ?_ _ | refine blk_drew ?_ | refine blk_alloc ?_ _)); refine blk_put (cs := #[.string a0_0, .slice A0_1 l0_1.length c0_1, .slice A0_2 l0_2.length c0_2, .bool a0_3, .slice none 0 0]) ?_ 4 _ rfl; (with_reducible repeat (first | refine blk_drewN ?_ _ | refine blk_drew ?_ | refine blk_alloc ?_ _)); refine blk_put (cs := #[.string a0_0, .slice A0_1 l0_1.length c0_1, .slice A0_2 l0_2.length c0_2, .bool false, .slice none 0 0]) ?_ 3 _ rfl; (with_reducible repeat (first | refine blk_drewN ?_ _ | refine blk_drew ?_ | refine blk_alloc ?_ _)); refine blk_put (cs := #[.string a0_0, .slice A0_1 l0_1.length c0_1, .slice none 0 0, .bool false, .slice none 0 0]) ?_ 2 _ rfl; (with_reducible repeat (first | refine blk_drewN ?_ _ | refine blk_drew ?_ | refine blk_alloc ?_ _)); refine blk_put (cs := #[.string a0_0, .slice none 0 0, .slice none 0 0, .bool false, .slice none 0 0]) ?_ 1 _ rfl; (with_reducible repeat (first | refine blk_drewN ?_ _ | refine blk_drew ?_ | refine blk_alloc ?_ _)); refine blk_put (cs := #[.string (⟨#[]⟩ : ByteArray), .slice none 0 0, .slice none 0 0, .bool false, .slice none 0 0]) ?_ 0 _ rfl; (with_reducible repeat (first | refine blk_drewN ?_ _ | refine blk_drew ?_ | refine blk_alloc ?_ _)); exact BK205.out⟩, ⟨hb_ HB.out⟩⟩
 clear H'
 try clear c1
 try clear hcz10_0
 try clear hcz10_1
 try clear hcz10_2
 try clear hcz10_3
 try clear hcz10_4
 try clear hcz6_0
 try clear hcz6_1
 try clear hcz6_2
 try clear hcz6_3
 try clear hcz6_4
 try clear hfz10_0
 try clear hfz10_1
 try clear hfz10_2
 try clear hfz10_3
 try clear hfz10_4
 try clear hfz6_0
 try clear hfz6_1
 try clear hfz6_2
 try clear hfz6_3
 try clear hfz6_4
 obtain ⟨x7_1, x8_1, x206002_1, u206002, rfl, rfl, HA, HK1, HO_204001, HO_204002, HO_204004, HO_206001, HO_206002, HO_206004, BK203, BK204, BK205, HB⟩ := hrel
 cases gk with
 | zero => exact absurd HA.out (by simp [fencepostref08_Erase.l0])
 | succ k1 => ?_
 have H := HA.out
 clear HA
 simp only [fencepostref08_Erase.l0] at H
 by_cases c11 : x8_1 < (l0_2.length : Int)
 ·rw [if_pos c11] at H
  have c11b0 : decide (x8_1 < (l0_2.length : Int)) = true := decide_eq_true c11
  clear c11
  by_cases c12 : 0 ≤ x8_1
  rotate_left
  ·rw [if_neg c12] at H
   exact absurd H (by simp)
  rw [if_pos c12] at H
  have c12b0 : decide (0 ≤ x8_1) = true := decide_eq_true c12
  clear c12
  replace H := Option.bind_eq_some_iff.mp H
  obtain ⟨⟨t207, t208⟩, A130, H⟩ := H
  replace H : (if x206002_1.length < 5864062014805 then (fencepostref08_Erase.l0 k1 l1 (wrap64 (x7_1 + t208)) (wrap64 (x8_1 + 1)) a0_0 l0_1 l0_2 a0_3 l0_4 a0_0 l0_1 (x206002_1 ++ [(⟨t207⟩ : S58)]) a0_3 l0_4) else (none)) = some (r1, r2, r3, r4, r5, r6) := H
  have A13 := Aside0.mk A130
  clear A130
  by_cases c14 : x206002_1.length < 5864062014805
  rotate_left
  ·rw [if_neg c14] at H
   exact absurd H (by simp)
  rw [if_pos c14] at H
  have LMc14 := Aside0.mk c14
  clear c14
  obtain ⟨y211, hy211⟩ : ∃ y_ : List (S58), y_ = (x206002_1 ++ [(⟨t207⟩ : S58)]) := ⟨_, rfl⟩
  replace H : (fencepostref08_Erase.l0 k1 l1 (wrap64 (x7_1 + t208)) (wrap64 (x8_1 + 1)) a0_0 l0_1 l0_2 a0_3 l0_4 a0_0 l0_1 y211 a0_3 l0_4) = some (r1, r2, r3, r4, r5, r6) := by first | (rw [hy211]; with_reducible exact H) | (have H2_ := (Option.bind_some _ _).symm.trans H; rw [hy211]; with_reducible exact H2_) | (have H2_ := (Option.bind_some _ _).symm.trans H; with_reducible exact H2_) | with_reducible exact H | (rw [hy211]; exact H) | exact H
  have Ny211 := Aside0.mk hy211
  clear hy211
  have H' := Aside0.mk H
  clear H
  have hnb15 := NB203_204.out
  have hnc15 := NB204_203.out
  have hnb16 := NB203_205.out
  have hnc16 := NB205_203.out
  have hcz17_0 : wr.cell? ⟨gb203, 0, none⟩ = some (.string a0_0) := (blk_cell BK203.out 0).trans rfl
  have hcz17_1 : wr.cell? ⟨gb203, 1, none⟩ = some (.slice A0_1 l0_1.length c0_1) := (blk_cell BK203.out 1).trans rfl
  have hcz17_2 : wr.cell? ⟨gb203, 2, none⟩ = some (.slice A0_2 l0_2.length c0_2) := (blk_cell BK203.out 2).trans rfl
  have hcz17_3 : wr.cell? ⟨gb203, 3, none⟩ = some (.bool a0_3) := (blk_cell BK203.out 3).trans rfl
  have hcz17_4 : wr.cell? ⟨gb203, 4, none⟩ = some (.slice A0_4 l0_4.length c0_4) := (blk_cell BK203.out 4).trans rfl
  have hfz17_0 := blk_frozen BK203.out 0
  have hfz17_1 := blk_frozen BK203.out 1
  have hfz17_2 := blk_frozen BK203.out 2
  have hfz17_3 := blk_frozen BK203.out 3
  have hfz17_4 := blk_frozen BK203.out 4
  have p206 : 0 ≤ (x8_1 : Int) := of_decide_eq_true as_
  have q206 : x8_1 < (l0_2.length : Int) := of_decide_eq_true as_
  obtain ⟨ad206, A206_0, c206_0, e206, hx206_0, hl206_0, hi206_0⟩ := at_T58 (Kd.V_reads' HO_204002.out).2.2 x8_1 p206 q206
  cases e206
  obtain ⟨ce206, hce206, hMe206, hcc206⟩ := Kd.V_get HO_204002.out z58 x8_1 p206 (by first | exact q206 | exact of_decide_eq_true as_ | (have e_ := (Kd.V_reads' HO_204002.out).1; omega))
  obtain ⟨ua206_0, uc206_0, rfl, ul206_0, ge206_0⟩ := k58_openF hMe206
  have hv206_0 := hcc206 0 _ rfl
  rw [Nat.add_zero, show (k58).sz = 1 from rfl, Nat.mul_one] at hv206_0
  replace hv206_0 := Option.some.inj (hv206_0.symm.trans hx206_0)
  injection hv206_0 with hva_ hvn_ hvc_
  rw [hva_] at ge206_0
  rw [hvc_] at ul206_0
  have HL206_0 := Aside0.mk (show Kd.V k60 60 _ w.heap.size _ _ ((rd_T58 l0_2 x8_1).f0) from Kd.V_mk ul206_0 ge206_0)
  clear hva_ hvn_ hvc_ ge206_0 ul206_0
  clear hcc206 hce206
  have HR206_0 := Aside0.mk hi206_0
  have HC206_0 := Aside0.mk hl206_0
  clear hi206_0 hl206_0
  replace p206 := eq_true p206
  replace q206 := eq_true q206
  go_wp2_with (first | ((with_reducible refine gate_callee (f := 39) rfl ?_); refine goesL_ (some 29) rfl rfl Try.func39 (by kernel_rfl) rfl #[.slice A206_0 ((rd_T58 l0_2 x8_1).f0).length c206_0, .slice A1 l1.length c1, .int .i64 x7_1] rfl ar_ ?_; (with_reducible refine (fencepostref08_without.calls k1 _ _ ((rd_T58 l0_2 x8_1).f0) _ _ l1 x7_1 t207 t208 _ ?side1 ?side2 ?side3 ?side4 A13.out).mono ?_); (case side1 => repeat (first | exact (by repeat (first | (with_reducible exact HR206_0.out) | (with_reducible refine Kd.C_alloc ?_ _) | (with_reducible refine Kd.C_drewN ?_ _) | (with_reducible refine Kd.C_drew ?_) | exact HR206_0.out)) | (with_reducible refine Kd.C_alloc ?_ _) | (with_reducible refine Kd.C_drewN ?_ _) | (with_reducible refine Kd.C_drew ?_))); (case side2 => exact HC206_0.out); (case side3 => exact cd_ (Kd.C_below HR1.out HB.out)); (case side4 => exact HC1.out); rintro e w18 ⟨v209, rfl, ho0, hb⟩; refine ⟨_, rfl, ?_⟩; have n0_ := Aside0.mk (Kd.V_elder' (vd_ HO_204001.out) (Kd.R_base ho0) hb); have n1_ := Aside0.mk (Kd.V_elder' (vd_ HO_204002.out) (Kd.R_base ho0) hb); have n2_ := Aside0.mk (Kd.V_elder' (vd_ HO_204004.out) (Kd.R_base ho0) hb); have n3_ := Aside0.mk (Kd.V_elder' (vd_ HO_206001.out) (Kd.R_base ho0) hb); have n4_ := Aside0.mk (Kd.S_elder' (sd_ HO_206002.out) (Kd.R_base ho0) hb); have n5_ := Aside0.mk (Kd.V_elder' (vd_ HO_206004.out) (Kd.R_base ho0) hb); have n6_ := Aside0.mk (Kd.V_elder' (vd_ HL206_0.out) (Kd.R_base ho0) hb); have n7_ := Aside0.mk (Kd.R_lower (Kd.R_newM (M := fun k_ => (w.heap.size ≤ k_)) ho0 (below_size (hb_ HB.out)) (fun k_ h_ => h_)) (below_size (hb_ HB.out))); have n8_ := Aside0.mk (bb_ BK203.out hb); have n9_ := Aside0.mk (bb_ BK204.out hb); have n10_ := Aside0.mk (bb_ BK205.out hb); have n11_ := Aside0.mk (Kd.C_below (by repeat (first | (with_reducible exact HR206_0.out) | (with_reducible refine Kd.C_alloc ?_ _) | (with_reducible refine Kd.C_drewN ?_ _) | (with_reducible refine Kd.C_drew ?_) | exact HR206_0.out)) hb); have n12_ := Aside0.mk (below_step (hb_ HB.out) hb); clear HO_204001; clear HO_204002; clear HO_204004; clear HO_206001; clear HO_206002; clear HO_206004; clear HL206_0; clear BK203; clear BK204; clear BK205; clear HR206_0; clear HB; have HO_204001 := n0_; have HO_204002 := n1_; have HO_204004 := n2_; have HO_206001 := n3_; have HO_206002 := n4_; have HO_206004 := n5_; have HL206_0 := n6_; have HO210 := n7_; have BK203 := n8_; have BK204 := n9_; have BK205 := n10_; have HR206_0 := n11_; have HB := n12_; clear n0_ n1_ n2_ n3_ n4_ n5_ n6_ n7_ n8_ n9_ n10_ n11_ n12_; (try clear hb); (try clear hb2); (try clear hk); (try clear hi); (try clear ho0); have hnb19 := NB205_204.out; have hnc19 := NB204_205.out; have hcz20_0 : w18.cell? ⟨gb205, 0, none⟩ = some (.string a0_0) := (blk_cell BK205.out 0).trans rfl; have hcz20_1 : w18.cell? ⟨gb205, 1, none⟩ = some (.slice A0_1 l0_1.length c0_1) := (blk_cell BK205.out 1).trans rfl; have hcz20_2 : w18.cell? ⟨gb205, 2, none⟩ = some (u206002) := (blk_cell BK205.out 2).trans rfl; have hcz20_3 : w18.cell? ⟨gb205, 3, none⟩ = some (.bool a0_3) := (blk_cell BK205.out 3).trans rfl; have hcz20_4 : w18.cell? ⟨gb205, 4, none⟩ = some (.slice A0_4 l0_4.length c0_4) := (blk_cell BK205.out 4).trans rfl; have hfz20_0 := blk_frozen BK205.out 0; have hfz20_1 := blk_frozen BK205.out 1; have hfz20_2 := blk_frozen BK205.out 2; have hfz20_3 := blk_frozen BK205.out 3; have hfz20_4 := blk_frozen BK205.out 4; obtain ⟨Ao21, co21, eo21⟩ := Kd.R_slice HO210.out; subst eo21) | ((with_reducible refine gate_builtin (b := .append) (xs := #[.tmp 33, .tmp 36]) rfl ?_); at_builtin; refine Kd.S_append k58 (w0 := w) w.heap.size rfl (.tmp 33) (.tmp 36) 27 58 (.agg #[(.slice none 0 0)]) 24 rfl Try.underlying27 info58 rfl (by decide) (by omega) u206002 x206002_1 (⟨t207⟩ : S58) [.slice Ao21 t207.length co21] (fun k_ => (w.heap.size ≤ k_)) (fun k_ => some k_ = (.slice Ao21 t207.length co21 : Value).ownBlock) rfl rfl ?aP (fun k_ hk_ => ((Kd.R_mono (ok' := fun k_ => ((fun k_ => (w.heap.size ≤ k_))) k_ ∧ some k_ ≠ (u206002 : Value).ownBlock) (Kd.R_apart' (HO210.out) (Kd.S_typed HO_206002.out) (by decide)) (fun k_ hk => ⟨hk.1.1, hk.2⟩))).1 k_ hk_.symm) ?aF ?aO ?aB ?aS ?aL ?_; (case aP => exact k58_mkM _ _ _ (⟨t207⟩ : S58) (Kd.R_mono (Kd.R_tight rfl (Kd.R_mono (ok' := fun k_ => ((fun k_ => (w.heap.size ≤ k_))) k_ ∧ some k_ ≠ (u206002 : Value).ownBlock) (Kd.R_apart' (HO210.out) (Kd.S_typed HO_206002.out) (by decide)) (fun k_ hk => ⟨hk.1.1, hk.2⟩))) (fun _ h_ => h_))); (case aB => exact (hb_ HB.out)); (case aF => exact (fun k_ hk => (Nat.le_trans (below_size (hb_ HB.out)) hk))); (case aO => exact (by (with_reducible repeat (first | apply Kd.S_alloc | apply Kd.S_drewN | apply Kd.S_drew)); exact Kd.S_mono HO_206002.out (fun k_ hk => ⟨hk.1, fun e_ => hk.2 e_⟩))); (case aS => exact (below_size (hb_ HB.out))); (case aL => have := LMc14.out; omega); intro v212 w22 ho hb hg hat; rw [← Ny211.out] at ho; have n0_ := Aside0.mk (Kd.V_afterv (ok := (fun k_ => ((P0_1_ k_ ∨ P0_2_ k_ ∨ P0_4_ k_) ∨ w.heap.size ≤ k_) ∧ some k_ ≠ (.slice Ao21 t207.length co21 : Value).ownBlock ∧ k_ ≠ gb203 ∧ k_ ≠ gb204 ∧ k_ ≠ gb205)) (by (with_reducible repeat (first | apply Kd.V_alloc | apply Kd.V_drewN | apply Kd.V_drew)); exact Kd.V_mono HO_204001.out (fun _ hk => ⟨⟨hk.1.1, ⟨hk.2, ⟨hk.1.2.2.1, ⟨hk.1.2.2.2.1, hk.1.2.2.2.2⟩⟩⟩⟩, hk.1.2.1⟩)) hg hat); have n1_ := Aside0.mk (Kd.V_afterv (ok := (fun k_ => ((P0_1_ k_ ∨ P0_2_ k_ ∨ P0_4_ k_) ∨ w.heap.size ≤ k_) ∧ some k_ ≠ (.slice Ao21 t207.length co21 : Value).ownBlock ∧ k_ ≠ gb203 ∧ k_ ≠ gb204 ∧ k_ ≠ gb205)) (by (with_reducible repeat (first | apply Kd.V_alloc | apply Kd.V_drewN | apply Kd.V_drew)); exact Kd.V_mono HO_204002.out (fun _ hk => ⟨⟨hk.1.1, ⟨hk.2, ⟨hk.1.2.2.1, ⟨hk.1.2.2.2.1, hk.1.2.2.2.2⟩⟩⟩⟩, hk.1.2.1⟩)) hg hat); have n2_ := Aside0.mk (Kd.V_afterv (ok := (fun k_ => ((P0_1_ k_ ∨ P0_2_ k_ ∨ P0_4_ k_) ∨ w.heap.size ≤ k_) ∧ some k_ ≠ (.slice Ao21 t207.length co21 : Value).ownBlock ∧ k_ ≠ gb203 ∧ k_ ≠ gb204 ∧ k_ ≠ gb205)) (by (with_reducible repeat (first | apply Kd.V_alloc | apply Kd.V_drewN | apply Kd.V_drew)); exact Kd.V_mono HO_204004.out (fun _ hk => ⟨⟨hk.1.1, ⟨hk.2, ⟨hk.1.2.2.1, ⟨hk.1.2.2.2.1, hk.1.2.2.2.2⟩⟩⟩⟩, hk.1.2.1⟩)) hg hat); have n3_ := Aside0.mk (Kd.V_afterv (ok := (fun k_ => ((P0_1_ k_ ∨ P0_2_ k_ ∨ P0_4_ k_) ∨ w.heap.size ≤ k_) ∧ some k_ ≠ (.slice Ao21 t207.length co21 : Value).ownBlock ∧ k_ ≠ gb203 ∧ k_ ≠ gb204 ∧ k_ ≠ gb205)) (by (with_reducible repeat (first | apply Kd.V_alloc | apply Kd.V_drewN | apply Kd.V_drew)); exact Kd.V_mono HO_206001.out (fun _ hk => ⟨⟨hk.1.1, ⟨hk.2, ⟨hk.1.2.2.1, ⟨hk.1.2.2.2.1, hk.1.2.2.2.2⟩⟩⟩⟩, hk.1.2.1⟩)) hg hat); have n4_ := Aside0.mk (Kd.V_afterv (ok := (fun k_ => ((P0_1_ k_ ∨ P0_2_ k_ ∨ P0_4_ k_) ∨ w.heap.size ≤ k_) ∧ some k_ ≠ (.slice Ao21 t207.length co21 : Value).ownBlock ∧ k_ ≠ gb203 ∧ k_ ≠ gb204 ∧ k_ ≠ gb205)) (by (with_reducible repeat (first | apply Kd.V_alloc | apply Kd.V_drewN | apply Kd.V_drew)); exact Kd.V_mono HO_206004.out (fun _ hk => ⟨⟨hk.1.1, ⟨hk.2, ⟨hk.1.2.2.1, ⟨hk.1.2.2.2.1, hk.1.2.2.2.2⟩⟩⟩⟩, hk.1.2.1⟩)) hg hat); have n5_ := Aside0.mk (blk_grown (g := gb203) (o := .cells #[.string a0_0, .slice A0_1 l0_1.length c0_1, .slice (some ad206) l0_2.length c0_2, .bool a0_3, .slice A0_4 l0_4.length c0_4] 30 (0, 0)) (bd_ BK203.out) hg (Kd.S_ne HO_206002.out BK203.out (by decide))); have n6_ := Aside0.mk (blk_grown (g := gb204) (o := .cells #[.string (⟨#[]⟩ : ByteArray), .slice none 0 0, .slice none 0 0, .bool false, .slice none 0 0] 30 (0, 0)) (bd_ BK204.out) hg (Kd.S_ne HO_206002.out BK204.out (by decide))); have n7_ := Aside0.mk (blk_grown (g := gb205) (o := .cells #[.string a0_0, .slice A0_1 l0_1.length c0_1, u206002, .bool a0_3, .slice A0_4 l0_4.length c0_4] 30 (0, 0)) (bd_ BK205.out) hg (Kd.S_ne HO_206002.out BK205.out (by decide))); have n8_ := Aside0.mk (Kd.V_afterv (ok := (fun k_ => ((P0_1_ k_ ∨ P0_2_ k_ ∨ P0_4_ k_) ∨ w.heap.size ≤ k_) ∧ some k_ ≠ (.slice Ao21 t207.length co21 : Value).ownBlock ∧ k_ ≠ gb203 ∧ k_ ≠ gb204 ∧ k_ ≠ gb205)) (by (with_reducible repeat (first | apply Kd.V_alloc | apply Kd.V_drewN | apply Kd.V_drew)); exact Kd.V_mono HL206_0.out (fun _ hk => ⟨⟨hk.1.1, ⟨hk.2, ⟨hk.1.2.2.1, ⟨hk.1.2.2.2.1, hk.1.2.2.2.2⟩⟩⟩⟩, hk.1.2.1⟩)) hg hat); have n9_ := Aside0.mk (hb); have n10_ := Aside0.mk (ho); clear HO_204001; clear HO_204002; clear HO_204004; clear HO_206001; clear HO_206004; clear BK203; clear BK204; clear BK205; clear HL206_0; clear HB; clear HO_206002; clear HO210; have HO_204001 := n0_; have HO_204002 := n1_; have HO_204004 := n2_; have HO_206001 := n3_; have HO_206004 := n4_; have BK203 := n5_; have BK204 := n6_; have BK205 := n7_; have HL206_0 := n8_; have HB := n9_; have HO213 := n10_; clear n0_ n1_ n2_ n3_ n4_ n5_ n6_ n7_ n8_ n9_ n10_; clear ho hb hg hat; obtain ⟨Ao23, co23, eo23⟩ := Kd.S_slice HO213.out; subst eo23; have hcz24_0 : w22.cell? ⟨gb205, 0, none⟩ = some (.string a0_0) := (blk_cell BK205.out 0).trans rfl; have hcz24_1 : w22.cell? ⟨gb205, 1, none⟩ = some (.slice A0_1 l0_1.length c0_1) := (blk_cell BK205.out 1).trans rfl; have hcz24_2 : w22.cell? ⟨gb205, 2, none⟩ = some (u206002) := (blk_cell BK205.out 2).trans rfl; have hcz24_3 : w22.cell? ⟨gb205, 3, none⟩ = some (.bool a0_3) := (blk_cell BK205.out 3).trans rfl; have hcz24_4 : w22.cell? ⟨gb205, 4, none⟩ = some (.slice A0_4 l0_4.length c0_4) := (blk_cell BK205.out 4).trans rfl; have hfz24_0 := blk_frozen BK205.out 0; have hfz24_1 := blk_frozen BK205.out 1; have hfz24_2 := blk_frozen BK205.out 2; have hfz24_3 := blk_frozen BK205.out 3; have hfz24_4 := blk_frozen BK205.out 4))
  go_roundg k1
  case measure => have := HK1.out; omega
  case rel => exact ⟨(wrap64 (x7_1 + t208)), (wrap64 (x8_1 + 1)), (y211), (.slice Ao23 y211.length co23), rf_, rf_, H', ⟨by have := HK1.out; omega⟩, ⟨by (with_reducible repeat (first | apply Kd.V_alloc | apply Kd.V_drewN | apply Kd.V_drew)); exact Kd.V_mono (Kd.V_far (p := ⟨gb205, 2, none⟩) (Kd.V_mono HO_204001.out (fun k_ hk => (⟨hk, hk.1.2.2.2.2⟩ : _ ∧ k_ ≠ gb205))) (fun _ hk => hk.2) (.slice Ao23 y211.length co23)) (fun _ hk => ⟨hk.1.1.1, ⟨hk.1.2, ⟨hk.1.1.2.2.1, ⟨hk.1.1.2.2.2.1, hk.1.1.2.2.2.2⟩⟩⟩⟩)⟩, ⟨by (with_reducible repeat (first | apply Kd.V_alloc | apply Kd.V_drewN | apply Kd.V_drew)); exact Kd.V_mono (Kd.V_far (p := ⟨gb205, 2, none⟩) (Kd.V_mono HO_204002.out (fun k_ hk => (⟨hk, hk.1.2.2.2.2⟩ : _ ∧ k_ ≠ gb205))) (fun _ hk => hk.2) (.slice Ao23 y211.length co23)) (fun _ hk => ⟨hk.1.1.1, ⟨hk.1.2, ⟨hk.1.1.2.2.1, ⟨hk.1.1.2.2.2.1, hk.1.1.2.2.2.2⟩⟩⟩⟩)⟩, ⟨by (with_reducible repeat (first | apply Kd.V_alloc | apply Kd.V_drewN | apply Kd.V_drew)); exact Kd.V_mono (Kd.V_far (p := ⟨gb205, 2, none⟩) (Kd.V_mono HO_204004.out (fun k_ hk => (⟨hk, hk.1.2.2.2.2⟩ : _ ∧ k_ ≠ gb205))) (fun _ hk => hk.2) (.slice Ao23 y211.length co23)) (fun _ hk => ⟨hk.1.1.1, ⟨hk.1.2, ⟨hk.1.1.2.2.1, ⟨hk.1.1.2.2.2.1, hk.1.1.2.2.2.2⟩⟩⟩⟩)⟩, ⟨by (with_reducible repeat (first | apply Kd.V_alloc | apply Kd.V_drewN | apply Kd.V_drew)); exact Kd.V_mono (Kd.V_far (p := ⟨gb205, 2, none⟩) (Kd.V_mono HO_206001.out (fun k_ hk => (⟨hk, hk.1.2.2.2.2⟩ : _ ∧ k_ ≠ gb205))) (fun _ hk => hk.2) (.slice Ao23 y211.length co23)) (fun _ hk => ⟨hk.1.1.1, ⟨hk.1.2, ⟨hk.1.1.2.2.1, ⟨hk.1.1.2.2.2.1, hk.1.1.2.2.2.2⟩⟩⟩⟩)⟩, ⟨by (with_reducible repeat (first | apply Kd.S_alloc | apply Kd.S_drewN | apply Kd.S_drew)); exact Kd.S_mono (Kd.S_far (p := ⟨gb205, 2, none⟩) (Kd.S_types HO213.out BK205.out (by decide)) (fun _ hk => hk.2) (.slice Ao23 y211.length co23)) (fun _ hk => hk.1)⟩, ⟨by (with_reducible repeat (first | apply Kd.V_alloc | apply Kd.V_drewN | apply Kd.V_drew)); exact Kd.V_mono (Kd.V_far (p := ⟨gb205, 2, none⟩) (Kd.V_mono HO_206004.out (fun k_ hk => (⟨hk, hk.1.2.2.2.2⟩ : _ ∧ k_ ≠ gb205))) (fun _ hk => hk.2) (.slice Ao23 y211.length co23)) (fun _ hk => ⟨hk.1.1.1, ⟨hk.1.2, ⟨hk.1.1.2.2.1, ⟨hk.1.1.2.2.2.1, hk.1.1.2.2.2.2⟩⟩⟩⟩)⟩, ⟨by (with_reducible repeat (first | refine blk_drewN ?_ _ | refine blk_drew ?_ | refine blk_alloc ?_ _)); refine blk_far ?_ NB203_205.out _; (with_reducible repeat (first | refine blk_drewN ?_ _ | refine blk_drew ?_ | refine blk_alloc ?_ _)); exact BK203.out⟩, ⟨by (with_reducible repeat (first | refine blk_drewN ?_ _ | refine blk_drew ?_ | refine blk_alloc ?_ _)); refine blk_far ?_ NB204_205.out _; (with_reducible repeat (first | refine blk_drewN ?_ _ | refine blk_drew ?_ | refine blk_alloc ?_ _)); exact BK204.out⟩, ⟨by (with_reducible repeat (first | refine blk_drewN ?_ _ | refine blk_drew ?_ | refine blk_alloc ?_ _)); refine blk_put (cs := #[.string a0_0, .slice A0_1 l0_1.length c0_1, u206002, .bool a0_3, .slice A0_4 l0_4.length c0_4]) ?_ 2 _ rfl; (with_reducible repeat (first | refine blk_drewN ?_ _ | refine blk_drew ?_ | refine blk_alloc ?_ _)); exact BK205.out⟩, ⟨hb_ HB.out⟩⟩
 rw [if_neg c11] at H
 have c11b0 : decide (x8_1 < (l0_2.length : Int)) = false := decide_eq_false c11
 clear c11
 replace H := Option.bind_eq_some_iff.mp H
 obtain ⟨⟨t214, t215, t218, t221, t222⟩, A250, H⟩ := H
 replace H : ((fencepostref04_Same.f k1 t214 t215 t218 t221 t222 a0_0 l0_1 l0_2 a0_3 l0_4).bind fun t225 => (if t225 = true then (some (a0_0, l0_1, x206002_1, a0_3, l0_4, true)) else (some (a0_0, l0_1, l0_2, a0_3, l0_4, false)))) = some (r1, r2, r3, r4, r5, r6) := H
 have A25 := Aside0.mk A250
 clear A250
 replace H := Option.bind_eq_some_iff.mp H
 obtain ⟨t225, A260, H⟩ := H
 replace H : (if t225 = true then (some (a0_0, l0_1, x206002_1, a0_3, l0_4, true)) else (some (a0_0, l0_1, l0_2, a0_3, l0_4, false))) = some (r1, r2, r3, r4, r5, r6) := H
 have A26 := Aside0.mk A260
 clear A260
 by_cases c27 : t225 = true
 rotate_left
 ·replace c27 := Bool.eq_false_iff.mpr c27
  subst c27
  have H1 : (some (a0_0, l0_1, l0_2, a0_3, l0_4, false)) = some (r1, r2, r3, r4, r5, r6) := by rw [if_neg (show ¬ (false = true) by decide)] at H; exact H
  clear H
  have H := H1
  clear H1
  simp only [Option.some.injEq, Prod.mk.injEq] at H
  obtain ⟨rfl, rfl, rfl, rfl, rfl, rfl⟩ := H
  have hnb41 := NB203_204.out
  have hnc41 := NB204_203.out
  have hnb42 := NB203_205.out
  have hnc42 := NB205_203.out
  have hcz43_0 : wr.cell? ⟨gb203, 0, none⟩ = some (.string a0_0) := (blk_cell BK203.out 0).trans rfl
  have hcz43_1 : wr.cell? ⟨gb203, 1, none⟩ = some (.slice A0_1 l0_1.length c0_1) := (blk_cell BK203.out 1).trans rfl
  have hcz43_2 : wr.cell? ⟨gb203, 2, none⟩ = some (.slice A0_2 l0_2.length c0_2) := (blk_cell BK203.out 2).trans rfl
  have hcz43_3 : wr.cell? ⟨gb203, 3, none⟩ = some (.bool a0_3) := (blk_cell BK203.out 3).trans rfl
  have hcz43_4 : wr.cell? ⟨gb203, 4, none⟩ = some (.slice A0_4 l0_4.length c0_4) := (blk_cell BK203.out 4).trans rfl
  have hfz43_0 := blk_frozen BK203.out 0
  have hfz43_1 := blk_frozen BK203.out 1
  have hfz43_2 := blk_frozen BK203.out 2
  have hfz43_3 := blk_frozen BK203.out 3
  have hfz43_4 := blk_frozen BK203.out 4
  try go_wp2
  have n0_ := Aside0.mk (Kd.V_drew HO_204001.out)
  have n1_ := Aside0.mk (Kd.V_drew HO_204002.out)
  have n2_ := Aside0.mk (Kd.V_drew HO_204004.out)
  have n3_ := Aside0.mk (Kd.V_drew HO_206001.out)
  have n4_ := Aside0.mk (Kd.S_drew HO_206002.out)
  have n5_ := Aside0.mk (Kd.V_drew HO_206004.out)
  have n6_ := Aside0.mk (blk_drew BK203.out)
  have n7_ := Aside0.mk (blk_drew BK204.out)
  have n8_ := Aside0.mk (blk_drew BK205.out)
  have n9_ := Aside0.mk (below_drew1 HB.out)
  clear HO_204001
  clear HO_204002
  clear HO_204004
  clear HO_206001
  clear HO_206002
  clear HO_206004
  clear BK203
  clear BK204
  clear BK205
  clear HB
  have HO_204001 := n0_
  have HO_204002 := n1_
  have HO_204004 := n2_
  have HO_206001 := n3_
  have HO_206002 := n4_
  have HO_206004 := n5_
  have BK203 := n6_
  have BK204 := n7_
  have BK205 := n8_
  have HB := n9_
  clear n0_ n1_ n2_ n3_ n4_ n5_ n6_ n7_ n8_ n9_
  obtain ⟨Ao45, co45, eo45⟩ := Kd.S_slice HO_206002.out
  (first | subst eo45 | (injection eo45 with f1_ f2_ f3_; have f4_ := f1_.symm; have f5_ := f3_.symm; clear f1_ f2_ f3_; subst f4_; subst f5_))
  refine start_ (n := 6) (S := fun w' => w'.cell? ⟨gb205, 0, none⟩ = some (.string a0_0) ∧ w'.cell? ⟨gb205, 1, none⟩ = some (.slice A0_1 l0_1.length c0_1) ∧ w'.cell? ⟨gb205, 2, none⟩ = some (.slice Ao45 x206002_1.length co45) ∧ w'.cell? ⟨gb205, 3, none⟩ = some (.bool a0_3) ∧ w'.cell? ⟨gb205, 4, none⟩ = some (.slice A0_4 l0_4.length c0_4) ∧ w'.cell? ⟨gb203, 0, none⟩ = some (.string a0_0) ∧ w'.cell? ⟨gb203, 1, none⟩ = some (.slice A0_1 l0_1.length c0_1) ∧ w'.cell? ⟨gb203, 2, none⟩ = some (.slice A0_2 l0_2.length c0_2) ∧ w'.cell? ⟨gb203, 3, none⟩ = some (.bool a0_3) ∧ w'.cell? ⟨gb203, 4, none⟩ = some (.slice A0_4 l0_4.length c0_4)) (ds := []) #[false, false, false, false, false, false] (by kernel_rfl) rfl rfl ⟨(blk_cell BK205.out 0).trans rfl, (blk_cell BK205.out 1).trans rfl, (blk_cell BK205.out 2).trans rfl, (blk_cell BK205.out 3).trans rfl, (blk_cell BK205.out 4).trans rfl, (blk_cell BK203.out 0).trans rfl, (blk_cell BK203.out 1).trans rfl, (blk_cell BK203.out 2).trans rfl, (blk_cell BK203.out 3).trans rfl, (blk_cell BK203.out 4).trans rfl⟩ (fun hHeld => ?_)
  generalize wr.drew = w44 at HO_204001 HO_204002 HO_204004 HO_206001 HO_206002 HO_206004 BK203 BK204 BK205 HB hHeld ⊢
  refine pure_ (i := 1) (N := some 43) (v := ?_) (a' := ?_) #[false, true, false, false, false, false] rfl rfl (by kernel_rfl) (fun _ _ _ h => h) (Or.inl ⟨by rfl, ?_⟩) ?_ ?_; rotate_left; intro w'; go_simp; with_reducible rfl; rotate_left; simp only [Act.put, List.setIfInBounds_toArray, List.set_cons_zero, List.set_cons_succ, i64_w, i32_w]; rfl
  refine take_ (i := 0) (N := some 42) (v := ?_) (a' := ?_) #[true, true, false, false, false, false] rfl rfl (by kernel_rfl) (fun _ _ _ h => h) (Or.inl ⟨by rfl, ?_⟩) hHeld ?_ ?_; rotate_left; rintro w' ⟨s0, s1, s2, s3, s4, s5, s6, s7, s8, s9⟩; go_simp; with_reducible rfl; rotate_left; simp only [Act.put, List.setIfInBounds_toArray, List.set_cons_zero, List.set_cons_succ, i64_w, i32_w]; rfl
  refine take_ (i := 3) (N := some 45) (v := ?_) (a' := ?_) #[true, true, false, true, false, false] rfl rfl (by kernel_rfl) (fun _ _ _ h => h) (Or.inl ⟨by rfl, ?_⟩) hHeld ?_ ?_; rotate_left; rintro w' ⟨s0, s1, s2, s3, s4, s5, s6, s7, s8, s9⟩; go_simp; with_reducible rfl; rotate_left; simp only [Act.put, List.setIfInBounds_toArray, List.set_cons_zero, List.set_cons_succ, i64_w, i32_w]; rfl
  refine one_ (i := 2) (N := some 44) #[true, true, true, true, false, false] rfl rfl (by kernel_rfl) (by decide) (fun K hK => ?_)
  refine goes_ Try.func26 (by kernel_rfl) rfl #[.agg #[.string a0_0, .slice A0_1 l0_1.length c0_1, .slice Ao45 x206002_1.length co45, .bool a0_3, .slice A0_4 l0_4.length c0_4], .slice A1 l1.length c1] (by rfl) rfl rfl ar_ ?_
  with_reducible refine (fencepostref08_Fence.calls k1 a0_0 (fun k_ => (((P0_1_ k_ ∨ P0_2_ k_ ∨ P0_4_ k_) ∨ w.heap.size ≤ k_) ∧ (some k_ ≠ (.slice Ao45 x206002_1.length co45 : Value).ownBlock ∧ (k_ ≠ gb203 ∧ (k_ ≠ gb204 ∧ k_ ≠ gb205))))) _ _ l0_1 _ _ x206002_1 a0_3 (fun k_ => (((P0_1_ k_ ∨ P0_2_ k_ ∨ P0_4_ k_) ∨ w.heap.size ≤ k_) ∧ (some k_ ≠ (.slice Ao45 x206002_1.length co45 : Value).ownBlock ∧ (k_ ≠ gb203 ∧ (k_ ≠ gb204 ∧ k_ ≠ gb205))))) _ _ l0_4 _ _ l1 t214 t215 t218 t221 t222 _ ?side1 ?side2 ?side3 ?side4 ?side5 ?side6 A25.out).mono ?_
  (case side1 => exact HO_206001.out)
  (case side2 => repeat (first | exact (Kd.S_reads' HO_206002.out).2.2 | (with_reducible refine Kd.C_alloc ?_ _) | (with_reducible refine Kd.C_drewN ?_ _) | (with_reducible refine Kd.C_drew ?_)))
  (case side3 => exact (Kd.S_reads' HO_206002.out).2.1)
  (case side4 => exact HO_206004.out)
  (case side5 => exact cd_ (Kd.C_below HR1.out HB.out))
  (case side6 => exact HC1.out)
  rintro e w46 ⟨v216, v219, v223, rfl, ho0, ho1, ho2, hb⟩
  refine ⟨_, rfl, ?_⟩
  have n0_ := Aside0.mk (Kd.V_elder' (vd_ HO_204001.out) (Kd.S_base ho1) hb)
  have n1_ := Aside0.mk (Kd.V_elder' (vd_ HO_204002.out) (Kd.S_base ho1) hb)
  have n2_ := Aside0.mk (Kd.V_elder' (vd_ HO_204004.out) (Kd.S_base ho1) hb)
  have n3_ := Aside0.mk (Kd.V_elder' (vd_ HO_206001.out) (Kd.S_base ho1) hb)
  have n4_ := Aside0.mk (Kd.S_elder' (sd_ HO_206002.out) (Kd.S_base ho1) hb)
  have n5_ := Aside0.mk (Kd.V_elder' (vd_ HO_206004.out) (Kd.S_base ho1) hb)
  have n6_ := Aside0.mk (Kd.V_lower (Kd.V_mono (ok' := fun k_ => ((P0_1_ k_ ∨ P0_2_ k_ ∨ P0_4_ k_) ∨ w.heap.size ≤ k_) ∧ some k_ ≠ (v219 : Value).ownBlock ∧ some k_ ≠ (.slice Ao45 x206002_1.length co45 : Value).ownBlock ∧ k_ ≠ gb203 ∧ k_ ≠ gb204 ∧ k_ ≠ gb205) ho0 (fun k_ hk_ => ⟨Or.elim hk_.1 (fun hs_ => Or.elim hs_ (fun hs_ => hs_.1) (fun hs_ => hs_.1)) (fun hn_ => (.inr (Nat.le_trans (below_size (hb_ HB.out)) hn_))), hk_.2, Or.elim hk_.1 (fun hs_ => Or.elim hs_ (fun hs_ => hs_.2.1) (fun hs_ => hs_.2.1)) (fun hn_ => (Kd.fresh' (Kd.S_lt (sd_ HO_206002.out)) k_ hn_)), Or.elim hk_.1 (fun hs_ => Or.elim hs_ (fun hs_ => hs_.2.2.1) (fun hs_ => hs_.2.2.1)) (fun hn_ => (fb_ BK203.out k_ hn_)), Or.elim hk_.1 (fun hs_ => Or.elim hs_ (fun hs_ => hs_.2.2.2.1) (fun hs_ => hs_.2.2.2.1)) (fun hn_ => (fb_ BK204.out k_ hn_)), Or.elim hk_.1 (fun hs_ => Or.elim hs_ (fun hs_ => hs_.2.2.2.2) (fun hs_ => hs_.2.2.2.2)) (fun hn_ => (fb_ BK205.out k_ hn_))⟩)) (below_size (hb_ HB.out)))
  have n7_ := Aside0.mk (Kd.S_lower (Kd.S_new' (Kd.S_newM (M := fun k_ => (w.heap.size ≤ k_)) (Kd.S_mono (ok' := fun k_ => True) ho1 (fun _ hk_ => trivial)) (below_size (hb_ HB.out)) (fun k_ h_ => h_)) (Kd.S_lt (sd_ HO_206002.out))) (below_size (hb_ HB.out)))
  have n8_ := Aside0.mk (Kd.V_lower (Kd.V_mono (ok' := fun k_ => ((P0_1_ k_ ∨ P0_2_ k_ ∨ P0_4_ k_) ∨ w.heap.size ≤ k_) ∧ some k_ ≠ (v219 : Value).ownBlock ∧ some k_ ≠ (.slice Ao45 x206002_1.length co45 : Value).ownBlock ∧ k_ ≠ gb203 ∧ k_ ≠ gb204 ∧ k_ ≠ gb205) ho2 (fun k_ hk_ => ⟨Or.elim hk_.1 (fun hs_ => Or.elim hs_ (fun hs_ => hs_.1) (fun hs_ => hs_.1)) (fun hn_ => (.inr (Nat.le_trans (below_size (hb_ HB.out)) hn_))), hk_.2, Or.elim hk_.1 (fun hs_ => Or.elim hs_ (fun hs_ => hs_.2.1) (fun hs_ => hs_.2.1)) (fun hn_ => (Kd.fresh' (Kd.S_lt (sd_ HO_206002.out)) k_ hn_)), Or.elim hk_.1 (fun hs_ => Or.elim hs_ (fun hs_ => hs_.2.2.1) (fun hs_ => hs_.2.2.1)) (fun hn_ => (fb_ BK203.out k_ hn_)), Or.elim hk_.1 (fun hs_ => Or.elim hs_ (fun hs_ => hs_.2.2.2.1) (fun hs_ => hs_.2.2.2.1)) (fun hn_ => (fb_ BK204.out k_ hn_)), Or.elim hk_.1 (fun hs_ => Or.elim hs_ (fun hs_ => hs_.2.2.2.2) (fun hs_ => hs_.2.2.2.2)) (fun hn_ => (fb_ BK205.out k_ hn_))⟩)) (below_size (hb_ HB.out)))
  have n9_ := Aside0.mk (bb_ BK203.out hb)
  have n10_ := Aside0.mk (bb_ BK204.out hb)
  have n11_ := Aside0.mk (bb_ BK205.out hb)
  have n12_ := Aside0.mk (below_step (hb_ HB.out) hb)
  clear HO_204001
  clear HO_204002
  clear HO_204004
  clear HO_206001
  clear HO_206002
  clear HO_206004
  clear BK203
  clear BK204
  clear BK205
  clear HB
  have HO_204001 := n0_
  have HO_204002 := n1_
  have HO_204004 := n2_
  have HO_206001 := n3_
  have HO_206002 := n4_
  have HO_206004 := n5_
  have HO217 := n6_
  have HO220 := n7_
  have HO224 := n8_
  have BK203 := n9_
  have BK204 := n10_
  have BK205 := n11_
  have HB := n12_
  clear n0_ n1_ n2_ n3_ n4_ n5_ n6_ n7_ n8_ n9_ n10_ n11_ n12_
  (try clear hb)
  (try clear hb2)
  (try clear hk)
  (try clear hi)
  (try clear ho0)
  (try clear ho1)
  (try clear ho2)
  obtain ⟨Ao47, co47, eo47⟩ := Kd.V_slice HO217.out
  (first | subst eo47 | (injection eo47 with f1_ f2_ f3_; have f4_ := f1_.symm; have f5_ := f3_.symm; clear f1_ f2_ f3_; subst f4_; subst f5_))
  obtain ⟨Ao48, co48, eo48⟩ := Kd.S_slice HO220.out
  (first | subst eo48 | (injection eo48 with f1_ f2_ f3_; have f4_ := f1_.symm; have f5_ := f3_.symm; clear f1_ f2_ f3_; subst f4_; subst f5_))
  obtain ⟨Ao49, co49, eo49⟩ := Kd.V_slice HO224.out
  (first | subst eo49 | (injection eo49 with f1_ f2_ f3_; have f4_ := f1_.symm; have f5_ := f3_.symm; clear f1_ f2_ f3_; subst f4_; subst f5_))
  refine hK.out _ _ ⟨(blk_cell BK205.out 0).trans rfl, (blk_cell BK205.out 1).trans rfl, (blk_cell BK205.out 2).trans rfl, (blk_cell BK205.out 3).trans rfl, (blk_cell BK205.out 4).trans rfl, (blk_cell BK203.out 0).trans rfl, (blk_cell BK203.out 1).trans rfl, (blk_cell BK203.out 2).trans rfl, (blk_cell BK203.out 3).trans rfl, (blk_cell BK203.out 4).trans rfl⟩ (fun hHeld => ?_)
  clear hK K
  refine norm_ (a' := ?_) ?_ ?_
  rotate_left
  ·show Act.put _ (some 44) _ = _
   simp only [Act.put, List.setIfInBounds_toArray, List.set_cons_zero, List.set_cons_succ, i64_w, i32_w]
   rfl
  refine one_ (i := 4) (N := some 46) #[true, true, true, true, true, false] rfl rfl (by kernel_rfl) (by decide) (fun K hK => ?_)
  refine goes_ Try.func24 (by kernel_rfl) rfl #[.agg #[.string t214, .slice Ao47 t215.length co47, .slice Ao48 t218.length co48, .bool t221, .slice Ao49 t222.length co49], .agg #[.string a0_0, .slice A0_1 l0_1.length c0_1, .slice A0_2 l0_2.length c0_2, .bool a0_3, .slice A0_4 l0_4.length c0_4]] (by rfl) rfl rfl ar_ ?_
  with_reducible refine (fencepostref04_Same.calls k1 t214 _ _ t215 _ _ t218 t221 _ _ t222 a0_0 _ _ l0_1 _ _ l0_2 a0_3 _ _ l0_4 false _ ?side1 ?side2 ?side3 ?side4 ?side5 ?side6 ?side7 ?side8 ?side9 ?side10 ?side11 ?side12 A26.out).mono ?_
  (case side1 => repeat (first | exact (Kd.V_reads' HO217.out).2.2 | (with_reducible refine Kd.C_alloc ?_ _) | (with_reducible refine Kd.C_drewN ?_ _) | (with_reducible refine Kd.C_drew ?_)))
  (case side2 => exact (Kd.V_reads' HO217.out).2.1)
  (case side3 => repeat (first | exact (Kd.S_reads' HO220.out).2.2 | (with_reducible refine Kd.C_alloc ?_ _) | (with_reducible refine Kd.C_drewN ?_ _) | (with_reducible refine Kd.C_drew ?_)))
  (case side4 => exact (Kd.S_reads' HO220.out).2.1)
  (case side5 => repeat (first | exact (Kd.V_reads' HO224.out).2.2 | (with_reducible refine Kd.C_alloc ?_ _) | (with_reducible refine Kd.C_drewN ?_ _) | (with_reducible refine Kd.C_drew ?_)))
  (case side6 => exact (Kd.V_reads' HO224.out).2.1)
  (case side7 => repeat (first | exact (Kd.V_reads' HO_204001.out).2.2 | (with_reducible refine Kd.C_alloc ?_ _) | (with_reducible refine Kd.C_drewN ?_ _) | (with_reducible refine Kd.C_drew ?_)))
  (case side8 => exact (Kd.V_reads' HO_204001.out).2.1)
  (case side9 => repeat (first | exact (Kd.V_reads' HO_204002.out).2.2 | (with_reducible refine Kd.C_alloc ?_ _) | (with_reducible refine Kd.C_drewN ?_ _) | (with_reducible refine Kd.C_drew ?_)))
  (case side10 => exact (Kd.V_reads' HO_204002.out).2.1)
  (case side11 => repeat (first | exact (Kd.V_reads' HO_204004.out).2.2 | (with_reducible refine Kd.C_alloc ?_ _) | (with_reducible refine Kd.C_drewN ?_ _) | (with_reducible refine Kd.C_drew ?_)))
  (case side12 => exact (Kd.V_reads' HO_204004.out).2.1)
  rintro e w50 ⟨rfl, hb⟩
  refine ⟨_, rfl, ?_⟩
  have n0_ := Aside0.mk (Kd.V_below (vd_ HO_204001.out) hb)
  have n1_ := Aside0.mk (Kd.V_below (vd_ HO_204002.out) hb)
  have n2_ := Aside0.mk (Kd.V_below (vd_ HO_204004.out) hb)
  have n3_ := Aside0.mk (Kd.V_below (vd_ HO_206001.out) hb)
  have n4_ := Aside0.mk (Kd.S_below (sd_ HO_206002.out) hb)
  have n5_ := Aside0.mk (Kd.V_below (vd_ HO_206004.out) hb)
  have n6_ := Aside0.mk (Kd.V_below (vd_ HO217.out) hb)
  have n7_ := Aside0.mk (Kd.S_below (sd_ HO220.out) hb)
  have n8_ := Aside0.mk (Kd.V_below (vd_ HO224.out) hb)
  have n9_ := Aside0.mk (bb_ BK203.out hb)
  have n10_ := Aside0.mk (bb_ BK204.out hb)
  have n11_ := Aside0.mk (bb_ BK205.out hb)
  have n12_ := Aside0.mk (below_step (hb_ HB.out) hb)
  clear HO_204001
  clear HO_204002
  clear HO_204004
  clear HO_206001
  clear HO_206002
  clear HO_206004
  clear HO217
  clear HO220
  clear HO224
  clear BK203
  clear BK204
  clear BK205
  clear HB
  have HO_204001 := n0_
  have HO_204002 := n1_
  have HO_204004 := n2_
  have HO_206001 := n3_
  have HO_206002 := n4_
  have HO_206004 := n5_
  have HO217 := n6_
  have HO220 := n7_
  have HO224 := n8_
  have BK203 := n9_
  have BK204 := n10_
  have BK205 := n11_
  have HB := n12_
  clear n0_ n1_ n2_ n3_ n4_ n5_ n6_ n7_ n8_ n9_ n10_ n11_ n12_
  (try clear hb)
  (try clear hb2)
  (try clear hk)
  (try clear hi)
  refine hK.out _ _ ⟨(blk_cell BK205.out 0).trans rfl, (blk_cell BK205.out 1).trans rfl, (blk_cell BK205.out 2).trans rfl, (blk_cell BK205.out 3).trans rfl, (blk_cell BK205.out 4).trans rfl, (blk_cell BK203.out 0).trans rfl, (blk_cell BK203.out 1).trans rfl, (blk_cell BK203.out 2).trans rfl, (blk_cell BK203.out 3).trans rfl, (blk_cell BK203.out 4).trans rfl⟩ (fun hHeld => ?_)
  clear hK K
  refine norm_ (a' := ?_) ?_ ?_
  rotate_left
  ·show Act.put _ (some 46) _ = _
   simp only [Act.put, List.setIfInBounds_toArray, List.set_cons_zero, List.set_cons_succ, i64_w, i32_w]
   rfl
  refine pure_ (i := 5) (N := some 47) (v := ?_) (a' := ?_) #[true, true, true, true, true, true] rfl rfl (by kernel_rfl) (fun _ _ _ h => h) (Or.inl ⟨by rfl, ?_⟩) ?_ ?_; rotate_left; intro w'; go_simp; with_reducible rfl; rotate_left; simp only [Act.put, List.setIfInBounds_toArray, List.set_cons_zero, List.set_cons_succ, i64_w, i32_w]; rfl
  refine done_ (by kernel_rfl) ?_
  have hcz51_0 : w50.cell? ⟨gb203, 0, none⟩ = some (.string a0_0) := (blk_cell BK203.out 0).trans rfl
  have hcz51_1 : w50.cell? ⟨gb203, 1, none⟩ = some (.slice A0_1 l0_1.length c0_1) := (blk_cell BK203.out 1).trans rfl
  have hcz51_2 : w50.cell? ⟨gb203, 2, none⟩ = some (.slice A0_2 l0_2.length c0_2) := (blk_cell BK203.out 2).trans rfl
  have hcz51_3 : w50.cell? ⟨gb203, 3, none⟩ = some (.bool a0_3) := (blk_cell BK203.out 3).trans rfl
  have hcz51_4 : w50.cell? ⟨gb203, 4, none⟩ = some (.slice A0_4 l0_4.length c0_4) := (blk_cell BK203.out 4).trans rfl
  have hfz51_0 := blk_frozen BK203.out 0
  have hfz51_1 := blk_frozen BK203.out 1
  have hfz51_2 := blk_frozen BK203.out 2
  have hfz51_3 := blk_frozen BK203.out 3
  have hfz51_4 := blk_frozen BK203.out 4
  have hnb52 := NB204_205.out
  have hnc52 := NB205_204.out
  have hcz53_0 : w50.cell? ⟨gb204, 0, none⟩ = some (.string (⟨#[]⟩ : ByteArray)) := (blk_cell BK204.out 0).trans rfl
  have hcz53_1 : w50.cell? ⟨gb204, 1, none⟩ = some (.slice none 0 0) := (blk_cell BK204.out 1).trans rfl
  have hcz53_2 : w50.cell? ⟨gb204, 2, none⟩ = some (.slice none 0 0) := (blk_cell BK204.out 2).trans rfl
  have hcz53_3 : w50.cell? ⟨gb204, 3, none⟩ = some (.bool false) := (blk_cell BK204.out 3).trans rfl
  have hcz53_4 : w50.cell? ⟨gb204, 4, none⟩ = some (.slice none 0 0) := (blk_cell BK204.out 4).trans rfl
  have hfz53_0 := blk_frozen BK204.out 0
  have hfz53_1 := blk_frozen BK204.out 1
  have hfz53_2 := blk_frozen BK204.out 2
  have hfz53_3 := blk_frozen BK204.out 3
  have hfz53_4 := blk_frozen BK204.out 4
  try go_wp2
  refine bodyPost_ret (results_ct rfl _ _ gb204 30 #[.string a0_0, .slice A0_1 l0_1.length c0_1, .slice A0_2 l0_2.length c0_2, .bool a0_3, .slice A0_4 l0_4.length c0_4] (0, 0) _ rfl (by exact bp5_ BK204.out) Try.underlying30 rfl (by kernel_rfl)) rfl ?_
  exact ⟨_, _, _, by first | rfl | (simp [errW_none, errW_some] <;> rfl) | (simp [*, errW_none, errW_some] <;> rfl), by (with_reducible repeat (first | apply Kd.V_alloc | apply Kd.V_drewN | apply Kd.V_drew)); exact Kd.V_mono (Kd.V_far (p := ⟨gb204, 4, none⟩) (Kd.V_far (p := ⟨gb204, 3, none⟩) (Kd.V_far (p := ⟨gb204, 2, none⟩) (Kd.V_far (p := ⟨gb204, 1, none⟩) (Kd.V_far (p := ⟨gb204, 0, none⟩) (Kd.V_mono HO_204001.out (fun k_ hk => (⟨hk, hk.1.2.2.2.1⟩ : _ ∧ k_ ≠ gb204))) (fun _ hk => hk.2) (.string a0_0)) (fun _ hk => hk.2) (.slice A0_1 l0_1.length c0_1)) (fun _ hk => hk.2) (.slice A0_2 l0_2.length c0_2)) (fun _ hk => hk.2) (.bool a0_3)) (fun _ hk => hk.2) (.slice A0_4 l0_4.length c0_4)) (fun _ hk => hk.1.1.1), by (with_reducible repeat (first | apply Kd.V_alloc | apply Kd.V_drewN | apply Kd.V_drew)); exact Kd.V_mono (Kd.V_far (p := ⟨gb204, 4, none⟩) (Kd.V_far (p := ⟨gb204, 3, none⟩) (Kd.V_far (p := ⟨gb204, 2, none⟩) (Kd.V_far (p := ⟨gb204, 1, none⟩) (Kd.V_far (p := ⟨gb204, 0, none⟩) (Kd.V_mono HO_204002.out (fun k_ hk => (⟨hk, hk.1.2.2.2.1⟩ : _ ∧ k_ ≠ gb204))) (fun _ hk => hk.2) (.string a0_0)) (fun _ hk => hk.2) (.slice A0_1 l0_1.length c0_1)) (fun _ hk => hk.2) (.slice A0_2 l0_2.length c0_2)) (fun _ hk => hk.2) (.bool a0_3)) (fun _ hk => hk.2) (.slice A0_4 l0_4.length c0_4)) (fun _ hk => hk.1.1.1), by (with_reducible repeat (first | apply Kd.V_alloc | apply Kd.V_drewN | apply Kd.V_drew)); exact Kd.V_mono (Kd.V_far (p := ⟨gb204, 4, none⟩) (Kd.V_far (p := ⟨gb204, 3, none⟩) (Kd.V_far (p := ⟨gb204, 2, none⟩) (Kd.V_far (p := ⟨gb204, 1, none⟩) (Kd.V_far (p := ⟨gb204, 0, none⟩) (Kd.V_mono HO_204004.out (fun k_ hk => (⟨hk, hk.1.2.2.2.1⟩ : _ ∧ k_ ≠ gb204))) (fun _ hk => hk.2) (.string a0_0)) (fun _ hk => hk.2) (.slice A0_1 l0_1.length c0_1)) (fun _ hk => hk.2) (.slice A0_2 l0_2.length c0_2)) (fun _ hk => hk.2) (.bool a0_3)) (fun _ hk => hk.2) (.slice A0_4 l0_4.length c0_4)) (fun _ hk => hk.1.1.1), hb_ HB.out⟩
 subst c27
 have H1 : (some (a0_0, l0_1, x206002_1, a0_3, l0_4, true)) = some (r1, r2, r3, r4, r5, r6) := by rw [if_pos rfl] at H; exact H
 clear H
 have H := H1
 clear H1
 simp only [Option.some.injEq, Prod.mk.injEq] at H
 obtain ⟨rfl, rfl, rfl, rfl, rfl, rfl⟩ := H
 have hnb28 := NB203_204.out
 have hnc28 := NB204_203.out
 have hnb29 := NB203_205.out
 have hnc29 := NB205_203.out
 have hcz30_0 : wr.cell? ⟨gb203, 0, none⟩ = some (.string a0_0) := (blk_cell BK203.out 0).trans rfl
 have hcz30_1 : wr.cell? ⟨gb203, 1, none⟩ = some (.slice A0_1 l0_1.length c0_1) := (blk_cell BK203.out 1).trans rfl
 have hcz30_2 : wr.cell? ⟨gb203, 2, none⟩ = some (.slice A0_2 l0_2.length c0_2) := (blk_cell BK203.out 2).trans rfl
 have hcz30_3 : wr.cell? ⟨gb203, 3, none⟩ = some (.bool a0_3) := (blk_cell BK203.out 3).trans rfl
 have hcz30_4 : wr.cell? ⟨gb203, 4, none⟩ = some (.slice A0_4 l0_4.length c0_4) := (blk_cell BK203.out 4).trans rfl
 have hfz30_0 := blk_frozen BK203.out 0
 have hfz30_1 := blk_frozen BK203.out 1
 have hfz30_2 := blk_frozen BK203.out 2
 have hfz30_3 := blk_frozen BK203.out 3
 have hfz30_4 := blk_frozen BK203.out 4
 try go_wp2
 have n0_ := Aside0.mk (Kd.V_drew HO_204001.out)
 have n1_ := Aside0.mk (Kd.V_drew HO_204002.out)
 have n2_ := Aside0.mk (Kd.V_drew HO_204004.out)
 have n3_ := Aside0.mk (Kd.V_drew HO_206001.out)
 have n4_ := Aside0.mk (Kd.S_drew HO_206002.out)
 have n5_ := Aside0.mk (Kd.V_drew HO_206004.out)
 have n6_ := Aside0.mk (blk_drew BK203.out)
 have n7_ := Aside0.mk (blk_drew BK204.out)
 have n8_ := Aside0.mk (blk_drew BK205.out)
 have n9_ := Aside0.mk (below_drew1 HB.out)
 clear HO_204001
 clear HO_204002
 clear HO_204004
 clear HO_206001
 clear HO_206002
 clear HO_206004
 clear BK203
 clear BK204
 clear BK205
 clear HB
 have HO_204001 := n0_
 have HO_204002 := n1_
 have HO_204004 := n2_
 have HO_206001 := n3_
 have HO_206002 := n4_
 have HO_206004 := n5_
 have BK203 := n6_
 have BK204 := n7_
 have BK205 := n8_
 have HB := n9_
 clear n0_ n1_ n2_ n3_ n4_ n5_ n6_ n7_ n8_ n9_
 obtain ⟨Ao32, co32, eo32⟩ := Kd.S_slice HO_206002.out
 (first | subst eo32 | (injection eo32 with f1_ f2_ f3_; have f4_ := f1_.symm; have f5_ := f3_.symm; clear f1_ f2_ f3_; subst f4_; subst f5_))
 refine start_ (n := 6) (S := fun w' => w'.cell? ⟨gb205, 0, none⟩ = some (.string a0_0) ∧ w'.cell? ⟨gb205, 1, none⟩ = some (.slice A0_1 l0_1.length c0_1) ∧ w'.cell? ⟨gb205, 2, none⟩ = some (.slice Ao32 x206002_1.length co32) ∧ w'.cell? ⟨gb205, 3, none⟩ = some (.bool a0_3) ∧ w'.cell? ⟨gb205, 4, none⟩ = some (.slice A0_4 l0_4.length c0_4) ∧ w'.cell? ⟨gb203, 0, none⟩ = some (.string a0_0) ∧ w'.cell? ⟨gb203, 1, none⟩ = some (.slice A0_1 l0_1.length c0_1) ∧ w'.cell? ⟨gb203, 2, none⟩ = some (.slice A0_2 l0_2.length c0_2) ∧ w'.cell? ⟨gb203, 3, none⟩ = some (.bool a0_3) ∧ w'.cell? ⟨gb203, 4, none⟩ = some (.slice A0_4 l0_4.length c0_4)) (ds := []) #[false, false, false, false, false, false] (by kernel_rfl) rfl rfl ⟨(blk_cell BK205.out 0).trans rfl, (blk_cell BK205.out 1).trans rfl, (blk_cell BK205.out 2).trans rfl, (blk_cell BK205.out 3).trans rfl, (blk_cell BK205.out 4).trans rfl, (blk_cell BK203.out 0).trans rfl, (blk_cell BK203.out 1).trans rfl, (blk_cell BK203.out 2).trans rfl, (blk_cell BK203.out 3).trans rfl, (blk_cell BK203.out 4).trans rfl⟩ (fun hHeld => ?_)
 generalize wr.drew = w31 at HO_204001 HO_204002 HO_204004 HO_206001 HO_206002 HO_206004 BK203 BK204 BK205 HB hHeld ⊢
 refine pure_ (i := 1) (N := some 43) (v := ?_) (a' := ?_) #[false, true, false, false, false, false] rfl rfl (by kernel_rfl) (fun _ _ _ h => h) (Or.inl ⟨by rfl, ?_⟩) ?_ ?_; rotate_left; intro w'; go_simp; with_reducible rfl; rotate_left; simp only [Act.put, List.setIfInBounds_toArray, List.set_cons_zero, List.set_cons_succ, i64_w, i32_w]; rfl
 refine take_ (i := 0) (N := some 42) (v := ?_) (a' := ?_) #[true, true, false, false, false, false] rfl rfl (by kernel_rfl) (fun _ _ _ h => h) (Or.inl ⟨by rfl, ?_⟩) hHeld ?_ ?_; rotate_left; rintro w' ⟨s0, s1, s2, s3, s4, s5, s6, s7, s8, s9⟩; go_simp; with_reducible rfl; rotate_left; simp only [Act.put, List.setIfInBounds_toArray, List.set_cons_zero, List.set_cons_succ, i64_w, i32_w]; rfl
 refine take_ (i := 3) (N := some 45) (v := ?_) (a' := ?_) #[true, true, false, true, false, false] rfl rfl (by kernel_rfl) (fun _ _ _ h => h) (Or.inl ⟨by rfl, ?_⟩) hHeld ?_ ?_; rotate_left; rintro w' ⟨s0, s1, s2, s3, s4, s5, s6, s7, s8, s9⟩; go_simp; with_reducible rfl; rotate_left; simp only [Act.put, List.setIfInBounds_toArray, List.set_cons_zero, List.set_cons_succ, i64_w, i32_w]; rfl
 refine one_ (i := 2) (N := some 44) #[true, true, true, true, false, false] rfl rfl (by kernel_rfl) (by decide) (fun K hK => ?_)
 refine goes_ Try.func26 (by kernel_rfl) rfl #[.agg #[.string a0_0, .slice A0_1 l0_1.length c0_1, .slice Ao32 x206002_1.length co32, .bool a0_3, .slice A0_4 l0_4.length c0_4], .slice A1 l1.length c1] (by rfl) rfl rfl ar_ ?_
 with_reducible refine (fencepostref08_Fence.calls k1 a0_0 (fun k_ => (((P0_1_ k_ ∨ P0_2_ k_ ∨ P0_4_ k_) ∨ w.heap.size ≤ k_) ∧ (some k_ ≠ (.slice Ao32 x206002_1.length co32 : Value).ownBlock ∧ (k_ ≠ gb203 ∧ (k_ ≠ gb204 ∧ k_ ≠ gb205))))) _ _ l0_1 _ _ x206002_1 a0_3 (fun k_ => (((P0_1_ k_ ∨ P0_2_ k_ ∨ P0_4_ k_) ∨ w.heap.size ≤ k_) ∧ (some k_ ≠ (.slice Ao32 x206002_1.length co32 : Value).ownBlock ∧ (k_ ≠ gb203 ∧ (k_ ≠ gb204 ∧ k_ ≠ gb205))))) _ _ l0_4 _ _ l1 t214 t215 t218 t221 t222 _ ?side1 ?side2 ?side3 ?side4 ?side5 ?side6 A25.out).mono ?_
 (case side1 => exact HO_206001.out)
 (case side2 => repeat (first | exact (Kd.S_reads' HO_206002.out).2.2 | (with_reducible refine Kd.C_alloc ?_ _) | (with_reducible refine Kd.C_drewN ?_ _) | (with_reducible refine Kd.C_drew ?_)))
 (case side3 => exact (Kd.S_reads' HO_206002.out).2.1)
 (case side4 => exact HO_206004.out)
 (case side5 => exact cd_ (Kd.C_below HR1.out HB.out))
 (case side6 => exact HC1.out)
 rintro e w33 ⟨v216, v219, v223, rfl, ho0, ho1, ho2, hb⟩
 refine ⟨_, rfl, ?_⟩
 have n0_ := Aside0.mk (Kd.V_elder' (vd_ HO_204001.out) (Kd.S_base ho1) hb)
 have n1_ := Aside0.mk (Kd.V_elder' (vd_ HO_204002.out) (Kd.S_base ho1) hb)
 have n2_ := Aside0.mk (Kd.V_elder' (vd_ HO_204004.out) (Kd.S_base ho1) hb)
 have n3_ := Aside0.mk (Kd.V_elder' (vd_ HO_206001.out) (Kd.S_base ho1) hb)
 have n4_ := Aside0.mk (Kd.S_elder' (sd_ HO_206002.out) (Kd.S_base ho1) hb)
 have n5_ := Aside0.mk (Kd.V_elder' (vd_ HO_206004.out) (Kd.S_base ho1) hb)
 have n6_ := Aside0.mk (Kd.V_lower (Kd.V_mono (ok' := fun k_ => ((P0_1_ k_ ∨ P0_2_ k_ ∨ P0_4_ k_) ∨ w.heap.size ≤ k_) ∧ some k_ ≠ (v219 : Value).ownBlock ∧ some k_ ≠ (.slice Ao32 x206002_1.length co32 : Value).ownBlock ∧ k_ ≠ gb203 ∧ k_ ≠ gb204 ∧ k_ ≠ gb205) ho0 (fun k_ hk_ => ⟨Or.elim hk_.1 (fun hs_ => Or.elim hs_ (fun hs_ => hs_.1) (fun hs_ => hs_.1)) (fun hn_ => (.inr (Nat.le_trans (below_size (hb_ HB.out)) hn_))), hk_.2, Or.elim hk_.1 (fun hs_ => Or.elim hs_ (fun hs_ => hs_.2.1) (fun hs_ => hs_.2.1)) (fun hn_ => (Kd.fresh' (Kd.S_lt (sd_ HO_206002.out)) k_ hn_)), Or.elim hk_.1 (fun hs_ => Or.elim hs_ (fun hs_ => hs_.2.2.1) (fun hs_ => hs_.2.2.1)) (fun hn_ => (fb_ BK203.out k_ hn_)), Or.elim hk_.1 (fun hs_ => Or.elim hs_ (fun hs_ => hs_.2.2.2.1) (fun hs_ => hs_.2.2.2.1)) (fun hn_ => (fb_ BK204.out k_ hn_)), Or.elim hk_.1 (fun hs_ => Or.elim hs_ (fun hs_ => hs_.2.2.2.2) (fun hs_ => hs_.2.2.2.2)) (fun hn_ => (fb_ BK205.out k_ hn_))⟩)) (below_size (hb_ HB.out)))
 have n7_ := Aside0.mk (Kd.S_lower (Kd.S_new' (Kd.S_newM (M := fun k_ => (w.heap.size ≤ k_)) (Kd.S_mono (ok' := fun k_ => True) ho1 (fun _ hk_ => trivial)) (below_size (hb_ HB.out)) (fun k_ h_ => h_)) (Kd.S_lt (sd_ HO_206002.out))) (below_size (hb_ HB.out)))
 have n8_ := Aside0.mk (Kd.V_lower (Kd.V_mono (ok' := fun k_ => ((P0_1_ k_ ∨ P0_2_ k_ ∨ P0_4_ k_) ∨ w.heap.size ≤ k_) ∧ some k_ ≠ (v219 : Value).ownBlock ∧ some k_ ≠ (.slice Ao32 x206002_1.length co32 : Value).ownBlock ∧ k_ ≠ gb203 ∧ k_ ≠ gb204 ∧ k_ ≠ gb205) ho2 (fun k_ hk_ => ⟨Or.elim hk_.1 (fun hs_ => Or.elim hs_ (fun hs_ => hs_.1) (fun hs_ => hs_.1)) (fun hn_ => (.inr (Nat.le_trans (below_size (hb_ HB.out)) hn_))), hk_.2, Or.elim hk_.1 (fun hs_ => Or.elim hs_ (fun hs_ => hs_.2.1) (fun hs_ => hs_.2.1)) (fun hn_ => (Kd.fresh' (Kd.S_lt (sd_ HO_206002.out)) k_ hn_)), Or.elim hk_.1 (fun hs_ => Or.elim hs_ (fun hs_ => hs_.2.2.1) (fun hs_ => hs_.2.2.1)) (fun hn_ => (fb_ BK203.out k_ hn_)), Or.elim hk_.1 (fun hs_ => Or.elim hs_ (fun hs_ => hs_.2.2.2.1) (fun hs_ => hs_.2.2.2.1)) (fun hn_ => (fb_ BK204.out k_ hn_)), Or.elim hk_.1 (fun hs_ => Or.elim hs_ (fun hs_ => hs_.2.2.2.2) (fun hs_ => hs_.2.2.2.2)) (fun hn_ => (fb_ BK205.out k_ hn_))⟩)) (below_size (hb_ HB.out)))
 have n9_ := Aside0.mk (bb_ BK203.out hb)
 have n10_ := Aside0.mk (bb_ BK204.out hb)
 have n11_ := Aside0.mk (bb_ BK205.out hb)
 have n12_ := Aside0.mk (below_step (hb_ HB.out) hb)
 clear HO_204001
 clear HO_204002
 clear HO_204004
 clear HO_206001
 clear HO_206002
 clear HO_206004
 clear BK203
 clear BK204
 clear BK205
 clear HB
 have HO_204001 := n0_
 have HO_204002 := n1_
 have HO_204004 := n2_
 have HO_206001 := n3_
 have HO_206002 := n4_
 have HO_206004 := n5_
 have HO217 := n6_
 have HO220 := n7_
 have HO224 := n8_
 have BK203 := n9_
 have BK204 := n10_
 have BK205 := n11_
 have HB := n12_
 clear n0_ n1_ n2_ n3_ n4_ n5_ n6_ n7_ n8_ n9_ n10_ n11_ n12_
 (try clear hb)
 (try clear hb2)
 (try clear hk)
 (try clear hi)
 (try clear ho0)
 (try clear ho1)
 (try clear ho2)
 obtain ⟨Ao34, co34, eo34⟩ := Kd.V_slice HO217.out
 (first | subst eo34 | (injection eo34 with f1_ f2_ f3_; have f4_ := f1_.symm; have f5_ := f3_.symm; clear f1_ f2_ f3_; subst f4_; subst f5_))
 obtain ⟨Ao35, co35, eo35⟩ := Kd.S_slice HO220.out
 (first | subst eo35 | (injection eo35 with f1_ f2_ f3_; have f4_ := f1_.symm; have f5_ := f3_.symm; clear f1_ f2_ f3_; subst f4_; subst f5_))
 obtain ⟨Ao36, co36, eo36⟩ := Kd.V_slice HO224.out
 (first | subst eo36 | (injection eo36 with f1_ f2_ f3_; have f4_ := f1_.symm; have f5_ := f3_.symm; clear f1_ f2_ f3_; subst f4_; subst f5_))
 refine hK.out _ _ ⟨(blk_cell BK205.out 0).trans rfl, (blk_cell BK205.out 1).trans rfl, (blk_cell BK205.out 2).trans rfl, (blk_cell BK205.out 3).trans rfl, (blk_cell BK205.out 4).trans rfl, (blk_cell BK203.out 0).trans rfl, (blk_cell BK203.out 1).trans rfl, (blk_cell BK203.out 2).trans rfl, (blk_cell BK203.out 3).trans rfl, (blk_cell BK203.out 4).trans rfl⟩ (fun hHeld => ?_)
 clear hK K
 refine norm_ (a' := ?_) ?_ ?_
 rotate_left
 ·show Act.put _ (some 44) _ = _
  simp only [Act.put, List.setIfInBounds_toArray, List.set_cons_zero, List.set_cons_succ, i64_w, i32_w]
  rfl
 refine one_ (i := 4) (N := some 46) #[true, true, true, true, true, false] rfl rfl (by kernel_rfl) (by decide) (fun K hK => ?_)
 refine goes_ Try.func24 (by kernel_rfl) rfl #[.agg #[.string t214, .slice Ao34 t215.length co34, .slice Ao35 t218.length co35, .bool t221, .slice Ao36 t222.length co36], .agg #[.string a0_0, .slice A0_1 l0_1.length c0_1, .slice A0_2 l0_2.length c0_2, .bool a0_3, .slice A0_4 l0_4.length c0_4]] (by rfl) rfl rfl ar_ ?_
 with_reducible refine (fencepostref04_Same.calls k1 t214 _ _ t215 _ _ t218 t221 _ _ t222 a0_0 _ _ l0_1 _ _ l0_2 a0_3 _ _ l0_4 true _ ?side1 ?side2 ?side3 ?side4 ?side5 ?side6 ?side7 ?side8 ?side9 ?side10 ?side11 ?side12 A26.out).mono ?_
 (case side1 => repeat (first | exact (Kd.V_reads' HO217.out).2.2 | (with_reducible refine Kd.C_alloc ?_ _) | (with_reducible refine Kd.C_drewN ?_ _) | (with_reducible refine Kd.C_drew ?_)))
 (case side2 => exact (Kd.V_reads' HO217.out).2.1)
 (case side3 => repeat (first | exact (Kd.S_reads' HO220.out).2.2 | (with_reducible refine Kd.C_alloc ?_ _) | (with_reducible refine Kd.C_drewN ?_ _) | (with_reducible refine Kd.C_drew ?_)))
 (case side4 => exact (Kd.S_reads' HO220.out).2.1)
 (case side5 => repeat (first | exact (Kd.V_reads' HO224.out).2.2 | (with_reducible refine Kd.C_alloc ?_ _) | (with_reducible refine Kd.C_drewN ?_ _) | (with_reducible refine Kd.C_drew ?_)))
 (case side6 => exact (Kd.V_reads' HO224.out).2.1)
 (case side7 => repeat (first | exact (Kd.V_reads' HO_204001.out).2.2 | (with_reducible refine Kd.C_alloc ?_ _) | (with_reducible refine Kd.C_drewN ?_ _) | (with_reducible refine Kd.C_drew ?_)))
 (case side8 => exact (Kd.V_reads' HO_204001.out).2.1)
 (case side9 => repeat (first | exact (Kd.V_reads' HO_204002.out).2.2 | (with_reducible refine Kd.C_alloc ?_ _) | (with_reducible refine Kd.C_drewN ?_ _) | (with_reducible refine Kd.C_drew ?_)))
 (case side10 => exact (Kd.V_reads' HO_204002.out).2.1)
 (case side11 => repeat (first | exact (Kd.V_reads' HO_204004.out).2.2 | (with_reducible refine Kd.C_alloc ?_ _) | (with_reducible refine Kd.C_drewN ?_ _) | (with_reducible refine Kd.C_drew ?_)))
 (case side12 => exact (Kd.V_reads' HO_204004.out).2.1)
 rintro e w37 ⟨rfl, hb⟩
 refine ⟨_, rfl, ?_⟩
 have n0_ := Aside0.mk (Kd.V_below (vd_ HO_204001.out) hb)
 have n1_ := Aside0.mk (Kd.V_below (vd_ HO_204002.out) hb)
 have n2_ := Aside0.mk (Kd.V_below (vd_ HO_204004.out) hb)
 have n3_ := Aside0.mk (Kd.V_below (vd_ HO_206001.out) hb)
 have n4_ := Aside0.mk (Kd.S_below (sd_ HO_206002.out) hb)
 have n5_ := Aside0.mk (Kd.V_below (vd_ HO_206004.out) hb)
 have n6_ := Aside0.mk (Kd.V_below (vd_ HO217.out) hb)
 have n7_ := Aside0.mk (Kd.S_below (sd_ HO220.out) hb)
 have n8_ := Aside0.mk (Kd.V_below (vd_ HO224.out) hb)
 have n9_ := Aside0.mk (bb_ BK203.out hb)
 have n10_ := Aside0.mk (bb_ BK204.out hb)
 have n11_ := Aside0.mk (bb_ BK205.out hb)
 have n12_ := Aside0.mk (below_step (hb_ HB.out) hb)
 clear HO_204001
 clear HO_204002
 clear HO_204004
 clear HO_206001
 clear HO_206002
 clear HO_206004
 clear HO217
 clear HO220
 clear HO224
 clear BK203
 clear BK204
 clear BK205
 clear HB
 have HO_204001 := n0_
 have HO_204002 := n1_
 have HO_204004 := n2_
 have HO_206001 := n3_
 have HO_206002 := n4_
 have HO_206004 := n5_
 have HO217 := n6_
 have HO220 := n7_
 have HO224 := n8_
 have BK203 := n9_
 have BK204 := n10_
 have BK205 := n11_
 have HB := n12_
 clear n0_ n1_ n2_ n3_ n4_ n5_ n6_ n7_ n8_ n9_ n10_ n11_ n12_
 (try clear hb)
 (try clear hb2)
 (try clear hk)
 (try clear hi)
 refine hK.out _ _ ⟨(blk_cell BK205.out 0).trans rfl, (blk_cell BK205.out 1).trans rfl, (blk_cell BK205.out 2).trans rfl, (blk_cell BK205.out 3).trans rfl, (blk_cell BK205.out 4).trans rfl, (blk_cell BK203.out 0).trans rfl, (blk_cell BK203.out 1).trans rfl, (blk_cell BK203.out 2).trans rfl, (blk_cell BK203.out 3).trans rfl, (blk_cell BK203.out 4).trans rfl⟩ (fun hHeld => ?_)
 clear hK K
 refine norm_ (a' := ?_) ?_ ?_
 rotate_left
 ·show Act.put _ (some 46) _ = _
  simp only [Act.put, List.setIfInBounds_toArray, List.set_cons_zero, List.set_cons_succ, i64_w, i32_w]
  rfl
 refine pure_ (i := 5) (N := some 47) (v := ?_) (a' := ?_) #[true, true, true, true, true, true] rfl rfl (by kernel_rfl) (fun _ _ _ h => h) (Or.inl ⟨by rfl, ?_⟩) ?_ ?_; rotate_left; intro w'; go_simp; with_reducible rfl; rotate_left; simp only [Act.put, List.setIfInBounds_toArray, List.set_cons_zero, List.set_cons_succ, i64_w, i32_w]; rfl
 refine done_ (by kernel_rfl) ?_
 have hnb38 := NB205_204.out
 have hnc38 := NB204_205.out
 have hcz39_0 : w37.cell? ⟨gb205, 0, none⟩ = some (.string a0_0) := (blk_cell BK205.out 0).trans rfl
 have hcz39_1 : w37.cell? ⟨gb205, 1, none⟩ = some (.slice A0_1 l0_1.length c0_1) := (blk_cell BK205.out 1).trans rfl
 have hcz39_2 : w37.cell? ⟨gb205, 2, none⟩ = some (.slice Ao32 x206002_1.length co32) := (blk_cell BK205.out 2).trans rfl
 have hcz39_3 : w37.cell? ⟨gb205, 3, none⟩ = some (.bool a0_3) := (blk_cell BK205.out 3).trans rfl
 have hcz39_4 : w37.cell? ⟨gb205, 4, none⟩ = some (.slice A0_4 l0_4.length c0_4) := (blk_cell BK205.out 4).trans rfl
 have hfz39_0 := blk_frozen BK205.out 0
 have hfz39_1 := blk_frozen BK205.out 1
 have hfz39_2 := blk_frozen BK205.out 2
 have hfz39_3 := blk_frozen BK205.out 3
 have hfz39_4 := blk_frozen BK205.out 4
 have hcz40_0 : w37.cell? ⟨gb204, 0, none⟩ = some (.string (⟨#[]⟩ : ByteArray)) := (blk_cell BK204.out 0).trans rfl
 have hcz40_1 : w37.cell? ⟨gb204, 1, none⟩ = some (.slice none 0 0) := (blk_cell BK204.out 1).trans rfl
 have hcz40_2 : w37.cell? ⟨gb204, 2, none⟩ = some (.slice none 0 0) := (blk_cell BK204.out 2).trans rfl
 have hcz40_3 : w37.cell? ⟨gb204, 3, none⟩ = some (.bool false) := (blk_cell BK204.out 3).trans rfl
 have hcz40_4 : w37.cell? ⟨gb204, 4, none⟩ = some (.slice none 0 0) := (blk_cell BK204.out 4).trans rfl
 have hfz40_0 := blk_frozen BK204.out 0
 have hfz40_1 := blk_frozen BK204.out 1
 have hfz40_2 := blk_frozen BK204.out 2
 have hfz40_3 := blk_frozen BK204.out 3
 have hfz40_4 := blk_frozen BK204.out 4
 try go_wp2
 refine bodyPost_ret (results_ct rfl _ _ gb204 30 #[.string a0_0, .slice A0_1 l0_1.length c0_1, .slice Ao32 x206002_1.length co32, .bool a0_3, .slice A0_4 l0_4.length c0_4] (0, 0) _ rfl (by exact bp5_ BK204.out) Try.underlying30 rfl (by kernel_rfl)) rfl ?_
 exact ⟨_, _, _, by first | rfl | (simp [errW_none, errW_some] <;> rfl) | (simp [*, errW_none, errW_some] <;> rfl), by (with_reducible repeat (first | apply Kd.V_alloc | apply Kd.V_drewN | apply Kd.V_drew)); exact Kd.V_mono (Kd.V_far (p := ⟨gb204, 4, none⟩) (Kd.V_far (p := ⟨gb204, 3, none⟩) (Kd.V_far (p := ⟨gb204, 2, none⟩) (Kd.V_far (p := ⟨gb204, 1, none⟩) (Kd.V_far (p := ⟨gb204, 0, none⟩) (Kd.V_mono HO_206001.out (fun k_ hk => (⟨hk, hk.1.2.2.2.1⟩ : _ ∧ k_ ≠ gb204))) (fun _ hk => hk.2) (.string a0_0)) (fun _ hk => hk.2) (.slice A0_1 l0_1.length c0_1)) (fun _ hk => hk.2) (.slice Ao32 x206002_1.length co32)) (fun _ hk => hk.2) (.bool a0_3)) (fun _ hk => hk.2) (.slice A0_4 l0_4.length c0_4)) (fun _ hk => hk.1.1.1), Kd.V_mono (Kd.S_V (by (with_reducible repeat (first | apply Kd.S_alloc | apply Kd.S_drewN | apply Kd.S_drew)); exact Kd.S_mono (Kd.S_far (p := ⟨gb204, 4, none⟩) (Kd.S_far (p := ⟨gb204, 3, none⟩) (Kd.S_far (p := ⟨gb204, 2, none⟩) (Kd.S_far (p := ⟨gb204, 1, none⟩) (Kd.S_far (p := ⟨gb204, 0, none⟩) (Kd.S_types HO_206002.out BK204.out (by decide)) (fun _ hk => hk.2) (.string a0_0)) (fun _ hk => hk.2) (.slice A0_1 l0_1.length c0_1)) (fun _ hk => hk.2) (.slice Ao32 x206002_1.length co32)) (fun _ hk => hk.2) (.bool a0_3)) (fun _ hk => hk.2) (.slice A0_4 l0_4.length c0_4)) (fun _ hk => hk.1.1))) (fun k_ hk => by first | exact ⟨(.inr (hk.1)), hk.2⟩ | exact (.inr (hk))), by (with_reducible repeat (first | apply Kd.V_alloc | apply Kd.V_drewN | apply Kd.V_drew)); exact Kd.V_mono (Kd.V_far (p := ⟨gb204, 4, none⟩) (Kd.V_far (p := ⟨gb204, 3, none⟩) (Kd.V_far (p := ⟨gb204, 2, none⟩) (Kd.V_far (p := ⟨gb204, 1, none⟩) (Kd.V_far (p := ⟨gb204, 0, none⟩) (Kd.V_mono HO_206004.out (fun k_ hk => (⟨hk, hk.1.2.2.2.1⟩ : _ ∧ k_ ≠ gb204))) (fun _ hk => hk.2) (.string a0_0)) (fun _ hk => hk.2) (.slice A0_1 l0_1.length c0_1)) (fun _ hk => hk.2) (.slice Ao32 x206002_1.length co32)) (fun _ hk => hk.2) (.bool a0_3)) (fun _ hk => hk.2) (.slice A0_4 l0_4.length c0_4)) (fun _ hk => hk.1.1.1), hb_ HB.out⟩
def fencepostref08_Many.l0 : Nat → Int → Int → List Int → List (List (S53)) → Option (Int)
 | 0, _, _, _, _ => none
 | k + 1, x3, x4, x227000, x227001 => if x4 < (x227001.length : Int) then (if 0 ≤ x4 then (fencepostref08_Many.l0 k (wrap64 (x3 + ((rd_L3 x227001 x4).length : Int))) (wrap64 (x4 + 1)) x227000 x227001) else (none)) else (some x3)
def fencepostref08_Many.f (k : Nat) (l0_0 : List Int) (l0_1 : List (List (S53))) : Option (Int) := fencepostref08_Many.l0 k 0 0 l0_0 l0_1
theorem fencepostref08_Many.mono_l : ∀ k, (∀ y0 y1 y2 y3, LeO (fencepostref08_Many.l0 k y0 y1 y2 y3) (fencepostref08_Many.l0 (k + 1) y0 y1 y2 y3))
 | 0 => fun _ _ _ _ r h => by simp [fencepostref08_Many.l0] at h
 | k + 1 => by
  have ih0 := fencepostref08_Many.mono_l k
  ·intro y0 y1 y2 y3
   unfold fencepostref08_Many.l0
   repeat' first
   | (with_reducible exact ih0 _ _ _ _)
   | (with_reducible exact LeO.refl _)
   | (with_reducible exact LeO.none _)
   | (with_reducible refine LeO.ite ?_ ?_)
   | (with_reducible refine LeO.bind ?_ (fun _ => ?_))
   | exact ih0 _ _ _ _
   | exact LeO.none _
   | refine LeO.ite ?_ ?_
   | refine LeO.bind ?_ (fun _ => ?_)
theorem fencepostref08_Many.mono : ∀ a0 a1 k, LeO (fencepostref08_Many.f k a0 a1) (fencepostref08_Many.f (k + 1) a0 a1) := by
 intro a0 a1 k
 have ih0 := fencepostref08_Many.mono_l k
 unfold fencepostref08_Many.f
 repeat' first
  | (with_reducible exact ih0 _ _ _ _)
  | (with_reducible exact LeO.refl _)
  | (with_reducible exact LeO.none _)
  | (with_reducible refine LeO.ite ?_ ?_)
  | (with_reducible refine LeO.bind ?_ (fun _ => ?_))
  | exact ih0 _ _ _ _
  | exact LeO.none _
  | refine LeO.ite ?_ ?_
  | refine LeO.bind ?_ (fun _ => ?_)
set_option maxHeartbeats 8000000 in
set_option maxRecDepth 100000 in
theorem fencepostref08_Many.calls (k : Nat) (A0_0 : Option Addr) (c0_0 : Nat) (l0_0 : List Int) (A0_1 : Option Addr) (c0_1 : Nat) (l0_1 : List (List (S53))) (r : Int) (w : World) (hr0_0 : Kd.C (Kd.int .i64) w A0_0 l0_0.length l0_0) (hc0_0 : l0_0.length ≤ c0_0) (hr0_1 : Kd.C (Kd.slice 53 k53) w A0_1 l0_1.length l0_1) (hc0_1 : l0_1.length ≤ c0_1) (h : fencepostref08_Many.f k l0_0 l0_1 = some r) :
 Calls Try.prog 18 #[.agg #[.slice A0_0 l0_0.length c0_0, .slice A0_1 l0_1.length c0_1]] w fun e w' => e = .returned (.int .i64 r) ∧ Below w.heap.size w w' := by
 have hu25 := Try.underlying25
 have HR0_0 := Aside0.mk hr0_0
 have HC0_0 := Aside0.mk hc0_0
 clear hr0_0 hc0_0
 have HR0_1 := Aside0.mk hr0_1
 have HC0_1 := Aside0.mk hc0_1
 clear hr0_1 hc0_1
 have HB := Aside0.mk (Below.refl w.heap.size w)
 have H : (fencepostref08_Many.l0 k 0 0 l0_0 l0_1) = some r := h
 clear h
 have H' := Aside0.mk H
 clear H
 go_enter Try.func18, Try.ntmps18
 go_wp2_with (first | ((with_reducible refine gate_dst (N := 1) rfl ?_); refine box_event ?hg (N := 1) ?hd (cs := #[.slice A0_0 l0_0.length c0_0, .slice A0_1 l0_1.length c0_1]) (t := 25) ?hr ?_; (case hd => rfl); (case hg => rfl); (case hr => first | (go_simp; done) | (go_simp; rfl)); intro gb226 hg w2 hbox hb; have n0_ := Aside0.mk (below_step (hb_ HB.out) hb); have n1_ := Aside0.mk (hbox); have n2_ := Aside0.mk (gs_ hg (hb_ HB.out)); have n3_ := Aside0.mk (gs_ hg (hb_ HB.out)); clear HB; have HB := n0_; have BK226 := n1_; have GW226 := n2_; have GE226 := n3_; clear n0_ n1_ n2_ n3_; clear hb hbox hg))
 go_loopg [3, 4] k (fun kq v3 v4 w' => ∃ (x3_1 : Int) (x4_1 : Int), v3 = .int .i64 x3_1 ∧ v4 = .int .i64 x4_1 ∧ Aside0 (fencepostref08_Many.l0 kq x3_1 x4_1 l0_0 l0_1 = some r) ∧ Aside0 (kq ≤ k) ∧ Aside0 (w'.heap[gb226]? = some (.cells #[(.slice A0_0 l0_0.length c0_0), (.slice A0_1 l0_1.length c0_1)] 25 (0, 0))) ∧ Aside0 (Below w.heap.size w w'))
 case atStart => exact ⟨(0), (0), rf_, rf_, H', ⟨Nat.le_refl _⟩, ⟨bd_ BK226.out⟩, ⟨hb_ HB.out⟩⟩
 clear H'
 obtain ⟨x3_1, x4_1, rfl, rfl, HA, HK1, BK226, HB⟩ := hrel
 cases gk with
 | zero => exact absurd HA.out (by simp [fencepostref08_Many.l0])
 | succ k1 => ?_
 have H := HA.out
 clear HA
 simp only [fencepostref08_Many.l0] at H
 by_cases c3 : x4_1 < (l0_1.length : Int)
 rotate_left
 ·rw [if_neg c3] at H
  have c3b0 : decide (x4_1 < (l0_1.length : Int)) = false := decide_eq_false c3
  clear c3
  obtain rfl := Option.some.inj H
  have hcz6_0 : wr.cell? ⟨gb226, 0, none⟩ = some (.slice A0_0 l0_0.length c0_0) := (blk_cell BK226.out 0).trans rfl
  have hcz6_1 : wr.cell? ⟨gb226, 1, none⟩ = some (.slice A0_1 l0_1.length c0_1) := (blk_cell BK226.out 1).trans rfl
  have hfz6_0 := blk_frozen BK226.out 0
  have hfz6_1 := blk_frozen BK226.out 1
  go_wp2
  go_ret
  exact ⟨by first | rfl | (simp [errW_none, errW_some] <;> rfl) | (simp [*, errW_none, errW_some] <;> rfl), hb_ HB.out⟩
 rw [if_pos c3] at H
 have c3b0 : decide (x4_1 < (l0_1.length : Int)) = true := decide_eq_true c3
 clear c3
 by_cases c4 : 0 ≤ x4_1
 rotate_left
 ·rw [if_neg c4] at H
  exact absurd H (by simp)
 rw [if_pos c4] at H
 have c4b0 : decide (0 ≤ x4_1) = true := decide_eq_true c4
 clear c4
 have H' := Aside0.mk H
 clear H
 have hcz5_0 : wr.cell? ⟨gb226, 0, none⟩ = some (.slice A0_0 l0_0.length c0_0) := (blk_cell BK226.out 0).trans rfl
 have hcz5_1 : wr.cell? ⟨gb226, 1, none⟩ = some (.slice A0_1 l0_1.length c0_1) := (blk_cell BK226.out 1).trans rfl
 have hfz5_0 := blk_frozen BK226.out 0
 have hfz5_1 := blk_frozen BK226.out 1
 have p227 : 0 ≤ (x4_1 : Int) := of_decide_eq_true as_
 have q227 : x4_1 < (l0_1.length : Int) := of_decide_eq_true as_
 obtain ⟨ad227, A227_0, c227_0, e227, hx227_0, hl227_0, hi227_0⟩ := at_L3 HR0_1.out x4_1 p227 q227
 cases e227
 replace hx227_0 := cl_ HB.out hx227_0
 have HR227_0 := Aside0.mk hi227_0
 have HC227_0 := Aside0.mk hl227_0
 clear hi227_0 hl227_0
 replace p227 := eq_true p227
 replace q227 := eq_true q227
 go_wp2
 go_roundg k1
 case measure => have := HK1.out; omega
 case rel => exact ⟨(wrap64 (x3_1 + ((rd_L3 l0_1 x4_1).length : Int))), (wrap64 (x4_1 + 1)), rf_, rf_, H', ⟨by have := HK1.out; omega⟩, ⟨bd_ BK226.out⟩, ⟨hb_ HB.out⟩⟩
end Go.Proofs.Ytijpfonbeepmfaa.Print
