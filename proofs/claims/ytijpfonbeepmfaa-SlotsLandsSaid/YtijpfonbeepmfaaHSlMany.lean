/- slots.Many and slots.Num: their Lean functions and their contracts. -/
import Derived.Test.YtijpfonbeepmfaaHSlAllK
namespace Go.Proofs.Ytijpfonbeepmfaa.Print
open Go.RowKit Go.Shelf Go.Proofs.YtijpfonbeepmfaaW.PrintWords Go.Proofs.YtijpfonbeepmfaaW.PrintLast Go.Proofs.YtijpfonbeepmfaaW.PrintMore
set_option linter.unusedVariables false
set_option linter.unusedSimpArgs false
attribute [local go_sem] Oper.semAt_some
theorem step_heap : Kd.Heap k53 := Kd.heap_iso _ (Kd.heap_pair (Kd.heap_int .i64) (Kd.heap_pair (Kd.heap_int .i64) (Kd.heap_pair (Kd.heap_int .i64) (Kd.heap_pair (Kd.heap_int .i64) (Kd.heap_int .i64)))))
set_option maxRecDepth 100000 in
set_option maxHeartbeats 4000000 in
theorem many_calls (A0_0 : Option Addr) (c0_0 : Nat) (n0 : Nat) (A0_1 : Option Addr) (c0_1 : Nat) (l0_1 : List (List S53)) (w : World) (hr0_1 : Kd.C (Kd.slice 53 k53) w A0_1 l0_1.length l0_1) (hlen : tot l0_1 ≤ 1000000) (hlen2 : l0_1.length ≤ 1000000) :
 Calls Try.prog 17 #[.agg #[.slice A0_0 n0 c0_0, .slice A0_1 l0_1.length c0_1]] w fun e w' => e = .returned (.int .i64 (tot l0_1 : Int)) ∧ Below w.heap.size w w' := by
 have hu := Try.underlying25
 refine (callsIn_wide (n := 20)).1 ?_
 refine callsIn_of_wp_marks Try.func17 rfl trivial ?_ rfl
 simp only [Try.ntmps17, List.size_toArray, List.length_cons, List.length_nil, Nat.reduceAdd, Nat.reduceSub, Array.replicate_succ, Array.replicate_zero, List.push_toArray, List.append_toArray, List.nil_append, List.cons_append]
 gi_wp2_with (refine ⟨trivial, ?_⟩; gi_at_call 34; refine (all_in 19 _ _ _ _ _ _ _).mono ?_; rintro e w' ⟨rfl, rfl⟩)
 have bC := (Boxed.new (w.alloc (.cells #[.slice A0_0 n0 c0_0, .slice A0_1 l0_1.length c0_1] 25)) 3 (.int .i64 0)).alloc (.cells #[.slice A0_0 n0 c0_0, .slice A0_1 l0_1.length c0_1] 25)
 have hP := World.alloc_heap_new ((w.alloc (.cells #[.slice A0_0 n0 c0_0, .slice A0_1 l0_1.length c0_1] 25)).alloc (.cells #[.int .i64 0] 3)) (.cells #[.slice A0_0 n0 c0_0, .slice A0_1 l0_1.length c0_1] 25)
 have hB0 : Below w.heap.size w (((w.alloc (.cells #[.slice A0_0 n0 c0_0, .slice A0_1 l0_1.length c0_1] 25)).alloc (.cells #[.int .i64 0] 3)).alloc (.cells #[.slice A0_0 n0 c0_0, .slice A0_1 l0_1.length c0_1] 25)) := (((Below.refl _ w).alloc (Nat.le_refl _) _).alloc (by simp) _).alloc (by simp; omega) _
 have hsz : (((w.alloc (.cells #[.slice A0_0 n0 c0_0, .slice A0_1 l0_1.length c0_1] 25)).alloc (.cells #[.int .i64 0] 3)).alloc (.cells #[.slice A0_0 n0 c0_0, .slice A0_1 l0_1.length c0_1] 25)).heap.size = w.heap.size + 3 := by simp
 simp only [World.size_alloc] at bC hP
 obtain ⟨W0, hW0⟩ : ∃ W0, (((w.alloc (.cells #[.slice A0_0 n0 c0_0, .slice A0_1 l0_1.length c0_1] 25)).alloc (.cells #[.int .i64 0] 3)).alloc (.cells #[.slice A0_0 n0 c0_0, .slice A0_1 l0_1.length c0_1] 25)) = W0 := ⟨_, rfl⟩
 rw [hW0] at bC hP hB0 hsz ⊢
 clear hW0
 refine wpIn_rangeFunc_ownH rfl (by omega) (gf := 49) (lb := #[.pointer (some ⟨w.heap.size + 1 + 1, 0, none⟩)]) rfl trivial (enters_of Try.func49 (by kernel_rfl) rfl)
  (all_stopsK 18 W0 A0_0 A0_1 _ _ c0_1 (w.heap.size + 1 + 1) (fun k => k < w.heap.size ∨ k = w.heap.size + 1 + 1) l0_1 hlen hlen2 (fun W h => Kd.F_now (Kd.F_step (Kd.F_step (Kd.C_F (Kd.heap_slice 53 step_heap) hr0_1) (fun k h1 _ => hB0.block k h1)) (fun k h1 h2 => h.same k (.inl h1) h2))) (.inr rfl) ((blk_cell hP 0).trans rfl) ((blk_cell hP 1).trans rfl)) Kpt.trans (fun W' q o o' h1 h2 _ _ => ⟨by simp [World.putObj], fun k h3 _ => World.putObj_heap_other (fun e => by omega)⟩) (Below.refl _ _) (fun _ => rfl)
  (fun (pre : List (Int × Int × Int)) W => Boxed W (w.heap.size + 1) 3 (.int .i64 (pre.length : Int)) ∧ (W.heap[w.heap.size + 1 + 1]? = some (.cells #[.slice A0_0 n0 c0_0, .slice A0_1 l0_1.length c0_1] 25 (0, 0)) ∧ Below w.heap.size w W))
  (fun c pre W => False)
  (OwnFrom.and (Own.from (boxed_own (w.heap.size + 1) 3 (fun pre : List (Int × Int × Int) => Value.int .i64 (pre.length : Int))) _) (OwnFrom.and (Own.from (fun s => blk_own _ _ _ ()) _) (ownFrom_below (Nat.le_refl _) (by omega))))
  (fun c s X Y row hs hg hr => hs)
  ⟨bC, hP, hB0⟩
  (fun x a' W => a' = { tmps := #[.agg #[.slice A0_0 n0 c0_0, .slice A0_1 l0_1.length c0_1], .pointer (some ⟨w.heap.size, 0, none⟩), .int .i64 0, .pointer (some ⟨w.heap.size + 1, 0, none⟩), .agg #[.slice A0_0 n0 c0_0, .slice A0_1 l0_1.length c0_1], .func (.func 49) #[] #[.pointer (some ⟨w.heap.size + 1 + 1, 0, none⟩)], .int .i64 x.1, .agg #[.int .i64 x.2.1, .int .i64 x.2.2], undef, undef, undef], defers := [] })
  (fun x a' s X Y row hs hg hr => hs)
  ?assign ?body ?done ?stop
 case assign =>
  rintro l2 pre x W K ⟨bC, hP, hB1⟩ hK
  gi_wp2
  exact hK _ _ (KeepsFrom.refl _ _) (Kpt.refl _ _) ⟨bC, hP, hB1⟩ (by simp)
 case body =>
  rintro l2 pre x a' W hl hloop ⟨bC, hP, hB1⟩ rfl hlt
  have eC := bC.cell
  have fC := bC.frozen
  have s1 : (pre.length : Int) + 1 ≤ 9223372036854775807 := by omega
  have s2 : -9223372036854775808 ≤ (pre.length : Int) + 1 := by omega
  gi_wp2
  exact ⟨(KeepsOthers.setCell _ _ _).from _, ⟨Nat.le_of_eq (World.size_setCell _ _ _).symm, fun k hk _ => Below.heap_setCell W ⟨w.heap.size + 1, 0, none⟩ _ k (fun e => by have e' : k = w.heap.size + 1 := e; omega)⟩, by have := bC.set (.int .i64 ((pre.length : Int) + 1)); simpa using this, (Below.heap_setCell W ⟨w.heap.size + 1, 0, none⟩ _ (w.heap.size + 1 + 1) (by show w.heap.size + 1 + 1 ≠ w.heap.size + 1; omega)).trans hP, hB1.setCell (p := ⟨w.heap.size + 1, 0, none⟩) (by simp) _⟩
 case done =>
  rintro D ys W hD rfl ⟨bC, hP, hB1⟩ hK
  have eC := bC.cell
  have fC := bC.frozen
  have hlen3 := slotsFrom_length l0_1 0 0
  gi_wp2
  refine ⟨by simp, .inl ⟨_, _, rfl, run_takeDeferred hK, ?_⟩⟩
  refine ⟨.int .i64 ((slotsFrom 0 0 l0_1).length : Int), ?_, by rw [hlen3], hB1.trans (belowK_b (w := w) (Nat.le_refl _) _ D _ _ (by omega) hK rfl rfl)⟩
  simp [results, Try.f17, go_sem, hlen3]
 case stop =>
  rintro D c pre W hD hpre h hK
  exact h.elim
end Go.Proofs.Ytijpfonbeepmfaa.Print
