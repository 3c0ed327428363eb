/- slots.Of: its contract. -/
import Derived.Test.YtijpfonbeepmfaaHSlMany
import Derived.RegionTactic
import Derived.BigRegion
import Derived.BigRegionIn
namespace Go.Proofs.Ytijpfonbeepmfaa.Print
open Go.RowKit Go.Shelf Go.Proofs.YtijpfonbeepmfaaW.PrintWords Go.Proofs.YtijpfonbeepmfaaW.PrintLast Go.Proofs.YtijpfonbeepmfaaW.PrintMore
set_option linter.unusedVariables false
set_option linter.unusedSimpArgs false
attribute [local go_sem] Oper.semAt_some
/-- Where a slot is. -/
def ofF (zs : List (List S53)) (n : Int) : Int × Int × Bool := match (slotsFrom 0 0 zs).find? (fun x => x.1 == n) with | some x => (x.2.1, x.2.2, true) | none => (0, 0, false)
set_option maxRecDepth 100000 in
set_option maxHeartbeats 8000000 in
theorem of_calls (A0_0 : Option Addr) (c0_0 : Nat) (n0 : Nat) (A0_1 : Option Addr) (c0_1 : Nat) (l0_1 : List (List S53)) (n : Int) (w : World) (hr0_1 : Kd.C (Kd.slice 53 k53) w A0_1 l0_1.length l0_1) (hlen : tot l0_1 ≤ 1000000) (hlen2 : l0_1.length ≤ 1000000) :
 Calls Try.prog 13 #[.agg #[.slice A0_0 n0 c0_0, .slice A0_1 l0_1.length c0_1], .int .i64 n] w fun e w' => e = .returned (.tuple #[.int .i64 (ofF l0_1 n).1, .int .i64 (ofF l0_1 n).2.1, .bool (ofF l0_1 n).2.2]) ∧ Below w.heap.size w w' := by
 have hu := Try.underlying25
 have hu2 := Try.underlying69
 refine (callsIn_wide (n := 20)).1 ?_
 refine callsIn_of_wp_marks Try.func13 rfl trivial ?_ rfl
 simp only [Try.ntmps13, List.size_toArray, List.length_cons, List.length_nil, Nat.reduceAdd, Nat.reduceSub, Array.replicate_succ, Array.replicate_zero, List.push_toArray, List.append_toArray, List.nil_append, List.cons_append]
 gi_wp2_with (refine ⟨trivial, ?_⟩; gi_at_call 34; refine (all_in 19 _ _ _ _ _ _ _).mono ?_; rintro e w' ⟨rfl, rfl⟩)
 have bN := (((((Boxed.new (w.alloc (.cells #[.slice A0_0 n0 c0_0, .slice A0_1 l0_1.length c0_1] 25)) 3 (.int .i64 n)).alloc (.cells #[.int .i64 0] 3)).alloc (.cells #[.int .i64 0] 3)).alloc (.cells #[.bool false] 4)).alloc (.cells #[.slice A0_0 n0 c0_0, .slice A0_1 l0_1.length c0_1] 25))
 have b4 := ((((Boxed.new ((w.alloc (.cells #[.slice A0_0 n0 c0_0, .slice A0_1 l0_1.length c0_1] 25)).alloc (.cells #[.int .i64 n] 3)) 3 (.int .i64 0)).alloc (.cells #[.int .i64 0] 3)).alloc (.cells #[.bool false] 4)).alloc (.cells #[.slice A0_0 n0 c0_0, .slice A0_1 l0_1.length c0_1] 25))
 have b5 := (((Boxed.new (((w.alloc (.cells #[.slice A0_0 n0 c0_0, .slice A0_1 l0_1.length c0_1] 25)).alloc (.cells #[.int .i64 n] 3)).alloc (.cells #[.int .i64 0] 3)) 3 (.int .i64 0)).alloc (.cells #[.bool false] 4)).alloc (.cells #[.slice A0_0 n0 c0_0, .slice A0_1 l0_1.length c0_1] 25))
 have b6 := ((Boxed.new ((((w.alloc (.cells #[.slice A0_0 n0 c0_0, .slice A0_1 l0_1.length c0_1] 25)).alloc (.cells #[.int .i64 n] 3)).alloc (.cells #[.int .i64 0] 3)).alloc (.cells #[.int .i64 0] 3)) 4 (.bool false)).alloc (.cells #[.slice A0_0 n0 c0_0, .slice A0_1 l0_1.length c0_1] 25))
 have hP := World.alloc_heap_new (((((w.alloc (.cells #[.slice A0_0 n0 c0_0, .slice A0_1 l0_1.length c0_1] 25)).alloc (.cells #[.int .i64 n] 3)).alloc (.cells #[.int .i64 0] 3)).alloc (.cells #[.int .i64 0] 3)).alloc (.cells #[.bool false] 4)) (.cells #[.slice A0_0 n0 c0_0, .slice A0_1 l0_1.length c0_1] 25)
 have hB0 : Below w.heap.size w ((((((w.alloc (.cells #[.slice A0_0 n0 c0_0, .slice A0_1 l0_1.length c0_1] 25)).alloc (.cells #[.int .i64 n] 3)).alloc (.cells #[.int .i64 0] 3)).alloc (.cells #[.int .i64 0] 3)).alloc (.cells #[.bool false] 4)).alloc (.cells #[.slice A0_0 n0 c0_0, .slice A0_1 l0_1.length c0_1] 25)) := ((((((Below.refl _ w).alloc (Nat.le_refl _) _).alloc (by simp) _).alloc (by simp; omega) _).alloc (by simp; omega) _).alloc (by simp; omega) _).alloc (by simp; omega) _
 have hsz : ((((((w.alloc (.cells #[.slice A0_0 n0 c0_0, .slice A0_1 l0_1.length c0_1] 25)).alloc (.cells #[.int .i64 n] 3)).alloc (.cells #[.int .i64 0] 3)).alloc (.cells #[.int .i64 0] 3)).alloc (.cells #[.bool false] 4)).alloc (.cells #[.slice A0_0 n0 c0_0, .slice A0_1 l0_1.length c0_1] 25)).heap.size = w.heap.size + 6 := by simp
 simp only [World.size_alloc] at bN b4 b5 b6 hP
 obtain ⟨W0, hW0⟩ : ∃ W0, ((((((w.alloc (.cells #[.slice A0_0 n0 c0_0, .slice A0_1 l0_1.length c0_1] 25)).alloc (.cells #[.int .i64 n] 3)).alloc (.cells #[.int .i64 0] 3)).alloc (.cells #[.int .i64 0] 3)).alloc (.cells #[.bool false] 4)).alloc (.cells #[.slice A0_0 n0 c0_0, .slice A0_1 l0_1.length c0_1] 25)) = W0 := ⟨_, rfl⟩
 rw [hW0] at bN b4 b5 b6 hP hB0 hsz ⊢
 clear hW0
 refine wpIn_rangeFunc_ownH rfl (by omega) (gf := 49) (lb := #[.pointer (some ⟨w.heap.size + 1 + 1 + 1 + 1 + 1, 0, none⟩)]) rfl trivial (enters_of Try.func49 (by kernel_rfl) rfl)
  (all_stops 18 w W0 A0_0 A0_1 _ _ c0_1 (w.heap.size + 1 + 1 + 1 + 1 + 1) W0.heap.size l0_1 hlen hlen2 hr0_1 hB0 (by omega) (by omega) (Nat.le_refl _) ((blk_cell hP 0).trans rfl) ((blk_cell hP 1).trans rfl)) belowK_t (belowK_b (Nat.le_refl _)) (Below.refl _ _) (fun _ => rfl)
  (fun pre W => ((((Boxed W (w.heap.size + 1) 3 (.int .i64 n) ∧ Boxed W (w.heap.size + 1 + 1) 3 (.int .i64 0)) ∧ Boxed W (w.heap.size + 1 + 1 + 1) 3 (.int .i64 0)) ∧ Boxed W (w.heap.size + 1 + 1 + 1 + 1) 4 (.bool false)) ∧ (W.heap[w.heap.size + 1 + 1 + 1 + 1 + 1]? = some (.cells #[.slice A0_0 n0 c0_0, .slice A0_1 l0_1.length c0_1] 25 (0, 0)) ∧ Below w.heap.size w W)) ∧ (∀ p ∈ pre, ¬ (p.1 = n)))
  (fun c pre W => c = .ret ∧ ∃ ini x, pre = ini ++ [x] ∧ (∀ p ∈ ini, ¬ (p.1 = n)) ∧ x.1 = n ∧ ((Boxed W (w.heap.size + 1 + 1) 3 (.int .i64 x.2.1) ∧ Boxed W (w.heap.size + 1 + 1 + 1) 3 (.int .i64 x.2.2)) ∧ Boxed W (w.heap.size + 1 + 1 + 1 + 1) 4 (.bool true)) ∧ Below w.heap.size w W)
  (OwnFrom.and (OwnFrom.and (OwnFrom.and (OwnFrom.and (OwnFrom.and (Own.from (boxed_own _ _ _) _) (Own.from (boxed_own _ _ _) _)) (Own.from (boxed_own _ _ _) _)) (Own.from (boxed_own _ _ _) _)) (OwnFrom.and (Own.from (fun s => blk_own _ _ _ ()) _) (ownFrom_below (Nat.le_refl _) (by omega)))) (ownFrom_pure _ (fun pre : List (Int × Int × Int) => ∀ p ∈ pre, ¬ (p.1 = n))))
  (fun c s X Y row hs hg hr => by obtain ⟨hc, ini, x, e1, e2, e3, ⟨⟨e4, e5⟩, e6⟩, e7⟩ := hs; exact ⟨hc, ini, x, e1, e2, e3, ⟨⟨boxed_own _ _ (fun (_ : Unit) => Value.int .i64 x.2.1) () X Y row e4 hg (fun r e => (hr r e).2), boxed_own _ _ (fun (_ : Unit) => Value.int .i64 x.2.2) () X Y row e5 hg (fun r e => (hr r e).2)⟩, boxed_own _ _ (fun (_ : Unit) => Value.bool true) () X Y row e6 hg (fun r e => (hr r e).2)⟩, ownFrom_below (Nat.le_refl _) (by omega) () X Y row e7 hg hr⟩)
  ⟨⟨⟨⟨⟨bN, b4⟩, b5⟩, b6⟩, hP, hB0⟩, by simp⟩
  (fun x a' W => ∃ Bx, W0.heap.size ≤ Bx ∧ W.heap[Bx]? = some (.cells #[.int .i64 x.2.1, .int .i64 x.2.2] 69 (0, 0)) ∧ a' = { tmps := #[.agg #[.slice A0_0 n0 c0_0, .slice A0_1 l0_1.length c0_1], .int .i64 n, .pointer (some ⟨w.heap.size, 0, none⟩), .pointer (some ⟨w.heap.size + 1, 0, none⟩), .pointer (some ⟨w.heap.size + 1 + 1, 0, none⟩), .pointer (some ⟨w.heap.size + 1 + 1 + 1, 0, none⟩), .pointer (some ⟨w.heap.size + 1 + 1 + 1 + 1, 0, none⟩), .int .i64 x.1, .pointer (some ⟨Bx, 0, none⟩), .agg #[.slice A0_0 n0 c0_0, .slice A0_1 l0_1.length c0_1], .func (.func 49) #[] #[.pointer (some ⟨w.heap.size + 1 + 1 + 1 + 1 + 1, 0, none⟩)], .int .i64 x.1, .agg #[.int .i64 x.2.1, .int .i64 x.2.2], undef, undef, undef, undef, undef, undef, undef], defers := [] })
  (fun x a' s X Y row hs hg hr => by obtain ⟨Bx, h1, h2, h3⟩ := hs; exact ⟨Bx, h1, blk_own Bx _ _ () X Y row h2 hg (fun r e => (hr r e).2), h3⟩)
  ?assign ?body ?done ?stop
 case assign =>
  rintro l2 pre x W K ⟨⟨⟨⟨⟨bN, b4⟩, b5⟩, b6⟩, hP, hB1⟩, hP1⟩ hK
  gi_wp2
  have hW0 : W0.heap.size ≤ W.heap.size := by have := (Array.getElem?_eq_some_iff.1 hP).1; omega
  exact hK _ _ ((KeepsOthers.alloc _ _).from _) ((Below.refl _ W).alloc hW0 _) ⟨⟨⟨⟨⟨bN.alloc _, b4.alloc _⟩, b5.alloc _⟩, b6.alloc _⟩, (Below.heap_alloc W _ _ (Array.getElem?_eq_some_iff.1 hP).1).trans hP, hB1.alloc hB1.size _⟩, hP1⟩ ⟨W.heap.size, hW0, World.alloc_heap_new W _, rfl⟩
 case body =>
  rintro l2 pre x a' W hl hloop ⟨⟨⟨⟨⟨bN, b4⟩, b5⟩, b6⟩, hP, hB1⟩, hP1⟩ ⟨Bx, hBx, hX, rfl⟩ hlt
  have eN := bN.cell
  have e4 := b4.cell
  have e5 := b5.cell
  have e6 := b6.cell
  have f4 := b4.frozen
  have f5 := b5.frozen
  have f6 := b6.frozen
  have x0 : W.cell? ⟨Bx, 0, none⟩ = some (.int .i64 x.2.1) := (blk_cell hX 0).trans rfl
  have x1 : W.cell? ⟨Bx, 1, none⟩ = some (.int .i64 x.2.2) := (blk_cell hX 1).trans rfl
  have go : ∀ (h : ¬ (x.1 = n)), ∀ p ∈ pre ++ [x], ¬ (p.1 = n) := fun h p hp => by
   rcases List.mem_append.1 hp with h1 | h1
   ·exact hP1 p h1
   ·simp at h1; subst h1; exact h
  by_cases c1 : x.1 = n
  ·have d1 : (x.1 == n) = true := by simpa using c1
   have C1 := Aside0.mk c1
   clear c1
   gi_wp2
   have hne : ∀ j, j < W0.heap.size → Bx ≠ j := fun j hj => by omega
   have n4 := hne (w.heap.size + 1 + 1) (by omega)
   have n5 := hne (w.heap.size + 1 + 1 + 1) (by omega)
   have n6 := hne (w.heap.size + 1 + 1 + 1 + 1) (by omega)
   have c1 := C1.out
   have k4 := b4.set (.int .i64 x.2.1)
   have k5 := (b5.other (B' := w.heap.size + 1 + 1) (by omega) (.int .i64 x.2.1)).set (.int .i64 x.2.2)
   have k6 := ((b6.other (B' := w.heap.size + 1 + 1) (by omega) (.int .i64 x.2.1)).other (B' := w.heap.size + 1 + 1 + 1) (by omega) (.int .i64 x.2.2)).set (.bool true)
   have k4' := (k4.other (B' := w.heap.size + 1 + 1 + 1) (by omega) (.int .i64 x.2.2)).other (B' := w.heap.size + 1 + 1 + 1 + 1) (by omega) (.bool true)
   have k5' := k5.other (B' := w.heap.size + 1 + 1 + 1 + 1) (by omega) (.bool true)
   have kb := ((hB1.setCell (p := ⟨w.heap.size + 1 + 1, 0, none⟩) (by simp; omega) (.int .i64 x.2.1)).setCell (p := ⟨w.heap.size + 1 + 1 + 1, 0, none⟩) (by simp; omega) (.int .i64 x.2.2)).setCell (p := ⟨w.heap.size + 1 + 1 + 1 + 1, 0, none⟩) (by simp; omega) (.bool true)
   have kk := (((KeepsOthers.setCell W ⟨w.heap.size + 1 + 1, 0, none⟩ (.int .i64 x.2.1)).from W0.heap.size).trans ((KeepsOthers.setCell _ ⟨w.heap.size + 1 + 1 + 1, 0, none⟩ (.int .i64 x.2.2)).from W0.heap.size)).trans ((KeepsOthers.setCell _ ⟨w.heap.size + 1 + 1 + 1 + 1, 0, none⟩ (.bool true)).from W0.heap.size)
   have FIN := Aside0.mk (And.intro kk (And.intro (And.intro (And.intro k4' k5') k6) kb))
   clear c1 k4 k5 k6 k4' k5' kb kk
   gi_region
   all_goals gi_wp2
   all_goals exact ⟨⟨FIN.out.1.1, FIN.out.1.2⟩, rfl, pre, x, rfl, hP1, C1.out, FIN.out.2.1, below_drew1 FIN.out.2.2⟩
  ·have d1 : (x.1 == n) = false := by simpa using c1
   have C1 := Aside0.mk c1
   clear c1
   gi_wp2
   have c1 := C1.out
   exact ⟨KeepsFrom.refl _ _, Below.refl _ _, ⟨⟨⟨⟨bN, b4⟩, b5⟩, b6⟩, hP, hB1⟩, go c1⟩
 case done =>
  rintro D ys W hD rfl ⟨⟨⟨⟨⟨bN, b4⟩, b5⟩, b6⟩, hP, hB1⟩, hP1⟩ hK
  have e4 := b4.cell
  have e5 := b5.cell
  have e6 := b6.cell
  have f4 := b4.frozen
  have f5 := b5.frozen
  have f6 := b6.frozen
  have hof : ofF l0_1 n = (0, 0, false) := by
   unfold ofF
   rw [List.find?_eq_none.2 (fun p hp => by have := hP1 p hp; simpa using this)]
  have HN := Aside0.mk hof
  clear hof
  have k4 := b4.set (.int .i64 0)
  have k5 := (b5.other (B' := w.heap.size + 1 + 1) (by omega) (.int .i64 0)).set (.int .i64 0)
  have k6 := ((b6.other (B' := w.heap.size + 1 + 1) (by omega) (.int .i64 0)).other (B' := w.heap.size + 1 + 1 + 1) (by omega) (.int .i64 0)).set (.bool false)
  have k4' := (k4.other (B' := w.heap.size + 1 + 1 + 1) (by omega) (.int .i64 0)).other (B' := w.heap.size + 1 + 1 + 1 + 1) (by omega) (.bool false)
  have k5' := k5.other (B' := w.heap.size + 1 + 1 + 1 + 1) (by omega) (.bool false)
  have kb := ((hB1.setCell (p := ⟨w.heap.size + 1 + 1, 0, none⟩) (by simp; omega) (.int .i64 0)).setCell (p := ⟨w.heap.size + 1 + 1 + 1, 0, none⟩) (by simp; omega) (.int .i64 0)).setCell (p := ⟨w.heap.size + 1 + 1 + 1 + 1, 0, none⟩) (by simp; omega) (.bool false)
  have kk := ((KeepsOthers.setCell W ⟨w.heap.size + 1 + 1, 0, none⟩ (.int .i64 0)).trans (KeepsOthers.setCell _ ⟨w.heap.size + 1 + 1 + 1, 0, none⟩ (.int .i64 0))).trans (KeepsOthers.setCell _ ⟨w.heap.size + 1 + 1 + 1 + 1, 0, none⟩ (.bool false))
  have hK' := kk.same D _ hK rfl
  have FIN := Aside0.mk (And.intro hK' (And.intro (And.intro (And.intro k4' k5') k6) kb))
  clear k4 k5 k6 k4' k5' kb kk hK'
  gi_wp2
  refine ⟨by simp, .inl ⟨_, _, rfl, run_takeDeferred FIN.out.1, ?_⟩⟩
  have r4 := cell_kept FIN.out.2.1.1.1.cell (grownBy_putObj' _ D (.deferred none)) (fun r e => by cases e; exact ⟨_, FIN.out.1, rfl⟩)
  have r5 := cell_kept FIN.out.2.1.1.2.cell (grownBy_putObj' _ D (.deferred none)) (fun r e => by cases e; exact ⟨_, FIN.out.1, rfl⟩)
  have r6 := cell_kept FIN.out.2.1.2.cell (grownBy_putObj' _ D (.deferred none)) (fun r e => by cases e; exact ⟨_, FIN.out.1, rfl⟩)
  refine ⟨.tuple #[.int .i64 0, .int .i64 0, .bool false], ?_, by rw [HN.out], FIN.out.2.2.trans (belowK_b (w := w) (Nat.le_refl _) _ D _ _ (by omega) FIN.out.1 rfl rfl)⟩
  simp [results, Try.f13, go_sem, r4, r5, r6]
 case stop =>
  rintro D c pre W hD hpre ⟨rfl, ini, x, e1, e2, e3, ⟨⟨e4, e5⟩, e6⟩, e7⟩ hK
  have hof : ofF l0_1 n = (x.2.1, x.2.2, true) := by
   unfold ofF
   obtain ⟨s, hs⟩ := hpre
   have : (slotsFrom 0 0 l0_1).find? (fun x => x.1 == n) = some x := by
    rw [← hs, e1, List.append_assoc, List.find?_append, List.find?_eq_none.2 (fun p hp => by have := e2 p hp; simpa using this)]
    simp [e3]
   rw [this]
  have HN := Aside0.mk hof
  clear hof
  gi_wp2
  refine ⟨by simp, .inl ⟨_, _, rfl, run_takeDeferred hK, ?_⟩⟩
  have r4 := cell_kept e4.cell (grownBy_putObj' _ D (.deferred none)) (fun r e => by cases e; exact ⟨_, hK, rfl⟩)
  have r5 := cell_kept e5.cell (grownBy_putObj' _ D (.deferred none)) (fun r e => by cases e; exact ⟨_, hK, rfl⟩)
  have r6 := cell_kept e6.cell (grownBy_putObj' _ D (.deferred none)) (fun r e => by cases e; exact ⟨_, hK, rfl⟩)
  refine ⟨.tuple #[.int .i64 x.2.1, .int .i64 x.2.2, .bool true], ?_, by rw [HN.out], e7.trans (belowK_b (w := w) (Nat.le_refl _) _ D _ _ (by omega) hK rfl rfl)⟩
  simp [results, Try.f13, go_sem, r4, r5, r6]
/-- A code that is no more than may be. -/
def codeB (zs : List (List S53)) : Bool := decide (tot zs ≤ 1000000) && decide (zs.length ≤ 1000000)
theorem codeB_of {zs : List (List S53)} (h : codeB zs = true) : tot zs ≤ 1000000 ∧ zs.length ≤ 1000000 := by
 unfold codeB at h
 simpa using h
def slots_Many.f (l0_0 : List Int) (l0_1 : List (List S53)) : Option Int := if codeB l0_1 = true then some (tot l0_1 : Int) else none
def slots_Of.f (l0_0 : List Int) (l0_1 : List (List S53)) (a1 : Int) : Option (Int × Int × Bool) := if codeB l0_1 = true then some (ofF l0_1 a1) else none
def slots_Num.f (l0_0 : List Int) (l0_1 : List (List S53)) (a1 a2 : Int) : Option Int := if codeB l0_1 = true then some (numF l0_1 a1 a2) else none
theorem slots_Many.calls (A0_0 : Option Addr) (c0_0 : Nat) (l0_0 : List Int) (A0_1 : Option Addr) (c0_1 : Nat) (l0_1 : List (List S53)) (r : Int) (w : World) (hr0_0 : Kd.C (Kd.int .i64) w A0_0 l0_0.length l0_0) (hc0_0 : l0_0.length ≤ c0_0) (hr0_1 : Kd.C (Kd.slice 53 k53) w A0_1 l0_1.length l0_1) (hc0_1 : l0_1.length ≤ c0_1) (h : slots_Many.f l0_0 l0_1 = some r) :
 Calls Try.prog 17 #[.agg #[.slice A0_0 l0_0.length c0_0, .slice A0_1 l0_1.length c0_1]] w fun e w' => e = .returned (.int .i64 r) ∧ Below w.heap.size w w' := by
 unfold slots_Many.f at h
 by_cases hb : codeB l0_1 = true
 ·rw [if_pos hb] at h; obtain rfl := Option.some.inj h; exact many_calls A0_0 c0_0 l0_0.length A0_1 c0_1 l0_1 w hr0_1 (codeB_of hb).1 (codeB_of hb).2
 ·rw [if_neg hb] at h; exact absurd h (by simp)
theorem slots_Of.calls (A0_0 : Option Addr) (c0_0 : Nat) (l0_0 : List Int) (A0_1 : Option Addr) (c0_1 : Nat) (l0_1 : List (List S53)) (a1 : Int) (r1 r2 : Int) (r3 : Bool) (w : World) (hr0_0 : Kd.C (Kd.int .i64) w A0_0 l0_0.length l0_0) (hc0_0 : l0_0.length ≤ c0_0) (hr0_1 : Kd.C (Kd.slice 53 k53) w A0_1 l0_1.length l0_1) (hc0_1 : l0_1.length ≤ c0_1) (h : slots_Of.f l0_0 l0_1 a1 = some (r1, r2, r3)) :
 Calls Try.prog 13 #[.agg #[.slice A0_0 l0_0.length c0_0, .slice A0_1 l0_1.length c0_1], .int .i64 a1] w fun e w' => e = .returned (.tuple #[.int .i64 r1, .int .i64 r2, .bool r3]) ∧ Below w.heap.size w w' := by
 unfold slots_Of.f at h
 by_cases hb : codeB l0_1 = true
 ·rw [if_pos hb] at h
  have h2 := Option.some.inj h
  have := of_calls A0_0 c0_0 l0_0.length A0_1 c0_1 l0_1 a1 w hr0_1 (codeB_of hb).1 (codeB_of hb).2
  rw [h2] at this
  exact this
 ·rw [if_neg hb] at h; exact absurd h (by simp)
theorem slots_Num.calls (A0_0 : Option Addr) (c0_0 : Nat) (l0_0 : List Int) (A0_1 : Option Addr) (c0_1 : Nat) (l0_1 : List (List S53)) (a1 a2 : Int) (r : Int) (w : World) (hr0_0 : Kd.C (Kd.int .i64) w A0_0 l0_0.length l0_0) (hc0_0 : l0_0.length ≤ c0_0) (hr0_1 : Kd.C (Kd.slice 53 k53) w A0_1 l0_1.length l0_1) (hc0_1 : l0_1.length ≤ c0_1) (h : slots_Num.f l0_0 l0_1 a1 a2 = some r) :
 Calls Try.prog 19 #[.agg #[.slice A0_0 l0_0.length c0_0, .slice A0_1 l0_1.length c0_1], .int .i64 a1, .int .i64 a2] w fun e w' => e = .returned (.int .i64 r) ∧ Below w.heap.size w w' := by
 unfold slots_Num.f at h
 by_cases hb : codeB l0_1 = true
 ·rw [if_pos hb] at h; obtain rfl := Option.some.inj h; exact num_calls A0_0 c0_0 l0_0.length A0_1 c0_1 l0_1 a1 a2 w hr0_1 (codeB_of hb).1 (codeB_of hb).2
 ·rw [if_neg hb] at h; exact absurd h (by simp)
end Go.Proofs.Ytijpfonbeepmfaa.Print
