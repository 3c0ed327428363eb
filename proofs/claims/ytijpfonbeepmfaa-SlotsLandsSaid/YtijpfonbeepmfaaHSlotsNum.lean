/- slots.Num: its Lean function and its contract. -/
import Derived.Test.YtijpfonbeepmfaaHSlotsAll
import Derived.ChangeKeysEq
namespace Go.Proofs.Ytijpfonbeepmfaa.Print
open Go.RowKit Go.Shelf Go.Proofs.YtijpfonbeepmfaaW.PrintWords Go.Proofs.YtijpfonbeepmfaaW.PrintLast Go.Proofs.YtijpfonbeepmfaaW.PrintMore
set_option linter.unusedVariables false
set_option linter.unusedSimpArgs false
attribute [local go_sem] Oper.semAt_some
set_option maxHeartbeats 1000000 in
theorem all_in (n : Nat) (A0 A1 : Option Addr) (l0 c0 l1 c1 : Nat) (w : World) :
 CallsIn Fence.wide n Try.prog 34 #[.agg #[.slice A0 l0 c0, .slice A1 l1 c1]] w fun e w' => e = .returned (.func (.func 49) #[] #[.pointer (some ⟨w.heap.size, 0, none⟩)]) ∧ w' = w.alloc (.cells #[.slice A0 l0 c0, .slice A1 l1 c1] 25) := by
 refine callsIn_of_wp Try.func34 rfl trivial ?_ rfl
 simp only [Try.ntmps34, List.size_toArray, List.length_cons, List.length_nil, Nat.reduceAdd, Nat.reduceSub, Array.replicate_succ, Array.replicate_zero, List.push_toArray, List.append_toArray, List.nil_append, List.cons_append]
 gi_wp2
 go_ret
 exact ⟨rfl, rfl⟩
/-- A step's number; -1: there is none. -/
def numF (zs : List (List S53)) (t a : Int) : Int := match (slotsFrom 0 0 zs).find? (fun x => x.2.1 == t && x.2.2 == a) with | some x => x.1 | none => -1
/-- Blocks of cells that lie as they lay. -/
theorem blk_own (B : Nat) (cs : Array Value) (t : TypeId) : Own (fun (_ : Unit) W => W.heap[B]? = some (.cells cs t (0, 0))) := fun s X Y row hs hg hr =>
 (hg.block B (Array.getElem?_eq_some_iff.1 hs).1 (fun e => by obtain ⟨o, ho, hc⟩ := hr B e.symm; rw [hs] at ho; cases ho; cases hc)).trans hs
/-- Two pairs alike. -/
theorem eq_two (x y u v : Int) (W : World) : (Op.equalIn 10000 69 (.agg #[.int .i64 x, .int .i64 y]) (.agg #[.int .i64 u, .int .i64 v])).run Try.prog W = .ok ((x == u) && (y == v)) W := by
 have h116 : Try.prog.underlying 69 = some (.array 2 3) := by kernel_rfl
 have h3 : Try.prog.underlying 3 = some (.int .i64) := Try.underlying3
 obtain ⟨i, hi⟩ : ∃ i, Try.prog.info? 3 = some i := by
  have : (Try.prog.info? 3).isSome = true := by kernel_rfl
  exact Option.isSome_iff_exists.1 this
 have hc : Try.prog.cellsOf 3 = 1 := by kernel_rfl
 rw [show (10000 : Nat) = 9999 + 1 from rfl, run_equalIn_array W 9999 _ _ h116 hi, hc, show List.range 2 = [0, 1] from rfl]
 have hp : ∀ (a b : Int) (W : World), (part 3 #[.int .i64 a, .int .i64 b] (0 * 1)).run Try.prog W = .ok (.int .i64 a) W := fun a b W => by kernel_rfl
 have hq : ∀ (a b : Int) (W : World), (part 3 #[.int .i64 a, .int .i64 b] (1 * 1)).run Try.prog W = .ok (.int .i64 b) W := fun a b W => by kernel_rfl
 have hq1 : ∀ (a b : Int) (W : World), (part 3 #[.int .i64 a, .int .i64 b] 1).run Try.prog W = .ok (.int .i64 b) W := fun a b W => by kernel_rfl
 have he : ∀ (a b : Int) (W : World), (Op.equalIn 9999 3 (.int .i64 a) (.int .i64 b)).run Try.prog W = .ok (a == b) W := fun a b W => run_equalIn_int W 9998 3 .i64 .i64 a b h3
 simp only [Op.eqItems, Sem.run_bind, hp, hq, hq1, he, Result.andThen_ok, Sem.run_pure]
 by_cases c : x = u
 ·by_cases d : y = v
  ·simp [c, d, hq1, he]
  ·simp [c, d, hq1, he]
 ·simp [c, hq1, he]
set_option maxRecDepth 100000 in
set_option maxHeartbeats 4000000 in
theorem num_calls (A0_0 : Option Addr) (c0_0 : Nat) (n0 : Nat) (A0_1 : Option Addr) (c0_1 : Nat) (l0_1 : List (List S53)) (t a : Int) (w : World) (hr0_1 : Kd.C (Kd.slice 53 k53) w A0_1 l0_1.length l0_1) (hlen : tot l0_1 ≤ 1000000) (hlen2 : l0_1.length ≤ 1000000) :
 Calls Try.prog 19 #[.agg #[.slice A0_0 n0 c0_0, .slice A0_1 l0_1.length c0_1], .int .i64 t, .int .i64 a] w fun e w' => e = .returned (.int .i64 (numF l0_1 t a)) ∧ Below w.heap.size w w' := by
 have hu := Try.underlying25
 refine (callsIn_wide (n := 20)).1 ?_
 refine callsIn_of_wp_marks Try.func19 rfl trivial ?_ rfl
 simp only [Try.ntmps19, List.size_toArray, List.length_cons, List.length_nil, Nat.reduceAdd, Nat.reduceSub, Array.replicate_succ, Array.replicate_zero, List.push_toArray, List.append_toArray, List.nil_append, List.cons_append]
 gi_wp2_with (refine ⟨trivial, ?_⟩; gi_at_call 34; refine (all_in 19 _ _ _ _ _ _ _).mono ?_; rintro e w' ⟨rfl, rfl⟩)
 have bT := (((Boxed.new (w.alloc (.cells #[.slice A0_0 n0 c0_0, .slice A0_1 l0_1.length c0_1] 25)) 3 (.int .i64 t)).alloc (.cells #[.int .i64 a] 3)).alloc (.cells #[.int .i64 0] 3)).alloc (.cells #[.slice A0_0 n0 c0_0, .slice A0_1 l0_1.length c0_1] 25)
 have bA := ((Boxed.new ((w.alloc (.cells #[.slice A0_0 n0 c0_0, .slice A0_1 l0_1.length c0_1] 25)).alloc (.cells #[.int .i64 t] 3)) 3 (.int .i64 a)).alloc (.cells #[.int .i64 0] 3)).alloc (.cells #[.slice A0_0 n0 c0_0, .slice A0_1 l0_1.length c0_1] 25)
 have bR := (Boxed.new (((w.alloc (.cells #[.slice A0_0 n0 c0_0, .slice A0_1 l0_1.length c0_1] 25)).alloc (.cells #[.int .i64 t] 3)).alloc (.cells #[.int .i64 a] 3)) 3 (.int .i64 0)).alloc (.cells #[.slice A0_0 n0 c0_0, .slice A0_1 l0_1.length c0_1] 25)
 have hP := World.alloc_heap_new ((((w.alloc (.cells #[.slice A0_0 n0 c0_0, .slice A0_1 l0_1.length c0_1] 25)).alloc (.cells #[.int .i64 t] 3)).alloc (.cells #[.int .i64 a] 3)).alloc (.cells #[.int .i64 0] 3)) (.cells #[.slice A0_0 n0 c0_0, .slice A0_1 l0_1.length c0_1] 25)
 have hB0 : Below w.heap.size w (((((w.alloc (.cells #[.slice A0_0 n0 c0_0, .slice A0_1 l0_1.length c0_1] 25)).alloc (.cells #[.int .i64 t] 3)).alloc (.cells #[.int .i64 a] 3)).alloc (.cells #[.int .i64 0] 3)).alloc (.cells #[.slice A0_0 n0 c0_0, .slice A0_1 l0_1.length c0_1] 25)) := (((((Below.refl _ w).alloc (Nat.le_refl _) _).alloc (by simp) _).alloc (by simp; omega) _).alloc (by simp; omega) _).alloc (by simp; omega) _
 have hsz : (((((w.alloc (.cells #[.slice A0_0 n0 c0_0, .slice A0_1 l0_1.length c0_1] 25)).alloc (.cells #[.int .i64 t] 3)).alloc (.cells #[.int .i64 a] 3)).alloc (.cells #[.int .i64 0] 3)).alloc (.cells #[.slice A0_0 n0 c0_0, .slice A0_1 l0_1.length c0_1] 25)).heap.size = w.heap.size + 5 := by simp
 simp only [World.size_alloc] at bT bA bR hP
 obtain ⟨W0, hW0⟩ : ∃ W0, (((((w.alloc (.cells #[.slice A0_0 n0 c0_0, .slice A0_1 l0_1.length c0_1] 25)).alloc (.cells #[.int .i64 t] 3)).alloc (.cells #[.int .i64 a] 3)).alloc (.cells #[.int .i64 0] 3)).alloc (.cells #[.slice A0_0 n0 c0_0, .slice A0_1 l0_1.length c0_1] 25)) = W0 := ⟨_, rfl⟩
 rw [hW0] at bT bA bR hP hB0 hsz ⊢
 clear hW0
 refine wpIn_rangeFunc_ownH rfl (by omega) (gf := 49) (lb := #[.pointer (some ⟨w.heap.size + 1 + 1 + 1 + 1, 0, none⟩)]) rfl trivial (enters_of Try.func49 (by kernel_rfl) rfl)
  (all_stops 18 w W0 A0_0 A0_1 _ _ c0_1 (w.heap.size + 1 + 1 + 1 + 1) W0.heap.size l0_1 hlen hlen2 hr0_1 hB0 (by omega) (by omega) (Nat.le_refl _) ((blk_cell hP 0).trans rfl) ((blk_cell hP 1).trans rfl)) belowK_t (belowK_b (Nat.le_refl _)) (Below.refl _ _) (fun _ => rfl)
  (fun pre W => (((Boxed W (w.heap.size + 1) 3 (.int .i64 t) ∧ Boxed W (w.heap.size + 1 + 1) 3 (.int .i64 a)) ∧ Boxed W (w.heap.size + 1 + 1 + 1) 3 (.int .i64 0)) ∧ (W.heap[w.heap.size + 1 + 1 + 1 + 1]? = some (.cells #[.slice A0_0 n0 c0_0, .slice A0_1 l0_1.length c0_1] 25 (0, 0)) ∧ Below w.heap.size w W)) ∧ (∀ p ∈ pre, ¬ (p.2.1 = t ∧ p.2.2 = a)))
  (fun c pre W => c = .ret ∧ ∃ ini x, pre = ini ++ [x] ∧ (∀ p ∈ ini, ¬ (p.2.1 = t ∧ p.2.2 = a)) ∧ (x.2.1 = t ∧ x.2.2 = a) ∧ Boxed W (w.heap.size + 1 + 1 + 1) 3 (.int .i64 x.1) ∧ Below w.heap.size w W)
  (OwnFrom.and (OwnFrom.and (OwnFrom.and (OwnFrom.and (Own.from (boxed_own _ _ _) _) (Own.from (boxed_own _ _ _) _)) (Own.from (boxed_own _ _ _) _)) (OwnFrom.and (Own.from (fun s => blk_own _ _ _ ()) _) (ownFrom_below (Nat.le_refl _) (by omega)))) (ownFrom_pure _ (fun pre : List (Int × Int × Int) => ∀ p ∈ pre, ¬ (p.2.1 = t ∧ p.2.2 = a))))
  (fun c s X Y row hs hg hr => by obtain ⟨hc, ini, x, e1, e2, e3, e4, e5⟩ := hs; exact ⟨hc, ini, x, e1, e2, e3, boxed_own _ _ (fun (_ : Unit) => Value.int .i64 x.1) () X Y row e4 hg (fun r e => (hr r e).2), ownFrom_below (Nat.le_refl _) (by omega) () X Y row e5 hg hr⟩)
  ⟨⟨⟨⟨bT, bA⟩, bR⟩, hP, hB0⟩, by simp⟩
  (fun x a' W => ∃ Bx, W0.heap.size ≤ Bx ∧ W.heap[Bx]? = some (.cells #[.int .i64 x.2.1, .int .i64 x.2.2] 69 (0, 0)) ∧ a' = { tmps := #[.agg #[.slice A0_0 n0 c0_0, .slice A0_1 l0_1.length c0_1], .int .i64 t, .int .i64 a, .pointer (some ⟨w.heap.size, 0, none⟩), .pointer (some ⟨w.heap.size + 1, 0, none⟩), .pointer (some ⟨w.heap.size + 1 + 1, 0, none⟩), .pointer (some ⟨w.heap.size + 1 + 1 + 1, 0, none⟩), .int .i64 x.1, .pointer (some ⟨Bx, 0, none⟩), .agg #[.slice A0_0 n0 c0_0, .slice A0_1 l0_1.length c0_1], .func (.func 49) #[] #[.pointer (some ⟨w.heap.size + 1 + 1 + 1 + 1, 0, none⟩)], .int .i64 x.1, .agg #[.int .i64 x.2.1, .int .i64 x.2.2], undef, undef, undef, undef, undef, undef], defers := [] })
  (fun x a' s X Y row hs hg hr => by obtain ⟨Bx, h1, h2, h3⟩ := hs; exact ⟨Bx, h1, blk_own Bx _ _ () X Y row h2 hg (fun r e => (hr r e).2), h3⟩)
  ?assign ?body ?done ?stop
 case assign =>
  rintro l2 pre x W K ⟨⟨⟨⟨cT, cA⟩, cR⟩, cP, hB1⟩, hP1⟩ hK
  gi_wp2
  have hW0 : W0.heap.size ≤ W.heap.size := by have := (Array.getElem?_eq_some_iff.1 cP).1; omega
  exact hK _ _ ((KeepsOthers.alloc _ _).from _) ((Below.refl _ W).alloc hW0 _) ⟨⟨⟨⟨cT.alloc _, cA.alloc _⟩, cR.alloc _⟩, (Below.heap_alloc W _ _ (Array.getElem?_eq_some_iff.1 cP).1).trans cP, hB1.alloc hB1.size _⟩, hP1⟩ ⟨W.heap.size, hW0, World.alloc_heap_new W _, rfl⟩
 case body =>
  rintro l2 pre x a' W hl ⟨r, hr⟩ ⟨⟨⟨⟨cT, cA⟩, cR⟩, cP, hB1⟩, hP1⟩ ⟨Bx, hBx, hX, rfl⟩ hlt
  have eT := cT.cell
  have eA := cA.cell
  have eR := cR.cell
  have fR := cR.frozen
  have x0 : W.cell? ⟨Bx, 0, none⟩ = some (.int .i64 x.2.1) := (blk_cell hX 0).trans rfl
  have x1 : W.cell? ⟨Bx, 1, none⟩ = some (.int .i64 x.2.2) := (blk_cell hX 1).trans rfl
  have hq2 := eq_two x.2.1 x.2.2 t a
  have go : ∀ (h : ¬ (x.2.1 = t ∧ x.2.2 = a)), ∀ p ∈ pre ++ [x], ¬ (p.2.1 = t ∧ p.2.2 = a) := fun h p hp => by
   rcases List.mem_append.1 hp with h1 | h1
   ·exact hP1 p h1
   ·simp at h1; subst h1; exact h
  by_cases c1 : x.2.1 = t
  ·have d1 : (x.2.1 == t) = true := by simpa using c1
   have C1 := Aside0.mk c1
   clear c1
   by_cases c2 : x.2.2 = a
   ·have d2 : (x.2.2 == a) = true := by simpa using c2
    have C2 := Aside0.mk c2
    clear c2
    gi_wp2
    have c1 := C1.out
    have c2 := C2.out
    exact ⟨(KeepsOthers.setCell _ _ _).from _, rfl, pre, x, rfl, hP1, ⟨c1, c2⟩, cR.set _, hB1.setCell (p := ⟨w.heap.size + 1 + 1 + 1, 0, none⟩) (by simp; omega) _⟩
   ·have d2 : (x.2.2 == a) = false := by simpa using c2
    have C2 := Aside0.mk c2
    clear c2
    gi_wp2
    have c2 := C2.out
    exact ⟨KeepsFrom.refl _ _, Below.refl _ _, ⟨⟨⟨cT, cA⟩, cR⟩, cP, hB1⟩, go (fun h => c2 h.2)⟩
  ·have d1 : (x.2.1 == t) = false := by simpa using c1
   have C1 := Aside0.mk c1
   clear c1
   gi_wp2
   have c1 := C1.out
   exact ⟨KeepsFrom.refl _ _, Below.refl _ _, ⟨⟨⟨cT, cA⟩, cR⟩, cP, hB1⟩, go (fun h => c1 h.1)⟩
 case done =>
  rintro D ys W hD rfl ⟨⟨⟨⟨cT, cA⟩, cR⟩, cP, hB1⟩, hP1⟩ hK
  have eR := cR.cell
  have fR := cR.frozen
  have hnum : numF l0_1 t a = -1 := by
   unfold numF
   rw [List.find?_eq_none.2 (fun p hp => by have := hP1 p hp; simpa using this)]
  have HN := Aside0.mk hnum
  clear hnum
  gi_wp2
  have m := cR.set (.int .i64 (-1))
  have hK' := (KeepsOthers.setCell W ⟨w.heap.size + 1 + 1 + 1, 0, none⟩ (.int .i64 (-1))).same D _ hK rfl
  refine ⟨by simp, .inl ⟨_, _, rfl, run_takeDeferred hK', ?_⟩⟩
  have hr5 := cell_kept m.cell (grownBy_putObj' _ D (.deferred none)) (fun r e => by cases e; exact ⟨_, hK', rfl⟩)
  refine ⟨.int .i64 (-1), ?_, by rw [HN.out], (hB1.setCell (p := ⟨w.heap.size + 1 + 1 + 1, 0, none⟩) (by simp; omega) _).trans (belowK_b (w := w) (Nat.le_refl _) _ D _ _ (by omega) hK' rfl rfl)⟩
  simp [results, Try.f19, go_sem, hr5]
 case stop =>
  rintro D c pre W hD hpre ⟨rfl, ini, x, e1, e2, e3, e4, e5⟩ hK
  have hnum : numF l0_1 t a = x.1 := by
   unfold numF
   obtain ⟨s, hs⟩ := hpre
   have : (slotsFrom 0 0 l0_1).find? (fun x => x.2.1 == t && x.2.2 == a) = some x := by
    rw [← hs, e1, List.append_assoc, List.find?_append, List.find?_eq_none.2 (fun p hp => by have := e2 p hp; simpa using this)]
    simp [e3.1, e3.2]
   rw [this]
  have HN := Aside0.mk hnum
  clear hnum
  gi_wp2
  refine ⟨by simp, .inl ⟨_, _, rfl, run_takeDeferred hK, ?_⟩⟩
  have hr5 := cell_kept e4.cell (grownBy_putObj' _ D (.deferred none)) (fun r e => by cases e; exact ⟨_, hK, rfl⟩)
  refine ⟨.int .i64 x.1, ?_, by rw [HN.out], e5.trans (belowK_b (w := w) (Nat.le_refl _) _ D _ _ (by omega) hK rfl rfl)⟩
  simp [results, Try.f19, go_sem, hr5]
end Go.Proofs.Ytijpfonbeepmfaa.Print
