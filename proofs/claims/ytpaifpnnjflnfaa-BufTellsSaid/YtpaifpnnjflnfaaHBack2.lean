/- buf's own iterator over a row of writes, the last one first: what it does with any loop body that keeps its word. -/
import Derived.Test.YtpaifpnnjflnfaaHBack
namespace Go.Proofs.Ytpaifpnnjflnfaa.Print
open Go.RowKit Go.Shelf Go.Proofs.YtpaifpnnjflnfaaW.PrintWords Go.Proofs.YtpaifpnnjflnfaaW.PrintLast Go.Proofs.YtpaifpnnjflnfaaW.PrintMore
set_option linter.unusedVariables false
set_option linter.unusedSimpArgs false
attribute [local go_sem] Oper.semAt_some

theorem RoundIn.wideIn {m m' l2 : Nat} {P : Program} {l : Nat} {f : FuncId} {tmps : Array Value} {assign body : Code} {w : World} {R : Ending → World → Prop} (h : RoundIn Fence.wide m P l f tmps assign body w R) : RoundIn (Fence.wide.inRound l2) m' P l f tmps assign body w R :=
  ⟨h.1, fun c cs _ => h.2 c cs (room_wide _)⟩
theorem keepsFrom_of_below {B : Nat} {W W' : World} (h : Below W.heap.size W W') : KeepsFrom B W W' :=
  ⟨h.size, fun k o _ hk _ => (h.block k (Array.getElem?_eq_some_iff.1 hk).1).trans hk⟩
theorem KeepsFrom.up {B B' : Nat} {W W' : World} (h : KeepsFrom B W W') (hb : B ≤ B') : KeepsFrom B' W W' := ⟨h.size, fun k o hk => h.same k o (by omega)⟩

set_option maxHeartbeats 1000000 in
theorem backward_in (n : Nat) (A : Option Addr) (len cap : Nat) (w : World) :
    CallsIn Fence.wide n Try.prog 60 #[.slice A len cap] w fun e w' => e = .returned (.func (.func 64) #[] #[.pointer (some ⟨w.heap.size, 0, none⟩)]) ∧ w' = w.alloc (.cells #[.slice A len cap] 77) := by
  refine callsIn_of_wp Try.func60 rfl trivial ?_ rfl
  simp only [Try.ntmps60, List.size_toArray, List.length_cons, List.length_nil, Nat.reduceAdd, Nat.reduceSub, Array.replicate_succ, Array.replicate_zero, List.push_toArray, List.append_toArray, List.nil_append, List.cons_append]
  gi_wp2
  go_ret
  exact ⟨rfl, rfl⟩
set_option maxHeartbeats 1000000 in
theorem back_in (n : Nat) (A : Option Addr) (len cap : Nat) (w : World) :
    CallsIn Fence.wide n Try.prog 51 #[.slice A len cap] w fun e w' => e = .returned (.func (.func 59) #[] #[.pointer (some ⟨w.heap.size, 0, none⟩)]) ∧ w' = w.alloc (.cells #[.slice A len cap] 77) := by
  refine callsIn_of_wp Try.func51 rfl trivial ?_ rfl
  simp only [Try.ntmps51, List.size_toArray, List.length_cons, List.length_nil, Nat.reduceAdd, Nat.reduceSub, Array.replicate_succ, Array.replicate_zero, List.push_toArray, List.append_toArray, List.nil_append, List.cons_append]
  gi_wp2
  go_ret
  exact ⟨rfl, rfl⟩

set_option maxRecDepth 100000 in
set_option maxHeartbeats 4000000 in
/-- The closure of back: rounds go on at what is not P; the first that is P ends them. -/
theorem back1_in (w W2 : World) (A : Option Addr) (cap Bs l : Nat) (zs : List S51) (hlen : zs.length ≤ 1000000) (hC : Kd.C k51 w A zs.length zs) (P : S51 → Prop) (St : World → Prop) (Sx : S51 → World → Prop)
    (hSt : ∀ W, St W → Below w.heap.size w W) (hBs : Boxed W2 Bs 77 (.slice A zs.length cap)) (hwB : w.heap.size ≤ Bs)
    (oSt : OwnFrom W2.heap.size (fun (_ : Unit) W => St W)) (oSx : ∀ x, OwnFrom W2.heap.size (fun (_ : Unit) W => Sx x W))
    (hround : ∀ x W, St W → YieldAt Fence.wide 0 Try.prog l #[.agg #[.int .i64 x.f0, .int .i64 x.f1]] W fun e W' =>
      (e = .returned (.bool true) ∧ ¬ P x ∧ St W' ∧ Below W.heap.size W W') ∨ (e = .returned (.bool false) ∧ P x ∧ Sx x W' ∧ KeepsFrom W2.heap.size W W'))
    (h0 : St W2) (n : Nat) :
    CallsIn Fence.wide (n + 9) Try.prog 59 #[.func (.yield l) #[] #[], .pointer (some ⟨Bs, 0, none⟩)] W2 fun e W' => (∃ v, e = .returned v) ∧
      (((∀ p ∈ backs zs zs.length, ¬ P p.2) ∧ St W') ∨ ∃ k ini x, k ≤ zs.length ∧ backs zs k = ini ++ [x] ∧ (∀ p ∈ ini, ¬ P p.2) ∧ P x.2 ∧ Sx x.2 W') := by
  have hu := Try.underlying51
  have hB2 : Below w.heap.size w W2 := hSt W2 h0
  refine callsIn_of_wp_marks Try.func59 rfl trivial ?_ rfl
  simp only [Try.ntmps59, List.size_toArray, List.length_cons, List.length_nil, Nat.reduceAdd, Nat.reduceSub, Array.replicate_succ, Array.replicate_zero, List.push_toArray, List.append_toArray, List.nil_append, List.cons_append]
  have hcell : ∀ o, (W2.alloc o).cell? ⟨Bs, 0, none⟩ = some (.slice A zs.length cap) := fun o => (hBs.alloc o).cell
  gi_wp2_with (refine ⟨trivial, ?_⟩; gi_at_call 60; refine (backward_in (n + 9 - 1) _ _ _ _).mono ?_; rintro e w' ⟨rfl, rfl⟩)
  have bY := (Boxed.new W2 84 (.func (.yield l) #[] #[])).alloc (.cells #[.slice A zs.length cap] 77)
  have bS := Boxed.new (W2.alloc (.cells #[.func (.yield l) #[] #[]] 84)) 77 (.slice A zs.length cap)
  rw [World.size_alloc] at bS
  have hB0 : Below W2.heap.size W2 ((W2.alloc (.cells #[.func (.yield l) #[] #[]] 84)).alloc (.cells #[.slice A zs.length cap] 77)) := ((Below.refl _ W2).alloc (Nat.le_refl _) _).alloc (by simp) _
  have hSt0 : St ((W2.alloc (.cells #[.func (.yield l) #[] #[]] 84)).alloc (.cells #[.slice A zs.length cap] 77)) := oSt.alloc (s := ()) _ (oSt.alloc (s := ()) _ h0)
  have hsz : ((W2.alloc (.cells #[.func (.yield l) #[] #[]] 84)).alloc (.cells #[.slice A zs.length cap] 77)).heap.size = W2.heap.size + 2 := by simp
  obtain ⟨W0, hW0⟩ : ∃ W0, ((W2.alloc (.cells #[.func (.yield l) #[] #[]] 84)).alloc (.cells #[.slice A zs.length cap] 77)) = W0 := ⟨_, rfl⟩
  rw [hW0] at bY bS hB0 hSt0 hsz ⊢
  clear hW0
  have oSt' : OwnFrom W0.heap.size (fun (_ : List (Int × S51)) W => St W) := fun s X Y row hs hg hr => oSt () X Y row hs hg (fun r e => ⟨by have := (hr r e).1; omega, (hr r e).2⟩)
  have oSx' : ∀ x, OwnFrom W0.heap.size (fun (_ : Unit) W => Sx x W) := fun x s X Y row hs hg hr => oSx x s X Y row hs hg (fun r e => ⟨by have := (hr r e).1; omega, (hr r e).2⟩)
  refine wpIn_rangeFunc_ownH rfl (by omega) (gf := 64) (lb := #[.pointer (some ⟨W2.heap.size + 1, 0, none⟩)]) rfl trivial (enters_of Try.func64 (by kernel_rfl) rfl)
    (back_stops (n + 7) w W0 A cap (W2.heap.size + 1) W0.heap.size zs hlen hC (hB2.trans (hB0.mono hB2.size)) (by have := hB2.size; omega) (by omega) (Nat.le_refl _) bS.cell) belowK_t (belowK_b (Nat.le_refl _)) (Below.refl _ _) (fun _ => rfl)
    (fun pre W => ((St W ∧ Boxed W W2.heap.size 84 (.func (.yield l) #[] #[])) ∧ Boxed W (W2.heap.size + 1) 77 (.slice A zs.length cap)) ∧ (∀ p ∈ pre, ¬ P p.2))
    (fun c pre W => c = .ret ∧ ∃ ini x, pre = ini ++ [x] ∧ (∀ p ∈ ini, ¬ P p.2) ∧ P x.2 ∧ Sx x.2 W)
    (OwnFrom.and (OwnFrom.and (OwnFrom.and oSt' (Own.from (boxed_own _ _ _) _)) (Own.from (boxed_own _ _ _) _)) (ownFrom_pure _ (fun pre : List (Int × S51) => ∀ p ∈ pre, ¬ P p.2)))
    (fun c s X Y row hs hg hr => by obtain ⟨hc, ini, x, e1, e2, e3, e4⟩ := hs; exact ⟨hc, ini, x, e1, e2, e3, oSx' x.2 () X Y row e4 hg hr⟩)
    ⟨⟨⟨hSt0, bY⟩, bS⟩, by simp⟩
    (fun x a' W => ∃ Bx, W0.heap.size ≤ Bx ∧ W.heap[Bx]? = some (.cells #[.int .i64 x.2.f0, .int .i64 x.2.f1] 51 (0, 0)) ∧ a' = { tmps := #[.func (.yield l) #[] #[], .pointer (some ⟨Bs, 0, none⟩), .pointer (some ⟨W2.heap.size, 0, none⟩), undef, .pointer (some ⟨Bx, 0, none⟩), .slice A zs.length cap, .func (.func 64) #[] #[.pointer (some ⟨W2.heap.size + 1, 0, none⟩)], .int .i64 x.1, .agg #[.int .i64 x.2.f0, .int .i64 x.2.f1], undef, undef, undef, undef], defers := [] })
    (fun x a' _ X Y row hs hg hr => by
      obtain ⟨Bx, h1, h2, h3⟩ := hs
      refine ⟨Bx, h1, (hg.block Bx (Array.getElem?_eq_some_iff.1 h2).1 (fun e => ?_)).trans h2, h3⟩
      obtain ⟨_, o, ho, hcc⟩ := hr Bx e.symm
      rw [h2] at ho; cases ho; cases hcc)
    ?assign ?body ?done ?stop
  case assign =>
    rintro l2 pre x W K ⟨⟨⟨hSt1, bY1⟩, bS1⟩, hP1⟩ hK
    gi_wp2
    exact hK _ _ ((KeepsOthers.alloc _ _).from _) ((Below.refl _ W).alloc (by have := bS1.lt; omega) _) ⟨⟨⟨oSt'.alloc (s := []) _ hSt1, bY1.alloc _⟩, bS1.alloc _⟩, hP1⟩ ⟨W.heap.size, by have := bS1.lt; omega, World.alloc_heap_new W _, rfl⟩
  case body =>
    rintro l2 pre x a' W hl ⟨r, hr⟩ ⟨⟨⟨hSt1, bY1⟩, bS1⟩, hP1⟩ ⟨Bx, hBx, hX, rfl⟩ hlt
    have cY := bY1.cell
    have c0 : W.cell? ⟨Bx, 0, none⟩ = some (.int .i64 x.2.f0) := (blk_cell hX 0).trans rfl
    have c1 : W.cell? ⟨Bx, 1, none⟩ = some (.int .i64 x.2.f1) := (blk_cell hX 1).trans rfl
    obtain ⟨fn, tmps, assign, body, hy, hR⟩ := hround x.2 W hSt1
    gi_wp2
    refine (RoundIn.wideIn hR).mono ?_
    rintro e W3 (⟨rfl, hn, hS3, hB3⟩ | ⟨rfl, hp, hx3, hk3⟩)
    · gi_wp2
      exact ⟨keepsFrom_of_below hB3, hB3.mono (by have := bS1.lt; omega), ⟨⟨hS3, (hB3.block _ bY1.lt).trans bY1⟩, (hB3.block _ bS1.lt).trans bS1⟩, by
        intro p hp
        rcases List.mem_append.1 hp with h | h
        · exact hP1 p h
        · simp at h; subst h; exact hn⟩
    · gi_wp2
      exact ⟨KeepsFrom.up hk3 (by omega), rfl, pre, x, rfl, hP1, hp, hx3⟩
  case done =>
    rintro D ys W hD rfl ⟨⟨⟨hSt1, bY1⟩, bS1⟩, hP1⟩ hK
    gi_wp2
    refine ⟨by simp, .inl ⟨_, _, rfl, run_takeDeferred hK, ?_⟩⟩
    exact ⟨_, results_none rfl _ _ _, ⟨_, rfl⟩, .inl ⟨hP1, oSt'.putObj (s := []) _ hSt1 hD hK rfl⟩⟩
  case stop =>
    rintro D c pre W hD ⟨k, hk, rfl⟩ ⟨rfl, ini, x, e1, e2, e3, e4⟩ hK
    gi_wp2
    refine ⟨by simp, .inl ⟨_, _, rfl, run_takeDeferred hK, ?_⟩⟩
    exact ⟨_, results_none rfl _ _ _, ⟨_, rfl⟩, .inr ⟨k, ini, x, hk, e1, e2, e3, (oSx' x.2).putObj (s := ()) _ e4 hD hK rfl⟩⟩
end Go.Proofs.Ytpaifpnnjflnfaa.Print
