-- Written by ownprint.py (this session's) with the kit's print.py: functions, contracts, rows; Lean checks it.
/- Short names for what the print spells out often: where a cell that is read lies; that blocks, rows and worlds are what they were behind what was made and drawn. -/
import Derived.Test.YtijpfonbeepmfaaPrint0
section
namespace Go.Proofs.Ytijpfonbeepmfaa.Print
open Go.RowKit Go.Proofs.YtijpfonbeepmfaaW.PrintWords Go.Proofs.YtijpfonbeepmfaaW.PrintLast Go.Proofs.YtijpfonbeepmfaaW.PrintMore
attribute [local go_sem] max2_int min2_int max_two min_two max_three min_three max_four min_four   -- for this text's walks alone
set_option linter.unusedVariables false
set_option linter.unusedSimpArgs false
theorem eqA53 (d : Nat) (w : World) (x0 y0 : Int) (x1 y1 : Int) (x2 y2 : Int) (x3 y3 : Int) (x4 y4 : Int) :
 (Op.equalIn (d + 2) 53 (.agg #[.int .i64 x0, .int .i64 x1, .int .i64 x2, .int .i64 x3, .int .i64 x4]) (.agg #[.int .i64 y0, .int .i64 y1, .int .i64 y2, .int .i64 y3, .int .i64 y4])).run Try.prog w = .ok (x0 == y0 && (x1 == y1 && (x2 == y2 && (x3 == y3 && (x4 == y4))))) w := by
 refine eqA_of Try.underlying53 (by kernel_rfl) ?_
 refine eqf_cons (by rfl) (by go_simp; rfl) (by go_simp; rfl) (by go_simp) ?_
 refine eqf_cons (by rfl) (by go_simp; rfl) (by go_simp; rfl) (by go_simp) ?_
 refine eqf_cons (by rfl) (by go_simp; rfl) (by go_simp; rfl) (by go_simp) ?_
 refine eqf_cons (by rfl) (by go_simp; rfl) (by go_simp; rfl) (by go_simp) ?_
 exact eqf_last (by rfl) (by go_simp; rfl) (by go_simp; rfl) (by go_simp)
end Go.Proofs.Ytijpfonbeepmfaa.Print
end
section
namespace Go.Proofs.Ytijpfonbeepmfaa.Print
open Go.RowKit Go.Proofs.YtijpfonbeepmfaaW.PrintWords Go.Proofs.YtijpfonbeepmfaaW.PrintLast Go.Proofs.YtijpfonbeepmfaaW.PrintMore
set_option linter.unusedVariables false
theorem bk_ {w : World} {p : Addr} {b g : Nat} {u : Value} (h : w.cell? p = some u) (hg : w.heap.size ≤ g) (e : p.block = b := by first | rfl | exact add_block _ _) : b < g := by
 rw [← e]; exact Nat.lt_of_lt_of_le (World.block_lt_of_cell? _ _ h) hg
/-- A row of Bools, told by a number. -/
def lb_ (n m : Nat) : Array Bool := ((List.range n).map fun i => m.testBit i).toArray
section
variable {w W W1 : World} {g k : Nat} {o : Obj}
theorem bd_ (h : w.heap[g]? = some o) (d : Below w.heap.size w W := by (with_reducible repeat (first | refine pw_below_drewN ?_ _ | refine below_drew1 ?_ | refine below_alloc ?_ _)); exact Below.refl _ _) : W.heap[g]? = some o := blk_below h d
theorem bb_ (h : w.heap[g]? = some o) (hb : Below W.heap.size W W1) (d : Below w.heap.size w W := by (with_reducible repeat (first | refine pw_below_drewN ?_ _ | refine below_drew1 ?_ | refine below_alloc ?_ _)); exact Below.refl _ _) : W1.heap[g]? = some o := blk_below (blk_below h d) hb
theorem fb_ (h : w.heap[g]? = some o) (k : Nat) (hk : W.heap.size ≤ k) (d : Below w.heap.size w W := by (with_reducible repeat (first | refine pw_below_drewN ?_ _ | refine below_drew1 ?_ | refine below_alloc ?_ _)); exact Below.refl _ _) : k ≠ g := Kd.freshB (blk_below h d) k hk
theorem hb_ {s : Nat} {x : World} (h : Below s x w) (d : ∀ y : World, Below s x w → Below s x W := by intro _ HB; repeat (first | (with_reducible first | exact HB | apply below_alloc | apply pw_below_drewN | apply below_drew1 | refine below_set ?_ (Aside0.out (by assumption))) | exact HB)) : Below s x W := d x h
theorem cl_ {a : Addr} {v : Value} (hb : Below w.heap.size w W) (h : w.cell? a = some v) : W.cell? a = some v := (hb.cell (World.block_lt_of_cell? w _ h)).trans h
theorem nl_ {a b k : Nat} (h : a ≤ b) (hs : k < a) : k ≠ b := fun e => Nat.not_le.2 hs (by rw [e]; exact h)
theorem gs_ {x : World} (hg : g = W.heap.size) (h : Below x.heap.size x W) : x.heap.size ≤ g := by rw [hg]; exact below_size h
theorem gn_ {g' : Nat} (hg : g' = W.heap.size) (h : w.heap[g]? = some o) (d : Below w.heap.size w W := by (with_reducible repeat (first | refine pw_below_drewN ?_ _ | refine below_drew1 ?_ | refine below_alloc ?_ _)); exact Below.refl _ _) : g ≠ g' := by rw [hg]; exact Nat.ne_of_lt (blk_lt (blk_below h d))
theorem rf_ {p : Prop} (h : p := by first | rfl | (simp; done) | (simp [*]; done)) : p := h
theorem bf5_ {g' : Nat} {t : TypeId} {cs : Array Value} {i0 i1 i2 i3 i4 : Nat} {u0 u1 u2 u3 u4 : Value} (h : w.heap[g]? = some (.cells cs t (0, 0))) (hn : g ≠ g') (d2 : Below (((((W.setCell ⟨g', i0, none⟩ u0).setCell ⟨g', i1, none⟩ u1).setCell ⟨g', i2, none⟩ u2).setCell ⟨g', i3, none⟩ u3).setCell ⟨g', i4, none⟩ u4).heap.size (((((W.setCell ⟨g', i0, none⟩ u0).setCell ⟨g', i1, none⟩ u1).setCell ⟨g', i2, none⟩ u2).setCell ⟨g', i3, none⟩ u3).setCell ⟨g', i4, none⟩ u4) W1 := by (with_reducible repeat (first | refine pw_below_drewN ?_ _ | refine below_drew1 ?_ | refine below_alloc ?_ _)); exact Below.refl _ _) (d : Below w.heap.size w W := by (with_reducible repeat (first | refine pw_below_drewN ?_ _ | refine below_drew1 ?_ | refine below_alloc ?_ _)); exact Below.refl _ _) : W1.heap[g]? = some (.cells cs t (0, 0)) :=
 blk_below (blk_far (blk_far (blk_far (blk_far (blk_far (blk_below h d) hn _) hn _) hn _) hn _) hn _) d2
theorem bp5_ {t : TypeId} {a0 a1 a2 a3 a4 u0 u1 u2 u3 u4 : Value} (h : w.heap[g]? = some (.cells #[a0, a1, a2, a3, a4] t (0, 0))) (d2 : Below (((((W.setCell ⟨g, 0, none⟩ u0).setCell ⟨g, 1, none⟩ u1).setCell ⟨g, 2, none⟩ u2).setCell ⟨g, 3, none⟩ u3).setCell ⟨g, 4, none⟩ u4).heap.size (((((W.setCell ⟨g, 0, none⟩ u0).setCell ⟨g, 1, none⟩ u1).setCell ⟨g, 2, none⟩ u2).setCell ⟨g, 3, none⟩ u3).setCell ⟨g, 4, none⟩ u4) W1 := by (with_reducible repeat (first | refine pw_below_drewN ?_ _ | refine below_drew1 ?_ | refine below_alloc ?_ _)); exact Below.refl _ _) (d : Below w.heap.size w W := by (with_reducible repeat (first | refine pw_below_drewN ?_ _ | refine below_drew1 ?_ | refine below_alloc ?_ _)); exact Below.refl _ _) : W1.heap[g]? = some (.cells #[u0, u1, u2, u3, u4] t (0, 0)) :=
 blk_below (blk_put (blk_put (blk_put (blk_put (blk_put (blk_below h d) 0 _ rfl) 1 _ rfl) 2 _ rfl) 3 _ rfl) 4 _ rfl) d2
theorem as_ {p : Prop} (h : p := by first | (with_reducible assumption) | assumption) : p := h
theorem ar_ {p : Prop} (h : p := by (try simp only [List.map_toArray, List.map_cons, List.map_nil]); first | done | rfl | (simp only [List.length_drop, List.length_take]; rfl)) : p := h
end
section
variable {α : Type} {d : Kd α} {e base : Nat} {ok : Nat → Prop} {w W : World} {v : Value} {xs : List α} {A : Option Addr} {n : Nat}
theorem vd_ (h : Kd.V d e w base ok v xs) (b : Below w.heap.size w W := by (with_reducible repeat (first | refine pw_below_drewN ?_ _ | refine below_drew1 ?_ | refine below_alloc ?_ _)); exact Below.refl _ _) : Kd.V d e W base ok v xs := Kd.V_below h b
theorem rd_ (h : Kd.R d e w base ok v xs) (b : Below w.heap.size w W := by (with_reducible repeat (first | refine pw_below_drewN ?_ _ | refine below_drew1 ?_ | refine below_alloc ?_ _)); exact Below.refl _ _) : Kd.R d e W base ok v xs := Kd.R_below h b
theorem sd_ (h : Kd.S d e w base ok v xs) (b : Below w.heap.size w W := by (with_reducible repeat (first | refine pw_below_drewN ?_ _ | refine below_drew1 ?_ | refine below_alloc ?_ _)); exact Below.refl _ _) : Kd.S d e W base ok v xs := Kd.S_below h b
theorem cd_ (h : Kd.C d w A n xs) (b : Below w.heap.size w W := by (with_reducible repeat (first | refine pw_below_drewN ?_ _ | refine below_drew1 ?_ | refine below_alloc ?_ _)); exact Below.refl _ _) : Kd.C d W A n xs := Kd.C_below h b
end
end Go.Proofs.Ytijpfonbeepmfaa.Print
end
