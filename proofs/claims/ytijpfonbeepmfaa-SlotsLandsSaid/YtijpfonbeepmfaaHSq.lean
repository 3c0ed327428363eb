/- Short names for what the print spells out often: where a cell that is read lies; that blocks, rows and worlds are what they were behind what was made and drawn. -/
import Derived.Test.YtijpfonbeepmfaaPrint0
import Derived.Laws.Cover1
namespace Go.Proofs.Ytijpfonbeepmfaa.Print
open Go.RowKit Go.Proofs.YtijpfonbeepmfaaW.PrintWords Go.Proofs.YtijpfonbeepmfaaW.PrintLast Go.Proofs.YtijpfonbeepmfaaW.PrintMore
set_option linter.unusedVariables false
theorem bl_eq : ∀ (x y : List UInt8), Op.bytesLess x y = decide (x < y)
 | [], [] => by simp [Op.bytesLess]
 | _ :: _, [] => by simp [Op.bytesLess]
 | [], _ :: _ => by simp [Op.bytesLess]
 | a :: x, b :: y => by
  rw [Op.bytesLess, bl_eq x y]
  simp only [List.cons_lt_cons_iff]
  by_cases h1 : a < b <;> by_cases h2 : a = b <;> by_cases h3 : x < y <;> simp [h1, h2, h3]
theorem lt_asym (a b : List UInt8) : Op.bytesLess b a = false ↔ (Op.bytesLess a b || a == b) = true := by
 rw [bl_eq, bl_eq]
 simp only [decide_eq_false_iff_not, Bool.or_eq_true, decide_eq_true_eq, beq_iff_eq, List.not_lt]
 rw [List.le_iff_lt_or_eq]
theorem leqF {a b : List UInt8} (h : Op.bytesLess b a = false) : (Op.bytesLess a b || a == b) = true := (lt_asym a b).1 h
theorem leqT {a b : List UInt8} (h : Op.bytesLess b a = true) : (Op.bytesLess a b || a == b) = false := by
 cases c : (Op.bytesLess a b || a == b) with
 | false => rfl
 | true => rw [(lt_asym a b).2 c] at h; exact absurd h (by simp)
theorem leqN (a b : List UInt8) : (Op.bytesLess a b || a == b) = !(Op.bytesLess b a) := by
 cases h : Op.bytesLess b a with
 | true => exact leqT h
 | false => exact leqF h
theorem emp_ (l : List UInt8) : l.isEmpty = !(l != []) := by cases l <;> rfl
theorem bk_ {w : World} {p : Addr} {b g : Nat} {u : Value} (h : w.cell? p = some u) (hg : w.heap.size ≤ g) (e : p.block = b := by first | rfl | exact add_block _ _) : b < g := by
 rw [← e]; exact Nat.lt_of_lt_of_le (World.block_lt_of_cell? _ _ h) hg
/-- A row of Bools, told by a number. -/
def lb_ (n m : Nat) : Array Bool := ((List.range n).map fun i => m.testBit i).toArray
section
variable {w W W1 : World} {g k : Nat} {o : Obj}
theorem bd_ (h : w.heap[g]? = some o) (d : Below w.heap.size w W := by (with_reducible repeat (first | refine pw_below_drewN ?_ _ | refine below_drew1 ?_ | refine below_alloc ?_ _)); first | exact Below.refl _ _ | exact ⟨rfl, rfl, rfl, Nat.le_refl _, fun _ _ => rfl⟩) : W.heap[g]? = some o := blk_below h d
theorem bb_ (h : w.heap[g]? = some o) (hb : Below W.heap.size W W1) (d : Below w.heap.size w W := by (with_reducible repeat (first | refine pw_below_drewN ?_ _ | refine below_drew1 ?_ | refine below_alloc ?_ _)); first | exact Below.refl _ _ | exact ⟨rfl, rfl, rfl, Nat.le_refl _, fun _ _ => rfl⟩) : W1.heap[g]? = some o := blk_below (blk_below h d) hb
theorem hb_ {s : Nat} {x : World} (h : Below s x w) (d : ∀ y : World, Below s x w → Below s x W := by intro _ HB; repeat (first | (with_reducible first | exact HB | apply below_alloc | apply pw_below_drewN | apply below_drew1 | refine below_set ?_ (Aside0.out (by assumption))) | exact HB)) : Below s x W := d x h
theorem cl_ {a : Addr} {v : Value} (hb : Below w.heap.size w W) (h : w.cell? a = some v) : W.cell? a = some v := (hb.cell (World.block_lt_of_cell? w _ h)).trans h
theorem ne_ {x : Addr} {b : Nat} (h : b ≠ g) (e : x.block = b := by first | rfl | exact add_block _ _) : x.block ≠ g := by rw [e]; exact h
theorem st_drewN (w : World) (n : Nat) (p : Addr) (u : Value) : (w.drewN n).setCell p u = (w.setCell p u).drewN n := by
 unfold World.setCell World.drewN
 rfl
theorem cd_drewN (w : World) (n : Nat) (a : Addr) : (w.drewN n).cell? a = w.cell? a := rfl
theorem hy5_ {p0 p1 p2 p3 p4 : Addr} {u0 u1 u2 u3 u4 : Value} {a : Addr} {v : Value} (h : (((((w.setCell p0 u0).setCell p1 u1).setCell p2 u2).setCell p3 u3).setCell p4 u4).cell? a = some v) (n : Nat) : ((((((w.drewN n).setCell p0 u0).setCell p1 u1).setCell p2 u2).setCell p3 u3).setCell p4 u4).cell? a = some v := by
 rw [st_drewN, st_drewN, st_drewN, st_drewN, st_drewN, cd_drewN]; exact h
theorem hy6_ {p0 p1 p2 p3 p4 p5 : Addr} {u0 u1 u2 u3 u4 u5 : Value} {a : Addr} {v : Value} (h : ((((((w.setCell p0 u0).setCell p1 u1).setCell p2 u2).setCell p3 u3).setCell p4 u4).setCell p5 u5).cell? a = some v) (n : Nat) : (((((((w.drewN n).setCell p0 u0).setCell p1 u1).setCell p2 u2).setCell p3 u3).setCell p4 u4).setCell p5 u5).cell? a = some v := by
 rw [st_drewN, st_drewN, st_drewN, st_drewN, st_drewN, st_drewN, cd_drewN]; exact h
theorem gs_ {x : World} (hg : g = W.heap.size) (h : Below x.heap.size x W) : x.heap.size ≤ g := by rw [hg]; exact below_size h
theorem gn_ {g' : Nat} (hg : g' = W.heap.size) (h : w.heap[g]? = some o) (d : Below w.heap.size w W := by (with_reducible repeat (first | refine pw_below_drewN ?_ _ | refine below_drew1 ?_ | refine below_alloc ?_ _)); first | exact Below.refl _ _ | exact ⟨rfl, rfl, rfl, Nat.le_refl _, fun _ _ => rfl⟩) : g ≠ g' := by rw [hg]; exact Nat.ne_of_lt (blk_lt (blk_below h d))
theorem rf_ {p : Prop} (h : p := by first | rfl | (simp; done) | (simp [*]; done) | (simp; exact emp_ _) | exact congrArg Value.bool (leqN _ _)) : p := h
theorem bf5_ {g' : Nat} {t : TypeId} {cs : Array Value} {i0 i1 i2 i3 i4 : Nat} {u0 u1 u2 u3 u4 : Value} (h : w.heap[g]? = some (.cells cs t (0, 0))) (hn : g ≠ g') (d2 : Below (((((W.setCell ⟨g', i0, none⟩ u0).setCell ⟨g', i1, none⟩ u1).setCell ⟨g', i2, none⟩ u2).setCell ⟨g', i3, none⟩ u3).setCell ⟨g', i4, none⟩ u4).heap.size (((((W.setCell ⟨g', i0, none⟩ u0).setCell ⟨g', i1, none⟩ u1).setCell ⟨g', i2, none⟩ u2).setCell ⟨g', i3, none⟩ u3).setCell ⟨g', i4, none⟩ u4) W1 := by (with_reducible repeat (first | refine pw_below_drewN ?_ _ | refine below_drew1 ?_ | refine below_alloc ?_ _)); first | exact Below.refl _ _ | exact ⟨rfl, rfl, rfl, Nat.le_refl _, fun _ _ => rfl⟩) (d : Below w.heap.size w W := by (with_reducible repeat (first | refine pw_below_drewN ?_ _ | refine below_drew1 ?_ | refine below_alloc ?_ _)); first | exact Below.refl _ _ | exact ⟨rfl, rfl, rfl, Nat.le_refl _, fun _ _ => rfl⟩) : W1.heap[g]? = some (.cells cs t (0, 0)) :=
 blk_below (blk_far (blk_far (blk_far (blk_far (blk_far (blk_below h d) hn _) hn _) hn _) hn _) hn _) d2
theorem bp5_ {t : TypeId} {a0 a1 a2 a3 a4 u0 u1 u2 u3 u4 : Value} (h : w.heap[g]? = some (.cells #[a0, a1, a2, a3, a4] t (0, 0))) (d2 : Below (((((W.setCell ⟨g, 0, none⟩ u0).setCell ⟨g, 1, none⟩ u1).setCell ⟨g, 2, none⟩ u2).setCell ⟨g, 3, none⟩ u3).setCell ⟨g, 4, none⟩ u4).heap.size (((((W.setCell ⟨g, 0, none⟩ u0).setCell ⟨g, 1, none⟩ u1).setCell ⟨g, 2, none⟩ u2).setCell ⟨g, 3, none⟩ u3).setCell ⟨g, 4, none⟩ u4) W1 := by (with_reducible repeat (first | refine pw_below_drewN ?_ _ | refine below_drew1 ?_ | refine below_alloc ?_ _)); first | exact Below.refl _ _ | exact ⟨rfl, rfl, rfl, Nat.le_refl _, fun _ _ => rfl⟩) (d : Below w.heap.size w W := by (with_reducible repeat (first | refine pw_below_drewN ?_ _ | refine below_drew1 ?_ | refine below_alloc ?_ _)); first | exact Below.refl _ _ | exact ⟨rfl, rfl, rfl, Nat.le_refl _, fun _ _ => rfl⟩) : W1.heap[g]? = some (.cells #[u0, u1, u2, u3, u4] t (0, 0)) :=
 blk_below (blk_put (blk_put (blk_put (blk_put (blk_put (blk_below h d) 0 _ rfl) 1 _ rfl) 2 _ rfl) 3 _ rfl) 4 _ rfl) d2
theorem as_ {p : Prop} (h : p := by first | (with_reducible assumption) | assumption) : p := h
theorem ar_ {p : Prop} (h : p := by (try simp only [List.map_toArray, List.map_cons, List.map_nil]); first | done | rfl | (simp only [List.length_drop, List.length_take]; rfl)) : p := h
end
section
variable {α : Type} {d : Kd α} {e base : Nat} {ok : Nat → Prop} {w W : World} {v : Value} {xs : List α} {A : Option Addr} {n : Nat}
theorem rd_ (h : Kd.R d e w base ok v xs) (b : Below w.heap.size w W := by (with_reducible repeat (first | refine pw_below_drewN ?_ _ | refine below_drew1 ?_ | refine below_alloc ?_ _)); first | exact Below.refl _ _ | exact ⟨rfl, rfl, rfl, Nat.le_refl _, fun _ _ => rfl⟩) : Kd.R d e W base ok v xs := Kd.R_below h b
theorem sd_ (h : Kd.S d e w base ok v xs) (b : Below w.heap.size w W := by (with_reducible repeat (first | refine pw_below_drewN ?_ _ | refine below_drew1 ?_ | refine below_alloc ?_ _)); first | exact Below.refl _ _ | exact ⟨rfl, rfl, rfl, Nat.le_refl _, fun _ _ => rfl⟩) : Kd.S d e W base ok v xs := Kd.S_below h b
theorem cd_ (h : Kd.C d w A n xs) (b : Below w.heap.size w W := by (with_reducible repeat (first | refine pw_below_drewN ?_ _ | refine below_drew1 ?_ | refine below_alloc ?_ _)); first | exact Below.refl _ _ | exact ⟨rfl, rfl, rfl, Nat.le_refl _, fun _ _ => rfl⟩) : Kd.C d W A n xs := Kd.C_below h b
end
end Go.Proofs.Ytijpfonbeepmfaa.Print
