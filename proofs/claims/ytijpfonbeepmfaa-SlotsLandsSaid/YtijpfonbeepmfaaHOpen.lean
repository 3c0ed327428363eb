/- Arguments that read as data are values of the print's kinds: the general part. -/
import Derived.Test.YtijpfonbeepmfaaPrint0
import Derived.Deep.Slices
import Derived.Deep.Fields
import Derived.ChangeSame
import Derived.WideShapes
namespace Go.Proofs.Ytijpfonbeepmfaa.Print
open Go.RowKit Go.ChangeShapes Go.WideShapes Go.Deep Go.Proofs.YtijpfonbeepmfaaW.PrintWords Go.Proofs.YtijpfonbeepmfaaW.PrintLast Go.Proofs.YtijpfonbeepmfaaW.PrintMore
set_option linter.unusedVariables false
/-- Whatever reads as data of type t is a value of the kind d, and a good one. -/
structure Opens {α : Type} (P : Program) (d : Kd α) (t : TypeId) (good : α → Prop) : Prop where
 sz : P.cellsOf t = d.sz
 op : ∀ {H : Type} {enc : TypeId × Value → H} {w : World} {base : Nat} {spare : Nat → Bool} {held : Bool} {fuel : Nat} {cs : List Value} {x : DataW H × List MemPlace}, DataW.trod enc P w base spare held fuel t cs = some x → ∃ a, d.K w a cs ∧ good a
theorem opens_int {P : Program} {t : TypeId} {k : IntKind} (hs : P.cellsOf t = 1) (ht : P.underlying t = some (.int k)) : Opens P (Kd.int k) t (fun x => (Lit.int k x).wf = true) :=
 ⟨hs, fun h => by obtain ⟨n, rfl, _, hw⟩ := DataW.trod_int ht h; exact ⟨n, rfl, hw⟩⟩
/-- A slice's elements are good, and so many as a slice may have. -/
def GoodL {α : Type} (good : α → Prop) (xs : List α) : Prop := xs.length ≤ 9223372036854775807 ∧ ∀ x ∈ xs, good x
theorem opens_slice {α : Type} {P : Program} {d : Kd α} {t e : TypeId} {good : α → Prop} (hs : P.cellsOf t = 1) (ht : P.underlying t = some (.slice e)) (h : Opens P d e good) : Opens P (Kd.slice e d) t (GoodL good) := by
 refine ⟨hs, fun {H enc w base spare held fuel cs x} hx => ?_⟩
 rcases open_slice ht hx with ⟨rfl, _⟩ | ⟨a, len, cap, m, n, D, Pl, rfl, _, hl, hm, hmm, _, hi⟩
 ·exact ⟨[], ⟨none, 0, rfl, Nat.le_refl _, Kd.C_nil _ _⟩, by simp [GoodL]⟩
 ·have hlm : len ≤ m := by rw [hmm]; split <;> omega
  have hall : ∀ i, i < len → ∃ p : α × List Value, w.cells? base (a.add (i * P.cellsOf e)) (P.cellsOf e) = some p.2 ∧ d.K w p.1 p.2 ∧ good p.1 := fun i hil => by
   obtain ⟨cs', h1, h2⟩ := hi i (by omega)
   obtain ⟨y, hk, hg⟩ := h.op h2
   exact ⟨(y, cs'), h1, hk, hg⟩
  have hF : ∃ xs : List (α × List Value), xs.length = len ∧ ∀ i (hi : i < xs.length), w.cells? base (a.add (i * P.cellsOf e)) (P.cellsOf e) = some (xs[i]).2 ∧ d.K w (xs[i]).1 (xs[i]).2 ∧ good (xs[i]).1 := by
   refine ⟨List.ofFn (n := len) fun i => Classical.choose (hall i.1 i.2), by simp, fun i hi => ?_⟩
   have := Classical.choose_spec (hall i (by simpa using hi))
   simpa using this
  obtain ⟨xs, hxl, hx⟩ := hF
  refine ⟨xs.map (·.1), ⟨some a, cap, by rw [List.length_map, hxl], by rw [List.length_map]; omega, ?_⟩, by rw [List.length_map]; simp only [maxLen] at hm; omega, fun y hy => ?_⟩
  ·refine ⟨rfl, by rw [List.length_map]; simp only [maxLen] at hm; omega, fun _ => ⟨a, rfl, fun j p hp => ?_⟩⟩
   rw [List.getElem?_map] at hp
   obtain ⟨q, hq, rfl⟩ := Option.map_eq_some_iff.1 hp
   obtain ⟨hjl, hqe⟩ := List.getElem?_eq_some_iff.1 hq
   obtain ⟨h1, h2, _⟩ := hx j hjl
   rw [hqe] at h1 h2
   obtain ⟨_, hcl, hat⟩ := World.cells?_some h1
   refine ⟨q.2, by rw [hcl, h.sz], h2, fun i u hu => ?_⟩
   have hil : i < P.cellsOf e := by rw [← hcl]; exact (List.getElem?_eq_some_iff.1 hu).1
   have := hat i hil
   rw [Go.Deep.add_add, h.sz] at this
   rw [this, hu]
  ·obtain ⟨q, hq, rfl⟩ := List.mem_map.1 hy
   obtain ⟨j, hjl, hqe⟩ := List.mem_iff_getElem.1 hq
   have := (hx j hjl).2.2
   rwa [hqe] at this
theorem pair_mk {α β : Type} {a : Kd α} {b : Kd β} {w : World} {x : α} {y : β} {cs : List Value} {off : Nat} (ha : a.K w x ((cs.drop off).take a.sz)) (hb : b.K w y (cs.drop (off + a.sz))) : (Kd.pair a b).K w (x, y) (cs.drop off) :=
 ⟨(cs.drop off).take a.sz, cs.drop (off + a.sz), by rw [← List.drop_drop]; exact (List.take_append_drop _ _).symm, ha, hb⟩
theorem last_mk {β : Type} {b : Kd β} {w : World} {y : β} {cs : List Value} {off : Nat} (hl : cs.length = off + b.sz) (hb : b.K w y ((cs.drop off).take b.sz)) : b.K w y (cs.drop off) := by
 rwa [List.take_of_length_le (by simp; omega)] at hb
theorem seg {H : Type} {xs : List (DataW H × List MemPlace)} {o : Option (DataW H × List MemPlace)} {i : Nat} (e : o = xs[i]?) (hi : i < xs.length) : ∃ y, o = some y := ⟨xs[i], by rw [e]; exact List.getElem?_eq_getElem hi⟩
/-- A field of a struct. -/
theorem field_op {α : Type} {P : Program} {d : Kd α} {t : TypeId} {good : α → Prop} (h : Opens P d t good) {H : Type} {enc : TypeId × Value → H} {w : World} {base : Nat} {spare : Nat → Bool} {held : Bool} {n off : Nat} {cs : List Value}
 (e : ∃ y, DataW.trod enc P w base spare held n t ((cs.drop off).take (P.cellsOf t)) = some y) : ∃ a, d.K w a ((cs.drop off).take d.sz) ∧ good a := by
 obtain ⟨y, hy⟩ := e
 rw [h.sz] at hy
 exact h.op hy
/-- Arguments. -/
theorem arg_slice {α : Type} {P : Program} {d : Kd α} {t e : TypeId} {good : List α → Prop} (h : Opens P (Kd.slice e d) t good) {H : Type} {enc : TypeId × Value → H} {w : World} {base : Nat} {spare : Nat → Bool} {held : Bool} {a : Option Addr} {len cap : Nat} {dat : DataW H} {p : List MemPlace}
 (hT : DataW.Trod enc P w base spare held t (.slice a len cap) dat p) : ∃ xs : List α, len = xs.length ∧ xs.length ≤ cap ∧ d.C w a xs.length xs ∧ good xs := by
 obtain ⟨fuel, hf⟩ := hT
 obtain ⟨xs, ⟨A, c, hcs, hl, hr⟩, hg⟩ := h.op hf
 simp [Value.cells] at hcs
 obtain ⟨rfl, rfl, rfl⟩ := hcs
 exact ⟨xs, rfl, hl, hr, hg⟩
theorem arg_agg {α : Type} {P : Program} {d : Kd α} {t : TypeId} {good : α → Prop} (h : Opens P d t good) {H : Type} {enc : TypeId × Value → H} {w : World} {base : Nat} {spare : Nat → Bool} {held : Bool} {cs : Array Value} {dat : DataW H} {p : List MemPlace}
 (hT : DataW.Trod enc P w base spare held t (.agg cs) dat p) : ∃ x : α, d.K w x cs.toList ∧ good x := by
 obtain ⟨fuel, hf⟩ := hT
 exact h.op (by simpa [Value.cells] using hf)
end Go.Proofs.Ytijpfonbeepmfaa.Print
