/- The admissible slots, as a list: plain Lean. -/
import Derived.Test.YtphklaajolpieaaHKept
import Derived.Test.YtphklaajolpieaaHMetF
namespace Go.Proofs.Ytphklaajolpieaa.Print
open Go.RowKit Go.Maps Go.Proofs.YtphklaajolpieaaW.PrintWords Go.Proofs.YtphklaajolpieaaW.PrintLast Go.Proofs.YtphklaajolpieaaW.PrintMore
set_option linter.unusedVariables false
set_option linter.unusedSimpArgs false
theorem rdL2_nat (zs : List (List S36)) (t : Nat) (h : t < zs.length) : rd_L2 zs (t : Int) = zs[t] := by
 unfold rd_L2
 rw [List.getD_eq_getElem?_getD, show ((t : Int)).toNat = t by omega, List.getElem?_eq_getElem h]; rfl
/-- Is step j's slot admissible? -/
def admAt (l : List S36) (j : Nat) : Bool := aheadF l (metF l) j && noDrain (rd_T36 l (j : Int))
def admRow (l : List S36) (n : Int) : List Int := ((List.range l.length).filter (admAt l)).map fun (j : Nat) => n + (j : Int)
def admFrom : Int → List (List S36) → List Int
 | _, [] => []
 | n, l :: ls => admRow l n ++ admFrom (n + (l.length : Int)) ls
theorem slotRow_mem {t n : Int} {m : Nat} {x : Int × Int × Int} (h : x ∈ slotRow t n m) : x.2.1 = t := by
 unfold slotRow at h
 rw [List.mem_map] at h
 obtain ⟨j, _, rfl⟩ := h
 rfl
theorem find_row (t n : Int) : ∀ (m a : Nat), a < m → (slotRow t n m).find? (fun x => x.2.1 == t && x.2.2 == (a : Int)) = some (n + (a : Int), t, (a : Int))
 | 0, a, h => by omega
 | m + 1, a, h => by
  rw [slotRow_succ, List.find?_append]
  rcases Nat.lt_or_eq_of_le (Nat.le_of_lt_succ h) with h1 | h1
  ·rw [find_row t n m a h1]; rfl
  ·subst h1
   rw [List.find?_eq_none.2]
   ·simp
   ·intro x hx
    unfold slotRow at hx
    rw [List.mem_map] at hx
    obtain ⟨j, hj, rfl⟩ := hx
    rw [List.mem_range] at hj
    simp
    omega
theorem find_slot : ∀ (zs : List (List S36)) (t0 n : Int) (t a : Nat) (ht : t < zs.length), a < zs[t].length → (slotsFrom t0 n zs).find? (fun x => x.2.1 == t0 + (t : Int) && x.2.2 == (a : Int)) = some (n + (tot (zs.take t) : Int) + (a : Int), t0 + (t : Int), (a : Int))
 | [], t0, n, t, a, ht, _ => by simp at ht
 | l :: ls, t0, n, 0, a, ht, ha => by
  simp only [slotsFrom, List.find?_append, List.take_zero, tot]
  have := find_row t0 n l.length a (by simpa using ha)
  simp only [Int.natCast_zero, Int.add_zero]
  rw [this]; rfl
 | l :: ls, t0, n, t + 1, a, ht, ha => by
  simp only [slotsFrom, List.find?_append, List.take_succ_cons, tot]
  rw [List.find?_eq_none.2 (fun x hx => by have := slotRow_mem hx; simp [this]; omega)]
  have := find_slot ls (t0 + 1) (n + (l.length : Int)) t a (by simpa using ht) (by simpa using ha)
  simp only [Option.none_or]
  rw [show t0 + ((t + 1 : Nat) : Int) = t0 + 1 + (t : Int) by omega, this]
  congr 2
  omega
def offT (zs : List (List S36)) (t : Nat) : Int := (tot (zs.take t) : Int)
theorem numF_eq (zs : List (List S36)) (t a : Nat) (ht : t < zs.length) (ha : a < zs[t].length) : numF zs (t : Int) (a : Int) = offT zs t + (a : Int) := by
 unfold numF
 have := find_slot zs 0 0 t a ht ha
 simp only [Int.zero_add] at this
 rw [this]; rfl
theorem keptT_eq (zs : List (List S36)) (isF : Int → Bool) (t : Nat) (ht : t < zs.length) : keptT metF zs isF t = (admRow zs[t] (offT zs t)).filter isF := by
 unfold keptT pendK admRow
 rw [rdL2_nat zs t ht, List.filter_map, List.map_map, List.filter_map, List.filter_filter, List.filter_filter]
 have e : ∀ j ∈ List.range zs[t].length, numF zs (t : Int) (j : Int) = offT zs t + (j : Int) := fun j hj => numF_eq zs t j ht (by simpa using hj)
 have e1 : (List.range zs[t].length).filter (fun a => (keptP isF ∘ fun (j : Nat) => (numF zs (t : Int) (j : Int), rd_T36 zs[t] (j : Int))) a && aheadF zs[t] (metF zs[t]) a) = (List.range zs[t].length).filter (fun a => (isF ∘ fun (j : Nat) => offT zs t + (j : Int)) a && admAt zs[t] a) := by
  apply List.filter_congr
  intro j hj
  simp only [Function.comp_apply, keptP, e j hj, admAt, noDrain]
  cases aheadF zs[t] (metF zs[t]) j <;> cases isF (offT zs t + (j : Int)) <;> simp
 rw [e1]
 apply List.map_congr_left
 intro j hj
 simp only [Function.comp_apply]
 exact e j (List.mem_filter.1 hj).1
theorem flat_adm : ∀ (zs : List (List S36)) (n : Int), admFrom n zs = (List.range zs.length).flatMap (fun t => admRow (zs.getD t []) (n + (tot (zs.take t) : Int)))
 | [], n => rfl
 | l :: ls, n => by
  rw [admFrom, List.length_cons, List.range_succ_eq_map, List.flatMap_cons, List.flatMap_map, flat_adm ls]
  congr 1
  ·simp [tot]
  ·congr 1
   funext t
   simp only [List.take_succ_cons, tot, List.getD_cons_succ]
   congr 1
   omega
theorem kept_adm (zs : List (List S36)) (isF : Int → Bool) : keptF metF zs isF zs.length = (admFrom 0 zs).filter isF := by
 rw [flat_adm]
 unfold keptF
 rw [List.filter_flatMap]
 have : ∀ t ∈ List.range zs.length, keptT metF zs isF t = (fun t => ((admRow (zs.getD t []) (0 + (tot (zs.take t) : Int))).filter isF)) t := by
  intro t ht
  rw [List.mem_range] at ht
  rw [keptT_eq zs isF t ht]
  simp only [Int.zero_add]
  rw [List.getD_eq_getElem?_getD, List.getElem?_eq_getElem ht]
  rfl
 rw [List.flatMap_def, List.flatMap_def, List.map_congr_left this]
/-- What stands in the row. -/
theorem admFrom_mem : ∀ (zs : List (List S36)) (n s : Int), s ∈ admFrom n zs ↔ ∃ (t j : Nat) (ht : t < zs.length), j < zs[t].length ∧ admAt zs[t] j = true ∧ s = n + (tot (zs.take t) : Int) + (j : Int)
 | [], n, s => by simp [admFrom]
 | l :: ls, n, s => by
  rw [admFrom, List.mem_append, admFrom_mem ls]
  constructor
  ·rintro (h | ⟨t, j, ht, hj, ha, rfl⟩)
   ·unfold admRow at h
    rw [List.mem_map] at h
    obtain ⟨j, hj, rfl⟩ := h
    rw [List.mem_filter, List.mem_range] at hj
    exact ⟨0, j, by simp, hj.1, hj.2, by simp [tot]⟩
   ·exact ⟨t + 1, j, by simpa using ht, by simpa using hj, by simpa using ha, by simp [tot]; omega⟩
  ·rintro ⟨t, j, ht, hj, ha, rfl⟩
   cases t with
   | zero =>
    left
    unfold admRow
    rw [List.mem_map]
    refine ⟨j, ?_, by simp [tot]⟩
    rw [List.mem_filter, List.mem_range]
    exact ⟨hj, ha⟩
   | succ t => exact .inr ⟨t, j, by simpa using ht, by simpa using hj, by simpa using ha, by simp [tot]; omega⟩
theorem admRow_sorted (l : List S36) (n : Int) : (admRow l n).Pairwise (· < ·) := by
 unfold admRow
 rw [List.pairwise_map]
 have : (List.range l.length).Pairwise (· < ·) := List.pairwise_lt_range
 exact (this.filter _).imp (fun h => by omega)
theorem admRow_range {l : List S36} {n s : Int} (h : s ∈ admRow l n) : n ≤ s ∧ s < n + (l.length : Int) := by
 unfold admRow at h
 rw [List.mem_map] at h
 obtain ⟨j, hj, rfl⟩ := h
 rw [List.mem_filter, List.mem_range] at hj
 omega
theorem admFrom_sorted : ∀ (zs : List (List S36)) (n : Int), (admFrom n zs).Pairwise (· < ·)
 | [], n => by simp [admFrom]
 | l :: ls, n => by
  rw [admFrom, List.pairwise_append]
  refine ⟨admRow_sorted l n, admFrom_sorted ls _, fun a ha b hb => ?_⟩
  have := admRow_range ha
  rw [admFrom_mem] at hb
  obtain ⟨t, j, ht, hj, _, rfl⟩ := hb
  omega
end Go.Proofs.Ytphklaajolpieaa.Print
