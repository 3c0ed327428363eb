/- A slot's number and its place: plain Lean. -/
import Derived.Test.YtijpfonbeepmfaaHSlCode
import Derived.Test.YtijpfonbeepmfaaHSlOf
namespace Go.Proofs.Ytijpfonbeepmfaa.Print
open Go.RowKit Go.Proofs.YtijpfonbeepmfaaW.PrintWords Go.Proofs.YtijpfonbeepmfaaW.PrintLast Go.Proofs.YtijpfonbeepmfaaW.PrintMore
set_option linter.unusedVariables false
set_option linter.unusedSimpArgs false
theorem row_mem {t n : Int} {m : Nat} {x : Int × Int × Int} (h : x ∈ slotRow t n m) : n ≤ x.1 ∧ x.1 < n + m ∧ x.2.1 = t ∧ x.2.2 = x.1 - n := by
 unfold slotRow at h
 rw [List.mem_map] at h
 obtain ⟨j, hj, rfl⟩ := h
 rw [List.mem_range] at hj
 exact ⟨by show n ≤ n + (j : Int); omega, by show n + (j : Int) < n + m; omega, rfl, by show (j : Int) = n + (j : Int) - n; omega⟩
theorem row_has (t n : Int) (m : Nat) (k : Int) (h0 : n ≤ k) (h1 : k < n + m) : (k, t, k - n) ∈ slotRow t n m := by
 unfold slotRow
 rw [List.mem_map]
 refine ⟨(k - n).toNat, List.mem_range.2 (by omega), ?_⟩
 have e : (((k - n).toNat : Nat) : Int) = k - n := by omega
 rw [e]
 exact Prod.ext (by show n + (k - n) = k; omega) rfl
theorem slots_mem : ∀ (zs : List (List S53)) (t n : Int) (x : Int × Int × Int), x ∈ slotsFrom t n zs → n ≤ x.1 ∧ x.1 < n + tot zs ∧ t ≤ x.2.1
 | [], t, n, x, h => by simp [slotsFrom] at h
 | l :: ls, t, n, x, h => by
  simp only [slotsFrom, List.mem_append] at h
  rcases h with h | h
  ·obtain ⟨h1, h2, h3, _⟩ := row_mem h
   exact ⟨h1, by simp only [tot]; push_cast; omega, by omega⟩
  ·obtain ⟨h1, h2, h3⟩ := slots_mem ls _ _ x h
   exact ⟨by omega, by simp only [tot]; push_cast; omega, by omega⟩
/-- A slot's number tells its place, and its place its number. -/
theorem slots_one : ∀ (zs : List (List S53)) (t n : Int) (x y : Int × Int × Int), x ∈ slotsFrom t n zs → y ∈ slotsFrom t n zs → (x.1 = y.1 ∨ (x.2.1 = y.2.1 ∧ x.2.2 = y.2.2)) → x = y
 | [], t, n, x, y, hx, hy, h => by simp [slotsFrom] at hx
 | l :: ls, t, n, x, y, hx, hy, h => by
  simp only [slotsFrom, List.mem_append] at hx hy
  rcases hx with hx | hx <;> rcases hy with hy | hy
  ·obtain ⟨a1, a2, a3, a4⟩ := row_mem hx
   obtain ⟨b1, b2, b3, b4⟩ := row_mem hy
   have e : x.1 = y.1 := by omega
   exact Prod.ext e (Prod.ext (by omega) (by omega))
  ·obtain ⟨a1, a2, a3, a4⟩ := row_mem hx
   obtain ⟨b1, b2, b3⟩ := slots_mem ls _ _ y hy
   omega
  ·obtain ⟨a1, a2, a3⟩ := slots_mem ls _ _ x hx
   obtain ⟨b1, b2, b3, b4⟩ := row_mem hy
   omega
  ·exact slots_one ls _ _ x y hx hy h
theorem of_cases (B : List (List S53)) (n : Int) : (∃ x ∈ slotsFrom 0 0 B, x.1 = n ∧ ofF B n = (x.2.1, x.2.2, true)) ∨ (ofF B n = (0, 0, false) ∧ ∀ x ∈ slotsFrom 0 0 B, x.1 ≠ n) := by
 unfold ofF
 cases h : (slotsFrom 0 0 B).find? (fun x => x.1 == n) with
 | some x => exact .inl ⟨x, List.mem_of_find?_eq_some h, by simpa using List.find?_some h, rfl⟩
 | none => exact .inr ⟨rfl, fun x hx e => by have := List.find?_eq_none.1 h x hx; simp at this; exact this e⟩
theorem num_cases (B : List (List S53)) (t a : Int) : (∃ x ∈ slotsFrom 0 0 B, x.2.1 = t ∧ x.2.2 = a ∧ numF B t a = x.1) ∨ (numF B t a = -1 ∧ ∀ x ∈ slotsFrom 0 0 B, ¬ (x.2.1 = t ∧ x.2.2 = a)) := by
 unfold numF
 cases h : (slotsFrom 0 0 B).find? (fun x => x.2.1 == t && x.2.2 == a) with
 | some x =>
  have := List.find?_some h
  simp only [Bool.and_eq_true, beq_iff_eq] at this
  exact .inl ⟨x, List.mem_of_find?_eq_some h, this.1, this.2, rfl⟩
 | none => exact .inr ⟨rfl, fun x hx e => by have := List.find?_eq_none.1 h x hx; simp at this; exact this e.1 e.2⟩
theorem tot_bound : ∀ B : List (List S53), (∀ l ∈ B, l.length ≤ 80) → tot B ≤ 80 * B.length
 | [], _ => by simp [tot]
 | l :: ls, h => by
  have h1 := h l (List.mem_cons_self ..)
  have h2 := tot_bound ls (fun x hx => h x (List.mem_cons_of_mem _ hx))
  simp only [tot, List.length_cons]
  omega
theorem codeB_ok {A : List Int} {B : List (List S53)} (h : CodeOk 80 A B) : codeB B = true := by
 have h1 := h.few
 have h2 := tot_bound B (fun l hl => by
  obtain ⟨i, hi⟩ := List.getElem?_of_mem hl
  have hlt := (List.getElem?_eq_some_iff.1 hi).1
  have := (h.rows (i : Int) (by omega) (by omega)).1
  have e : rd_L3 B (i : Int) = l := by unfold rd_L3; rw [Int.toNat_natCast, List.getD_eq_getElem?_getD, hi]; rfl
  rw [e] at this; exact this)
 unfold codeB
 simp only [Bool.and_eq_true, decide_eq_true_eq]
 omega
end Go.Proofs.Ytijpfonbeepmfaa.Print
