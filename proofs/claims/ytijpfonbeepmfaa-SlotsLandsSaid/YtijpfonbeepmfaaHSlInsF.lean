/- What Insert answers at a code that is right, and Same of it: plain Lean. -/
import Derived.Test.YtijpfonbeepmfaaHSlProg
import Derived.Test.YtijpfonbeepmfaaHSlOf
namespace Go.Proofs.Ytijpfonbeepmfaa.Print
open Go.RowKit Go.Proofs.YtijpfonbeepmfaaW.PrintWords Go.Proofs.YtijpfonbeepmfaaW.PrintLast Go.Proofs.YtijpfonbeepmfaaW.PrintMore
set_option linter.unusedVariables false
set_option linter.unusedSimpArgs false
theorem rows_of {A : List Int} {B : List (List S53)} (h : CodeOk 80 A B) : ∀ l ∈ B, l.length ≤ 80 ∧ RowOk A.length l := fun l hl => by
 obtain ⟨i, hi⟩ := List.getElem?_of_mem hl
 have hlt := (List.getElem?_eq_some_iff.1 hi).1
 have := h.rows (i : Int) (by omega) (by omega)
 have e : rd_L3 B (i : Int) = l := by unfold rd_L3; rw [Int.toNat_natCast, List.getD_eq_getElem?_getD, hi]; rfl
 rwa [e] at this
theorem jumps_of {A : List Int} {B : List (List S53)} (h : CodeOk 80 A B) : ∀ l ∈ B, ∀ s ∈ l, 8 ≤ s.f0 → 0 ≤ s.f4 ∧ s.f4 ≤ (l.length : Int) := fun l hl s hs h8 => by
 obtain ⟨j, hj⟩ := List.getElem?_of_mem hs
 have hlt := (List.getElem?_eq_some_iff.1 hj).1
 have hr := (rows_of h l hl).2 (j : Int) (by omega) (by omega)
 have e : rd_T53 l (j : Int) = s := by unfold rd_T53; rw [Int.toNat_natCast, List.getD_eq_getElem?_getD, hj]; rfl
 rw [e] at hr
 have ht := hr.tgt h8
 omega
theorem totS_le : ∀ B : List (List S53), (∀ l ∈ B, l.length ≤ 80) → totS B ≤ 80 * B.length
 | [], _ => by simp [totS]
 | l :: ls, h => by
  have h1 := h l (List.mem_cons_self ..)
  have h2 := totS_le ls (fun x hx => h x (List.mem_cons_of_mem _ hx))
  simp only [totS, List.map_cons, List.sum_cons, List.length_cons] at h2 ⊢
  omega
theorem insert_f {A : List Int} {B : List (List S53)} {g : List Int} (h : CodeOk 80 A B) (hg : ∀ x ∈ g, (Lit.int .i64 x).wf = true) (hl : g.length ≤ 1000000) : slots_Insert.f A B g = some (A, (progF g B).1) := by
 have h1 := h.locs
 have h2 := h.few
 have h3 := totS_le B (fun l hl => (rows_of h l hl).1)
 have hb : insB A B g = true := by
  unfold insB
  simp only [Bool.and_eq_true, decide_eq_true_eq, List.all_eq_true, Bool.or_eq_true, Bool.not_eq_true', decide_eq_false_iff_not]
  refine ⟨by omega, by omega, by omega, hl, fun l hl s hs => ?_, hg⟩
  by_cases c : 8 ≤ s.f0
  ·exact .inr (jumps_of h l hl s hs c)
  ·exact .inl c
 unfold slots_Insert.f
 rw [if_pos hb]
end Go.Proofs.Ytijpfonbeepmfaa.Print
