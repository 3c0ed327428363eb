/- adm.Slots and adm.Keep of a code that is not too much; ways and marks: plain Lean. -/
import Derived.Test.YtphklaajolpieaaHRight
import Derived.Test.YtphklaajolpieaaHAdmBase
import Derived.Test.YtphklaajolpieaaHAdm
import Derived.Test.YtphklaajolpieaaHWays
namespace Go.Proofs.Ytphklaajolpieaa.Print
open Go.RowKit Go.Maps Go.Proofs.YtphklaajolpieaaW.PrintWords Go.Proofs.YtphklaajolpieaaW.PrintLast Go.Proofs.YtphklaajolpieaaW.PrintMore
set_option linter.unusedVariables false
set_option linter.unusedSimpArgs false
def freeD (l : List S36) (a b : Int) : Bool := decide (0 < ledF l noDrain a b)
theorem freeD_iff {l : List S36} (hF : Fwd l) {a b : Int} : freeD l a b = true ↔ Way l noDrain a b := by
 unfold freeD; rw [decide_eq_true_eq]; exact walk_way l noDrain hF _ a b (by omega)
theorem metAt_iff {l : List S36} (hF : Fwd l) {x : Int} : metAt l x = true ↔ x = 0 ∨ Way l anyStep 0 x := by
 unfold metAt
 rw [Bool.or_eq_true, decide_eq_true_eq, beq_iff_eq]
 have := walk_way l anyStep hF (((l.length : Int) - 0).toNat + 1) 0 x (by omega)
 unfold ledF
 rw [this]
theorem metF_rd (l : List S36) (x : Int) (h0 : 0 ≤ x) (h1 : x ≤ (l.length : Int)) : rdOf false (metF l) x = metAt l x := by
 unfold rdOf metF
 rw [List.getD_eq_getElem?_getD, List.getElem?_map, List.getElem?_range (by omega)]
 simp only [Option.map_some, Option.getD_some]
 congr 1; omega
theorem fwd_row {n : Nat} {l : List S36} (h : RowOk n l) : fwdB l = true := by
 unfold fwdB
 rw [List.all_eq_true]
 intro i hi
 rw [List.mem_range] at hi
 by_cases c : ((rd_T36 l i).f0 == 8 || (rd_T36 l i).f0 == 9 || (rd_T36 l i).f0 == 10) = true
 ·have := (h i (by omega) (by omega)).tgt (by simp at c; omega)
  simp only [c, Bool.not_true, Bool.false_or, Bool.and_eq_true, decide_eq_true_eq]
  omega
 ·simp only [Bool.not_eq_true] at c
  simp [c]
theorem tot_le (m : Nat) : ∀ zs : List (List S36), (∀ l ∈ zs, l.length ≤ m) → tot zs ≤ m * zs.length
 | [], _ => by simp [tot]
 | l :: ls, h => by
  have h1 := tot_le m ls (fun x hx => h x (List.mem_cons_of_mem _ hx))
  have h2 := h l List.mem_cons_self
  simp only [tot, List.length_cons, Nat.mul_add, Nat.mul_one]; omega
theorem rd_of_mem {zs : List (List S36)} {l : List S36} (h : l ∈ zs) : ∃ i : Int, 0 ≤ i ∧ i < (zs.length : Int) ∧ rd_L2 zs i = l := by
 obtain ⟨i, hi, e⟩ := List.getElem_of_mem h
 exact ⟨(i : Int), by omega, by omega, by rw [rdL2_nat zs i hi]; exact e⟩
theorem CodeOk.len {m : Nat} {A : List Int} {B : List (List S36)} (h : CodeOk m A B) : ∀ l ∈ B, l.length ≤ m := fun l hl => by
 obtain ⟨i, h0, h1, rfl⟩ := rd_of_mem hl; exact (h.rows i h0 h1).1
theorem CodeOk.row {m : Nat} {A : List Int} {B : List (List S36)} (h : CodeOk m A B) : ∀ l ∈ B, RowOk A.length l := fun l hl => by
 obtain ⟨i, h0, h1, rfl⟩ := rd_of_mem hl; exact (h.rows i h0 h1).2
theorem CodeOk.fwd {m : Nat} {A : List Int} {B : List (List S36)} (h : CodeOk m A B) : ∀ l ∈ B, Fwd l := fun l hl => fwd_of (fwd_row (h.row l hl))
theorem CodeOk.tot {m : Nat} {A : List Int} {B : List (List S36)} (h : CodeOk m A B) : tot B ≤ m * 3 := Nat.le_trans (tot_le m B h.len) (Nat.mul_le_mul_left m h.few)
theorem CodeOk.adm {m : Nat} (hm : m ≤ 80) {A : List Int} {B : List (List S36)} (h : CodeOk m A B) : admOk B = true := by
 unfold admOk
 have := h.tot
 have := h.few
 simp only [Bool.and_eq_true, decide_eq_true_eq, List.all_eq_true]
 exact ⟨by omega, by omega, fun l hl => ⟨by have := h.len l hl; omega, fwd_row (h.row l hl)⟩⟩
theorem keep_f {m : Nat} (hm : m ≤ 80) {A : List Int} {B : List (List S36)} (h : CodeOk m A B) (A' g : List Int) (hg : g.length ≤ 1000000) : adm_Keep.f A' B g = some ((admFrom 0 B).filter (fun n => decide (n ∈ g))) := by
 unfold adm_Keep.f
 rw [if_pos ⟨h.adm hm, hg⟩, kept_adm]
end Go.Proofs.Ytphklaajolpieaa.Print
