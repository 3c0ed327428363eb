/- Programs: what Insert makes, by what stands in its row of numbers; ref07.Same of one and the same: plain Lean. -/
/- What Insert answers at a code that is right, and Same of it: plain Lean. -/
import Derived.Test.YtijpfonbeepmfaaHSlIns1
import Derived.Test.YtijpfonbeepmfaaHSlCode
import Derived.Test.YtijpfonbeepmfaaPrint5
import Derived.Test.YtijpfonbeepmfaaHSlOf
section
namespace Go.Proofs.Ytijpfonbeepmfaa.Print
open Go.RowKit Go.Proofs.YtijpfonbeepmfaaW.PrintWords Go.Proofs.YtijpfonbeepmfaaW.PrintLast Go.Proofs.YtijpfonbeepmfaaW.PrintMore
set_option linter.unusedVariables false
set_option linter.unusedSimpArgs false
theorem sameI_l0 (l : List Int) (hl : l.length ≤ 1000000) : ∀ (d i : Nat), l.length - i ≤ d → Ev (fun k => fencepostref07_SameInts.l0 k l l (i : Int)) true := by
 intro d
 induction d with
 | zero =>
  intro i h
  refine Ev.step (fun k => by rw [fencepostref07_SameInts.l0]) ?_
  simp only [if_neg (show ¬ (i : Int) < (l.length : Int) by omega)]
  exact Ev.now _
 | succ d ih =>
  intro i h
  by_cases c : i < l.length
  ·refine Ev.step (fun k => by rw [fencepostref07_SameInts.l0]) ?_
   simp only [if_pos (show (i : Int) < (l.length : Int) by omega), if_pos (show (0 : Int) ≤ (i : Int) by omega), if_true, w64 (show -9223372036854775808 ≤ (i : Int) + 1 by omega) (by omega)]
   exact ih (i + 1) (by omega)
  ·refine Ev.step (fun k => by rw [fencepostref07_SameInts.l0]) ?_
   simp only [if_neg (show ¬ (i : Int) < (l.length : Int) by omega)]
   exact Ev.now _
section
variable (A : List Int) (B : List (List S53))
theorem same7_l1 (t : Nat) (ht : t < B.length) (hl : (rd_L3 B (t : Int)).length ≤ 1000000) (next : Ev (fun k => fencepostref07_Same.l0 k (wrap64 ((t : Int) + 1)) A B A B) true) : ∀ (d i : Nat), (rd_L3 B (t : Int)).length - i ≤ d → Ev (fun k => fencepostref07_Same.l1 k (t : Int) (i : Int) A B A B) true := by
 have s1 : (0 : Int) ≤ (t : Int) := by omega
 have s2 : (t : Int) < (B.length : Int) := by omega
 intro d
 induction d with
 | zero =>
  intro i h
  refine Ev.step (fun k => by rw [fencepostref07_Same.l1]) ?_
  simp only [if_pos s1, if_pos s2, if_neg (show ¬ (i : Int) < ((rd_L3 B (t : Int)).length : Int) by omega)]
  exact next
 | succ d ih =>
  intro i h
  by_cases c : i < (rd_L3 B (t : Int)).length
  ·refine Ev.step (fun k => by rw [fencepostref07_Same.l1]) ?_
   simp only [if_pos s1, if_pos s2, if_pos (show (i : Int) < ((rd_L3 B (t : Int)).length : Int) by omega), if_pos (show (0 : Int) ≤ (i : Int) by omega), beq_self_eq_true, Bool.not_true, Bool.or_self, Bool.false_eq_true, if_false, w64 (show -9223372036854775808 ≤ (i : Int) + 1 by omega) (by omega)]
   exact ih (i + 1) (by omega)
  ·refine Ev.step (fun k => by rw [fencepostref07_Same.l1]) ?_
   simp only [if_pos s1, if_pos s2, if_neg (show ¬ (i : Int) < ((rd_L3 B (t : Int)).length : Int) by omega)]
   exact next
theorem same7_l0 (hB : B.length ≤ 1000000) (hl : ∀ l ∈ B, l.length ≤ 1000000) : ∀ (d i : Nat), B.length - i ≤ d → Ev (fun k => fencepostref07_Same.l0 k (i : Int) A B A B) true := by
 intro d
 induction d with
 | zero =>
  intro i h
  refine Ev.step (fun k => by rw [fencepostref07_Same.l0]) ?_
  simp only [if_neg (show ¬ (i : Int) < (B.length : Int) by omega)]
  exact Ev.now _
 | succ d ih =>
  intro i h
  by_cases c : i < B.length
  ·refine Ev.step (fun k => by rw [fencepostref07_Same.l0]) ?_
   simp only [if_pos (show (i : Int) < (B.length : Int) by omega), if_pos (show (0 : Int) ≤ (i : Int) by omega), if_true]
   have e : rd_L3 B (i : Int) = B[i] := by unfold rd_L3; rw [Int.toNat_natCast, List.getD_eq_getElem?_getD, List.getElem?_eq_getElem c]; rfl
   refine same7_l1 A B i c (by rw [e]; exact hl _ (List.getElem_mem c)) ?_ (rd_L3 B (i : Int)).length 0 (by omega)
   rw [w64 (by omega) (by omega)]
   exact ih (i + 1) (by omega)
  ·refine Ev.step (fun k => by rw [fencepostref07_Same.l0]) ?_
   simp only [if_neg (show ¬ (i : Int) < (B.length : Int) by omega)]
   exact Ev.now _
theorem same7_refl (hA : A.length ≤ 1000000) (hB : B.length ≤ 1000000) (hl : ∀ l ∈ B, l.length ≤ 1000000) : Ev (fun k => fencepostref07_Same.f k A B A B) true := by
 unfold fencepostref07_Same.f
 have hI : Ev (fun k => fencepostref07_SameInts.f k A A) true := by
  unfold fencepostref07_SameInts.f
  simp only [if_true]
  exact sameI_l0 A hA A.length 0 (by omega)
 refine Ev.bind hI ?_
 simp only [if_true, bne_self_eq_false]
 refine Ev.step (fun k => by rw [fencepostref07_Same.j0]) ?_
 simp only [Bool.false_eq_true, if_false]
 exact same7_l0 A B hB hl B.length 0 (by omega)
end
end Go.Proofs.Ytijpfonbeepmfaa.Print
end
section
namespace Go.Proofs.Ytijpfonbeepmfaa.Print
open Go.RowKit Go.Proofs.YtijpfonbeepmfaaW.PrintWords Go.Proofs.YtijpfonbeepmfaaW.PrintLast Go.Proofs.YtijpfonbeepmfaaW.PrintMore
set_option linter.unusedVariables false
set_option linter.unusedSimpArgs false
theorem prog_rows (g : List Int) : ∀ (B : List (List S53)) (st : List (List S53) × Int), (∀ l ∈ st.1, l.length ≤ 1000) → (∀ l ∈ B, l.length ≤ 80) → ∀ l ∈ (B.foldl (progStep g) st).1, l.length ≤ 1000
 | [], st, h, hB => h
 | x :: r, st, h, hB => by
  rw [List.foldl_cons]
  refine prog_rows g r _ (fun l hl => ?_) (fun l hl => hB l (List.mem_cons_of_mem _ hl))
  have e : (progStep g st x).1 = st.1 ++ [thF g x st.2] := rfl
  rw [e, List.mem_append, List.mem_singleton] at hl
  rcases hl with hl | rfl
  ·exact h l hl
  ·have h1 := (ins_len g x ([], [], st.2)).1
   have h2 := hB x (List.mem_cons_self ..)
   unfold thF insF
   rw [List.length_map]
   simp only [List.length_nil] at h1
   omega
theorem totS_tot : ∀ B : List (List S53), totS B = tot B
 | [] => rfl
 | l :: r => by
  have := totS_tot r
  simp only [totS, tot, List.map_cons, List.sum_cons] at this ⊢
  omega
theorem rows_of {A : List Int} {B : List (List S53)} (h : CodeOk 80 A B) : ∀ l ∈ B, l.length ≤ 80 ∧ RowOk A.length l := fun l hl => by
 obtain ⟨i, hi⟩ := List.getElem?_of_mem hl
 have hlt := (List.getElem?_eq_some_iff.1 hi).1
 have := h.rows (i : Int) (by omega) (by omega)
 have e : rd_L3 B (i : Int) = l := by unfold rd_L3; rw [Int.toNat_natCast, List.getD_eq_getElem?_getD, hi]; rfl
 rwa [e] at this
theorem jumps_of {A : List Int} {B : List (List S53)} (h : CodeOk 80 A B) : ∀ l ∈ B, ∀ s ∈ l, 8 ≤ s.f0 → 0 ≤ s.f4 ∧ s.f4 ≤ (l.length : Int) := fun l hl s hs h8 => by
 obtain ⟨j, hj⟩ := List.getElem?_of_mem hs
 have hlt := (List.getElem?_eq_some_iff.1 hj).1
 have hr := (rows_of h l hl).2 (j : Int) (by omega) (by omega)
 have e : rd_T53 l (j : Int) = s := by unfold rd_T53; rw [Int.toNat_natCast, List.getD_eq_getElem?_getD, hj]; rfl
 rw [e] at hr
 have ht := hr.tgt h8
 omega
theorem totS_le : ∀ B : List (List S53), (∀ l ∈ B, l.length ≤ 80) → totS B ≤ 80 * B.length
 | [], _ => by simp [totS]
 | l :: ls, h => by
  have h1 := h l (List.mem_cons_self ..)
  have h2 := totS_le ls (fun x hx => h x (List.mem_cons_of_mem _ hx))
  simp only [totS, List.map_cons, List.sum_cons, List.length_cons] at h2 ⊢
  omega
theorem insert_f {A : List Int} {B : List (List S53)} {g : List Int} (h : CodeOk 80 A B) (hg : ∀ x ∈ g, (Lit.int .i64 x).wf = true) (hl : g.length ≤ 1000000) : slots_Insert.f A B g = some (A, (progF g B).1) := by
 have h1 := h.locs
 have h2 := h.few
 have h3 := totS_le B (fun l hl => (rows_of h l hl).1)
 have hb : insB A B g = true := by
  unfold insB
  simp only [Bool.and_eq_true, decide_eq_true_eq, List.all_eq_true, Bool.or_eq_true, Bool.not_eq_true', decide_eq_false_iff_not]
  refine ⟨by omega, by omega, by omega, hl, fun l hl s hs => ?_, hg⟩
  by_cases c : 8 ≤ s.f0
  ·exact .inr (jumps_of h l hl s hs c)
  ·exact .inl c
 unfold slots_Insert.f
 rw [if_pos hb]
theorem same7_prog {A : List Int} {B : List (List S53)} (h : CodeOk 80 A B) (g : List Int) : Ev (fun k => fencepostref07_Same.f k A (progF g B).1 A (progF g B).1) true :=
 same7_refl A _ (by have := h.locs; omega) (by have := h.few; have := (prog_len g B ([], 0)).1; unfold progF; simp only [List.length_nil] at this; omega) (fun l hl => by have := prog_rows g B ([], 0) (by simp) (fun l hl => (rows_of h l hl).1) l hl; omega)
end Go.Proofs.Ytijpfonbeepmfaa.Print
end
