/- A slot's number and its place (law SlotsNums): what the printed functions answer. -/
import Derived.Test.YtijpfonbeepmfaaPrint18
import Derived.Test.YtijpfonbeepmfaaHSlCode
import Derived.Test.YtijpfonbeepmfaaHSlOf
import Derived.Test.YtijpfonbeepmfaaHHead08
import Derived.Test.YtijpfonbeepmfaaOpens
namespace Go.Proofs.Ytijpfonbeepmfaa.Print
open Go.RowKit Go.Proofs.YtijpfonbeepmfaaW.PrintWords Go.Proofs.YtijpfonbeepmfaaW.PrintLast Go.Proofs.YtijpfonbeepmfaaW.PrintMore
set_option linter.unusedVariables false
set_option linter.unusedSimpArgs false
theorem row_mem {t n : Int} {m : Nat} {x : Int × Int × Int} (h : x ∈ slotRow t n m) : n ≤ x.1 ∧ x.1 < n + m ∧ x.2.1 = t ∧ x.2.2 = x.1 - n := by
  unfold slotRow at h
  rw [List.mem_map] at h
  obtain ⟨j, hj, rfl⟩ := h
  rw [List.mem_range] at hj
  exact ⟨by show n ≤ n + (j : Int); omega, by show n + (j : Int) < n + m; omega, rfl, by show (j : Int) = n + (j : Int) - n; omega⟩
theorem row_has (t n : Int) (m : Nat) (k : Int) (h0 : n ≤ k) (h1 : k < n + m) : (k, t, k - n) ∈ slotRow t n m := by
  unfold slotRow
  rw [List.mem_map]
  refine ⟨(k - n).toNat, List.mem_range.2 (by omega), ?_⟩
  have e : (((k - n).toNat : Nat) : Int) = k - n := by omega
  rw [e]
  exact Prod.ext (by show n + (k - n) = k; omega) rfl
theorem slots_mem : ∀ (zs : List (List S53)) (t n : Int) (x : Int × Int × Int), x ∈ slotsFrom t n zs → n ≤ x.1 ∧ x.1 < n + tot zs ∧ t ≤ x.2.1
  | [], t, n, x, h => by simp [slotsFrom] at h
  | l :: ls, t, n, x, h => by
    simp only [slotsFrom, List.mem_append] at h
    rcases h with h | h
    · obtain ⟨h1, h2, h3, _⟩ := row_mem h
      exact ⟨h1, by simp only [tot]; push_cast; omega, by omega⟩
    · obtain ⟨h1, h2, h3⟩ := slots_mem ls _ _ x h
      exact ⟨by omega, by simp only [tot]; push_cast; omega, by omega⟩
theorem slots_has : ∀ (zs : List (List S53)) (t n k : Int), n ≤ k → k < n + tot zs → ∃ x ∈ slotsFrom t n zs, x.1 = k
  | [], t, n, k, h0, h1 => by simp [tot] at h1; omega
  | l :: ls, t, n, k, h0, h1 => by
    simp only [tot] at h1
    push_cast at h1
    simp only [slotsFrom, List.mem_append]
    by_cases c : k < n + l.length
    · exact ⟨_, .inl (row_has t n l.length k h0 c), rfl⟩
    · obtain ⟨x, hx, e⟩ := slots_has ls (t + 1) (n + l.length) k (by omega) (by omega)
      exact ⟨x, .inr hx, e⟩
/-- A slot's number tells its place, and its place its number. -/
theorem slots_one : ∀ (zs : List (List S53)) (t n : Int) (x y : Int × Int × Int), x ∈ slotsFrom t n zs → y ∈ slotsFrom t n zs → (x.1 = y.1 ∨ (x.2.1 = y.2.1 ∧ x.2.2 = y.2.2)) → x = y
  | [], t, n, x, y, hx, hy, h => by simp [slotsFrom] at hx
  | l :: ls, t, n, x, y, hx, hy, h => by
    simp only [slotsFrom, List.mem_append] at hx hy
    rcases hx with hx | hx <;> rcases hy with hy | hy
    · obtain ⟨a1, a2, a3, a4⟩ := row_mem hx
      obtain ⟨b1, b2, b3, b4⟩ := row_mem hy
      have e : x.1 = y.1 := by omega
      exact Prod.ext e (Prod.ext (by omega) (by omega))
    · obtain ⟨a1, a2, a3, a4⟩ := row_mem hx
      obtain ⟨b1, b2, b3⟩ := slots_mem ls _ _ y hy
      omega
    · obtain ⟨a1, a2, a3⟩ := slots_mem ls _ _ x hx
      obtain ⟨b1, b2, b3, b4⟩ := row_mem hy
      omega
    · exact slots_one ls _ _ x y hx hy h
theorem of_cases (B : List (List S53)) (n : Int) : (∃ x ∈ slotsFrom 0 0 B, x.1 = n ∧ ofF B n = (x.2.1, x.2.2, true)) ∨ (ofF B n = (0, 0, false) ∧ ∀ x ∈ slotsFrom 0 0 B, x.1 ≠ n) := by
  unfold ofF
  cases h : (slotsFrom 0 0 B).find? (fun x => x.1 == n) with
  | some x => exact .inl ⟨x, List.mem_of_find?_eq_some h, by simpa using List.find?_some h, rfl⟩
  | none => exact .inr ⟨rfl, fun x hx e => by have := List.find?_eq_none.1 h x hx; simp at this; exact this e⟩
theorem num_cases (B : List (List S53)) (t a : Int) : (∃ x ∈ slotsFrom 0 0 B, x.2.1 = t ∧ x.2.2 = a ∧ numF B t a = x.1) ∨ (numF B t a = -1 ∧ ∀ x ∈ slotsFrom 0 0 B, ¬ (x.2.1 = t ∧ x.2.2 = a)) := by
  unfold numF
  cases h : (slotsFrom 0 0 B).find? (fun x => x.2.1 == t && x.2.2 == a) with
  | some x =>
    have := List.find?_some h
    simp only [Bool.and_eq_true, beq_iff_eq] at this
    exact .inl ⟨x, List.mem_of_find?_eq_some h, this.1, this.2, rfl⟩
  | none => exact .inr ⟨rfl, fun x hx e => by have := List.find?_eq_none.1 h x hx; simp at this; exact this e.1 e.2⟩
theorem of_is (B : List (List S53)) (n : Int) : (ofF B n).2.2 = decide (0 ≤ n ∧ n < (tot B : Int)) := by
  rcases of_cases B n with ⟨x, hx, e, h⟩ | ⟨h, hn⟩
  · obtain ⟨h1, h2, _⟩ := slots_mem B 0 0 x hx
    rw [h]
    exact (decide_eq_true (by omega)).symm
  · rw [h]
    refine (decide_eq_false fun hh => ?_).symm
    obtain ⟨x, hx, e⟩ := slots_has B 0 0 n hh.1 (by omega)
    exact hn x hx e
theorem num_of (B : List (List S53)) (n : Int) (h : (ofF B n).2.2 = true) : numF B (ofF B n).1 (ofF B n).2.1 = n := by
  rcases of_cases B n with ⟨x, hx, e, h'⟩ | ⟨h', _⟩
  · rw [h']
    rcases num_cases B x.2.1 x.2.2 with ⟨y, hy, e1, e2, h2⟩ | ⟨_, hn⟩
    · rw [h2, slots_one B 0 0 y x hy hx (.inr ⟨e1, e2⟩)]; exact e
    · exact absurd ⟨rfl, rfl⟩ (hn x hx)
  · rw [h'] at h; simp at h
theorem of_num (B : List (List S53)) (t a : Int) (h : ¬ numF B t a < 0) : ofF B (numF B t a) = (t, a, true) := by
  rcases num_cases B t a with ⟨x, hx, e1, e2, h'⟩ | ⟨h', _⟩
  · rw [h']
    rcases of_cases B x.1 with ⟨y, hy, e, h2⟩ | ⟨_, hn⟩
    · rw [h2, slots_one B 0 0 y x hy hx (.inl e), e1, e2]
    · exact absurd rfl (hn x hx)
  · rw [h'] at h; exact absurd (by decide) h
theorem num_neg (B : List (List S53)) (t a : Int) (h : numF B t a < 0) : numF B t a = -1 := by
  rcases num_cases B t a with ⟨x, hx, e1, e2, h'⟩ | ⟨h', _⟩
  · obtain ⟨h1, _⟩ := slots_mem B 0 0 x hx; omega
  · exact h'
theorem tot_bound : ∀ B : List (List S53), (∀ l ∈ B, l.length ≤ 80) → tot B ≤ 80 * B.length
  | [], _ => by simp [tot]
  | l :: ls, h => by
    have h1 := h l (List.mem_cons_self ..)
    have h2 := tot_bound ls (fun x hx => h x (List.mem_cons_of_mem _ hx))
    simp only [tot, List.length_cons]
    omega
theorem codeB_ok {A : List Int} {B : List (List S53)} (h : CodeOk 80 A B) : codeB B = true := by
  have h1 := h.few
  have h2 := tot_bound B (fun l hl => by
    obtain ⟨i, hi⟩ := List.getElem?_of_mem hl
    have hlt := (List.getElem?_eq_some_iff.1 hi).1
    have := (h.rows (i : Int) (by omega) (by omega)).1
    have e : rd_L3 B (i : Int) = l := by unfold rd_L3; rw [Int.toNat_natCast, List.getD_eq_getElem?_getD, hi]; rfl
    rw [e] at this; exact this)
  unfold codeB
  simp only [Bool.and_eq_true, decide_eq_true_eq]
  omega
end Go.Proofs.Ytijpfonbeepmfaa.Print
namespace Go.Proofs.Ytijpfonbeepmfaa.Pure
open Go.Proofs.Ytijpfonbeepmfaa.Print Go.RowKit Go.Proofs.YtijpfonbeepmfaaW.PrintWords Go.Proofs.YtijpfonbeepmfaaW.PrintLast Go.Proofs.YtijpfonbeepmfaaW.PrintMore
set_option linter.unusedVariables false
set_option linter.unusedSimpArgs false
theorem SlotsNums (x0 : S25) (x1 : Int) (x2 : Int) (x3 : Int) (g0 : ok25 x0) (g1 : (Lit.int .i64 x1).wf = true) (g2 : (Lit.int .i64 x2).wf = true) (g3 : (Lit.int .i64 x3).wf = true) : ∃ k, fencepostlaw08_SlotsNums.f k x0.f0 x0.f1 x1 x2 x3 = some true := by
  refine Ev.rounds (r := true) ?_
  unfold fencepostlaw08_SlotsNums.f
  simp only [fencepostlaw08_head.f, Option.bind_some]
  obtain ⟨g, hg, hok⟩ := great8_ev x0.f0 x0.f1
  refine Ev.bind hg ?_
  cases g with
  | true => simp only [if_true]; exact Ev.now _
  | false =>
    simp only [Bool.false_eq_true, if_false]
    have hb := codeB_ok (hok rfl).1
    generalize x0.f1 = B at hb ⊢
    generalize x0.f0 = A
    have last : Ev (fun k => fencepostlaw08_SlotsNums.j0 k x2 x3 true false A B) true := by
      refine Ev.step (fun k => by rw [fencepostlaw08_SlotsNums.j0]) ?_
      simp only [Bool.false_eq_true, if_false, slots_Num.f, slots_Of.f, if_pos hb, Option.bind_some, if_true]
      by_cases c : numF B x2 x3 < 0
      · simp only [if_pos c, num_neg B x2 x3 c, beq_self_eq_true]
        exact Ev.now _
      · simp only [if_neg c, of_num B x2 x3 c, if_true, beq_self_eq_true]
        exact Ev.now _
    have his := of_is B x1
    have hnum := num_of B x1
    simp only [slots_Num.f, slots_Of.f, slots_Many.f, if_pos hb, Option.bind_some]
    by_cases c1 : x1 ≥ 0
    · simp only [if_pos c1]
      have e1 : (ofF B x1).2.2 = decide (x1 < (tot B : Int)) := by rw [his]; congr 1; exact propext ⟨fun h => h.2, fun h => ⟨c1, h⟩⟩
      simp only [e1, bne_self_eq_false, Bool.false_eq_true, if_false]
      by_cases c2 : x1 < (tot B : Int)
      · rw [hnum (by rw [e1]; exact decide_eq_true c2)]
        simp only [decide_eq_true c2, if_true, bne_self_eq_false]
        exact last
      · simp only [decide_eq_false c2, Bool.false_eq_true, if_false]
        exact last
    · simp only [if_neg c1]
      have e1 : (ofF B x1).2.2 = false := by rw [his]; exact decide_eq_false (fun h => c1 h.1)
      simp only [e1, bne_self_eq_false, Bool.false_eq_true, if_false]
      exact last
end Go.Proofs.Ytijpfonbeepmfaa.Pure
