/- A thread with fences: plain Lean. -/
import Derived.Test.YtodjfbcpohcbaaaHSlotsAll
namespace Go.Proofs.Ytodjfbcpohcbaaa.Print
open Go.RowKit Go.Proofs.YtodjfbcpohcbaaaW.PrintWords Go.Proofs.YtodjfbcpohcbaaaW.PrintLast Go.Proofs.YtodjfbcpohcbaaaW.PrintMore
set_option linter.unusedVariables false
set_option linter.unusedSimpArgs false

theorem irdT_nat (l : List S49) (t : Nat) (h : t < l.length) : rd_T49 l (t : Int) = l[t] := by
  unfold rd_T49
  rw [List.getD_eq_getElem?_getD, show ((t : Int)).toNat = t by omega, List.getElem?_eq_getElem h]; rfl
theorem irdT_left (a b : List S49) (t : Nat) (h : t < a.length) : rd_T49 (a ++ b) (t : Int) = rd_T49 a (t : Int) := by
  unfold rd_T49
  rw [List.getD_eq_getElem?_getD, List.getD_eq_getElem?_getD, show ((t : Int)).toNat = t by omega, List.getElem?_append_left h]
theorem irdT_at (a b : List S49) (x : S49) (t : Nat) (h : t = a.length) : rd_T49 (a ++ x :: b) (t : Int) = x := by
  unfold rd_T49
  subst h
  rw [List.getD_eq_getElem?_getD, show ((a.length : Int)).toNat = a.length by omega, List.getElem?_append_right (Nat.le_refl _), Nat.sub_self]; rfl
/-- Which slots of a thread, whose first one is n, are in a row. -/
def fset (g : List Int) (n : Int) (i : Nat) : Bool := decide (n + (i : Int) ∈ g)
def cnt (F : Nat → Bool) (i : Nat) : Nat := ((List.range i).filter F).length
theorem cnt_zero (F : Nat → Bool) : cnt F 0 = 0 := rfl
theorem cnt_succ (F : Nat → Bool) (i : Nat) : cnt F (i + 1) = cnt F i + if F i = true then 1 else 0 := by
  unfold cnt
  rw [List.range_succ, List.filter_append, List.length_append]
  cases h : F i <;> simp [h]
theorem cnt_le (F : Nat → Bool) (i : Nat) : cnt F i ≤ i := by
  unfold cnt
  have := List.length_filter_le F (List.range i)
  rwa [List.length_range] at this
theorem cnt_congr {F G : Nat → Bool} {n : Nat} (h : ∀ i, i < n → F i = G i) : cnt F n = cnt G n := by
  unfold cnt
  rw [List.filter_congr (fun x hx => h x (by simpa using hx))]
/-- Where a step, with its fence, begins; where it stands itself. -/
def bg (F : Nat → Bool) (i : Nat) : Nat := i + cnt F i
def ps (F : Nat → Bool) (i : Nat) : Nat := bg F i + if F i = true then 1 else 0
theorem bg_zero (F : Nat → Bool) : bg F 0 = 0 := rfl
theorem bg_succ (F : Nat → Bool) (i : Nat) : bg F (i + 1) = ps F i + 1 := by unfold ps bg; rw [cnt_succ]; omega
theorem bg_le_ps (F : Nat → Bool) (i : Nat) : bg F i ≤ ps F i := by unfold ps; omega
theorem ps_le (F : Nat → Bool) (i : Nat) : ps F i ≤ bg F i + 1 := by unfold ps; split <;> omega
theorem ps_of (F : Nat → Bool) {i : Nat} (h : F i = true) : ps F i = bg F i + 1 := by unfold ps; rw [if_pos h]
theorem ps_not (F : Nat → Bool) {i : Nat} (h : F i = false) : ps F i = bg F i := by unfold ps; rw [h]; simp
theorem bg_mono (F : Nat → Bool) {i j : Nat} (h : i ≤ j) : bg F i ≤ bg F j := by
  induction j with
  | zero => obtain rfl : i = 0 := by omega
            exact Nat.le_refl _
  | succ j ih =>
    rcases Nat.lt_or_eq_of_le h with h1 | h1
    · have := ih (by omega); have := bg_succ F j; have := bg_le_ps F j; omega
    · rw [h1]; exact Nat.le_refl _
theorem ps_lt_bg (F : Nat → Bool) {i j : Nat} (h : i < j) : ps F i < bg F j := by
  have := bg_mono F (show i + 1 ≤ j by omega)
  rw [bg_succ] at this
  omega
theorem bg_inj (F : Nat → Bool) {i j : Nat} (h : bg F i = bg F j) : i = j := by
  rcases Nat.lt_trichotomy i j with c | c | c
  · have := ps_lt_bg F c; have := bg_le_ps F i; omega
  · exact c
  · have := ps_lt_bg F c; have := bg_le_ps F j; omega
theorem ps_inj (F : Nat → Bool) {i j : Nat} (h : ps F i = ps F j) : i = j := by
  rcases Nat.lt_trichotomy i j with c | c | c
  · have := ps_lt_bg F c; have := bg_le_ps F j; omega
  · exact c
  · have := ps_lt_bg F c; have := bg_le_ps F i; omega
/-- A step's own place is another one's beginning just if that is its own, and it has no fence. -/
theorem ps_bg (F : Nat → Bool) {i j : Nat} (h : ps F i = bg F j) : i = j ∧ F i = false := by
  rcases Nat.lt_trichotomy i j with c | c | c
  · have := ps_lt_bg F c; omega
  · subst c
    refine ⟨rfl, ?_⟩
    cases hf : F i with
    | false => rfl
    | true => have := ps_of F hf; omega
  · have := ps_lt_bg F c; have := bg_le_ps F j; have := bg_le_ps F i; omega
def shiftS (F : Nat → Bool) (x : S49) : S49 := if x.f0 ≥ 8 then ⟨x.f0, x.f1, x.f2, x.f3, x.f4 + (cnt F x.f4.toNat : Int)⟩ else x
theorem shiftS_f0 (F : Nat → Bool) (x : S49) : (shiftS F x).f0 = x.f0 := by unfold shiftS; split <;> rfl
def fenceS : S49 := ⟨6, 0, 0, 0, 0⟩
def insN (F : Nat → Bool) (l : List S49) : Nat → List S49
  | 0 => []
  | i + 1 => (insN F l i ++ if F i = true then [fenceS] else []) ++ [shiftS F (rd_T49 l (i : Int))]
theorem insN_length (F : Nat → Bool) (l : List S49) : ∀ n, (insN F l n).length = bg F n
  | 0 => rfl
  | n + 1 => by
    rw [insN, List.length_append, List.length_append, insN_length F l n, bg_succ, ps]
    cases F n <;> simp
theorem insN_le (F : Nat → Bool) (l : List S49) (n : Nat) : (insN F l n).length ≤ 2 * n := by
  rw [insN_length]; unfold bg; have := cnt_le F n; omega
theorem insN_at (F : Nat → Bool) (l : List S49) : ∀ n i, i < n → (F i = true → rd_T49 (insN F l n) (bg F i : Int) = fenceS) ∧ rd_T49 (insN F l n) (ps F i : Int) = shiftS F (rd_T49 l (i : Int))
  | 0, i, h => by omega
  | n + 1, i, h => by
    have hl := insN_length F l n
    have hps := ps_le F n
    rcases Nat.lt_or_eq_of_le (Nat.le_of_lt_succ h) with c | c
    · obtain ⟨h1, h2⟩ := insN_at F l n i c
      have h3 := ps_lt_bg F c
      have h4 := bg_le_ps F i
      rw [insN, List.append_assoc]
      refine ⟨fun hf => ?_, ?_⟩
      · rw [irdT_left _ _ _ (by omega)]; exact h1 hf
      · rw [irdT_left _ _ _ (by omega)]; exact h2
    · subst c
      refine ⟨fun hf => ?_, ?_⟩
      · rw [insN, if_pos hf, List.append_assoc]
        exact irdT_at _ _ _ _ hl.symm
      · rw [insN]
        refine irdT_at _ _ _ _ ?_
        rw [List.length_append, hl, ps]
        cases F i <;> simp
theorem insN_split (F : Nat → Bool) (b : Nat) : ∀ n, b < bg F n → ∃ i, i < n ∧ ((F i = true ∧ b = bg F i) ∨ b = ps F i)
  | 0, h => by rw [bg_zero] at h; omega
  | n + 1, h => by
    rw [bg_succ] at h
    by_cases c : b < bg F n
    · obtain ⟨i, hi, hh⟩ := insN_split F b n c
      exact ⟨i, by omega, hh⟩
    · refine ⟨n, by omega, ?_⟩
      cases hf : F n with
      | false => have := ps_not F hf; right; omega
      | true =>
        have := ps_of F hf
        by_cases e : b = bg F n
        · exact .inl ⟨rfl, e⟩
        · right; omega
theorem insN_congr {F G : Nat → Bool} (l : List S49) {n : Nat} (h : ∀ i, i < n → F i = G i) (hs : ∀ i : Nat, i < n → shiftS F (rd_T49 l (i : Int)) = shiftS G (rd_T49 l (i : Int))) : insN F l n = insN G l n := by
  induction n with
  | zero => rfl
  | succ n ih => rw [insN, insN, ih (fun i hi => h i (by omega)) (fun i hi => hs i (by omega)), h n (by omega), hs n (by omega)]
def insAll (g : List Int) : Int → List (List S49) → List (List S49)
  | _, [] => []
  | n, l :: ls => insN (fset g n) l l.length :: insAll g (n + (l.length : Int)) ls
theorem insAll_length (g : List Int) : ∀ (B : List (List S49)) (n : Int), (insAll g n B).length = B.length
  | [], n => rfl
  | l :: ls, n => by simp [insAll, insAll_length g ls]
theorem insAll_append (g : List Int) : ∀ (a b : List (List S49)) (n : Int), insAll g n (a ++ b) = insAll g n a ++ insAll g (n + (tot a : Int)) b
  | [], b, n => by simp [insAll, tot]
  | l :: ls, b, n => by
    simp only [List.cons_append, insAll, insAll_append g ls, tot]
    congr 3; omega
theorem insAll_get (g : List Int) : ∀ (B : List (List S49)) (n : Int) (t : Nat) (h : t < B.length), (insAll g n B)[t]? = some (insN (fset g (n + (tot (B.take t) : Int))) B[t] B[t].length)
  | [], n, t, h => by simp at h
  | l :: ls, n, 0, h => by simp [insAll, tot]
  | l :: ls, n, t + 1, h => by
    simp only [insAll, List.getElem?_cons_succ, List.take_succ_cons, tot, List.getElem_cons_succ]
    rw [insAll_get g ls _ t (by simpa using h)]
    congr 3; omega
end Go.Proofs.Ytodjfbcpohcbaaa.Print
