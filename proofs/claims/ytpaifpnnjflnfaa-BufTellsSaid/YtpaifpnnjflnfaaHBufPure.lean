/- What buf's and ref09's printed functions answer: plain Lean. -/
import Derived.Test.YtpaifpnnjflnfaaPrint4
import Derived.Test.YtpaifpnnjflnfaaPrint3
import Derived.Test.YtpaifpnnjflnfaaPrint5
import Derived.Test.YtpaifpnnjflnfaaHClone
import Derived.Test.YtpaifpnnjflnfaaHLast
import Derived.Test.YtpaifpnnjflnfaaHPush
import Derived.Test.YtpaifpnnjflnfaaOpens
namespace Go.Proofs.Ytpaifpnnjflnfaa.Print
open Go.RowKit Go.Proofs.YtpaifpnnjflnfaaW.PrintWords Go.Proofs.YtpaifpnnjflnfaaW.PrintLast Go.Proofs.YtpaifpnnjflnfaaW.PrintMore
set_option linter.unusedVariables false
set_option linter.unusedSimpArgs false

theorem wr64 {x : Int} (h0 : -9223372036854775808 ≤ x) (h1 : x ≤ 9223372036854775807) : wrap64 x = x := by
  unfold wrap64; omega
theorem head09 : Ev (fun k => fencepostlaw09_head.f k) true := Ev.of fencepostlaw09_head.mono (k := 40) (by decide +kernel)

/-! ### rows alike -/
theorem sameI_l0 (a : List Int) (hl : a.length < 1000) : ∀ (n : Nat) (i : Int), (a.length : Int) - i ≤ n → 0 ≤ i → Ev (fun k => fencepostref07_SameInts.l0 k a a i) true := by
  intro n
  induction n with
  | zero =>
    intro i h h0
    refine Ev.step (fun k => by rw [fencepostref07_SameInts.l0]) ?_
    simp only [if_neg (show ¬ i < (a.length : Int) by omega)]
    exact Ev.now true
  | succ n ih =>
    intro i h h0
    refine Ev.step (fun k => by rw [fencepostref07_SameInts.l0]) ?_
    by_cases c : i < (a.length : Int)
    · simp only [if_pos c, if_pos h0, if_true]
      rw [wr64 (by omega) (by omega)]
      exact ih _ (by omega) (by omega)
    · simp only [if_neg c]; exact Ev.now true
theorem sameI_ev (a : List Int) (hl : a.length < 1000) : Ev (fun k => fencepostref07_SameInts.f k a a) true := by
  unfold fencepostref07_SameInts.f
  simp only [if_true]
  exact sameI_l0 a hl a.length 0 (by omega) (by omega)
theorem sameW_l0 (a : List S51) (hl : a.length < 1000) : ∀ (n : Nat) (i : Int), (a.length : Int) - i ≤ n → 0 ≤ i → Ev (fun k => fencepostref09_Same.l0 k a a i) true := by
  intro n
  induction n with
  | zero =>
    intro i h h0
    refine Ev.step (fun k => by rw [fencepostref09_Same.l0]) ?_
    simp only [if_neg (show ¬ i < (a.length : Int) by omega)]
    exact Ev.now true
  | succ n ih =>
    intro i h h0
    refine Ev.step (fun k => by rw [fencepostref09_Same.l0]) ?_
    by_cases c : i < (a.length : Int)
    · simp only [if_pos c, if_pos h0, beq_self_eq_true, Bool.not_true, Bool.or_self, Bool.false_eq_true, if_false]
      rw [wr64 (by omega) (by omega)]
      exact ih _ (by omega) (by omega)
    · simp only [if_neg c]; exact Ev.now true
theorem sameW_ev (a : List S51) (hl : a.length < 1000) : Ev (fun k => fencepostref09_Same.f k a a) true := by
  unfold fencepostref09_Same.f
  simp only [if_true]
  exact sameW_l0 a hl a.length 0 (by omega) (by omega)
theorem great_f (l : List S51) (m : List Int) : ∃ b, fencepostlaw09_great.f l m = some b ∧ (b = false → l.length ≤ 300 ∧ m.length ≤ 300) := by
  unfold fencepostlaw09_great.f
  by_cases c : (l.length : Int) > 300
  · rw [if_pos c]; exact ⟨true, rfl, fun h => by cases h⟩
  · rw [if_neg c]; exact ⟨_, rfl, fun h => by simp at h; omega⟩

/-! ### Last, View, Push -/
theorem lastF_nil (a : Int) : lastF [] a = (0, false) := rfl
theorem lastF_snoc (l : List S51) (x : S51) (a : Int) : lastF (l ++ [x]) a = if x.f0 = a then (x.f1, true) else lastF l a := by
  unfold lastF
  rw [List.reverse_append]
  by_cases c : x.f0 = a
  · simp [c]
  · simp [c]
theorem lastF_cons (x : S51) (l : List S51) (a : Int) : lastF (x :: l) a = if (lastF l a).2 = true then lastF l a else if x.f0 = a then (x.f1, true) else (0, false) := by
  unfold lastF
  rw [List.reverse_cons, List.find?_append]
  cases h : l.reverse.find? (fun x => x.f0 == a) with
  | some y => simp
  | none =>
    by_cases c : x.f0 = a
    · simp [c]
    · simp [c]
theorem lastF_mem {l : List S51} {a : Int} (h : (lastF l a).2 = true) : ∃ x ∈ l, x.f0 = a := by
  unfold lastF at h
  cases e : l.reverse.find? (fun x => x.f0 == a) with
  | none => rw [e] at h; simp at h
  | some y =>
    have h1 := List.mem_of_find?_eq_some e
    have h2 := List.find?_some e
    exact ⟨y, by simpa using h1, by simpa using h2⟩
theorem last_f {l : List S51} (hl : l.length ≤ 1000) (a : Int) : buf_Last.f l a = some (lastF l a) := by unfold buf_Last.f; rw [if_pos (by omega)]
def viewF (l : List S51) (m : List Int) (a : Int) : Int × Bool := if (lastF l a).2 = true then ((lastF l a).1, true) else if a < 0 then (0, false) else if a ≥ (m.length : Int) then (0, false) else (rd m a, true)
theorem view_tail (l : List S51) (m : List Int) (a : Int) : (if (lastF l a).2 = true then some ((lastF l a).1, true) else (if a < 0 then some (0, false) else (if a ≥ (m.length : Int) then some (0, false) else (if 0 ≤ a then (if a < (m.length : Int) then some (rd m a, true) else none) else none)))) = some (viewF l m a) := by
  unfold viewF
  by_cases c1 : (lastF l a).2 = true
  · rw [if_pos c1, if_pos c1]
  · rw [if_neg c1, if_neg c1]
    by_cases c2 : a < 0
    · rw [if_pos c2, if_pos c2]
    · rw [if_neg c2, if_neg c2]
      by_cases c3 : a ≥ (m.length : Int)
      · rw [if_pos c3, if_pos c3]
      · rw [if_neg c3, if_neg c3, if_pos (by omega), if_pos (by omega)]
theorem view_f {l : List S51} (hl : l.length ≤ 1000) (m : List Int) (a : Int) : buf_View.f l m a = some (viewF l m a) := by
  unfold buf_View.f
  rw [last_f hl]
  exact view_tail l m a
theorem push_f {l : List S51} (hl : l.length ≤ 1000) (a b : Int) : buf_Push.f l a b = some (l ++ [⟨a, b⟩]) := by unfold buf_Push.f; rw [if_pos (by omega)]
/-! ### Drain, All -/
def drainF (l : List S51) (m : List Int) : List S51 × List Int × Bool :=
  match l with
  | [] => ([], m, false)
  | x :: t => if x.f0 < 0 ∨ x.f0 ≥ (m.length : Int) then (x :: t, m, false) else (t, m.set x.f0.toNat x.f1, true)
def allF : List S51 → List Int → List Int
  | [], m => m
  | x :: t, m => if x.f0 < 0 ∨ x.f0 ≥ (m.length : Int) then m else allF t (m.set x.f0.toNat x.f1)
theorem cloneI_f {m : List Int} (hm : m.length ≤ 1000) : slices_Clone_int_int.f m = some m := by unfold slices_Clone_int_int.f; rw [if_pos (by omega)]
theorem cloneW_f {m : List S51} (hm : m.length ≤ 1000) : api_Write.f m = some m := by unfold api_Write.f; rw [if_pos (by omega)]
theorem drain_ev (l : List S51) (hl : l.length ≤ 1000) (m : List Int) (hm : m.length ≤ 1000) : Ev (fun k => buf_Drain.f k l m) (drainF l m) := by
  have stay : Ev (fun k => buf_Drain.j0 k l m true) (l, m, false) := by
    refine Ev.step (fun k => by rw [buf_Drain.j0]) ?_
    simp only [if_true, cloneW_f hl, Option.bind_some]
    exact Ev.now _
  unfold buf_Drain.f
  simp only [cloneI_f hm, Option.bind_some]
  cases l with
  | nil =>
    simp only [List.length_nil, if_pos (show ((0 : Nat) : Int) = 0 by decide)]
    exact stay
  | cons x t =>
    have e0 : rd_T51 (x :: t) 0 = x := rfl
    have hl' : t.length + 1 ≤ 1000 := hl
    simp only [e0, List.length_cons, if_neg (show ¬ ((t.length + 1 : Nat) : Int) = 0 by omega), if_pos (show 0 < ((t.length + 1 : Nat) : Int) by omega)]
    unfold drainF
    by_cases c1 : x.f0 < 0
    · simp only [if_pos c1, if_pos (show x.f0 < 0 ∨ x.f0 ≥ (m.length : Int) from .inl c1)]
      exact stay
    · by_cases c2 : x.f0 ≥ (m.length : Int)
      · simp only [if_neg c1, if_pos (show x.f0 < 0 ∨ x.f0 ≥ (m.length : Int) from .inr c2), decide_eq_true c2]
        exact stay
      · simp only [if_neg c1, if_neg (show ¬ (x.f0 < 0 ∨ x.f0 ≥ (m.length : Int)) by omega), decide_eq_false c2]
        refine Ev.step (fun k => by rw [buf_Drain.j0]) ?_
        simp only [Bool.false_eq_true, if_false, e0, List.length_cons, if_pos (show 0 < ((t.length + 1 : Nat) : Int) by omega), if_pos (show 0 ≤ x.f0 by omega), if_pos (show x.f0 < (m.length : Int) by omega), if_pos (show 1 ≤ ((t.length + 1 : Nat) : Int) by omega), List.drop_succ_cons, List.drop_zero, cloneW_f (show t.length ≤ 1000 by omega), Option.bind_some]
        exact Ev.now _
theorem allF_length : ∀ (l : List S51) (m : List Int), (allF l m).length = m.length
  | [], m => rfl
  | x :: t, m => by
    unfold allF
    split
    · rfl
    · rw [allF_length t]; simp
theorem drain_length (l : List S51) (m : List Int) : (drainF l m).2.1.length = m.length := by
  unfold drainF
  split
  · rfl
  · split <;> simp
theorem all_l0 : ∀ (l : List S51) (hl : l.length ≤ 1000) (m : List Int) (hm : m.length ≤ 1000), Ev (fun k => buf_All.l0 k l m true) (allF l m) := by
  have stop : ∀ (l : List S51) (m : List Int), Ev (fun k => buf_All.l0 k l m false) m := by
    intro l m
    refine Ev.step (fun k => by rw [buf_All.l0]) ?_
    simp only [Bool.false_eq_true, if_false]
    exact Ev.now _
  intro l
  induction l with
  | nil =>
    intro hl m hm
    refine Ev.step (fun k => by rw [buf_All.l0]) ?_
    simp only [if_true]
    refine Ev.bind (drain_ev [] hl m hm) ?_
    exact stop [] m
  | cons x t ih =>
    intro hl m hm
    have hl' : t.length + 1 ≤ 1000 := hl
    refine Ev.step (fun k => by rw [buf_All.l0]) ?_
    simp only [if_true]
    refine Ev.bind (drain_ev (x :: t) hl m hm) ?_
    unfold drainF allF
    by_cases c : x.f0 < 0 ∨ x.f0 ≥ (m.length : Int)
    · simp only [if_pos c]; exact stop _ m
    · simp only [if_neg c]; exact ih (by omega) _ (by simpa using hm)
theorem all_ev (l : List S51) (hl : l.length ≤ 1000) (m : List Int) (hm : m.length ≤ 1000) : Ev (fun k => buf_All.f k l m) (allF l m) := by
  unfold buf_All.f
  simp only [cloneI_f hm, Option.bind_some]
  exact all_l0 l hl m hm
theorem rall_l0 (l : List S51) (hl : l.length ≤ 1000) : ∀ (suf pre : List S51) (m : List Int), l = pre ++ suf → Ev (fun k => fencepostref09_All.l0 k l m (pre.length : Int)) (allF suf m) := by
  intro suf
  induction suf with
  | nil =>
    intro pre m hn
    refine Ev.step (fun k => by rw [fencepostref09_All.l0]) ?_
    simp only [if_neg (show ¬ (pre.length : Int) < (l.length : Int) by rw [hn]; simp)]
    exact Ev.now _
  | cons x s ih =>
    intro pre m hn
    have h1 : (pre.length : Int) < (l.length : Int) := by rw [hn]; simp; omega
    have e : rd_T51 l (pre.length : Int) = x := by rw [hn]; unfold rd_T51; simp
    refine Ev.step (fun k => by rw [fencepostref09_All.l0]) ?_
    simp only [e, if_pos h1, if_pos (show (0 : Int) ≤ (pre.length : Int) by omega)]
    unfold allF
    by_cases c1 : x.f0 < 0
    · simp only [if_pos c1, if_pos (show x.f0 < 0 ∨ x.f0 ≥ (m.length : Int) from .inl c1)]; exact Ev.now _
    · by_cases c2 : x.f0 ≥ (m.length : Int)
      · simp only [if_neg c1, if_pos c2, if_pos (show x.f0 < 0 ∨ x.f0 ≥ (m.length : Int) from .inr c2)]; exact Ev.now _
      · simp only [if_neg c1, if_neg c2, if_neg (show ¬ (x.f0 < 0 ∨ x.f0 ≥ (m.length : Int)) by omega), if_pos (show 0 ≤ x.f0 by omega), if_pos (show x.f0 < (m.length : Int) by omega)]
        rw [wr64 (by omega) (by omega)]
        have := ih (pre ++ [x]) (m.set x.f0.toNat x.f1) (by simp [hn])
        simpa using this
theorem rall_ev (l : List S51) (hl : l.length ≤ 1000) (m : List Int) (hm : m.length ≤ 1000) : Ev (fun k => fencepostref09_All.f k l m) (allF l m) := by
  unfold fencepostref09_All.f
  simp only [Option.bind_some, List.nil_append, List.length_nil, if_pos (show 0 + m.length < 17592186044416 by omega)]
  exact rall_l0 l hl l [] m rfl

/-! ### laws of these -/
/-- All locations are there. -/
def There (l : List S51) (n : Nat) : Prop := ∀ x ∈ l, 0 ≤ x.f0 ∧ x.f0 < (n : Int)
theorem rd_set (m : List Int) (i a v : Int) (hi : 0 ≤ i) (hl : i < (m.length : Int)) (ha : 0 ≤ a) : rd (m.set i.toNat v) a = if i = a then v else rd m a := by
  unfold rd
  rw [List.getD_eq_getElem?_getD, List.getD_eq_getElem?_getD, List.getElem?_set]
  by_cases c : i = a
  · subst c; rw [if_pos rfl, if_pos rfl, if_pos (by omega)]; rfl
  · rw [if_neg (by omega), if_neg c]
theorem all_last (a : Int) (ha : 0 ≤ a) : ∀ (l : List S51) (m : List Int), There l m.length → rd (allF l m) a = if (lastF l a).2 = true then (lastF l a).1 else rd m a
  | [], m, _ => rfl
  | x :: t, m, h => by
    have hx := h x (by simp)
    unfold allF
    rw [if_neg (by omega), all_last a ha t (m.set x.f0.toNat x.f1) (fun y hy => by rw [List.length_set]; exact h y (by simp [hy])), lastF_cons]
    by_cases c : (lastF t a).2 = true
    · simp [c]
    · rw [if_neg c, if_neg c, rd_set m x.f0 a x.f1 hx.1 hx.2 ha]
      by_cases d : x.f0 = a
      · simp [d]
      · simp [d]
theorem allF_in {x : S51} {t : List S51} {m : List Int} (h : 0 ≤ x.f0 ∧ x.f0 < (m.length : Int)) : allF (x :: t) m = allF t (m.set x.f0.toNat x.f1) := by
  show (if x.f0 < 0 ∨ x.f0 ≥ (m.length : Int) then m else allF t (m.set x.f0.toNat x.f1)) = _
  rw [if_neg (by omega)]
theorem all_append : ∀ (b c : List S51) (m : List Int), There b m.length → allF (b ++ c) m = allF c (allF b m)
  | [], c, m, _ => rfl
  | x :: t, c, m, h => by
    have hx := h x (by simp)
    show allF (x :: (t ++ c)) m = _
    rw [allF_in hx, allF_in hx]
    exact all_append t c (m.set x.f0.toNat x.f1) (fun y hy => by rw [List.length_set]; exact h y (by simp [hy]))
theorem rdW_get {l : List S51} {pre : List S51} {x : S51} {s : List S51} (h : l = pre ++ x :: s) : rd_T51 l (pre.length : Int) = x := by
  rw [h]; unfold rd_T51; simp
end Go.Proofs.Ytpaifpnnjflnfaa.Print
