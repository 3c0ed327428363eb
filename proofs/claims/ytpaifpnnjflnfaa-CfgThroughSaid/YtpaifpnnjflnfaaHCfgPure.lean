/- What the printed functions of law18 answer: plain Lean. -/
import Derived.Test.YtpaifpnnjflnfaaPrint6
import Derived.Test.YtpaifpnnjflnfaaOpens
import Derived.Test.YtpaifpnnjflnfaaHCfg
import Derived.Test.YtpaifpnnjflnfaaHWays
namespace Go.Proofs.Ytpaifpnnjflnfaa.Print
open Go.RowKit Go.Maps Go.Proofs.YtpaifpnnjflnfaaW.PrintWords Go.Proofs.YtpaifpnnjflnfaaW.PrintLast Go.Proofs.YtpaifpnnjflnfaaW.PrintMore
set_option linter.unusedVariables false
set_option linter.unusedSimpArgs false

theorem w64 {x : Int} (h0 : -9223372036854775808 ≤ x) (h1 : x ≤ 9223372036854775807) : wrap64 x = x := by
  unfold wrap64; omega

theorem head18 : Ev (fun k => fencepostlaw18_head.f k) true := Ev.of fencepostlaw18_head.mono (k := 40) (by decide +kernel)

/-! ### SameInts -/
theorem same_l0 (a : List Int) (hl : a.length < 1000) : ∀ (n : Nat) (i : Int), (a.length : Int) - i ≤ n → 0 ≤ i → Ev (fun k => fencepostref07_SameInts.l0 k a a i) true := by
  intro n
  induction n with
  | zero =>
    intro i h h0
    refine Ev.step (fun k => by rw [fencepostref07_SameInts.l0]) ?_
    simp only [if_neg (show ¬ i < (a.length : Int) by omega)]
    exact Ev.now true
  | succ n ih =>
    intro i h h0
    refine Ev.step (fun k => by rw [fencepostref07_SameInts.l0]) ?_
    by_cases c : i < (a.length : Int)
    · simp only [if_pos c, if_pos h0, if_true]
      rw [w64 (by omega) (by omega)]
      exact ih _ (by omega) (by omega)
    · simp only [if_neg c]; exact Ev.now true
theorem same_ev (a : List Int) (hl : a.length < 1000) : Ev (fun k => fencepostref07_SameInts.f k a a) true := by
  unfold fencepostref07_SameInts.f
  simp only [if_true]
  exact same_l0 a hl a.length 0 (by omega) (by omega)

/-! ### Good -/
theorem right_j5 (k : Nat) (x2 x3 : Int) (b : Bool) (s0 s1 s2 s3 s4 : Int) : ∃ r, fencepostref07_right.j5 (k + 1) x2 x3 b s0 s1 s2 s3 s4 = some r ∧ (r = true → s0 ≥ 8 → s4 > x2 ∧ s4 ≤ x3) := by
  rw [fencepostref07_right.j5]
  repeat' split
  all_goals refine ⟨_, rfl, fun h h8 => ?_⟩
  all_goals first | (simp at h; done) | (simp at h; omega) | omega
theorem right_j4 (k : Nat) (x2 x3 : Int) (b b' : Bool) (A : List Int) (B : List (List S33)) (s0 s1 s2 s3 s4 : Int) : ∃ r, fencepostref07_right.j4 (k + 2) x2 x3 b b' A B s0 s1 s2 s3 s4 = some r ∧ (r = true → s0 ≥ 8 → s4 > x2 ∧ s4 ≤ x3) := by
  rw [fencepostref07_right.j4]
  repeat' split
  all_goals first | exact right_j5 .. | exact ⟨_, rfl, fun h => by simp at h⟩
theorem right_j3 (k : Nat) (x2 x3 : Int) (b b' b2 : Bool) (A : List Int) (B : List (List S33)) (s0 s1 s2 s3 s4 : Int) : ∃ r, fencepostref07_right.j3 (k + 3) x2 x3 b b' b2 A B s0 s1 s2 s3 s4 = some r ∧ (r = true → s0 ≥ 8 → s4 > x2 ∧ s4 ≤ x3) := by
  rw [fencepostref07_right.j3]
  repeat' split
  all_goals exact right_j4 ..
theorem right_j2 (k : Nat) (x2 x3 : Int) (b b' : Bool) (A : List Int) (B : List (List S33)) (s0 s1 s2 s3 s4 : Int) : ∃ r, fencepostref07_right.j2 (k + 4) x2 x3 b b' A B s0 s1 s2 s3 s4 = some r ∧ (r = true → s0 ≥ 8 → s4 > x2 ∧ s4 ≤ x3) := by
  rw [fencepostref07_right.j2]
  repeat' split
  all_goals exact right_j3 ..
theorem right_j1 (k : Nat) (x2 x3 : Int) (b : Bool) (A : List Int) (B : List (List S33)) (s0 s1 s2 s3 s4 : Int) : ∃ r, fencepostref07_right.j1 (k + 5) x2 x3 b A B s0 s1 s2 s3 s4 = some r ∧ (r = true → s0 ≥ 8 → s4 > x2 ∧ s4 ≤ x3) := by
  rw [fencepostref07_right.j1]
  repeat' split
  all_goals exact right_j2 ..
theorem right_j0 (k : Nat) (x2 x3 : Int) (b : Bool) (A : List Int) (B : List (List S33)) (s0 s1 s2 s3 s4 : Int) : ∃ r, fencepostref07_right.j0 (k + 6) x2 x3 b A B s0 s1 s2 s3 s4 = some r ∧ (r = true → s0 ≥ 8 → s4 > x2 ∧ s4 ≤ x3) := by
  rw [fencepostref07_right.j0]
  repeat' split
  all_goals first | exact right_j1 .. | exact ⟨_, rfl, fun h => by simp at h⟩
theorem right_ev (A : List Int) (B : List (List S33)) (s0 s1 s2 s3 s4 x2 x3 : Int) : ∃ r, Ev (fun k => fencepostref07_right.f k A B s0 s1 s2 s3 s4 x2 x3) r ∧ (r = true → s0 ≥ 8 → s4 > x2 ∧ s4 ≤ x3) := by
  have key : ∃ r, fencepostref07_right.f 6 A B s0 s1 s2 s3 s4 x2 x3 = some r ∧ (r = true → s0 ≥ 8 → s4 > x2 ∧ s4 ≤ x3) := by
    unfold fencepostref07_right.f
    split
    · exact right_j0 0 ..
    · exact right_j0 0 ..
  obtain ⟨r, hr, h⟩ := key
  exact ⟨r, Ev.of (fencepostref07_right.mono _ _ _ _ _ _ _ _ _) hr, h⟩

/-- Steps from i on jump right. -/
def FwdFrom (l : List S33) (i : Int) : Prop := ∀ j : Int, i ≤ j → j < (l.length : Int) → (rd_T33 l j).f0 ≥ 8 → (rd_T33 l j).f4 > j ∧ (rd_T33 l j).f4 ≤ (l.length : Int)
theorem Right_l1 (A : List Int) (l : List S33) (hl : l.length ≤ 80) : ∀ (n : Nat) (i : Int), (l.length : Int) - i ≤ n → 0 ≤ i → ∃ r, Ev (fun k => fencepostref07_Right.l1 k 0 i A [l]) r ∧ (r = true → FwdFrom l i) := by
  have e0 : rd_L2 [l] 0 = l := rfl
  intro n
  induction n with
  | zero =>
    intro i h h0
    refine ⟨true, ?_, fun _ j h1 h2 => by omega⟩
    refine Ev.step (fun k => by rw [fencepostref07_Right.l1]) ?_
    simp only [e0, if_pos (show (0 : Int) ≤ 0 by decide), List.length_cons, List.length_nil, if_pos (show (0 : Int) < ((0 + 1 : Nat) : Int) by decide), if_neg (show ¬ i < (l.length : Int) by omega)]
    refine Ev.step (fun k => by rw [fencepostref07_Right.l0]) ?_
    simp only [if_neg (show ¬ wrap64 (0 + 1) < (([l].length : Nat) : Int) by simp [wrap64])]
    exact Ev.now true
  | succ n ih =>
    intro i h h0
    by_cases c : i < (l.length : Int)
    · obtain ⟨r, hr, hg⟩ := right_ev A [l] ((rd_T33 l i).f0) ((rd_T33 l i).f1) ((rd_T33 l i).f2) ((rd_T33 l i).f3) ((rd_T33 l i).f4) i (l.length : Int)
      obtain ⟨q, hq, hg2⟩ := ih (i + 1) (by omega) (by omega)
      refine ⟨if r = true then q else false, ?_, ?_⟩
      · refine Ev.step (fun k => by rw [fencepostref07_Right.l1]) ?_
        simp only [e0, if_pos (show (0 : Int) ≤ 0 by decide), List.length_cons, List.length_nil, if_pos (show (0 : Int) < ((0 + 1 : Nat) : Int) by decide), if_pos c, if_pos h0]
        refine Ev.bind hr ?_
        cases r with
        | true => simp only [if_true]; rw [w64 (by omega) (by omega)]; exact hq
        | false => exact Ev.now false
      · intro ht
        cases r with
        | false => simp at ht
        | true =>
          simp at ht
          intro j h1 h2 h8
          rcases Int.lt_or_eq_of_le h1 with h3 | h3
          · exact hg2 ht j (by omega) h2 h8
          · subst h3; exact hg rfl h8
    · refine ⟨true, ?_, fun _ j h1 h2 => by omega⟩
      refine Ev.step (fun k => by rw [fencepostref07_Right.l1]) ?_
      simp only [e0, if_pos (show (0 : Int) ≤ 0 by decide), List.length_cons, List.length_nil, if_pos (show (0 : Int) < ((0 + 1 : Nat) : Int) by decide), if_neg c]
      refine Ev.step (fun k => by rw [fencepostref07_Right.l0]) ?_
      simp only [if_neg (show ¬ wrap64 (0 + 1) < (([l].length : Nat) : Int) by simp [wrap64])]
      exact Ev.now true
theorem fwdB_of {l : List S33} (h : FwdFrom l 0) : fwdB l = true := by
  unfold fwdB
  rw [List.all_eq_true]
  intro i hi
  rw [List.mem_range] at hi
  by_cases c : ((rd_T33 l i).f0 == 8 || (rd_T33 l i).f0 == 9 || (rd_T33 l i).f0 == 10) = true
  · have := h i (by omega) (by omega) (by simp at c; omega)
    simp only [c, Bool.not_true, Bool.false_or, Bool.and_eq_true, decide_eq_true_eq]
    omega
  · simp only [Bool.not_eq_true] at c
    simp [c]
theorem good_ev (l : List S33) : ∃ r, Ev (fun k => fencepostlaw18_Good.f k l) r ∧ (r = true → l.length ≤ 80 ∧ fwdB l = true) := by
  unfold fencepostlaw18_Good.f
  by_cases c : (l.length : Int) ≤ 80
  · obtain ⟨r, hr, hg⟩ := Right_l1 (List.replicate 4 0) l (by omega) l.length 0 (by omega) (by omega)
    refine ⟨r, ?_, fun h => ⟨by omega, fwdB_of (hg h)⟩⟩
    simp only [if_pos c, if_pos (show 4 ≤ 35184372088832 by decide)]
    refine Ev.bind ?_ (Ev.now r)
    unfold fencepostref07_Right.f
    simp only [List.length_replicate, List.length_cons, List.length_nil]
    simp only [if_neg (show ¬ ((4 : Nat) : Int) > 4 by decide), if_neg (show ¬ ((0 + 1 : Nat) : Int) < 1 by decide), show (decide (((0 + 1 : Nat) : Int) > 3)) = false from rfl]
    refine Ev.step (fun k => by rw [fencepostref07_Right.j0]) ?_
    simp only [Bool.false_eq_true, if_false]
    refine Ev.step (fun k => by rw [fencepostref07_Right.l0]) ?_
    have e0 : rd_L2 [l] 0 = l := rfl
    simp only [e0, List.length_cons, List.length_nil, if_pos (show (0 : Int) < ((0 + 1 : Nat) : Int) by decide), if_pos (show (0 : Int) ≤ 0 by decide), if_neg (show ¬ (l.length : Int) > 80 by omega)]
    exact hr
  · refine ⟨false, ?_, fun h => by simp at h⟩
    simp only [if_neg c]
    exact Ev.now false

/-! ### Next -/
theorem rnext_ev (l : List S33) (hl : l.length ≤ 80) (a : Int) : Ev (fun k => fencepostref18_Next.f k l a) (nexts l a) := by
  refine Ev.of (fencepostref18_Next.mono _ _) (k := 1) ?_
  unfold fencepostref18_Next.f nexts
  by_cases c : a < 0
  · simp only [if_pos c]; rw [fencepostref18_Next.j0]; simp
  · simp only [if_neg c]
    rw [fencepostref18_Next.j0]
    by_cases d : a < (l.length : Int)
    · have e1 : wrap64 (a + 1) = a + 1 := w64 (by omega) (by omega)
      simp only [show decide (a ≥ (l.length : Int)) = false from decide_eq_false (by omega), Bool.false_eq_true, if_false, if_pos (show 0 ≤ a by omega), if_pos d, e1]
      unfold nextOf
      repeat' split
      all_goals first | rfl | (exfalso; omega)
    · simp only [show decide (a ≥ (l.length : Int)) = true from decide_eq_true (by omega), if_true, if_neg d]

end Go.Proofs.Ytpaifpnnjflnfaa.Print
