/- What is known of a code that is not too much (law 08): plain Lean. -/
import Derived.Test.YtijpfonbeepmfaaPrint10
namespace Go.Proofs.Ytijpfonbeepmfaa.Print
open Go.RowKit Go.Proofs.YtijpfonbeepmfaaW.PrintWords Go.Proofs.YtijpfonbeepmfaaW.PrintLast Go.Proofs.YtijpfonbeepmfaaW.PrintMore
set_option linter.unusedVariables false
set_option linter.unusedSimpArgs false
theorem w64 {x : Int} (h0 : -9223372036854775808 ≤ x) (h1 : x ≤ 9223372036854775807) : wrap64 x = x := by
 unfold wrap64; omega
def JumpOk (at_ many s0 s4 : Int) : Prop := s0 ≥ 8 → s4 > at_ ∧ s4 ≤ many
theorem right_j5 (k : Nat) (x2 x3 : Int) (b : Bool) (s0 s1 s2 s3 s4 : Int) : ∃ r, fencepostref07_right.j5 (k + 1) x2 x3 b s0 s1 s2 s3 s4 = some r ∧ (r = true → b = false ∧ JumpOk x2 x3 s0 s4) := by
 rw [fencepostref07_right.j5]
 unfold JumpOk
 cases b with
 | true => exact ⟨false, rfl, fun h => by simp at h⟩
 | false =>
  simp only [Bool.false_eq_true, if_false]
  repeat' split
  all_goals refine ⟨_, rfl, fun h => ⟨by trivial, fun h8 => ?_⟩⟩
  all_goals first | (simp at h; done) | (simp at h; omega) | omega
theorem right_j4 (k : Nat) (x2 x3 : Int) (b b' : Bool) (A : List Int) (B : List (List S53)) (s0 s1 s2 s3 s4 : Int) : ∃ r, fencepostref07_right.j4 (k + 2) x2 x3 b b' A B s0 s1 s2 s3 s4 = some r ∧ (r = true → b' = false ∧ (b = true → 0 ≤ s2 ∧ s2 < (A.length : Int)) ∧ JumpOk x2 x3 s0 s4) := by
 rw [fencepostref07_right.j4]
 cases b' with
 | true => exact ⟨false, rfl, fun h => by simp at h⟩
 | false =>
  simp only [Bool.false_eq_true, if_false]
  cases b with
  | true =>
   simp only [if_true]
   by_cases c1 : s2 < 0
   ·rw [if_pos c1]; obtain ⟨r, hr, h⟩ := right_j5 k x2 x3 true s0 s1 s2 s3 s4; exact ⟨r, hr, fun e => by have := (h e).1; simp at this⟩
   ·rw [if_neg c1]
    by_cases c2 : s2 ≥ (A.length : Int)
    ·rw [if_pos c2]; obtain ⟨r, hr, h⟩ := right_j5 k x2 x3 true s0 s1 s2 s3 s4; exact ⟨r, hr, fun e => by have := (h e).1; simp at this⟩
    ·rw [if_neg c2]; obtain ⟨r, hr, h⟩ := right_j5 k x2 x3 false s0 s1 s2 s3 s4; exact ⟨r, hr, fun e => ⟨by trivial, fun _ => ⟨by omega, by omega⟩, (h e).2⟩⟩
  | false =>
   simp only [Bool.false_eq_true, if_false]
   obtain ⟨r, hr, h⟩ := right_j5 k x2 x3 (s2 != 0) s0 s1 s2 s3 s4; exact ⟨r, hr, fun e => ⟨by trivial, fun h => by simp at h, (h e).2⟩⟩
theorem right_j3 (k : Nat) (x2 x3 : Int) (b b' b2 : Bool) (A : List Int) (B : List (List S53)) (s0 s1 s2 s3 s4 : Int) : ∃ r, fencepostref07_right.j3 (k + 3) x2 x3 b b' b2 A B s0 s1 s2 s3 s4 = some r ∧ (r = true → (0 ≤ s1 ∧ s1 ≤ 3) ∧ (b' = true → 0 ≤ s2 ∧ s2 < (A.length : Int)) ∧ JumpOk x2 x3 s0 s4) := by
 rw [fencepostref07_right.j3]
 have key : ∀ q : Bool, (q = false → 0 ≤ s1 ∧ s1 ≤ 3) → ∃ r, fencepostref07_right.j4 (k + 2) x2 x3 b' q A B s0 s1 s2 s3 s4 = some r ∧ (r = true → (0 ≤ s1 ∧ s1 ≤ 3) ∧ (b' = true → 0 ≤ s2 ∧ s2 < (A.length : Int)) ∧ JumpOk x2 x3 s0 s4) := by
  intro q hq
  obtain ⟨r, hr, h⟩ := right_j4 k x2 x3 b' q A B s0 s1 s2 s3 s4
  exact ⟨r, hr, fun e => ⟨hq (h e).1, (h e).2⟩⟩
 repeat' split
 all_goals exact key _ (fun h => by first | omega | (simp at h; done))
theorem right_j2 (k : Nat) (x2 x3 : Int) (b b' : Bool) (A : List Int) (B : List (List S53)) (s0 s1 s2 s3 s4 : Int) : ∃ r, fencepostref07_right.j2 (k + 4) x2 x3 b b' A B s0 s1 s2 s3 s4 = some r ∧ (r = true → (0 ≤ s1 ∧ s1 ≤ 3) ∧ (b' = true → 0 ≤ s2 ∧ s2 < (A.length : Int)) ∧ JumpOk x2 x3 s0 s4) := by
 rw [fencepostref07_right.j2]
 repeat' split
 all_goals exact right_j3 ..
theorem right_j1 (k : Nat) (x2 x3 : Int) (b : Bool) (A : List Int) (B : List (List S53)) (s0 s1 s2 s3 s4 : Int) : ∃ r, fencepostref07_right.j1 (k + 5) x2 x3 b A B s0 s1 s2 s3 s4 = some r ∧ (r = true → (0 ≤ s1 ∧ s1 ≤ 3) ∧ ((s0 = 2 ∨ s0 = 3 ∨ s0 = 4 ∨ s0 = 5) → 0 ≤ s2 ∧ s2 < (A.length : Int)) ∧ JumpOk x2 x3 s0 s4) := by
 rw [fencepostref07_right.j1]
 have key : ∀ q : Bool, ((s0 = 2 ∨ s0 = 3 ∨ s0 = 4 ∨ s0 = 5) → q = true) → ∃ r, fencepostref07_right.j2 (k + 4) x2 x3 b q A B s0 s1 s2 s3 s4 = some r ∧ (r = true → (0 ≤ s1 ∧ s1 ≤ 3) ∧ ((s0 = 2 ∨ s0 = 3 ∨ s0 = 4 ∨ s0 = 5) → 0 ≤ s2 ∧ s2 < (A.length : Int)) ∧ JumpOk x2 x3 s0 s4) := by
  intro q hq
  obtain ⟨r, hr, h⟩ := right_j2 k x2 x3 b q A B s0 s1 s2 s3 s4
  exact ⟨r, hr, fun e => ⟨(h e).1, fun c => (h e).2.1 (hq c), (h e).2.2⟩⟩
 repeat' split
 all_goals exact key _ (fun h => by first | rfl | (simp; omega))
theorem right_j0 (k : Nat) (x2 x3 : Int) (b : Bool) (A : List Int) (B : List (List S53)) (s0 s1 s2 s3 s4 : Int) : ∃ r, fencepostref07_right.j0 (k + 6) x2 x3 b A B s0 s1 s2 s3 s4 = some r ∧ (r = true → b = false ∧ (0 ≤ s1 ∧ s1 ≤ 3) ∧ ((s0 = 2 ∨ s0 = 3 ∨ s0 = 4 ∨ s0 = 5) → 0 ≤ s2 ∧ s2 < (A.length : Int)) ∧ JumpOk x2 x3 s0 s4) := by
 rw [fencepostref07_right.j0]
 cases b with
 | true => exact ⟨false, rfl, fun h => by simp at h⟩
 | false =>
  simp only [Bool.false_eq_true, if_false]
  have key : ∀ q : Bool, ∃ r, fencepostref07_right.j1 (k + 5) x2 x3 q A B s0 s1 s2 s3 s4 = some r ∧ (r = true → false = false ∧ (0 ≤ s1 ∧ s1 ≤ 3) ∧ ((s0 = 2 ∨ s0 = 3 ∨ s0 = 4 ∨ s0 = 5) → 0 ≤ s2 ∧ s2 < (A.length : Int)) ∧ JumpOk x2 x3 s0 s4) := by
   intro q
   obtain ⟨r, hr, h⟩ := right_j1 k x2 x3 q A B s0 s1 s2 s3 s4
   exact ⟨r, hr, fun e => ⟨rfl, h e⟩⟩
  repeat' split
  all_goals first | exact key _ | (obtain ⟨r, hr, h⟩ := key _; exact ⟨r, hr, fun e => ⟨trivial, (h e).2⟩⟩)
/-- A step that may be. -/
structure StepOk (n : Nat) (at_ many : Int) (x : S53) : Prop where
 op : 1 ≤ x.f0 ∧ x.f0 ≤ 10
 reg : 0 ≤ x.f1 ∧ x.f1 ≤ 3
 loc : (x.f0 = 2 ∨ x.f0 = 3 ∨ x.f0 = 4 ∨ x.f0 = 5) → 0 ≤ x.f2 ∧ x.f2 < (n : Int)
 tgt : JumpOk at_ many x.f0 x.f4
theorem right_ev (A : List Int) (B : List (List S53)) (s0 s1 s2 s3 s4 x2 x3 : Int) : ∃ r, Ev (fun k => fencepostref07_right.f k A B s0 s1 s2 s3 s4 x2 x3) r ∧ (r = true → StepOk A.length x2 x3 ⟨s0, s1, s2, s3, s4⟩) := by
 have key : ∃ r, fencepostref07_right.f 6 A B s0 s1 s2 s3 s4 x2 x3 = some r ∧ (r = true → StepOk A.length x2 x3 ⟨s0, s1, s2, s3, s4⟩) := by
  unfold fencepostref07_right.f
  by_cases c : s0 < 1
  ·rw [if_pos c]
   obtain ⟨r, hr, h⟩ := right_j0 0 x2 x3 true A B s0 s1 s2 s3 s4
   exact ⟨r, hr, fun e => by have := (h e).1; simp at this⟩
  ·rw [if_neg c]
   obtain ⟨r, hr, h⟩ := right_j0 0 x2 x3 (decide (s0 > 10)) A B s0 s1 s2 s3 s4
   exact ⟨r, hr, fun e => by obtain ⟨h1, h2, h3, h4⟩ := h e; simp at h1; exact ⟨⟨by show 1 ≤ s0; omega, h1⟩, h2, h3, h4⟩⟩
 obtain ⟨r, hr, h⟩ := key
 exact ⟨r, Ev.of (fencepostref07_right.mono _ _ _ _ _ _ _ _ _) hr, h⟩
def RowOk (n : Nat) (l : List S53) : Prop := ∀ j : Int, 0 ≤ j → j < (l.length : Int) → StepOk n j (l.length : Int) (rd_T53 l j)
theorem Right_l1 (A : List Int) (B : List (List S53)) (t : Int) (ht0 : 0 ≤ t) (ht : t < (B.length : Int)) (hl : (rd_L3 B t).length ≤ 80) (q : Bool) (hq : Ev (fun k => fencepostref07_Right.l0 k (wrap64 (t + 1)) A B) q) :
 ∀ (n : Nat) (i : Int), ((rd_L3 B t).length : Int) - i ≤ n → 0 ≤ i → ∃ r, Ev (fun k => fencepostref07_Right.l1 k t i A B) r ∧ (r = true → q = true ∧ ∀ j : Int, i ≤ j → j < ((rd_L3 B t).length : Int) → StepOk A.length j ((rd_L3 B t).length : Int) (rd_T53 (rd_L3 B t) j)) := by
 intro n
 induction n with
 | zero =>
  intro i h h0
  refine ⟨q, ?_, fun e => ⟨e, fun j h1 h2 => by omega⟩⟩
  refine Ev.step (fun k => by rw [fencepostref07_Right.l1]) ?_
  simp only [if_pos ht0, if_pos ht, if_neg (show ¬ i < ((rd_L3 B t).length : Int) by omega)]
  exact hq
 | succ n ih =>
  intro i h h0
  by_cases c : i < ((rd_L3 B t).length : Int)
  ·obtain ⟨r, hr, hg⟩ := right_ev A B ((rd_T53 (rd_L3 B t) i).f0) ((rd_T53 (rd_L3 B t) i).f1) ((rd_T53 (rd_L3 B t) i).f2) ((rd_T53 (rd_L3 B t) i).f3) ((rd_T53 (rd_L3 B t) i).f4) i ((rd_L3 B t).length : Int)
   obtain ⟨p, hp, hg2⟩ := ih (i + 1) (by omega) (by omega)
   refine ⟨if r = true then p else false, ?_, ?_⟩
   ·refine Ev.step (fun k => by rw [fencepostref07_Right.l1]) ?_
    simp only [if_pos ht0, if_pos ht, if_pos c, if_pos h0]
    refine Ev.bind hr ?_
    cases r with
    | true => simp only [if_true]; rw [w64 (by omega) (by omega)]; exact hp
    | false => exact Ev.now false
   ·intro e
    cases r with
    | false => simp at e
    | true =>
     simp at e
     refine ⟨(hg2 e).1, fun j h1 h2 => ?_⟩
     rcases Int.lt_or_eq_of_le h1 with h3 | h3
     ·exact (hg2 e).2 j (by omega) h2
     ·subst h3; exact hg rfl
  ·refine ⟨q, ?_, fun e => ⟨e, fun j h1 h2 => by omega⟩⟩
   refine Ev.step (fun k => by rw [fencepostref07_Right.l1]) ?_
   simp only [if_pos ht0, if_pos ht, if_neg c]
   exact hq
theorem Right_l0 (A : List Int) (B : List (List S53)) (hB : B.length ≤ 1000) : ∀ (n : Nat) (t : Int), (B.length : Int) - t ≤ n → 0 ≤ t → ∃ r, Ev (fun k => fencepostref07_Right.l0 k t A B) r ∧ (r = true → ∀ i : Int, t ≤ i → i < (B.length : Int) → (rd_L3 B i).length ≤ 80 ∧ RowOk A.length (rd_L3 B i)) := by
 intro n
 induction n with
 | zero =>
  intro t h h0
  refine ⟨true, ?_, fun e i h1 h2 => by omega⟩
  refine Ev.step (fun k => by rw [fencepostref07_Right.l0]) ?_
  simp only [if_neg (show ¬ t < (B.length : Int) by omega)]
  exact Ev.now true
 | succ n ih =>
  intro t h h0
  by_cases c : t < (B.length : Int)
  ·by_cases d : ((rd_L3 B t).length : Int) > 80
   ·refine ⟨false, ?_, fun e => by simp at e⟩
    refine Ev.step (fun k => by rw [fencepostref07_Right.l0]) ?_
    simp only [if_pos c, if_pos h0, if_pos d]
    exact Ev.now false
   ·obtain ⟨q, hq, hg⟩ := ih (t + 1) (by omega) (by omega)
    have e1 : wrap64 (t + 1) = t + 1 := w64 (by omega) (by omega)
    obtain ⟨r, hr, hg2⟩ := Right_l1 A B t h0 c (by omega) q (by rw [e1]; exact hq) (rd_L3 B t).length 0 (by omega) (by omega)
    refine ⟨r, ?_, fun e i h1 h2 => ?_⟩
    ·refine Ev.step (fun k => by rw [fencepostref07_Right.l0]) ?_
     simp only [if_pos c, if_pos h0, if_neg d]
     exact hr
    ·rcases Int.lt_or_eq_of_le h1 with h3 | h3
     ·exact hg (hg2 e).1 i (by omega) h2
     ·subst h3; exact ⟨by omega, fun j => (hg2 e).2 j⟩
  ·refine ⟨true, ?_, fun e i h1 h2 => by omega⟩
   refine Ev.step (fun k => by rw [fencepostref07_Right.l0]) ?_
   simp only [if_neg c]
   exact Ev.now true
/-- A code that may be, each of its rows short enough. -/
structure CodeOk (most : Nat) (A : List Int) (B : List (List S53)) : Prop where
 locs : A.length ≤ 4
 some_ : 1 ≤ B.length
 few : B.length ≤ 3
 rows : ∀ i : Int, 0 ≤ i → i < (B.length : Int) → (rd_L3 B i).length ≤ most ∧ RowOk A.length (rd_L3 B i)
theorem Right_ev (A : List Int) (B : List (List S53)) : ∃ r, Ev (fun k => fencepostref07_Right.f k A B) r ∧ (r = true → CodeOk 80 A B) := by
 have no : Ev (fun k => fencepostref07_Right.j0 k true A B) false := by
  refine Ev.step (fun k => by rw [fencepostref07_Right.j0]) ?_
  simp only [if_true]
  exact Ev.now false
 unfold fencepostref07_Right.f
 by_cases c1 : (A.length : Int) > 4
 ·simp only [if_pos c1]; exact ⟨false, no, fun e => by simp at e⟩
 ·by_cases c2 : (B.length : Int) < 1
  ·simp only [if_neg c1, if_pos c2]; exact ⟨false, no, fun e => by simp at e⟩
  ·simp only [if_neg c1, if_neg c2]
   by_cases c3 : (B.length : Int) > 3
   ·simp only [decide_eq_true c3]; exact ⟨false, no, fun e => by simp at e⟩
   ·simp only [decide_eq_false c3]
    obtain ⟨r, hr, h⟩ := Right_l0 A B (by omega) B.length 0 (by omega) (by omega)
    refine ⟨r, ?_, fun e => ⟨by omega, by omega, by omega, fun i => h e i⟩⟩
    refine Ev.step (fun k => by rw [fencepostref07_Right.j0]) ?_
    simp only [Bool.false_eq_true, if_false]
    exact hr
theorem great7_l0 (A : List Int) (B : List (List S53)) (hB : B.length ≤ 1000) : ∀ (n : Nat) (t : Int), (B.length : Int) - t ≤ n → 0 ≤ t → ∃ r, Ev (fun k => fencepostlaw07_Great.l0 k t A B) r := by
 intro n
 induction n with
 | zero =>
  intro t h h0
  refine ⟨false, ?_⟩
  refine Ev.step (fun k => by rw [fencepostlaw07_Great.l0]) ?_
  simp only [if_neg (show ¬ t < (B.length : Int) by omega)]
  exact Ev.now _
 | succ n ih =>
  intro t h h0
  by_cases c : t < (B.length : Int)
  ·by_cases d : ((rd_L3 B t).length : Int) > 300
   ·refine ⟨true, ?_⟩
    refine Ev.step (fun k => by rw [fencepostlaw07_Great.l0]) ?_
    simp only [if_pos c, if_pos h0, if_pos d]
    exact Ev.now _
   ·obtain ⟨q, hq⟩ := ih (t + 1) (by omega) (by omega)
    refine ⟨q, ?_⟩
    refine Ev.step (fun k => by rw [fencepostlaw07_Great.l0]) ?_
    simp only [if_pos c, if_pos h0, if_neg d, w64 (show -9223372036854775808 ≤ t + 1 by omega) (by omega)]
    exact hq
  ·refine ⟨false, ?_⟩
   refine Ev.step (fun k => by rw [fencepostlaw07_Great.l0]) ?_
   simp only [if_neg c]
   exact Ev.now _
theorem great7_ev (A : List Int) (B : List (List S53)) : ∃ r, Ev (fun k => fencepostlaw07_Great.f k A B) r := by
 have no : Ev (fun k => fencepostlaw07_Great.j0 k true A B) true := by
  refine Ev.step (fun k => by rw [fencepostlaw07_Great.j0]) ?_
  simp only [if_true]
  exact Ev.now _
 unfold fencepostlaw07_Great.f
 by_cases c1 : (A.length : Int) > 60
 ·simp only [if_pos c1]; exact ⟨true, no⟩
 ·simp only [if_neg c1]
  by_cases c3 : (B.length : Int) > 9
  ·simp only [decide_eq_true c3]; exact ⟨true, no⟩
  ·simp only [decide_eq_false c3]
   obtain ⟨r, hr⟩ := great7_l0 A B (by omega) B.length 0 (by omega) (by omega)
   refine ⟨r, ?_⟩
   refine Ev.step (fun k => by rw [fencepostlaw07_Great.j0]) ?_
   simp only [Bool.false_eq_true, if_false]
   exact hr
theorem great8_l0 (A : List Int) (B : List (List S53)) (hB : B.length ≤ 1000) : ∀ (n : Nat) (t : Int), (B.length : Int) - t ≤ n → 0 ≤ t → ∃ r, Ev (fun k => fencepostlaw08_Great.l0 k t A B) r ∧ (r = false → ∀ i : Int, t ≤ i → i < (B.length : Int) → (rd_L3 B i).length ≤ 40) := by
 intro n
 induction n with
 | zero =>
  intro t h h0
  refine ⟨false, ?_, fun _ i h1 h2 => by omega⟩
  refine Ev.step (fun k => by rw [fencepostlaw08_Great.l0]) ?_
  simp only [if_neg (show ¬ t < (B.length : Int) by omega)]
  exact Ev.now _
 | succ n ih =>
  intro t h h0
  by_cases c : t < (B.length : Int)
  ·by_cases d : ((rd_L3 B t).length : Int) > 40
   ·refine ⟨true, ?_, fun e => by simp at e⟩
    refine Ev.step (fun k => by rw [fencepostlaw08_Great.l0]) ?_
    simp only [if_pos c, if_pos h0, if_pos d]
    exact Ev.now _
   ·obtain ⟨q, hq, hg⟩ := ih (t + 1) (by omega) (by omega)
    refine ⟨q, ?_, fun e i h1 h2 => ?_⟩
    ·refine Ev.step (fun k => by rw [fencepostlaw08_Great.l0]) ?_
     simp only [if_pos c, if_pos h0, if_neg d, w64 (show -9223372036854775808 ≤ t + 1 by omega) (by omega)]
     exact hq
    ·by_cases e2 : i = t
     ·subst e2; omega
     ·exact hg e i (by omega) h2
  ·refine ⟨false, ?_, fun _ i h1 h2 => by omega⟩
   refine Ev.step (fun k => by rw [fencepostlaw08_Great.l0]) ?_
   simp only [if_neg c]
   exact Ev.now _
theorem great8_ev (A : List Int) (B : List (List S53)) : ∃ r, Ev (fun k => fencepostlaw08_Great.f k A B) r ∧ (r = false → CodeOk 80 A B ∧ ∀ i : Int, 0 ≤ i → i < (B.length : Int) → (rd_L3 B i).length ≤ 40) := by
 have no : Ev (fun k => fencepostlaw08_Great.j0 k true A B) true := by
  refine Ev.step (fun k => by rw [fencepostlaw08_Great.j0]) ?_
  simp only [if_true]
  exact Ev.now _
 unfold fencepostlaw08_Great.f
 obtain ⟨g, hg⟩ := great7_ev A B
 cases g with
 | true =>
  refine ⟨true, Ev.bind hg ?_, fun e => by simp at e⟩
  simp only [if_true]; exact no
 | false =>
  obtain ⟨r, hr, h⟩ := Right_ev A B
  cases r with
  | false =>
   refine ⟨true, Ev.bind hg ?_, fun e => by simp at e⟩
   simp only [Bool.false_eq_true, if_false]
   exact Ev.bind hr no
  | true =>
   have hc := h rfl
   have h4 := hc.few
   obtain ⟨q, hq, hl⟩ := great8_l0 A B (by omega) B.length 0 (by omega) (by omega)
   refine ⟨q, Ev.bind hg ?_, fun e => ⟨hc, hl e⟩⟩
   simp only [Bool.false_eq_true, if_false]
   refine Ev.bind hr ?_
   refine Ev.step (fun k => by rw [fencepostlaw08_Great.j0]) ?_
   simp only [Bool.not_true, Bool.false_eq_true, if_false]
   exact hq
end Go.Proofs.Ytijpfonbeepmfaa.Print
