/- The reference's without: what it answers. Plain Lean. -/
import Derived.Test.YtijpfonbeepmfaaHSlRef
namespace Go.Proofs.Ytijpfonbeepmfaa.Print
open Go.RowKit Go.Proofs.YtijpfonbeepmfaaW.PrintWords Go.Proofs.YtijpfonbeepmfaaW.PrintLast Go.Proofs.YtijpfonbeepmfaaW.PrintMore
set_option linter.unusedVariables false
set_option linter.unusedSimpArgs false
def woStep (g : List Int) (from_ : Int) (st : List S60 × Int × Bool) (x : S60) : List S60 × Int × Bool :=
 if x.f0 = 11 then (st.1 ++ [x], st.2.1, st.2.2) else if from_ + st.2.1 ∈ g ∧ st.2.2 = false then (st.1, st.2.1, true) else (st.1 ++ [x], st.2.1 + 1, false)
def woF (g : List Int) (from_ : Int) (l : List S60) : List S60 × Int × Bool := l.foldl (woStep g from_) ([], 0, false)
theorem wo_len (g : List Int) (from_ : Int) : ∀ (l : List S60) (st : List S60 × Int × Bool), (l.foldl (woStep g from_) st).1.length ≤ st.1.length + l.length ∧ st.2.1 ≤ (l.foldl (woStep g from_) st).2.1 ∧ (l.foldl (woStep g from_) st).2.1 ≤ st.2.1 + l.length
 | [], st => by simp
 | x :: r, st => by
  obtain ⟨h1, h2, h3⟩ := wo_len g from_ r (woStep g from_ st x)
  have e : (woStep g from_ st x).1.length ≤ st.1.length + 1 ∧ st.2.1 ≤ (woStep g from_ st x).2.1 ∧ (woStep g from_ st x).2.1 ≤ st.2.1 + 1 := by
   unfold woStep
   split
   ·simp only [List.length_append, List.length_cons, List.length_nil]; omega
   ·split
    ·simp only []; omega
    ·simp only [List.length_append, List.length_cons, List.length_nil]; omega
  rw [List.foldl_cons, List.length_cons]
  omega
theorem smallW {α : Type} {xs : List α} (h : xs.length ≤ 1000) : xs.length < 2199023255552 := Nat.lt_of_le_of_lt h (by decide)
theorem wo_l0 (l : List S60) (g : List Int) (hl : g.length ≤ 1000000) (h3 : l.length ≤ 300) (f : Int) (hf : 0 ≤ f ∧ f ≤ 1000000) : ∀ (d j : Nat), l.length - j ≤ d → j ≤ l.length → Ev (fun k => fencepostref08_without.l0 k l g f ((l.take j).foldl (woStep g f) ([], 0, false)).1 ((l.take j).foldl (woStep g f) ([], 0, false)).2.1 ((l.take j).foldl (woStep g f) ([], 0, false)).2.2 (j : Int)) ((woF g f l).1, (woF g f l).2.1) := by
 have last : ∀ j : Nat, ¬ j < l.length → j ≤ l.length → Ev (fun k => fencepostref08_without.l0 k l g f ((l.take j).foldl (woStep g f) ([], 0, false)).1 ((l.take j).foldl (woStep g f) ([], 0, false)).2.1 ((l.take j).foldl (woStep g f) ([], 0, false)).2.2 (j : Int)) ((woF g f l).1, (woF g f l).2.1) := by
  intro j h h2
  obtain rfl : j = l.length := by omega
  refine Ev.step (fun k => by rw [fencepostref08_without.l0]) ?_
  simp only [if_neg (show ¬ (l.length : Int) < (l.length : Int) by omega), List.take_length]
  exact Ev.now _
 intro d
 induction d with
 | zero => intro j h h2; exact last j (by omega) h2
 | succ d ih =>
  intro j h h2
  by_cases c : j < l.length
  ·have nx := ih (j + 1) (by omega) (by omega)
   rw [take_snoc l j c, List.foldl_append, List.foldl_cons, List.foldl_nil] at nx
   obtain ⟨g1, g2, g3⟩ := wo_len g f (l.take j) ([], 0, false)
   simp only [List.length_take, List.length_nil] at g1 g2 g3
   generalize (l.take j).foldl (woStep g f) ([], 0, false) = q at nx g1 g2 g3 ⊢
   generalize hx : rd_T60 l (j : Int) = x at nx
   have hi1 : (((j + 1 : Nat) : Int)) = (j : Int) + 1 := by push_cast; rfl
   rw [hi1] at nx
   have s1 : (j : Int) < (l.length : Int) := by omega
   have s2 : (0 : Int) ≤ (j : Int) := by omega
   have hL : q.1.length ≤ 1000 := by omega
   have w2 := w64 (show -9223372036854775808 ≤ (j : Int) + 1 by omega) (show (j : Int) + 1 ≤ 9223372036854775807 by omega)
   have w3 := w64 (show -9223372036854775808 ≤ q.2.1 + 1 by clear w2; omega) (show q.2.1 + 1 ≤ 9223372036854775807 by clear w2; omega)
   have w4 := w64 (show -9223372036854775808 ≤ f + q.2.1 by clear w2 w3; omega) (show f + q.2.1 ≤ 9223372036854775807 by clear w2 w3; omega)
   have keep : ∀ is : Bool, (x.f0 = 11 → is = false) → (is = true → woStep g f q x = (q.1, q.2.1, true)) → (is = false → woStep g f q x = if x.f0 = 11 then (q.1 ++ [x], q.2.1, q.2.2) else (q.1 ++ [x], q.2.1 + 1, false)) → Ev (fun k => fencepostref08_without.j1 k l g f q.1 q.2.1 q.2.2 (j : Int) is) ((woF g f l).1, (woF g f l).2.1) := by
    intro is i1 i2 i3
    refine Ev.step (fun k => by rw [fencepostref08_without.j1]) ?_
    cases is with
    | true =>
     rw [i2 rfl] at nx
     simp only [if_true, w2]
     exact nx
    | false =>
     have i4 := i3 rfl
     by_cases c11 : x.f0 = 11
     ·rw [if_pos c11] at i4
      rw [i4] at nx
      simp only [Bool.false_eq_true, if_false, if_pos s2, if_pos s1, if_pos (smallW hL), hx, Option.bind_some, if_pos c11, w2]
      exact nx
     ·rw [if_neg c11] at i4
      rw [i4] at nx
      simp only [Bool.false_eq_true, if_false, if_pos s2, if_pos s1, if_pos (smallW hL), hx, Option.bind_some, if_neg c11, w2, w3]
      exact nx
   refine Ev.step (fun k => by rw [fencepostref08_without.l0]) ?_
   simp only [if_pos s1, if_pos s2, hx, w4]
   by_cases c11 : x.f0 = 11
   ·simp only [if_pos c11]
    exact keep false (fun _ => rfl) (fun h => by simp at h) (fun _ => by unfold woStep; rw [if_pos c11, if_pos c11])
   ·simp only [if_neg c11]
    refine Ev.bind (has_ev g _ hl) ?_
    by_cases cg : f + q.2.1 ∈ g
    ·simp only [decide_eq_true cg, if_true]
     refine keep (!q.2.2) (fun h => absurd h c11) (fun h => ?_) (fun h => ?_)
     ·have : q.2.2 = false := by simpa using h
      unfold woStep; rw [if_neg c11, if_pos ⟨cg, this⟩]
     ·have : q.2.2 = true := by simpa using h
      unfold woStep; rw [if_neg c11, if_neg (fun hh => by rw [this] at hh; simp at hh), if_neg c11]
    ·simp only [decide_eq_false cg, Bool.false_eq_true, if_false]
     exact keep false (fun _ => rfl) (fun h => by simp at h) (fun _ => by unfold woStep; rw [if_neg c11, if_neg (fun hh => cg hh.1), if_neg c11])
  ·exact last j c h2
theorem wo_ev (l : List S60) (g : List Int) (hl : g.length ≤ 1000000) (h3 : l.length ≤ 300) (f : Int) (hf : 0 ≤ f ∧ f ≤ 1000000) : Ev (fun k => fencepostref08_without.f k l g f) ((woF g f l).1, (woF g f l).2.1) := by
 unfold fencepostref08_without.f
 exact wo_l0 l g hl h3 f hf l.length 0 (by omega) (by omega)
theorem wo_fen (g : List Int) : ∀ (l : List S60) (out : List S60) (f n m : Int), f + m = n → (fen g l n).foldl (woStep g f) (out, m, false) = (out ++ l, m + cnt l, false)
 | [], out, f, n, m, h => by simp [fen, cnt]
 | x :: r, out, f, n, m, h => by
  by_cases c : x.f0 = 11
  ·have e1 : woStep g f (out, m, false) x = (out ++ [x], m, false) := by unfold woStep; rw [if_pos c]
   simp only [fen, cnt, if_pos c, Nat.zero_add]
   rw [List.foldl_cons, e1, wo_fen g r _ f n m h, List.append_assoc]; rfl
  ·have hc : m + 1 + (cnt r : Int) = m + ((1 + cnt r : Nat) : Int) := by push_cast; omega
   have ih := wo_fen g r (out ++ [x]) f (n + 1) (m + 1) (by omega)
   by_cases hg : n ∈ g
   ·simp only [fen, cnt, if_neg c, fenceT, if_pos hg, List.cons_append, List.nil_append]
    have e1 : woStep g f (out, m, false) fenceL = (out, m, true) := by
     unfold woStep
     simp only [if_neg (show ¬ fenceL.f0 = 11 by decide), h, if_pos (show n ∈ g ∧ True from ⟨hg, trivial⟩)]
    have e2 : woStep g f (out, m, true) x = (out ++ [x], m + 1, false) := by
     unfold woStep
     simp only [if_neg c, Bool.true_eq_false, and_false, if_false]
    rw [List.foldl_cons, e1, List.foldl_cons, e2, ih, List.append_assoc, hc]; rfl
   ·simp only [fen, cnt, if_neg c, fenceT, if_neg hg, List.cons_append, List.nil_append]
    have e2 : woStep g f (out, m, false) x = (out ++ [x], m + 1, false) := by
     unfold woStep
     simp only [if_neg c, h, hg, false_and, if_false]
    rw [List.foldl_cons, e2, ih, List.append_assoc, hc]; rfl
end Go.Proofs.Ytijpfonbeepmfaa.Print
