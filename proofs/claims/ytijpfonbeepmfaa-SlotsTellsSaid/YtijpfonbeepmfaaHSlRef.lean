/- The reference's functions of slots: what they answer. Plain Lean. -/
import Derived.Test.YtijpfonbeepmfaaHSlNums
import Derived.Test.YtijpfonbeepmfaaHSlProg
import Derived.Test.YtijpfonbeepmfaaHSlFile
import Derived.Test.YtijpfonbeepmfaaPrint12
import Derived.Test.YtijpfonbeepmfaaPrint15
import Derived.Test.YtijpfonbeepmfaaPrint14
import Derived.Test.YtijpfonbeepmfaaPrint16
import Derived.Test.YtijpfonbeepmfaaPrint13
namespace Go.Proofs.Ytijpfonbeepmfaa.Print
open Go.RowKit Go.Proofs.YtijpfonbeepmfaaW.PrintWords Go.Proofs.YtijpfonbeepmfaaW.PrintLast Go.Proofs.YtijpfonbeepmfaaW.PrintMore
set_option linter.unusedVariables false
set_option linter.unusedSimpArgs false
theorem has_l0 (g : List Int) (n : Int) (hl : g.length ≤ 1000000) : ∀ (d i : Nat), g.length - i ≤ d → Ev (fun k => fencepostref08_Has.l0 k g n (i : Int)) (decide (n ∈ g.drop i)) := by
 intro d
 induction d with
 | zero =>
  intro i h
  refine Ev.step (fun k => by rw [fencepostref08_Has.l0]) ?_
  simp only [if_neg (show ¬ (i : Int) < (g.length : Int) by omega), List.drop_eq_nil_of_le (show g.length ≤ i by omega), List.not_mem_nil, decide_false]
  exact Ev.now _
 | succ d ih =>
  intro i h
  by_cases c : i < g.length
  ·have e : rd g (i : Int) = g[i] := by unfold rd; rw [Int.toNat_natCast, List.getD_eq_getElem?_getD, List.getElem?_eq_getElem c]; rfl
   refine Ev.step (fun k => by rw [fencepostref08_Has.l0]) ?_
   simp only [if_pos (show (i : Int) < (g.length : Int) by omega), if_pos (show (0 : Int) ≤ (i : Int) by omega), w64 (show -9223372036854775808 ≤ (i : Int) + 1 by omega) (by omega), e, List.drop_eq_getElem_cons c, List.mem_cons]
   by_cases c1 : g[i] = n
   ·simp only [if_pos c1, c1, true_or, decide_true]
    exact Ev.now _
   ·have c2 : (n = g[i] ∨ n ∈ g.drop (i + 1)) = (n ∈ g.drop (i + 1)) := propext ⟨fun h => h.elim (fun h => absurd h.symm c1) id, .inr⟩
    simp only [if_neg c1, c2]
    exact ih (i + 1) (by omega)
  ·refine Ev.step (fun k => by rw [fencepostref08_Has.l0]) ?_
   simp only [if_neg (show ¬ (i : Int) < (g.length : Int) by omega), List.drop_eq_nil_of_le (show g.length ≤ i by omega), List.not_mem_nil, decide_false]
   exact Ev.now _
theorem has_ev (g : List Int) (n : Int) (hl : g.length ≤ 1000000) : Ev (fun k => fencepostref08_Has.f k g n) (decide (n ∈ g)) := by
 unfold fencepostref08_Has.f
 have := has_l0 g n hl g.length 0 (by omega)
 rw [List.drop_zero] at this
 exact this
theorem rdL_at {B : List (List S53)} {i : Nat} (c : i < B.length) : rd_L3 B (i : Int) = B[i] := by unfold rd_L3; rw [Int.toNat_natCast, List.getD_eq_getElem?_getD, List.getElem?_eq_getElem c]; rfl
theorem tot_drop {B : List (List S53)} {i : Nat} (c : i < B.length) : tot (B.drop i) = (rd_L3 B (i : Int)).length + tot (B.drop (i + 1)) := by rw [List.drop_eq_getElem_cons c, rdL_at c]; rfl
theorem many_l0 (A : List Int) (B : List (List S53)) (hB : B.length ≤ 1000000) : ∀ (d i : Nat) (n : Int), B.length - i ≤ d → 0 ≤ n → n + tot (B.drop i) ≤ 1000000000 → Ev (fun k => fencepostref08_Many.l0 k n (i : Int) A B) (n + tot (B.drop i)) := by
 have last : ∀ (i : Nat) (n : Int), ¬ i < B.length → Ev (fun k => fencepostref08_Many.l0 k n (i : Int) A B) (n + tot (B.drop i)) := by
  intro i n h
  refine Ev.step (fun k => by rw [fencepostref08_Many.l0]) ?_
  simp only [if_neg (show ¬ (i : Int) < (B.length : Int) by omega), List.drop_eq_nil_of_le (show B.length ≤ i by omega), tot]
  simp only [Int.natCast_zero, Int.add_zero]
  exact Ev.now _
 intro d
 induction d with
 | zero => intro i n h _ _; exact last i n (by omega)
 | succ d ih =>
  intro i n h h0 h1
  by_cases c : i < B.length
  ·have e := tot_drop c
   refine Ev.step (fun k => by rw [fencepostref08_Many.l0]) ?_
   simp only [if_pos (show (i : Int) < (B.length : Int) by omega), if_pos (show (0 : Int) ≤ (i : Int) by omega), w64 (show -9223372036854775808 ≤ (i : Int) + 1 by omega) (by omega), w64 (show -9223372036854775808 ≤ n + ((rd_L3 B (i : Int)).length : Int) by omega) (by omega)]
   have := ih (i + 1) (n + ((rd_L3 B (i : Int)).length : Int)) (by omega) (by omega) (by omega)
   rw [show n + (tot (B.drop i) : Int) = n + ((rd_L3 B (i : Int)).length : Int) + (tot (B.drop (i + 1)) : Int) by rw [e]; push_cast; omega]
   exact this
  ·exact last i n c
theorem many_ev (A : List Int) (B : List (List S53)) (hB : B.length ≤ 1000000) (ht : tot B ≤ 1000000) : Ev (fun k => fencepostref08_Many.f k A B) (tot B : Int) := by
 unfold fencepostref08_Many.f
 have := many_l0 A B hB B.length 0 0 (by omega) (by omega) (by rw [List.drop_zero]; omega)
 rw [List.drop_zero, Int.zero_add] at this
 exact this
theorem of_l0 (A : List Int) (B : List (List S53)) (n : Int) (hn : -9223372036854775808 ≤ n ∧ n ≤ 9223372036854775807) (hB : B.length ≤ 1000000) : ∀ (d i : Nat) (f : Int), B.length - i ≤ d → 0 ≤ f → f + tot (B.drop i) ≤ 1000000000 → ∃ r, Ev (fun k => fencepostref08_Of.l0 k n f (i : Int) A B) r ∧ ((∃ x ∈ slotsFrom (i : Int) f (B.drop i), x.1 = n ∧ r = (x.2.1, x.2.2, true)) ∨ (r = (0, 0, false) ∧ ∀ x ∈ slotsFrom (i : Int) f (B.drop i), x.1 ≠ n)) := by
 have last : ∀ (i : Nat) (f : Int), ¬ i < B.length → ∃ r, Ev (fun k => fencepostref08_Of.l0 k n f (i : Int) A B) r ∧ ((∃ x ∈ slotsFrom (i : Int) f (B.drop i), x.1 = n ∧ r = (x.2.1, x.2.2, true)) ∨ (r = (0, 0, false) ∧ ∀ x ∈ slotsFrom (i : Int) f (B.drop i), x.1 ≠ n)) := by
  intro i f h
  refine ⟨(0, 0, false), ?_, .inr ⟨rfl, fun x hx => ?_⟩⟩
  ·refine Ev.step (fun k => by rw [fencepostref08_Of.l0]) ?_
   simp only [if_neg (show ¬ (i : Int) < (B.length : Int) by omega)]
   exact Ev.now _
  ·rw [List.drop_eq_nil_of_le (show B.length ≤ i by omega)] at hx; simp [slotsFrom] at hx
 intro d
 induction d with
 | zero => intro i f h _ _; exact last i f (by omega)
 | succ d ih =>
  intro i f h h0 h1
  by_cases c : i < B.length
  ·have e := tot_drop c
   have es : slotsFrom (i : Int) f (B.drop i) = slotRow (i : Int) f (rd_L3 B (i : Int)).length ++ slotsFrom ((i : Int) + 1) (f + ((rd_L3 B (i : Int)).length : Int)) (B.drop (i + 1)) := by rw [List.drop_eq_getElem_cons c, rdL_at c]; rfl
   obtain ⟨r, hr, hc⟩ := ih (i + 1) (f + ((rd_L3 B (i : Int)).length : Int)) (by omega) (by omega) (by omega)
   have hi1 : (((i + 1 : Nat) : Int)) = (i : Int) + 1 := by push_cast; rfl
   rw [hi1] at hc
   have w1 := w64 (show -9223372036854775808 ≤ (i : Int) + 1 by omega) (show (i : Int) + 1 ≤ 9223372036854775807 by omega)
   have w2 := w64 (show -9223372036854775808 ≤ f + ((rd_L3 B (i : Int)).length : Int) by omega) (show f + ((rd_L3 B (i : Int)).length : Int) ≤ 9223372036854775807 by omega)
   have other : (∀ x ∈ slotRow (i : Int) f (rd_L3 B (i : Int)).length, x.1 ≠ n) → (∃ x ∈ slotsFrom (i : Int) f (B.drop i), x.1 = n ∧ r = (x.2.1, x.2.2, true)) ∨ (r = (0, 0, false) ∧ ∀ x ∈ slotsFrom (i : Int) f (B.drop i), x.1 ≠ n) := fun hno => by
    rw [es]
    rcases hc with ⟨x, hx, h2, h3⟩ | ⟨h2, h3⟩
    ·exact .inl ⟨x, List.mem_append_right _ hx, h2, h3⟩
    ·exact .inr ⟨h2, fun x hx => (List.mem_append.1 hx).elim (hno x) (h3 x)⟩
   by_cases c1 : n ≥ f
   ·have w3 := w64 (show -9223372036854775808 ≤ n - f by omega) (show n - f ≤ 9223372036854775807 by omega)
    by_cases c2 : n - f < ((rd_L3 B (i : Int)).length : Int)
    ·refine ⟨((i : Int), n - f, true), ?_, .inl ⟨(n, (i : Int), n - f), ?_, rfl, rfl⟩⟩
     ·refine Ev.step (fun k => by rw [fencepostref08_Of.l0]) ?_
      simp only [if_pos (show (i : Int) < (B.length : Int) by omega), if_pos (show (0 : Int) ≤ (i : Int) by omega), if_pos c1, w3, if_pos c2]
      exact Ev.now _
     ·rw [es]; exact List.mem_append_left _ (row_has (i : Int) f _ n c1 (by omega))
    ·refine ⟨r, ?_, other (fun x hx => by have := row_mem hx; omega)⟩
     refine Ev.step (fun k => by rw [fencepostref08_Of.l0]) ?_
     simp only [if_pos (show (i : Int) < (B.length : Int) by omega), if_pos (show (0 : Int) ≤ (i : Int) by omega), if_pos c1, w3, if_neg c2, w1, w2]
     exact hr
   ·refine ⟨r, ?_, other (fun x hx => by have := row_mem hx; omega)⟩
    refine Ev.step (fun k => by rw [fencepostref08_Of.l0]) ?_
    simp only [if_pos (show (i : Int) < (B.length : Int) by omega), if_pos (show (0 : Int) ≤ (i : Int) by omega), if_neg c1, w1, w2]
    exact hr
  ·exact last i f c
theorem of_ev (A : List Int) (B : List (List S53)) (n : Int) (hn : -9223372036854775808 ≤ n ∧ n ≤ 9223372036854775807) (hB : B.length ≤ 1000000) (ht : tot B ≤ 1000000) : Ev (fun k => fencepostref08_Of.f k A B n) (ofF B n) := by
 unfold fencepostref08_Of.f
 obtain ⟨r, hr, hc⟩ := of_l0 A B n hn hB B.length 0 0 (by omega) (by omega) (by rw [List.drop_zero]; omega)
 rw [List.drop_zero] at hc
 have : r = ofF B n := by
  rcases of_cases B n with ⟨x, hx, e, h⟩ | ⟨h, hno⟩
  ·rcases hc with ⟨y, hy, e2, h2⟩ | ⟨_, hno⟩
   ·rw [h, h2, slots_one B 0 0 y x hy hx (.inl (e2.trans e.symm))]
   ·exact absurd e (hno x hx)
  ·rcases hc with ⟨y, hy, e2, h2⟩ | ⟨h2, _⟩
   ·exact absurd e2 (hno y hy)
   ·rw [h, h2]
 rw [← this]
 exact hr
theorem slot_in : ∀ (zs : List (List S53)) (t0 n0 : Int) (j : Nat) (a : Int) (l : List S53), zs[j]? = some l → 0 ≤ a → a < l.length → (n0 + tot (zs.take j) + a, t0 + (j : Int), a) ∈ slotsFrom t0 n0 zs
 | [], t0, n0, j, a, l, h, _, _ => by simp at h
 | z :: zs, t0, n0, 0, a, l, h, h0, h1 => by
  obtain rfl := Option.some.inj h
  simp only [slotsFrom, List.take_zero, tot, List.mem_append]
  left
  have := row_has t0 n0 z.length (n0 + a) (by omega) (by omega)
  have e1 : n0 + ((0 : Nat) : Int) + a = n0 + a := by omega
  have e2 : t0 + ((0 : Nat) : Int) = t0 := by omega
  have e3 : n0 + a - n0 = a := by omega
  rw [e3] at this
  rw [e1, e2]
  exact this
 | z :: zs, t0, n0, j + 1, a, l, h, h0, h1 => by
  have h' : zs[j]? = some l := by simpa using h
  have := slot_in zs (t0 + 1) (n0 + z.length) j a l h' h0 h1
  simp only [slotsFrom, List.take_succ_cons, tot, List.mem_append]
  right
  have e1 : n0 + ((z.length + tot (zs.take j) : Nat) : Int) + a = n0 + (z.length : Int) + (tot (zs.take j) : Int) + a := by push_cast; omega
  have e2 : t0 + ((j + 1 : Nat) : Int) = t0 + 1 + (j : Int) := by push_cast; omega
  rw [e1, e2]
  exact this
theorem slot_bounds : ∀ (zs : List (List S53)) (t0 n0 : Int) (x : Int × Int × Int), x ∈ slotsFrom t0 n0 zs → ∃ (j : Nat) (l : List S53), zs[j]? = some l ∧ x.2.1 = t0 + (j : Int) ∧ 0 ≤ x.2.2 ∧ x.2.2 < l.length
 | [], t0, n0, x, h => by simp [slotsFrom] at h
 | z :: zs, t0, n0, x, h => by
  simp only [slotsFrom, List.mem_append] at h
  rcases h with h | h
  ·have := row_mem h
   exact ⟨0, z, rfl, by omega, by omega, by omega⟩
  ·obtain ⟨j, l, h1, h2, h3, h4⟩ := slot_bounds zs _ _ x h
   exact ⟨j + 1, l, by simpa using h1, by push_cast; omega, h3, h4⟩
theorem tot_takeB {B : List (List S53)} {i : Nat} (c : i < B.length) : tot (B.take (i + 1)) = tot (B.take i) + (rd_L3 B (i : Int)).length := by
 rw [List.take_succ_eq_append_getElem c, tot_append, rdL_at c]; rfl
theorem tot_take_le : ∀ (B : List (List S53)) (i : Nat), tot (B.take i) ≤ tot B
 | [], i => by simp
 | z :: zs, 0 => by simp [tot]
 | z :: zs, i + 1 => by have := tot_take_le zs i; simp only [List.take_succ_cons, tot]; omega
theorem num_l0 (A : List Int) (B : List (List S53)) (t : Nat) (ht : t < B.length) (a : Int) (h0 : 0 ≤ a) (h1 : a ≤ 1000000) (hT : tot B ≤ 1000000) (hB : B.length ≤ 1000000) : ∀ (d i : Nat), t - i ≤ d → i ≤ t → Ev (fun k => fencepostref08_Num.l0 k (t : Int) (a + tot (B.take i)) (i : Int) A B) (a + tot (B.take t)) := by
 have last : ∀ i : Nat, ¬ i < t → i ≤ t → Ev (fun k => fencepostref08_Num.l0 k (t : Int) (a + tot (B.take i)) (i : Int) A B) (a + tot (B.take t)) := by
  intro i h h2
  obtain rfl : i = t := by omega
  refine Ev.step (fun k => by rw [fencepostref08_Num.l0]) ?_
  simp only [if_neg (show ¬ (i : Int) < (i : Int) by omega)]
  exact Ev.now _
 intro d
 induction d with
 | zero => intro i h h2; exact last i (by omega) h2
 | succ d ih =>
  intro i h h2
  by_cases c : i < t
  ·have e := tot_takeB (B := B) (i := i) (by omega)
   have e2 := tot_take_le B (i + 1)
   refine Ev.step (fun k => by rw [fencepostref08_Num.l0]) ?_
   simp only [if_pos (show (i : Int) < (t : Int) by omega), if_pos (show (0 : Int) ≤ (i : Int) by omega), if_pos (show (i : Int) < (B.length : Int) by omega), w64 (show -9223372036854775808 ≤ (i : Int) + 1 by omega) (by omega), w64 (show -9223372036854775808 ≤ a + (tot (B.take i) : Int) + ((rd_L3 B (i : Int)).length : Int) by omega) (by omega)]
   have := ih (i + 1) (by omega) (by omega)
   rw [show a + (tot (B.take i) : Int) + ((rd_L3 B (i : Int)).length : Int) = a + (tot (B.take (i + 1)) : Int) by rw [e]; push_cast; omega]
   exact this
  ·exact last i c h2
theorem num_ev (A : List Int) (B : List (List S53)) (t a : Int) (hB : B.length ≤ 1000000) (hT : tot B ≤ 1000000) (hl : ∀ l ∈ B, l.length ≤ 80) : Ev (fun k => fencepostref08_Num.f k A B t a) (numF B t a) := by
 have bad : (∀ x ∈ slotsFrom 0 0 B, ¬ (x.2.1 = t ∧ x.2.2 = a)) → Ev (fun k => fencepostref08_Num.j0 k t a true A B) (numF B t a) := by
  intro hno
  have e : numF B t a = -1 := by
   rcases num_cases B t a with ⟨x, hx, e1, e2, _⟩ | ⟨h, _⟩
   ·exact absurd ⟨e1, e2⟩ (hno x hx)
   ·exact h
  rw [e]
  refine Ev.step (fun k => by rw [fencepostref08_Num.j0]) ?_
  simp only [if_true]
  exact Ev.now _
 unfold fencepostref08_Num.f
 by_cases c1 : t < 0
 ·simp only [if_pos c1]
  exact bad (fun x hx hh => by obtain ⟨j, l, _, e, _, _⟩ := slot_bounds B 0 0 x hx; omega)
 by_cases c2 : t ≥ (B.length : Int)
 ·simp only [if_neg c1, if_pos c2]
  exact bad (fun x hx hh => by obtain ⟨j, l, hj, e, _, _⟩ := slot_bounds B 0 0 x hx; have := (List.getElem?_eq_some_iff.1 hj).1; omega)
 by_cases c3 : a < 0
 ·simp only [if_neg c1, if_neg c2, if_pos c3]
  exact bad (fun x hx hh => by obtain ⟨j, l, _, _, h0, _⟩ := slot_bounds B 0 0 x hx; omega)
 obtain ⟨m, rfl⟩ : ∃ m : Nat, t = (m : Int) := ⟨t.toNat, by omega⟩
 have hm : m < B.length := by omega
 have hr := rdL_at hm
 simp only [if_neg c1, if_neg c2, if_neg c3, if_pos (show (0 : Int) ≤ (m : Int) by omega), if_pos (show (m : Int) < (B.length : Int) by omega)]
 by_cases c4 : a ≥ ((rd_L3 B (m : Int)).length : Int)
 ·simp only [decide_eq_true c4]
  refine bad (fun x hx hh => ?_)
  obtain ⟨j, l, hj, e, _, h1⟩ := slot_bounds B 0 0 x hx
  obtain rfl : j = m := by omega
  rw [List.getElem?_eq_getElem hm] at hj
  obtain rfl := Option.some.inj hj
  rw [hr] at c4
  omega
 ·simp only [decide_eq_false c4]
  refine Ev.step (fun k => by rw [fencepostref08_Num.j0]) ?_
  simp only [Bool.false_eq_true, if_false]
  have hlen := hl _ (List.getElem_mem hm)
  rw [← hr] at hlen
  have := num_l0 A B m hm a (by omega) (by omega) hT hB m 0 (by omega) (by omega)
  have hin := slot_in B 0 0 m a B[m] (List.getElem?_eq_getElem hm) (by omega) (by rw [← hr]; omega)
  have e : numF B (m : Int) a = a + tot (B.take m) := by
   rcases num_cases B (m : Int) a with ⟨x, hx, e1, e2, h⟩ | ⟨_, hno⟩
   ·have := slots_one B 0 0 x _ hx hin (.inr ⟨by rw [e1]; show (m : Int) = 0 + (m : Int); omega, e2⟩)
    rw [h, this]
    show 0 + (tot (B.take m) : Int) + a = _
    omega
   ·exact absurd ⟨by show 0 + (m : Int) = (m : Int); omega, rfl⟩ (hno _ hin)
  rw [e]
  rw [List.take_zero] at this
  simpa [tot] using this
end Go.Proofs.Ytijpfonbeepmfaa.Print
