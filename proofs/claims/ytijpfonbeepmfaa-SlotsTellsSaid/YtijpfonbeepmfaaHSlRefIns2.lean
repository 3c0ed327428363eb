/- The reference's Insert: its loops. Plain Lean. -/
import Derived.Test.YtijpfonbeepmfaaHSlRefIns
namespace Go.Proofs.Ytijpfonbeepmfaa.Print
open Go.RowKit Go.Proofs.YtijpfonbeepmfaaW.PrintWords Go.Proofs.YtijpfonbeepmfaaW.PrintLast Go.Proofs.YtijpfonbeepmfaaW.PrintMore
set_option linter.unusedVariables false
set_option linter.unusedSimpArgs false
theorem fenceS_is : (⟨6, 0, 0, 0, 0⟩ : S53) = fenceS := rfl
theorem small {α : Type} {xs : List α} (h : xs.length ≤ 1000) : xs.length < 3518437208883 := Nat.lt_of_le_of_lt h (by decide)
theorem rins_l1 (A A' : List Int) (B : List (List S53)) (g : List Int) (hl : g.length ≤ 1000000) (t : Nat) (ht : t < B.length) (hB : B.length ≤ 1000000) (n : Int) (hn : 0 ≤ n ∧ n ≤ 100000) (ts : List (List S53)) (hts : ts.length ≤ 1000000) (l : List S53) (he : rd_L3 B (t : Int) = l) (h80 : l.length ≤ 80) (hj : ∀ s ∈ l, 8 ≤ s.f0 → 0 ≤ s.f4 ∧ s.f4 ≤ (l.length : Int)) (r : List Int × List (List S53))
 (next : Ev (fun k => fencepostref08_Insert.l0 k g (n + (l.length : Int)) ((t : Int) + 1) A B A' (ts ++ [thF g l n])) r) : ∀ (d j : Nat), l.length - j ≤ d → j ≤ l.length → Ev (fun k => fencepostref08_Insert.l1 k g n (t : Int) (((l.take j).foldl (insStep g) ([], [], n)).1.map (toC g n)) (j : Int) A B A' ts) r := by
 have s1 : (0 : Int) ≤ (t : Int) := by omega
 have s2 : (t : Int) < (B.length : Int) := by omega
 have last : ∀ j : Nat, ¬ j < l.length → j ≤ l.length → Ev (fun k => fencepostref08_Insert.l1 k g n (t : Int) (((l.take j).foldl (insStep g) ([], [], n)).1.map (toC g n)) (j : Int) A B A' ts) r := by
  intro j h h2
  obtain rfl : j = l.length := by omega
  refine Ev.step (fun k => by rw [fencepostref08_Insert.l1]) ?_
  simp only [he, if_pos s1, if_pos s2, if_neg (show ¬ (l.length : Int) < (l.length : Int) by omega), List.take_length, if_pos (show ts.length < 5864062014805 by omega), w64 (show -9223372036854775808 ≤ n + (l.length : Int) by omega) (by omega), w64 (show -9223372036854775808 ≤ (t : Int) + 1 by omega) (by omega)]
  rw [thF_toC g l n hj] at next
  exact next
 intro d
 induction d with
 | zero => intro j h h2; exact last j (by omega) h2
 | succ d ih =>
  intro j h h2
  by_cases c : j < l.length
  ·have nx := ih (j + 1) (by omega) (by omega)
   have e2 : rd_T53 l (j : Int) = l[j] := by unfold rd_T53; rw [Int.toNat_natCast, List.getD_eq_getElem?_getD, List.getElem?_eq_getElem c]; rfl
   have hmem : rd_T53 l (j : Int) ∈ l := by rw [e2]; exact List.getElem_mem c
   rw [takeS_snoc l j c, List.foldl_append, List.foldl_cons, List.foldl_nil] at nx
   obtain ⟨g1, _, g3, _⟩ := ins_len g (l.take j) ([], [], n)
   simp only [List.length_take, List.length_nil] at g1 g3
   have hq : ((l.take j).foldl (insStep g) ([], [], n)).2.2 = n + (j : Int) := by rw [g3, Nat.min_eq_left (by omega)]
   have hjs := hj _ hmem
   refine Ev.step (fun k => by rw [fencepostref08_Insert.l1]) ?_
   simp only [he, if_pos s1, if_pos s2, if_pos (show (j : Int) < (l.length : Int) by omega), if_pos (show (0 : Int) ≤ (j : Int) by omega)]
   generalize (l.take j).foldl (insStep g) ([], [], n) = q at nx g1 hq ⊢
   generalize rd_T53 l (j : Int) = x at nx hjs ⊢
   have hi1 : (((j + 1 : Nat) : Int)) = (j : Int) + 1 := by push_cast; rfl
   have e3 : (insStep g q x).1 = (if n + (j : Int) ∈ g then q.1 ++ [fenceS] else q.1) ++ [x] := by unfold insStep; rw [hq]
   rw [e3, hi1] at nx
   have hlen : (q.1.map (toC g n)).length ≤ 2 * 80 := by rw [List.length_map]; omega
   have cnt8 : x.f0 ≥ 8 → ∃ m : Nat, Ev (fun k => fencepostref08_Count.f k g n x.f4) (cntG g n m : Int) ∧ wrap64 (x.f4 + (cntG g n m : Int)) = x.f4 + (cntG g n m : Int) ∧ toC g n x = ⟨x.f0, x.f1, x.f2, x.f3, x.f4 + cntG g n m⟩ := fun c8 => by
    obtain ⟨m, hm⟩ : ∃ m : Nat, x.f4 = (m : Int) := ⟨x.f4.toNat, by have := hjs c8; omega⟩
    have hb := hjs c8
    have hle := cntG_le g m n
    have hc := count_ev g n m hl ⟨hn.1, by omega⟩ (by omega)
    rw [← hm] at hc
    exact ⟨m, hc, w64 (by omega) (by omega), by unfold toC; rw [if_pos c8, show x.f4.toNat = m by omega]⟩
   have no8 : ¬ x.f0 ≥ 8 → toC g n x = ⟨x.f0, x.f1, x.f2, x.f3, x.f4⟩ := fun c8 => by unfold toC; rw [if_neg c8]
   have hL : (q.1.map (toC g n)).length ≤ 1000 := by omega
   have hL2 : (q.1.map (toC g n) ++ [fenceS]).length ≤ 1000 := by rw [List.length_append]; simp only [List.length_cons, List.length_nil]; omega
   have w1 := w64 (show -9223372036854775808 ≤ n + (j : Int) by omega) (show n + (j : Int) ≤ 9223372036854775807 by omega)
   have w2 := w64 (show -9223372036854775808 ≤ (j : Int) + 1 by omega) (show (j : Int) + 1 ≤ 9223372036854775807 by omega)
   simp only [w1, w2]
   clear w1 w2
   refine Ev.bind (has_ev g _ hl) ?_
   by_cases cg : n + (j : Int) ∈ g
   ·simp only [decide_eq_true cg, if_true, Option.bind_some, if_pos (small hL), fenceS_is]
    rw [if_pos cg] at nx
    simp only [List.map_append, List.map_cons, List.map_nil, toC_fence] at nx
    by_cases c8 : x.f0 ≥ 8
    ·obtain ⟨m, hc, hw, e4⟩ := cnt8 c8
     simp only [if_pos c8]
     refine Ev.bind hc ?_
     simp only [if_pos (small hL2), hw]
     rw [e4] at nx
     exact nx
    ·simp only [if_neg c8, if_pos (small hL2)]
     rw [no8 c8] at nx
     exact nx
   ·simp only [decide_eq_false cg, Bool.false_eq_true, if_false]
    rw [if_neg cg] at nx
    simp only [List.map_append, List.map_cons, List.map_nil] at nx
    by_cases c8 : x.f0 ≥ 8
    ·obtain ⟨m, hc, hw, e4⟩ := cnt8 c8
     simp only [if_pos c8]
     refine Ev.bind hc ?_
     simp only [if_pos (small hL), hw]
     rw [e4] at nx
     exact nx
    ·simp only [if_neg c8, if_pos (small hL)]
     rw [no8 c8] at nx
     exact nx
  ·exact last j c h2
theorem rins_l0 (A A' : List Int) (B : List (List S53)) (g : List Int) (hl : g.length ≤ 1000000) (hB : B.length ≤ 1000) (h80 : ∀ l ∈ B, l.length ≤ 80) (hj : ∀ l ∈ B, ∀ s ∈ l, 8 ≤ s.f0 → 0 ≤ s.f4 ∧ s.f4 ≤ (l.length : Int)) (hT : totS B ≤ 100000) : ∀ (d t : Nat), B.length - t ≤ d → t ≤ B.length → Ev (fun k => fencepostref08_Insert.l0 k g ((B.take t).foldl (progStep g) ([], 0)).2 (t : Int) A B A' ((B.take t).foldl (progStep g) ([], 0)).1) (A', (progF g B).1) := by
 have last : ∀ t : Nat, ¬ t < B.length → t ≤ B.length → Ev (fun k => fencepostref08_Insert.l0 k g ((B.take t).foldl (progStep g) ([], 0)).2 (t : Int) A B A' ((B.take t).foldl (progStep g) ([], 0)).1) (A', (progF g B).1) := by
  intro t h h2
  obtain rfl : t = B.length := by omega
  refine Ev.step (fun k => by rw [fencepostref08_Insert.l0]) ?_
  simp only [if_neg (show ¬ (B.length : Int) < (B.length : Int) by omega), List.take_length]
  exact Ev.now _
 intro d
 induction d with
 | zero => intro t h h2; exact last t (by omega) h2
 | succ d ih =>
  intro t h h2
  by_cases c : t < B.length
  ·obtain ⟨q1, q2, q3⟩ := totS_take B t c
   obtain ⟨p1, p2⟩ := prog_len g (B.take t) ([], 0)
   have nx := ih (t + 1) (by omega) (by omega)
   rw [q3, List.foldl_append, List.foldl_cons, List.foldl_nil] at nx
   simp only [List.length_take, List.length_nil] at p1 p2
   generalize (B.take t).foldl (progStep g) ([], 0) = st at nx p1 p2 ⊢
   have hi1 : (((t + 1 : Nat) : Int)) = (t : Int) + 1 := by push_cast; rfl
   rw [hi1] at nx
   refine Ev.step (fun k => by rw [fencepostref08_Insert.l0]) ?_
   simp only [if_pos (show (t : Int) < (B.length : Int) by omega)]
   exact rins_l1 A A' B g hl t c (by omega) st.2 ⟨by omega, by omega⟩ st.1 (by omega) (rd_L3 B (t : Int)) rfl (h80 _ q2) (hj _ q2) _ nx (rd_L3 B (t : Int)).length 0 (by omega) (by omega)
  ·exact last t c h2
theorem rins_ev (A : List Int) (B : List (List S53)) (g : List Int) (hA : A.length ≤ 1000000) (hl : g.length ≤ 1000000) (hB : B.length ≤ 1000) (h80 : ∀ l ∈ B, l.length ≤ 80) (hj : ∀ l ∈ B, ∀ s ∈ l, 8 ≤ s.f0 → 0 ≤ s.f4 ∧ s.f4 ≤ (l.length : Int)) (hT : totS B ≤ 100000) : Ev (fun k => fencepostref08_Insert.f k A B g) (A, (progF g B).1) := by
 unfold fencepostref08_Insert.f
 simp only [Option.bind_some, List.nil_append, if_pos (show ([] : List Int).length + A.length < 17592186044416 by simp; omega)]
 exact rins_l0 A A B g hl hB h80 hj hT B.length 0 (by omega) (by omega)
end Go.Proofs.Ytijpfonbeepmfaa.Print
