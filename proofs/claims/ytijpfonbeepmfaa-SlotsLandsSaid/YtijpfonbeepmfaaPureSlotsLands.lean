/- With fences all steps stay in order, and jumps land as they should (law SlotsLands): what the printed functions answer. -/
import Derived.Test.YtijpfonbeepmfaaPrint11
import Derived.Test.YtijpfonbeepmfaaHSlInsF
import Derived.Test.YtijpfonbeepmfaaHSlCnt
import Derived.Test.YtijpfonbeepmfaaHSlHas
import Derived.Test.YtijpfonbeepmfaaHHead08
import Derived.Test.YtijpfonbeepmfaaOpens
namespace Go.Proofs.Ytijpfonbeepmfaa.Print
open Go.RowKit Go.Proofs.YtijpfonbeepmfaaW.PrintWords Go.Proofs.YtijpfonbeepmfaaW.PrintLast Go.Proofs.YtijpfonbeepmfaaW.PrintMore
set_option linter.unusedVariables false
set_option linter.unusedSimpArgs false
theorem insL_len (g : List Int) : ∀ (l : List S53) (n : Int), (insL g l n).length = l.length + cntG g n l.length
 | [], n => rfl
 | s :: r, n => by
  have := insL_len g r (n + 1)
  simp only [insL, List.length_append, List.length_cons, cntG, this]
  split <;> simp only [List.length_cons, List.length_nil] <;> omega
theorem insL_at (g : List Int) : ∀ (l : List S53) (n : Int) (i : Nat) (h : i < l.length), (insL g l n)[i + cntG g n i + (if n + (i : Int) ∈ g then 1 else 0)]? = some l[i] ∧ (n + (i : Int) ∈ g → (insL g l n)[i + cntG g n i]? = some fenceS)
 | s :: r, n, 0, h => by
  simp only [insL, cntG, Int.natCast_zero, Int.add_zero]
  by_cases c : n ∈ g
  ·simp [c]
  ·simp [c]
 | s :: r, n, i + 1, h => by
  have h' : i < r.length := by simpa using h
  obtain ⟨h1, h2⟩ := insL_at g r (n + 1) i h'
  have e : n + 1 + (i : Int) = n + ((i + 1 : Nat) : Int) := by push_cast; omega
  rw [e] at h1 h2
  simp only [insL, cntG, List.getElem_cons_succ]
  by_cases c : n ∈ g
  ·simp only [if_pos c]
   have a1 : i + 1 + (1 + cntG g (n + 1) i) + (if n + ((i + 1 : Nat) : Int) ∈ g then 1 else 0) = (i + cntG g (n + 1) i + (if n + ((i + 1 : Nat) : Int) ∈ g then 1 else 0)) + 2 := by omega
   have a2 : i + 1 + (1 + cntG g (n + 1) i) = (i + cntG g (n + 1) i) + 2 := by omega
   rw [a1, a2]
   exact ⟨h1, h2⟩
  ·simp only [if_neg c]
   have a1 : i + 1 + (0 + cntG g (n + 1) i) + (if n + ((i + 1 : Nat) : Int) ∈ g then 1 else 0) = (i + cntG g (n + 1) i + (if n + ((i + 1 : Nat) : Int) ∈ g then 1 else 0)) + 1 := by omega
   have a2 : i + 1 + (0 + cntG g (n + 1) i) = (i + cntG g (n + 1) i) + 1 := by omega
   rw [a1, a2]
   exact ⟨h1, h2⟩
/-- The row of a thread with fences. -/
def rowF (g : List Int) (l : List S53) (n : Int) : List S53 := (insL g l n).map (toC g n)
theorem thF_row (g : List Int) (l : List S53) (n : Int) (hj : ∀ s ∈ l, 8 ≤ s.f0 → 0 ≤ s.f4 ∧ s.f4 ≤ (l.length : Int)) : thF g l n = rowF g l n := by
 rw [thF_toC g l n hj]
 unfold insF rowF
 rw [insF_insL, List.nil_append]
theorem rdSt {l : List S53} {j : Nat} {x : S53} (h : l[j]? = some x) : rd_T53 l (j : Int) = x := by unfold rd_T53; rw [Int.toNat_natCast, List.getD_eq_getElem?_getD, h]; rfl
theorem row_len (g : List Int) (l : List S53) (n : Int) : (rowF g l n).length = l.length + cntG g n l.length := by unfold rowF; rw [List.length_map, insL_len]
theorem cntG_mono (g : List Int) (n : Int) : ∀ (d i : Nat), cntG g n i ≤ cntG g n (i + d)
 | 0, i => Nat.le_refl _
 | d + 1, i => by have := cntG_mono g n d i; have e := cntG_snoc g (i + d) n; rw [← Nat.add_assoc, e]; omega
theorem row_step (g : List Int) (l : List S53) (n : Int) (i : Nat) (h : i < l.length) : rd_T53 (rowF g l n) (((i + cntG g n i + (if n + (i : Int) ∈ g then 1 else 0) : Nat) : Int)) = toC g n (rd_T53 l (i : Int)) := by
 obtain ⟨h1, _⟩ := insL_at g l n i h
 have e : rd_T53 l (i : Int) = l[i] := rdSt (List.getElem?_eq_getElem h)
 rw [e]
 exact rdSt (by unfold rowF; rw [List.getElem?_map, h1]; rfl)
theorem row_fence (g : List Int) (l : List S53) (n : Int) (i : Nat) (h : i < l.length) (hg : n + (i : Int) ∈ g) : rd_T53 (rowF g l n) (((i + cntG g n i : Nat) : Int)) = fenceS := by
 obtain ⟨_, h2⟩ := insL_at g l n i h
 exact rdSt (by unfold rowF; rw [List.getElem?_map, h2 hg]; exact congrArg some (toC_fence g n))
theorem row_fit (g : List Int) (l : List S53) (n : Int) (i : Nat) (h : i < l.length) : i + cntG g n i + (if n + (i : Int) ∈ g then 1 else 0) < (rowF g l n).length := by
 rw [row_len]
 have h1 := cntG_snoc g i n
 have h2 := cntG_mono g n (l.length - (i + 1)) (i + 1)
 rw [show i + 1 + (l.length - (i + 1)) = l.length by omega] at h2
 omega
theorem prog_at (g : List Int) : ∀ (B : List (List S53)) (ts : List (List S53)) (n : Int) (t : Nat) (h : t < B.length), ((B.foldl (progStep g) (ts, n)).1)[ts.length + t]? = some (thF g B[t] (n + totS (B.take t)))
 | l :: r, ts, n, 0, h => by
  have keep : ∀ (r : List (List S53)) (st : List (List S53) × Int) (j : Nat), j < st.1.length → ((r.foldl (progStep g) st).1)[j]? = st.1[j]? := by
   intro r
   induction r with
   | nil => intro st j _; rfl
   | cons x xs ih =>
    intro st j hj
    have e : (progStep g st x).1 = st.1 ++ [thF g x st.2] := rfl
    rw [List.foldl_cons, ih _ j (by rw [e, List.length_append]; omega), e, List.getElem?_append_left hj]
  rw [List.foldl_cons, Nat.add_zero]
  have e : progStep g (ts, n) l = (ts ++ [thF g l n], n + l.length) := rfl
  rw [keep _ _ _ (by rw [e, List.length_append]; simp), e, List.getElem?_append_right (Nat.le_refl _), Nat.sub_self]
  simp [totS]
 | l :: r, ts, n, t + 1, h => by
  have h' : t < r.length := by simpa using h
  have e : progStep g (ts, n) l = (ts ++ [thF g l n], n + l.length) := rfl
  have ih := prog_at g r (ts ++ [thF g l n]) (n + l.length) t h'
  rw [List.length_append] at ih
  rw [List.foldl_cons, e]
  simp only [List.length_cons, List.length_nil] at ih
  rw [show ts.length + (t + 1) = ts.length + (0 + 1) + t by omega, ih, List.getElem_cons_succ]
  congr 2
  simp only [List.take_succ_cons, totS, List.map_cons, List.sum_cons]
  push_cast; omega
theorem totS_snocB (B : List (List S53)) (t : Nat) (h : t < B.length) : totS (B.take (t + 1)) = totS (B.take t) + B[t].length := by
 unfold totS
 rw [List.take_succ_eq_append_getElem h, List.map_append, List.sum_append]
 simp
theorem totS_take_le (B : List (List S53)) : ∀ t, totS (B.take t) ≤ totS B := by
 induction B with
 | nil => intro t; simp [totS]
 | cons l r ih =>
  intro t
  cases t with
  | zero => simp [totS]
  | succ t =>
   have := ih t
   simp only [List.take_succ_cons, totS, List.map_cons, List.sum_cons] at this ⊢
   omega
/-- Where each step, with its fence, comes to lie. -/
def posL (g : List Int) (n : Int) (m : Nat) : List Int := (List.range m).map (fun j => ((j + cntG g n j : Nat) : Int))
theorem posL_len (g : List Int) (n : Int) (m : Nat) : (posL g n m).length = m := by simp [posL]
theorem posL_snoc (g : List Int) (n : Int) (m : Nat) : posL g n m ++ [((m + cntG g n m : Nat) : Int)] = posL g n (m + 1) := by
 unfold posL
 rw [List.range_succ, List.map_append]; rfl
theorem posL_at (g : List Int) (n : Int) (m j : Nat) (h : j < m) : rd (posL g n m) (j : Int) = ((j + cntG g n j : Nat) : Int) := by
 unfold posL rd
 rw [Int.toNat_natCast, List.getD_eq_getElem?_getD, List.getElem?_map, List.getElem?_range h]; rfl
theorem w64s (p : Nat) (h : p ≤ 1000000) : wrap64 ((p : Int) + 1) = (p : Int) + 1 := w64 (by omega) (by omega)
theorem smallI {xs : List Int} (h : xs.length ≤ 1000) : xs.length < 17592186044416 := Nat.lt_of_le_of_lt h (by decide)
theorem rdL3 {B : List (List S53)} {i : Nat} (c : i < B.length) : rd_L3 B (i : Int) = B[i] := by unfold rd_L3; rw [Int.toNat_natCast, List.getD_eq_getElem?_getD, List.getElem?_eq_getElem c]; rfl
section
variable (A : List Int) (B Q : List (List S53)) (g : List Int) (hl : g.length ≤ 1000000) (t : Nat) (ht : t < B.length) (hB : B.length ≤ 1000) (l : List S53) (he : rd_L3 B (t : Int) = l) (h40 : l.length ≤ 80) (n : Nat) (hn : n ≤ 100000)
 (hj : ∀ s ∈ l, 8 ≤ s.f0 → 0 ≤ s.f4 ∧ s.f4 ≤ (l.length : Int))
include ht he h40 hj hB in
theorem lands_l2 (m7 : Int) (next : Ev (fun k => fencepostlaw08_SlotsLands.l0 k g true m7 ((t : Int) + 1) A B A Q) true) : ∀ (d i : Nat), l.length - i ≤ d → Ev (fun k => fencepostlaw08_SlotsLands.l2 k g true m7 (t : Int) (rowF g l n) (posL g n (l.length + 1)) (i : Int) A B A Q) true := by
 have s1 : (0 : Int) ≤ (t : Int) := by omega
 have s2 : (t : Int) < (B.length : Int) := by omega
 have last : ∀ i : Nat, ¬ i < l.length → Ev (fun k => fencepostlaw08_SlotsLands.l2 k g true m7 (t : Int) (rowF g l n) (posL g n (l.length + 1)) (i : Int) A B A Q) true := by
  intro i h
  refine Ev.step (fun k => by rw [fencepostlaw08_SlotsLands.l2]) ?_
  simp only [if_pos s1, if_pos s2, he, if_neg (show ¬ (i : Int) < (l.length : Int) by omega), w64 (show -9223372036854775808 ≤ (t : Int) + 1 by omega) (by omega)]
  exact next
 intro d
 induction d with
 | zero => intro i h; exact last i (by omega)
 | succ d ih =>
  intro i h
  by_cases c : i < l.length
  ·have nx := ih (i + 1) (by omega)
   have hi1 : (((i + 1 : Nat) : Int)) = (i : Int) + 1 := by push_cast; rfl
   rw [hi1] at nx
   have w1 := w64 (show -9223372036854775808 ≤ (i : Int) + 1 by omega) (by omega)
   have ep := posL_at g n (l.length + 1) (i + 1) (by omega)
   rw [hi1] at ep
   have hs := cntG_snoc g i (n : Int)
   have hcl := cntG_le g i (n : Int)
   have hfit := row_fit g l n i c
   have hrow := row_step g l n i c
   have hpl := posL_len g n (l.length + 1)
   have em : rd_T53 l (i : Int) ∈ l := by rw [rdSt (List.getElem?_eq_getElem c)]; exact List.getElem_mem c
   have hjj := hj _ em
   refine Ev.step (fun k => by rw [fencepostlaw08_SlotsLands.l2]) ?_
   simp only [if_pos s1, if_pos s2, he, if_pos (show (i : Int) < (l.length : Int) by omega), if_pos (show (0 : Int) ≤ (i : Int) by omega), w1, if_pos (show (0 : Int) ≤ (i : Int) + 1 by omega), if_pos (show (i : Int) + 1 < ((posL g n (l.length + 1)).length : Int) by omega), ep]
   generalize hx : rd_T53 l (i : Int) = x at hjj hrow
   by_cases c8 : x.f0 ≥ 8
   ·obtain ⟨j0, j1⟩ := hjj c8
    have eend : wrap64 (((i + 1 + cntG g n (i + 1) : Nat) : Int) - 1) = ((i + cntG g n i + (if (n : Int) + (i : Int) ∈ g then 1 else 0) : Nat) : Int) := by
     rw [hs]
     rw [show (((i + 1 + (cntG g n i + (if (n : Int) + (i : Int) ∈ g then 1 else 0)) : Nat) : Int) - 1) = ((i + cntG g n i + (if (n : Int) + (i : Int) ∈ g then 1 else 0) : Nat) : Int) by push_cast; omega]
     exact w64 (by omega) (by split <;> omega)
    have etg := posL_at g n (l.length + 1) x.f4.toNat (by omega)
    rw [show ((x.f4.toNat : Nat) : Int) = x.f4 by omega] at etg
    have eto : (toC g n x).f4 = rd (posL g n (l.length + 1)) x.f4 := by
     unfold toC
     rw [if_pos c8, etg]
     show x.f4 + (cntG g n x.f4.toNat : Int) = _
     push_cast; omega
    simp only [if_pos c8, eend, if_pos (show (0 : Int) ≤ ((i + cntG g n i + (if (n : Int) + (i : Int) ∈ g then 1 else 0) : Nat) : Int) by omega), if_pos (show ((i + cntG g n i + (if (n : Int) + (i : Int) ∈ g then 1 else 0) : Nat) : Int) < ((rowF g l n).length : Int) by omega), if_pos j0, if_pos (show x.f4 < ((posL g n (l.length + 1)).length : Int) by omega), hrow, if_pos eto]
    exact nx
   ·simp only [if_neg c8]
    exact nx
  ·exact last i c
include hl ht he h40 hn hj hB in
theorem lands_l1 (next : Ev (fun k => fencepostlaw08_SlotsLands.l0 k g true (((n + l.length : Nat) : Int)) ((t : Int) + 1) A B A Q) true) : ∀ (d i : Nat), l.length - i ≤ d → i ≤ l.length → Ev (fun k => fencepostlaw08_SlotsLands.l1 k g true (((n + i : Nat) : Int)) (t : Int) (rowF g l n) (posL g n i) (((i + cntG g n i : Nat) : Int)) (i : Int) A B A Q) true := by
 have s1 : (0 : Int) ≤ (t : Int) := by omega
 have s2 : (t : Int) < (B.length : Int) := by omega
 have last : ∀ i : Nat, ¬ i < l.length → i ≤ l.length → Ev (fun k => fencepostlaw08_SlotsLands.l1 k g true (((n + i : Nat) : Int)) (t : Int) (rowF g l n) (posL g n i) (((i + cntG g n i : Nat) : Int)) (i : Int) A B A Q) true := by
  intro i h h2
  obtain rfl : i = l.length := by omega
  have hpl := posL_len g n l.length
  refine Ev.step (fun k => by rw [fencepostlaw08_SlotsLands.l1]) ?_
  simp only [if_pos s1, if_pos s2, he, if_neg (show ¬ (l.length : Int) < (l.length : Int) by omega), if_pos (smallI (show (posL g n l.length).length ≤ 1000 by omega)), row_len, posL_snoc]
  simp only [if_true]
  exact lands_l2 A B Q g t ht hB l he h40 n hj _ next l.length 0 (by omega)
 intro d
 induction d with
 | zero => intro i h h2; exact last i (by omega) h2
 | succ d ih =>
  intro i h h2
  by_cases c : i < l.length
  ·have nx := ih (i + 1) (by omega) (by omega)
   have hi1 : (((i + 1 : Nat) : Int)) = (i : Int) + 1 := by push_cast; rfl
   have hn1 : (((n + (i + 1) : Nat) : Int)) = ((n + i : Nat) : Int) + 1 := by push_cast; omega
   rw [hi1, hn1] at nx
   have hs := cntG_snoc g i (n : Int)
   have hcl := cntG_le g i (n : Int)
   have hfit := row_fit g l n i c
   have hrow := row_step g l n i c
   have hpl := posL_len g n i
   have hni : (n : Int) + (i : Int) = ((n + i : Nat) : Int) := by push_cast; rfl
   have b1 : i + cntG g n i ≤ 200 := by clear hs hfit hrow nx; omega
   have b2 : i + cntG g n i ≤ 1000000 := by clear hs hfit hrow nx; omega
   have b3 : n + i ≤ 1000000 := by clear hs hfit hrow nx; omega
   have b5 : (posL g n i).length ≤ 1000 := by clear hs hfit hrow nx; omega
   have b4 : i ≤ 1000000 := by clear hs hfit hrow nx; omega
   have s3 : (i : Int) < (l.length : Int) := by omega
   have s4 : (0 : Int) ≤ (i : Int) := by omega
   have w1 := w64s i b4
   have w2 := w64s (n + i) b3
   have j4 : ∀ p : Nat, p = i + cntG g n i + (if (n : Int) + (i : Int) ∈ g then 1 else 0) → Ev (fun k => fencepostlaw08_SlotsLands.j4 k g true (((n + i : Nat) : Int)) (t : Int) (rowF g l n) (posL g n (i + 1)) (p : Int) (i : Int) A B A Q) true := by
    intro p hp
    have ex : rd_T53 (rowF g l n) (p : Int) = toC g n (rd_T53 l (i : Int)) := by rw [hp]; exact hrow
    have hp1 : ((p : Int) + 1) = ((i + 1 + cntG g n (i + 1) : Nat) : Int) := by rw [hs, hp]; push_cast; omega
    have w3 := w64s p (by have := b1; clear w1 w2 nx ex; split at hp <;> omega)
    have pf : p < (rowF g l n).length := by rw [hp]; exact hfit
    rw [← hp1] at nx
    refine Ev.step (fun k => by rw [fencepostlaw08_SlotsLands.j4]) ?_
    simp only [if_neg (show ¬ (p : Int) ≥ ((rowF g l n).length : Int) by clear w1 w2 w3; omega), if_pos (show (0 : Int) ≤ (p : Int) by clear w1 w2 w3; omega), if_pos (show (p : Int) < ((rowF g l n).length : Int) by clear w1 w2 w3; omega), ex, if_pos s1, if_pos s2, he, if_pos s3, if_pos s4, w1, w2, w3]
    generalize rd_T53 l (i : Int) = x
    by_cases c8 : x.f0 ≥ 8
    ·have e0 : (toC g n x).f0 = x.f0 := by unfold toC; rw [if_pos c8]
     have e1 : (toC g n x).f1 = x.f1 := by unfold toC; rw [if_pos c8]
     have e2 : (toC g n x).f2 = x.f2 := by unfold toC; rw [if_pos c8]
     have e3 : (toC g n x).f3 = x.f3 := by unfold toC; rw [if_pos c8]
     simp only [e0, e1, e2, e3, if_pos c8, beq_self_eq_true, Bool.not_true, Bool.or_self, Bool.false_eq_true, if_false]
     exact nx
    ·have e0 : toC g n x = x := by unfold toC; rw [if_neg c8]
     simp only [e0, if_neg c8, beq_self_eq_true, Bool.not_true, Bool.or_self, Bool.false_eq_true, if_false]
     exact nx
   refine Ev.step (fun k => by rw [fencepostlaw08_SlotsLands.l1]) ?_
   simp only [if_pos s1, if_pos s2, he, if_pos s3, if_pos (smallI b5), posL_snoc, Option.bind_some]
   refine Ev.bind (has_ev g _ hl) ?_
   by_cases cg : (n : Int) + (i : Int) ∈ g
   ·have cg2 := cg
    rw [hni] at cg2
    have hfe := row_fence g l n i c cg
    have j4' := j4 (i + cntG g n i + 1) (by rw [if_pos cg])
    rw [if_pos cg] at hfit
    have hpp : (((i + cntG g n i + 1 : Nat) : Int)) = ((i + cntG g n i : Nat) : Int) + 1 := by push_cast; rfl
    rw [hpp] at j4'
    have w3 := w64s (i + cntG g n i) b2
    simp only [decide_eq_true cg2, if_true, if_neg (show ¬ ((i + cntG g n i : Nat) : Int) ≥ ((rowF g l n).length : Int) by clear w1 w2 w3; omega), if_pos (show (0 : Int) ≤ ((i + cntG g n i : Nat) : Int) by clear w1 w2 w3; omega), if_pos (show ((i + cntG g n i : Nat) : Int) < ((rowF g l n).length : Int) by clear w1 w2 w3; omega), hfe, w3]
    have fs : (!(fenceS.f0 == 6) || (!(fenceS.f1 == 0) || (!(fenceS.f2 == 0) || (!(fenceS.f3 == 0) || (!(fenceS.f4 == 0)))))) = false := by decide
    simp only [fs, Bool.false_eq_true, if_false]
    exact j4'
   ·have cg2 := cg
    rw [hni] at cg2
    have j4' := j4 (i + cntG g n i) (by rw [if_neg cg]; rfl)
    simp only [decide_eq_false cg2, Bool.false_eq_true, if_false]
    exact j4'
  ·exact last i c h2
end
theorem lands_l0 (A : List Int) (B Q : List (List S53)) (g : List Int) (hl : g.length ≤ 1000000) (hB : B.length ≤ 1000) (h80 : ∀ l ∈ B, l.length ≤ 80) (hj : ∀ l ∈ B, ∀ s ∈ l, 8 ≤ s.f0 → 0 ≤ s.f4 ∧ s.f4 ≤ (l.length : Int)) (hQ : Q = (progF g B).1) (hT : totS B ≤ 100000) : ∀ (d t : Nat), B.length - t ≤ d → t ≤ B.length → Ev (fun k => fencepostlaw08_SlotsLands.l0 k g true ((totS (B.take t) : Nat) : Int) (t : Int) A B A Q) true := by
 have last : ∀ t : Nat, ¬ t < B.length → Ev (fun k => fencepostlaw08_SlotsLands.l0 k g true ((totS (B.take t) : Nat) : Int) (t : Int) A B A Q) true := by
  intro t h
  refine Ev.step (fun k => by rw [fencepostlaw08_SlotsLands.l0]) ?_
  simp only [if_neg (show ¬ (t : Int) < (B.length : Int) by omega)]
  exact Ev.now _
 intro d
 induction d with
 | zero => intro t h _; exact last t (by omega)
 | succ d ih =>
  intro t h h2
  by_cases c : t < B.length
  ·have nx := ih (t + 1) (by omega) (by omega)
   have hi1 : (((t + 1 : Nat) : Int)) = (t : Int) + 1 := by push_cast; rfl
   have em := List.getElem_mem c
   have ea := rdL3 c
   have hQl : Q.length = B.length := by rw [hQ]; unfold progF; rw [(prog_len g B ([], 0)).1]; simp
   have hat := prog_at g B [] 0 t c
   simp only [List.length_nil, Nat.zero_add, Int.zero_add] at hat
   have hq : rd_L3 Q (t : Int) = rowF g B[t] (totS (B.take t)) := by
    unfold rd_L3
    rw [Int.toNat_natCast, List.getD_eq_getElem?_getD, hQ]
    unfold progF
    rw [hat]
    exact thF_row g _ _ (hj _ em)
   have hle := totS_take_le B t
   rw [totS_snocB B t c, hi1] at nx
   refine Ev.step (fun k => by rw [fencepostlaw08_SlotsLands.l0]) ?_
   simp only [if_pos (show (t : Int) < (B.length : Int) by omega), if_pos (show (0 : Int) ≤ (t : Int) by omega), if_pos (show (t : Int) < (Q.length : Int) by omega), hq]
   exact lands_l1 A B Q g hl t c hB B[t] ea (h80 _ em) (totS (B.take t)) (by omega) (hj _ em) nx B[t].length 0 (by omega) (by omega)
  ·exact last t c
end Go.Proofs.Ytijpfonbeepmfaa.Print
namespace Go.Proofs.Ytijpfonbeepmfaa.Pure
open Go.Proofs.Ytijpfonbeepmfaa.Print Go.RowKit Go.Proofs.YtijpfonbeepmfaaW.PrintWords Go.Proofs.YtijpfonbeepmfaaW.PrintLast Go.Proofs.YtijpfonbeepmfaaW.PrintMore
set_option linter.unusedVariables false
set_option linter.unusedSimpArgs false
theorem SlotsLands (x0 : S25) (x1 : List Int) (g0 : ok25 x0) (g1 : (GoodL (fun x : Int => (Lit.int .i64 x).wf = true)) x1) : ∃ k, fencepostlaw08_SlotsLands.f k x0.f0 x0.f1 x1 = some true := by
 have no : Ev (fun k => fencepostlaw08_SlotsLands.j0 k x1 true true x0.f0 x0.f1) true := by
  refine Ev.step (fun k => by rw [fencepostlaw08_SlotsLands.j0]) ?_
  simp only [if_true]
  exact Ev.now _
 refine Ev.rounds (r := true) ?_
 unfold fencepostlaw08_SlotsLands.f
 simp only [fencepostlaw08_head.f, Option.bind_some]
 obtain ⟨g, hg, hok⟩ := great8_ev x0.f0 x0.f1
 refine Ev.bind hg ?_
 cases g with
 | true => simp only [if_true]; exact no
 | false =>
  simp only [Bool.false_eq_true, if_false]
  have hc := (hok rfl).1
  by_cases c : (x1.length : Int) > 100
  ·simp only [decide_eq_true c]; exact no
  ·simp only [decide_eq_false c]
   have hfew := hc.few
   have hlocs := hc.locs
   have hS := totS_le x0.f1 (fun l hl => (rows_of hc l hl).1)
   have hlen : (progF x1 x0.f1).1.length = x0.f1.length := by unfold progF; rw [(prog_len x1 x0.f1 ([], 0)).1]; simp
   refine Ev.step (fun k => by rw [fencepostlaw08_SlotsLands.j0]) ?_
   simp only [Bool.false_eq_true, if_false, insert_f hc g1.2 (show x1.length ≤ 1000000 by omega), Option.bind_some, hlen, if_true]
   refine Ev.bind (same7_refl x0.f0 [] (by omega) (by simp) (by simp)) ?_
   simp only [Bool.not_true]
   refine Ev.step (fun k => by rw [fencepostlaw08_SlotsLands.j1]) ?_
   simp only [Bool.false_eq_true, if_false]
   exact lands_l0 x0.f0 x0.f1 _ x1 (by omega) (by omega) (fun l hl => (rows_of hc l hl).1) (jumps_of hc) rfl (by omega) x0.f1.length 0 (by omega) (by omega)
end Go.Proofs.Ytijpfonbeepmfaa.Pure
