/- The reference's Fence: what it answers. Plain Lean. -/
import Derived.Test.YtijpfonbeepmfaaHSlRef
namespace Go.Proofs.Ytijpfonbeepmfaa.Print
open Go.RowKit Go.Proofs.YtijpfonbeepmfaaW.PrintWords Go.Proofs.YtijpfonbeepmfaaW.PrintLast Go.Proofs.YtijpfonbeepmfaaW.PrintMore
set_option linter.unusedVariables false
set_option linter.unusedSimpArgs false
theorem fenceL_is : (⟨6, ⟨#[]⟩, ⟨#[]⟩, ⟨#[]⟩, 0⟩ : S60) = fenceL := rfl
theorem smallL {α : Type} {xs : List α} (h : xs.length ≤ 1000) : xs.length < 2199023255552 := Nat.lt_of_le_of_lt h (by decide)
theorem smallT {α : Type} {xs : List α} (h : xs.length ≤ 1000) : xs.length < 5864062014805 := Nat.lt_of_le_of_lt h (by decide)
section
variable (N : ByteArray) (I : List S62) (b : Bool) (C : List S64)
theorem rfen_l1 (T : List S58) (g : List Int) (hl : g.length ≤ 1000000) (t : Nat) (ht : t < T.length) (hT : T.length ≤ 1000) (n : Int) (hn : 0 ≤ n ∧ n ≤ 100000) (ts : List S58) (hts : ts.length ≤ 1000) (l : List S60) (he : (rd_T58 T (t : Int)).f0 = l) (h2 : l.length ≤ 300) (r : ByteArray × List S62 × List S58 × Bool × List S64)
 (next : Ev (fun k => fencepostref08_Fence.l0 k g (n + (cnt l : Int)) ((t : Int) + 1) N I T b C N I (ts ++ [⟨fen g l n⟩]) b C) r) : ∀ (d j : Nat), l.length - j ≤ d → j ≤ l.length → Ev (fun k => fencepostref08_Fence.l1 k g ((l.take j).foldl (lineStep (fenceTT g)) ([], n, ())).2.1 (t : Int) ((l.take j).foldl (lineStep (fenceTT g)) ([], n, ())).1 (j : Int) N I T b C N I ts b C) r := by
 have s1 : (0 : Int) ≤ (t : Int) := by omega
 have s2 : (t : Int) < (T.length : Int) := by omega
 have last : ∀ j : Nat, ¬ j < l.length → j ≤ l.length → Ev (fun k => fencepostref08_Fence.l1 k g ((l.take j).foldl (lineStep (fenceTT g)) ([], n, ())).2.1 (t : Int) ((l.take j).foldl (lineStep (fenceTT g)) ([], n, ())).1 (j : Int) N I T b C N I ts b C) r := by
  intro j h h3
  obtain rfl : j = l.length := by omega
  refine Ev.step (fun k => by rw [fencepostref08_Fence.l1]) ?_
  simp only [he, if_pos s1, if_pos s2, if_neg (show ¬ (l.length : Int) < (l.length : Int) by omega), List.take_length, if_pos (smallT hts), w64 (show -9223372036854775808 ≤ (t : Int) + 1 by omega) (by omega), fen_fold g l [] n, List.nil_append]
  exact next
 intro d
 induction d with
 | zero => intro j h h3; exact last j (by omega) h3
 | succ d ih =>
  intro j h h3
  by_cases c : j < l.length
  ·have nx := ih (j + 1) (by omega) (by omega)
   rw [take_snoc l j c, List.foldl_append, List.foldl_cons, List.foldl_nil] at nx
   obtain ⟨g1, g2, g3⟩ := thr_short (fence_short g) (l.take j) ([], n, ())
   simp only [List.length_take, List.length_nil] at g1 g2 g3
   refine Ev.step (fun k => by rw [fencepostref08_Fence.l1]) ?_
   simp only [he, if_pos s1, if_pos s2, if_pos (show (j : Int) < (l.length : Int) by omega), if_pos (show (0 : Int) ≤ (j : Int) by omega)]
   generalize (l.take j).foldl (lineStep (fenceTT g)) ([], n, ()) = q at nx g1 g2 g3 ⊢
   generalize rd_T60 l (j : Int) = x at nx ⊢
   have hi1 : (((j + 1 : Nat) : Int)) = (j : Int) + 1 := by push_cast; rfl
   rw [hi1] at nx
   have hL : q.1.length ≤ 1000 := by omega
   have hL2 : (q.1 ++ [fenceL]).length ≤ 1000 := by rw [List.length_append]; simp only [List.length_cons, List.length_nil]; omega
   have w2 := w64 (show -9223372036854775808 ≤ (j : Int) + 1 by omega) (show (j : Int) + 1 ≤ 9223372036854775807 by omega)
   have w3 := w64 (show -9223372036854775808 ≤ q.2.1 + 1 by clear w2; omega) (show q.2.1 + 1 ≤ 9223372036854775807 by clear w2; omega)
   simp only [w2, w3]
   clear w2 w3
   by_cases c11 : x.f0 = 11
   ·have e : lineStep (fenceTT g) q x = (q.1 ++ [x], q.2.1, q.2.2) := by unfold lineStep; rw [if_pos c11]
    rw [e] at nx
    simp only [if_pos c11, if_pos (smallL hL)]
    exact nx
   ·have e : lineStep (fenceTT g) q x = (q.1 ++ fenceT g x q.2.1, q.2.1 + 1, ()) := by unfold lineStep; rw [if_neg c11]; rfl
    rw [e] at nx
    simp only [if_neg c11]
    refine Ev.bind (has_ev g _ hl) ?_
    by_cases cg : q.2.1 ∈ g
    ·simp only [decide_eq_true cg, if_true, Option.bind_some, if_pos (smallL hL), fenceL_is, if_pos (smallL hL2)]
     unfold fenceT at nx
     rw [if_pos cg] at nx
     simp only [List.append_assoc, List.cons_append, List.nil_append]
     exact nx
    ·simp only [decide_eq_false cg, Bool.false_eq_true, if_false, if_pos (smallL hL)]
     unfold fenceT at nx
     rw [if_neg cg] at nx
     exact nx
  ·exact last j c h3
theorem totLn_at (T : List S58) (t : Nat) (h : t < T.length) : rd_T58 T (t : Int) = T[t] := by unfold rd_T58; rw [Int.toNat_natCast, List.getD_eq_getElem?_getD, List.getElem?_eq_getElem h]; rfl
theorem rfen_l0 (T : List S58) (g : List Int) (hl : g.length ≤ 1000000) (hT : T.length ≤ 500) (h3 : ∀ x ∈ T, x.f0.length ≤ 300) (r : ByteArray × List S62 × List S58 × Bool × List S64) : ∀ (d t : Nat) (n : Int) (ts : List S58), T.length - t ≤ d → t ≤ T.length → 0 ≤ n ∧ n + totLn (T.drop t) ≤ 100000 → ts.length + (T.length - t) ≤ 1000 → r = (N, I, ts ++ fenT g (T.drop t) n, b, C) → Ev (fun k => fencepostref08_Fence.l0 k g n (t : Int) N I T b C N I ts b C) r := by
 have last : ∀ (t : Nat) (n : Int) (ts : List S58), ¬ t < T.length → r = (N, I, ts ++ fenT g (T.drop t) n, b, C) → Ev (fun k => fencepostref08_Fence.l0 k g n (t : Int) N I T b C N I ts b C) r := by
  intro t n ts h hr
  rw [List.drop_eq_nil_of_le (show T.length ≤ t by omega)] at hr
  simp only [fenT, List.append_nil] at hr
  refine Ev.step (fun k => by rw [fencepostref08_Fence.l0]) ?_
  simp only [if_neg (show ¬ (t : Int) < (T.length : Int) by omega)]
  rw [hr]
  exact Ev.now _
 intro d
 induction d with
 | zero => intro t n ts h _ _ _ hr; exact last t n ts (by omega) hr
 | succ d ih =>
  intro t n ts h h2 hn hts hr
  by_cases c : t < T.length
  ·have ea := totLn_at T t c
   have hm : rd_T58 T (t : Int) ∈ T := by rw [ea]; exact List.getElem_mem c
   have ed : T.drop t = rd_T58 T (t : Int) :: T.drop (t + 1) := by rw [ea]; exact List.drop_eq_getElem_cons c
   have hc := cnt_le (rd_T58 T (t : Int)).f0
   have hlen := h3 _ hm
   rw [ed] at hr hn
   have et : totLn (rd_T58 T (t : Int) :: T.drop (t + 1)) = (rd_T58 T (t : Int)).f0.length + totLn (T.drop (t + 1)) := by simp [totLn]
   rw [et] at hn
   simp only [fenT] at hr
   have hi1 : (((t + 1 : Nat) : Int)) = (t : Int) + 1 := by push_cast; rfl
   have nx := ih (t + 1) (n + (cnt (rd_T58 T (t : Int)).f0 : Int)) (ts ++ [⟨fen g (rd_T58 T (t : Int)).f0 n⟩]) (by omega) (by omega) ⟨by omega, by omega⟩ (by rw [List.length_append]; simp only [List.length_cons, List.length_nil]; omega) (by rw [hr, List.append_assoc]; rfl)
   rw [hi1] at nx
   refine Ev.step (fun k => by rw [fencepostref08_Fence.l0]) ?_
   simp only [if_pos (show (t : Int) < (T.length : Int) by omega)]
   exact rfen_l1 N I b C T g hl t c (by omega) n ⟨hn.1, by omega⟩ ts (by omega) _ rfl hlen r nx (rd_T58 T (t : Int)).f0.length 0 (by omega) (by omega)
  ·exact last t n ts c hr
theorem rfen_ev (T : List S58) (g : List Int) (hl : g.length ≤ 1000000) (hT : T.length ≤ 500) (h3 : ∀ x ∈ T, x.f0.length ≤ 300) (htot : totLn T ≤ 100000) : Ev (fun k => fencepostref08_Fence.f k N I T b C g) (N, I, fenT g T 0, b, C) := by
 unfold fencepostref08_Fence.f
 exact rfen_l0 N I b C T g hl hT h3 _ T.length 0 0 [] (by omega) (by omega) (by rw [List.drop_zero]; omega) (by simp; omega) (by rw [List.drop_zero]; rfl)
end
end Go.Proofs.Ytijpfonbeepmfaa.Print
