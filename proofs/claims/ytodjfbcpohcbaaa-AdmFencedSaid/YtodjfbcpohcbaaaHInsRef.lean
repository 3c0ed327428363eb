/- ref08's Count and Insert: plain Lean. -/
import Derived.Test.YtodjfbcpohcbaaaPrint5
import Derived.Test.YtodjfbcpohcbaaaHHas
import Derived.Test.YtodjfbcpohcbaaaHIns
namespace Go.Proofs.Ytodjfbcpohcbaaa.Print
open Go.RowKit Go.Maps Go.Proofs.YtodjfbcpohcbaaaW.PrintWords Go.Proofs.YtodjfbcpohcbaaaW.PrintLast Go.Proofs.YtodjfbcpohcbaaaW.PrintMore
set_option linter.unusedVariables false
set_option linter.unusedSimpArgs false

theorem ird_L2 (zs : List (List S49)) (t : Nat) (h : t < zs.length) : rd_L2 zs (t : Int) = zs[t] := by
  unfold rd_L2
  rw [List.getD_eq_getElem?_getD, show ((t : Int)).toNat = t by omega, List.getElem?_eq_getElem h]; rfl
theorem count_l0 (g : List Int) (hg : g.length ≤ 1000000) (n : Int) (hn : 0 ≤ n) (hn2 : n ≤ 1000000) (m : Nat) (hm : m ≤ 1000) : ∀ (d i : Nat), m - i ≤ d → i ≤ m → Ev (fun k => fencepostref08_Count.l0 k g n (m : Int) (cnt (fset g n) i : Int) (i : Int)) (cnt (fset g n) m : Int) := by
  intro d
  induction d with
  | zero =>
    intro i h1 h2
    obtain rfl : i = m := by omega
    refine Ev.step (fun k => by rw [fencepostref08_Count.l0]) ?_
    simp only [if_neg (show ¬ (i : Int) < (i : Int) by omega)]
    exact Ev.now _
  | succ d ih =>
    intro i h1 h2
    by_cases c : i < m
    · have ha := ih (i + 1) (by omega) (by omega)
      have p1 : (i : Int) < (m : Int) := by omega
      have hc := cnt_le (fset g n) i
      have e1 : wrap64 (n + (i : Int)) = n + (i : Int) := w64 (by omega) (by omega)
      have e2 := wnat i (by omega)
      have e3 := wnat (cnt (fset g n) i) (by omega)
      rw [cnt_succ] at ha
      refine Ev.step (fun k => by rw [fencepostref08_Count.l0]) ?_
      simp only [if_pos p1, e1, e2, e3]
      refine Ev.bind (has_ev g _ hg) ?_
      cases hf : decide (n + (i : Int) ∈ g) with
      | true =>
        rw [if_pos (show fset g n i = true from hf)] at ha
        simp only [if_true]; exact ha
      | false =>
        rw [if_neg (by rw [show fset g n i = false from hf]; simp)] at ha
        simp only [Bool.false_eq_true, if_false]; exact ha
    · obtain rfl : i = m := by omega
      refine Ev.step (fun k => by rw [fencepostref08_Count.l0]) ?_
      simp only [if_neg (show ¬ (i : Int) < (i : Int) by omega)]
      exact Ev.now _
theorem count_ev (g : List Int) (hg : g.length ≤ 1000000) (n : Int) (hn : 0 ≤ n) (hn2 : n ≤ 1000000) (m : Int) (h0 : 0 ≤ m) (hm : m ≤ 1000) : Ev (fun k => fencepostref08_Count.f k g n m) (cnt (fset g n) m.toNat : Int) := by
  unfold fencepostref08_Count.f
  have := count_l0 g hg n hn hn2 m.toNat (by omega) m.toNat 0 (by omega) (by omega)
  rw [show ((m.toNat : Nat) : Int) = m by omega] at this
  exact this
theorem insert_l1 (g : List Int) (hg : g.length ≤ 1000000) (A : List Int) (B : List (List S49)) (C : List Int) (D : List (List S49)) (hD : D.length ≤ 1000) (t : Nat) (ht : t < B.length) (l : List S49) (hl : l = B[t]) (hlen : l.length ≤ 80) {q : Nat} (hR : RowOk q l) (n : Int) (hn : 0 ≤ n) (hn2 : n ≤ 100000) (r : List Int × List (List S49))
    (hr : Ev (fun k => fencepostref08_Insert.l0 k g (n + (l.length : Int)) (wrap64 ((t : Int) + 1)) A B C (D ++ [insN (fset g n) l l.length])) r) : ∀ (d i : Nat), l.length - i ≤ d → i ≤ l.length → Ev (fun k => fencepostref08_Insert.l1 k g n (t : Int) (insN (fset g n) l i) (i : Int) A B C D) r := by
  have e0 : rd_L2 B (t : Int) = l := (ird_L2 B t ht).trans hl.symm
  have p1 : (0 : Int) ≤ (t : Int) := by omega
  have p2 : (t : Int) < (B.length : Int) := by omega
  have p3 : wrap64 (n + (l.length : Int)) = n + (l.length : Int) := w64 (by omega) (by omega)
  have p4 : D.length < 5864062014805 := by omega
  have done : Ev (fun k => fencepostref08_Insert.l1 k g n (t : Int) (insN (fset g n) l l.length) (l.length : Int) A B C D) r := by
    refine Ev.step (fun k => by rw [fencepostref08_Insert.l1]) ?_
    simp only [e0, if_pos p1, if_pos p2, if_neg (show ¬ (l.length : Int) < (l.length : Int) from Int.lt_irrefl _), p3, if_pos p4]
    exact hr
  clear p3 p4
  intro d
  induction d with
  | zero =>
    intro i h1 h2
    obtain rfl : i = l.length := by omega
    exact done
  | succ d ih =>
    intro i h1 h2
    by_cases c : i < l.length
    · have ha := ih (i + 1) (by omega) (by omega)
      have q1 : (i : Int) < (l.length : Int) := by omega
      have q2 : (0 : Int) ≤ (i : Int) := by omega
      have hle := insN_le (fset g n) l i
      have q3 : (insN (fset g n) l i).length ≤ 200 := by omega
      have hs := (hR (i : Int) q2 q1).tgt
      obtain ⟨x, hx⟩ : ∃ x, x = rd_T49 l (i : Int) := ⟨_, rfl⟩
      rw [← hx] at hs
      unfold JumpOk at hs
      have hq : fset g n i = decide (n + (i : Int) ∈ g) := rfl
      -- what both ways go on with
      have go : ∀ pre : List S49, pre.length ≤ 300 → (insN (fset g n) l (i + 1) = pre ++ [shiftS (fset g n) x]) → Ev (fun k => if x.f0 ≥ 8 then ((fencepostref08_Count.f k g n x.f4).bind fun t283 => (if pre.length < 3518437208883 then (fencepostref08_Insert.l1 k g n (t : Int) (pre ++ [(⟨x.f0, x.f1, x.f2, x.f3, wrap64 (x.f4 + t283)⟩ : S49)]) ((i + 1 : Nat) : Int) A B C D) else none)) else (if pre.length < 3518437208883 then (fencepostref08_Insert.l1 k g n (t : Int) (pre ++ [(⟨x.f0, x.f1, x.f2, x.f3, x.f4⟩ : S49)]) ((i + 1 : Nat) : Int) A B C D) else none)) r := by
        intro pre hp he
        rw [he] at ha
        by_cases c8 : x.f0 ≥ 8
        · have := hs c8
          have hcv := count_ev g hg n hn (by omega) x.f4 (by omega) (by omega)
          have e4 : wrap64 (x.f4 + (cnt (fset g n) x.f4.toNat : Int)) = x.f4 + (cnt (fset g n) x.f4.toNat : Int) := by
            have := cnt_le (fset g n) x.f4.toNat
            exact w64 (by omega) (by omega)
          have hp2 : pre.length < 3518437208883 := by omega
          simp only [if_pos c8, if_pos hp2]
          refine Ev.bind hcv ?_
          rw [e4]
          unfold shiftS at ha
          rw [if_pos c8] at ha
          exact ha
        · have hp2 : pre.length < 3518437208883 := by omega
          simp only [if_neg c8, if_pos hp2]
          unfold shiftS at ha
          rw [if_neg c8] at ha
          exact ha
      have q5 : (insN (fset g n) l i ++ [fenceS]).length ≤ 300 := by simp; omega
      have q4 : (insN (fset g n) l i).length < 3518437208883 := by omega
      have q6 : (insN (fset g n) l i).length ≤ 300 := by omega
      have e1 : wrap64 (n + (i : Int)) = n + (i : Int) := w64 (by omega) (by omega)
      have e2 := wnat i (by omega)
      refine Ev.step (fun k => by rw [fencepostref08_Insert.l1]) ?_
      simp only [e0, if_pos p1, if_pos p2, if_pos q1, if_pos q2, e1, e2, ← hx]
      refine Ev.bind (has_ev g _ hg) ?_
      cases hf : decide (n + (i : Int) ∈ g) with
      | true =>
        simp only [if_true, if_pos q4, Option.bind_some]
        refine go (insN (fset g n) l i ++ [fenceS]) q5 ?_
        rw [insN, if_pos (hq.trans hf), ← hx]
      | false =>
        simp only [Bool.false_eq_true, if_false]
        refine go (insN (fset g n) l i) q6 ?_
        rw [insN, if_neg (by rw [hq, hf]; simp), ← hx, List.append_nil]
    · obtain rfl : i = l.length := by omega
      exact done
theorem itot_take (B : List (List S49)) (t : Nat) : tot (B.take t) ≤ tot B := by
  have := tot_append (B.take t) (B.drop t)
  rw [List.take_append_drop] at this
  omega
theorem insert_l0 (g : List Int) (hg : g.length ≤ 1000000) (A : List Int) (B : List (List S49)) (C : List Int) {q : Nat} (hB : B.length ≤ 1000) (htot : tot B ≤ 10000) (hlen : ∀ l ∈ B, l.length ≤ 80) (hR : ∀ l ∈ B, RowOk q l) : ∀ (d t : Nat), B.length - t ≤ d → t ≤ B.length → Ev (fun k => fencepostref08_Insert.l0 k g (tot (B.take t) : Int) (t : Int) A B C (insAll g 0 (B.take t))) (C, insAll g 0 B) := by
  intro d
  induction d with
  | zero =>
    intro t h1 h2
    obtain rfl : t = B.length := by omega
    refine Ev.step (fun k => by rw [fencepostref08_Insert.l0]) ?_
    simp only [if_neg (show ¬ (B.length : Int) < (B.length : Int) by omega), List.take_length]
    exact Ev.now _
  | succ d ih =>
    intro t h1 h2
    by_cases c : t < B.length
    · have ha := ih (t + 1) (by omega) (by omega)
      have hm : B[t] ∈ B := List.getElem_mem c
      have ht := itot_take B t
      have hw := wnat t (by omega)
      have e3 : B.take (t + 1) = B.take t ++ [B[t]] := by rw [List.take_succ_eq_append_getElem c]
      rw [e3, insAll_append, tot_append, ← hw] at ha
      simp only [insAll, tot, Nat.add_zero, Int.zero_add, Int.natCast_add] at ha
      refine Ev.step (fun k => by rw [fencepostref08_Insert.l0]) ?_
      simp only [if_pos (show (t : Int) < (B.length : Int) by omega)]
      have := insert_l1 g hg A B C (insAll g 0 (B.take t)) (by rw [insAll_length, List.length_take]; omega) t c B[t] rfl (hlen _ hm) (hR _ hm) (tot (B.take t) : Int) (by omega) (by omega) (C, insAll g 0 B) ha B[t].length 0 (by omega) (by omega)
      exact this
    · obtain rfl : t = B.length := by omega
      refine Ev.step (fun k => by rw [fencepostref08_Insert.l0]) ?_
      simp only [if_neg (show ¬ (B.length : Int) < (B.length : Int) by omega), List.take_length]
      exact Ev.now _
theorem insert_ev (g : List Int) (hg : g.length ≤ 1000000) (A : List Int) (B : List (List S49)) {q : Nat} (hA : A.length ≤ 1000) (hB : B.length ≤ 1000) (htot : tot B ≤ 10000) (hlen : ∀ l ∈ B, l.length ≤ 80) (hR : ∀ l ∈ B, RowOk q l) : Ev (fun k => fencepostref08_Insert.f k A B g) (A, insAll g 0 B) := by
  unfold fencepostref08_Insert.f
  simp only [Option.bind_some, List.length_nil, Nat.zero_add, if_pos (show A.length < 17592186044416 by omega), List.nil_append]
  have := insert_l0 g hg A B A hB htot hlen hR B.length 0 (by omega) (by omega)
  simpa [tot, insAll] using this
end Go.Proofs.Ytodjfbcpohcbaaa.Print
