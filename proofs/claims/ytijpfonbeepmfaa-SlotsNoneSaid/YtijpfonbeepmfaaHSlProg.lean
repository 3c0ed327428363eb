/- Programs: what Insert makes, by what stands in its row of numbers; ref07.Same of one and the same: plain Lean. -/
import Derived.Test.YtijpfonbeepmfaaHSlIns1
import Derived.Test.YtijpfonbeepmfaaHSlCode
import Derived.Test.YtijpfonbeepmfaaPrint5
namespace Go.Proofs.Ytijpfonbeepmfaa.Print
open Go.RowKit Go.Proofs.YtijpfonbeepmfaaW.PrintWords Go.Proofs.YtijpfonbeepmfaaW.PrintLast Go.Proofs.YtijpfonbeepmfaaW.PrintMore
set_option linter.unusedVariables false
set_option linter.unusedSimpArgs false
theorem ins_congr (g g' : List Int) : ∀ (l : List S53) (st : List S53 × List Int × Int), (∀ m, st.2.2 ≤ m → m < st.2.2 + l.length → (m ∈ g ↔ m ∈ g')) → l.foldl (insStep g) st = l.foldl (insStep g') st
  | [], st, h => rfl
  | x :: r, st, h => by
    have e : insStep g st x = insStep g' st x := by
      unfold insStep
      simp only [h st.2.2 (Int.le_refl _) (by rw [List.length_cons]; push_cast; omega)]
    rw [List.foldl_cons, List.foldl_cons, e]
    refine ins_congr g g' r _ (fun m h1 h2 => ?_)
    have e2 : (insStep g' st x).2.2 = st.2.2 + 1 := rfl
    rw [e2] at h1 h2
    exact h m (by omega) (by rw [List.length_cons]; push_cast; omega)
theorem prog_congr (g g' : List Int) : ∀ (B : List (List S53)) (st : List (List S53) × Int), (∀ m, st.2 ≤ m → m < st.2 + totS B → (m ∈ g ↔ m ∈ g')) → B.foldl (progStep g) st = B.foldl (progStep g') st
  | [], st, h => rfl
  | l :: r, st, h => by
    have et : (totS (l :: r) : Int) = l.length + totS r := by simp [totS]
    have e : progStep g st l = progStep g' st l := by
      unfold progStep thF insF
      rw [ins_congr g g' l ([], [], st.2) (fun m h1 h2 => h m h1 (by rw [et]; have h2' : m < st.2 + l.length := h2; omega))]
    rw [List.foldl_cons, List.foldl_cons, e]
    refine prog_congr g g' r _ (fun m h1 h2 => ?_)
    have e2 : (progStep g' st l).2 = st.2 + l.length := rfl
    rw [e2] at h1 h2
    exact h m (by omega) (by omega)
theorem ins_none (g : List Int) : ∀ (l : List S53) (out : List S53) (beg : List Int) (n : Int), (∀ m, n ≤ m → m < n + l.length → m ∉ g) → l.foldl (insStep g) (out, beg, n) = (out ++ l, beg ++ (List.range l.length).map (fun j => ((out.length + j : Nat) : Int)), n + l.length)
  | [], out, beg, n, h => by simp
  | x :: r, out, beg, n, h => by
    have e : insStep g (out, beg, n) x = (out ++ [x], beg ++ [(out.length : Int)], n + 1) := by
      unfold insStep
      simp only [if_neg (h n (Int.le_refl _) (by rw [List.length_cons]; push_cast; omega))]
    rw [List.foldl_cons, e, ins_none g r _ _ (n + 1) (fun m h1 h2 => h m (by omega) (by rw [List.length_cons]; push_cast; omega))]
    refine Prod.ext (by simp) (Prod.ext ?_ ?_)
    · simp only [List.length_append, List.length_cons, List.length_nil, List.range_succ_eq_map, List.map_cons, List.map_map, List.append_assoc, List.cons_append, List.nil_append, Nat.add_zero]
      congr 2
      refine List.map_congr_left (fun j _ => ?_)
      show ((out.length + (0 + 1) + j : Nat) : Int) = ((out.length + (j + 1) : Nat) : Int)
      congr 1; omega
    · show n + 1 + (r.length : Int) = n + ((x :: r).length : Int)
      rw [List.length_cons]; push_cast; omega
theorem th_none (g : List Int) (l : List S53) (n : Int) (h : ∀ m, n ≤ m → m < n + l.length → m ∉ g) (hj : ∀ s ∈ l, 8 ≤ s.f0 → 0 ≤ s.f4 ∧ s.f4 ≤ (l.length : Int)) : thF g l n = l := by
  have e : insF g l n = (l, (List.range l.length).map (fun j => ((0 + j : Nat) : Int)), n + l.length) := ins_none g l [] [] n h
  have eb : begF (insF g l n) = (List.range (l.length + 1)).map (fun j => ((0 + j : Nat) : Int)) := by
    rw [e]
    unfold begF
    rw [List.range_succ, List.map_append]
    simp
  unfold thF
  rw [eb, e]
  refine (List.map_congr_left (fun s hs => ?_)).trans (List.map_id l)
  unfold toF
  by_cases c : s.f0 ≥ 8
  · rw [if_pos c]
    obtain ⟨h1, h2⟩ := hj s hs c
    have er : rd ((List.range (l.length + 1)).map (fun j => ((0 + j : Nat) : Int))) s.f4 = s.f4 := by
      unfold rd
      rw [List.getD_eq_getElem?_getD, List.getElem?_map, List.getElem?_range (by omega)]
      show ((0 + s.f4.toNat : Nat) : Int) = s.f4
      omega
    rw [er]; rfl
  · rw [if_neg c]; rfl
theorem prog_none (g : List Int) : ∀ (B : List (List S53)) (ts : List (List S53)) (n : Int), (∀ m, n ≤ m → m < n + totS B → m ∉ g) → (∀ l ∈ B, ∀ s ∈ l, 8 ≤ s.f0 → 0 ≤ s.f4 ∧ s.f4 ≤ (l.length : Int)) → B.foldl (progStep g) (ts, n) = (ts ++ B, n + totS B)
  | [], ts, n, h, hj => by simp [totS]
  | l :: r, ts, n, h, hj => by
    have et : (totS (l :: r) : Int) = l.length + totS r := by simp [totS]
    have e : progStep g (ts, n) l = (ts ++ [l], n + l.length) := by
      unfold progStep
      simp only [th_none g l n (fun m h1 h2 => h m h1 (by omega)) (hj l (List.mem_cons_self ..))]
    rw [List.foldl_cons, e, prog_none g r _ _ (fun m h1 h2 => h m (by omega) (by omega)) (fun l' hl' => hj l' (List.mem_cons_of_mem _ hl'))]
    refine Prod.ext (by simp) ?_
    show n + (l.length : Int) + (totS r : Int) = n + (totS (l :: r) : Int)
    omega
theorem sameI_l0 (l : List Int) (hl : l.length ≤ 1000000) : ∀ (d i : Nat), l.length - i ≤ d → Ev (fun k => fencepostref07_SameInts.l0 k l l (i : Int)) true := by
  intro d
  induction d with
  | zero =>
    intro i h
    refine Ev.step (fun k => by rw [fencepostref07_SameInts.l0]) ?_
    simp only [if_neg (show ¬ (i : Int) < (l.length : Int) by omega)]
    exact Ev.now _
  | succ d ih =>
    intro i h
    by_cases c : i < l.length
    · refine Ev.step (fun k => by rw [fencepostref07_SameInts.l0]) ?_
      simp only [if_pos (show (i : Int) < (l.length : Int) by omega), if_pos (show (0 : Int) ≤ (i : Int) by omega), if_true, w64 (show -9223372036854775808 ≤ (i : Int) + 1 by omega) (by omega)]
      exact ih (i + 1) (by omega)
    · refine Ev.step (fun k => by rw [fencepostref07_SameInts.l0]) ?_
      simp only [if_neg (show ¬ (i : Int) < (l.length : Int) by omega)]
      exact Ev.now _
section
variable (A : List Int) (B : List (List S53))
theorem same7_l1 (t : Nat) (ht : t < B.length) (hl : (rd_L3 B (t : Int)).length ≤ 1000000) (next : Ev (fun k => fencepostref07_Same.l0 k (wrap64 ((t : Int) + 1)) A B A B) true) : ∀ (d i : Nat), (rd_L3 B (t : Int)).length - i ≤ d → Ev (fun k => fencepostref07_Same.l1 k (t : Int) (i : Int) A B A B) true := by
  have s1 : (0 : Int) ≤ (t : Int) := by omega
  have s2 : (t : Int) < (B.length : Int) := by omega
  intro d
  induction d with
  | zero =>
    intro i h
    refine Ev.step (fun k => by rw [fencepostref07_Same.l1]) ?_
    simp only [if_pos s1, if_pos s2, if_neg (show ¬ (i : Int) < ((rd_L3 B (t : Int)).length : Int) by omega)]
    exact next
  | succ d ih =>
    intro i h
    by_cases c : i < (rd_L3 B (t : Int)).length
    · refine Ev.step (fun k => by rw [fencepostref07_Same.l1]) ?_
      simp only [if_pos s1, if_pos s2, if_pos (show (i : Int) < ((rd_L3 B (t : Int)).length : Int) by omega), if_pos (show (0 : Int) ≤ (i : Int) by omega), beq_self_eq_true, Bool.not_true, Bool.or_self, Bool.false_eq_true, if_false, w64 (show -9223372036854775808 ≤ (i : Int) + 1 by omega) (by omega)]
      exact ih (i + 1) (by omega)
    · refine Ev.step (fun k => by rw [fencepostref07_Same.l1]) ?_
      simp only [if_pos s1, if_pos s2, if_neg (show ¬ (i : Int) < ((rd_L3 B (t : Int)).length : Int) by omega)]
      exact next
theorem same7_l0 (hB : B.length ≤ 1000000) (hl : ∀ l ∈ B, l.length ≤ 1000000) : ∀ (d i : Nat), B.length - i ≤ d → Ev (fun k => fencepostref07_Same.l0 k (i : Int) A B A B) true := by
  intro d
  induction d with
  | zero =>
    intro i h
    refine Ev.step (fun k => by rw [fencepostref07_Same.l0]) ?_
    simp only [if_neg (show ¬ (i : Int) < (B.length : Int) by omega)]
    exact Ev.now _
  | succ d ih =>
    intro i h
    by_cases c : i < B.length
    · refine Ev.step (fun k => by rw [fencepostref07_Same.l0]) ?_
      simp only [if_pos (show (i : Int) < (B.length : Int) by omega), if_pos (show (0 : Int) ≤ (i : Int) by omega), if_true]
      have e : rd_L3 B (i : Int) = B[i] := by unfold rd_L3; rw [Int.toNat_natCast, List.getD_eq_getElem?_getD, List.getElem?_eq_getElem c]; rfl
      refine same7_l1 A B i c (by rw [e]; exact hl _ (List.getElem_mem c)) ?_ (rd_L3 B (i : Int)).length 0 (by omega)
      rw [w64 (by omega) (by omega)]
      exact ih (i + 1) (by omega)
    · refine Ev.step (fun k => by rw [fencepostref07_Same.l0]) ?_
      simp only [if_neg (show ¬ (i : Int) < (B.length : Int) by omega)]
      exact Ev.now _
theorem same7_refl (hA : A.length ≤ 1000000) (hB : B.length ≤ 1000000) (hl : ∀ l ∈ B, l.length ≤ 1000000) : Ev (fun k => fencepostref07_Same.f k A B A B) true := by
  unfold fencepostref07_Same.f
  have hI : Ev (fun k => fencepostref07_SameInts.f k A A) true := by
    unfold fencepostref07_SameInts.f
    simp only [if_true]
    exact sameI_l0 A hA A.length 0 (by omega)
  refine Ev.bind hI ?_
  simp only [if_true, bne_self_eq_false]
  refine Ev.step (fun k => by rw [fencepostref07_Same.j0]) ?_
  simp only [Bool.false_eq_true, if_false]
  exact same7_l0 A B hB hl B.length 0 (by omega)
end
end Go.Proofs.Ytijpfonbeepmfaa.Print
