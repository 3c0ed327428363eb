/- Programs: what Insert makes, by what stands in its row of numbers; ref07.Same of one and the same: plain Lean. -/
/- Where fences are put in: how many stand ahead. Plain Lean. -/
import Derived.Test.YtijpfonbeepmfaaHSlIns1
import Derived.Test.YtijpfonbeepmfaaOpens
import Derived.Test.YtijpfonbeepmfaaPrint5
section
namespace Go.Proofs.Ytijpfonbeepmfaa.Print
open Go.RowKit Go.Proofs.YtijpfonbeepmfaaW.PrintWords Go.Proofs.YtijpfonbeepmfaaW.PrintLast Go.Proofs.YtijpfonbeepmfaaW.PrintMore
set_option linter.unusedVariables false
set_option linter.unusedSimpArgs false
theorem sameI_l0 (l : List Int) (hl : l.length ≤ 1000000) : ∀ (d i : Nat), l.length - i ≤ d → Ev (fun k => fencepostref07_SameInts.l0 k l l (i : Int)) true := by
 intro d
 induction d with
 | zero =>
  intro i h
  refine Ev.step (fun k => by rw [fencepostref07_SameInts.l0]) ?_
  simp only [if_neg (show ¬ (i : Int) < (l.length : Int) by omega)]
  exact Ev.now _
 | succ d ih =>
  intro i h
  by_cases c : i < l.length
  ·refine Ev.step (fun k => by rw [fencepostref07_SameInts.l0]) ?_
   simp only [if_pos (show (i : Int) < (l.length : Int) by omega), if_pos (show (0 : Int) ≤ (i : Int) by omega), if_true, w64 (show -9223372036854775808 ≤ (i : Int) + 1 by omega) (by omega)]
   exact ih (i + 1) (by omega)
  ·refine Ev.step (fun k => by rw [fencepostref07_SameInts.l0]) ?_
   simp only [if_neg (show ¬ (i : Int) < (l.length : Int) by omega)]
   exact Ev.now _
section
variable (A : List Int) (B : List (List S53))
theorem same7_l1 (t : Nat) (ht : t < B.length) (hl : (rd_L3 B (t : Int)).length ≤ 1000000) (next : Ev (fun k => fencepostref07_Same.l0 k (wrap64 ((t : Int) + 1)) A B A B) true) : ∀ (d i : Nat), (rd_L3 B (t : Int)).length - i ≤ d → Ev (fun k => fencepostref07_Same.l1 k (t : Int) (i : Int) A B A B) true := by
 have s1 : (0 : Int) ≤ (t : Int) := by omega
 have s2 : (t : Int) < (B.length : Int) := by omega
 intro d
 induction d with
 | zero =>
  intro i h
  refine Ev.step (fun k => by rw [fencepostref07_Same.l1]) ?_
  simp only [if_pos s1, if_pos s2, if_neg (show ¬ (i : Int) < ((rd_L3 B (t : Int)).length : Int) by omega)]
  exact next
 | succ d ih =>
  intro i h
  by_cases c : i < (rd_L3 B (t : Int)).length
  ·refine Ev.step (fun k => by rw [fencepostref07_Same.l1]) ?_
   simp only [if_pos s1, if_pos s2, if_pos (show (i : Int) < ((rd_L3 B (t : Int)).length : Int) by omega), if_pos (show (0 : Int) ≤ (i : Int) by omega), beq_self_eq_true, Bool.not_true, Bool.or_self, Bool.false_eq_true, if_false, w64 (show -9223372036854775808 ≤ (i : Int) + 1 by omega) (by omega)]
   exact ih (i + 1) (by omega)
  ·refine Ev.step (fun k => by rw [fencepostref07_Same.l1]) ?_
   simp only [if_pos s1, if_pos s2, if_neg (show ¬ (i : Int) < ((rd_L3 B (t : Int)).length : Int) by omega)]
   exact next
theorem same7_l0 (hB : B.length ≤ 1000000) (hl : ∀ l ∈ B, l.length ≤ 1000000) : ∀ (d i : Nat), B.length - i ≤ d → Ev (fun k => fencepostref07_Same.l0 k (i : Int) A B A B) true := by
 intro d
 induction d with
 | zero =>
  intro i h
  refine Ev.step (fun k => by rw [fencepostref07_Same.l0]) ?_
  simp only [if_neg (show ¬ (i : Int) < (B.length : Int) by omega)]
  exact Ev.now _
 | succ d ih =>
  intro i h
  by_cases c : i < B.length
  ·refine Ev.step (fun k => by rw [fencepostref07_Same.l0]) ?_
   simp only [if_pos (show (i : Int) < (B.length : Int) by omega), if_pos (show (0 : Int) ≤ (i : Int) by omega), if_true]
   have e : rd_L3 B (i : Int) = B[i] := by unfold rd_L3; rw [Int.toNat_natCast, List.getD_eq_getElem?_getD, List.getElem?_eq_getElem c]; rfl
   refine same7_l1 A B i c (by rw [e]; exact hl _ (List.getElem_mem c)) ?_ (rd_L3 B (i : Int)).length 0 (by omega)
   rw [w64 (by omega) (by omega)]
   exact ih (i + 1) (by omega)
  ·refine Ev.step (fun k => by rw [fencepostref07_Same.l0]) ?_
   simp only [if_neg (show ¬ (i : Int) < (B.length : Int) by omega)]
   exact Ev.now _
theorem same7_refl (hA : A.length ≤ 1000000) (hB : B.length ≤ 1000000) (hl : ∀ l ∈ B, l.length ≤ 1000000) : Ev (fun k => fencepostref07_Same.f k A B A B) true := by
 unfold fencepostref07_Same.f
 have hI : Ev (fun k => fencepostref07_SameInts.f k A A) true := by
  unfold fencepostref07_SameInts.f
  simp only [if_true]
  exact sameI_l0 A hA A.length 0 (by omega)
 refine Ev.bind hI ?_
 simp only [if_true, bne_self_eq_false]
 refine Ev.step (fun k => by rw [fencepostref07_Same.j0]) ?_
 simp only [Bool.false_eq_true, if_false]
 exact same7_l0 A B hB hl B.length 0 (by omega)
end
end Go.Proofs.Ytijpfonbeepmfaa.Print
end
section
namespace Go.Proofs.Ytijpfonbeepmfaa.Print
open Go.RowKit Go.Proofs.YtijpfonbeepmfaaW.PrintWords Go.Proofs.YtijpfonbeepmfaaW.PrintLast Go.Proofs.YtijpfonbeepmfaaW.PrintMore
set_option linter.unusedVariables false
set_option linter.unusedSimpArgs false
def cntG (g : List Int) : Int → Nat → Nat
 | _, 0 => 0
 | n, m + 1 => (if n ∈ g then 1 else 0) + cntG g (n + 1) m
theorem cntG_snoc (g : List Int) : ∀ (m : Nat) (n : Int), cntG g n (m + 1) = cntG g n m + (if n + (m : Int) ∈ g then 1 else 0)
 | 0, n => by simp [cntG]
 | m + 1, n => by
  have h := cntG_snoc g m (n + 1)
  have e : n + 1 + (m : Int) = n + ((m + 1 : Nat) : Int) := by push_cast; omega
  rw [e] at h
  calc cntG g n (m + 1 + 1) = (if n ∈ g then 1 else 0) + cntG g (n + 1) (m + 1) := rfl
   _ = (if n ∈ g then 1 else 0) + cntG g (n + 1) m + (if n + ((m + 1 : Nat) : Int) ∈ g then 1 else 0) := by rw [h, Nat.add_assoc]
theorem ins_beg (g : List Int) : ∀ (l : List S53) (out : List S53) (beg : List Int) (n : Int), (l.foldl (insStep g) (out, beg, n)).2.1 = beg ++ (List.range l.length).map (fun j => ((out.length + j + cntG g n j : Nat) : Int)) ∧ (l.foldl (insStep g) (out, beg, n)).1.length = out.length + l.length + cntG g n l.length
 | [], out, beg, n => by simp [cntG]
 | x :: r, out, beg, n => by
  have e1 : (insStep g (out, beg, n) x).1.length = out.length + 1 + (if n ∈ g then 1 else 0) := by
   unfold insStep
   split <;> rename_i c <;> simp only [List.length_append, List.length_cons, List.length_nil] <;> simp only [show (out, beg, n).2.2 = n from rfl] at c <;> simp [c] <;> omega
  obtain ⟨h1, h2⟩ := ins_beg g r (insStep g (out, beg, n) x).1 (beg ++ [(out.length : Int)]) (n + 1)
  have e : insStep g (out, beg, n) x = ((insStep g (out, beg, n) x).1, beg ++ [(out.length : Int)], n + 1) := rfl
  rw [List.foldl_cons, e, h1, h2]
  constructor
  ·simp only [List.length_cons, List.range_succ_eq_map, List.map_cons, List.map_map, List.append_assoc, List.cons_append, List.nil_append]
   congr 2
   refine List.map_congr_left (fun j _ => ?_)
   rw [e1]
   show ((out.length + 1 + (if n ∈ g then 1 else 0) + j + cntG g (n + 1) j : Nat) : Int) = ((out.length + (j + 1) + cntG g n (j + 1) : Nat) : Int)
   congr 1
   simp only [cntG]; omega
  ·rw [e1]; simp only [List.length_cons, cntG]; omega
def toC (g : List Int) (n : Int) (s : S53) : S53 := if s.f0 ≥ 8 then ⟨s.f0, s.f1, s.f2, s.f3, s.f4 + cntG g n s.f4.toNat⟩ else s
theorem begF_at (g : List Int) (l : List S53) (n : Int) (m : Nat) (h : m ≤ l.length) : rd (begF (insF g l n)) (m : Int) = (m : Int) + cntG g n m := by
 obtain ⟨h1, h2⟩ := ins_beg g l [] [] n
 have e : begF (insF g l n) = (List.range (l.length + 1)).map (fun j => ((0 + j + cntG g n j : Nat) : Int)) := by
  unfold begF insF
  rw [h1, h2, List.range_succ, List.map_append]
  simp
 rw [e]
 unfold rd
 rw [Int.toNat_natCast, List.getD_eq_getElem?_getD, List.getElem?_map, List.getElem?_range (by omega)]
 show ((0 + m + cntG g n m : Nat) : Int) = _
 push_cast; omega
theorem thF_toC (g : List Int) (l : List S53) (n : Int) (hj : ∀ s ∈ l, 8 ≤ s.f0 → 0 ≤ s.f4 ∧ s.f4 ≤ (l.length : Int)) : thF g l n = (insF g l n).1.map (toC g n) := by
 unfold thF
 refine List.map_congr_left (fun s hs => ?_)
 unfold toF toC
 by_cases c : s.f0 ≥ 8
 ·rw [if_pos c, if_pos c]
  have hm : s ∈ l := by
   rcases (ins_len g l ([], [], n)).2.2.2 s hs with h | h | h
   ·simp at h
   ·subst h; simp [fenceS] at c
   ·exact h
  obtain ⟨h1, h2⟩ := hj s hm c
  have := begF_at g l n s.f4.toNat (by omega)
  rw [show ((s.f4.toNat : Nat) : Int) = s.f4 by omega] at this
  rw [this]
 ·rw [if_neg c, if_neg c]
theorem toC_fence (g : List Int) (n : Int) : toC g n fenceS = fenceS := by unfold toC; rw [if_neg (by decide)]
end Go.Proofs.Ytijpfonbeepmfaa.Print
end
