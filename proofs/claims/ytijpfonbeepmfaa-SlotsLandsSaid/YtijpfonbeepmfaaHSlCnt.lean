/- Where fences are put in: how many stand ahead. Plain Lean. -/
import Derived.Test.YtijpfonbeepmfaaHSlProg
namespace Go.Proofs.Ytijpfonbeepmfaa.Print
open Go.RowKit Go.Proofs.YtijpfonbeepmfaaW.PrintWords Go.Proofs.YtijpfonbeepmfaaW.PrintLast Go.Proofs.YtijpfonbeepmfaaW.PrintMore
set_option linter.unusedVariables false
set_option linter.unusedSimpArgs false
def cntG (g : List Int) : Int → Nat → Nat
 | _, 0 => 0
 | n, m + 1 => (if n ∈ g then 1 else 0) + cntG g (n + 1) m
theorem cntG_snoc (g : List Int) : ∀ (m : Nat) (n : Int), cntG g n (m + 1) = cntG g n m + (if n + (m : Int) ∈ g then 1 else 0)
 | 0, n => by simp [cntG]
 | m + 1, n => by
  have h := cntG_snoc g m (n + 1)
  have e : n + 1 + (m : Int) = n + ((m + 1 : Nat) : Int) := by push_cast; omega
  rw [e] at h
  calc cntG g n (m + 1 + 1) = (if n ∈ g then 1 else 0) + cntG g (n + 1) (m + 1) := rfl
   _ = (if n ∈ g then 1 else 0) + cntG g (n + 1) m + (if n + ((m + 1 : Nat) : Int) ∈ g then 1 else 0) := by rw [h, Nat.add_assoc]
theorem cntG_le (g : List Int) : ∀ (m : Nat) (n : Int), cntG g n m ≤ m
 | 0, n => Nat.le_refl _
 | m + 1, n => by have := cntG_le g m (n + 1); simp only [cntG]; split <;> omega
theorem ins_beg (g : List Int) : ∀ (l : List S53) (out : List S53) (beg : List Int) (n : Int), (l.foldl (insStep g) (out, beg, n)).2.1 = beg ++ (List.range l.length).map (fun j => ((out.length + j + cntG g n j : Nat) : Int)) ∧ (l.foldl (insStep g) (out, beg, n)).1.length = out.length + l.length + cntG g n l.length
 | [], out, beg, n => by simp [cntG]
 | x :: r, out, beg, n => by
  have e1 : (insStep g (out, beg, n) x).1.length = out.length + 1 + (if n ∈ g then 1 else 0) := by
   unfold insStep
   split <;> rename_i c <;> simp only [List.length_append, List.length_cons, List.length_nil] <;> simp only [show (out, beg, n).2.2 = n from rfl] at c <;> simp [c] <;> omega
  obtain ⟨h1, h2⟩ := ins_beg g r (insStep g (out, beg, n) x).1 (beg ++ [(out.length : Int)]) (n + 1)
  have e : insStep g (out, beg, n) x = ((insStep g (out, beg, n) x).1, beg ++ [(out.length : Int)], n + 1) := rfl
  rw [List.foldl_cons, e, h1, h2]
  constructor
  ·simp only [List.length_cons, List.range_succ_eq_map, List.map_cons, List.map_map, List.append_assoc, List.cons_append, List.nil_append]
   congr 2
   refine List.map_congr_left (fun j _ => ?_)
   rw [e1]
   show ((out.length + 1 + (if n ∈ g then 1 else 0) + j + cntG g (n + 1) j : Nat) : Int) = ((out.length + (j + 1) + cntG g n (j + 1) : Nat) : Int)
   congr 1
   simp only [cntG]; omega
  ·rw [e1]; simp only [List.length_cons, cntG]; omega
def toC (g : List Int) (n : Int) (s : S53) : S53 := if s.f0 ≥ 8 then ⟨s.f0, s.f1, s.f2, s.f3, s.f4 + cntG g n s.f4.toNat⟩ else s
theorem begF_at (g : List Int) (l : List S53) (n : Int) (m : Nat) (h : m ≤ l.length) : rd (begF (insF g l n)) (m : Int) = (m : Int) + cntG g n m := by
 obtain ⟨h1, h2⟩ := ins_beg g l [] [] n
 have e : begF (insF g l n) = (List.range (l.length + 1)).map (fun j => ((0 + j + cntG g n j : Nat) : Int)) := by
  unfold begF insF
  rw [h1, h2, List.range_succ, List.map_append]
  simp
 rw [e]
 unfold rd
 rw [Int.toNat_natCast, List.getD_eq_getElem?_getD, List.getElem?_map, List.getElem?_range (by omega)]
 show ((0 + m + cntG g n m : Nat) : Int) = _
 push_cast; omega
theorem thF_toC (g : List Int) (l : List S53) (n : Int) (hj : ∀ s ∈ l, 8 ≤ s.f0 → 0 ≤ s.f4 ∧ s.f4 ≤ (l.length : Int)) : thF g l n = (insF g l n).1.map (toC g n) := by
 unfold thF
 refine List.map_congr_left (fun s hs => ?_)
 unfold toF toC
 by_cases c : s.f0 ≥ 8
 ·rw [if_pos c, if_pos c]
  have hm : s ∈ l := by
   rcases (ins_len g l ([], [], n)).2.2.2 s hs with h | h | h
   ·simp at h
   ·subst h; simp [fenceS] at c
   ·exact h
  obtain ⟨h1, h2⟩ := hj s hm c
  have := begF_at g l n s.f4.toNat (by omega)
  rw [show ((s.f4.toNat : Nat) : Int) = s.f4 by omega] at this
  rw [this]
 ·rw [if_neg c, if_neg c]
theorem toC_fence (g : List Int) (n : Int) : toC g n fenceS = fenceS := by unfold toC; rw [if_neg (by decide)]
def insL (g : List Int) : List S53 → Int → List S53
 | [], _ => []
 | s :: r, n => (if n ∈ g then [fenceS, s] else [s]) ++ insL g r (n + 1)
theorem insF_insL (g : List Int) : ∀ (l : List S53) (out : List S53) (beg : List Int) (n : Int), (l.foldl (insStep g) (out, beg, n)).1 = out ++ insL g l n
 | [], out, beg, n => by simp [insL]
 | s :: r, out, beg, n => by
  have e : insStep g (out, beg, n) s = ((if n ∈ g then out ++ [fenceS] else out) ++ [s], beg ++ [(out.length : Int)], n + 1) := rfl
  rw [List.foldl_cons, e, insF_insL g r]
  simp only [insL]
  split <;> simp
end Go.Proofs.Ytijpfonbeepmfaa.Print
