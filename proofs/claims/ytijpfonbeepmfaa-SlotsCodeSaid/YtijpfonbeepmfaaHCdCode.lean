/- The code of a file: what the reference's place, ahead, step and Code answer. Plain Lean. -/
import Derived.Test.YtijpfonbeepmfaaHCdRight
import Derived.Test.YtijpfonbeepmfaaHSlProg
import Derived.Test.YtijpfonbeepmfaaPrint19
namespace Go.Proofs.Ytijpfonbeepmfaa.Print
open Go.RowKit Go.Proofs.YtijpfonbeepmfaaW.PrintWords Go.Proofs.YtijpfonbeepmfaaW.PrintLast Go.Proofs.YtijpfonbeepmfaaW.PrintMore
set_option linter.unusedVariables false
set_option linter.unusedSimpArgs false
noncomputable def regF (s : ByteArray) : Int := Classical.choose (reg_ex s)
theorem reg_ev (s : ByteArray) : Ev (fun k => fencepostref02_Reg.f k s) (regF s) := Classical.choose_spec (reg_ex s)
def plF (s : ByteArray) : List ByteArray → Int → Int
 | [], _ => 0
 | y :: r, i => if y.toList = s.toList then i else plF s r (i + 1)
theorem pl_range (s : ByteArray) : ∀ (l : List ByteArray) (i : Int), 0 ≤ i → 0 ≤ plF s l i ∧ (plF s l i = 0 ∨ plF s l i < i + l.length)
 | [], i, h => by simp [plF]
 | y :: r, i, h => by
  have := pl_range s r (i + 1) (by omega)
  simp only [plF, List.length_cons]
  split <;> omega
theorem place_l0 (l : List ByteArray) (s : ByteArray) (hl : l.length ≤ 100000) : ∀ (d i : Nat), l.length - i ≤ d → Ev (fun k => fencepostref07_place.l0 k l s (i : Int)) (plF s (l.drop i) (i : Int)) := by
 have last : ∀ i : Nat, ¬ i < l.length → Ev (fun k => fencepostref07_place.l0 k l s (i : Int)) (plF s (l.drop i) (i : Int)) := by
  intro i h
  rw [List.drop_eq_nil_of_le (show l.length ≤ i by omega)]
  refine Ev.step (fun k => by rw [fencepostref07_place.l0]) ?_
  simp only [if_neg (show ¬ (i : Int) < (l.length : Int) by omega)]
  exact Ev.now _
 intro d
 induction d with
 | zero => intro i h; exact last i (by omega)
 | succ d ih =>
  intro i h
  by_cases c : i < l.length
  ·have nx := ih (i + 1) (by omega)
   have hi1 : (((i + 1 : Nat) : Int)) = (i : Int) + 1 := by push_cast; rfl
   rw [hi1] at nx
   have w1 := w64 (show -9223372036854775808 ≤ (i : Int) + 1 by omega) (by omega)
   have e : plF s (l.drop i) (i : Int) = if (rdOf ByteArray.empty l (i : Int)).toList = s.toList then (i : Int) else plF s (l.drop (i + 1)) ((i : Int) + 1) := by
    rw [List.drop_eq_getElem_cons c, ← rdOf_at c]; rfl
   rw [e]
   refine Ev.step (fun k => by rw [fencepostref07_place.l0]) ?_
   simp only [if_pos (show (i : Int) < (l.length : Int) by omega), if_pos (show (0 : Int) ≤ (i : Int) by omega), w1]
   by_cases c1 : (rdOf ByteArray.empty l (i : Int)).toList = s.toList
   ·simp only [if_pos c1]; exact Ev.now _
   ·simp only [if_neg c1]; exact nx
  ·exact last i c
theorem place_ev (l : List ByteArray) (s : ByteArray) (hl : l.length ≤ 100000) : Ev (fun k => fencepostref07_place.f k l s) (plF s l 0) := by
 unfold fencepostref07_place.f
 have := place_l0 l s hl l.length 0 (by omega)
 rwa [List.drop_zero] at this
theorem ahead_l0 (l : List S60) (hl : l.length ≤ 100000) : ∀ (d i : Nat) (n : Int), l.length - i ≤ d → 0 ≤ n → n + (l.length - i : Nat) ≤ 1000000 → Ev (fun k => fencepostref07_ahead.l0 k l n (i : Int)) (n + cnt (l.drop i)) := by
 have last : ∀ (i : Nat) (n : Int), ¬ i < l.length → Ev (fun k => fencepostref07_ahead.l0 k l n (i : Int)) (n + cnt (l.drop i)) := by
  intro i n h
  rw [List.drop_eq_nil_of_le (show l.length ≤ i by omega)]
  refine Ev.step (fun k => by rw [fencepostref07_ahead.l0]) ?_
  simp only [if_neg (show ¬ (i : Int) < (l.length : Int) by omega), cnt, Int.natCast_zero, Int.add_zero]
  exact Ev.now _
 intro d
 induction d with
 | zero => intro i n h _ _; exact last i n (by omega)
 | succ d ih =>
  intro i n h h0 h1
  by_cases c : i < l.length
  ·have hi1 : (((i + 1 : Nat) : Int)) = (i : Int) + 1 := by push_cast; rfl
   have w1 := w64 (show -9223372036854775808 ≤ (i : Int) + 1 by omega) (by omega)
   have w2 := w64 (show -9223372036854775808 ≤ n + 1 by clear w1; omega) (by clear w1; omega)
   have e : (cnt (l.drop i) : Int) = (if (rd_T60 l (i : Int)).f0 = 11 then 0 else 1) + cnt (l.drop (i + 1)) := by
    rw [List.drop_eq_getElem_cons c, ← rdLn' c]
    simp only [cnt]
    split <;> push_cast <;> omega
   refine Ev.step (fun k => by rw [fencepostref07_ahead.l0]) ?_
   simp only [if_pos (show (i : Int) < (l.length : Int) by omega), if_pos (show (0 : Int) ≤ (i : Int) by omega), w1, w2]
   by_cases c1 : (rd_T60 l (i : Int)).f0 = 11
   ·have nx := ih (i + 1) n (by omega) h0 (by omega)
    rw [hi1] at nx
    rw [if_pos c1, Int.zero_add] at e
    simp only [if_pos c1]
    rw [e]; exact nx
   ·have nx := ih (i + 1) (n + 1) (by omega) (by omega) (by omega)
    rw [hi1] at nx
    rw [if_neg c1] at e
    simp only [if_neg c1]
    rw [e, ← Int.add_assoc]; exact nx
  ·exact last i n c
theorem ahead_ev (l : List S60) (hl : l.length ≤ 100000) : Ev (fun k => fencepostref07_ahead.f k l) (cnt l : Int) := by
 unfold fencepostref07_ahead.f
 have := ahead_l0 l hl l.length 0 0 (by omega) (by omega) (by omega)
 rw [List.drop_zero, Int.zero_add] at this
 exact this
/-- Where a jump goes: how many steps stand ahead of the last line with its label. -/
def toL (lab : ByteArray) : List S60 → Int → Int → Int
 | [], _, tg => tg
 | y :: r, m, tg => toL lab r (if y.f0 = 11 then m else m + 1) (if y.f0 = 11 ∧ y.f3.toList = lab.toList then m else tg)
noncomputable def stepF (L : List ByteArray) (l : List S60) (x : S60) : S53 :=
 ⟨x.f0, if x.f1.toList = [] then 0 else regF x.f1, if x.f2.toList = [] then 0 else plF x.f2 L 0, x.f4, if 8 ≤ x.f0 ∧ x.f0 ≤ 10 then toL x.f3 l 0 0 else 0⟩
theorem cnt_takes {l : List S60} {i : Nat} (c : i < l.length) : (cnt (l.take (i + 1)) : Int) = if (rd_T60 l (i : Int)).f0 = 11 then (cnt (l.take i) : Int) else (cnt (l.take i) : Int) + 1 := by
 have : ∀ (a : List S60) (x : S60), cnt (a ++ [x]) = cnt a + (if x.f0 = 11 then 0 else 1) := by
  intro a x
  induction a with
  | nil => simp [cnt]
  | cons y r ih => simp only [List.cons_append, cnt, ih]; omega
 rw [List.take_succ_eq_append_getElem c, this, rdLn' c]
 split <;> push_cast <;> omega
section
variable (l : List S60) (hl : l.length ≤ 100000) (a : Int) (b c d : ByteArray) (e : Int) (r0 r1 r2 r3 : Int)
include hl
theorem step_l0 : ∀ (m i : Nat) (tg : Int), l.length - i ≤ m → i ≤ l.length → Ev (fun k => fencepostref07_step.l0 k l (i : Int) a b c d e r0 r1 r2 r3 tg) (r0, r1, r2, r3, if 8 ≤ a ∧ a ≤ 10 then toL d (l.drop i) (cnt (l.take i)) tg else tg) := by
 have last : ∀ (i : Nat) (tg : Int), ¬ i < l.length → Ev (fun k => fencepostref07_step.l0 k l (i : Int) a b c d e r0 r1 r2 r3 tg) (r0, r1, r2, r3, if 8 ≤ a ∧ a ≤ 10 then toL d (l.drop i) (cnt (l.take i)) tg else tg) := by
  intro i tg h
  rw [List.drop_eq_nil_of_le (show l.length ≤ i by omega)]
  refine Ev.step (fun k => by rw [fencepostref07_step.l0]) ?_
  simp only [if_neg (show ¬ (i : Int) < (l.length : Int) by omega), toL, ite_self]
  exact Ev.now _
 intro m
 induction m with
 | zero => intro i tg h _; exact last i tg (by omega)
 | succ m ih =>
  intro i tg h h2
  by_cases c0 : i < l.length
  ·have s1 : (i : Int) < (l.length : Int) := by omega
   have s2 : (0 : Int) ≤ (i : Int) := by omega
   have hi1 : (((i + 1 : Nat) : Int)) = (i : Int) + 1 := by push_cast; rfl
   have w1 := w64 (show -9223372036854775808 ≤ (i : Int) + 1 by omega) (by omega)
   have ec := cnt_takes c0
   have ed : toL d (l.drop i) (cnt (l.take i)) tg = toL d (l.drop (i + 1)) (if (rd_T60 l (i : Int)).f0 = 11 then (cnt (l.take i) : Int) else (cnt (l.take i) : Int) + 1) (if (rd_T60 l (i : Int)).f0 = 11 ∧ (rd_T60 l (i : Int)).f3.toList = d.toList then (cnt (l.take i) : Int) else tg) := by
    rw [List.drop_eq_getElem_cons c0, ← rdLn' c0]; rfl
   rw [← ec] at ed
   refine Ev.step (fun k => by rw [fencepostref07_step.l0]) ?_
   simp only [if_pos s1, jump_some, Option.bind_some, w1]
   by_cases c1 : 8 ≤ a ∧ a ≤ 10
   ·simp only [decide_eq_true c1, if_true, if_pos s2, if_pos c1]
    rw [ed]
    by_cases c2 : (rd_T60 l (i : Int)).f0 = 11
    ·by_cases c3 : (rd_T60 l (i : Int)).f3.toList = d.toList
     ·have nx := ih (i + 1) (cnt (l.take i)) (by omega) (by omega)
      rw [hi1, if_pos c1] at nx
      simp only [if_pos c2, if_pos c3, if_pos (show (i : Int) ≤ (l.length : Int) by omega)]
      rw [if_pos ⟨c2, c3⟩]
      exact Ev.bind (ahead_ev (l.take (i : Int).toNat) (by rw [List.length_take]; omega)) nx
     ·have nx := ih (i + 1) tg (by omega) (by omega)
      rw [hi1, if_pos c1] at nx
      simp only [if_pos c2, if_neg c3]
      rw [if_neg (fun h => c3 h.2)]
      exact nx
    ·have nx := ih (i + 1) tg (by omega) (by omega)
     rw [hi1, if_pos c1] at nx
     simp only [if_neg c2]
     rw [if_neg (fun h => c2 h.1)]
     exact nx
   ·have nx := ih (i + 1) tg (by omega) (by omega)
    rw [hi1, if_neg c1] at nx
    simp only [decide_eq_false c1, Bool.false_eq_true, if_false, if_neg c1]
    exact nx
  ·exact last i tg c0
end
theorem step7_ev (L : List ByteArray) (l : List S60) (hL : L.length ≤ 100000) (hl : l.length ≤ 100000) (i : Nat) (hi : i < l.length) : ∀ x, rd_T60 l (i : Int) = x → Ev (fun k => fencepostref07_step.f k l (i : Int) L) ((stepF L l x).f0, (stepF L l x).f1, (stepF L l x).f2, (stepF L l x).f3, (stepF L l x).f4) := by
 intro x hx
 unfold fencepostref07_step.f
 simp only [if_pos (show (0 : Int) ≤ (i : Int) by omega), if_pos (show (i : Int) < (l.length : Int) by omega), hx]
 have h1 : ∀ r1 r2 : Int, Ev (fun k => fencepostref07_step.j1 k l x.f0 x.f1 x.f2 x.f3 x.f4 x.f0 r1 r2 x.f4 0) (x.f0, r1, r2, x.f4, if 8 ≤ x.f0 ∧ x.f0 ≤ 10 then toL x.f3 l 0 0 else 0) := fun r1 r2 => by
  have := step_l0 l hl x.f0 x.f1 x.f2 x.f3 x.f4 x.f0 r1 r2 x.f4 l.length 0 0 (by omega) (by omega)
  rw [List.drop_zero, List.take_zero] at this
  refine Ev.step (fun k => by rw [fencepostref07_step.j1]) ?_
  exact this
 have h0 : ∀ r1 : Int, Ev (fun k => fencepostref07_step.j0 k l L x.f0 x.f1 x.f2 x.f3 x.f4 x.f0 r1 0 x.f4 0) (x.f0, r1, (if x.f2.toList = [] then 0 else plF x.f2 L 0), x.f4, if 8 ≤ x.f0 ∧ x.f0 ≤ 10 then toL x.f3 l 0 0 else 0) := fun r1 => by
  refine Ev.step (fun k => by rw [fencepostref07_step.j0]) ?_
  by_cases c1 : x.f2.toList = ([] : List UInt8)
  ·simp only [if_pos c1]; exact h1 r1 0
  ·simp only [if_neg c1]; exact Ev.bind (place_ev L x.f2 hL) (h1 r1 _)
 unfold stepF
 by_cases c1 : x.f1.toList = ([] : List UInt8)
 ·simp only [if_pos c1]; exact h0 0
 ·simp only [if_neg c1]; exact Ev.bind (reg_ev x.f1) (h0 _)
noncomputable def codeR (L : List ByteArray) (l : List S60) : List S60 → List S53
 | [] => []
 | x :: r => if x.f0 = 11 then codeR L l r else stepF L l x :: codeR L l r
noncomputable def codeT (L : List ByteArray) (t : S58) : List S53 := codeR L t.f0 t.f0
theorem codeR_len (L : List ByteArray) (l : List S60) : ∀ r, (codeR L l r).length = cnt r
 | [] => rfl
 | x :: r => by
  have := codeR_len L l r
  simp only [codeR, cnt]
  split
  ·omega
  ·simp only [List.length_cons]; omega
def initS (L : List ByteArray) : List S62 → List Int → List Int
 | [], A => A
 | c :: r, A => initS L r (A.set (plF c.f0 L 0).toNat c.f1)
theorem initS_len (L : List ByteArray) : ∀ (I : List S62) (A : List Int), (initS L I A).length = A.length
 | [], A => rfl
 | c :: r, A => by simp only [initS]; rw [initS_len L r]; simp
theorem smallSt {α : Type} {xs : List α} (h : xs.length ≤ 1000000) : xs.length < 3518437208883 := Nat.lt_of_le_of_lt h (by decide)
theorem smallTh {α : Type} {xs : List α} (h : xs.length ≤ 1000000) : xs.length < 5864062014805 := Nat.lt_of_le_of_lt h (by decide)
section
variable (N : ByteArray) (I : List S62) (T : List S58) (b : Bool) (C : List S64) (L : List ByteArray) (hL : L.length ≤ 100000)
include hL
theorem code_l2 (A : List Int) (ts : List (List S53)) (t : Nat) (l : List S60) (hl : l.length ≤ 100000) (hts : ts.length ≤ 1000000) (r : List Int × List (List S53) × Int)
 (next : Ev (fun k => fencepostref07_Code.l1 k L (wrap64 ((t : Int) + 1)) N I T b C A (ts ++ [codeR L l l])) r) : ∀ (d i : Nat) (out : List S53), l.length - i ≤ d → out.length ≤ i → i ≤ l.length → codeR L l l = out ++ codeR L l (l.drop i) → Ev (fun k => fencepostref07_Code.l2 k L (t : Int) l out (i : Int) N I T b C A ts) r := by
 have last : ∀ (i : Nat) (out : List S53), ¬ i < l.length → codeR L l l = out ++ codeR L l (l.drop i) → Ev (fun k => fencepostref07_Code.l2 k L (t : Int) l out (i : Int) N I T b C A ts) r := by
  intro i out h ho
  rw [List.drop_eq_nil_of_le (show l.length ≤ i by omega)] at ho
  simp only [codeR, List.append_nil] at ho
  subst ho
  refine Ev.step (fun k => by rw [fencepostref07_Code.l2]) ?_
  simp only [if_neg (show ¬ (i : Int) < (l.length : Int) by omega), if_pos (smallTh hts)]
  exact next
 intro d
 induction d with
 | zero => intro i out h _ _ ho; exact last i out (by omega) ho
 | succ d ih =>
  intro i out h h1 h2 ho
  by_cases c : i < l.length
  ·have hi1 : (((i + 1 : Nat) : Int)) = (i : Int) + 1 := by push_cast; rfl
   have w1 := w64 (show -9223372036854775808 ≤ (i : Int) + 1 by omega) (by omega)
   have e := rdLn' c
   rw [List.drop_eq_getElem_cons c, ← e] at ho
   simp only [codeR] at ho
   refine Ev.step (fun k => by rw [fencepostref07_Code.l2]) ?_
   simp only [if_pos (show (i : Int) < (l.length : Int) by omega), if_pos (show (0 : Int) ≤ (i : Int) by omega), w1]
   by_cases c1 : (rd_T60 l (i : Int)).f0 = 11
   ·rw [if_pos c1] at ho
    have nx := ih (i + 1) out (by omega) (by omega) (by omega) ho
    rw [hi1] at nx
    simp only [if_pos c1]; exact nx
   ·rw [if_neg c1] at ho
    have nx := ih (i + 1) (out ++ [stepF L l (rd_T60 l (i : Int))]) (by omega) (by rw [List.length_append]; simp only [List.length_cons, List.length_nil]; omega) (by omega) (by rw [ho, List.append_assoc]; rfl)
    rw [hi1] at nx
    simp only [if_neg c1]
    refine Ev.bind (step7_ev L l hL hl i c _ rfl) ?_
    simp only [if_pos (smallSt (show out.length ≤ 1000000 by omega))]
    exact nx
  ·exact last i out c ho
theorem code_l1 (A : List Int) (hT : T.length ≤ 1000) (hl : ∀ t ∈ T, t.f0.length ≤ 1000) : ∀ (d t : Nat) (ts : List (List S53)), T.length - t ≤ d → ts.length ≤ t → t ≤ T.length → Ev (fun k => fencepostref07_Code.l1 k L (t : Int) N I T b C A ts) (A, ts ++ (T.drop t).map (codeT L), 0) := by
 have last : ∀ (t : Nat) (ts : List (List S53)), ¬ t < T.length → Ev (fun k => fencepostref07_Code.l1 k L (t : Int) N I T b C A ts) (A, ts ++ (T.drop t).map (codeT L), 0) := by
  intro t ts h
  rw [List.drop_eq_nil_of_le (show T.length ≤ t by omega)]
  refine Ev.step (fun k => by rw [fencepostref07_Code.l1]) ?_
  simp only [if_neg (show ¬ (t : Int) < (T.length : Int) by omega), List.map_nil, List.append_nil]
  exact Ev.now _
 intro d
 induction d with
 | zero => intro t ts h _ _; exact last t ts (by omega)
 | succ d ih =>
  intro t ts h h1 h2
  by_cases c : t < T.length
  ·have hi1 : (((t + 1 : Nat) : Int)) = (t : Int) + 1 := by push_cast; rfl
   have w1 := w64 (show -9223372036854775808 ≤ (t : Int) + 1 by omega) (by omega)
   have e := rdTh' c
   have hm := hl _ (List.getElem_mem c)
   rw [← e] at hm
   rw [List.drop_eq_getElem_cons c, ← e, List.map_cons]
   have nx := ih (t + 1) (ts ++ [codeT L (rd_T58 T (t : Int))]) (by omega) (by rw [List.length_append]; simp only [List.length_cons, List.length_nil]; omega) (by omega)
   rw [hi1, List.append_assoc] at nx
   refine Ev.step (fun k => by rw [fencepostref07_Code.l1]) ?_
   simp only [if_pos (show (t : Int) < (T.length : Int) by omega), if_pos (show (0 : Int) ≤ (t : Int) by omega)]
   refine code_l2 N I T b C L hL A ts t _ (by omega) (by omega) _ ?_ (rd_T58 T (t : Int)).f0.length 0 [] (by omega) (by simp) (by omega) (by rw [List.drop_zero]; rfl)
   rw [w1]; exact nx
  ·exact last t ts c
theorem code_l0 (hI : I.length ≤ 1000) (hne : I ≠ [] → 1 ≤ L.length) (r : List Int × List (List S53) × Int) : ∀ (d i : Nat) (A : List Int), I.length - i ≤ d → A.length = L.length → Ev (fun k => fencepostref07_Code.l1 k L 0 N I T b C (initS L (I.drop i) A) []) r → Ev (fun k => fencepostref07_Code.l0 k L (i : Int) N I T b C A) r := by
 have last : ∀ (i : Nat) (A : List Int), ¬ i < I.length → Ev (fun k => fencepostref07_Code.l1 k L 0 N I T b C (initS L (I.drop i) A) []) r → Ev (fun k => fencepostref07_Code.l0 k L (i : Int) N I T b C A) r := by
  intro i A h nx
  rw [List.drop_eq_nil_of_le (show I.length ≤ i by omega)] at nx
  refine Ev.step (fun k => by rw [fencepostref07_Code.l0]) ?_
  simp only [if_neg (show ¬ (i : Int) < (I.length : Int) by omega)]
  exact nx
 intro d
 induction d with
 | zero => intro i A h _ nx; exact last i A (by omega) nx
 | succ d ih =>
  intro i A h h1 nx
  by_cases c : i < I.length
  ·have hi1 : (((i + 1 : Nat) : Int)) = (i : Int) + 1 := by push_cast; rfl
   have w1 := w64 (show -9223372036854775808 ≤ (i : Int) + 1 by omega) (by omega)
   have e : rd_T62 I (i : Int) = I[i] := by unfold rd_T62; rw [Int.toNat_natCast, List.getD_eq_getElem?_getD, List.getElem?_eq_getElem c]; rfl
   rw [List.drop_eq_getElem_cons c, ← e] at nx
   have hn := hne (by intro h0; rw [h0] at c; simp at c)
   obtain ⟨p1, p2⟩ := pl_range (rd_T62 I (i : Int)).f0 L 0 (by omega)
   have nx := ih (i + 1) _ (by omega) (by rw [List.length_set]; exact h1) nx
   rw [hi1] at nx
   refine Ev.step (fun k => by rw [fencepostref07_Code.l0]) ?_
   simp only [if_pos (show (i : Int) < (I.length : Int) by omega), if_pos (show (0 : Int) ≤ (i : Int) by omega), w1]
   refine Ev.bind (place_ev L _ hL) ?_
   simp only [if_pos p1, if_pos (show plF (rd_T62 I (i : Int)).f0 L 0 < (A.length : Int) by omega)]
   exact nx
  ·exact last i A c nx
end
theorem code7_ev {N : ByteArray} {I : List S62} {T : List S58} {C : List S64} (b : Bool) (h : FileB N I T C) (hr : Ev (fun k => fencepostref04_Right.f k N I T b C) true) (hne : ∀ c ∈ I, 1 ≤ c.f0.size) :
 Ev (fun k => fencepostref07_Code.f k N I T b C) (initS (locsF I T C) I (List.replicate (locsF I T C).length 0), T.map (codeT (locsF I T C)), 0) := by
 have hlen := locsF_len I T C
 have h1 := h.li
 have h2 := h.lt
 have h3 := h.lc
 have h4 : totLn T ≤ 200 * T.length := by
  have : ∀ T : List S58, (∀ t ∈ T, t.f0.length ≤ 200) → totLn T ≤ 200 * T.length := by
   intro T
   induction T with
   | nil => intro _; simp [totLn]
   | cons t r ih =>
    intro h
    have h1 := h t (List.mem_cons_self ..)
    have h2 := ih (fun x hx => h x (List.mem_cons_of_mem _ hx))
    simp only [totLn, List.map_cons, List.sum_cons, List.length_cons] at h2 ⊢
    omega
  exact this T h.ll
 have hL : (locsF I T C).length ≤ 100000 := by omega
 unfold fencepostref07_Code.f
 refine Ev.bind hr ?_
 simp only [if_true]
 refine Ev.bind (locs4_ev N I T b C h hr) ?_
 simp only [if_pos (show (0 : Int) ≤ ((locsF I T C).length : Int) by omega), Int.toNat_natCast, if_pos (show (locsF I T C).length ≤ 35184372088832 by omega)]
 refine code_l0 N I T b C _ hL (by omega) (fun h0 => ?_) _ I.length 0 _ (by omega) (by simp) ?_
 ·obtain ⟨c, hc⟩ := List.exists_mem_of_ne_nil I h0
  refine locsF_ne I T C c hc (fun e => ?_)
  have := hne c hc
  rw [Go.ByteArray.toList_eq] at e
  have e2 : c.f0.size = 0 := by
   have := congrArg List.length e
   simpa using this
  omega
 ·rw [List.drop_zero]
  have := code_l1 N I T b C _ hL (initS (locsF I T C) I (List.replicate (locsF I T C).length 0)) (by omega) (fun t ht => by have := h.ll t ht; omega) T.length 0 [] (by omega) (by simp) (by omega)
  rw [List.drop_zero, List.nil_append] at this
  exact this
end Go.Proofs.Ytijpfonbeepmfaa.Print
