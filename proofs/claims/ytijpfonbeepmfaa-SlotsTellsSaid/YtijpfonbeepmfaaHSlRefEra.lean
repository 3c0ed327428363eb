/- The reference's Same of files that differ in their threads alone, and its Erase: what they answer. Plain Lean. -/
import Derived.Test.YtijpfonbeepmfaaHSlRefFen
import Derived.Test.YtijpfonbeepmfaaHSlRefWo
import Derived.Test.YtijpfonbeepmfaaPrint14
import Derived.Laws.Strings
namespace Go.Proofs.Ytijpfonbeepmfaa.Print
open Go.RowKit Go.Proofs.YtijpfonbeepmfaaW.PrintWords Go.Proofs.YtijpfonbeepmfaaW.PrintLast Go.Proofs.YtijpfonbeepmfaaW.PrintMore
set_option linter.unusedVariables false
set_option linter.unusedSimpArgs false
theorem str_eq (a b : ByteArray) : a.toList = b.toList ↔ a = b :=
 ⟨fun h => by
  rw [Go.ByteArray.toList_eq, Go.ByteArray.toList_eq] at h
  exact _root_.ByteArray.ext (Array.ext' h), fun h => by rw [h]⟩
theorem lnDiff (x y : S60) : ((!(x.f0 == y.f0) || (!(x.f1.toList == y.f1.toList) || (!(x.f2.toList == y.f2.toList) || (!(x.f3.toList == y.f3.toList) || (!(x.f4 == y.f4)))))) = true) ↔ x ≠ y := by
 obtain ⟨a0, a1, a2, a3, a4⟩ := x
 obtain ⟨b0, b1, b2, b3, b4⟩ := y
 simp only [Bool.or_eq_true, Bool.not_eq_true', beq_eq_false_iff_ne, ne_eq, str_eq, S60.mk.injEq]
 by_cases h0 : a0 = b0 <;> by_cases h1 : a1 = b1 <;> by_cases h2 : a2 = b2 <;> by_cases h3 : a3 = b3 <;> by_cases h4 : a4 = b4 <;> simp [h0, h1, h2, h3, h4]
theorem thr_eta (x y : S58) : x = y ↔ x.f0 = y.f0 := by
 obtain ⟨a⟩ := x
 obtain ⟨b⟩ := y
 simp
section
variable (N : ByteArray) (I : List S62) (T T' : List S58) (b : Bool) (C : List S64)
theorem sd_l3 (hC : C.length ≤ 1000000) : ∀ (d i : Nat), C.length - i ≤ d → Ev (fun k => fencepostref04_Same.l3 k (i : Int) N I T b C N I T' b C) true := by
 intro d
 induction d with
 | zero =>
  intro i h
  refine Ev.step (fun k => by rw [fencepostref04_Same.l3]) ?_
  simp only [if_neg (show ¬ (i : Int) < (C.length : Int) by omega)]
  exact Ev.now _
 | succ d ih =>
  intro i h
  by_cases c : i < C.length
  ·refine Ev.step (fun k => by rw [fencepostref04_Same.l3]) ?_
   simp only [if_pos (show (i : Int) < (C.length : Int) by omega), if_pos (show (0 : Int) ≤ (i : Int) by omega), beq_self_eq_true, Bool.not_true, Bool.or_self, Bool.false_eq_true, if_false, w64 (show -9223372036854775808 ≤ (i : Int) + 1 by omega) (by omega)]
   exact ih (i + 1) (by omega)
  ·refine Ev.step (fun k => by rw [fencepostref04_Same.l3]) ?_
   simp only [if_neg (show ¬ (i : Int) < (C.length : Int) by omega)]
   exact Ev.now _
theorem rdLn {l : List S60} {j : Nat} (h : j < l.length) : rd_T60 l (j : Int) = l[j] := by unfold rd_T60; rw [Int.toNat_natCast, List.getD_eq_getElem?_getD, List.getElem?_eq_getElem h]; rfl
theorem sd_l2 (t : Nat) (ht : t < T.length) (ht' : t < T'.length) (L L' : List S60) (eL : (rd_T58 T (t : Int)).f0 = L) (eL' : (rd_T58 T' (t : Int)).f0 = L') (hl : L.length ≤ 1000000) (he : L.length = L'.length) (q : Bool) (next : Ev (fun k => fencepostref04_Same.l1 k (wrap64 ((t : Int) + 1)) N I T b C N I T' b C) q) : ∀ (d i : Nat), L.length - i ≤ d → ∃ r, Ev (fun k => fencepostref04_Same.l2 k (t : Int) (i : Int) N I T b C N I T' b C) r ∧ (r = true ↔ L.drop i = L'.drop i ∧ q = true) := by
 have s1 : (0 : Int) ≤ (t : Int) := by omega
 have s2 : (t : Int) < (T.length : Int) := by omega
 have s3 : (t : Int) < (T'.length : Int) := by omega
 have last : ∀ i : Nat, ¬ i < L.length → ∃ r, Ev (fun k => fencepostref04_Same.l2 k (t : Int) (i : Int) N I T b C N I T' b C) r ∧ (r = true ↔ L.drop i = L'.drop i ∧ q = true) := by
  intro i h
  refine ⟨q, ?_, ?_⟩
  ·refine Ev.step (fun k => by rw [fencepostref04_Same.l2]) ?_
   simp only [eL, if_pos s1, if_pos s2, if_neg (show ¬ (i : Int) < (L.length : Int) by omega)]
   exact next
  ·rw [List.drop_eq_nil_of_le (show L.length ≤ i by omega), List.drop_eq_nil_of_le (show L'.length ≤ i by omega)]
   simp
 intro d
 induction d with
 | zero => intro i h; exact last i (by omega)
 | succ d ih =>
  intro i h
  by_cases c : i < L.length
  ·have c' : i < L'.length := by omega
   obtain ⟨r, hr, hq⟩ := ih (i + 1) (by omega)
   rw [List.drop_eq_getElem_cons c, List.drop_eq_getElem_cons c', List.cons.injEq, ← rdLn c, ← rdLn c']
   have w1 := w64 (show -9223372036854775808 ≤ (i : Int) + 1 by omega) (by omega)
   have s4 : (i : Int) < (L.length : Int) := by omega
   have s5 : (i : Int) < (L'.length : Int) := by omega
   have s6 : (0 : Int) ≤ (i : Int) := by omega
   by_cases e : rd_T60 L (i : Int) = rd_T60 L' (i : Int)
   ·refine ⟨r, ?_, by rw [hq]; simp [e]⟩
    refine Ev.step (fun k => by rw [fencepostref04_Same.l2]) ?_
    simp only [eL, eL', if_pos s1, if_pos s2, if_pos s3, if_pos s4, if_pos s5, if_pos s6, e, beq_self_eq_true, Bool.not_true, Bool.or_self, Bool.false_eq_true, if_false, w1]
    exact hr
   ·refine ⟨false, ?_, by simp [e]⟩
    refine Ev.step (fun k => by rw [fencepostref04_Same.l2]) ?_
    simp only [eL, eL', if_pos s1, if_pos s2, if_pos s3, if_pos s4, if_pos s5, if_pos s6, if_pos ((lnDiff _ _).2 e)]
    exact Ev.now _
  ·exact last i c
theorem sd_l1 (hC : C.length ≤ 1000000) (hT : T.length ≤ 1000000) (he : T.length = T'.length) (hl : ∀ t ∈ T, t.f0.length ≤ 1000000) : ∀ (d i : Nat), T.length - i ≤ d → ∃ r, Ev (fun k => fencepostref04_Same.l1 k (i : Int) N I T b C N I T' b C) r ∧ (r = true ↔ T.drop i = T'.drop i) := by
 have last : ∀ i : Nat, ¬ i < T.length → ∃ r, Ev (fun k => fencepostref04_Same.l1 k (i : Int) N I T b C N I T' b C) r ∧ (r = true ↔ T.drop i = T'.drop i) := by
  intro i h
  refine ⟨true, ?_, ?_⟩
  ·refine Ev.step (fun k => by rw [fencepostref04_Same.l1]) ?_
   simp only [if_neg (show ¬ (i : Int) < (T.length : Int) by omega)]
   exact sd_l3 N I T T' b C hC C.length 0 (by omega)
  ·rw [List.drop_eq_nil_of_le (show T.length ≤ i by omega), List.drop_eq_nil_of_le (show T'.length ≤ i by omega)]
   simp
 intro d
 induction d with
 | zero => intro i h; exact last i (by omega)
 | succ d ih =>
  intro i h
  by_cases c : i < T.length
  ·have c' : i < T'.length := by omega
   obtain ⟨q, hq, hqe⟩ := ih (i + 1) (by omega)
   have e1 := totLn_at T i c
   have e2 := totLn_at T' i c'
   rw [List.drop_eq_getElem_cons c, List.drop_eq_getElem_cons c', List.cons.injEq, thr_eta, ← e1, ← e2]
   have hm := hl _ (List.getElem_mem c)
   rw [← e1] at hm
   have s1 : (0 : Int) ≤ (i : Int) := by omega
   have s2 : (i : Int) < (T.length : Int) := by omega
   have s3 : (i : Int) < (T'.length : Int) := by omega
   by_cases c2 : ((rd_T58 T (i : Int)).f0.length : Int) = ((rd_T58 T' (i : Int)).f0.length : Int)
   ·obtain ⟨r, hr, hre⟩ := sd_l2 N I T T' b C i c c' _ _ rfl rfl hm (by omega) q (by rw [w64 (by omega) (by omega)]; exact hq) (rd_T58 T (i : Int)).f0.length 0 (by omega)
    refine ⟨r, ?_, by rw [hre, hqe, List.drop_zero, List.drop_zero]⟩
    refine Ev.step (fun k => by rw [fencepostref04_Same.l1]) ?_
    simp only [if_pos s1, if_pos s2, if_pos s3, if_pos c2]
    exact hr
   ·refine ⟨false, ?_, ?_⟩
    ·refine Ev.step (fun k => by rw [fencepostref04_Same.l1]) ?_
     simp only [if_pos s1, if_pos s2, if_pos s3, if_neg c2]
     exact Ev.now _
    ·simp only [Bool.false_eq_true, false_iff]
     intro hh
     exact c2 (by rw [hh.1])
  ·exact last i c
theorem sd_l0 (hI : I.length ≤ 1000000) (q : Bool) (next : Ev (fun k => fencepostref04_Same.l1 k 0 N I T b C N I T' b C) q) : ∀ (d i : Nat), I.length - i ≤ d → Ev (fun k => fencepostref04_Same.l0 k (i : Int) N I T b C N I T' b C) q := by
 intro d
 induction d with
 | zero =>
  intro i h
  refine Ev.step (fun k => by rw [fencepostref04_Same.l0]) ?_
  simp only [if_neg (show ¬ (i : Int) < (I.length : Int) by omega)]
  exact next
 | succ d ih =>
  intro i h
  by_cases c : i < I.length
  ·refine Ev.step (fun k => by rw [fencepostref04_Same.l0]) ?_
   simp only [if_pos (show (i : Int) < (I.length : Int) by omega), if_pos (show (0 : Int) ≤ (i : Int) by omega), beq_self_eq_true, Bool.not_true, Bool.or_self, Bool.false_eq_true, if_false, w64 (show -9223372036854775808 ≤ (i : Int) + 1 by omega) (by omega)]
   exact ih (i + 1) (by omega)
  ·refine Ev.step (fun k => by rw [fencepostref04_Same.l0]) ?_
   simp only [if_neg (show ¬ (i : Int) < (I.length : Int) by omega)]
   exact next
theorem sd_ev (hI : I.length ≤ 1000000) (hC : C.length ≤ 1000000) (hT : T.length ≤ 1000000) (hl : ∀ t ∈ T, t.f0.length ≤ 1000000) : ∃ r, Ev (fun k => fencepostref04_Same.f k N I T b C N I T' b C) r ∧ (r = true ↔ T = T') := by
 unfold fencepostref04_Same.f
 simp only [if_true, bne_self_eq_false, Bool.false_eq_true, if_false]
 by_cases c : (T.length : Int) = (T'.length : Int)
 ·simp only [if_pos c]
  obtain ⟨q, hq, hqe⟩ := sd_l1 N I T T' b C hC hT (by omega) hl T.length 0 (by omega)
  refine ⟨q, ?_, by rw [hqe, List.drop_zero, List.drop_zero]⟩
  refine Ev.step (fun k => by rw [fencepostref04_Same.j0]) ?_
  simp only [Bool.false_eq_true, if_false]
  exact sd_l0 N I T T' b C hI q hq I.length 0 (by omega)
 ·simp only [if_neg c]
  refine ⟨false, ?_, ?_⟩
  ·refine Ev.step (fun k => by rw [fencepostref04_Same.j0]) ?_
   simp only [if_true]
   exact Ev.now _
  ·simp only [Bool.false_eq_true, false_iff]
   intro h; exact c (by rw [h])
end
def eraV (g : List Int) : List S58 → Int → List S58
 | [], _ => []
 | t :: r, n => ⟨(woF g n t.f0).1⟩ :: eraV g r (n + (woF g n t.f0).2.1)
theorem eraV_fen (g : List Int) : ∀ (l : List S58) (n : Int), eraV g (fenT g l n) n = l
 | [], n => rfl
 | t :: r, n => by
  have h := wo_fen g t.f0 [] n n 0 (by omega)
  simp only [fenT, eraV]
  unfold woF
  rw [h]
  simp only [List.nil_append, Int.zero_add]
  rw [eraV_fen g r]
theorem eraV_len (g : List Int) : ∀ (l : List S58) (n : Int), (eraV g l n).length = l.length ∧ totLn (eraV g l n) ≤ totLn l ∧ (∀ m : Nat, (∀ t ∈ l, t.f0.length ≤ m) → ∀ t ∈ eraV g l n, t.f0.length ≤ m)
 | [], n => by simp [eraV, totLn]
 | t :: r, n => by
  obtain ⟨h1, h2, h3⟩ := eraV_len g r (n + (woF g n t.f0).2.1)
  obtain ⟨g1, _, _⟩ := wo_len g n t.f0 ([], 0, false)
  have g2 : (woF g n t.f0).1.length ≤ t.f0.length := by unfold woF; simpa using g1
  refine ⟨by simp only [eraV, List.length_cons, h1], ?_, ?_⟩
  ·simp only [eraV, totLn, List.map_cons, List.sum_cons] at h2 ⊢; omega
  ·intro m hm x hx
   simp only [eraV, List.mem_cons] at hx
   rcases hx with rfl | hx
   ·have := hm t (List.mem_cons_self ..)
    exact Nat.le_trans g2 this
   ·exact h3 m (fun y hy => hm y (List.mem_cons_of_mem _ hy)) x hx
section
variable (N : ByteArray) (I : List S62) (b : Bool) (C : List S64)
theorem rera_l0 (T : List S58) (g : List Int) (hl : g.length ≤ 1000000) (hI : I.length ≤ 1000) (hC : C.length ≤ 1000) (hT : T.length ≤ 100) (h3 : ∀ x ∈ T, x.f0.length ≤ 100) (V : List S58) (hV : V.length ≤ 500) (hV3 : ∀ x ∈ V, x.f0.length ≤ 300) (hVt : totLn V ≤ 100000) : ∃ r, (r = if fenT g V 0 = T then (N, I, V, b, C, true) else (N, I, T, b, C, false)) ∧ ∀ (d t : Nat) (n : Int) (ts : List S58), T.length - t ≤ d → t ≤ T.length → 0 ≤ n ∧ n ≤ 100 * t → ts.length = t → V = ts ++ eraV g (T.drop t) n → Ev (fun k => fencepostref08_Erase.l0 k g n (t : Int) N I T b C N I ts b C) r := by
 refine ⟨_, rfl, ?_⟩
 have last : ∀ (t : Nat) (n : Int) (ts : List S58), ¬ t < T.length → V = ts ++ eraV g (T.drop t) n → Ev (fun k => fencepostref08_Erase.l0 k g n (t : Int) N I T b C N I ts b C) (if fenT g V 0 = T then (N, I, V, b, C, true) else (N, I, T, b, C, false)) := by
  intro t n ts h hr
  rw [List.drop_eq_nil_of_le (show T.length ≤ t by omega)] at hr
  simp only [eraV, List.append_nil] at hr
  subst hr
  refine Ev.step (fun k => by rw [fencepostref08_Erase.l0]) ?_
  simp only [if_neg (show ¬ (t : Int) < (T.length : Int) by omega)]
  refine Ev.bind (rfen_ev N I b C V g hl hV hV3 hVt) ?_
  obtain ⟨h1, h2⟩ := fenT_len g V 0
  obtain ⟨r, hr, he⟩ := sd_ev N I (fenT g V 0) T b C (by omega) (by omega) (by omega) (fun x hx => by
   have : x.f0.length ≤ totLn (fenT g V 0) := by
    have : ∀ l : List S58, x ∈ l → x.f0.length ≤ totLn l := by
     intro l
     induction l with
     | nil => intro h; simp at h
     | cons y ys ih =>
      intro h
      simp only [totLn, List.map_cons, List.sum_cons] at ih ⊢
      rcases List.mem_cons.1 h with rfl | h
      ·omega
      ·have := ih h; omega
    exact this _ hx
   omega)
  refine Ev.bind hr ?_
  by_cases c : fenT g V 0 = T
  ·rw [if_pos c, if_pos (he.2 c)]; exact Ev.now _
  ·rw [if_neg c, if_neg (fun h => c (he.1 h))]; exact Ev.now _
 intro d
 induction d with
 | zero => intro t n ts h _ _ _ hr; exact last t n ts (by omega) hr
 | succ d ih =>
  intro t n ts h h2 hn hts hr
  by_cases c : t < T.length
  ·have ea := totLn_at T t c
   have hm : rd_T58 T (t : Int) ∈ T := by rw [ea]; exact List.getElem_mem c
   have ed : T.drop t = rd_T58 T (t : Int) :: T.drop (t + 1) := by rw [ea]; exact List.drop_eq_getElem_cons c
   have hlen := h3 _ hm
   rw [ed] at hr
   simp only [eraV] at hr
   obtain ⟨g1, g2, g3⟩ := wo_len g n (rd_T58 T (t : Int)).f0 ([], 0, false)
   have hb : 0 ≤ (woF g n (rd_T58 T (t : Int)).f0).2.1 ∧ (woF g n (rd_T58 T (t : Int)).f0).2.1 ≤ 100 := by
    unfold woF; exact ⟨g2, Int.le_trans g3 (by show (0 : Int) + _ ≤ 100; omega)⟩
   have hwo := wo_ev (rd_T58 T (t : Int)).f0 g hl (by omega) n ⟨hn.1, by omega⟩
   have hi1 : (((t + 1 : Nat) : Int)) = (t : Int) + 1 := by push_cast; rfl
   have nx := ih (t + 1) (n + (woF g n (rd_T58 T (t : Int)).f0).2.1) (ts ++ [⟨(woF g n (rd_T58 T (t : Int)).f0).1⟩]) (by omega) (by omega) ⟨by omega, by omega⟩ (by rw [List.length_append]; simp only [List.length_cons, List.length_nil]; omega) (by rw [hr, List.append_assoc]; rfl)
   rw [hi1] at nx
   have s1 : (t : Int) < (T.length : Int) := by omega
   have s2 : (0 : Int) ≤ (t : Int) := by omega
   have s3 : ts.length < 5864062014805 := smallT (show ts.length ≤ 1000 by omega)
   have w1 := w64 (show -9223372036854775808 ≤ (t : Int) + 1 by omega) (by omega)
   have w2 := w64 (show -9223372036854775808 ≤ n + (woF g n (rd_T58 T (t : Int)).f0).2.1 by clear w1 nx hr; omega) (by clear w1 nx hr; omega)
   refine Ev.step (fun k => by rw [fencepostref08_Erase.l0]) ?_
   simp only [if_pos s1, if_pos s2]
   refine Ev.bind hwo ?_
   simp only [if_pos s3, w1, w2]
   exact nx
  ·exact last t n ts c hr
theorem rera_ev {T : List S58} {g : List Int} (h : FileOk I T C) (hg : ∀ x ∈ g, (Lit.int .i64 x).wf = true) (hl : g.length ≤ 100) (r : ByteArray × List S62 × List S58 × Bool × List S64 × Bool) (hr : slots_Erase.f N I T b C g = some r) : Ev (fun k => fencepostref08_Erase.f k N I T b C g) r := by
 have h1 := h.lt
 have h2 := totLn_le T h.ll
 obtain ⟨v1, v2, v3⟩ := eraV_len g T 0
 have v4 := v3 100 h.ll
 obtain ⟨r', e', hh⟩ := rera_l0 N I b C T g (by omega) (by have := h.li; omega) (by have := h.lc; omega) (by omega) h.ll (eraV g T 0) (by omega) (fun x hx => by have := v4 x hx; omega) (by omega)
 have hh := hh T.length 0 0 [] (by omega) (by omega) ⟨by omega, by omega⟩ rfl (by rw [List.drop_zero]; rfl)
 have : r = r' := by
  rw [e']
  unfold slots_Erase.f at hr
  rw [if_pos (fileB_ok h hg hl).1] at hr
  split at hr
  ·rename_i hU
   by_cases c : (linesF (fenceTT g) (linesF (eraseTT g) T (-1)).1 ()).1 = T
   ·rw [if_pos c] at hr
    have c2 := c
    rw [fence_is] at c2
    have e : eraV g T 0 = (linesF (eraseTT g) T (-1)).1 := by
     conv => lhs; rw [← c2]
     exact eraV_fen g _ 0
    rw [e, if_pos c2]
    exact (Option.some.inj hr).symm
   ·rw [if_neg c] at hr
    have c2 : ¬ fenT g (eraV g T 0) 0 = T := by
     intro c3
     apply c
     have e : (linesF (eraseTT g) T (-1)).1 = eraV g T 0 := by
      conv => lhs; rw [← c3]
      exact erase_fence g _
     rw [e, fence_is]; exact c3
    rw [if_neg c2]
    exact (Option.some.inj hr).symm
  ·exact absurd hr (by simp)
 rw [this]
 unfold fencepostref08_Erase.f
 exact hh
end
end Go.Proofs.Ytijpfonbeepmfaa.Print
