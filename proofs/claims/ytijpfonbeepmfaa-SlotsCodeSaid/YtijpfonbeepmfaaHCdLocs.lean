/- The reference's locations, and whether a file is right: what its functions answer. Plain Lean. -/
import Derived.Test.YtijpfonbeepmfaaHCdWord
import Derived.Test.YtijpfonbeepmfaaHSlFile
import Derived.Test.YtijpfonbeepmfaaPrint16
import Derived.Laws.Strings
namespace Go.Proofs.Ytijpfonbeepmfaa.Print
open Go.RowKit Go.Proofs.YtijpfonbeepmfaaW.PrintWords Go.Proofs.YtijpfonbeepmfaaW.PrintLast Go.Proofs.YtijpfonbeepmfaaW.PrintMore
set_option linter.unusedVariables false
set_option linter.unusedSimpArgs false
/-- A text put among others that rise. -/
def putR (s : ByteArray) : List ByteArray → Bool → List ByteArray
 | [], b => if b = true then [] else [s]
 | y :: r, b => if b = false ∧ Op.bytesLess y.toList s.toList = false then (if s.toList = y.toList then y :: putR s r true else s :: y :: putR s r true) else y :: putR s r b
def putF (l : List ByteArray) (s : ByteArray) : List ByteArray := putR s l (s.toList == ([] : List UInt8))
theorem putR_done (s : ByteArray) : ∀ l, putR s l true = l
 | [] => rfl
 | y :: r => by simp only [putR]; rw [if_neg (by simp), putR_done s r]
theorem putR_len (s : ByteArray) : ∀ (l : List ByteArray) (b : Bool), l.length ≤ (putR s l b).length ∧ (putR s l b).length ≤ l.length + 1
 | [], b => by cases b <;> simp [putR]
 | y :: r, b => by
  have h1 := putR_len s r b
  have h2 := putR_done s r
  simp only [putR]
  split
  ·split
   ·rw [h2]; simp
   ·rw [h2]; simp
  ·simp only [List.length_cons]; omega
theorem putR_ne (s : ByteArray) (l : List ByteArray) : 1 ≤ (putR s l false).length := by
 cases l with
 | nil => simp [putR]
 | cons y r =>
  have := (putR_len s (y :: r) false).1
  simp only [List.length_cons] at this; omega
theorem rdOf_at {l : List ByteArray} {j : Nat} (h : j < l.length) : rdOf ByteArray.empty l (j : Int) = l[j] := by unfold rdOf; rw [Int.toNat_natCast, List.getD_eq_getElem?_getD, List.getElem?_eq_getElem h]; rfl
theorem small_s {xs : List ByteArray} (h : xs.length ≤ 1000000) : xs.length < 8796093022208 := Nat.lt_of_le_of_lt h (by decide)
theorem put_l0 (l : List ByteArray) (s : ByteArray) (hl : l.length ≤ 100000) (r : List ByteArray) : ∀ (d i : Nat) (out : List ByteArray) (b : Bool), l.length - i ≤ d → i ≤ l.length → out.length ≤ 2 * i → r = out ++ putR s (l.drop i) b → Ev (fun k => fencepostref04_put.l0 k l s out b (i : Int)) r := by
 have last : ∀ (i : Nat) (out : List ByteArray) (b : Bool), ¬ i < l.length → i ≤ l.length → out.length ≤ 2 * i → r = out ++ putR s (l.drop i) b → Ev (fun k => fencepostref04_put.l0 k l s out b (i : Int)) r := by
  intro i out b h h1 h2 hr
  rw [List.drop_eq_nil_of_le (show l.length ≤ i by omega)] at hr
  refine Ev.step (fun k => by rw [fencepostref04_put.l0]) ?_
  simp only [if_neg (show ¬ (i : Int) < (l.length : Int) by omega), if_pos (small_s (show out.length ≤ 1000000 by omega))]
  cases b with
  | true => simp only [putR, if_true, List.append_nil] at hr; simp only [if_true]; rw [hr]; exact Ev.now _
  | false => simp only [putR, Bool.false_eq_true, if_false] at hr; simp only [Bool.false_eq_true, if_false]; rw [hr]; exact Ev.now _
 intro d
 induction d with
 | zero => intro i out b h h1 h2 hr; exact last i out b (by omega) h1 h2 hr
 | succ d ih =>
  intro i out b h h1 h2 hr
  by_cases c : i < l.length
  ·have s1 : (i : Int) < (l.length : Int) := by omega
   have s2 : (0 : Int) ≤ (i : Int) := by omega
   have w1 := w64 (show -9223372036854775808 ≤ (i : Int) + 1 by omega) (by omega)
   have hi1 : (((i + 1 : Nat) : Int)) = (i : Int) + 1 := by push_cast; rfl
   have ea := rdOf_at c
   rw [List.drop_eq_getElem_cons c, ← ea] at hr
   have k1 := small_s (show out.length ≤ 1000000 by omega)
   generalize rdOf ByteArray.empty l (i : Int) = y at hr ea
   have nx : ∀ (o : List ByteArray) (b' : Bool), o.length ≤ 2 * (i + 1) → r = o ++ putR s (l.drop (i + 1)) b' → Ev (fun k => fencepostref04_put.l0 k l s o b' ((i : Int) + 1)) r := fun o b' ho hro => by
    have := ih (i + 1) o b' (by omega) (by omega) ho hro
    rwa [hi1] at this
   have hy : rdOf ByteArray.empty l (i : Int) = y := by rw [rdOf_at c, ea]
   have l1 : (out ++ [y]).length ≤ 2 * (i + 1) := by rw [List.length_append]; simp only [List.length_cons, List.length_nil]; omega
   by_cases ct : b = false ∧ Op.bytesLess y.toList s.toList = false
   ·obtain ⟨rfl, ct2⟩ := ct
    simp only [putR] at hr
    rw [if_pos (by simp [ct2])] at hr
    refine Ev.step (fun k => by rw [fencepostref04_put.l0]) ?_
    simp only [if_pos s1, Bool.false_eq_true, if_false, if_pos s2, hy, ct2, Bool.not_false]
    refine Ev.step (fun k => by rw [fencepostref04_put.j1]) ?_
    simp only [if_true, if_pos s2, if_pos s1, hy, if_pos k1, w1]
    by_cases ce : s.toList = y.toList
    ·rw [if_pos ce] at hr
     simp only [if_pos ce]
     exact nx _ _ l1 (by rw [hr, List.append_assoc]; rfl)
    ·rw [if_neg ce] at hr
     simp only [if_neg ce, Option.bind_some]
     have l2 : (out ++ [s]).length ≤ 1000000 := by rw [List.length_append]; simp only [List.length_cons, List.length_nil]; omega
     simp only [if_pos (small_s l2)]
     exact nx _ _ (by rw [List.length_append, List.length_append]; simp only [List.length_cons, List.length_nil]; omega) (by rw [hr, List.append_assoc, List.append_assoc]; rfl)
   ·simp only [putR] at hr
    rw [if_neg ct] at hr
    have fin : Ev (fun k => fencepostref04_put.j1 k l s out b (i : Int) false) r := by
     refine Ev.step (fun k => by rw [fencepostref04_put.j1]) ?_
     simp only [Bool.false_eq_true, if_false, if_pos s2, if_pos s1, hy, if_pos k1, w1]
     exact nx _ _ l1 (by rw [hr, List.append_assoc]; rfl)
    refine Ev.step (fun k => by rw [fencepostref04_put.l0]) ?_
    simp only [if_pos s1, hy]
    cases b with
    | true => simp only [if_true]; exact fin
    | false =>
     have c3 : Op.bytesLess y.toList s.toList = true := by
      cases c4 : Op.bytesLess y.toList s.toList with
      | true => rfl
      | false => exact absurd (by simp [c4]) ct
     simp only [Bool.false_eq_true, if_false, if_pos s2, c3, Bool.not_true]
     exact fin
  ·exact last i out b c h1 h2 hr
theorem put_ev (l : List ByteArray) (s : ByteArray) (hl : l.length ≤ 100000) : Ev (fun k => fencepostref04_put.f k l s) (putF l s) := by
 unfold fencepostref04_put.f
 exact put_l0 l s hl _ l.length 0 [] _ (by omega) (by omega) (by simp) (by rw [List.drop_zero]; rfl)
theorem putF_len (l : List ByteArray) (s : ByteArray) : l.length ≤ (putF l s).length ∧ (putF l s).length ≤ l.length + 1 := putR_len s l _
theorem putF_nil (l : List ByteArray) (s : ByteArray) (h : s.toList = []) : putF l s = l := by
 unfold putF
 rw [show (s.toList == ([] : List UInt8)) = true from beq_iff_eq.mpr h]
 exact putR_done s l
theorem putF_ne (l : List ByteArray) (s : ByteArray) (h : s.toList ≠ []) : 1 ≤ (putF l s).length := by
 unfold putF
 rw [show (s.toList == ([] : List UInt8)) = false from beq_eq_false_iff_ne.mpr h]
 exact putR_ne s l
def putI (L : List ByteArray) (I : List S62) : List ByteArray := I.foldl (fun L c => putF L c.f0) L
def putL (L : List ByteArray) (l : List S60) : List ByteArray := l.foldl (fun L x => putF L x.f2) L
def putT (L : List ByteArray) (T : List S58) : List ByteArray := T.foldl (fun L t => putL L t.f0) L
def putC (L : List ByteArray) (C : List S64) : List ByteArray := C.foldl (fun L a => if a.f0 = -1 then putF L a.f1 else L) L
def locsF (I : List S62) (T : List S58) (C : List S64) : List ByteArray := putC (putT (putI [] I) T) C
theorem putI_len (I : List S62) : ∀ L : List ByteArray, L.length ≤ (putI L I).length ∧ (putI L I).length ≤ L.length + I.length := by
 induction I with
 | nil => intro L; simp [putI]
 | cons c r ih => intro L; have h1 := ih (putF L c.f0); have h2 := putF_len L c.f0; simp only [putI, List.foldl_cons, List.length_cons] at h1 ⊢; omega
theorem putL_len (l : List S60) : ∀ L : List ByteArray, L.length ≤ (putL L l).length ∧ (putL L l).length ≤ L.length + l.length := by
 induction l with
 | nil => intro L; simp [putL]
 | cons c r ih => intro L; have h1 := ih (putF L c.f2); have h2 := putF_len L c.f2; simp only [putL, List.foldl_cons, List.length_cons] at h1 ⊢; omega
theorem putT_len (T : List S58) : ∀ L : List ByteArray, L.length ≤ (putT L T).length ∧ (putT L T).length ≤ L.length + totLn T := by
 induction T with
 | nil => intro L; simp [putT]
 | cons c r ih => intro L; have h1 := ih (putL L c.f0); have h2 := putL_len c.f0 L; simp only [putT, totLn, List.foldl_cons, List.map_cons, List.sum_cons] at h1 ⊢; omega
theorem putC_len (C : List S64) : ∀ L : List ByteArray, L.length ≤ (putC L C).length ∧ (putC L C).length ≤ L.length + C.length := by
 induction C with
 | nil => intro L; simp [putC]
 | cons c r ih =>
  intro L
  have h2 := putF_len L c.f1
  simp only [putC, List.foldl_cons, List.length_cons]
  split
  ·have h1 := ih (putF L c.f1); simp only [putC] at h1; omega
  ·have h1 := ih L; simp only [putC] at h1; omega
theorem locsF_len (I : List S62) (T : List S58) (C : List S64) : (locsF I T C).length ≤ I.length + totLn T + C.length := by
 have h1 := putI_len I []
 have h2 := putT_len T (putI [] I)
 have h3 := putC_len C (putT (putI [] I) T)
 unfold locsF
 simp only [List.length_nil] at h1
 omega
theorem locsF_ne (I : List S62) (T : List S58) (C : List S64) (c : S62) (hc : c ∈ I) (h : c.f0.toList ≠ []) : 1 ≤ (locsF I T C).length := by
 have h2 := putT_len T (putI [] I)
 have h3 := putC_len C (putT (putI [] I) T)
 have : ∀ (I : List S62) (L : List ByteArray), c ∈ I → 1 ≤ (putI L I).length := by
  intro I
  induction I with
  | nil => intro L h; simp at h
  | cons x r ih =>
   intro L hx
   rcases List.mem_cons.1 hx with rfl | hx
   ·have h1 := putF_ne L c.f0 h
    have h4 := (putI_len r (putF L c.f0)).1
    simp only [putI, List.foldl_cons] at h4 ⊢; omega
   ·exact ih (putF L x.f0) hx
 have := this I [] hc
 unfold locsF
 omega
theorem putL_fen (g : List Int) : ∀ (l : List S60) (n : Int) (L : List ByteArray), putL L (fen g l n) = putL L l
 | [], n, L => by simp [fen]
 | x :: r, n, L => by
  have e0 : putF L fenceL.f2 = L := putF_nil L _ (by rw [Go.ByteArray.toList_eq]; rfl)
  have e1 : ∀ (y : S60) (ys : List S60) (L : List ByteArray), putL L (y :: ys) = putL (putF L y.f2) ys := fun y ys L => rfl
  simp only [fen]
  split
  ·rw [e1, e1, putL_fen g r]
  ·unfold fenceT
   split
   ·show putL L (fenceL :: x :: fen g r (n + 1)) = _
    rw [e1, e0, e1, e1, putL_fen g r]
   ·show putL L (x :: fen g r (n + 1)) = _
    rw [e1, e1, putL_fen g r]
theorem putT_fen (g : List Int) : ∀ (T : List S58) (n : Int) (L : List ByteArray), putT L (fenT g T n) = putT L T
 | [], n, L => by simp [fenT]
 | t :: r, n, L => by
  have e1 : ∀ (y : S58) (ys : List S58) (L : List ByteArray), putT L (y :: ys) = putT (putL L y.f0) ys := fun y ys L => rfl
  simp only [fenT]
  rw [e1, e1, putT_fen g r]
  show putT (putL L (fen g t.f0 n)) r = _
  rw [putL_fen]
theorem locsF_fen (g : List Int) (I : List S62) (T : List S58) (C : List S64) : locsF I (fenT g T 0) C = locsF I T C := by
 unfold locsF
 rw [putT_fen]
theorem rdLn' {l : List S60} {j : Nat} (h : j < l.length) : rd_T60 l (j : Int) = l[j] := by unfold rd_T60; rw [Int.toNat_natCast, List.getD_eq_getElem?_getD, List.getElem?_eq_getElem h]; rfl
theorem rdTh' {l : List S58} {j : Nat} (h : j < l.length) : rd_T58 l (j : Int) = l[j] := by unfold rd_T58; rw [Int.toNat_natCast, List.getD_eq_getElem?_getD, List.getElem?_eq_getElem h]; rfl
section
variable (N : ByteArray) (I : List S62) (T : List S58) (b : Bool) (C : List S64)
theorem locs_l3 (hC : C.length ≤ 1000) (r : List ByteArray) : ∀ (d i : Nat) (L : List ByteArray), C.length - i ≤ d → L.length + (C.length - i) ≤ 90000 → r = putC L (C.drop i) → Ev (fun k => fencepostref04_locs.l3 k L (i : Int) N I T b C) r := by
 have last : ∀ (i : Nat) (L : List ByteArray), ¬ i < C.length → r = putC L (C.drop i) → Ev (fun k => fencepostref04_locs.l3 k L (i : Int) N I T b C) r := by
  intro i L h hr
  rw [List.drop_eq_nil_of_le (show C.length ≤ i by omega)] at hr
  refine Ev.step (fun k => by rw [fencepostref04_locs.l3]) ?_
  simp only [if_neg (show ¬ (i : Int) < (C.length : Int) by omega)]
  rw [hr]; exact Ev.now _
 intro d
 induction d with
 | zero => intro i L h _ hr; exact last i L (by omega) hr
 | succ d ih =>
  intro i L h hb hr
  by_cases c : i < C.length
  ·have e : rd_T64 C (i : Int) = C[i] := by unfold rd_T64; rw [Int.toNat_natCast, List.getD_eq_getElem?_getD, List.getElem?_eq_getElem c]; rfl
   have e1 : putC L (C[i] :: C.drop (i + 1)) = putC (if C[i].f0 = -1 then putF L C[i].f1 else L) (C.drop (i + 1)) := rfl
   rw [List.drop_eq_getElem_cons c, e1, ← e] at hr
   have hi1 : (((i + 1 : Nat) : Int)) = (i : Int) + 1 := by push_cast; rfl
   have w1 := w64 (show -9223372036854775808 ≤ (i : Int) + 1 by omega) (by omega)
   refine Ev.step (fun k => by rw [fencepostref04_locs.l3]) ?_
   simp only [if_pos (show (i : Int) < (C.length : Int) by omega), if_pos (show (0 : Int) ≤ (i : Int) by omega), w1]
   by_cases c1 : (rd_T64 C (i : Int)).f0 = -1
   ·rw [if_pos c1] at hr
    have hp := putF_len L (rd_T64 C (i : Int)).f1
    have := ih (i + 1) _ (by omega) (by omega) hr
    rw [hi1] at this
    simp only [if_pos c1]
    exact Ev.bind (put_ev L _ (by omega)) this
   ·rw [if_neg c1] at hr
    have := ih (i + 1) _ (by omega) (by omega) hr
    rw [hi1] at this
    simp only [if_neg c1]
    exact this
  ·exact last i L c hr
theorem locs_l2 (r : List ByteArray) (t : Nat) (ht : t < T.length) (hT : T.length ≤ 30) (l : List S60) (he : (rd_T58 T (t : Int)).f0 = l) (hl : l.length ≤ 1000)
 (next : ∀ L : List ByteArray, L.length ≤ 50000 + 1000 * (t + 1) → r = putC (putT L (T.drop (t + 1))) C → Ev (fun k => fencepostref04_locs.l1 k L (wrap64 ((t : Int) + 1)) N I T b C) r) :
 ∀ (d i : Nat) (L : List ByteArray), l.length - i ≤ d → i ≤ l.length → L.length + (l.length - i) ≤ 50000 + 1000 * (t + 1) → r = putC (putT (putL L (l.drop i)) (T.drop (t + 1))) C → Ev (fun k => fencepostref04_locs.l2 k L (t : Int) (i : Int) N I T b C) r := by
 have s1 : (0 : Int) ≤ (t : Int) := by omega
 have s2 : (t : Int) < (T.length : Int) := by omega
 intro d
 have last : ∀ (i : Nat) (L : List ByteArray), ¬ i < l.length → i ≤ l.length → L.length + (l.length - i) ≤ 50000 + 1000 * (t + 1) → r = putC (putT (putL L (l.drop i)) (T.drop (t + 1))) C → Ev (fun k => fencepostref04_locs.l2 k L (t : Int) (i : Int) N I T b C) r := by
  intro i L h h1 h2 hr
  rw [List.drop_eq_nil_of_le (show l.length ≤ i by omega)] at hr
  refine Ev.step (fun k => by rw [fencepostref04_locs.l2]) ?_
  simp only [he, if_pos s1, if_pos s2, if_neg (show ¬ (i : Int) < (l.length : Int) by omega)]
  exact next L (by omega) hr
 induction d with
 | zero => intro i L h h1 h2 hr; exact last i L (by omega) h1 h2 hr
 | succ d ih =>
  intro i L h h1 h2 hr
  by_cases c : i < l.length
  ·have e := rdLn' c
   have e1 : putL L (l[i] :: l.drop (i + 1)) = putL (putF L l[i].f2) (l.drop (i + 1)) := rfl
   rw [List.drop_eq_getElem_cons c, e1, ← e] at hr
   have hi1 : (((i + 1 : Nat) : Int)) = (i : Int) + 1 := by push_cast; rfl
   have w1 := w64 (show -9223372036854775808 ≤ (i : Int) + 1 by omega) (by omega)
   have hp := putF_len L (rd_T60 l (i : Int)).f2
   have := ih (i + 1) _ (by omega) (by omega) (by omega) hr
   rw [hi1] at this
   refine Ev.step (fun k => by rw [fencepostref04_locs.l2]) ?_
   simp only [he, if_pos s1, if_pos s2, if_pos (show (i : Int) < (l.length : Int) by omega), if_pos (show (0 : Int) ≤ (i : Int) by omega), w1]
   exact Ev.bind (put_ev L _ (by omega)) this
  ·exact last i L c h1 h2 hr
end
end Go.Proofs.Ytijpfonbeepmfaa.Print
