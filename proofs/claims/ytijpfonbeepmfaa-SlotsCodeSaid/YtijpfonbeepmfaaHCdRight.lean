/- Whether a file is right, and its locations: what the reference answers. Plain Lean. -/
import Derived.Test.YtijpfonbeepmfaaHCdLocs
namespace Go.Proofs.Ytijpfonbeepmfaa.Print
open Go.RowKit Go.Proofs.YtijpfonbeepmfaaW.PrintWords Go.Proofs.YtijpfonbeepmfaaW.PrintLast Go.Proofs.YtijpfonbeepmfaaW.PrintMore
set_option linter.unusedVariables false
set_option linter.unusedSimpArgs false
/-- What is not too much, with and without fences. -/
structure FileB (N : ByteArray) (I : List S62) (T : List S58) (C : List S64) : Prop where
 li : I.length ≤ 60
 lt : T.length ≤ 9
 lc : C.length ≤ 60
 ll : ∀ t ∈ T, t.f0.length ≤ 200
 sn : StrOk N
 si : ∀ c ∈ I, StrOk c.f0
 sl : ∀ t ∈ T, ∀ x ∈ t.f0, StrOk x.f2 ∧ StrOk x.f3
 sc : ∀ a ∈ C, StrOk a.f1
section
variable (N : ByteArray) (I : List S62) (T : List S58) (b : Bool) (C : List S64)
theorem locs_l1 (r : List ByteArray) (hC : C.length ≤ 1000) (hT : T.length ≤ 30) (hl : ∀ t ∈ T, t.f0.length ≤ 1000) : ∀ (d t : Nat) (L : List ByteArray), T.length - t ≤ d → t ≤ T.length → L.length ≤ 50000 + 1000 * t → r = putC (putT L (T.drop t)) C → Ev (fun k => fencepostref04_locs.l1 k L (t : Int) N I T b C) r := by
 have last : ∀ (t : Nat) (L : List ByteArray), ¬ t < T.length → L.length ≤ 80000 → r = putC (putT L (T.drop t)) C → Ev (fun k => fencepostref04_locs.l1 k L (t : Int) N I T b C) r := by
  intro t L h h1 hr
  rw [List.drop_eq_nil_of_le (show T.length ≤ t by omega)] at hr
  refine Ev.step (fun k => by rw [fencepostref04_locs.l1]) ?_
  simp only [if_neg (show ¬ (t : Int) < (T.length : Int) by omega)]
  exact locs_l3 N I T b C hC r C.length 0 L (by omega) (by omega) (by rw [List.drop_zero]; exact hr)
 intro d
 induction d with
 | zero => intro t L h h0 h1 hr; exact last t L (by omega) (by omega) hr
 | succ d ih =>
  intro t L h h0 h1 hr
  by_cases c : t < T.length
  ·have e := rdTh' c
   have hm := hl _ (List.getElem_mem c)
   rw [← e] at hm
   have e1 : putT L (T[t] :: T.drop (t + 1)) = putT (putL L T[t].f0) (T.drop (t + 1)) := rfl
   rw [List.drop_eq_getElem_cons c, e1, ← e] at hr
   have hi1 : (((t + 1 : Nat) : Int)) = (t : Int) + 1 := by push_cast; rfl
   have w1 := w64 (show -9223372036854775808 ≤ (t : Int) + 1 by omega) (by omega)
   refine Ev.step (fun k => by rw [fencepostref04_locs.l1]) ?_
   simp only [if_pos (show (t : Int) < (T.length : Int) by omega)]
   refine locs_l2 N I T b C r t c hT _ rfl hm (fun L' hL' hr' => ?_) (rd_T58 T (t : Int)).f0.length 0 L (by omega) (by omega) (by omega) (by rw [List.drop_zero]; exact hr)
   have := ih (t + 1) L' (by omega) (by omega) hL' hr'
   rw [hi1] at this
   rw [w1]; exact this
  ·exact last t L c (by omega) hr
theorem locs_l0 (r : List ByteArray) (hI : I.length ≤ 1000) (hC : C.length ≤ 1000) (hT : T.length ≤ 30) (hl : ∀ t ∈ T, t.f0.length ≤ 1000) : ∀ (d i : Nat) (L : List ByteArray), I.length - i ≤ d → L.length + (I.length - i) ≤ 50000 → r = putC (putT (putI L (I.drop i)) T) C → Ev (fun k => fencepostref04_locs.l0 k L (i : Int) N I T b C) r := by
 have last : ∀ (i : Nat) (L : List ByteArray), ¬ i < I.length → L.length ≤ 50000 → r = putC (putT (putI L (I.drop i)) T) C → Ev (fun k => fencepostref04_locs.l0 k L (i : Int) N I T b C) r := by
  intro i L h h1 hr
  rw [List.drop_eq_nil_of_le (show I.length ≤ i by omega)] at hr
  refine Ev.step (fun k => by rw [fencepostref04_locs.l0]) ?_
  simp only [if_neg (show ¬ (i : Int) < (I.length : Int) by omega)]
  exact locs_l1 N I T b C r hC hT hl T.length 0 L (by omega) (by omega) (by omega) (by rw [List.drop_zero]; exact hr)
 intro d
 induction d with
 | zero => intro i L h h1 hr; exact last i L (by omega) (by omega) hr
 | succ d ih =>
  intro i L h h1 hr
  by_cases c : i < I.length
  ·have e : rd_T62 I (i : Int) = I[i] := by unfold rd_T62; rw [Int.toNat_natCast, List.getD_eq_getElem?_getD, List.getElem?_eq_getElem c]; rfl
   have e1 : putI L (I[i] :: I.drop (i + 1)) = putI (putF L I[i].f0) (I.drop (i + 1)) := rfl
   rw [List.drop_eq_getElem_cons c, e1, ← e] at hr
   have hi1 : (((i + 1 : Nat) : Int)) = (i : Int) + 1 := by push_cast; rfl
   have w1 := w64 (show -9223372036854775808 ≤ (i : Int) + 1 by omega) (by omega)
   have hp := putF_len L (rd_T62 I (i : Int)).f0
   have := ih (i + 1) _ (by omega) (by omega) hr
   rw [hi1] at this
   refine Ev.step (fun k => by rw [fencepostref04_locs.l0]) ?_
   simp only [if_pos (show (i : Int) < (I.length : Int) by omega), if_pos (show (0 : Int) ≤ (i : Int) by omega), w1]
   exact Ev.bind (put_ev L _ (by omega)) this
  ·exact last i L c (by omega) hr
theorem locs_ev (h : FileB N I T C) : Ev (fun k => fencepostref04_locs.f k N I T b C) (locsF I T C) := by
 unfold fencepostref04_locs.f
 exact locs_l0 N I T b C _ (by have := h.li; omega) (by have := h.lc; omega) (by have := h.lt; omega) (fun t ht => by have := h.ll t ht; omega) I.length 0 [] (by omega) (by have := h.li; simp; omega) (by rw [List.drop_zero]; rfl)
theorem head4_l0 (hs : ∀ c ∈ I, StrOk c.f0) (hI : I.length ≤ 1000) : ∀ (d i : Nat), I.length - i ≤ d → ∃ r, Ev (fun k => fencepostref04_head.l0 k (i : Int) N I T b C) r ∧ (r = 0 → ∀ j, i ≤ j → ∀ c, I[j]? = some c → 1 ≤ c.f0.size) := by
 have last : ∀ i : Nat, ¬ i < I.length → ∃ r, Ev (fun k => fencepostref04_head.l0 k (i : Int) N I T b C) r ∧ (r = 0 → ∀ j, i ≤ j → ∀ c, I[j]? = some c → 1 ≤ c.f0.size) := by
  intro i h
  have no : ∀ r : Int, (r = 0 → ∀ j, i ≤ j → ∀ c, I[j]? = some c → 1 ≤ c.f0.size) := fun r _ j hj c hc => by have := (List.getElem?_eq_some_iff.1 hc).1; omega
  by_cases c1 : (T.length : Int) < 1
  ·refine ⟨5, Ev.step (fun k => by rw [fencepostref04_head.l0]) ?_, no _⟩
   simp only [if_neg (show ¬ (i : Int) < (I.length : Int) by omega), if_pos c1]; exact Ev.now _
  ·by_cases c2 : (T.length : Int) > 3
   ·refine ⟨5, Ev.step (fun k => by rw [fencepostref04_head.l0]) ?_, no _⟩
    simp only [if_neg (show ¬ (i : Int) < (I.length : Int) by omega), if_neg c1, if_pos c2]; exact Ev.now _
   ·refine ⟨0, Ev.step (fun k => by rw [fencepostref04_head.l0]) ?_, no _⟩
    simp only [if_neg (show ¬ (i : Int) < (I.length : Int) by omega), if_neg c1, if_neg c2]; exact Ev.now _
 intro d
 induction d with
 | zero => intro i h; exact last i (by omega)
 | succ d ih =>
  intro i h
  by_cases c : i < I.length
  ·have e : rd_T62 I (i : Int) = I[i] := by unfold rd_T62; rw [Int.toNat_natCast, List.getD_eq_getElem?_getD, List.getElem?_eq_getElem c]; rfl
   have hm : rd_T62 I (i : Int) ∈ I := by rw [e]; exact List.getElem_mem c
   obtain ⟨r, hr, hn⟩ := ih (i + 1) (by omega)
   have hi1 : (((i + 1 : Nat) : Int)) = (i : Int) + 1 := by push_cast; rfl
   rw [hi1] at hr
   have w1 := w64 (show -9223372036854775808 ≤ (i : Int) + 1 by omega) (by omega)
   have w2 := w64 (show -9223372036854775808 ≤ (i : Int) - 1 by omega) (by omega)
   obtain ⟨q, hq, hz⟩ := name_ex _ (hs _ hm)
   have s1 : (i : Int) < (I.length : Int) := by omega
   have s2 : (0 : Int) ≤ (i : Int) := by omega
   cases q with
   | false =>
    refine ⟨22, Ev.step (fun k => by rw [fencepostref04_head.l0]) ?_, fun e => by simp at e⟩
    simp only [if_pos s1, if_pos s2]
    refine Ev.bind hq ?_
    simp only [Bool.false_eq_true, if_false]; exact Ev.now _
   | true =>
    have hz := hz rfl
    have ok : r = 0 → ∀ j, i ≤ j → ∀ c, I[j]? = some c → 1 ≤ c.f0.size := fun er j hj x hx => by
     by_cases ej : j = i
     ·subst ej
      rw [List.getElem?_eq_getElem c] at hx
      obtain rfl := Option.some.inj hx
      rw [← e]; exact hz
     ·exact hn er j (by omega) x hx
    by_cases c1 : (i : Int) > 0
    ·by_cases c2 : Op.bytesLess (rd_T62 I ((i : Int) - 1)).f0.toList (rd_T62 I (i : Int)).f0.toList = true
     ·refine ⟨r, Ev.step (fun k => by rw [fencepostref04_head.l0]) ?_, ok⟩
      simp only [if_pos s1, if_pos s2]
      refine Ev.bind hq ?_
      simp only [if_true, if_pos c1, w2, if_pos (show (0 : Int) ≤ (i : Int) - 1 by omega), if_pos (show (i : Int) - 1 < (I.length : Int) by omega), if_pos c2, w1]
      exact hr
     ·refine ⟨21, Ev.step (fun k => by rw [fencepostref04_head.l0]) ?_, fun e => by simp at e⟩
      simp only [if_pos s1, if_pos s2]
      refine Ev.bind hq ?_
      simp only [if_true, if_pos c1, w2, if_pos (show (0 : Int) ≤ (i : Int) - 1 by omega), if_pos (show (i : Int) - 1 < (I.length : Int) by omega), if_neg c2]
      exact Ev.now _
    ·refine ⟨r, Ev.step (fun k => by rw [fencepostref04_head.l0]) ?_, ok⟩
     simp only [if_pos s1, if_pos s2]
     refine Ev.bind hq ?_
     simp only [if_true, if_neg c1, w1]
     exact hr
  ·exact last i c
theorem head4_ex (h : FileB N I T C) : ∃ r, Ev (fun k => fencepostref04_head.f k N I T b C) r ∧ (r = 0 → ∀ c ∈ I, 1 ≤ c.f0.size) := by
 obtain ⟨q, hq, _⟩ := name_ex N h.sn
 obtain ⟨r, hr, hn⟩ := head4_l0 N I T b C h.si (by have := h.li; omega) I.length 0 (by omega)
 unfold fencepostref04_head.f
 cases q with
 | false =>
  refine ⟨22, Ev.bind hq ?_, fun e => by simp at e⟩
  simp only [Bool.false_eq_true, if_false]; exact Ev.now _
 | true =>
  refine ⟨r, Ev.bind hq ?_, fun e c hc => ?_⟩
  ·simp only [if_true]; exact hr
  ·obtain ⟨j, hj⟩ := List.getElem?_of_mem hc
   exact hn e j (Nat.zero_le _) c hj
theorem check_l2 (h : FileB N I T C) : ∀ (d i : Nat), C.length - i ≤ d → ∃ r, Ev (fun k => fencepostref04_Check.l2 k (i : Int) N I T b C) r := by
 have last : ∀ i : Nat, ¬ i < C.length → ∃ r, Ev (fun k => fencepostref04_Check.l2 k (i : Int) N I T b C) r := by
  intro i hh
  have e := locs_ev N I T b C h
  by_cases c1 : ((locsF I T C).length : Int) > 4
  ·refine ⟨(-1, -1, 5), Ev.step (fun k => by rw [fencepostref04_Check.l2]) ?_⟩
   simp only [if_neg (show ¬ (i : Int) < (C.length : Int) by omega)]
   refine Ev.bind e ?_
   simp only [if_pos c1]; exact Ev.now _
  ·refine ⟨(0, 0, 0), Ev.step (fun k => by rw [fencepostref04_Check.l2]) ?_⟩
   simp only [if_neg (show ¬ (i : Int) < (C.length : Int) by omega)]
   refine Ev.bind e ?_
   simp only [if_neg c1]; exact Ev.now _
 have hC := h.lc
 intro d
 induction d with
 | zero => intro i hh; exact last i (by omega)
 | succ d ih =>
  intro i hh
  by_cases c : i < C.length
  ·have e : rd_T64 C (i : Int) = C[i] := by unfold rd_T64; rw [Int.toNat_natCast, List.getD_eq_getElem?_getD, List.getElem?_eq_getElem c]; rfl
   have hm : rd_T64 C (i : Int) ∈ C := by rw [e]; exact List.getElem_mem c
   obtain ⟨r, hr⟩ := ih (i + 1) (by omega)
   have hi1 : (((i + 1 : Nat) : Int)) = (i : Int) + 1 := by push_cast; rfl
   rw [hi1] at hr
   have w1 := w64 (show -9223372036854775808 ≤ (i : Int) + 1 by omega) (by omega)
   have s1 : (i : Int) < (C.length : Int) := by omega
   have s2 : (0 : Int) ≤ (i : Int) := by omega
   by_cases c1 : (i : Int) ≥ 6
   ·refine ⟨((T.length : Int), (i : Int), 5), Ev.step (fun k => by rw [fencepostref04_Check.l2]) ?_⟩
    simp only [if_pos s1, if_pos s2, if_pos c1]; exact Ev.now _
   ·obtain ⟨q, hq⟩ := asked_ex (rd_T64 C (i : Int)).f0 (rd_T64 C (i : Int)).f1 (rd_T64 C (i : Int)).f2 (h.sc _ hm)
    cases q with
    | false =>
     refine ⟨((T.length : Int), (i : Int), 1), Ev.step (fun k => by rw [fencepostref04_Check.l2]) ?_⟩
     simp only [if_pos s1, if_pos s2, if_neg c1]
     refine Ev.bind hq ?_
     simp only [Bool.false_eq_true, if_false]; exact Ev.now _
    | true =>
     by_cases c2 : (rd_T64 C (i : Int)).f0 ≥ (T.length : Int)
     ·refine ⟨((T.length : Int), (i : Int), 22), Ev.step (fun k => by rw [fencepostref04_Check.l2]) ?_⟩
      simp only [if_pos s1, if_pos s2, if_neg c1]
      refine Ev.bind hq ?_
      simp only [if_true, if_pos c2]; exact Ev.now _
     ·refine ⟨r, Ev.step (fun k => by rw [fencepostref04_Check.l2]) ?_⟩
      simp only [if_pos s1, if_pos s2, if_neg c1]
      refine Ev.bind hq ?_
      simp only [if_true, if_neg c2, w1]; exact hr
  ·exact last i c
theorem check_l1 (h : FileB N I T C) (t : Nat) (ht : t < T.length) (next : ∃ r, Ev (fun k => fencepostref04_Check.l0 k (wrap64 ((t : Int) + 1)) N I T b C) r) : ∀ (d i : Nat), (rd_T58 T (t : Int)).f0.length - i ≤ d → ∃ r, Ev (fun k => fencepostref04_Check.l1 k (t : Int) (i : Int) N I T b C) r := by
 have s1 : (0 : Int) ≤ (t : Int) := by omega
 have s2 : (t : Int) < (T.length : Int) := by omega
 have hm : rd_T58 T (t : Int) ∈ T := by rw [rdTh' ht]; exact List.getElem_mem ht
 have hl := h.ll _ hm
 have hsl := h.sl _ hm
 obtain ⟨rn, hrn⟩ := next
 generalize hg : (rd_T58 T (t : Int)).f0 = l at hl hsl
 have last : ∀ i : Nat, ¬ i < l.length → ∃ r, Ev (fun k => fencepostref04_Check.l1 k (t : Int) (i : Int) N I T b C) r := by
  intro i hh
  refine ⟨rn, Ev.step (fun k => by rw [fencepostref04_Check.l1]) ?_⟩
  simp only [hg, if_pos s1, if_pos s2, if_neg (show ¬ (i : Int) < (l.length : Int) by omega)]
  exact hrn
 intro d
 induction d with
 | zero => intro i hh; exact last i (by omega)
 | succ d ih =>
  intro i hh
  by_cases c : i < l.length
  ·obtain ⟨r, hr⟩ := ih (i + 1) (by omega)
   have hi1 : (((i + 1 : Nat) : Int)) = (i : Int) + 1 := by push_cast; rfl
   rw [hi1] at hr
   have w1 := w64 (show -9223372036854775808 ≤ (i : Int) + 1 by omega) (by omega)
   obtain ⟨q, hq⟩ := line_ex l (by omega) i c hsl
   by_cases c1 : q = 0
   ·refine ⟨r, Ev.step (fun k => by rw [fencepostref04_Check.l1]) ?_⟩
    simp only [hg, if_pos s1, if_pos s2, if_pos (show (i : Int) < (l.length : Int) by omega)]
    refine Ev.bind hq ?_
    simp only [if_pos c1, w1]; exact hr
   ·refine ⟨((t : Int), (i : Int), q), Ev.step (fun k => by rw [fencepostref04_Check.l1]) ?_⟩
    simp only [hg, if_pos s1, if_pos s2, if_pos (show (i : Int) < (l.length : Int) by omega)]
    refine Ev.bind hq ?_
    simp only [if_neg c1]; exact Ev.now _
  ·exact last i c
theorem check_l0 (h : FileB N I T C) : ∀ (d t : Nat), T.length - t ≤ d → ∃ r, Ev (fun k => fencepostref04_Check.l0 k (t : Int) N I T b C) r := by
 have hT := h.lt
 have last : ∀ t : Nat, ¬ t < T.length → ∃ r, Ev (fun k => fencepostref04_Check.l0 k (t : Int) N I T b C) r := by
  intro t hh
  obtain ⟨r, hr⟩ := check_l2 N I T b C h C.length 0 (by omega)
  refine ⟨r, Ev.step (fun k => by rw [fencepostref04_Check.l0]) ?_⟩
  simp only [if_neg (show ¬ (t : Int) < (T.length : Int) by omega)]
  exact hr
 intro d
 induction d with
 | zero => intro t hh; exact last t (by omega)
 | succ d ih =>
  intro t hh
  by_cases c : t < T.length
  ·have nx := ih (t + 1) (by omega)
   have hi1 : (((t + 1 : Nat) : Int)) = (t : Int) + 1 := by push_cast; rfl
   rw [hi1] at nx
   have w1 := w64 (show -9223372036854775808 ≤ (t : Int) + 1 by omega) (by omega)
   obtain ⟨r, hr⟩ := check_l1 N I T b C h t c (by rw [w1]; exact nx) (rd_T58 T (t : Int)).f0.length 0 (by omega)
   refine ⟨r, Ev.step (fun k => by rw [fencepostref04_Check.l0]) ?_⟩
   simp only [if_pos (show (t : Int) < (T.length : Int) by omega)]
   exact hr
  ·exact last t c
theorem right4_ex (h : FileB N I T C) : ∃ r, Ev (fun k => fencepostref04_Right.f k N I T b C) r ∧ (r = true → ∀ c ∈ I, 1 ≤ c.f0.size) := by
 obtain ⟨q, hq, hn⟩ := head4_ex N I T b C h
 obtain ⟨r, hr⟩ := check_l0 N I T b C h T.length 0 (by omega)
 unfold fencepostref04_Right.f
 by_cases c1 : q = 0
 ·refine ⟨(r.2.2 == 0), Ev.bind (a := r) ?_ (Ev.now _), fun _ => hn c1⟩
  unfold fencepostref04_Check.f
  refine Ev.bind hq ?_
  simp only [if_pos c1]; exact hr
 ·refine ⟨(q == 0), Ev.bind (a := ((-1 : Int), (-1 : Int), q)) ?_ (Ev.now _), fun e => absurd (by simpa using e) c1⟩
  unfold fencepostref04_Check.f
  refine Ev.bind hq ?_
  simp only [if_neg c1]; exact Ev.now _
theorem locs4_ev (h : FileB N I T C) (hr : Ev (fun k => fencepostref04_Right.f k N I T b C) true) : Ev (fun k => fencepostref04_Locs.f k N I T b C) (locsF I T C) := by
 unfold fencepostref04_Locs.f
 refine Ev.bind hr ?_
 simp only [if_true]
 exact Ev.bind (locs_ev N I T b C h) (Ev.now _)
end
end Go.Proofs.Ytijpfonbeepmfaa.Print
