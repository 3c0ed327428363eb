/- Files: what Fence and Erase make of one another, Same of one and the same file, Great: plain Lean. -/
import Derived.Test.YtijpfonbeepmfaaOpens
import Derived.Test.YtijpfonbeepmfaaHSlErase
import Derived.Test.YtijpfonbeepmfaaPrint8
import Derived.Test.YtijpfonbeepmfaaPrint6
namespace Go.Proofs.Ytijpfonbeepmfaa.Print
open Go.RowKit Go.Proofs.YtijpfonbeepmfaaW.PrintWords Go.Proofs.YtijpfonbeepmfaaW.PrintLast Go.Proofs.YtijpfonbeepmfaaW.PrintMore
set_option linter.unusedVariables false
set_option linter.unusedSimpArgs false
def fen (g : List Int) : List S60 → Int → List S60
 | [], _ => []
 | x :: r, n => if x.f0 = 11 then x :: fen g r n else fenceT g x n ++ fen g r (n + 1)
def cnt : List S60 → Nat
 | [] => 0
 | x :: r => (if x.f0 = 11 then 0 else 1) + cnt r
theorem fen_fold (g : List Int) : ∀ (l : List S60) (out : List S60) (n : Int), l.foldl (lineStep (fenceTT g)) (out, n, ()) = (out ++ fen g l n, n + cnt l, ())
 | [], out, n => by simp [fen, cnt]
 | x :: r, out, n => by
  rw [List.foldl_cons]
  by_cases c : x.f0 = 11
  ·have e : lineStep (fenceTT g) (out, n, ()) x = (out ++ [x], n, ()) := by unfold lineStep; rw [if_pos c]
   rw [e, fen_fold g r]
   simp only [fen, cnt, if_pos c, List.append_assoc, List.cons_append, List.nil_append, Nat.zero_add]
  ·have e : lineStep (fenceTT g) (out, n, ()) x = (out ++ fenceT g x n, n + 1, ()) := by unfold lineStep; rw [if_neg c]; rfl
   rw [e, fen_fold g r]
   simp only [fen, cnt, if_neg c, List.append_assoc]
   refine Prod.ext rfl (Prod.ext ?_ rfl)
   show n + 1 + (cnt r : Int) = n + ((1 + cnt r : Nat) : Int)
   push_cast; omega
theorem cnt_le : ∀ l : List S60, cnt l ≤ l.length
 | [] => Nat.le_refl _
 | x :: r => by have := cnt_le r; simp only [cnt, List.length_cons]; split <;> omega
theorem fen_len (g : List Int) : ∀ (l : List S60) (n : Int), (fen g l n).length ≤ 2 * l.length
 | [], n => by simp [fen]
 | x :: r, n => by
  have h1 := fen_len g r n
  have h2 := fen_len g r (n + 1)
  simp only [fen, List.length_cons]
  split
  ·simp only [List.length_cons]; omega
  ·unfold fenceT; split <;> simp only [List.length_append, List.length_cons, List.length_nil] <;> omega
def fenT (g : List Int) : List S58 → Int → List S58
 | [], _ => []
 | t :: r, n => ⟨fen g t.f0 n⟩ :: fenT g r (n + cnt t.f0)
def cntT : List S58 → Nat
 | [] => 0
 | t :: r => cnt t.f0 + cntT r
theorem fenT_fold (g : List Int) : ∀ (l : List S58) (ts : List S58) (n : Int), l.foldl (thrStep (fenceTT g)) (ts, n, ()) = (ts ++ fenT g l n, n + cntT l, ())
 | [], ts, n => by simp [fenT, cntT]
 | t :: r, ts, n => by
  have e : thrStep (fenceTT g) (ts, n, ()) t = (ts ++ [⟨fen g t.f0 n⟩], n + cnt t.f0, ()) := by
   unfold thrStep thrF
   simp only [fen_fold g t.f0 [] n, List.nil_append]
  rw [List.foldl_cons, e, fenT_fold g r]
  simp only [fenT, cntT, List.append_assoc, List.cons_append, List.nil_append]
  refine Prod.ext rfl (Prod.ext ?_ rfl)
  show n + (cnt t.f0 : Int) + (cntT r : Int) = n + ((cnt t.f0 + cntT r : Nat) : Int)
  push_cast; omega
theorem fence_is (g : List Int) (T : List S58) : (linesF (fenceTT g) T ()).1 = fenT g T 0 := by unfold linesF; rw [fenT_fold]; rfl
theorem fenT_len (g : List Int) : ∀ (l : List S58) (n : Int), (fenT g l n).length = l.length ∧ totLn (fenT g l n) ≤ 2 * totLn l
 | [], n => by simp [fenT, totLn]
 | t :: r, n => by
  have h1 := fenT_len g r (n + cnt t.f0)
  have h2 := fen_len g t.f0 n
  simp only [fenT, totLn, List.length_cons, List.map_cons, List.sum_cons] at h1 ⊢
  omega
/-- What is not too much. -/
structure FileOk (I : List S62) (T : List S58) (C : List S64) : Prop where
 li : I.length ≤ 60
 lt : T.length ≤ 9
 lc : C.length ≤ 60
 ll : ∀ t ∈ T, t.f0.length ≤ 100
theorem totLn_le : ∀ T : List S58, (∀ t ∈ T, t.f0.length ≤ 100) → totLn T ≤ 100 * T.length
 | [], _ => by simp [totLn]
 | t :: r, h => by
  have h1 := h t (List.mem_cons_self ..)
  have h2 := totLn_le r (fun x hx => h x (List.mem_cons_of_mem _ hx))
  simp only [totLn, List.map_cons, List.sum_cons, List.length_cons] at h2 ⊢
  omega
theorem fileB_ok {I : List S62} {T : List S58} {C : List S64} {g : List Int} (h : FileOk I T C) (hg : ∀ x ∈ g, (Lit.int .i64 x).wf = true) (hl : g.length ≤ 100) : fileB T g = true ∧ fileB (fenT g T 0) g = true := by
 have h1 := h.lt
 have h2 := totLn_le T h.ll
 have h3 := fenT_len g T 0
 unfold fileB
 simp only [Bool.and_eq_true, decide_eq_true_eq, List.all_eq_true]
 exact ⟨⟨by omega, by omega, by omega, hg⟩, by omega, by omega, by omega, hg⟩
theorem fence_f {I : List S62} {T : List S58} {C : List S64} {g : List Int} (N : ByteArray) (b : Bool) (h : FileOk I T C) (hg : ∀ x ∈ g, (Lit.int .i64 x).wf = true) (hl : g.length ≤ 100) : slots_Fence.f N I T b C g = some (N, I, fenT g T 0, b, C) := by
 unfold slots_Fence.f
 rw [if_pos (fileB_ok h hg hl).1, fence_is]
section
variable (N : ByteArray) (I : List S62) (T : List S58) (b : Bool) (C : List S64)
theorem same4_l3 (hC : C.length ≤ 1000000) : ∀ (d i : Nat), C.length - i ≤ d → Ev (fun k => fencepostref04_Same.l3 k (i : Int) N I T b C N I T b C) true := by
 intro d
 induction d with
 | zero =>
  intro i h
  refine Ev.step (fun k => by rw [fencepostref04_Same.l3]) ?_
  simp only [if_neg (show ¬ (i : Int) < (C.length : Int) by omega)]
  exact Ev.now _
 | succ d ih =>
  intro i h
  by_cases c : i < C.length
  ·refine Ev.step (fun k => by rw [fencepostref04_Same.l3]) ?_
   simp only [if_pos (show (i : Int) < (C.length : Int) by omega), if_pos (show (0 : Int) ≤ (i : Int) by omega), beq_self_eq_true, Bool.not_true, Bool.or_self, Bool.false_eq_true, if_false, w64 (show -9223372036854775808 ≤ (i : Int) + 1 by omega) (by omega)]
   exact ih (i + 1) (by omega)
  ·refine Ev.step (fun k => by rw [fencepostref04_Same.l3]) ?_
   simp only [if_neg (show ¬ (i : Int) < (C.length : Int) by omega)]
   exact Ev.now _
theorem same4_l2 (t : Nat) (ht : t < T.length) (hl : (rd_T58 T (t : Int)).f0.length ≤ 1000000) (next : Ev (fun k => fencepostref04_Same.l1 k (wrap64 ((t : Int) + 1)) N I T b C N I T b C) true) : ∀ (d i : Nat), (rd_T58 T (t : Int)).f0.length - i ≤ d → Ev (fun k => fencepostref04_Same.l2 k (t : Int) (i : Int) N I T b C N I T b C) true := by
 have s1 : (0 : Int) ≤ (t : Int) := by omega
 have s2 : (t : Int) < (T.length : Int) := by omega
 intro d
 induction d with
 | zero =>
  intro i h
  refine Ev.step (fun k => by rw [fencepostref04_Same.l2]) ?_
  simp only [if_pos s1, if_pos s2, if_neg (show ¬ (i : Int) < ((rd_T58 T (t : Int)).f0.length : Int) by omega)]
  exact next
 | succ d ih =>
  intro i h
  by_cases c : i < (rd_T58 T (t : Int)).f0.length
  ·refine Ev.step (fun k => by rw [fencepostref04_Same.l2]) ?_
   simp only [if_pos s1, if_pos s2, if_pos (show (i : Int) < ((rd_T58 T (t : Int)).f0.length : Int) by omega), if_pos (show (0 : Int) ≤ (i : Int) by omega), beq_self_eq_true, Bool.not_true, Bool.or_self, Bool.false_eq_true, if_false, w64 (show -9223372036854775808 ≤ (i : Int) + 1 by omega) (by omega)]
   exact ih (i + 1) (by omega)
  ·refine Ev.step (fun k => by rw [fencepostref04_Same.l2]) ?_
   simp only [if_pos s1, if_pos s2, if_neg (show ¬ (i : Int) < ((rd_T58 T (t : Int)).f0.length : Int) by omega)]
   exact next
theorem same4_l1 (hC : C.length ≤ 1000000) (hT : T.length ≤ 1000000) (hl : ∀ t ∈ T, t.f0.length ≤ 1000000) : ∀ (d i : Nat), T.length - i ≤ d → Ev (fun k => fencepostref04_Same.l1 k (i : Int) N I T b C N I T b C) true := by
 intro d
 induction d with
 | zero =>
  intro i h
  refine Ev.step (fun k => by rw [fencepostref04_Same.l1]) ?_
  simp only [if_neg (show ¬ (i : Int) < (T.length : Int) by omega)]
  exact same4_l3 N I T b C hC C.length 0 (by omega)
 | succ d ih =>
  intro i h
  by_cases c : i < T.length
  ·refine Ev.step (fun k => by rw [fencepostref04_Same.l1]) ?_
   simp only [if_pos (show (i : Int) < (T.length : Int) by omega), if_pos (show (0 : Int) ≤ (i : Int) by omega), if_true]
   have e : rd_T58 T (i : Int) = T[i] := by unfold rd_T58; rw [Int.toNat_natCast, List.getD_eq_getElem?_getD, List.getElem?_eq_getElem c]; rfl
   refine same4_l2 N I T b C i c (by rw [e]; exact hl _ (List.getElem_mem c)) ?_ (rd_T58 T (i : Int)).f0.length 0 (by omega)
   rw [w64 (by omega) (by omega)]
   exact ih (i + 1) (by omega)
  ·refine Ev.step (fun k => by rw [fencepostref04_Same.l1]) ?_
   simp only [if_neg (show ¬ (i : Int) < (T.length : Int) by omega)]
   exact same4_l3 N I T b C hC C.length 0 (by omega)
theorem same4_l0 (hI : I.length ≤ 1000000) (hC : C.length ≤ 1000000) (hT : T.length ≤ 1000000) (hl : ∀ t ∈ T, t.f0.length ≤ 1000000) : ∀ (d i : Nat), I.length - i ≤ d → Ev (fun k => fencepostref04_Same.l0 k (i : Int) N I T b C N I T b C) true := by
 intro d
 induction d with
 | zero =>
  intro i h
  refine Ev.step (fun k => by rw [fencepostref04_Same.l0]) ?_
  simp only [if_neg (show ¬ (i : Int) < (I.length : Int) by omega)]
  exact same4_l1 N I T b C hC hT hl T.length 0 (by omega)
 | succ d ih =>
  intro i h
  by_cases c : i < I.length
  ·refine Ev.step (fun k => by rw [fencepostref04_Same.l0]) ?_
   simp only [if_pos (show (i : Int) < (I.length : Int) by omega), if_pos (show (0 : Int) ≤ (i : Int) by omega), beq_self_eq_true, Bool.not_true, Bool.or_self, Bool.false_eq_true, if_false, w64 (show -9223372036854775808 ≤ (i : Int) + 1 by omega) (by omega)]
   exact ih (i + 1) (by omega)
  ·refine Ev.step (fun k => by rw [fencepostref04_Same.l0]) ?_
   simp only [if_neg (show ¬ (i : Int) < (I.length : Int) by omega)]
   exact same4_l1 N I T b C hC hT hl T.length 0 (by omega)
theorem same4_refl (hI : I.length ≤ 1000000) (hC : C.length ≤ 1000000) (hT : T.length ≤ 1000000) (hl : ∀ t ∈ T, t.f0.length ≤ 1000000) : Ev (fun k => fencepostref04_Same.f k N I T b C N I T b C) true := by
 unfold fencepostref04_Same.f
 simp only [if_true, bne_self_eq_false, Bool.false_eq_true, if_false]
 refine Ev.step (fun k => by rw [fencepostref04_Same.j0]) ?_
 simp only [Bool.false_eq_true, if_false]
 exact same4_l0 N I T b C hI hC hT hl I.length 0 (by omega)
end
theorem FileOk.same {I : List S62} {T : List S58} {C : List S64} (h : FileOk I T C) (N : ByteArray) (b : Bool) : Ev (fun k => fencepostref04_Same.f k N I T b C N I T b C) true :=
 same4_refl N I T b C (by have := h.li; omega) (by have := h.lc; omega) (by have := h.lt; omega) (fun t ht => by have := h.ll t ht; omega)
section
variable (N : ByteArray) (I : List S62) (T : List S58) (b : Bool) (C : List S64)
theorem great4_l3 (t : Nat) (ht : t < T.length) (hl : (rd_T58 T (t : Int)).f0.length ≤ 1000000) (q : Bool) (next : Ev (fun k => fencepostlaw04_Great.l2 k (wrap64 ((t : Int) + 1)) N I T b C) q) : ∀ (d i : Nat), (rd_T58 T (t : Int)).f0.length - i ≤ d → ∃ r, Ev (fun k => fencepostlaw04_Great.l3 k (t : Int) (i : Int) N I T b C) r ∧ (r = false → q = false) := by
 have s1 : (0 : Int) ≤ (t : Int) := by omega
 have s2 : (t : Int) < (T.length : Int) := by omega
 have last : ∀ i : Nat, ¬ i < (rd_T58 T (t : Int)).f0.length → ∃ r, Ev (fun k => fencepostlaw04_Great.l3 k (t : Int) (i : Int) N I T b C) r ∧ (r = false → q = false) := by
  intro i h
  refine ⟨q, ?_, id⟩
  refine Ev.step (fun k => by rw [fencepostlaw04_Great.l3]) ?_
  simp only [if_pos s1, if_pos s2, if_neg (show ¬ (i : Int) < ((rd_T58 T (t : Int)).f0.length : Int) by omega)]
  exact next
 intro d
 induction d with
 | zero => intro i h; exact last i (by omega)
 | succ d ih =>
  intro i h
  by_cases c : i < (rd_T58 T (t : Int)).f0.length
  ·obtain ⟨r, hr, hq⟩ := ih (i + 1) (by omega)
   have hG : ∀ x : S60, ∃ r, fencepostlaw03_GreatLine.f x.f0 x.f1 x.f2 x.f3 x.f4 = some r := fun x => by
    unfold fencepostlaw03_GreatLine.f
    repeat' split
    all_goals exact ⟨_, rfl⟩
   obtain ⟨gl, hgl⟩ := hG (rd_T60 (rd_T58 T (t : Int)).f0 (i : Int))
   cases gl with
   | true =>
    refine ⟨true, ?_, fun e => by simp at e⟩
    refine Ev.step (fun k => by rw [fencepostlaw04_Great.l3]) ?_
    simp only [if_pos s1, if_pos s2, if_pos (show (i : Int) < ((rd_T58 T (t : Int)).f0.length : Int) by omega), if_pos (show (0 : Int) ≤ (i : Int) by omega), hgl, Option.bind_some, if_true]
    exact Ev.now _
   | false =>
    refine ⟨r, ?_, hq⟩
    refine Ev.step (fun k => by rw [fencepostlaw04_Great.l3]) ?_
    simp only [if_pos s1, if_pos s2, if_pos (show (i : Int) < ((rd_T58 T (t : Int)).f0.length : Int) by omega), if_pos (show (0 : Int) ≤ (i : Int) by omega), hgl, Option.bind_some, Bool.false_eq_true, if_false, w64 (show -9223372036854775808 ≤ (i : Int) + 1 by omega) (by omega)]
    exact hr
  ·exact last i c
theorem great4_l2 (hT : T.length ≤ 1000) : ∀ (d i : Nat), T.length - i ≤ d → ∃ r, Ev (fun k => fencepostlaw04_Great.l2 k (i : Int) N I T b C) r ∧ (r = false → ∀ j, i ≤ j → ∀ t, T[j]? = some t → t.f0.length ≤ 100) := by
 have last : ∀ i : Nat, ¬ i < T.length → ∃ r, Ev (fun k => fencepostlaw04_Great.l2 k (i : Int) N I T b C) r ∧ (r = false → ∀ j, i ≤ j → ∀ t, T[j]? = some t → t.f0.length ≤ 100) := by
  intro i h
  refine ⟨false, ?_, fun _ j hj t ht => by have := (List.getElem?_eq_some_iff.1 ht).1; omega⟩
  refine Ev.step (fun k => by rw [fencepostlaw04_Great.l2]) ?_
  simp only [if_neg (show ¬ (i : Int) < (T.length : Int) by omega)]
  exact Ev.now _
 intro d
 induction d with
 | zero => intro i h; exact last i (by omega)
 | succ d ih =>
  intro i h
  by_cases c : i < T.length
  ·have e : rd_T58 T (i : Int) = T[i] := by unfold rd_T58; rw [Int.toNat_natCast, List.getD_eq_getElem?_getD, List.getElem?_eq_getElem c]; rfl
   by_cases c1 : ((rd_T58 T (i : Int)).f0.length : Int) > 100
   ·refine ⟨true, ?_, fun e => by simp at e⟩
    refine Ev.step (fun k => by rw [fencepostlaw04_Great.l2]) ?_
    simp only [if_pos (show (i : Int) < (T.length : Int) by omega), if_pos (show (0 : Int) ≤ (i : Int) by omega), if_pos c1]
    exact Ev.now _
   ·obtain ⟨q, hq, hg⟩ := ih (i + 1) (by omega)
    obtain ⟨r, hr, hrq⟩ := great4_l3 N I T b C i c (by omega) q (by rw [w64 (by omega) (by omega)]; exact hq) (rd_T58 T (i : Int)).f0.length 0 (by omega)
    refine ⟨r, ?_, fun er j hj t ht => ?_⟩
    ·refine Ev.step (fun k => by rw [fencepostlaw04_Great.l2]) ?_
     simp only [if_pos (show (i : Int) < (T.length : Int) by omega), if_pos (show (0 : Int) ≤ (i : Int) by omega), if_neg c1]
     exact hr
    ·by_cases e2 : j = i
     ·subst e2
      rw [List.getElem?_eq_getElem c] at ht
      obtain rfl := Option.some.inj ht
      rw [e] at c1; omega
     ·exact hg (hrq er) j (by omega) t ht
  ·exact last i c
theorem great4_l1 (hC : C.length ≤ 1000) (q : Bool) (next : Ev (fun k => fencepostlaw04_Great.l2 k 0 N I T b C) q) : ∀ (d i : Nat), C.length - i ≤ d → ∃ r, Ev (fun k => fencepostlaw04_Great.l1 k (i : Int) N I T b C) r ∧ (r = false → q = false) := by
 have last : ∀ i : Nat, ¬ i < C.length → ∃ r, Ev (fun k => fencepostlaw04_Great.l1 k (i : Int) N I T b C) r ∧ (r = false → q = false) := by
  intro i h
  refine ⟨q, ?_, id⟩
  refine Ev.step (fun k => by rw [fencepostlaw04_Great.l1]) ?_
  simp only [if_neg (show ¬ (i : Int) < (C.length : Int) by omega)]
  exact next
 intro d
 induction d with
 | zero => intro i h; exact last i (by omega)
 | succ d ih =>
  intro i h
  by_cases c : i < C.length
  ·by_cases c1 : ((rd_T64 C (i : Int)).f1.size : Int) > 100
   ·refine ⟨true, ?_, fun e => by simp at e⟩
    refine Ev.step (fun k => by rw [fencepostlaw04_Great.l1]) ?_
    simp only [if_pos (show (i : Int) < (C.length : Int) by omega), if_pos (show (0 : Int) ≤ (i : Int) by omega), if_pos c1]
    exact Ev.now _
   ·obtain ⟨r, hr, hg⟩ := ih (i + 1) (by omega)
    refine ⟨r, ?_, hg⟩
    refine Ev.step (fun k => by rw [fencepostlaw04_Great.l1]) ?_
    simp only [if_pos (show (i : Int) < (C.length : Int) by omega), if_pos (show (0 : Int) ≤ (i : Int) by omega), if_neg c1, w64 (show -9223372036854775808 ≤ (i : Int) + 1 by omega) (by omega)]
    exact hr
  ·exact last i c
theorem great4_l0 (hI : I.length ≤ 1000) (q : Bool) (next : Ev (fun k => fencepostlaw04_Great.l1 k 0 N I T b C) q) : ∀ (d i : Nat), I.length - i ≤ d → ∃ r, Ev (fun k => fencepostlaw04_Great.l0 k (i : Int) N I T b C) r ∧ (r = false → q = false) := by
 have last : ∀ i : Nat, ¬ i < I.length → ∃ r, Ev (fun k => fencepostlaw04_Great.l0 k (i : Int) N I T b C) r ∧ (r = false → q = false) := by
  intro i h
  refine ⟨q, ?_, id⟩
  refine Ev.step (fun k => by rw [fencepostlaw04_Great.l0]) ?_
  simp only [if_neg (show ¬ (i : Int) < (I.length : Int) by omega)]
  exact next
 intro d
 induction d with
 | zero => intro i h; exact last i (by omega)
 | succ d ih =>
  intro i h
  by_cases c : i < I.length
  ·by_cases c1 : ((rd_T62 I (i : Int)).f0.size : Int) > 100
   ·refine ⟨true, ?_, fun e => by simp at e⟩
    refine Ev.step (fun k => by rw [fencepostlaw04_Great.l0]) ?_
    simp only [if_pos (show (i : Int) < (I.length : Int) by omega), if_pos (show (0 : Int) ≤ (i : Int) by omega), if_pos c1]
    exact Ev.now _
   ·obtain ⟨r, hr, hg⟩ := ih (i + 1) (by omega)
    refine ⟨r, ?_, hg⟩
    refine Ev.step (fun k => by rw [fencepostlaw04_Great.l0]) ?_
    simp only [if_pos (show (i : Int) < (I.length : Int) by omega), if_pos (show (0 : Int) ≤ (i : Int) by omega), if_neg c1, w64 (show -9223372036854775808 ≤ (i : Int) + 1 by omega) (by omega)]
    exact hr
  ·exact last i c
theorem great4_ev : ∃ r, Ev (fun k => fencepostlaw04_Great.f k N I T b C) r ∧ (r = false → FileOk I T C) := by
 have no : Ev (fun k => fencepostlaw04_Great.j0 k true N I T b C) true := by
  refine Ev.step (fun k => by rw [fencepostlaw04_Great.j0]) ?_
  simp only [if_true]
  exact Ev.now _
 unfold fencepostlaw04_Great.f
 by_cases c1 : (T.length : Int) > 9
 ·simp only [if_pos c1]; exact ⟨true, no, fun e => by simp at e⟩
 simp only [if_neg c1]
 by_cases c2 : (I.length : Int) > 60
 ·simp only [if_pos c2]; exact ⟨true, no, fun e => by simp at e⟩
 simp only [if_neg c2]
 by_cases c3 : (C.length : Int) > 60
 ·simp only [if_pos c3]; exact ⟨true, no, fun e => by simp at e⟩
 simp only [if_neg c3]
 by_cases c4 : (N.size : Int) > 1000
 ·simp only [decide_eq_true c4]; exact ⟨true, no, fun e => by simp at e⟩
 simp only [decide_eq_false c4]
 obtain ⟨q2, e2, g2⟩ := great4_l2 N I T b C (by omega) T.length 0 (by omega)
 obtain ⟨q1, e1, g1⟩ := great4_l1 N I T b C (by omega) q2 e2 C.length 0 (by omega)
 obtain ⟨q0, e0, g0⟩ := great4_l0 N I T b C (by omega) q1 e1 I.length 0 (by omega)
 refine ⟨q0, ?_, fun e => ⟨by omega, by omega, by omega, fun t ht => ?_⟩⟩
 ·refine Ev.step (fun k => by rw [fencepostlaw04_Great.j0]) ?_
  simp only [Bool.false_eq_true, if_false]
  exact e0
 ·obtain ⟨j, hj⟩ := List.getElem?_of_mem ht
  exact g2 (g1 (g0 e)) j (Nat.zero_le _) t hj
end
end Go.Proofs.Ytijpfonbeepmfaa.Print
