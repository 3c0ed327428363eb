/- What Erase answers: plain Lean. -/
/- Slots, Insert, Fence and Erase are the document's (law SlotsTells): what the printed functions answer. -/
import Derived.Test.YtijpfonbeepmfaaHSlFile
import Derived.Test.YtijpfonbeepmfaaPrint17
import Derived.Test.YtijpfonbeepmfaaHSlProg
import Derived.Test.YtijpfonbeepmfaaHSlRefIns2
import Derived.Test.YtijpfonbeepmfaaHSlRefEra
import Derived.Test.YtijpfonbeepmfaaHHead08
import Derived.Test.YtijpfonbeepmfaaOpens
section
namespace Go.Proofs.Ytijpfonbeepmfaa.Print
open Go.RowKit Go.Proofs.YtijpfonbeepmfaaW.PrintWords Go.Proofs.YtijpfonbeepmfaaW.PrintLast Go.Proofs.YtijpfonbeepmfaaW.PrintMore
set_option linter.unusedVariables false
set_option linter.unusedSimpArgs false
theorem lines_tot {σ : Type} {T : S60 → Int → σ → List S60 × Int × σ} (h : Short T) (l : List S58) : ∀ st, totLn (l.foldl (thrStep T) st).1 ≤ totLn st.1 + 2 * totLn l := by
 induction l with
 | nil => intro st; simp [totLn]
 | cons t r ih =>
  intro st
  have h1 := ih (thrStep T st t)
  have h2 := (thr_short h t.f0 ([], st.2.1, st.2.2)).1
  have e : totLn (thrStep T st t).1 = totLn st.1 + (thrF T t.f0 st.2.1 st.2.2).1.length := by unfold thrStep totLn; simp
  have e2 : totLn (t :: r) = t.f0.length + totLn r := by simp [totLn]
  have e3 : (thrF T t.f0 st.2.1 st.2.2).1.length ≤ 0 + 2 * t.f0.length := h2
  rw [List.foldl_cons]
  omega
theorem erase_cases {I : List S62} {T : List S58} {C : List S64} {g : List Int} (N : ByteArray) (b : Bool) (h : FileOk I T C) (hg : ∀ x ∈ g, (Lit.int .i64 x).wf = true) (hl : g.length ≤ 100) :
 (∃ U, slots_Erase.f N I T b C g = some (N, I, U, b, C, true) ∧ slots_Fence.f N I U b C g = some (N, I, T, b, C)) ∨ slots_Erase.f N I T b C g = some (N, I, T, b, C, false) := by
 have h1 := h.lt
 have h2 := totLn_le T h.ll
 have h3 : totLn (T.foldl (thrStep (eraseTT g)) ([], 0, -1)).1 ≤ 0 + 2 * totLn T := lines_tot (erase_short g) T ([], 0, -1)
 have h4 := (lines_short (erase_short g) T ([], 0, -1)).1
 have e0 : totLn ([] : List S58) = 0 := rfl
 have hU : fileB (linesF (eraseTT g) T (-1)).1 g = true := by
  unfold fileB linesF
  simp only [Bool.and_eq_true, decide_eq_true_eq, List.all_eq_true]
  simp only [List.length_nil] at h4
  exact ⟨by omega, by omega, by omega, hg⟩
 unfold slots_Erase.f
 rw [if_pos (fileB_ok h hg hl).1, if_pos hU]
 by_cases c : (linesF (fenceTT g) (linesF (eraseTT g) T (-1)).1 ()).1 = T
 ·rw [if_pos c]
  refine .inl ⟨_, rfl, ?_⟩
  unfold slots_Fence.f
  rw [if_pos hU, c]
 ·rw [if_neg c]; exact .inr rfl
end Go.Proofs.Ytijpfonbeepmfaa.Print
end
section
namespace Go.Proofs.Ytijpfonbeepmfaa.Print
open Go.RowKit Go.Proofs.YtijpfonbeepmfaaW.PrintWords Go.Proofs.YtijpfonbeepmfaaW.PrintLast Go.Proofs.YtijpfonbeepmfaaW.PrintMore
set_option linter.unusedVariables false
set_option linter.unusedSimpArgs false
/-- What Erase answers is as small as what it was given. -/
theorem erase_some {I : List S62} {T : List S58} {C : List S64} {g : List Int} (N : ByteArray) (b : Bool) (h : FileOk I T C) (hg : ∀ x ∈ g, (Lit.int .i64 x).wf = true) (hl : g.length ≤ 100) :
 ∃ U r, slots_Erase.f N I T b C g = some (N, I, U, b, C, r) ∧ FileOk I U C := by
 rcases erase_cases N b h hg hl with ⟨U, e1, e2⟩ | e1
 ·refine ⟨U, true, e1, ?_⟩
  unfold slots_Fence.f at e2
  split at e2
  ·have e3 : (linesF (fenceTT g) U ()).1 = T := by
    have := Option.some.inj e2
    simp only [Prod.mk.injEq, true_and, and_true] at this
    exact this
   rw [fence_is] at e3
   have e : eraV g T 0 = U := by rw [← e3]; exact eraV_fen g U 0
   obtain ⟨v1, v2, v3⟩ := eraV_len g T 0
   have h1 := h.lt
   have v4 := v3 100 h.ll
   rw [e] at v1 v4
   exact ⟨h.li, by omega, h.lc, v4⟩
  ·exact absurd e2 (by simp)
 ·exact ⟨T, false, e1, h⟩
theorem fenT_long (g : List Int) : ∀ (l : List S58) (n : Int) (m : Nat), (∀ t ∈ l, t.f0.length ≤ m) → ∀ t ∈ fenT g l n, t.f0.length ≤ 2 * m
 | [], n, m, h, t, ht => by simp [fenT] at ht
 | x :: r, n, m, h, t, ht => by
  simp only [fenT, List.mem_cons] at ht
  rcases ht with rfl | ht
  ·have h1 := h x (List.mem_cons_self ..)
   have h2 := fen_len g x.f0 n
   show (fen g x.f0 n).length ≤ _
   omega
  ·exact fenT_long g r _ m (fun y hy => h y (List.mem_cons_of_mem _ hy)) t ht
end Go.Proofs.Ytijpfonbeepmfaa.Print
namespace Go.Proofs.Ytijpfonbeepmfaa.Pure
open Go.Proofs.Ytijpfonbeepmfaa.Print Go.RowKit Go.Proofs.YtijpfonbeepmfaaW.PrintWords Go.Proofs.YtijpfonbeepmfaaW.PrintLast Go.Proofs.YtijpfonbeepmfaaW.PrintMore
set_option linter.unusedVariables false
set_option linter.unusedSimpArgs false
theorem wf_b {x : Int} (h : (Lit.int .i64 x).wf = true) : -9223372036854775808 ≤ x ∧ x ≤ 9223372036854775807 := by
 simp [Lit.wf, IntKind.min, IntKind.max, IntKind.signed, IntKind.bits] at h
 omega
theorem SlotsTells (x0 : S25) (x1 : S30) (x2 : List Int) (x3 : Int) (x4 : Int) (x5 : Int) (g0 : ok25 x0) (g1 : ok30 x1) (g2 : (GoodL (fun x : Int => (Lit.int .i64 x).wf = true)) x2) (g3 : (Lit.int .i64 x3).wf = true) (g4 : (Lit.int .i64 x4).wf = true) (g5 : (Lit.int .i64 x5).wf = true) : ∃ k, fencepostlaw08_SlotsTells.f k x0.f0 x0.f1 x1.f0 x1.f1 x1.f2 x1.f3 x1.f4 x2 x3 x4 x5 = some true := by
 have no : Ev (fun k => fencepostlaw08_SlotsTells.j0 k x2 x3 x4 x5 true true x0.f0 x0.f1 x1.f0 x1.f1 x1.f2 x1.f3 x1.f4) true := by
  refine Ev.step (fun k => by rw [fencepostlaw08_SlotsTells.j0]) ?_
  simp only [if_true]
  exact Ev.now _
 refine Ev.rounds (r := true) ?_
 unfold fencepostlaw08_SlotsTells.f
 simp only [fencepostlaw08_head.f, Option.bind_some]
 obtain ⟨g, hg, hok⟩ := great8_ev x0.f0 x0.f1
 refine Ev.bind hg ?_
 cases g with
 | true => simp only [if_true]; exact no
 | false =>
  simp only [Bool.false_eq_true, if_false]
  have hc := (hok rfl).1
  obtain ⟨g', hg', hok'⟩ := great4_ev x1.f0 x1.f1 x1.f2 x1.f3 x1.f4
  refine Ev.bind hg' ?_
  cases g' with
  | true => simp only [if_true]; exact no
  | false =>
   simp only [Bool.false_eq_true, if_false]
   have hf := hok' rfl
   by_cases c : (x2.length : Int) > 100
   ·simp only [decide_eq_true c]; exact no
   ·simp only [decide_eq_false c]
    have hl : x2.length ≤ 100 := by omega
    have hb := codeB_ok hc
    have hr := rows_of hc
    have hj := jumps_of hc
    have hS := totS_le x0.f1 (fun l hl => (hr l hl).1)
    have hfew := hc.few
    have hlocs := hc.locs
    have hT : tot x0.f1 ≤ 1000000 := by rw [← totS_tot]; omega
    obtain ⟨U, r, eE, hU⟩ := erase_some x1.f0 x1.f3 hf g2.2 hl
    have eR := rera_ev x1.f0 x1.f1 x1.f3 x1.f4 hf g2.2 hl _ eE
    have eF := fence_f x1.f0 x1.f3 hf g2.2 hl
    have hlt := hf.lt
    have htot := totLn_le x1.f2 hf.ll
    have eRF := rfen_ev x1.f0 x1.f1 x1.f3 x1.f4 x1.f2 x2 (by omega) (by omega) (fun x hx => by have := hf.ll x hx; omega) (by omega)
    have hfen := fenT_len x2 x1.f2 0
    have hlong := fenT_long x2 x1.f2 0 100 hf.ll
    have eSF := same4_refl x1.f0 x1.f1 (fenT x2 x1.f2 0) x1.f3 x1.f4 (by have := hf.li; omega) (by have := hf.lc; omega) (by omega) (fun t ht => by have := hlong t ht; omega)
    refine Ev.step (fun k => by rw [fencepostlaw08_SlotsTells.j0]) ?_
    simp only [Bool.false_eq_true, if_false, slots_Of.f, slots_Num.f, slots_Many.f, if_pos hb, Option.bind_some]
    refine Ev.bind (of_ev x0.f0 x0.f1 x3 (wf_b g3) (by omega) hT) ?_
    simp only [eE, Option.bind_some]
    refine Ev.bind eR ?_
    simp only [if_true]
    refine Ev.bind (many_ev x0.f0 x0.f1 (by omega) hT) ?_
    simp only [if_true, beq_self_eq_true]
    refine Ev.bind (num_ev x0.f0 x0.f1 x4 x5 (by omega) hT (fun l hl => (hr l hl).1)) ?_
    simp only [if_true, insert_f hc g2.2 (show x2.length ≤ 1000000 by omega), Option.bind_some]
    refine Ev.bind (rins_ev x0.f0 x0.f1 x2 (by omega) (by omega) (by omega) (fun l hl => (hr l hl).1) hj (by omega)) ?_
    refine Ev.bind (same7_prog hc x2) ?_
    simp only [if_true, eF, Option.bind_some]
    refine Ev.bind eRF ?_
    refine Ev.bind eSF ?_
    simp only [if_true]
    refine Ev.bind (hU.same x1.f0 x1.f3) ?_
    simp only [if_true, beq_self_eq_true]
    exact Ev.now _
end Go.Proofs.Ytijpfonbeepmfaa.Pure
end
