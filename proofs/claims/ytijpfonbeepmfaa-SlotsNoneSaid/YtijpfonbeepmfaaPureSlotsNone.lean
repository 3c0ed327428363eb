/- Insert where nothing is to be put in, and where the numbers are turned and doubled (law SlotsNone): what the printed functions answer. -/
import Derived.Test.YtijpfonbeepmfaaPrint32
import Derived.Test.YtijpfonbeepmfaaHSlProg
import Derived.Test.YtijpfonbeepmfaaHSlOf
import Derived.Test.YtijpfonbeepmfaaHHead08
import Derived.Test.YtijpfonbeepmfaaOpens
namespace Go.Proofs.Ytijpfonbeepmfaa.Print
open Go.RowKit Go.Proofs.YtijpfonbeepmfaaW.PrintWords Go.Proofs.YtijpfonbeepmfaaW.PrintLast Go.Proofs.YtijpfonbeepmfaaW.PrintMore
set_option linter.unusedVariables false
set_option linter.unusedSimpArgs false
theorem prog_rows (g : List Int) : ∀ (B : List (List S53)) (st : List (List S53) × Int), (∀ l ∈ st.1, l.length ≤ 1000) → (∀ l ∈ B, l.length ≤ 80) → ∀ l ∈ (B.foldl (progStep g) st).1, l.length ≤ 1000
  | [], st, h, hB => h
  | x :: r, st, h, hB => by
    rw [List.foldl_cons]
    refine prog_rows g r _ (fun l hl => ?_) (fun l hl => hB l (List.mem_cons_of_mem _ hl))
    have e : (progStep g st x).1 = st.1 ++ [thF g x st.2] := rfl
    rw [e, List.mem_append, List.mem_singleton] at hl
    rcases hl with hl | rfl
    · exact h l hl
    · have h1 := (ins_len g x ([], [], st.2)).1
      have h2 := hB x (List.mem_cons_self ..)
      unfold thF insF
      rw [List.length_map]
      simp only [List.length_nil] at h1
      omega
theorem totS_tot : ∀ B : List (List S53), totS B = tot B
  | [] => rfl
  | l :: r => by
    have := totS_tot r
    simp only [totS, tot, List.map_cons, List.sum_cons] at this ⊢
    omega
theorem rows_of {A : List Int} {B : List (List S53)} (h : CodeOk 80 A B) : ∀ l ∈ B, l.length ≤ 80 ∧ RowOk A.length l := fun l hl => by
  obtain ⟨i, hi⟩ := List.getElem?_of_mem hl
  have hlt := (List.getElem?_eq_some_iff.1 hi).1
  have := h.rows (i : Int) (by omega) (by omega)
  have e : rd_L3 B (i : Int) = l := by unfold rd_L3; rw [Int.toNat_natCast, List.getD_eq_getElem?_getD, hi]; rfl
  rwa [e] at this
theorem jumps_of {A : List Int} {B : List (List S53)} (h : CodeOk 80 A B) : ∀ l ∈ B, ∀ s ∈ l, 8 ≤ s.f0 → 0 ≤ s.f4 ∧ s.f4 ≤ (l.length : Int) := fun l hl s hs h8 => by
  obtain ⟨j, hj⟩ := List.getElem?_of_mem hs
  have hlt := (List.getElem?_eq_some_iff.1 hj).1
  have hr := (rows_of h l hl).2 (j : Int) (by omega) (by omega)
  have e : rd_T53 l (j : Int) = s := by unfold rd_T53; rw [Int.toNat_natCast, List.getD_eq_getElem?_getD, hj]; rfl
  rw [e] at hr
  have ht := hr.tgt h8
  omega
theorem totS_le : ∀ B : List (List S53), (∀ l ∈ B, l.length ≤ 80) → totS B ≤ 80 * B.length
  | [], _ => by simp [totS]
  | l :: ls, h => by
    have h1 := h l (List.mem_cons_self ..)
    have h2 := totS_le ls (fun x hx => h x (List.mem_cons_of_mem _ hx))
    simp only [totS, List.map_cons, List.sum_cons, List.length_cons] at h2 ⊢
    omega
theorem insert_f {A : List Int} {B : List (List S53)} {g : List Int} (h : CodeOk 80 A B) (hg : ∀ x ∈ g, (Lit.int .i64 x).wf = true) (hl : g.length ≤ 1000000) : slots_Insert.f A B g = some (A, (progF g B).1) := by
  have h1 := h.locs
  have h2 := h.few
  have h3 := totS_le B (fun l hl => (rows_of h l hl).1)
  have hb : insB A B g = true := by
    unfold insB
    simp only [Bool.and_eq_true, decide_eq_true_eq, List.all_eq_true, Bool.or_eq_true, Bool.not_eq_true', decide_eq_false_iff_not]
    refine ⟨by omega, by omega, by omega, hl, fun l hl s hs => ?_, hg⟩
    by_cases c : 8 ≤ s.f0
    · exact .inr (jumps_of h l hl s hs c)
    · exact .inl c
  unfold slots_Insert.f
  rw [if_pos hb]
theorem prog_id {A : List Int} {B : List (List S53)} {g : List Int} (h : CodeOk 80 A B) (hn : ∀ x ∈ g, x < 0 ∨ (tot B : Int) ≤ x) : (progF g B).1 = B := by
  unfold progF
  rw [prog_none g B [] 0 (fun m h1 h2 hm => by have := hn m hm; rw [totS_tot] at h2; omega) (jumps_of h)]
  rfl
theorem same7_ok {A : List Int} {B : List (List S53)} (h : CodeOk 80 A B) : Ev (fun k => fencepostref07_Same.f k A B A B) true :=
  same7_refl A B (by have := h.locs; omega) (by have := h.few; omega) (fun l hl => by have := (rows_of h l hl).1; omega)
theorem same7_prog {A : List Int} {B : List (List S53)} (h : CodeOk 80 A B) (g : List Int) : Ev (fun k => fencepostref07_Same.f k A (progF g B).1 A (progF g B).1) true :=
  same7_refl A _ (by have := h.locs; omega) (by have := h.few; have := (prog_len g B ([], 0)).1; unfold progF; simp only [List.length_nil] at this; omega) (fun l hl => by have := prog_rows g B ([], 0) (by simp) (fun l hl => (rows_of h l hl).1) l hl; omega)
theorem none_l0 {A : List Int} {B : List (List S53)} {g : List Int} (h : CodeOk 80 A B) (hg : ∀ x ∈ g, (Lit.int .i64 x).wf = true) (hl : g.length ≤ 100) : ∀ (n : Nat) (out back : List Int), n ≤ g.length → (∀ x ∈ out, (x < 0 ∨ (tot B : Int) ≤ x) ∧ (Lit.int .i64 x).wf = true) → out.length + n ≤ g.length → back.length + 2 * n ≤ 2 * g.length → (∀ x, x ∈ back ↔ x ∈ g.drop n) → Ev (fun k => fencepostlaw08_SlotsNone.l0 k g true (tot B : Int) out back ((n : Int) - 1) A B) true := by
  intro n
  induction n with
  | zero =>
    intro out back h1 h2 h3 h4 h5
    have hback : ∀ x, x ∈ back ↔ x ∈ g := fun x => by rw [h5 x, List.drop_zero]
    refine Ev.step (fun k => by rw [fencepostlaw08_SlotsNone.l0]) ?_
    have e1 := insert_f h (g := out) (fun x hx => (h2 x hx).2) (by omega)
    have e2 := insert_f h (g := []) (by simp) (by simp)
    have e3 := insert_f h (g := back) (fun x hx => hg x ((hback x).1 hx)) (by omega)
    have e4 := insert_f h (g := g) hg (by omega)
    have ep : (progF back B) = progF g B := prog_congr back g B ([], 0) (fun m _ _ => hback m)
    rw [prog_id h (fun x hx => (h2 x hx).1)] at e1
    rw [prog_id h (g := []) (by simp)] at e2
    rw [ep] at e3
    simp only [if_neg (show ¬ (((0 : Nat) : Int) - 1 ≥ 0) by omega), if_true, e1, e2, e3, e4, Option.bind_some]
    refine Ev.bind (same7_ok h) ?_
    simp only [if_true]
    refine Ev.bind (same7_ok h) ?_
    simp only [if_true]
    exact Ev.bind (same7_prog h g) (Ev.now _)
  | succ n ih =>
    intro out back h1 h2 h3 h4 h5
    have hi : (((n + 1 : Nat) : Int) - 1) = (n : Int) := by push_cast; omega
    have hlt : n < g.length := by omega
    have hrd : rd g (n : Int) = g[n] := by unfold rd; rw [Int.toNat_natCast, List.getD_eq_getElem?_getD, List.getElem?_eq_getElem hlt]; rfl
    have hmem : rd g (n : Int) ∈ g := by rw [hrd]; exact List.getElem_mem hlt
    have hw : wrap64 ((n : Int) - 1) = (n : Int) - 1 := w64 (by omega) (by omega)
    have hb' : ∀ x, x ∈ back ++ [rd g (n : Int), rd g (n : Int)] ↔ x ∈ g.drop n := fun x => by
      rw [List.drop_eq_getElem_cons hlt, List.mem_append, List.mem_cons, h5 x, hrd]
      simp only [List.mem_cons, List.not_mem_nil, or_false, or_self]
      exact ⟨fun hh => hh.symm, fun hh => hh.symm⟩
    have hl2 : ([rd g (n : Int), rd g (n : Int)] : List Int).length = 2 := rfl
    rw [hi]
    refine Ev.step (fun k => by rw [fencepostlaw08_SlotsNone.l0]) ?_
    simp only [if_pos (show (n : Int) ≥ 0 by omega), if_pos (show (0 : Int) ≤ (n : Int) by omega), if_pos (show (n : Int) < (g.length : Int) by omega), Option.bind_some, hl2, if_pos (show out.length < 17592186044416 by omega), if_pos (show back.length + 2 < 17592186044416 by omega), hw]
    have next : ∀ o : List Int, (∀ x ∈ o, (x < 0 ∨ (tot B : Int) ≤ x) ∧ (Lit.int .i64 x).wf = true) → o.length + n ≤ g.length → Ev (fun k => fencepostlaw08_SlotsNone.l0 k g true (tot B : Int) o (back ++ [rd g (n : Int), rd g (n : Int)]) ((n : Int) - 1) A B) true := fun o ho hol =>
      ih o _ (by omega) ho hol (by rw [List.length_append, hl2]; omega) hb'
    have hout : (rd g (n : Int) < 0 ∨ (tot B : Int) ≤ rd g (n : Int)) → ∀ x ∈ out ++ [rd g (n : Int)], (x < 0 ∨ (tot B : Int) ≤ x) ∧ (Lit.int .i64 x).wf = true := fun hh x hx => by
      rw [List.mem_append, List.mem_singleton] at hx
      rcases hx with hx | rfl
      · exact h2 x hx
      · exact ⟨hh, hg _ hmem⟩
    by_cases c1 : rd g (n : Int) < 0
    · simp only [if_pos c1]
      exact next _ (hout (.inl c1)) (by simp only [List.length_append, List.length_cons, List.length_nil]; omega)
    · by_cases c2 : rd g (n : Int) ≥ (tot B : Int)
      · simp only [if_neg c1, if_pos c2]
        exact next _ (hout (.inr c2)) (by simp only [List.length_append, List.length_cons, List.length_nil]; omega)
      · simp only [if_neg c1, if_neg c2]
        exact next _ h2 (by omega)
end Go.Proofs.Ytijpfonbeepmfaa.Print
namespace Go.Proofs.Ytijpfonbeepmfaa.Pure
open Go.Proofs.Ytijpfonbeepmfaa.Print Go.RowKit Go.Proofs.YtijpfonbeepmfaaW.PrintWords Go.Proofs.YtijpfonbeepmfaaW.PrintLast Go.Proofs.YtijpfonbeepmfaaW.PrintMore
set_option linter.unusedVariables false
set_option linter.unusedSimpArgs false
theorem SlotsNone (x0 : S25) (x1 : List Int) (g0 : ok25 x0) (g1 : (GoodL (fun x : Int => (Lit.int .i64 x).wf = true)) x1) : ∃ k, fencepostlaw08_SlotsNone.f k x0.f0 x0.f1 x1 = some true := by
  have no : Ev (fun k => fencepostlaw08_SlotsNone.j0 k x1 true true x0.f0 x0.f1) true := by
    refine Ev.step (fun k => by rw [fencepostlaw08_SlotsNone.j0]) ?_
    simp only [if_true]
    exact Ev.now _
  refine Ev.rounds (r := true) ?_
  unfold fencepostlaw08_SlotsNone.f
  simp only [fencepostlaw08_head.f, Option.bind_some]
  obtain ⟨g, hg, hok⟩ := great8_ev x0.f0 x0.f1
  refine Ev.bind hg ?_
  cases g with
  | true => simp only [if_true]; exact no
  | false =>
    simp only [Bool.false_eq_true, if_false]
    have hc := (hok rfl).1
    by_cases c : (x1.length : Int) > 100
    · simp only [decide_eq_true c]; exact no
    · simp only [decide_eq_false c]
      refine Ev.step (fun k => by rw [fencepostlaw08_SlotsNone.j0]) ?_
      have hb : codeB x0.f1 = true := by
        have h1 := hc.few
        have h2 := totS_le x0.f1 (fun l hl => (rows_of hc l hl).1)
        rw [totS_tot] at h2
        unfold codeB
        simp only [Bool.and_eq_true, decide_eq_true_eq]
        omega
      simp only [Bool.false_eq_true, if_false, slots_Many.f, if_pos hb, Option.bind_some, w64 (show -9223372036854775808 ≤ (x1.length : Int) - 1 by omega) (by omega)]
      exact none_l0 hc g1.2 (by omega) x1.length [] [] (Nat.le_refl _) (by simp) (by simp) (by simp) (by simp)
end Go.Proofs.Ytijpfonbeepmfaa.Pure
