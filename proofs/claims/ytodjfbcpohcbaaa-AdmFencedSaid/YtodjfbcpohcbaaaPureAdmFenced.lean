/- Of a code with a fence in each of its admissible slots no slot is admissible (law AdmFenced): what the printed functions answer. -/
import Derived.Test.YtodjfbcpohcbaaaPrint6
import Derived.Test.YtodjfbcpohcbaaaHInsRef
import Derived.Test.YtodjfbcpohcbaaaHFenced
import Derived.Test.YtodjfbcpohcbaaaHHead19
import Derived.Test.YtodjfbcpohcbaaaOpens
namespace Go.Proofs.Ytodjfbcpohcbaaa.Print
open Go.RowKit Go.Maps Go.Proofs.YtodjfbcpohcbaaaW.PrintWords Go.Proofs.YtodjfbcpohcbaaaW.PrintLast Go.Proofs.YtodjfbcpohcbaaaW.PrintMore
set_option linter.unusedVariables false
set_option linter.unusedSimpArgs false

theorem many_l0 (A : List Int) (B : List (List S49)) (hB : B.length ≤ 1000) (htot : tot B ≤ 1000000) : ∀ (d t : Nat), B.length - t ≤ d → t ≤ B.length → Ev (fun k => fencepostref08_Many.l0 k (tot (B.take t) : Int) (t : Int) A B) (tot B : Int) := by
  intro d
  induction d with
  | zero =>
    intro t h1 h2
    obtain rfl : t = B.length := by omega
    refine Ev.step (fun k => by rw [fencepostref08_Many.l0]) ?_
    simp only [if_neg (show ¬ (B.length : Int) < (B.length : Int) by omega), List.take_length]
    exact Ev.now _
  | succ d ih =>
    intro t h1 h2
    by_cases c : t < B.length
    · have ha := ih (t + 1) (by omega) (by omega)
      have h3 := tot_take_le B (t + 1)
      rw [tot_take_succ B c] at ha h3
      have p1 : (t : Int) < (B.length : Int) := by omega
      have p2 : (0 : Int) ≤ (t : Int) := by omega
      have e1 : wrap64 ((tot (B.take t) : Int) + (B[t].length : Int)) = ((tot (B.take t) + B[t].length : Nat) : Int) := by rw [w64 (by omega) (by omega)]; omega
      have e2 := wcast t (by omega)
      refine Ev.step (fun k => by rw [fencepostref08_Many.l0]) ?_
      simp only [if_pos p1, if_pos p2, rdL2_nat B t c, e1, e2]
      exact ha
    · obtain rfl : t = B.length := by omega
      refine Ev.step (fun k => by rw [fencepostref08_Many.l0]) ?_
      simp only [if_neg (show ¬ (B.length : Int) < (B.length : Int) by omega), List.take_length]
      exact Ev.now _
theorem many_ev (A : List Int) (B : List (List S49)) (hB : B.length ≤ 1000) (htot : tot B ≤ 1000000) : Ev (fun k => fencepostref08_Many.f k A B) (tot B : Int) := by
  unfold fencepostref08_Many.f
  have := many_l0 A B hB htot B.length 0 (by omega) (by omega)
  simpa [tot] using this
/-- None is admissible. -/
theorem none_adm : ∀ (B : List (List S49)) (n : Int), (∀ l ∈ B, ∀ b, b < l.length → admAt l b = false) → admFrom n B = []
  | [], n, _ => rfl
  | l :: ls, n, h => by
    rw [admFrom, none_adm ls _ (fun x hx => h x (List.mem_cons_of_mem _ hx)), List.append_nil]
    unfold admRow
    rw [List.filter_eq_nil_iff.2 (fun b hb => by rw [h l List.mem_cons_self b (by simpa using hb)]; simp)]; rfl
theorem adm_fset (B : List (List S49)) (t : Nat) (ht : t < B.length) (j : Nat) (hj : j < B[t].length) : fset (admFrom 0 B) (0 + (tot (B.take t) : Int)) j = admAt B[t] j := by
  unfold fset
  rw [Bool.eq_iff_iff, decide_eq_true_eq, admFrom_mem]
  constructor
  · rintro ⟨t', j', ht', hj', ha, e⟩
    have e' : tot (B.take t) + j = tot (B.take t') + j' := by omega
    rcases Nat.lt_trichotomy t t' with c | c | c
    · have := tot_take_mono B (show t + 1 ≤ t' by omega)
      rw [tot_take_succ B ht] at this
      omega
    · subst c
      obtain rfl : j = j' := by omega
      exact ha
    · have := tot_take_mono B (show t' + 1 ≤ t by omega)
      rw [tot_take_succ B ht'] at this
      omega
  · intro ha
    exact ⟨t, j, ht, hj, ha, by omega⟩
theorem fenced_ok {m : Nat} (hm : m ≤ 80) {A : List Int} {B : List (List S49)} (hc : CodeOk m A B) : ∀ x ∈ insAll (admFrom 0 B) 0 B, x.length ≤ 160 ∧ fwdB x = true ∧ ∀ b, b < x.length → admAt x b = false := by
  intro x hx
  obtain ⟨t, ht, e⟩ := List.getElem_of_mem hx
  rw [insAll_length] at ht
  have h1 := insAll_get (admFrom 0 B) B 0 t ht
  rw [List.getElem?_eq_getElem (by rw [insAll_length]; exact ht), e] at h1
  obtain rfl := Option.some.inj h1
  have hlm : B[t] ∈ B := List.getElem_mem ht
  have hlen := hc.len _ hlm
  have hR := hc.row _ hlm
  refine ⟨?_, fenced_fwd hR _, fun b hb => fenced_none hR _ (fun i hi => adm_fset B t ht i hi) b hb⟩
  have := insN_le (fset (admFrom 0 B) (0 + (tot (B.take t) : Int))) B[t] B[t].length
  omega
theorem fenced_slots {m : Nat} (hm : m ≤ 80) {A : List Int} {B : List (List S49)} (hc : CodeOk m A B) (A' : List Int) : adm_Slots.f A' (insAll (admFrom 0 B) 0 B) = some [] := by
  have h := fenced_ok hm hc
  have hf := hc.few
  have hl := insAll_length (admFrom 0 B) B 0
  have ht := tot_le 160 (insAll (admFrom 0 B) 0 B) (fun l hl => (h l hl).1)
  have hok : admOk (insAll (admFrom 0 B) 0 B) = true := by
    unfold admOk
    simp only [Bool.and_eq_true, decide_eq_true_eq, List.all_eq_true]
    have ht2 : tot (insAll (admFrom 0 B) 0 B) ≤ 160 * 3 := Nat.le_trans ht (Nat.mul_le_mul_left 160 (by omega))
    exact ⟨by omega, by omega, fun l hl => ⟨by have := (h l hl).1; omega, (h l hl).2.1⟩⟩
  unfold adm_Slots.f
  rw [if_pos hok, keptAll, none_adm _ _ (fun l hl => (h l hl).2.2)]
theorem fenced_l0 (C : List Int) (q : List (List S49)) (hq : q.length ≤ 1000) (hs : adm_Slots.f C q = some []) : ∀ (d t : Nat), q.length - t ≤ d → t ≤ q.length → Ev (fun k => fencepostlaw19_AdmFenced.l0 k true (t : Int) C q) true := by
  have done : Ev (fun k => fencepostlaw19_AdmFenced.l0 k true (q.length : Int) C q) true := by
    refine Ev.step (fun k => by rw [fencepostlaw19_AdmFenced.l0]) ?_
    simp only [if_neg (show ¬ (q.length : Int) < (q.length : Int) by omega), if_true, hs, Option.bind_some]
    exact Ev.now _
  intro d
  induction d with
  | zero =>
    intro t h1 h2
    obtain rfl : t = q.length := by omega
    exact done
  | succ d ih =>
    intro t h1 h2
    by_cases c : t < q.length
    · have ha := ih (t + 1) (by omega) (by omega)
      have p1 : (t : Int) < (q.length : Int) := by omega
      have p2 : (0 : Int) ≤ (t : Int) := by omega
      have e2 := wcast t (by omega)
      refine Ev.step (fun k => by rw [fencepostlaw19_AdmFenced.l0]) ?_
      simp only [if_pos p1, if_pos p2, e2]
      by_cases c4 : ((rd_L2 q (t : Int)).length : Int) > 40
      · simp only [if_pos c4]; exact Ev.now _
      · simp only [if_neg c4]; exact ha
    · obtain rfl : t = q.length := by omega
      exact done
end Go.Proofs.Ytodjfbcpohcbaaa.Print
namespace Go.Proofs.Ytodjfbcpohcbaaa.Pure
open Go.RowKit Go.Maps Go.Proofs.YtodjfbcpohcbaaaW.PrintWords Go.Proofs.YtodjfbcpohcbaaaW.PrintLast Go.Proofs.YtodjfbcpohcbaaaW.PrintMore Go.Proofs.Ytodjfbcpohcbaaa.Print
set_option linter.unusedVariables false
theorem AdmFenced (x0 : S25) (g0 : ok25 x0) : ∃ k, fencepostlaw19_AdmFenced.f k x0.f0 x0.f1 = some true := by
  have no : Ev (fun k => fencepostlaw19_AdmFenced.j0 k true true x0.f0 x0.f1) true := by
    refine Ev.step (fun k => by rw [fencepostlaw19_AdmFenced.j0]) ?_
    simp only [if_true]
    exact Ev.now _
  refine Ev.rounds (r := true) ?_
  unfold fencepostlaw19_AdmFenced.f
  refine Ev.bind head19 ?_
  obtain ⟨g, hg, hok⟩ := great_ev x0.f0 x0.f1
  refine Ev.bind hg ?_
  cases g with
  | true => simp only [if_true]; exact no
  | false =>
    have hc := hok rfl
    have htot := hc.tot
    have hf := hc.few
    have hl := hc.locs
    have hal := admFrom_length x0.f1 0
    have hil := insAll_length (admFrom 0 x0.f1) x0.f1 0
    simp only [Bool.false_eq_true, if_false]
    refine Ev.bind (many_ev x0.f0 x0.f1 (by omega) (by omega)) ?_
    by_cases c : (tot x0.f1 : Int) > 60
    · simp only [decide_eq_true c]; exact no
    · simp only [decide_eq_false c]
      refine Ev.step (fun k => by rw [fencepostlaw19_AdmFenced.j0]) ?_
      simp only [Bool.false_eq_true, if_false, slots_f (by omega) hc x0.f0, Option.bind_some]
      refine Ev.bind (insert_ev (admFrom 0 x0.f1) (by omega) x0.f0 x0.f1 (by omega) (by omega) (by omega) (fun l hl => by have := hc.len l hl; omega) hc.row) ?_
      exact fenced_l0 x0.f0 (insAll (admFrom 0 x0.f1) 0 x0.f1) (by omega) (fenced_slots (by omega) hc x0.f0) (insAll (admFrom 0 x0.f1) 0 x0.f1).length 0 (by omega) (by omega)
end Go.Proofs.Ytodjfbcpohcbaaa.Pure
