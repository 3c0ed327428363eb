/- Whoever is picked, all threads end (law ScEnds): what the printed functions answer. -/
import Derived.Test.YtdliojcpnkggnaaPrint6
import Derived.Test.YtdliojcpnkggnaaHScSt
import Derived.Test.YtdliojcpnkggnaaHHead10
import Derived.Test.YtdliojcpnkggnaaOpens
namespace Go.Proofs.Ytdliojcpnkggnaa.Print
open Go.RowKit Go.Proofs.YtdliojcpnkggnaaW.PrintWords Go.Proofs.YtdliojcpnkggnaaW.PrintLast Go.Proofs.YtdliojcpnkggnaaW.PrintMore
set_option linter.unusedVariables false
set_option linter.unusedSimpArgs false

/-- The steps that are left. -/
def restL : List (List S39) → List S45 → Int
  | l :: ls, x :: xs => ((l.length : Int) - x.f0) + restL ls xs
  | _, _ => 0
def totL : List (List S39) → Nat
  | [] => 0
  | l :: ls => l.length + totL ls
theorem totL_le (m : Nat) : ∀ B : List (List S39), (∀ l ∈ B, l.length ≤ m) → totL B ≤ m * B.length
  | [], _ => by simp [totL]
  | l :: ls, h => by
    have h1 := totL_le m ls (fun x hx => h x (List.mem_cons_of_mem _ hx))
    have h2 := h l List.mem_cons_self
    simp only [totL, List.length_cons, Nat.mul_add, Nat.mul_one]; omega
theorem rest_nonneg : ∀ (B : List (List S39)) (ths : List S45), (∀ (t : Nat) x, ths[t]? = some x → ∀ l, B[t]? = some l → x.f0 ≤ (l.length : Int)) → 0 ≤ restL B ths
  | [], ths, _ => by cases ths <;> simp [restL]
  | l :: ls, [], _ => by simp [restL]
  | l :: ls, x :: xs, h => by
    have h1 := rest_nonneg ls xs (fun t y hy l' hl' => h (t + 1) y (by simpa using hy) l' (by simpa using hl'))
    have h2 := h 0 x rfl l rfl
    simp only [restL]; omega
theorem rest_set : ∀ (B : List (List S39)) (ths : List S45) (t : Nat) (x y : S45), ths[t]? = some x → t < B.length → restL B (ths.set t y) = restL B ths - (y.f0 - x.f0)
  | [], ths, t, x, y, _, h => by simp at h
  | l :: ls, [], t, x, y, h, _ => by simp at h
  | l :: ls, z :: zs, 0, x, y, h, _ => by
    obtain rfl := Option.some.inj h
    simp only [List.set_cons_zero, restL]; omega
  | l :: ls, z :: zs, t + 1, x, y, h, hl => by
    have := rest_set ls zs t x y (by simpa using h) (by simpa using hl)
    simp only [List.set_cons_succ, restL]; omega
theorem rest_begin : ∀ (B : List (List S39)), restL B (List.replicate B.length th0) = (totL B : Int)
  | [] => rfl
  | l :: ls => by
    have := rest_begin ls
    simp only [List.length_cons, List.replicate_succ, restL, totL, this]
    show (l.length : Int) - 0 + (totL ls : Int) = _
    omega
theorem begin_ok (A : List Int) (B : List (List S39)) : StOk A B A (List.replicate B.length th0) := by
  refine ⟨rfl, by simp, fun t x hx => ?_⟩
  rw [List.getElem?_replicate] at hx
  split at hx
  · obtain rfl := Option.some.inj hx
    exact ⟨by decide, by show (0 : Int) ≤ _; omega, rfl, by decide, fun w hw => by simp [th0] at hw⟩
  · simp at hx
section
variable {A : List Int} {B : List (List S39)} {picks : List Int}
theorem StOk.rest {mem : List Int} {ths : List S45} (h : StOk A B mem ths) : 0 ≤ restL B ths := rest_nonneg B ths (fun t x hx l hl => by have := (h.th t x hx).hi; rw [rdL_nat hl] at this; exact this)
theorem ends_l2 (hc : CodeOk 80 A B) (many i first R : Int) (IH : ∀ mem ths, StOk A B mem ths → restL B ths + 1 ≤ R → Ev (fun k => fencepostlaw10_ScEnds.l1 k picks true many (wrap64 (i + 1)) A B mem ths) true) :
    ∀ (d t : Nat) (mem : List Int) (ths : List S45) (moved : Bool), B.length - t ≤ d → t ≤ B.length → StOk A B mem ths → (moved = false → restL B ths ≤ R) → (moved = true → restL B ths + 1 ≤ R) → Ev (fun k => fencepostlaw10_ScEnds.l2 k picks true many i first moved (t : Int) A B mem ths) true := by
  have hf := hc.few
  have last : ∀ (t : Nat) (mem : List Int) (ths : List S45) (moved : Bool), StOk A B mem ths → (moved = true → restL B ths + 1 ≤ R) → Ev (fun k => fencepostlaw10_ScEnds.j5 k picks true many i first moved (t : Int) false A B mem ths) true := by
    intro t mem ths moved h h1
    refine Ev.step (fun k => by rw [fencepostlaw10_ScEnds.j5]) ?_
    simp only [Bool.false_eq_true, if_false]
    cases moved with
    | true => simp only [if_true]; exact IH mem ths h (h1 rfl)
    | false => simp only [Bool.false_eq_true, if_false]; exact Ev.now _
  intro d
  induction d with
  | zero =>
    intro t mem ths moved h1 h2 h h3 h4
    refine Ev.step (fun k => by rw [fencepostlaw10_ScEnds.l2]) ?_
    simp only [if_neg (show ¬ (t : Int) < (B.length : Int) by omega)]
    exact last t mem ths moved h h4
  | succ d ih =>
    intro t mem ths moved h1 h2 h h3 h4
    refine Ev.step (fun k => by rw [fencepostlaw10_ScEnds.l2]) ?_
    by_cases c : t < B.length
    · simp only [if_pos (show (t : Int) < (B.length : Int) by omega)]
      cases moved with
      | true => exact last t mem ths true h h4
      | false =>
        refine Ev.step (fun k => by rw [fencepostlaw10_ScEnds.j5]) ?_
        simp only [Bool.not_false, if_true, if_neg (show ¬ (B.length : Int) = 0 by omega), w64 (show -9223372036854775808 ≤ (t : Int) + 1 by omega) (by omega)]
        generalize Int.tmod (wrap64 (first + (t : Int))) (B.length : Int) = a
        rcases step_ok hc h a with e | ⟨t', x, s, rfl, hx, hlt, hs, hso, e, hst, hgo, hhi⟩
        · simp only [e, Option.bind_some, Bool.false_eq_true, if_false]
          exact ih (t + 1) mem ths false (by omega) (by omega) h h3 (fun hh => by simp at hh)
        · simp only [e, Option.bind_some, if_true]
          have hl := (List.getElem?_eq_some_iff.1 hx).1
          have hlt := h.lt
          have hr := rest_set B ths t' x (takeF s mem x).2 hx (by omega)
          have h30 := h3 rfl
          exact ih (t + 1) _ _ true (by omega) (by omega) hst (fun hh => by simp at hh) (fun _ => by omega)
    · simp only [if_neg (show ¬ (t : Int) < (B.length : Int) by omega)]
      exact last t mem ths moved h h4
theorem ends_l1 (hc : CodeOk 80 A B) (many : Nat) (hm : many ≤ 100000) : ∀ (n i : Nat) (mem : List Int) (ths : List S45), StOk A B mem ths → restL B ths < (n : Int) → (i : Int) + restL B ths ≤ (many : Int) → Ev (fun k => fencepostlaw10_ScEnds.l1 k picks true (many : Int) (i : Int) A B mem ths) true := by
  have hf := hc.few
  intro n
  induction n with
  | zero =>
    intro i mem ths h h1 h2
    have := h.rest
    omega
  | succ n ih =>
    intro i mem ths h h1 h2
    have hr := h.rest
    have j3 : ∀ first : Int, Ev (fun k => fencepostlaw10_ScEnds.j3 k picks true (many : Int) (i : Int) first A B mem ths) true := by
      intro first
      refine Ev.step (fun k => by rw [fencepostlaw10_ScEnds.j3]) ?_
      refine ends_l2 hc (many : Int) (i : Int) first (restL B ths) (fun mem' ths' h' hle => ?_) B.length 0 mem ths false (by omega) (by omega) h (fun _ => Int.le_refl _) (fun hh => by simp at hh)
      rw [w64 (show -9223372036854775808 ≤ (i : Int) + 1 by omega) (by omega)]
      exact ih (i + 1) mem' ths' h' (by omega) (by omega)
    refine Ev.step (fun k => by rw [fencepostlaw10_ScEnds.l1]) ?_
    simp only [if_pos (show (i : Int) ≤ (many : Int) by omega)]
    refine Ev.bind (right10_ev h (by omega)) ?_
    simp only [if_true]
    by_cases c : (i : Int) < (picks.length : Int)
    · simp only [if_pos c, if_pos (show (0 : Int) ≤ (i : Int) by omega)]; exact j3 _
    · simp only [if_neg c]; exact j3 _
theorem ends_l0 (hB : B.length ≤ 1000) (htot : totL B ≤ 100000) (mem : List Int) (ths : List S45) (next : Ev (fun k => fencepostlaw10_ScEnds.l1 k picks true (totL B : Int) 0 A B mem ths) true) : ∀ (d t acc : Nat), B.length - t ≤ d → t ≤ B.length → acc + totL (B.drop t) = totL B → Ev (fun k => fencepostlaw10_ScEnds.l0 k picks true (acc : Int) (t : Int) A B mem ths) true := by
  have done : ∀ t acc : Nat, ¬ t < B.length → acc + totL (B.drop t) = totL B → Ev (fun k => fencepostlaw10_ScEnds.l0 k picks true (acc : Int) (t : Int) A B mem ths) true := by
    intro t acc h1 h2
    rw [List.drop_eq_nil_of_le (by omega)] at h2
    simp only [totL, Nat.add_zero] at h2
    subst h2
    refine Ev.step (fun k => by rw [fencepostlaw10_ScEnds.l0]) ?_
    simp only [if_neg (show ¬ (t : Int) < (B.length : Int) by omega)]
    exact next
  intro d
  induction d with
  | zero => intro t acc h1 h2 h3; exact done t acc (by omega) h3
  | succ d ih =>
    intro t acc h1 h2 h3
    by_cases c : t < B.length
    · rw [List.drop_eq_getElem_cons c] at h3
      simp only [totL] at h3
      refine Ev.step (fun k => by rw [fencepostlaw10_ScEnds.l0]) ?_
      simp only [rdL_nat (List.getElem?_eq_getElem c), if_pos (show (t : Int) < (B.length : Int) by omega), if_pos (show (0 : Int) ≤ (t : Int) by omega), w64 (show -9223372036854775808 ≤ (t : Int) + 1 by omega) (by omega), w64 (show -9223372036854775808 ≤ (acc : Int) + ((B[t]).length : Int) by omega) (by omega)]
      exact ih (t + 1) (acc + (B[t]).length) (by omega) (by omega) (by omega)
    · exact done t acc c h3
end
end Go.Proofs.Ytdliojcpnkggnaa.Print
namespace Go.Proofs.Ytdliojcpnkggnaa.Pure
open Go.Proofs.Ytdliojcpnkggnaa.Print Go.RowKit Go.Proofs.YtdliojcpnkggnaaW.PrintWords Go.Proofs.YtdliojcpnkggnaaW.PrintLast Go.Proofs.YtdliojcpnkggnaaW.PrintMore
set_option linter.unusedVariables false
theorem ScEnds (x0 : S25) (x1 : List Int) (g0 : ok25 x0) (g1 : (GoodL (fun x : Int => (Lit.int .u8 x).wf = true)) x1) : ∃ k, fencepostlaw10_ScEnds.f k x0.f0 x0.f1 x1 = some true := by
  have no : Ev (fun k => fencepostlaw10_ScEnds.j0 k x1 true true x0.f0 x0.f1) true := by
    refine Ev.step (fun k => by rw [fencepostlaw10_ScEnds.j0]) ?_
    simp only [if_true]
    exact Ev.now _
  refine Ev.rounds (r := true) ?_
  unfold fencepostlaw10_ScEnds.f
  simp only [fencepostlaw10_head.f, Option.bind_some]
  obtain ⟨g, hg, hok⟩ := great_ev x0.f0 x0.f1
  refine Ev.bind hg ?_
  cases g with
  | true => simp only [if_true]; exact no
  | false =>
    simp only [Bool.false_eq_true, if_false]
    have hc := hok rfl
    have hf := hc.few
    have hl := hc.locs
    by_cases c : (x1.length : Int) > 100
    · simp only [decide_eq_true c]; exact no
    · simp only [decide_eq_false c]
      refine Ev.step (fun k => by rw [fencepostlaw10_ScEnds.j0]) ?_
      have hb : sc_Begin.f x0.f0 x0.f1 = some (x0.f0, List.replicate x0.f1.length th0) := by unfold sc_Begin.f; rw [if_pos ⟨by omega, by omega⟩]
      simp only [Bool.false_eq_true, if_false, hb, Option.bind_some]
      have htot : totL x0.f1 ≤ 80 * x0.f1.length := totL_le 80 x0.f1 (fun l hl => by
        obtain ⟨t, ht⟩ := List.getElem?_of_mem hl
        have := (hc.rowN (List.getElem?_eq_some_iff.1 ht).1).1
        rw [rdL_nat ht] at this
        exact this)
      have htot2 : totL x0.f1 ≤ 100000 := by have := Nat.mul_le_mul_left 80 hf; omega
      refine ends_l0 (by omega) htot2 _ _ ?_ x0.f1.length 0 0 (by omega) (by omega) (by simp)
      exact ends_l1 hc (totL x0.f1) htot2 (totL x0.f1 + 1) 0 _ _ (begin_ok _ _) (by rw [rest_begin]; omega) (by rw [rest_begin]; simp)
end Go.Proofs.Ytdliojcpnkggnaa.Pure
