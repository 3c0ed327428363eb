/- A step leaves all other threads as they are, and all locations but one, that it writes (law ScApart): what the printed functions answer. -/
import Derived.Test.YtdliojcpnkggnaaPrint10
import Derived.Test.YtdliojcpnkggnaaHScWide
import Derived.Test.YtdliojcpnkggnaaHScSame
import Derived.Test.YtdliojcpnkggnaaHScAt
import Derived.Test.YtdliojcpnkggnaaHHead10
import Derived.Test.YtdliojcpnkggnaaOpens
namespace Go.Proofs.Ytdliojcpnkggnaa.Print
open Go.RowKit Go.Proofs.YtdliojcpnkggnaaW.PrintWords Go.Proofs.YtdliojcpnkggnaaW.PrintLast Go.Proofs.YtdliojcpnkggnaaW.PrintMore
set_option linter.unusedVariables false
set_option linter.unusedSimpArgs false
section
variable {A : List Int} {B : List (List S39)} {mem mem' : List Int} {ths ths' : List S45}
theorem apart_l1 (t : Nat) (b : Bool) (s : S39) (hm : mem.length ≤ 1000) (hl : mem'.length = mem.length) (hb : ∀ i : Int, 0 ≤ i → rd mem' i = rd mem i ∨ (b = true ∧ i = s.f2)) {x y : S45} (hx : ths[t]? = some x) (hy : ths'[t]? = some y) (e3 : y.f3 = x.f3) (h1 : y.f1.length ≤ 1000000) (h3 : x.f3.length ≤ 1000000) : ∀ (d i : Nat), mem.length - i ≤ d → i ≤ mem.length → Ev (fun k => fencepostlaw10_ScApart.l1 k (t : Int) true b (i : Int) mem ths mem' ths' s.f0 s.f1 s.f2 s.f3 s.f4) true := by
  have q1 := (List.getElem?_eq_some_iff.1 hx).1
  have q2 := (List.getElem?_eq_some_iff.1 hy).1
  have last : ∀ i : Nat, ¬ i < mem.length → Ev (fun k => fencepostlaw10_ScApart.l1 k (t : Int) true b (i : Int) mem ths mem' ths' s.f0 s.f1 s.f2 s.f3 s.f4) true := by
    intro i h
    refine Ev.step (fun k => by rw [fencepostlaw10_ScApart.l1]) ?_
    simp only [if_neg (show ¬ (i : Int) < (mem.length : Int) by omega), if_pos (show (0 : Int) ≤ (t : Int) by omega), if_pos (show (t : Int) < (ths'.length : Int) by omega), if_pos (show (t : Int) < (ths.length : Int) by omega), if_true, rdT_nat hx, rdT_nat hy]
    rw [← e3] at h3 ⊢
    exact Ev.bind (sameTh_refl y h1 h3) (Ev.now _)
  intro d
  induction d with
  | zero => intro i h1 h2; exact last i (by omega)
  | succ d ih =>
    intro i h1 h2
    by_cases c : i < mem.length
    · refine Ev.step (fun k => by rw [fencepostlaw10_ScApart.l1]) ?_
      simp only [if_pos (show (i : Int) < (mem.length : Int) by omega), if_pos (show (0 : Int) ≤ (i : Int) by omega), if_pos (show (i : Int) < (mem'.length : Int) by omega), w64 (show -9223372036854775808 ≤ (i : Int) + 1 by omega) (by omega)]
      have next := ih (i + 1) (by omega) (by omega)
      by_cases c1 : rd mem' (i : Int) = rd mem (i : Int)
      · simp only [if_pos c1]; exact next
      · rcases hb (i : Int) (by omega) with e | ⟨e1, e2⟩
        · exact absurd e c1
        · simp only [if_neg c1, if_pos e1, if_pos e2]; exact next
    · exact last i c
theorem apart_l0 (t : Nat) (s : S39) (hn : ths.length ≤ 1000) (hl : ths'.length = ths.length) (ho : ∀ j : Nat, j ≠ t → ths'[j]? = ths[j]?) (hr : ∀ (j : Nat) x, ths[j]? = some x → x.f1.length ≤ 1000000 ∧ x.f3.length ≤ 1000000) (next : ∀ b, (s.f0 = 3 ∨ s.f0 = 4 ∨ s.f0 = 5 → b = true) → Ev (fun k => fencepostlaw10_ScApart.j3 k (t : Int) true b mem ths mem' ths' s.f0 s.f1 s.f2 s.f3 s.f4) true) : ∀ (d i : Nat), ths.length - i ≤ d → i ≤ ths.length → Ev (fun k => fencepostlaw10_ScApart.l0 k (t : Int) true (i : Int) mem ths mem' ths' s.f0 s.f1 s.f2 s.f3 s.f4) true := by
  have last : ∀ i : Nat, ¬ i < ths.length → Ev (fun k => fencepostlaw10_ScApart.l0 k (t : Int) true (i : Int) mem ths mem' ths' s.f0 s.f1 s.f2 s.f3 s.f4) true := by
    intro i h
    refine Ev.step (fun k => by rw [fencepostlaw10_ScApart.l0]) ?_
    simp only [if_neg (show ¬ (i : Int) < (ths.length : Int) by omega)]
    by_cases c3 : s.f0 = 3
    · simp only [if_pos c3]; exact next true (fun _ => rfl)
    · by_cases c4 : s.f0 = 4
      · simp only [if_neg c3, if_pos c4]; exact next true (fun _ => rfl)
      · simp only [if_neg c3, if_neg c4]; exact next _ (fun h => by rcases h with h | h | h; exact absurd h c3; exact absurd h c4; exact beq_iff_eq.2 h)
  intro d
  induction d with
  | zero => intro i h1 h2; exact last i (by omega)
  | succ d ih =>
    intro i h1 h2
    by_cases c : i < ths.length
    · refine Ev.step (fun k => by rw [fencepostlaw10_ScApart.l0]) ?_
      simp only [if_pos (show (i : Int) < (ths.length : Int) by omega), if_pos (show (0 : Int) ≤ (i : Int) by omega), if_pos (show (i : Int) < (ths'.length : Int) by omega), w64 (show -9223372036854775808 ≤ (i : Int) + 1 by omega) (by omega)]
      have next' := ih (i + 1) (by omega) (by omega)
      by_cases c1 : (i : Int) = (t : Int)
      · simp only [if_pos c1]; exact next'
      · simp only [if_neg c1]
        obtain ⟨x, hx⟩ : ∃ x, ths[i]? = some x := ⟨_, List.getElem?_eq_getElem c⟩
        have hx' := (ho i (by omega)).trans hx
        simp only [rdT_nat hx, rdT_nat hx']
        refine Ev.bind (sameTh_refl x (hr i x hx).1 (hr i x hx).2) ?_
        simp only [if_true]
        exact next'
    · exact last i c
end
end Go.Proofs.Ytdliojcpnkggnaa.Print
namespace Go.Proofs.Ytdliojcpnkggnaa.Pure
open Go.Proofs.Ytdliojcpnkggnaa.Print Go.RowKit Go.Proofs.YtdliojcpnkggnaaW.PrintWords Go.Proofs.YtdliojcpnkggnaaW.PrintLast Go.Proofs.YtdliojcpnkggnaaW.PrintMore
set_option linter.unusedVariables false
set_option linter.unusedSimpArgs false
theorem ScApart (x0 : S25) (x1 : S28) (x2 : Int) (g0 : ok25 x0) (g1 : ok28 x1) (g2 : (Lit.int .i64 x2).wf = true) : ∃ k, fencepostlaw10_ScApart.f k x0.f0 x0.f1 x1.f0 x1.f1 x2 = some true := by
  have no : Ev (fun k => fencepostlaw10_ScApart.j0 k x2 true true x0.f0 x0.f1 x1.f0 x1.f1) true := by
    refine Ev.step (fun k => by rw [fencepostlaw10_ScApart.j0]) ?_
    simp only [if_true]
    exact Ev.now _
  refine Ev.rounds (r := true) ?_
  unfold fencepostlaw10_ScApart.f
  simp only [fencepostlaw10_head.f, Option.bind_some]
  obtain ⟨g, hg, hok⟩ := great_ev x0.f0 x0.f1
  refine Ev.bind hg ?_
  cases g with
  | true => simp only [if_true]; exact no
  | false =>
    simp only [Bool.false_eq_true, if_false]
    have hc := hok rfl
    obtain ⟨q, hq, hw⟩ := wide_ev x1.f0 x1.f1
    refine Ev.bind hq ?_
    cases q with
    | true => simp only [if_true]; exact no
    | false =>
      simp only [Bool.false_eq_true, if_false]
      have hf := hw rfl
      have hfm := hf.fm
      have hft := hf.ft
      obtain ⟨r, hr, hs⟩ := r10_ev x0.f0 x0.f1 hf
      refine Ev.bind hr ?_
      cases r with
      | false => simp only [Bool.not_false]; exact no
      | true =>
        have hst := hs rfl
        have hlt := hst.lt
        simp only [Bool.not_true]
        refine Ev.step (fun k => by rw [fencepostlaw10_ScApart.j0]) ?_
        simp only [Bool.false_eq_true, if_false]
        have hrows : ∀ (t : Nat) x, x1.f1[t]? = some x → x.f1.length ≤ 1000000 ∧ x.f3.length ≤ 1000000 := fun t x hx => by have := hf.rows t x hx; omega
        rcases step_ok hc hst x2 with e | ⟨t, x, s, rfl, hx, hlt2, hse, hso, e, hst2, hgo, hhi⟩
        · simp only [e, Option.bind_some, Bool.false_eq_true, if_false, if_true]
          exact Ev.bind (same10_refl x1.f0 x1.f1 (by omega) (by omega) hrows) (Ev.now _)
        · have hl := (List.getElem?_eq_some_iff.1 hx).1
          have hlm := hst.lm
          have hat := at_yes hst hx hlt2
          rw [← hse] at hat
          simp only [e, Option.bind_some, if_true]
          refine Ev.bind (right10_ev hst2 (by have := hc.few; omega)) ?_
          simp only [if_true, if_neg (show ¬ (t : Int) < 0 by omega), decide_eq_false (show ¬ (t : Int) ≥ (x1.f1.length : Int) by omega)]
          refine Ev.step (fun k => by rw [fencepostlaw10_ScApart.j1]) ?_
          simp only [Bool.false_eq_true, if_false, hat, Option.bind_some]
          have hto := takeF_ok (mem := x1.f0) hso.tgt (hst.th t x hx).lo hlt2
          refine apart_l0 t s (by omega) (by rw [List.length_set]) (fun j hj => List.getElem?_set_ne (fun e => hj e.symm)) hrows (fun b hb => ?_) x1.f1.length 0 (by omega) (by omega)
          refine Ev.step (fun k => by rw [fencepostlaw10_ScApart.j3]) ?_
          refine apart_l1 t b s (by omega) hto.1 (fun i hi => ?_) hx (set_get hx) hto.2.2.2.2 (by rw [hto.2.2.2.1]; exact (hrows t x hx).1) (hrows t x hx).2 x1.f0.length 0 (by omega) (by omega)
          rcases takeF_mem (mem := x1.f0) (x := x) (fun h => by rw [hlm]; exact hso.loc h) i hi with e2 | ⟨e1, e2⟩
          · exact .inl e2
          · exact .inr ⟨hb e1, e2⟩
end Go.Proofs.Ytdliojcpnkggnaa.Pure
