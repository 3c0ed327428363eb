/- What a register, a location and what was compared have behind a step (law ScReads): what the printed functions answer. -/
import Derived.Test.YtdliojcpnkggnaaPrint12
import Derived.Test.YtdliojcpnkggnaaHScWide
import Derived.Test.YtdliojcpnkggnaaHScAt
import Derived.Test.YtdliojcpnkggnaaHHead10
import Derived.Test.YtdliojcpnkggnaaOpens
namespace Go.Proofs.Ytdliojcpnkggnaa.Print
open Go.RowKit Go.Proofs.YtdliojcpnkggnaaW.PrintWords Go.Proofs.YtdliojcpnkggnaaW.PrintLast Go.Proofs.YtdliojcpnkggnaaW.PrintMore
set_option linter.unusedVariables false
set_option linter.unusedSimpArgs false
section
variable {A : List Int} {B : List (List S39)} {mem mem' : List Int} {ths ths' : List S45}
theorem rd_set_same (l : List Int) (i v : Int) (hi : 0 ≤ i) (hl : i < (l.length : Int)) : rd (l.set i.toNat v) i = v := by
  unfold rd
  rw [List.getD_eq_getElem?_getD, List.getElem?_set_self (by omega)]
  rfl
theorem takeF_reg {s : S39} {x : S45} (h4 : x.f1.length = 4) (hr : 0 ≤ s.f1 ∧ s.f1 ≤ 3) (k : Int) (hk : 0 ≤ k) :
    (k = s.f1 → s.f0 = 1 → rd (takeF s mem x).2.f1 k = s.f3) ∧ (k = s.f1 → s.f0 = 2 ∨ s.f0 = 5 → rd (takeF s mem x).2.f1 k = rd mem s.f2) ∧ ((¬ k = s.f1 ∨ (s.f0 ≠ 1 ∧ s.f0 ≠ 2 ∧ s.f0 ≠ 5)) → rd (takeF s mem x).2.f1 k = rd x.f1 k) := by
  have same : ∀ v, rd (x.f1.set s.f1.toNat v) s.f1 = v := fun v => rd_set_same x.f1 s.f1 v hr.1 (by omega)
  have other : ∀ v, ¬ k = s.f1 → rd (x.f1.set s.f1.toNat v) k = rd x.f1 k := fun v h => by
    rcases rd_set x.f1 s.f1 v k hr.1 hk with e | e
    · exact e
    · exact absurd e.symm h
  have back : rd (x.f1.set s.f1.toNat (rd x.f1 s.f1)) k = rd x.f1 k := by
    by_cases e : k = s.f1
    · rw [e]; exact same _
    · exact other _ e
  unfold takeF
  repeat' split
  all_goals refine ⟨fun e h => ?_, fun e h => ?_, fun h => ?_⟩
  all_goals first
    | omega
    | (rw [e]; exact same _)
    | (exact other _ (by omega))
    | exact back
    | rfl
theorem takeF_loc {s : S39} {x : S45} (hloc : (s.f0 = 2 ∨ s.f0 = 3 ∨ s.f0 = 4 ∨ s.f0 = 5) → 0 ≤ s.f2 ∧ s.f2 < (mem.length : Int)) : (s.f0 = 4 → rd (takeF s mem x).1 s.f2 = s.f3) ∧ (s.f0 = 3 ∨ s.f0 = 5 → rd (takeF s mem x).1 s.f2 = rd x.f1 s.f1) ∧ (s.f0 = 7 → (takeF s mem x).2.f2 = (rd x.f1 s.f1 == s.f3)) ∧ (s.f0 ≠ 7 → (takeF s mem x).2.f2 = x.f2) := by
  unfold takeF
  repeat' split
  all_goals refine ⟨fun h => ?_, fun h => ?_, fun h => ?_, fun h => ?_⟩
  all_goals first
    | omega
    | rfl
    | (have := hloc (by omega); exact rd_set_same mem s.f2 _ this.1 this.2)
theorem reads_j4 {t : Nat} {x y : S45} {s : S39} (hx : ths[t]? = some x) (hy : ths'[t]? = some y) (hx4 : x.f1.length = 4) (hy4 : y.f1.length = 4) (hm : mem'.length = mem.length) (hr : 0 ≤ s.f1 ∧ s.f1 ≤ 3) (hloc : (s.f0 = 2 ∨ s.f0 = 3 ∨ s.f0 = 4 ∨ s.f0 = 5) → 0 ≤ s.f2 ∧ s.f2 < (mem.length : Int)) (hl : (s.f0 = 4 → rd mem' s.f2 = s.f3) ∧ (s.f0 = 3 ∨ s.f0 = 5 → rd mem' s.f2 = rd x.f1 s.f1) ∧ (s.f0 = 7 → y.f2 = (rd x.f1 s.f1 == s.f3)) ∧ (s.f0 ≠ 7 → y.f2 = x.f2))
    (k : Int) (hk : 0 ≤ k ∧ k < 4) (want : Int) (hw : rd y.f1 k = want) : Ev (fun q => fencepostlaw10_ScReads.j4 q (t : Int) true k want mem ths mem' ths' s.f0 s.f1 s.f2 s.f3 s.f4) true := by
  have q1 := (List.getElem?_eq_some_iff.1 hx).1
  have q2 := (List.getElem?_eq_some_iff.1 hy).1
  obtain ⟨l4, l35, l7, l0⟩ := hl
  refine Ev.step (fun k => by rw [fencepostlaw10_ScReads.j4]) ?_
  simp only [rdT_nat hx, rdT_nat hy, if_pos (show (0 : Int) ≤ (t : Int) by omega), if_pos (show (t : Int) < (ths'.length : Int) by omega), if_pos (show (t : Int) < (ths.length : Int) by omega), if_pos hk.1, if_pos (show k < (y.f1.length : Int) by omega), if_pos hw, if_true, if_pos hr.1, if_pos (show s.f1 < (x.f1.length : Int) by omega)]
  by_cases c4 : s.f0 = 4
  · have := hloc (by omega)
    simp only [if_pos c4, if_pos this.1, if_pos (show s.f2 < (mem'.length : Int) by omega), l4 c4, beq_self_eq_true]
    exact Ev.now _
  · by_cases c3 : s.f0 = 3
    · have := hloc (by omega)
      simp only [if_neg c4, if_pos c3, if_pos this.1, if_pos (show s.f2 < (mem'.length : Int) by omega), l35 (.inl c3), beq_self_eq_true]
      exact Ev.now _
    · by_cases c5 : s.f0 = 5
      · have := hloc (by omega)
        simp only [if_neg c4, if_neg c3, if_pos c5, if_pos this.1, if_pos (show s.f2 < (mem'.length : Int) by omega), l35 (.inr c5), beq_self_eq_true]
        exact Ev.now _
      · by_cases c7 : s.f0 = 7
        · simp only [if_neg c4, if_neg c3, if_neg c5, if_pos c7, l7 c7, beq_self_eq_true, if_true]
          exact Ev.now _
        · simp only [if_neg c4, if_neg c3, if_neg c5, if_neg c7, l0 c7, beq_self_eq_true]
          exact Ev.now _
end
end Go.Proofs.Ytdliojcpnkggnaa.Print
namespace Go.Proofs.Ytdliojcpnkggnaa.Pure
open Go.Proofs.Ytdliojcpnkggnaa.Print Go.RowKit Go.Proofs.YtdliojcpnkggnaaW.PrintWords Go.Proofs.YtdliojcpnkggnaaW.PrintLast Go.Proofs.YtdliojcpnkggnaaW.PrintMore
set_option linter.unusedVariables false
set_option linter.unusedSimpArgs false
theorem ScReads (x0 : S25) (x1 : S28) (x2 : Int) (x3 : Int) (g0 : ok25 x0) (g1 : ok28 x1) (g2 : (Lit.int .i64 x2).wf = true) (g3 : (Lit.int .u8 x3).wf = true) : ∃ k, fencepostlaw10_ScReads.f k x0.f0 x0.f1 x1.f0 x1.f1 x2 x3 = some true := by
  have no : Ev (fun k => fencepostlaw10_ScReads.j0 k x2 x3 true true x0.f0 x0.f1 x1.f0 x1.f1) true := by
    refine Ev.step (fun k => by rw [fencepostlaw10_ScReads.j0]) ?_
    simp only [if_true]
    exact Ev.now _
  have hreg : 0 ≤ Int.tmod (wrap64 x3) 4 ∧ Int.tmod (wrap64 x3) 4 < 4 := by
    have hx : 0 ≤ x3 ∧ x3 ≤ 255 := by simpa [Lit.wf, IntKind.min, IntKind.max, IntKind.bits, IntKind.signed] using g3
    rw [w64 (by omega) (by omega), Int.tmod_eq_emod_of_nonneg hx.1]
    omega
  obtain ⟨K, hK⟩ : ∃ K, Int.tmod (wrap64 x3) 4 = K := ⟨_, rfl⟩
  rw [hK] at hreg
  refine Ev.rounds (r := true) ?_
  unfold fencepostlaw10_ScReads.f
  simp only [fencepostlaw10_head.f, Option.bind_some]
  obtain ⟨g, hg, hok⟩ := great_ev x0.f0 x0.f1
  refine Ev.bind hg ?_
  cases g with
  | true => simp only [if_true]; exact no
  | false =>
    simp only [Bool.false_eq_true, if_false]
    have hc := hok rfl
    obtain ⟨q, hq, hw⟩ := wide_ev x1.f0 x1.f1
    refine Ev.bind hq ?_
    cases q with
    | true => simp only [if_true]; exact no
    | false =>
      simp only [Bool.false_eq_true, if_false]
      have hf := hw rfl
      obtain ⟨r, hr, hs⟩ := r10_ev x0.f0 x0.f1 hf
      refine Ev.bind hr ?_
      cases r with
      | false => simp only [Bool.not_false]; exact no
      | true =>
        have hst := hs rfl
        have hlt := hst.lt
        simp only [Bool.not_true]
        refine Ev.step (fun k => by rw [fencepostlaw10_ScReads.j0]) ?_
        simp only [Bool.false_eq_true, if_false]
        rcases step_ok hc hst x2 with e | ⟨t, x, s, rfl, hx, hlt2, hse, hso, e, hst2, hgo, hhi⟩
        · simp only [e, Option.bind_some, Bool.false_eq_true, if_false]
          exact Ev.now _
        · have hl := (List.getElem?_eq_some_iff.1 hx).1
          have hth := hst.th t x hx
          have hlm := hst.lm
          simp only [e, Option.bind_some, if_true, rdT_nat hx, if_pos (show (0 : Int) ≤ (t : Int) by omega), if_pos (show (t : Int) < (x0.f1.length : Int) by omega), if_pos (show (t : Int) < (x1.f1.length : Int) by omega), if_pos hth.lo, if_pos hlt2, ← hse, hK]
          refine Ev.bind (right10_ev hst2 (by have := hc.few; omega)) ?_
          simp only [if_true, if_pos hreg.1, if_pos (show K < (x.f1.length : Int) by rw [hth.regs]; exact hreg.2)]
          have hto := takeF_ok (mem := x1.f0) hso.tgt hth.lo hlt2
          have hloc : (s.f0 = 2 ∨ s.f0 = 3 ∨ s.f0 = 4 ∨ s.f0 = 5) → 0 ≤ s.f2 ∧ s.f2 < (x1.f0.length : Int) := fun h => by rw [hlm]; exact hso.loc h
          have hrg := takeF_reg (mem := x1.f0) (s := s) (x := x) hth.regs hso.reg K hreg.1
          have j4 : ∀ want, rd (takeF s x1.f0 x).2.f1 K = want → Ev (fun q => fencepostlaw10_ScReads.j4 q (t : Int) true K want x1.f0 x1.f1 (takeF s x1.f0 x).1 (x1.f1.set t (takeF s x1.f0 x).2) s.f0 s.f1 s.f2 s.f3 s.f4) true := fun want h => reads_j4 hx (set_get hx) hth.regs (by rw [hto.2.2.2.1]; exact hth.regs) hto.1 hso.reg hloc (takeF_loc hloc) K hreg want h
          have j3 : ∀ want b, (b = true → K = s.f1 ∧ (s.f0 = 2 ∨ s.f0 = 5)) → (b = false → rd (takeF s x1.f0 x).2.f1 K = want) → Ev (fun q => fencepostlaw10_ScReads.j3 q (t : Int) true K want b x1.f0 x1.f1 (takeF s x1.f0 x).1 (x1.f1.set t (takeF s x1.f0 x).2) s.f0 s.f1 s.f2 s.f3 s.f4) true := by
            intro want b h1 h2
            refine Ev.step (fun k => by rw [fencepostlaw10_ScReads.j3]) ?_
            cases b with
            | true =>
              obtain ⟨h3, h4⟩ := h1 rfl
              have := hloc (by omega)
              simp only [if_true, if_pos this.1, if_pos this.2]
              exact j4 _ (hrg.2.1 h3 h4)
            | false => simp only [Bool.false_eq_true, if_false]; exact j4 _ (h2 rfl)
          have j2 : ∀ want, (¬ (K = s.f1 ∧ (s.f0 = 2 ∨ s.f0 = 5)) → rd (takeF s x1.f0 x).2.f1 K = want) → Ev (fun q => fencepostlaw10_ScReads.j2 q (t : Int) true K want x1.f0 x1.f1 (takeF s x1.f0 x).1 (x1.f1.set t (takeF s x1.f0 x).2) s.f0 s.f1 s.f2 s.f3 s.f4) true := by
            intro want h
            refine Ev.step (fun k => by rw [fencepostlaw10_ScReads.j2]) ?_
            by_cases c : K = s.f1
            · by_cases c2 : s.f0 = 2
              · simp only [if_pos c, if_pos c2]
                exact j3 want true (fun _ => ⟨c, .inl c2⟩) (fun h => by simp at h)
              · simp only [if_pos c, if_neg c2]
                exact j3 want _ (fun h => ⟨c, .inr (beq_iff_eq.1 h)⟩) (fun hb => h (fun hh => by have := beq_eq_false_iff_ne.1 hb; omega))
            · simp only [if_neg c]
              exact j3 want false (fun h => by simp at h) (fun _ => h (fun hh => c hh.1))
          have j1 : ∀ b, (b = true ↔ K = s.f1 ∧ s.f0 = 1) → Ev (fun q => fencepostlaw10_ScReads.j1 q (t : Int) true K (rd x.f1 K) b x1.f0 x1.f1 (takeF s x1.f0 x).1 (x1.f1.set t (takeF s x1.f0 x).2) s.f0 s.f1 s.f2 s.f3 s.f4) true := by
            intro b hb
            refine Ev.step (fun k => by rw [fencepostlaw10_ScReads.j1]) ?_
            cases b with
            | true =>
              obtain ⟨h3, h4⟩ := hb.1 rfl
              simp only [if_true]
              exact j2 _ (fun _ => hrg.1 h3 h4)
            | false =>
              have hn : ¬ (K = s.f1 ∧ s.f0 = 1) := fun h => by have := hb.2 h; simp at this
              simp only [Bool.false_eq_true, if_false]
              exact j2 _ (fun h => hrg.2.2 (by omega))
          by_cases c : K = s.f1
          · simp only [if_pos c]
            exact j1 _ (by rw [beq_iff_eq]; exact ⟨fun h => ⟨c, h⟩, fun h => h.2⟩)
          · simp only [if_neg c]
            exact j1 false (by simp [c])
end Go.Proofs.Ytdliojcpnkggnaa.Pure
