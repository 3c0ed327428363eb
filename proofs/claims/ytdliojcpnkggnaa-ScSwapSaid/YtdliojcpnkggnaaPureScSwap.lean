/- Steps of two threads that touch no one location in common go in either order (law ScSwap): what the printed functions answer. -/
import Derived.Test.YtdliojcpnkggnaaPrint11
import Derived.Test.YtdliojcpnkggnaaHScWide
import Derived.Test.YtdliojcpnkggnaaHScSame
import Derived.Test.YtdliojcpnkggnaaHScAt
import Derived.Test.YtdliojcpnkggnaaHHead10
import Derived.Test.YtdliojcpnkggnaaOpens
namespace Go.Proofs.Ytdliojcpnkggnaa.Print
open Go.RowKit Go.Proofs.YtdliojcpnkggnaaW.PrintWords Go.Proofs.YtdliojcpnkggnaaW.PrintLast Go.Proofs.YtdliojcpnkggnaaW.PrintMore
set_option linter.unusedVariables false
set_option linter.unusedSimpArgs false
section
variable {A : List Int} {B : List (List S39)} {mem mem' : List Int} {ths : List S45}
/-- What a step writes. -/
def wroteF (s : S39) (x : S45) : Int := if s.f0 = 4 then s.f3 else rd x.f1 s.f1
theorem takeF_1 (s : S39) (mem : List Int) (x : S45) : (takeF s mem x).1 = if s.f0 = 3 ∨ s.f0 = 4 ∨ s.f0 = 5 then mem.set s.f2.toNat (wroteF s x) else mem := by
  unfold takeF wroteF
  repeat' split
  all_goals first | rfl | omega
theorem takeF_2 (s : S39) (x : S45) (h : (2 ≤ s.f0 ∧ s.f0 ≤ 5) → rd mem' s.f2 = rd mem s.f2) : (takeF s mem' x).2 = (takeF s mem x).2 := by
  unfold takeF
  repeat' split
  all_goals first | rfl | (rw [h (by omega)])
theorem swap_mem {s s' : S39} {x y : S45} (hs : (2 ≤ s.f0 ∧ s.f0 ≤ 5) → 0 ≤ s.f2) (hs' : (2 ≤ s'.f0 ∧ s'.f0 ≤ 5) → 0 ≤ s'.f2) (hne : (2 ≤ s.f0 ∧ s.f0 ≤ 5) → (2 ≤ s'.f0 ∧ s'.f0 ≤ 5) → s.f2 ≠ s'.f2) : (takeF s' (takeF s mem x).1 y).1 = (takeF s (takeF s' mem y).1 x).1 := by
  rw [takeF_1 s', takeF_1 s, takeF_1 s, takeF_1 s']
  by_cases c : s.f0 = 3 ∨ s.f0 = 4 ∨ s.f0 = 5
  · by_cases c' : s'.f0 = 3 ∨ s'.f0 = 4 ∨ s'.f0 = 5
    · simp only [if_pos c, if_pos c']
      have h1 := hs (by omega)
      have h2 := hs' (by omega)
      have h3 := hne (by omega) (by omega)
      exact List.set_comm _ _ (by omega)
    · simp only [if_pos c, if_neg c']
  · simp only [if_neg c]
theorem swap_2 {s s' : S39} {x y : S45} (hs : (2 ≤ s.f0 ∧ s.f0 ≤ 5) → 0 ≤ s.f2) (hs' : (2 ≤ s'.f0 ∧ s'.f0 ≤ 5) → 0 ≤ s'.f2) (hne : (2 ≤ s.f0 ∧ s.f0 ≤ 5) → (2 ≤ s'.f0 ∧ s'.f0 ≤ 5) → s.f2 ≠ s'.f2) : (takeF s (takeF s' mem y).1 x).2 = (takeF s mem x).2 := by
  refine takeF_2 s x (fun h => ?_)
  rw [takeF_1]
  by_cases c' : s'.f0 = 3 ∨ s'.f0 = 4 ∨ s'.f0 = 5
  · rw [if_pos c']
    rcases rd_set mem s'.f2 (wroteF s' y) s.f2 (hs' (by omega)) (hs h) with e | e
    · exact e
    · exact absurd e.symm (hne h (by omega))
  · rw [if_neg c']
theorem step_yes (hc : CodeOk 80 A B) (h : StOk A B mem ths) {t : Nat} {x : S45} (hx : ths[t]? = some x) (hlt : x.f0 < ((rd_L3 B (t : Int)).length : Int)) : StepOk A.length x.f0 ((rd_L3 B (t : Int)).length : Int) (rd_T39 (rd_L3 B (t : Int)) x.f0) ∧ sc_Step.f A B mem ths (t : Int) = some ((takeF (rd_T39 (rd_L3 B (t : Int)) x.f0) mem x).1, ths.set t (takeF (rd_T39 (rd_L3 B (t : Int)) x.f0) mem x).2, true) ∧ StOk A B (takeF (rd_T39 (rd_L3 B (t : Int)) x.f0) mem x).1 (ths.set t (takeF (rd_T39 (rd_L3 B (t : Int)) x.f0) mem x).2) := by
  have hl := (List.getElem?_eq_some_iff.1 hx).1
  rcases step_ok hc h (t : Int) with e | ⟨t', x', s, e0, hx', hlt', hse, hso, e, hst, -, -⟩
  · have hno := step_no hc h (t : Int) e
    rw [rdT_nat hx] at hno
    omega
  · obtain rfl : t = t' := by omega
    rw [hx] at hx'
    obtain rfl := Option.some.inj hx'
    subst hse
    exact ⟨hso, e, hst⟩
theorem swap_j3 (T U : Int) : Ev (fun k => fencepostlaw10_ScSwap.j3 k true T U true A B mem ths) true := by
  refine Ev.step (fun k => by rw [fencepostlaw10_ScSwap.j3]) ?_
  simp only [if_true]
  exact Ev.now _
theorem swap_j2 (T U : Int) (b13 b15 b16 b17 : Bool) (s0 s1 s2 s3 s4 z0 z1 z2 z3 z4 : Int) (next : T ≠ U → b13 = true → b15 = true → (b16 = true → b17 = true → s2 ≠ z2) → Ev (fun k => fencepostlaw10_ScSwap.j3 k true T U false A B mem ths) true) : Ev (fun k => fencepostlaw10_ScSwap.j2 k true T U b13 b15 b16 b17 A B mem ths s0 s1 s2 s3 s4 z0 z1 z2 z3 z4) true := by
  refine Ev.step (fun k => by rw [fencepostlaw10_ScSwap.j2]) ?_
  by_cases c : T = U
  · simp only [if_pos c]; exact swap_j3 T U
  · simp only [if_neg c]
    cases b13 with
    | false => simp only [Bool.false_eq_true, if_false]; exact swap_j3 T U
    | true =>
      cases b15 with
      | false => simp only [Bool.false_eq_true, if_false, if_true]; exact swap_j3 T U
      | true =>
        cases b16 with
        | false => simp only [Bool.false_eq_true, if_false, if_true]; exact next c rfl rfl (fun h => by simp at h)
        | true =>
          cases b17 with
          | false => simp only [Bool.false_eq_true, if_false, if_true]; exact next c rfl rfl (fun _ h => by simp at h)
          | true =>
            simp only [if_true]
            by_cases c2 : s2 = z2
            · simp only [beq_iff_eq.2 c2]; exact swap_j3 T U
            · simp only [beq_eq_false_iff_ne.2 c2]; exact next c rfl rfl (fun _ _ => c2)
theorem swap_j1 (T U : Int) (b13 b15 b16 : Bool) (s0 s1 s2 s3 s4 z0 z1 z2 z3 z4 : Int) (next : T ≠ U → b13 = true → b15 = true → (b16 = true → (2 ≤ z0 ∧ z0 ≤ 5) → s2 ≠ z2) → Ev (fun k => fencepostlaw10_ScSwap.j3 k true T U false A B mem ths) true) : Ev (fun k => fencepostlaw10_ScSwap.j1 k true T U b13 b15 b16 A B mem ths s0 s1 s2 s3 s4 z0 z1 z2 z3 z4) true := by
  refine Ev.step (fun k => by rw [fencepostlaw10_ScSwap.j1]) ?_
  by_cases c : z0 ≥ 2
  · simp only [if_pos c]
    exact swap_j2 T U b13 b15 b16 _ s0 s1 s2 s3 s4 z0 z1 z2 z3 z4 (fun h1 h2 h3 h4 => next h1 h2 h3 (fun h5 h6 => h4 h5 (decide_eq_true h6.2)))
  · simp only [if_neg c]
    exact swap_j2 T U b13 b15 b16 _ s0 s1 s2 s3 s4 z0 z1 z2 z3 z4 (fun h1 h2 h3 h4 => next h1 h2 h3 (fun h5 h6 => absurd h6.1 c))
/-- What ref10.At answers. -/
theorem at_any (h : StOk A B mem ths) {t : Nat} (ht : t < ths.length) : ∃ x s0 s1 s2 s3 s4 b, ths[t]? = some x ∧ fencepostref10_At.f A B mem ths (t : Int) = some (s0, s1, s2, s3, s4, b) ∧ (b = true → x.f0 < ((rd_L3 B (t : Int)).length : Int) ∧ (⟨s0, s1, s2, s3, s4⟩ : S39) = rd_T39 (rd_L3 B (t : Int)) x.f0) := by
  obtain ⟨x, hx⟩ : ∃ x, ths[t]? = some x := ⟨_, List.getElem?_eq_getElem ht⟩
  by_cases c : x.f0 < ((rd_L3 B (t : Int)).length : Int)
  · exact ⟨x, _, _, _, _, _, _, hx, at_yes h hx c, fun _ => ⟨c, rfl⟩⟩
  · exact ⟨x, _, _, _, _, _, _, hx, at_no h _ (.inr (.inr (by rw [rdT_nat hx]; omega))), fun e => by simp at e⟩
end
end Go.Proofs.Ytdliojcpnkggnaa.Print
namespace Go.Proofs.Ytdliojcpnkggnaa.Pure
open Go.Proofs.Ytdliojcpnkggnaa.Print Go.RowKit Go.Proofs.YtdliojcpnkggnaaW.PrintWords Go.Proofs.YtdliojcpnkggnaaW.PrintLast Go.Proofs.YtdliojcpnkggnaaW.PrintMore
set_option linter.unusedVariables false
set_option linter.unusedSimpArgs false
theorem pick_of (x : Int) (g : (Lit.int .u8 x).wf = true) (n : Nat) (hn : 0 < n) : ∃ t : Nat, Int.tmod (wrap64 x) (n : Int) = (t : Int) ∧ t < n := by
  have hx : 0 ≤ x ∧ x ≤ 255 := by
    simpa [Lit.wf, IntKind.min, IntKind.max, IntKind.bits, IntKind.signed] using g
  rw [w64 (by omega) (by omega), Int.tmod_eq_emod_of_nonneg hx.1]
  have h1 := Int.emod_nonneg x (show (n : Int) ≠ 0 by omega)
  have h2 := Int.emod_lt_of_pos x (show (0 : Int) < (n : Int) by omega)
  exact ⟨(x % (n : Int)).toNat, by omega, by omega⟩
theorem ScSwap (x0 : S25) (x1 : S28) (x2 : Int) (x3 : Int) (g0 : ok25 x0) (g1 : ok28 x1) (g2 : (Lit.int .u8 x2).wf = true) (g3 : (Lit.int .u8 x3).wf = true) : ∃ k, fencepostlaw10_ScSwap.f k x0.f0 x0.f1 x1.f0 x1.f1 x2 x3 = some true := by
  have no : Ev (fun k => fencepostlaw10_ScSwap.j0 k x2 x3 true true x0.f0 x0.f1 x1.f0 x1.f1) true := by
    refine Ev.step (fun k => by rw [fencepostlaw10_ScSwap.j0]) ?_
    simp only [if_true]
    exact Ev.now _
  refine Ev.rounds (r := true) ?_
  unfold fencepostlaw10_ScSwap.f
  simp only [fencepostlaw10_head.f, Option.bind_some]
  obtain ⟨g, hg, hok⟩ := great_ev x0.f0 x0.f1
  refine Ev.bind hg ?_
  cases g with
  | true => simp only [if_true]; exact no
  | false =>
    simp only [Bool.false_eq_true, if_false]
    have hc := hok rfl
    obtain ⟨q, hq, hw⟩ := wide_ev x1.f0 x1.f1
    refine Ev.bind hq ?_
    cases q with
    | true => simp only [if_true]; exact no
    | false =>
      simp only [Bool.false_eq_true, if_false]
      have hf := hw rfl
      have hfm := hf.fm
      have hft := hf.ft
      obtain ⟨r, hr, hs⟩ := r10_ev x0.f0 x0.f1 hf
      refine Ev.bind hr ?_
      cases r with
      | false => simp only [Bool.false_eq_true, if_false]; exact no
      | true =>
        have hst := hs rfl
        have hlt := hst.lt
        have hlm := hst.lm
        have hfew := hc.few
        simp only [if_true]
        by_cases c : (x1.f1.length : Int) < 2
        · simp only [decide_eq_true c]; exact no
        · simp only [decide_eq_false c]
          refine Ev.step (fun k => by rw [fencepostlaw10_ScSwap.j0]) ?_
          simp only [Bool.false_eq_true, if_false, if_neg (show ¬ (x1.f1.length : Int) = 0 by omega)]
          obtain ⟨t, et, ht⟩ := pick_of x2 g2 x1.f1.length (by omega)
          obtain ⟨u, eu, hu⟩ := pick_of x3 g3 x1.f1.length (by omega)
          simp only [et, eu]
          obtain ⟨x, s0, s1, s2, s3, s4, b, hx, hax, hb⟩ := at_any hst ht
          obtain ⟨y, z0, z1, z2, z3, z4, b', hy, hay, hb'⟩ := at_any hst hu
          simp only [hax, hay, Option.bind_some]
          have key : (t : Int) ≠ (u : Int) → b = true → b' = true → ((2 ≤ s0 ∧ s0 ≤ 5) → (2 ≤ z0 ∧ z0 ≤ 5) → s2 ≠ z2) → Ev (fun k => fencepostlaw10_ScSwap.j3 k true (t : Int) (u : Int) false x0.f0 x0.f1 x1.f0 x1.f1) true := by
            intro hne e1 e2 h5
            obtain ⟨q1, q2⟩ := hb e1
            obtain ⟨q3, q4⟩ := hb' e2
            have hne' : t ≠ u := fun e => hne (by rw [e])
            obtain ⟨a1, a2, a3⟩ := step_yes hc hst hx q1
            obtain ⟨b1, b2, b3⟩ := step_yes hc hst hy q3
            rw [← q2] at a1 a2 a3
            rw [← q4] at b1 b2 b3
            have hxb : (x1.f1.set u (takeF ⟨z0, z1, z2, z3, z4⟩ x1.f0 y).2)[t]? = some x := (List.getElem?_set_ne (fun e => hne' e.symm)).trans hx
            have hyb : (x1.f1.set t (takeF ⟨s0, s1, s2, s3, s4⟩ x1.f0 x).2)[u]? = some y := (List.getElem?_set_ne hne').trans hy
            obtain ⟨c1, c2, c3⟩ := step_yes hc a3 hyb q3
            obtain ⟨d1, d2, d3⟩ := step_yes hc b3 hxb q1
            rw [← q4] at c1 c2 c3
            rw [← q2] at d1 d2 d3
            have w1 : (2 ≤ s0 ∧ s0 ≤ 5) → 0 ≤ s2 := fun h => (a1.loc (by show s0 = 2 ∨ s0 = 3 ∨ s0 = 4 ∨ s0 = 5; omega)).1
            have w2 : (2 ≤ z0 ∧ z0 ≤ 5) → 0 ≤ z2 := fun h => (b1.loc (by show z0 = 2 ∨ z0 = 3 ∨ z0 = 4 ∨ z0 = 5; omega)).1
            have em := swap_mem (mem := x1.f0) (s := ⟨s0, s1, s2, s3, s4⟩) (s' := ⟨z0, z1, z2, z3, z4⟩) (x := x) (y := y) w1 w2 h5
            have e3 := swap_2 (mem := x1.f0) (s := ⟨s0, s1, s2, s3, s4⟩) (s' := ⟨z0, z1, z2, z3, z4⟩) (x := x) (y := y) w1 w2 h5
            have e4 := swap_2 (mem := x1.f0) (s := ⟨z0, z1, z2, z3, z4⟩) (s' := ⟨s0, s1, s2, s3, s4⟩) (x := y) (y := x) w2 w1 (fun h h' e => h5 h' h e.symm)
            refine Ev.step (fun k => by rw [fencepostlaw10_ScSwap.j3]) ?_
            simp only [Bool.false_eq_true, if_false, a2, b2, Option.bind_some]
            refine Ev.bind (right10_ev a3 (by omega)) ?_
            simp only [if_true]
            refine Ev.bind (right10_ev b3 (by omega)) ?_
            simp only [Bool.not_true]
            refine Ev.step (fun k => by rw [fencepostlaw10_ScSwap.j4]) ?_
            simp only [Bool.false_eq_true, if_false, c2, d2, Option.bind_some, if_true]
            rw [e3] at d3 ⊢
            rw [e4] at c3 ⊢
            rw [← em] at d3 ⊢
            rw [List.set_comm _ _ hne'.symm]
            exact Ev.bind (same10_refl _ _ (by have := c3.lm; omega) (by simp only [List.length_set]; omega) (fun j z hz => by
              have := c3.th j z hz
              exact ⟨by rw [this.regs]; omega, by have := this.few; omega⟩)) (Ev.now _)
          by_cases c2 : s0 ≥ 2
          · simp only [if_pos c2]
            exact swap_j1 (t : Int) (u : Int) b b' _ s0 s1 s2 s3 s4 z0 z1 z2 z3 z4 (fun h1 h2 h3 h4 => key h1 h2 h3 (fun h5 => h4 (decide_eq_true h5.2)))
          · simp only [if_neg c2]
            exact swap_j1 (t : Int) (u : Int) b b' _ s0 s1 s2 s3 s4 z0 z1 z2 z3 z4 (fun h1 h2 h3 h4 => key h1 h2 h3 (fun h5 => absurd h5.1 c2))
end Go.Proofs.Ytdliojcpnkggnaa.Pure
