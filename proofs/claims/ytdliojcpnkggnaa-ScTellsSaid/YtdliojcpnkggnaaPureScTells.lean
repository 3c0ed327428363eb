/- A step answers as the reference does (law ScTells): what the printed functions answer. -/
import Derived.Test.YtdliojcpnkggnaaPrint14
import Derived.Test.YtdliojcpnkggnaaHScWide
import Derived.Test.YtdliojcpnkggnaaHScSame
import Derived.Test.YtdliojcpnkggnaaHHead10
import Derived.Test.YtdliojcpnkggnaaOpens
namespace Go.Proofs.Ytdliojcpnkggnaa.Print
open Go.RowKit Go.Proofs.YtdliojcpnkggnaaW.PrintWords Go.Proofs.YtdliojcpnkggnaaW.PrintLast Go.Proofs.YtdliojcpnkggnaaW.PrintMore
set_option linter.unusedVariables false
set_option linter.unusedSimpArgs false
theorem Ev.uniq {α : Type} {g : Nat → Option α} {a b : α} (ha : Ev g a) (hb : Ev g b) : a = b := by
  obtain ⟨K, hK⟩ := ha
  obtain ⟨L, hL⟩ := hb
  exact Option.some.inj ((hK (K + L) (by omega)).symm.trans (hL (K + L) (by omega)))
theorem set_rd (l : List Int) (i : Int) : l.set i.toNat (rd l i) = l := by
  by_cases h : i.toNat < l.length
  · have e : rd l i = l[i.toNat] := by unfold rd; rw [List.getD_eq_getElem?_getD, List.getElem?_eq_getElem h]; rfl
    rw [e]; exact List.set_getElem_self h
  · exact List.set_eq_of_length_le (by omega)
theorem refF_eq (s : S39) (mem : List Int) (x : S45) : refF s mem x = takeF s mem x := by
  unfold refF takeF
  rw [set_rd]
section
variable {A : List Int} {B : List (List S39)} {mem : List Int} {ths : List S45}
theorem refStep_eq (A : List Int) (B : List (List S39)) (mem : List Int) (ths : List S45) (a : Int) : fencepostref10_Step.f A B mem ths a = sc_Step.f A B mem ths a := by
  unfold fencepostref10_Step.f sc_Step.f
  simp only [refF_eq]
theorem thOk_iff {m : Nat} {row : List S39} {x : S45} (hf : x.f3.length ≤ 300) : thOk m row x = true ↔ ThOk m row x := by
  have hodd : x.f3.any (oddF m) = false ↔ ∀ w ∈ x.f3, 0 ≤ w.f0 ∧ w.f0 < (m : Int) := by
    rw [List.any_eq_false]
    refine forall_congr' fun w => forall_congr' fun hw => ?_
    simp only [oddF, Bool.or_eq_true, decide_eq_true_eq]
    omega
  unfold thOk
  simp only [Bool.not_eq_true', Bool.or_eq_false_iff, decide_eq_false_iff_not, hodd]
  constructor
  · rintro ⟨h1, h2, h3, h4⟩
    exact ⟨by omega, by omega, by omega, hf, h4⟩
  · intro h
    exact ⟨by have := h.lo; omega, by have := h.hi; omega, fun hn => hn h.regs, h.locs⟩
theorem scRight_ev (A : List Int) (B : List (List S39)) (hf : FewSt mem ths) (hB : B.length ≤ 1000) : ∃ r, sc_Right.f A B mem ths = some r ∧ Ev (fun k => fencepostref10_Right.f k A B mem ths) r ∧ (r = true → StOk A B mem ths) := by
  obtain ⟨r, hr, hs⟩ := r10_ev A B hf
  have hft := hf.ft
  have big : bigB ths = true := by
    unfold bigB
    simp only [Bool.and_eq_true, decide_eq_true_eq, List.all_eq_true]
    refine ⟨by omega, fun x hx => ?_⟩
    obtain ⟨t, ht⟩ := List.getElem?_of_mem hx
    have := hf.rows t x ht
    omega
  refine ⟨r, ?_, hr, hs⟩
  unfold sc_Right.f
  rw [if_pos big]
  congr 1
  have key : (decide (mem.length = A.length) && (decide (ths.length = B.length) && rightB mem B ths)) = true ↔ StOk A B mem ths := by
    unfold rightB
    simp only [Bool.and_eq_true, decide_eq_true_eq, List.all_eq_true, List.mem_range]
    constructor
    · rintro ⟨h1, h2, h3⟩
      refine ⟨h1, h2, fun t x hx => ?_⟩
      have := h3 t (List.getElem?_eq_some_iff.1 hx).1
      rw [rdT_nat hx] at this
      exact (thOk_iff (hf.rows t x hx).2).1 this
    · intro h
      refine ⟨h.lm, h.lt, fun t ht => ?_⟩
      have hx := List.getElem?_eq_getElem ht
      rw [rdT_nat hx]
      exact (thOk_iff (hf.rows t _ hx).2).2 (h.th t _ hx)
  cases r with
  | true => exact key.2 (hs rfl)
  | false =>
    refine Bool.eq_false_iff.2 fun h => ?_
    have := Ev.uniq hr (right10_ev (key.1 h) hB)
    simp at this
theorem refBegin_l0 (hB : B.length ≤ 1000) : ∀ (d t : Nat), B.length - t ≤ d → t ≤ B.length → Ev (fun k => fencepostref10_Begin.l0 k (t : Int) A B A (List.replicate t th0)) (A, List.replicate B.length th0) := by
  have last : ∀ t : Nat, ¬ t < B.length → t ≤ B.length → Ev (fun k => fencepostref10_Begin.l0 k (t : Int) A B A (List.replicate t th0)) (A, List.replicate B.length th0) := by
    intro t h h2
    obtain rfl : t = B.length := by omega
    refine Ev.step (fun k => by rw [fencepostref10_Begin.l0]) ?_
    simp only [if_neg (show ¬ (B.length : Int) < (B.length : Int) by omega)]
    exact Ev.now _
  intro d
  induction d with
  | zero => intro t h1 h2; exact last t (by omega) h2
  | succ d ih =>
    intro t h1 h2
    by_cases c : t < B.length
    · refine Ev.step (fun k => by rw [fencepostref10_Begin.l0]) ?_
      simp only [if_pos (show (t : Int) < (B.length : Int) by omega), if_pos (show 4 ≤ 35184372088832 by decide), if_pos (show (List.replicate t th0).length < 2199023255552 by rw [List.length_replicate]; omega), w64 (show -9223372036854775808 ≤ (t : Int) + 1 by omega) (by omega)]
      have e : List.replicate t th0 ++ [(⟨0, (List.replicate 4 0), false, ([] : List S53)⟩ : S45)] = List.replicate (t + 1) th0 := by rw [List.replicate_succ' (n := t) (a := th0)]; rfl
      rw [e]
      exact ih (t + 1) (by omega) (by omega)
    · exact last t c h2
theorem refBegin_ev (hA : A.length ≤ 1000000) (hB : B.length ≤ 1000) : Ev (fun k => fencepostref10_Begin.f k A B) (A, List.replicate B.length th0) := by
  unfold fencepostref10_Begin.f
  simp only [Option.bind_some, List.nil_append, if_pos (show ([] : List Int).length + A.length < 17592186044416 by simp; omega)]
  exact refBegin_l0 hB B.length 0 (by omega) (by omega)
theorem tells_j0 (hc : CodeOk 80 A B) (hf : FewSt mem ths) (a : Int) : Ev (fun k => fencepostlaw10_ScTells.j0 k a true false A B mem ths) true := by
  have h3 := hc.locs
  have h4 := hc.few
  have hfm := hf.fm
  have hft := hf.ft
  obtain ⟨r, e1, e2, hs⟩ := scRight_ev A B hf (by omega)
  refine Ev.step (fun k => by rw [fencepostlaw10_ScTells.j0]) ?_
  simp only [Bool.false_eq_true, if_false, e1, Option.bind_some]
  refine Ev.bind e2 ?_
  have hb : sc_Begin.f A B = some (A, List.replicate B.length th0) := by unfold sc_Begin.f; rw [if_pos ⟨by omega, by omega⟩]
  simp only [bne_self_eq_false, Bool.false_eq_true, if_false, hb, Option.bind_some]
  refine Ev.bind (refBegin_ev (by omega) (by omega)) ?_
  refine Ev.bind (same10_refl A (List.replicate B.length th0) (by omega) (by rw [List.length_replicate]; omega) (fun t x hx => ?_)) ?_
  · have hm := List.mem_of_getElem? hx
    obtain rfl := List.eq_of_mem_replicate hm
    simp [th0]
  simp only [Bool.not_true]
  refine Ev.step (fun k => by rw [fencepostlaw10_ScTells.j1]) ?_
  simp only [Bool.false_eq_true, if_false]
  refine Ev.bind e2 ?_
  cases r with
  | false => simp only [Bool.false_eq_true, if_false]; exact Ev.now _
  | true =>
    have hst := hs rfl
    have hlm := hst.lm
    simp only [if_true, refStep_eq]
    rcases step_ok hc hst a with e | ⟨t, x, s, rfl, hx, hlt2, hse, hso, e, hst2, hgo, hhi⟩
    · simp only [e, Option.bind_some]
      refine Ev.bind (same10_refl mem ths (by omega) (by omega) (fun t x hx => by have := hf.rows t x hx; omega)) ?_
      simp only [if_true, beq_self_eq_true]
      exact Ev.now _
    · simp only [e, Option.bind_some]
      have l2 := hst2.lm
      refine Ev.bind (same10_refl _ _ (by omega) (by rw [List.length_set]; omega) (fun t x hx => by have := hst2.th t x hx; have h1 := this.regs; have h2 := this.few; omega)) ?_
      simp only [if_true, beq_self_eq_true]
      exact Ev.now _
end
end Go.Proofs.Ytdliojcpnkggnaa.Print
namespace Go.Proofs.Ytdliojcpnkggnaa.Pure
open Go.Proofs.Ytdliojcpnkggnaa.Print Go.RowKit Go.Proofs.YtdliojcpnkggnaaW.PrintWords Go.Proofs.YtdliojcpnkggnaaW.PrintLast Go.Proofs.YtdliojcpnkggnaaW.PrintMore
set_option linter.unusedVariables false
set_option linter.unusedSimpArgs false
theorem ScTells (x0 : S25) (x1 : S28) (x2 : Int) (g0 : ok25 x0) (g1 : ok28 x1) (g2 : (Lit.int .i64 x2).wf = true) : ∃ k, fencepostlaw10_ScTells.f k x0.f0 x0.f1 x1.f0 x1.f1 x2 = some true := by
  have no : Ev (fun k => fencepostlaw10_ScTells.j0 k x2 true true x0.f0 x0.f1 x1.f0 x1.f1) true := by
    refine Ev.step (fun k => by rw [fencepostlaw10_ScTells.j0]) ?_
    simp only [if_true]
    exact Ev.now _
  refine Ev.rounds (r := true) ?_
  unfold fencepostlaw10_ScTells.f
  simp only [fencepostlaw10_head.f, Option.bind_some]
  obtain ⟨g, hg, hok⟩ := great_ev x0.f0 x0.f1
  refine Ev.bind hg ?_
  cases g with
  | true => simp only [if_true]; exact no
  | false =>
    simp only [Bool.false_eq_true, if_false]
    have hc := hok rfl
    obtain ⟨q, hq, hw⟩ := wide_ev x1.f0 x1.f1
    refine Ev.bind hq ?_
    cases q with
    | true => exact no
    | false => exact tells_j0 hc (hw rfl) x2
end Go.Proofs.Ytdliojcpnkggnaa.Pure
