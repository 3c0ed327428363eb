/- ref13.Step's Lean function; ref10.Step's contract, told in the same words. -/
import Derived.Test.YteobpfgncohloaaHTso
namespace Go.Proofs.Yteobpfgncohloaa.Print
open Go.RowKit Go.Proofs.YteobpfgncohloaaW.PrintWords Go.Proofs.YteobpfgncohloaaW.PrintLast Go.Proofs.YteobpfgncohloaaW.PrintMore
set_option linter.unusedVariables false
set_option linter.unusedSimpArgs false
theorem TP.mk {o : Option (List Int × List S39)} {e : Ending} {w w' : World} {B0 : Option Addr} {n0 d0 : Nat} {B1 : Option Addr} {n1 d1 : Nat} {b : Bool} (h1 : e = .returned (.tuple #[.agg #[.slice B0 n0 d0, .slice B1 n1 d1], .bool b])) (hb : o.isSome = b) (h2 : ∀ m' t', o = some (m', t') → Kd.V (Kd.int .i64) 3 w' w.heap.size (fun k_ => (w.heap.size ≤ k_)) (.slice B0 n0 d0) m' ∧ Kd.V k39 39 w' w.heap.size (fun k_ => (w.heap.size ≤ k_)) (.slice B1 n1 d1) t') (h3 : Below w.heap.size w w') : TP o e w w' := by
 subst hb
 exact ⟨_, _, _, _, _, _, h1, h2, h3⟩
def strF (B : List (List S42)) (mem : List Int) (ths : List S39) (a : Int) : Option (List Int × List S39) :=
 if a < 0 ∨ (ths.length : Int) ≤ a then none
 else if ((rd_L2 B a).length : Int) ≤ (rd_T39 ths a).f0 then none
 else some ((refF (rd_T42 (rd_L2 B a) (rd_T39 ths a).f0) mem (rd_T39 ths a)).1, ths.set a.toNat (refF (rd_T42 (rd_L2 B a) (rd_T39 ths a).f0) mem (rd_T39 ths a)).2)
/-- What ref13.Step makes of a state. -/
def rstF (B : List (List S42)) (mem : List Int) (ths : List S39) (k : S51) (weak : Bool) : Option (List Int × List S39) :=
 if weak = true then tsoF B mem ths k.f0 k.f1 else if k.f1 = true then none else strF B mem ths k.f0
theorem str_calls (A0_0 : Option Addr) (c0_0 : Nat) (l0_0 : List Int) (A0_1 : Option Addr) (c0_1 : Nat) (l0_1 : List (List S42)) (A1_0 : Option Addr) (c1_0 : Nat) (l1_0 : List Int) (A1_1 : Option Addr) (c1_1 : Nat) (l1_1 : List S39) (a2 : Int) (w : World)
 (hr0_0 : Kd.C (Kd.int .i64) w A0_0 l0_0.length l0_0) (hc0_0 : l0_0.length ≤ c0_0) (hr0_1 : Kd.C (Kd.slice 42 k42) w A0_1 l0_1.length l0_1) (hc0_1 : l0_1.length ≤ c0_1) (hr1_0 : Kd.C (Kd.int .i64) w A1_0 l1_0.length l1_0) (hc1_0 : l1_0.length ≤ c1_0) (hr1_1 : Kd.C k39 w A1_1 l1_1.length l1_1) (hc1_1 : l1_1.length ≤ c1_1)
 (h : okB l0_1 l1_0 l1_1 = true) :
 Calls Try.prog 22 #[.agg #[.slice A0_0 l0_0.length c0_0, .slice A0_1 l0_1.length c0_1], .agg #[.slice A1_0 l1_0.length c1_0, .slice A1_1 l1_1.length c1_1], .int .i64 a2] w fun e w' => TP (strF l0_1 l1_0 l1_1 a2) e w w' := by
 unfold okB at h
 simp only [Bool.and_eq_true, List.all_eq_true] at h
 obtain ⟨hst, hpr⟩ := h
 obtain ⟨b1, b2, b3, b4, b5⟩ := stateB_of hst
 have key : ∀ (r1 : List Int) (r2 : List S39) (r3 : Bool), fencepostref10_Step.f l0_0 l0_1 l1_0 l1_1 a2 = some (r1, r2, r3) → ∀ o : Option (List Int × List S39), o.isSome = r3 → (∀ m t, o = some (m, t) → m = r1 ∧ t = r2) → Calls Try.prog 22 #[.agg #[.slice A0_0 l0_0.length c0_0, .slice A0_1 l0_1.length c0_1], .agg #[.slice A1_0 l1_0.length c1_0, .slice A1_1 l1_1.length c1_1], .int .i64 a2] w fun e w' => TP o e w w' := by
  intro r1 r2 r3 hf o ho hm
  refine (fencepostref10_Step.calls A0_0 c0_0 l0_0 A0_1 c0_1 l0_1 A1_0 c1_0 l1_0 A1_1 c1_1 l1_1 a2 r1 r2 r3 w hr0_0 hc0_0 hr0_1 hc0_1 hr1_0 hc1_0 hr1_1 hc1_1 hf).mono ?_
  rintro e w' ⟨v0, v1, rfl, h0, h1, hb⟩
  obtain ⟨A0, c0, rfl⟩ := Kd.V_slice h0
  obtain ⟨A1, c1, rfl⟩ := Kd.V_slice h1
  exact TP.mk rfl ho (fun m t hh => by obtain ⟨e1, e2⟩ := hm m t hh; subst e1; subst e2; exact ⟨h0, h1⟩) hb
 unfold strF
 by_cases q1 : a2 < 0 ∨ (l1_1.length : Int) ≤ a2
 ·rw [if_pos q1]
  exact key l1_0 l1_1 false (by unfold fencepostref10_Step.f; rw [if_pos hst, if_pos q1]) none rfl (fun _ _ h => by cases h)
 rw [if_neg q1]
 by_cases q3 : ((rd_L2 l0_1 a2).length : Int) ≤ (rd_T39 l1_1 a2).f0
 ·rw [if_pos q3]
  exact key l1_0 l1_1 false (by unfold fencepostref10_Step.f; rw [if_pos hst, if_neg q1, if_pos q3]) none rfl (fun _ _ h => by cases h)
 rw [if_neg q3]
 obtain ⟨t, rfl⟩ : ∃ t : Nat, a2 = (t : Int) := ⟨a2.toNat, by omega⟩
 have ht : t < l1_1.length := by omega
 have hx0 : 0 ≤ (rd_T39 l1_1 (t : Int)).f0 := by
  have e : rd_T39 l1_1 (t : Int) = l1_1[t] := by unfold rd_T39; rw [Int.toNat_natCast, List.getD_eq_getElem?_getD, List.getElem?_eq_getElem ht]; rfl
  rw [e]; exact (b4 _ (List.getElem_mem ht)).2.2.1
 have q4 := step_in hpr (t := t) (by omega) hx0 (by omega)
 exact key _ _ true (by unfold fencepostref10_Step.f; rw [if_pos hst, if_neg q1, if_neg q3, if_pos q4]) _ rfl (fun m t' hh => by injection hh with hh; injection hh with e1 e2; exact ⟨e1.symm, e2.symm⟩)
end Go.Proofs.Yteobpfgncohloaa.Print
