/- ref11.Step: its Lean function and its contract. -/
import Derived.Test.YtphklaajolpieaaHTsoNo
import Derived.Test.YtphklaajolpieaaHTsoDr
import Derived.Test.YtphklaajolpieaaHTsoEnd
import Derived.Test.YtphklaajolpieaaHTsoFull
import Derived.Test.YtphklaajolpieaaHTsoGo0
import Derived.Test.YtphklaajolpieaaHTsoGo1
namespace Go.Proofs.Ytphklaajolpieaa.Print
open Go.RowKit Go.Proofs.YtphklaajolpieaaW.PrintWords Go.Proofs.YtphklaajolpieaaW.PrintLast Go.Proofs.YtphklaajolpieaaW.PrintMore
set_option linter.unusedVariables false
set_option linter.unusedSimpArgs false
/-- What ref11.Step makes of a state; none: it is no step. -/
def tsoF (B : List (List S36)) (mem : List Int) (ths : List S49) (a : Int) (d : Bool) : Option (List Int × List S49) :=
 if a < 0 ∨ (ths.length : Int) ≤ a then none
 else if d = true then (if (drainF (rd_T49 ths a).f3 mem).2.2 = true then some ((drainF (rd_T49 ths a).f3 mem).2.1, ths.set a.toNat ⟨(rd_T49 ths a).f0, (rd_T49 ths a).f1, (rd_T49 ths a).f2, (drainF (rd_T49 ths a).f3 mem).1⟩) else none)
 else if ((rd_L2 B a).length : Int) ≤ (rd_T49 ths a).f0 then none
 else if 0 < (rd_T49 ths a).f3.length ∧ ((rd_T36 (rd_L2 B a) (rd_T49 ths a).f0).f0 = 6 ∨ (rd_T36 (rd_L2 B a) (rd_T49 ths a).f0).f0 = 5) then none
 else some ((tsoGo (rd_T36 (rd_L2 B a) (rd_T49 ths a).f0) mem (rd_T49 ths a)).1, ths.set a.toNat (tsoGo (rd_T36 (rd_L2 B a) (rd_T49 ths a).f0) mem (rd_T49 ths a)).2)
/-- What is handed back of a step. -/
def TP (o : Option (List Int × List S49)) (e : Ending) (w w' : World) : Prop :=
 ∃ (B0 : Option Addr) (n0 d0 : Nat) (B1 : Option Addr) (n1 d1 : Nat), e = .returned (.tuple #[.agg #[.slice B0 n0 d0, .slice B1 n1 d1], .bool o.isSome]) ∧ (∀ m' t', o = some (m', t') → Kd.V (Kd.int .i64) 3 w' w.heap.size (fun k_ => (w.heap.size ≤ k_)) (.slice B0 n0 d0) m' ∧ Kd.V k49 49 w' w.heap.size (fun k_ => (w.heap.size ≤ k_)) (.slice B1 n1 d1) t') ∧ Below w.heap.size w w'
/-- A program and a state that may be. -/
def okB (B : List (List S36)) (mem : List Int) (ths : List S49) : Bool := stateB B mem ths && B.all fun l => l.all fun s => stepB mem.length s
theorem TP.no {e : Ending} {w w' : World} {m : List Int} {t : List S49} (h : ∃ v0_ v1_ : Value, e = .returned (.tuple #[.agg #[v0_, v1_], .bool false]) ∧ Kd.V (Kd.int .i64) 3 w' w.heap.size (fun k_ => (w.heap.size ≤ k_)) v0_ m ∧ Kd.V k49 49 w' w.heap.size (fun k_ => (w.heap.size ≤ k_)) v1_ t ∧ Below w.heap.size w w') : TP none e w w' := by
 obtain ⟨v0, v1, h1, h2, h3, h4⟩ := h
 obtain ⟨A0, c0, rfl⟩ := Kd.V_slice h2
 obtain ⟨A1, c1, rfl⟩ := Kd.V_slice h3
 exact ⟨_, _, _, _, _, _, h1, fun _ _ h => (by cases h), h4⟩
theorem TP.yes {e : Ending} {w w' : World} {m : List Int} {t : List S49} (h : ∃ v0_ v1_ : Value, e = .returned (.tuple #[.agg #[v0_, v1_], .bool true]) ∧ Kd.V (Kd.int .i64) 3 w' w.heap.size (fun k_ => (w.heap.size ≤ k_)) v0_ m ∧ Kd.V k49 49 w' w.heap.size (fun k_ => (w.heap.size ≤ k_)) v1_ t ∧ Below w.heap.size w w') : TP (some (m, t)) e w w' := by
 obtain ⟨v0, v1, h1, h2, h3, h4⟩ := h
 obtain ⟨A0, c0, rfl⟩ := Kd.V_slice h2
 obtain ⟨A1, c1, rfl⟩ := Kd.V_slice h3
 exact ⟨_, _, _, _, _, _, h1, fun _ _ h => (by injection h with h; injection h with e1 e2; subst e1; subst e2; exact ⟨h2, h3⟩), h4⟩
theorem step_in {B : List (List S36)} {m : Nat} (hp : ∀ l ∈ B, ∀ s ∈ l, stepB m s = true) {t : Nat} (ht : t < B.length) {a : Int} (h0 : 0 ≤ a) (h1 : a < ((rd_L2 B (t : Int)).length : Int)) : stepB m (rd_T36 (rd_L2 B (t : Int)) a) = true := by
 have e : rd_L2 B (t : Int) = B[t] := by unfold rd_L2; rw [Int.toNat_natCast, List.getD_eq_getElem?_getD, List.getElem?_eq_getElem ht]; rfl
 rw [e] at h1 ⊢
 have e2 : rd_T36 B[t] a = B[t][a.toNat]'(by omega) := by unfold rd_T36; rw [List.getD_eq_getElem?_getD, List.getElem?_eq_getElem (by omega)]; rfl
 rw [e2]
 exact hp _ (List.getElem_mem _) _ (List.getElem_mem _)
/-- The same, the state told where it is no step, too. -/
def TV (mem : List Int) (ths : List S49) (o : Option (List Int × List S49)) (e : Ending) (w w' : World) : Prop :=
 ∃ v0_ v1_ : Value, e = .returned (.tuple #[.agg #[v0_, v1_], .bool o.isSome]) ∧ Kd.V (Kd.int .i64) 3 w' w.heap.size (fun k_ => (w.heap.size ≤ k_)) v0_ (o.getD (mem, ths)).1 ∧ Kd.V k49 49 w' w.heap.size (fun k_ => (w.heap.size ≤ k_)) v1_ (o.getD (mem, ths)).2 ∧ Below w.heap.size w w'
theorem TV.no {e : Ending} {w w' : World} {m : List Int} {t : List S49} (h : ∃ v0_ v1_ : Value, e = .returned (.tuple #[.agg #[v0_, v1_], .bool false]) ∧ Kd.V (Kd.int .i64) 3 w' w.heap.size (fun k_ => (w.heap.size ≤ k_)) v0_ m ∧ Kd.V k49 49 w' w.heap.size (fun k_ => (w.heap.size ≤ k_)) v1_ t ∧ Below w.heap.size w w') : TV m t none e w w' := h
theorem TV.yes {e : Ending} {w w' : World} {m0 : List Int} {t0 : List S49} {m : List Int} {t : List S49} (h : ∃ v0_ v1_ : Value, e = .returned (.tuple #[.agg #[v0_, v1_], .bool true]) ∧ Kd.V (Kd.int .i64) 3 w' w.heap.size (fun k_ => (w.heap.size ≤ k_)) v0_ m ∧ Kd.V k49 49 w' w.heap.size (fun k_ => (w.heap.size ≤ k_)) v1_ t ∧ Below w.heap.size w w') : TV m0 t0 (some (m, t)) e w w' := h
theorem TV.toTP {m0 : List Int} {t0 : List S49} {o : Option (List Int × List S49)} {e : Ending} {w w' : World} (h : TV m0 t0 o e w w') : TP o e w w' := by
 cases o with
 | none => exact TP.no h
 | some p => obtain ⟨m, t⟩ := p; exact TP.yes h
theorem tsoV_calls (A0_0 : Option Addr) (c0_0 : Nat) (l0_0 : List Int) (A0_1 : Option Addr) (c0_1 : Nat) (l0_1 : List (List S36)) (A1_0 : Option Addr) (c1_0 : Nat) (l1_0 : List Int) (A1_1 : Option Addr) (c1_1 : Nat) (l1_1 : List S49) (a2 : Int) (d : Bool) (w : World)
 (hr0_0 : Kd.C (Kd.int .i64) w A0_0 l0_0.length l0_0) (hc0_0 : l0_0.length ≤ c0_0) (hr0_1 : Kd.C (Kd.slice 36 k36) w A0_1 l0_1.length l0_1) (hc0_1 : l0_1.length ≤ c0_1) (hr1_0 : Kd.C (Kd.int .i64) w A1_0 l1_0.length l1_0) (hc1_0 : l1_0.length ≤ c1_0) (hr1_1 : Kd.C k49 w A1_1 l1_1.length l1_1) (hc1_1 : l1_1.length ≤ c1_1)
 (h : okB l0_1 l1_0 l1_1 = true) :
 Calls Try.prog 14 #[.agg #[.slice A0_0 l0_0.length c0_0, .slice A0_1 l0_1.length c0_1], .agg #[.slice A1_0 l1_0.length c1_0, .slice A1_1 l1_1.length c1_1], .agg #[.int .i64 a2, .bool d]] w fun e w' => TV l1_0 l1_1 (tsoF l0_1 l1_0 l1_1 a2 d) e w w' := by
 unfold okB at h
 simp only [Bool.and_eq_true, List.all_eq_true] at h
 obtain ⟨hst, hpr⟩ := h
 obtain ⟨b1, b2, b3, b4, b5⟩ := stateB_of hst
 obtain ⟨kk, hown⟩ := own_some (fun x hx => ⟨(b4 x hx).1, (b4 x hx).2.1⟩) b2 b1
 unfold tsoF
 by_cases q1 : a2 < 0 ∨ (l1_1.length : Int) ≤ a2
 ·rw [if_pos q1]
  exact (tso_no A0_0 c0_0 l0_0 A0_1 c0_1 l0_1 A1_0 c1_0 l1_0 A1_1 c1_1 l1_1 a2 d kk w hr0_0 hc0_0 hr0_1 hc0_1 hr1_0 hc1_0 hr1_1 hc1_1 hown q1).mono (fun e w' hh => TV.no hh)
 rw [if_neg q1]
 obtain ⟨t, rfl⟩ : ∃ t : Nat, a2 = (t : Int) := ⟨a2.toNat, by omega⟩
 have ht : t < l1_1.length := by omega
 obtain ⟨x, hx⟩ : ∃ x, l1_1[t]? = some x := ⟨_, List.getElem?_eq_getElem ht⟩
 have hxe : rd_T49 l1_1 (t : Int) = x := by unfold rd_T49; rw [Int.toNat_natCast, List.getD_eq_getElem?_getD, hx]; rfl
 rw [hxe, Int.toNat_natCast]
 obtain ⟨hx1, hx3, hx0, hx9⟩ := b4 x (List.mem_of_getElem? hx)
 cases d with
 | true =>
  rw [if_pos rfl]
  cases hq : (drainF x.f3 l1_0).2.2 with
  | true =>
   rw [if_pos rfl]
   exact (tso_dr1 A0_0 c0_0 l0_0 A0_1 c0_1 l0_1 A1_0 c1_0 l1_0 A1_1 c1_1 l1_1 t x (drainF x.f3 l1_0).1 (drainF x.f3 l1_0).2.1 kk w hr0_0 hc0_0 hr0_1 hc0_1 hr1_0 hc1_0 hr1_1 hc1_1 hown hx hx1 (by rw [rdrain_f hx3 b1, ← hq])).mono (fun e w' hh => TV.yes hh)
  | false =>
   rw [if_neg (by decide)]
   exact (tso_dr0 A0_0 c0_0 l0_0 A0_1 c0_1 l0_1 A1_0 c1_0 l1_0 A1_1 c1_1 l1_1 t x (drainF x.f3 l1_0).1 (drainF x.f3 l1_0).2.1 kk w hr0_0 hc0_0 hr0_1 hc0_1 hr1_0 hc1_0 hr1_1 hc1_1 hown hx hx1 (by rw [rdrain_f hx3 b1, ← hq])).mono (fun e w' hh => TV.no hh)
 | false =>
  rw [if_neg (by decide)]
  by_cases q3 : ((rd_L2 l0_1 (t : Int)).length : Int) ≤ x.f0
  ·rw [if_pos q3]
   exact (tso_end A0_0 c0_0 l0_0 A0_1 c0_1 l0_1 A1_0 c1_0 l1_0 A1_1 c1_1 l1_1 t x ⟨0, 0, 0, 0, 0⟩ 0 kk w hr0_0 hc0_0 hr0_1 hc0_1 hr1_0 hc1_0 hr1_1 hc1_1 hown hx hx1 hx0 hx9 hx3 (ats_no b3 (t : Int) (.inr (.inr (by rw [hxe]; exact q3)))) rfl).mono (fun e w' hh => TV.no hh)
  rw [if_neg q3]
  have hat := ats_yes (A := l0_0) (mem := l1_0) b3 hx hx0 (by omega)
  have q4 := step_in hpr (t := t) (by omega) hx0 (by omega)
  generalize rd_T36 (rd_L2 l0_1 (t : Int)) x.f0 = s at q4 hat ⊢
  unfold stepB at q4
  simp only [Bool.and_eq_true, Bool.or_eq_true, Bool.not_eq_true', Bool.or_eq_false_iff, decide_eq_true_eq, beq_eq_false_iff_ne] at q4
  obtain ⟨⟨s1, s2⟩, ⟨s3, s4⟩, s5⟩ := q4
  have hr : s.f1 = ((s.f1.toNat : Nat) : Int) := by omega
  by_cases q5 : 0 < x.f3.length ∧ (s.f0 = 6 ∨ s.f0 = 5)
  ·rw [if_pos q5]
   exact (tso_full A0_0 c0_0 l0_0 A0_1 c0_1 l0_1 A1_0 c1_0 l1_0 A1_1 c1_1 l1_1 t x s s.f1.toNat kk w hr0_0 hc0_0 hr0_1 hc0_1 hr1_0 hc1_0 hr1_1 hc1_1 hown hx hx1 hx0 hx9 hx3 hat hr q5.1 q5.2).mono (fun e w' hh => TV.no hh)
  rw [if_neg q5]
  by_cases q6 : x.f3.length = 0
  ·exact (tso_go0 A0_0 c0_0 l0_0 A0_1 c0_1 l0_1 A1_0 c1_0 l1_0 A1_1 c1_1 l1_1 t x s s.f1.toNat kk w hr0_0 hc0_0 hr0_1 hc0_1 hr1_0 hc1_0 hr1_1 hc1_1 hown hx hx1 hx0 hx9 hx3 hat ⟨s1, s2⟩ hr (by omega) (fun hh => by rcases s5 with s5 | s5 <;> omega) q6).mono (fun e w' hh => TV.yes hh)
  ·have q7 : 0 < x.f3.length := by omega
   exact (tso_go1 A0_0 c0_0 l0_0 A0_1 c0_1 l0_1 A1_0 c1_0 l1_0 A1_1 c1_1 l1_1 t x s s.f1.toNat kk w hr0_0 hc0_0 hr0_1 hc0_1 hr1_0 hc1_0 hr1_1 hc1_1 hown hx hx1 hx0 hx9 hx3 hat ⟨s1, s2⟩ hr (by omega) (fun hh => by rcases s5 with s5 | s5 <;> omega) q7 (fun e => q5 ⟨q7, .inl e⟩) (fun e => q5 ⟨q7, .inr e⟩)).mono (fun e w' hh => TV.yes hh)
theorem tso_calls (A0_0 : Option Addr) (c0_0 : Nat) (l0_0 : List Int) (A0_1 : Option Addr) (c0_1 : Nat) (l0_1 : List (List S36)) (A1_0 : Option Addr) (c1_0 : Nat) (l1_0 : List Int) (A1_1 : Option Addr) (c1_1 : Nat) (l1_1 : List S49) (a2 : Int) (d : Bool) (w : World)
 (hr0_0 : Kd.C (Kd.int .i64) w A0_0 l0_0.length l0_0) (hc0_0 : l0_0.length ≤ c0_0) (hr0_1 : Kd.C (Kd.slice 36 k36) w A0_1 l0_1.length l0_1) (hc0_1 : l0_1.length ≤ c0_1) (hr1_0 : Kd.C (Kd.int .i64) w A1_0 l1_0.length l1_0) (hc1_0 : l1_0.length ≤ c1_0) (hr1_1 : Kd.C k49 w A1_1 l1_1.length l1_1) (hc1_1 : l1_1.length ≤ c1_1)
 (h : okB l0_1 l1_0 l1_1 = true) :
 Calls Try.prog 14 #[.agg #[.slice A0_0 l0_0.length c0_0, .slice A0_1 l0_1.length c0_1], .agg #[.slice A1_0 l1_0.length c1_0, .slice A1_1 l1_1.length c1_1], .agg #[.int .i64 a2, .bool d]] w fun e w' => TP (tsoF l0_1 l1_0 l1_1 a2 d) e w w' :=
 (tsoV_calls A0_0 c0_0 l0_0 A0_1 c0_1 l0_1 A1_0 c1_0 l1_0 A1_1 c1_1 l1_1 a2 d w hr0_0 hc0_0 hr0_1 hc0_1 hr1_0 hc1_0 hr1_1 hc1_1 h).mono (fun _ _ hh => hh.toTP)
end Go.Proofs.Ytphklaajolpieaa.Print
