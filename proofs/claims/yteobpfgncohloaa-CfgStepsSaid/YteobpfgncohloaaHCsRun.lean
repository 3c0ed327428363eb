/- A run of a code that may be: where its threads are they have come by a way. -/
import Derived.Test.YteobpfgncohloaaHRunInv
import Derived.Test.YteobpfgncohloaaHCsMet
namespace Go.Proofs.Yteobpfgncohloaa.Print
open Go.RowKit Go.Proofs.YteobpfgncohloaaW.PrintWords Go.Proofs.YteobpfgncohloaaW.PrintLast Go.Proofs.YteobpfgncohloaaW.PrintMore
set_option linter.unusedVariables false
set_option linter.unusedSimpArgs false
theorem refF_place (s : S42) (mem : List Int) (x : S39) : (refF s mem x).2.f0 ∈ nextOf s x.f0 := by
 unfold refF nextOf
 repeat' split
 all_goals simp_all
theorem refF_keeps (s : S42) (mem : List Int) (x : S39) : (refF s mem x).2.f3 = x.f3 ∧ (refF s mem x).1.length = mem.length := by
 unfold refF
 repeat' split
 all_goals simp
theorem tsoGo_keeps (s : S42) (mem : List Int) (x : S39) : (tsoGo s mem x).2.f0 = (refF s mem x).2.f0 ∧ (tsoGo s mem x).2.f1.length = x.f1.length ∧ (tsoGo s mem x).2.f3.length ≤ x.f3.length + 1 ∧ (tsoGo s mem x).1.length = mem.length := by
 have h1 := refF_len s mem x
 have h2 := refF_keeps s mem x
 unfold tsoGo
 split
 ·refine ⟨rfl, by simp [h1], by show (refF s mem x).2.f3.length ≤ _; rw [h2.1]; omega, h2.2⟩
 ·split
  ·exact ⟨rfl, h1, by simp, rfl⟩
  ·split
   ·exact ⟨rfl, h1, by simp, rfl⟩
   ·exact ⟨rfl, h1, by rw [h2.1]; omega, h2.2⟩
theorem drainF_keeps (l : List S69) (m : List Int) : (drainF l m).1.length ≤ l.length ∧ (drainF l m).2.1.length = m.length := by
 unfold drainF
 split
 ·simp
 ·split <;> simp
/-- What holds of each state of a run. -/
structure RunOk (A : List Int) (B : List (List S42)) (mem : List Int) (ths : List S39) (i : Nat) : Prop where
 m : mem.length = A.length
 t : ths.length = B.length
 x : ∀ (j : Nat) (x : S39), ths[j]? = some x → x.f1.length = 4 ∧ x.f3.length ≤ i ∧ At (rd_L2 B (j : Int)) x.f0
section
variable {A : List Int} {B : List (List S42)} {mem : List Int} {ths : List S39} {i : Nat}
theorem row_at {j : Nat} (hj : j < B.length) : rd_L2 B (j : Int) = B[j] := by
 unfold rd_L2; rw [Int.toNat_natCast, List.getD_eq_getElem?_getD, List.getElem?_eq_getElem hj]; rfl
theorem RunOk.okB (hc : CodeOk 80 A B) (h : RunOk A B mem ths i) (hi : i ≤ 1000) : okB B mem ths = true := by
 have hm := h.m
 have ht := h.t
 have h1 := hc.locs
 have h2 := hc.few
 unfold Print.okB stateB
 simp only [Bool.and_eq_true, decide_eq_true_eq, List.all_eq_true]
 refine ⟨⟨by omega, by omega, ht, ⟨fun x hx => ?_, fun l hl => ?_⟩⟩, fun l hl s hs => ?_⟩
 ·obtain ⟨j, hj⟩ := List.getElem?_of_mem hx
  obtain ⟨a, b, c0, c1, _⟩ := h.x j x hj
  have hjl : j < ths.length := (List.getElem?_eq_some_iff.1 hj).1
  have := (hc.rows (j : Int) (by omega) (by omega)).1
  exact ⟨a, by omega, c0, by omega⟩
 ·obtain ⟨j, hj, e⟩ := List.getElem_of_mem hl
  have := (hc.rows (j : Int) (by omega) (by omega)).1
  rw [row_at hj, e] at this
  omega
 ·obtain ⟨j, hj, e⟩ := List.getElem_of_mem hl
  have hr := (hc.rows (j : Int) (by omega) (by omega)).2
  rw [row_at hj, e] at hr
  obtain ⟨q, hq, e2⟩ := List.getElem_of_mem hs
  have hs2 := hr (q : Int) (by omega) (by omega)
  have e3 : rd_T42 l (q : Int) = s := by unfold rd_T42; rw [Int.toNat_natCast, List.getD_eq_getElem?_getD, List.getElem?_eq_getElem hq, e2]; rfl
  rw [e3, ← hm] at hs2
  have o1 := hs2.op
  have o2 := hs2.reg
  unfold stepB
  simp only [Bool.and_eq_true, Bool.or_eq_true, Bool.not_eq_true', Bool.or_eq_false_iff, decide_eq_true_eq, beq_eq_false_iff_ne]
  refine ⟨⟨o1.1, o1.2⟩, ⟨o2.1, by omega⟩, ?_⟩
  by_cases k : s.f0 = 2 ∨ s.f0 = 3 ∨ s.f0 = 4 ∨ s.f0 = 5
  ·exact .inr (hs2.loc k)
  ·exact .inl ⟨⟨⟨fun e => k (.inl e), fun e => k (.inr (.inl e))⟩, fun e => k (.inr (.inr (.inl e)))⟩, fun e => k (.inr (.inr (.inr e)))⟩
theorem RunOk.put (h : RunOk A B mem ths i) {m : List Int} (hm : m.length = mem.length) {t : Nat} {x : S39} (hx : x.f1.length = 4 ∧ x.f3.length ≤ i + 1 ∧ At (rd_L2 B (t : Int)) x.f0) : RunOk A B m (ths.set t x) (i + 1) := by
 refine ⟨by rw [hm]; exact h.m, by rw [List.length_set]; exact h.t, fun j y hj => ?_⟩
 by_cases e : j = t
 ·subst e
  have hl : j < ths.length := by have := (List.getElem?_eq_some_iff.1 hj).1; rwa [List.length_set] at this
  rw [List.getElem?_set_self hl] at hj
  obtain rfl := Option.some.inj hj
  exact hx
 ·rw [List.getElem?_set_ne (fun e' => e e'.symm)] at hj
  obtain ⟨a, b, c⟩ := h.x j y hj
  exact ⟨a, by omega, c⟩
theorem RunOk.step (hc : CodeOk 80 A B) (h : RunOk A B mem ths i) {k : S51} {weak : Bool} {m : List Int} {t : List S39} (he : rstF B mem ths k weak = some (m, t)) : RunOk A B m t (i + 1) := by
 have ht := h.t
 -- a thread that is
 have thr : ∀ a : Int, ¬ (a < 0 ∨ (ths.length : Int) ≤ a) → ∃ (j : Nat) (x : S39), a = (j : Int) ∧ j < B.length ∧ rd_T39 ths a = x ∧ x.f1.length = 4 ∧ x.f3.length ≤ i ∧ At (rd_L2 B (j : Int)) x.f0 := fun a ha => by
  obtain ⟨j, rfl⟩ : ∃ j : Nat, a = (j : Int) := ⟨a.toNat, by omega⟩
  have hj : j < ths.length := by omega
  refine ⟨j, ths[j], rfl, by omega, ?_, h.x j _ (List.getElem?_eq_getElem hj)⟩
  unfold rd_T39; rw [Int.toNat_natCast, List.getD_eq_getElem?_getD, List.getElem?_eq_getElem hj]; rfl
 have go : ∀ (j : Nat) (x : S39) (b : Int), j < B.length → At (rd_L2 B (j : Int)) x.f0 → ¬ ((rd_L2 B (j : Int)).length : Int) ≤ x.f0 → b ∈ nextOf (rd_T42 (rd_L2 B (j : Int)) x.f0) x.f0 → At (rd_L2 B (j : Int)) b := fun j x b hj hA hl hb => by
  have hF := fwd_of (fwdB_row (hc.rows (j : Int) (by omega) (by omega)).2)
  refine hA.next hF ?_
  unfold nexts
  rw [if_neg (by have := hA.1; omega), if_pos (by omega)]
  exact hb
 unfold rstF at he
 cases weak with
 | true =>
  rw [if_pos rfl] at he
  unfold tsoF at he
  by_cases q1 : k.f0 < 0 ∨ (ths.length : Int) ≤ k.f0
  ·rw [if_pos q1] at he; cases he
  rw [if_neg q1] at he
  obtain ⟨j, x, e1, hj, e2, x1, x3, xA⟩ := thr k.f0 q1
  rw [e2, e1, Int.toNat_natCast] at he
  by_cases q2 : k.f1 = true
  ·rw [if_pos q2] at he
   by_cases q3 : (drainF x.f3 mem).2.2 = true
   ·rw [if_pos q3] at he
    injection he with he
    injection he with e3 e4
    subst e3; subst e4
    have := drainF_keeps x.f3 mem
    exact h.put this.2 ⟨x1, by show (drainF x.f3 mem).1.length ≤ _; omega, xA⟩
   ·rw [if_neg q3] at he; cases he
  rw [if_neg q2] at he
  by_cases q4 : ((rd_L2 B (j : Int)).length : Int) ≤ x.f0
  ·rw [if_pos q4] at he; cases he
  rw [if_neg q4] at he
  split at he
  ·cases he
  ·injection he with he
   injection he with e3 e4
   subst e3; subst e4
   obtain ⟨k0, k1, k3, km⟩ := tsoGo_keeps (rd_T42 (rd_L2 B (j : Int)) x.f0) mem x
   exact h.put km ⟨by rw [k1]; exact x1, by omega, by rw [k0]; exact go j x _ hj xA q4 (refF_place _ _ _)⟩
 | false =>
  rw [if_neg (by decide)] at he
  by_cases q2 : k.f1 = true
  ·rw [if_pos q2] at he; cases he
  rw [if_neg q2] at he
  unfold strF at he
  by_cases q1 : k.f0 < 0 ∨ (ths.length : Int) ≤ k.f0
  ·rw [if_pos q1] at he; cases he
  rw [if_neg q1] at he
  obtain ⟨j, x, e1, hj, e2, x1, x3, xA⟩ := thr k.f0 q1
  rw [e2, e1, Int.toNat_natCast] at he
  by_cases q4 : ((rd_L2 B (j : Int)).length : Int) ≤ x.f0
  ·rw [if_pos q4] at he; cases he
  rw [if_neg q4] at he
  injection he with he
  injection he with e3 e4
  subst e3; subst e4
  have k1 := refF_len (rd_T42 (rd_L2 B (j : Int)) x.f0) mem x
  have k2 := refF_keeps (rd_T42 (rd_L2 B (j : Int)) x.f0) mem x
  exact h.put k2.2 ⟨by rw [k1]; exact x1, by rw [k2.1]; omega, go j x _ hj xA q4 (refF_place _ _ _)⟩
theorem run_ok (hc : CodeOk 80 A B) (weak : Bool) : ∀ (l : List S51) (i : Nat) (n : Int) (mem : List Int) (ths : List S39), RunOk A B mem ths i → i + l.length ≤ 1000 → ∃ r1 r2 r3 r4, runL B weak l n mem ths = some (r1, r2, r3, r4) ∧ ∃ j, RunOk A B r1 r2 j := by
 intro l
 induction l with
 | nil => intro i n mem ths h hi; exact ⟨mem, ths, n, true, rfl, i, h⟩
 | cons k l ih =>
  intro i n mem ths h hi
  rw [List.length_cons] at hi
  rw [runL, if_pos (h.okB hc (by omega))]
  cases he : rstF B mem ths k weak with
  | none => exact ⟨mem, ths, n, false, rfl, i, h⟩
  | some p => obtain ⟨m, t⟩ := p; exact ih (i + 1) (n + 1) m t (h.step hc he) (by omega)
theorem run_begin (A : List Int) (B : List (List S42)) : RunOk A B A (List.replicate B.length th0) 0 :=
 ⟨rfl, List.length_replicate .., fun j x hj => by
  rw [List.getElem?_replicate] at hj
  split at hj
  ·obtain rfl := Option.some.inj hj; exact ⟨rfl, Nat.le_refl _, Int.le_refl _, by show (0 : Int) ≤ _; omega, .inl rfl⟩
  ·cases hj⟩
end
end Go.Proofs.Yteobpfgncohloaa.Print
