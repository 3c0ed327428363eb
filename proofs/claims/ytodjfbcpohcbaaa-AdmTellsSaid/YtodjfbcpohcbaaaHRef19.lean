/- What ref19's pending and Slots, and adm.Slots, answer: plain Lean. -/
import Derived.Test.YtodjfbcpohcbaaaPrint6
import Derived.Test.YtodjfbcpohcbaaaHRef18
import Derived.Test.YtodjfbcpohcbaaaHAdmBase
import Derived.Test.YtodjfbcpohcbaaaHAdm
namespace Go.Proofs.Ytodjfbcpohcbaaa.Print
open Go.RowKit Go.Maps Go.Proofs.YtodjfbcpohcbaaaW.PrintWords Go.Proofs.YtodjfbcpohcbaaaW.PrintLast Go.Proofs.YtodjfbcpohcbaaaW.PrintMore
set_option linter.unusedVariables false
set_option linter.unusedSimpArgs false

theorem wcast (i : Nat) (h : i ≤ 1000000) : wrap64 ((i : Int) + 1) = ((i + 1 : Nat) : Int) := by unfold wrap64; omega
theorem writes_f (s0 s1 s2 s3 s4 : Int) : fencepostref19_Writes.f s0 s1 s2 s3 s4 = some (s0 == 3 || s0 == 4) := by
  unfold fencepostref19_Writes.f
  by_cases c : s0 = 3
  · simp [c]
  · simp [c]
theorem pending_l0 (l : List S49) (hl : l.length ≤ 80) (hF : Fwd l) (at_ : Nat) (ha : at_ ≤ l.length) : ∀ (n i : Nat), at_ - i ≤ n → i ≤ at_ → (List.range i).any (aheadAt l (metF l) at_) = false → Ev (fun k => fencepostref19_pending.l0 k l (at_ : Int) (metF l) (i : Int)) (aheadF l (metF l) at_) := by
  intro n
  induction n with
  | zero =>
    intro i h h1 h2
    obtain rfl : i = at_ := by omega
    have : aheadF l (metF l) i = false := h2
    rw [this]
    refine Ev.step (fun k => by rw [fencepostref19_pending.l0]) ?_
    simp only [if_neg (show ¬ (i : Int) < (i : Int) by omega)]
    exact Ev.now false
  | succ n ih =>
    intro i h h1 h2
    by_cases c : i < at_
    · have hm : (metF l).length = l.length + 1 := metF_length l
      have nxt : (aheadAt l (metF l) at_ i = false) → Ev (fun k => fencepostref19_pending.l0 k l (at_ : Int) (metF l) (wrap64 ((i : Int) + 1))) (aheadF l (metF l) at_) := fun e => by
        rw [wcast i (by omega)]
        refine ih (i + 1) (by omega) (by omega) ?_
        rw [List.range_succ, List.any_append, h2, List.any_cons, e]; rfl
      refine Ev.step (fun k => by rw [fencepostref19_pending.l0]) ?_
      simp only [if_pos (show (i : Int) < (at_ : Int) by omega), if_pos (show (0 : Int) ≤ (i : Int) by omega), if_pos (show (i : Int) < ((metF l).length : Int) by omega), if_pos (show (i : Int) < (l.length : Int) by omega), writes_f, Option.bind_some]
      cases hme : rdOf false (metF l) (i : Int) with
      | false => simp only [Bool.false_eq_true, if_false]; exact nxt (by unfold aheadAt; rw [hme]; rfl)
      | true =>
        simp only [if_true]
        cases hw : ((rd_T49 l (i : Int)).f0 == 3 || (rd_T49 l (i : Int)).f0 == 4) with
        | false => simp only [Bool.false_eq_true, if_false]; exact nxt (by unfold aheadAt; rw [hme, hw]; rfl)
        | true =>
          simp only [if_true]
          refine Ev.bind (rfree_ev l hl hF (i : Int) (at_ : Int)) ?_
          cases hf : freeD l (i : Int) (at_ : Int) with
          | false => simp only [Bool.false_eq_true, if_false]; exact nxt (by unfold aheadAt; rw [hme, hw]; exact hf)
          | true =>
            simp only [if_true]
            have : aheadF l (metF l) at_ = true := by
              unfold aheadF
              rw [List.any_eq_true]
              exact ⟨i, by simpa using c, by unfold aheadAt; rw [hme, hw]; exact hf⟩
            rw [this]; exact Ev.now true
    · obtain rfl : i = at_ := by omega
      have : aheadF l (metF l) i = false := h2
      rw [this]
      refine Ev.step (fun k => by rw [fencepostref19_pending.l0]) ?_
      simp only [if_neg (show ¬ (i : Int) < (i : Int) by omega)]
      exact Ev.now false
theorem pending_ev (l : List S49) (hl : l.length ≤ 80) (hF : Fwd l) (at_ : Nat) (ha : at_ ≤ l.length) : Ev (fun k => fencepostref19_pending.f k l (at_ : Int)) (aheadF l (metF l) at_) := by
  unfold fencepostref19_pending.f
  refine Ev.bind (rmet_ev l hl hF) ?_
  exact pending_l0 l hl hF at_ ha at_ 0 (by omega) (by omega) rfl

/-! ### Slots -/
theorem tot_le (m : Nat) : ∀ zs : List (List S49), (∀ l ∈ zs, l.length ≤ m) → tot zs ≤ m * zs.length
  | [], _ => by simp [tot]
  | l :: ls, h => by
    have h1 := tot_le m ls (fun x hx => h x (List.mem_cons_of_mem _ hx))
    have h2 := h l List.mem_cons_self
    simp only [tot, List.length_cons, Nat.mul_add, Nat.mul_one]; omega
theorem rd_of_mem {zs : List (List S49)} {l : List S49} (h : l ∈ zs) : ∃ i : Int, 0 ≤ i ∧ i < (zs.length : Int) ∧ rd_L2 zs i = l := by
  obtain ⟨i, hi, e⟩ := List.getElem_of_mem h
  exact ⟨(i : Int), by omega, by omega, by rw [rdL2_nat zs i hi]; exact e⟩
theorem CodeOk.len {m : Nat} {A : List Int} {B : List (List S49)} (h : CodeOk m A B) : ∀ l ∈ B, l.length ≤ m := fun l hl => by
  obtain ⟨i, h0, h1, rfl⟩ := rd_of_mem hl; exact (h.rows i h0 h1).1
theorem CodeOk.row {m : Nat} {A : List Int} {B : List (List S49)} (h : CodeOk m A B) : ∀ l ∈ B, RowOk A.length l := fun l hl => by
  obtain ⟨i, h0, h1, rfl⟩ := rd_of_mem hl; exact (h.rows i h0 h1).2
theorem CodeOk.fwd {m : Nat} {A : List Int} {B : List (List S49)} (h : CodeOk m A B) : ∀ l ∈ B, Fwd l := fun l hl => fwd_of (fwd_row (h.row l hl))
theorem CodeOk.tot {m : Nat} {A : List Int} {B : List (List S49)} (h : CodeOk m A B) : tot B ≤ m * 3 := Nat.le_trans (tot_le m B h.len) (Nat.mul_le_mul_left m h.few)
theorem CodeOk.adm {m : Nat} (hm : m ≤ 80) {A : List Int} {B : List (List S49)} (h : CodeOk m A B) : admOk B = true := by
  unfold admOk
  have := h.tot
  have := h.few
  simp only [Bool.and_eq_true, decide_eq_true_eq, List.all_eq_true]
  exact ⟨by omega, by omega, fun l hl => ⟨by have := h.len l hl; omega, fwd_row (h.row l hl)⟩⟩
theorem slots_f {m : Nat} (hm : m ≤ 80) {A : List Int} {B : List (List S49)} (h : CodeOk m A B) (A' : List Int) : adm_Slots.f A' B = some (admFrom 0 B) := by
  unfold adm_Slots.f
  rw [if_pos (h.adm hm), keptAll]
theorem keep_f {m : Nat} (hm : m ≤ 80) {A : List Int} {B : List (List S49)} (h : CodeOk m A B) (A' g : List Int) (hg : g.length ≤ 1000000) : adm_Keep.f A' B g = some ((admFrom 0 B).filter (fun n => decide (n ∈ g))) := by
  unfold adm_Keep.f
  rw [if_pos ⟨h.adm hm, hg⟩, kept_adm]
theorem admFrom_append : ∀ (a b : List (List S49)) (n : Int), admFrom n (a ++ b) = admFrom n a ++ admFrom (n + (tot a : Int)) b
  | [], b, n => by simp [admFrom, tot]
  | l :: ls, b, n => by
    simp only [List.cons_append, admFrom, admFrom_append ls, List.append_assoc, tot]
    congr 3; omega
theorem slots_l1 (A : List Int) (B : List (List S49)) (t : Nat) (ht : t < B.length) (l : List S49) (hl : l = B[t]) (hlen : l.length ≤ 80) (hF : Fwd l) (n0 : Int) (hn0 : 0 ≤ n0) (hn1 : n0 ≤ 1000000) (pre : List Int) (hp : pre.length ≤ 1000000) (r : List Int)
    (hr : Ev (fun k => fencepostref19_Slots.l0 k (pre ++ admRow l n0) (n0 + (l.length : Int)) (wrap64 ((t : Int) + 1)) A B) r) :
    ∀ (d a : Nat), l.length - a ≤ d → a ≤ l.length → Ev (fun k => fencepostref19_Slots.l1 k (pre ++ ((List.range a).filter (admAt l)).map (fun (j : Nat) => n0 + (j : Int))) (n0 + (a : Int)) (t : Int) (a : Int) A B) r := by
  have e0 : rd_L2 B (t : Int) = l := (rdL2_nat B t ht).trans hl.symm
  intro d
  induction d with
  | zero =>
    intro a h1 h2
    obtain rfl : a = l.length := by omega
    refine Ev.step (fun k => by rw [fencepostref19_Slots.l1]) ?_
    simp only [e0, if_pos (show (0 : Int) ≤ (t : Int) by omega), if_pos (show (t : Int) < (B.length : Int) by omega), if_neg (show ¬ (l.length : Int) < (l.length : Int) by omega)]
    exact hr
  | succ d ih =>
    intro a h1 h2
    by_cases c : a < l.length
    · have ha := ih (a + 1) (by omega) (by omega)
      have p1 : (0 : Int) ≤ (t : Int) := by omega
      have p2 : (t : Int) < (B.length : Int) := by omega
      have p3 : (a : Int) < (l.length : Int) := by omega
      have p4 : (0 : Int) ≤ (a : Int) := by omega
      have e1 : wrap64 (n0 + (a : Int) + 1) = n0 + ((a + 1 : Nat) : Int) := by unfold wrap64; omega
      have e2 := wcast a (by omega)
      have hlen2 : (pre ++ ((List.range a).filter (admAt l)).map (fun (j : Nat) => n0 + (j : Int))).length < 17592186044416 := by
        rw [List.length_append, List.length_map]
        have := List.length_filter_le (admAt l) (List.range a)
        rw [List.length_range] at this
        omega
      refine Ev.step (fun k => by rw [fencepostref19_Slots.l1]) ?_
      simp only [e0, if_pos p1, if_pos p2, if_pos p3, if_pos p4, drains_f, Option.bind_some, if_pos hlen2]
      refine Ev.bind (pending_ev l hlen hF a h2) ?_
      rw [e1, e2]
      rw [List.range_succ, List.filter_append, List.map_append] at ha
      cases hA : aheadF l (metF l) a with
      | false =>
        have : admAt l a = false := by unfold admAt; rw [hA]; rfl
        rw [List.filter_cons_of_neg (by rw [this]; simp), List.filter_nil, List.map_nil, List.append_nil] at ha
        simp only [Bool.false_eq_true, if_false]
        exact ha
      | true =>
        simp only [if_true]
        cases hd : noDrain (rd_T49 l (a : Int)) with
        | true =>
          have : admAt l a = true := by unfold admAt; rw [hA, hd]; rfl
          rw [List.filter_cons_of_pos (by rw [this]), List.filter_nil, List.map_cons, List.map_nil, ← List.append_assoc] at ha
          simp only [hd, Bool.not_true, Bool.false_eq_true, if_false]
          exact ha
        | false =>
          have : admAt l a = false := by unfold admAt; rw [hA, hd]; rfl
          rw [List.filter_cons_of_neg (by rw [this]; simp), List.filter_nil, List.map_nil, List.append_nil] at ha
          simp only [hd, Bool.not_false, if_true]
          exact ha
    · obtain rfl : a = l.length := by omega
      refine Ev.step (fun k => by rw [fencepostref19_Slots.l1]) ?_
      simp only [e0, if_pos (show (0 : Int) ≤ (t : Int) by omega), if_pos (show (t : Int) < (B.length : Int) by omega), if_neg (show ¬ (l.length : Int) < (l.length : Int) by omega)]
      exact hr
theorem tot_take_le (B : List (List S49)) (t : Nat) : tot (B.take t) ≤ tot B := by
  have := tot_append (B.take t) (B.drop t)
  rw [List.take_append_drop] at this
  omega
theorem slots_l0 (A : List Int) (B : List (List S49)) (hlen : ∀ l ∈ B, l.length ≤ 80) (hF : ∀ l ∈ B, Fwd l) (hB : B.length ≤ 1000) (htot : tot B ≤ 1000000) : ∀ (d t : Nat), B.length - t ≤ d → t ≤ B.length → Ev (fun k => fencepostref19_Slots.l0 k (admFrom 0 (B.take t)) (tot (B.take t) : Int) (t : Int) A B) (admFrom 0 B) := by
  intro d
  induction d with
  | zero =>
    intro t h1 h2
    obtain rfl : t = B.length := by omega
    refine Ev.step (fun k => by rw [fencepostref19_Slots.l0]) ?_
    simp only [if_neg (show ¬ (B.length : Int) < (B.length : Int) by omega), List.take_length]
    exact Ev.now _
  | succ d ih =>
    intro t h1 h2
    by_cases c : t < B.length
    · have ha := ih (t + 1) (by omega) (by omega)
      have hm : B[t] ∈ B := List.getElem_mem c
      have ht := tot_take_le B t
      have e3 : B.take (t + 1) = B.take t ++ [B[t]] := by rw [List.take_succ_eq_append_getElem c]
      rw [e3, admFrom_append, tot_append, ← wcast t (by omega)] at ha
      simp only [admFrom, tot, List.append_nil, Nat.add_zero, Int.zero_add, Int.natCast_add] at ha
      refine Ev.step (fun k => by rw [fencepostref19_Slots.l0]) ?_
      simp only [if_pos (show (t : Int) < (B.length : Int) by omega)]
      have := slots_l1 A B t c B[t] rfl (hlen _ hm) (hF _ hm) (tot (B.take t) : Int) (by omega) (by omega) (admFrom 0 (B.take t)) (by have := admFrom_length (B.take t) 0; omega) (admFrom 0 B) ha B[t].length 0 (by omega) (by omega)
      simpa using this
    · obtain rfl : t = B.length := by omega
      refine Ev.step (fun k => by rw [fencepostref19_Slots.l0]) ?_
      simp only [if_neg (show ¬ (B.length : Int) < (B.length : Int) by omega), List.take_length]
      exact Ev.now _
theorem rslots_ev {m : Nat} (hm : m ≤ 80) {A : List Int} {B : List (List S49)} (h : CodeOk m A B) (A' : List Int) : Ev (fun k => fencepostref19_Slots.f k A' B) (admFrom 0 B) := by
  unfold fencepostref19_Slots.f
  have := h.tot
  have := h.few
  have := slots_l0 A' B (fun l hl => by have := h.len l hl; omega) h.fwd (by omega) (by omega) B.length 0 (by omega) (by omega)
  simpa [admFrom, tot] using this
end Go.Proofs.Ytodjfbcpohcbaaa.Print
