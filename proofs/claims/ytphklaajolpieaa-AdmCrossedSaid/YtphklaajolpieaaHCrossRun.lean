/- Picks of a code that may be: what they cross rises, and is admissible. -/
import Derived.Test.YtphklaajolpieaaHCrossInv
import Derived.Test.YtphklaajolpieaaHAdmOk
namespace Go.Proofs.Ytphklaajolpieaa.Print
open Go.RowKit Go.Proofs.YtphklaajolpieaaW.PrintWords Go.Proofs.YtphklaajolpieaaW.PrintLast Go.Proofs.YtphklaajolpieaaW.PrintMore
set_option linter.unusedVariables false
set_option linter.unusedSimpArgs false
theorem refF_place (s : S36) (mem : List Int) (x : S49) : (refF s mem x).2.f0 ∈ nextOf s x.f0 := by
 unfold refF nextOf
 repeat' split
 all_goals simp_all
theorem refF_keeps (s : S36) (mem : List Int) (x : S49) : (refF s mem x).2.f3 = x.f3 ∧ (refF s mem x).1.length = mem.length := by
 unfold refF
 repeat' split
 all_goals simp
theorem tsoGo_keeps (s : S36) (mem : List Int) (x : S49) : (tsoGo s mem x).2.f0 = (refF s mem x).2.f0 ∧ (tsoGo s mem x).2.f1.length = x.f1.length ∧ (tsoGo s mem x).2.f3.length ≤ x.f3.length + 1 ∧ (tsoGo s mem x).1.length = mem.length := by
 have h1 := refF_len s mem x
 have h2 := refF_keeps s mem x
 unfold tsoGo
 split
 ·refine ⟨rfl, by simp [h1], by show (refF s mem x).2.f3.length ≤ _; rw [h2.1]; omega, h2.2⟩
 ·split
  ·exact ⟨rfl, h1, by simp, rfl⟩
  ·split
   ·exact ⟨rfl, h1, by simp, rfl⟩
   ·exact ⟨rfl, h1, by rw [h2.1]; omega, h2.2⟩
theorem tsoGo_f3 (s : S36) (mem : List Int) (x : S49) : (s.f0 = 3 ∨ s.f0 = 4) ∨ (tsoGo s mem x).2.f3 = x.f3 := by
 have h2 := refF_keeps s mem x
 by_cases c3 : s.f0 = 3
 ·exact .inl (.inl c3)
 by_cases c4 : s.f0 = 4
 ·exact .inl (.inr c4)
 refine .inr ?_
 unfold tsoGo
 split
 ·exact h2.1
 ·exact h2.1
theorem drainF_keeps (l : List S66) (m : List Int) : (drainF l m).1.length ≤ l.length ∧ (drainF l m).2.1.length = m.length := by
 unfold drainF
 split
 ·simp
 ·split <;> simp
/-- Something is on its way at a place. -/
def Pend (l : List S36) (a : Int) : Prop := ∃ w : Int, 0 ≤ w ∧ w < (l.length : Int) ∧ metAt l w = true ∧ ((rd_T36 l w).f0 = 3 ∨ (rd_T36 l w).f0 = 4) ∧ Way l noDrain w a
structure XOk (l : List S36) (x : S49) (i : Nat) : Prop where
 r : x.f1.length = 4
 b : x.f3.length ≤ i
 a0 : 0 ≤ x.f0
 a1 : x.f0 ≤ (l.length : Int)
 a : metAt l x.f0 = true
 p : 0 < x.f3.length → Pend l x.f0
theorem met_next {l : List S36} (hF : Fwd l) {a b : Int} (h0 : a < (l.length : Int)) (h : metAt l a = true) (hb : b ∈ nexts l a) : metAt l b = true := by
 rw [metAt_iff hF]
 rcases (metAt_iff hF).1 h with e | e
 ·subst e; exact .inr (.one hb)
 ·exact .inr (e.trans h0 rfl (.one hb))
theorem XOk.step {l : List S36} (hF : Fwd l) {x : S49} {i : Nat} (h : XOk l x i) (hl : x.f0 < (l.length : Int)) (mem : List Int) (hd : ¬ (0 < x.f3.length ∧ ((rd_T36 l x.f0).f0 = 6 ∨ (rd_T36 l x.f0).f0 = 5))) : XOk l (tsoGo (rd_T36 l x.f0) mem x).2 (i + 1) := by
 obtain ⟨k0, k1, k3, km⟩ := tsoGo_keeps (rd_T36 l x.f0) mem x
 have hb : (tsoGo (rd_T36 l x.f0) mem x).2.f0 ∈ nexts l x.f0 := by
  rw [k0]; unfold nexts; rw [if_neg (by have := h.a0; omega), if_pos hl]; exact refF_place _ _ _
 have hr := nexts_range hF hb
 refine ⟨by rw [k1]; exact h.r, by have := h.b; omega, by omega, by omega, met_next hF hl h.a hb, fun hp => ?_⟩
 rcases tsoGo_f3 (rd_T36 l x.f0) mem x with e | e
 ·exact ⟨x.f0, h.a0, hl, h.a, e, .one hb⟩
 ·rw [e] at hp
  obtain ⟨w, w0, w1, w2, w3, w4⟩ := h.p hp
  refine ⟨w, w0, w1, w2, w3, w4.trans hl ?_ (.one hb)⟩
  unfold noDrain
  have h6 : (rd_T36 l x.f0).f0 ≠ 6 := fun e6 => hd ⟨hp, .inl e6⟩
  have h5 : (rd_T36 l x.f0).f0 ≠ 5 := fun e5 => hd ⟨hp, .inr e5⟩
  simp [h6, h5]
/-- A slot where something is on its way is admissible. -/
theorem Pend.adm {l : List S36} (hF : Fwd l) {j : Nat} (hj : j < l.length) (h : Pend l (j : Int)) (h6 : (rd_T36 l (j : Int)).f0 ≠ 6) (h5 : (rd_T36 l (j : Int)).f0 ≠ 5) : admAt l j = true := by
 obtain ⟨w, w0, w1, w2, w3, w4⟩ := h
 have hr := w4.range hF
 obtain ⟨q, rfl⟩ : ∃ q : Nat, w = (q : Int) := ⟨w.toNat, by omega⟩
 unfold admAt aheadF
 rw [Bool.and_eq_true, List.any_eq_true]
 refine ⟨⟨q, by rw [List.mem_range]; omega, ?_⟩, by unfold noDrain; simp [h6, h5]⟩
 unfold aheadAt
 rw [metF_rd l _ (by omega) (by omega), w2]
 have hf := (freeD_iff hF).2 w4
 unfold freeD at hf
 rw [hf]
 rcases w3 with e | e <;> simp [e]
theorem putR_mem {n x : Int} : ∀ {l : List Int}, x ∈ putR l n → x = n ∨ x ∈ l
 | [], h => by simp [putR] at h; exact .inl h
 | y :: l, h => by
  unfold putR at h
  split at h
  ·split at h
   ·exact .inr h
   ·rcases List.mem_cons.1 h with h | h
    ·exact .inl h
    ·exact .inr h
  ·rcases List.mem_cons.1 h with h | h
   ·exact .inr (by rw [h]; exact List.mem_cons_self)
   ·rcases putR_mem h with h | h
    ·exact .inl h
    ·exact .inr (List.mem_cons_of_mem _ h)
theorem putR_sorted {n : Int} : ∀ {l : List Int}, l.Pairwise (· < ·) → (putR l n).Pairwise (· < ·)
 | [], _ => by simp [putR]
 | y :: l, h => by
  have h' := List.pairwise_cons.1 h
  unfold putR
  split
  ·split
   ·exact h
   ·rename_i c1 c2
    refine List.pairwise_cons.2 ⟨fun z hz => ?_, h⟩
    rcases List.mem_cons.1 hz with e | e
    ·omega
    ·have := h'.1 z e; omega
  ·rename_i c
   refine List.pairwise_cons.2 ⟨fun z hz => ?_, putR_sorted h'.2⟩
   rcases putR_mem hz with e | e
   ·omega
   ·exact h'.1 z e
theorem sorted_ext : ∀ {a b : List Int}, a.Pairwise (· < ·) → b.Pairwise (· < ·) → (∀ x, x ∈ a ↔ x ∈ b) → a = b
 | [], [], _, _, _ => rfl
 | [], y :: b, _, _, h => by have := (h y).2 List.mem_cons_self; simp at this
 | x :: a, [], _, _, h => by have := (h x).1 List.mem_cons_self; simp at this
 | x :: a, y :: b, ha, hb, h => by
  have ha' := List.pairwise_cons.1 ha
  have hb' := List.pairwise_cons.1 hb
  have e : x = y := by
   rcases List.mem_cons.1 ((h x).1 List.mem_cons_self) with e | e
   ·exact e
   ·rcases List.mem_cons.1 ((h y).2 List.mem_cons_self) with f | f
    ·exact f.symm
    ·have := hb'.1 x e; have := ha'.1 y f; omega
  subst e
  rw [sorted_ext ha'.2 hb'.2 (fun z => ⟨fun hz => ?_, fun hz => ?_⟩)]
  ·rcases List.mem_cons.1 ((h z).1 (List.mem_cons_of_mem _ hz)) with e | e
   ·have := ha'.1 z hz; omega
   ·exact e
  ·rcases List.mem_cons.1 ((h z).2 (List.mem_cons_of_mem _ hz)) with e | e
   ·have := hb'.1 z hz; omega
   ·exact e
structure CrOk (A : List Int) (B : List (List S36)) (mem : List Int) (ths : List S49) (i : Nat) (out : List Int) : Prop where
 m : mem.length = A.length
 t : ths.length = B.length
 x : ∀ (j : Nat) (x : S49), ths[j]? = some x → XOk (rd_L2 B (j : Int)) x i
 s : out.Pairwise (· < ·)
 a : ∀ n ∈ out, n ∈ admFrom 0 B
 l : out.length ≤ i
section
variable {most : Nat} {A : List Int} {B : List (List S36)} {mem : List Int} {ths : List S49} {i : Nat} {out : List Int}
theorem CrOk.okB (hc : CodeOk most A B) (hmo : most ≤ 80) (h : CrOk A B mem ths i out) (hi : i ≤ 1000) : okB B mem ths = true := by
 have hm := h.m
 have ht := h.t
 have h1 := hc.locs
 have h2 := hc.few
 unfold Print.okB stateB
 simp only [Bool.and_eq_true, decide_eq_true_eq, List.all_eq_true]
 refine ⟨⟨by omega, by omega, ht, ⟨fun x hx => ?_, fun l hl => ?_⟩⟩, fun l hl s hs => ?_⟩
 ·obtain ⟨j, hj⟩ := List.getElem?_of_mem hx
  have hx := h.x j x hj
  have q1 := hx.r
  have q2 := hx.b
  have q3 := hx.a0
  have q4 := hx.a1
  have hjl : j < ths.length := (List.getElem?_eq_some_iff.1 hj).1
  have := (hc.rows (j : Int) (by omega) (by omega)).1
  exact ⟨q1, by omega, q3, by omega⟩
 ·have := hc.len l hl; omega
 ·have hr := hc.row l hl
  obtain ⟨q, hq, e2⟩ := List.getElem_of_mem hs
  have hs2 := hr (q : Int) (by omega) (by omega)
  have e3 : rd_T36 l (q : Int) = s := by unfold rd_T36; rw [Int.toNat_natCast, List.getD_eq_getElem?_getD, List.getElem?_eq_getElem hq, e2]; rfl
  rw [e3, ← hm] at hs2
  have o1 := hs2.op
  have o2 := hs2.reg
  unfold stepB
  simp only [Bool.and_eq_true, Bool.or_eq_true, Bool.not_eq_true', Bool.or_eq_false_iff, decide_eq_true_eq, beq_eq_false_iff_ne]
  refine ⟨⟨o1.1, o1.2⟩, ⟨o2.1, by omega⟩, ?_⟩
  by_cases k : s.f0 = 2 ∨ s.f0 = 3 ∨ s.f0 = 4 ∨ s.f0 = 5
  ·exact .inr (hs2.loc k)
  ·exact .inl ⟨⟨⟨fun e => k (.inl e), fun e => k (.inr (.inl e))⟩, fun e => k (.inr (.inr (.inl e)))⟩, fun e => k (.inr (.inr (.inr e)))⟩
theorem CrOk.put (h : CrOk A B mem ths i out) {m : List Int} (hm : m.length = mem.length) {t : Nat} {x : S49} (hx : XOk (rd_L2 B (t : Int)) x (i + 1)) {out' : List Int} (h1 : out'.Pairwise (· < ·)) (h2 : ∀ n ∈ out', n ∈ admFrom 0 B) (h3 : out'.length ≤ i + 1) : CrOk A B m (ths.set t x) (i + 1) out' := by
 refine ⟨by rw [hm]; exact h.m, by rw [List.length_set]; exact h.t, fun j y hj => ?_, h1, h2, h3⟩
 by_cases e : j = t
 ·subst e
  have hl : j < ths.length := by have := (List.getElem?_eq_some_iff.1 hj).1; rwa [List.length_set] at this
  rw [List.getElem?_set_self hl] at hj
  obtain rfl := Option.some.inj hj
  exact hx
 ·rw [List.getElem?_set_ne (fun e' => e e'.symm)] at hj
  obtain ⟨a, b, c0, c1, c2, c3⟩ := h.x j y hj
  exact ⟨a, by omega, c0, c1, c2, c3⟩
theorem CrOk.step (hc : CodeOk most A B) (hmo : most ≤ 80) (h : CrOk A B mem ths i out) {a : Int} {d : Bool} {m : List Int} {t : List S49} (he : tsoF B mem ths a d = some (m, t)) :
 CrOk A B m t (i + 1) (if d = false ∧ 0 < (rd_T49 ths a).f3.length then putR out (numR B a (rd_T49 ths a).f0) else out) := by
 have ht := h.t
 have hlo : out.length ≤ i := h.l
 obtain ⟨q0, q1, q2⟩ := tso_some he
 obtain ⟨j, rfl⟩ : ∃ j : Nat, a = (j : Int) := ⟨a.toNat, by omega⟩
 have hj : j < ths.length := by omega
 have hjB : j < B.length := by omega
 obtain ⟨x, hx⟩ : ∃ x, ths[j]? = some x := ⟨_, List.getElem?_eq_getElem hj⟩
 have e2 : rd_T49 ths (j : Int) = x := by unfold rd_T49; rw [Int.toNat_natCast, List.getD_eq_getElem?_getD, hx]; rfl
 have hX := h.x j x hx
 have eB := rdL2_nat B j hjB
 have hF : Fwd (rd_L2 B (j : Int)) := by rw [eB]; exact hc.fwd _ (List.getElem_mem hjB)
 unfold tsoF at he
 rw [if_neg (by omega), e2, Int.toNat_natCast] at he
 rw [e2] at q2 ⊢
 cases d with
 | true =>
  rw [if_pos rfl] at he
  rw [if_neg (by simp)]
  by_cases q3 : (drainF x.f3 mem).2.2 = true
  ·rw [if_pos q3] at he
   injection he with he
   injection he with e3 e4
   subst e3; subst e4
   have hk := drainF_keeps x.f3 mem
   have hb := hX.b
   exact h.put (x := ⟨x.f0, x.f1, x.f2, (drainF x.f3 mem).1⟩) hk.2 ⟨hX.r, by show (drainF x.f3 mem).1.length ≤ _; omega, hX.a0, hX.a1, hX.a, fun hp => hX.p (by have hp' : 0 < (drainF x.f3 mem).1.length := hp; omega)⟩ h.s h.a (by omega)
  ·rw [if_neg q3] at he; cases he
 | false =>
  have hl := q2 rfl
  rw [if_neg (by decide), if_neg (by omega)] at he
  by_cases q5 : 0 < x.f3.length ∧ ((rd_T36 (rd_L2 B (j : Int)) x.f0).f0 = 6 ∨ (rd_T36 (rd_L2 B (j : Int)) x.f0).f0 = 5)
  ·rw [if_pos q5] at he; cases he
  rw [if_neg q5] at he
  injection he with he
  injection he with e3 e4
  subst e3; subst e4
  have km := (tsoGo_keeps (rd_T36 (rd_L2 B (j : Int)) x.f0) mem x).2.2.2
  have hY := hX.step hF hl mem q5
  by_cases hz : 0 < x.f3.length
  ·rw [if_pos ⟨rfl, hz⟩]
   refine h.put km hY (putR_sorted h.s) (fun n hn => ?_) (by have := putR_length (numR B (j : Int) x.f0) out; omega)
   rcases putR_mem hn with e | e
   ·obtain ⟨q, hq⟩ : ∃ q : Nat, x.f0 = (q : Int) := ⟨x.f0.toNat, by have := hX.a0; omega⟩
    rw [admFrom_mem]
    have hql : q < B[j].length := by rw [← eB]; omega
    refine ⟨j, q, hjB, hql, ?_, by rw [e, hq]; unfold numR; rw [Int.toNat_natCast]; omega⟩
    rw [← eB]
    have hP := hX.p hz
    rw [hq] at hP q5
    exact hP.adm hF (by rw [eB]; exact hql) (fun e6 => q5 ⟨hz, .inl e6⟩) (fun e5 => q5 ⟨hz, .inr e5⟩)
   ·exact h.a n e
  ·rw [if_neg (fun hh => hz hh.2)]
   exact h.put km hY h.s h.a (by omega)
theorem cross_ok (hc : CodeOk most A B) (hmo : most ≤ 80) : ∀ (l : List S46) (i : Nat) (mem : List Int) (ths : List S49) (out : List Int), CrOk A B mem ths i out → i + l.length ≤ 1000 → ∃ r1 r2, crossL B l mem ths out = some (r1, r2) ∧ r1.Pairwise (· < ·) ∧ (∀ n ∈ r1, n ∈ admFrom 0 B) ∧ r1.length ≤ 1000 := by
 intro l
 induction l with
 | nil => intro i mem ths out h hi; exact ⟨out, true, rfl, h.s, h.a, by have := h.l; omega⟩
 | cons k l ih =>
  intro i mem ths out h hi
  rw [List.length_cons] at hi
  have htot := hc.tot
  have hlo := h.l
  rw [crossL, if_pos ⟨h.okB hc hmo (by omega), by omega, by omega⟩]
  cases he : tsoF B mem ths k.f0 k.f1 with
  | none => exact ⟨[], false, rfl, List.Pairwise.nil, fun n hn => by simp at hn, by simp⟩
  | some p =>
   obtain ⟨m, t⟩ := p
   have hs := h.step hc hmo he
   show ∃ r1 r2, (if k.f1 = false ∧ 0 < (rd_T49 ths k.f0).f3.length then crossL B l m t (putR out (numR B k.f0 (rd_T49 ths k.f0).f0)) else crossL B l m t out) = some (r1, r2) ∧ _
   by_cases c : k.f1 = false ∧ 0 < (rd_T49 ths k.f0).f3.length
   ·rw [if_pos c] at hs ⊢; exact ih (i + 1) m t _ hs (by omega)
   ·rw [if_neg c] at hs ⊢; exact ih (i + 1) m t _ hs (by omega)
theorem cross_begin (A : List Int) (B : List (List S36)) : CrOk A B A (List.replicate B.length th0) 0 [] := by
 refine ⟨rfl, List.length_replicate .., fun j x hj => ?_, List.Pairwise.nil, fun n hn => by simp at hn, Nat.le_refl _⟩
 rw [List.getElem?_replicate] at hj
 split at hj
 ·obtain rfl := Option.some.inj hj
  exact ⟨rfl, Nat.le_refl _, Int.le_refl _, by show (0 : Int) ≤ _; omega, by unfold metAt th0; rfl, fun hp => by simp [th0] at hp⟩
 ·cases hj
end
end Go.Proofs.Ytphklaajolpieaa.Print
