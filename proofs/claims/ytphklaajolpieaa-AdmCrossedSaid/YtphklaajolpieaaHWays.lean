/- Ways through a thread: the walk's counts tell them. Plain Lean: no program in sight, but for the type of steps. -/
import Derived.Test.YtphklaajolpieaaHCfgWalk
namespace Go.Proofs.Ytphklaajolpieaa.Print
open Go.RowKit Go.Maps Go.Proofs.YtphklaajolpieaaW.PrintWords Go.Proofs.YtphklaajolpieaaW.PrintLast Go.Proofs.YtphklaajolpieaaW.PrintMore
set_option linter.unusedVariables false
set_option linter.unusedSimpArgs false
/-- A way from a to b, all whose places between may be gone through. -/
inductive Way (l : List S36) (thr : S36 → Bool) : Int → Int → Prop where
 | one {a b : Int} (h : b ∈ nexts l a) : Way l thr a b
 | on {a b c : Int} (h : b ∈ nexts l a) (hl : b < (l.length : Int)) (ht : thr (rd_T36 l b) = true) (hw : Way l thr b c) : Way l thr a c
theorem Way.range {l : List S36} {thr : S36 → Bool} (hF : Fwd l) {a b : Int} (h : Way l thr a b) : 0 ≤ a ∧ a < (l.length : Int) ∧ a < b ∧ b ≤ (l.length : Int) := by
 induction h with
 | one h => exact nexts_range hF h
 | on h hl ht hw ih => have := nexts_range hF h; omega
theorem Way.trans {l : List S36} {thr : S36 → Bool} {a b c : Int} (h : Way l thr a b) (hl : b < (l.length : Int)) (ht : thr (rd_T36 l b) = true) (k : Way l thr b c) : Way l thr a c := by
 induction h with
 | one h => exact .on h hl ht k
 | on h hl' ht' _ ih => exact .on h hl' ht' (ih hl ht k)
theorem Way.imp {l : List S36} {thr thr' : S36 → Bool} (hi : ∀ x, thr x = true → thr' x = true) {a b : Int} (h : Way l thr a b) : Way l thr' a b := by
 induction h with
 | one h => exact .one h
 | on h hl ht _ ih => exact .on h hl (hi _ ht) ih
/-- What a walk does to the counts, told apart from how. -/
structure Goes (l : List S36) (thr : S36 → Bool) (m m' : Int → Int) : Prop where
 up : ∀ x, m x ≤ m' x
 shut : ∀ x, 0 < m' x → m x = 0 → x < (l.length : Int) → thr (rd_T36 l x) = true → ∀ y ∈ nexts l x, 0 < m' y
theorem Goes.refl (l : List S36) (thr : S36 → Bool) (m : Int → Int) : Goes l thr m m := ⟨fun x => Int.le_refl _, fun x h h0 => by omega⟩
theorem Goes.trans {l : List S36} {thr : S36 → Bool} {m m1 m2 : Int → Int} (h : Goes l thr m m1) (k : Goes l thr m1 m2) (h0 : ∀ x, 0 ≤ m x) : Goes l thr m m2 := by
 refine ⟨fun x => Int.le_trans (h.up x) (k.up x), fun x hx hm hl ht y hy => ?_⟩
 by_cases h1 : m1 x = 0
 ·exact k.shut x hx h1 hl ht y hy
 ·have := h.shut x (by have := h.up x; have := h0 x; omega) hm hl ht y hy
  have := k.up y
  omega
/-- The walk's whole: what it goes on with, that all that comes next is met, and that nothing else is. -/
theorem walk_goes (l : List S36) (thr : S36 → Bool) (hF : Fwd l) (k : Nat) : ∀ (a : Int) (m : Int → Int), (l.length : Int) - a ≤ k → (∀ x, 0 ≤ m x) →
 Goes l thr m (walkF l thr k a m) ∧ (∀ y ∈ nexts l a, 0 < walkF l thr k a m y) ∧ (∀ x, 0 < walkF l thr k a m x → 0 < m x ∨ Way l thr a x) := by
 induction k with
 | zero =>
  intro a m hk h0
  have hn : nexts l a = [] := by
   unfold nexts
   split
   ·rfl
   ·split
    ·omega
    ·rfl
  refine ⟨Goes.refl _ _ _, fun y hy => ?_, fun x hx => .inl hx⟩
  rw [hn] at hy
  simp at hy
 | succ k ih =>
  intro a m hk h0
  have key : ∀ (ns : List Int) (m : Int → Int), (∀ x, 0 ≤ m x) → (∀ y ∈ ns, y ∈ nexts l a) →
   Goes l thr m (ns.foldl (stepF l thr (walkF l thr k)) m) ∧ (∀ y ∈ ns, 0 < ns.foldl (stepF l thr (walkF l thr k)) m y) ∧ (∀ x, 0 < ns.foldl (stepF l thr (walkF l thr k)) m x → 0 < m x ∨ Way l thr a x) := by
   intro ns
   induction ns with
   | nil => intro m h0 _; exact ⟨Goes.refl _ _ _, fun y hy => by simp at hy, fun x hx => .inl hx⟩
   | cons n ns ihn =>
    intro m h0 hsub
    have hn := hsub n List.mem_cons_self
    have hr := nexts_range hF hn
    have hm0 := h0 n
    have hu0 : ∀ x, 0 ≤ upd m n (m n + 1) x := fun x => by have := h0 x; unfold upd; split <;> omega
    have huu : ∀ x, m x ≤ upd m n (m n + 1) x := fun x => by
     unfold upd
     split
     ·rename_i e; rw [e]; omega
     ·omega
    -- one round
    have one : Goes l thr m (stepF l thr (walkF l thr k) m n) ∧ 0 < stepF l thr (walkF l thr k) m n n ∧ (∀ x, 0 < stepF l thr (walkF l thr k) m n x → 0 < m x ∨ Way l thr a x) := by
     unfold stepF
     by_cases hc : m n = 0 ∧ n < (l.length : Int) ∧ thr (rd_T36 l n) = true
     ·rw [if_pos hc]
      obtain ⟨g, gn, gs⟩ := ih n (upd m n (m n + 1)) (by omega) hu0
      refine ⟨⟨fun x => Int.le_trans (huu x) (g.up x), fun x hx hm hl ht y hy => ?_⟩, ?_, fun x hx => ?_⟩
      ·by_cases e : x = n
       ·subst e; exact gn y hy
       ·exact g.shut x hx (by unfold upd; rw [if_neg e]; exact hm) hl ht y hy
      ·have := g.up n
       have e : upd m n (m n + 1) n = m n + 1 := by simp [upd]
       omega
      ·rcases gs x hx with h | h
       ·by_cases e : x = n
        ·subst e; exact .inr (.one hn)
        ·unfold upd at h; rw [if_neg e] at h; exact .inl h
       ·exact .inr (.on hn hc.2.1 hc.2.2 h)
     ·rw [if_neg hc]
      refine ⟨⟨huu, fun x hx hm hl ht y hy => ?_⟩, by simp [upd]; omega, fun x hx => ?_⟩
      ·by_cases e : x = n
       ·subst e; exact absurd ⟨hm, hl, ht⟩ hc
       ·unfold upd at hx; rw [if_neg e] at hx; omega
      ·by_cases e : x = n
       ·subst e; exact .inr (.one hn)
       ·unfold upd at hx; rw [if_neg e] at hx; exact .inl hx
    obtain ⟨g1, p1, s1⟩ := one
    rw [List.foldl_cons]
    have h1 : ∀ x, 0 ≤ stepF l thr (walkF l thr k) m n x := fun x => Int.le_trans (h0 x) (g1.up x)
    obtain ⟨g2, p2, s2⟩ := ihn (stepF l thr (walkF l thr k) m n) h1 (fun y hy => hsub y (List.mem_cons_of_mem _ hy))
    refine ⟨g1.trans g2 h0, fun y hy => ?_, fun x hx => ?_⟩
    ·rcases List.mem_cons.1 hy with rfl | hy
     ·have := g2.up y; omega
     ·exact p2 y hy
    ·rcases s2 x hx with h | h
     ·exact s1 x h
     ·exact .inr h
  exact key (nexts l a) m h0 (fun y hy => hy)
/-- THE WALK TELLS THE WAYS. -/
theorem walk_way (l : List S36) (thr : S36 → Bool) (hF : Fwd l) (k : Nat) (a x : Int) (hk : (l.length : Int) - a ≤ k) : 0 < walkF l thr k a (fun _ => 0) x ↔ Way l thr a x := by
 obtain ⟨g, p, s⟩ := walk_goes l thr hF k a (fun _ => 0) hk (fun _ => Int.le_refl _)
 constructor
 ·intro h
  rcases s x h with h | h
  ·simp at h
  ·exact h
 ·have far : ∀ {b c : Int}, Way l thr b c → (∀ y ∈ nexts l b, 0 < walkF l thr k a (fun _ => 0) y) → 0 < walkF l thr k a (fun _ => 0) c := by
   intro b c h
   induction h with
   | one h => intro hp; exact hp _ h
   | on h hl ht hw ih => intro hp; exact ih (g.shut _ (hp _ h) rfl hl ht)
  exact fun h => far h p
end Go.Proofs.Ytphklaajolpieaa.Print
