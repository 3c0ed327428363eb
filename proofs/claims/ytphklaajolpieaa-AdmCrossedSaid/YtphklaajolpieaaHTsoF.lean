/- What ref11.Step makes of a state: its Lean function, what the functions it calls answer, and a row stored into a thread: no walk. -/
import Derived.Test.YtphklaajolpieaaHRjCalls
import Derived.Test.YtphklaajolpieaaPrint5
import Derived.Test.YtphklaajolpieaaPrint7
namespace Go.Proofs.Ytphklaajolpieaa.Print
open Go.RowKit Go.Proofs.YtphklaajolpieaaW.PrintWords Go.Proofs.YtphklaajolpieaaW.PrintLast Go.Proofs.YtphklaajolpieaaW.PrintMore
set_option linter.unusedVariables false
set_option linter.unusedSimpArgs false
def lastF (l : List S66) (a : Int) : Int × Bool :=
 match l.reverse.find? (fun x => x.f0 == a) with
 | some y => (y.f1, true)
 | none => (0, false)
theorem lastF_snoc (l : List S66) (x : S66) (a : Int) : lastF (l ++ [x]) a = if x.f0 = a then (x.f1, true) else lastF l a := by
 unfold lastF
 rw [List.reverse_append]
 by_cases c : x.f0 = a
 ·simp [c]
 ·simp [c]
def viewF (l : List S66) (m : List Int) (a : Int) : Int × Bool := if (lastF l a).2 = true then ((lastF l a).1, true) else if a < 0 then (0, false) else if a ≥ (m.length : Int) then (0, false) else (rd m a, true)
theorem view_tail (l : List S66) (m : List Int) (a : Int) : (if (lastF l a).2 = true then some ((lastF l a).1, true) else (if a < 0 then some (0, false) else (if a ≥ (m.length : Int) then some (0, false) else (if 0 ≤ a then (if a < (m.length : Int) then some (rd m a, true) else none) else none)))) = some (viewF l m a) := by
 unfold viewF
 by_cases c1 : (lastF l a).2 = true
 ·rw [if_pos c1, if_pos c1]
 ·rw [if_neg c1, if_neg c1]
  by_cases c2 : a < 0
  ·rw [if_pos c2, if_pos c2]
  ·rw [if_neg c2, if_neg c2]
   by_cases c3 : a ≥ (m.length : Int)
   ·rw [if_pos c3, if_pos c3]
   ·rw [if_neg c3, if_neg c3, if_pos (by omega), if_pos (by omega)]
def drainF (l : List S66) (m : List Int) : List S66 × List Int × Bool :=
 match l with
 | [] => ([], m, false)
 | x :: t => if x.f0 < 0 ∨ x.f0 ≥ (m.length : Int) then (x :: t, m, false) else (t, m.set x.f0.toNat x.f1, true)
theorem rlast_l0 (l : List S66) (hl : l.length ≤ 1000000) (a : Int) : ∀ n : Nat, n ≤ l.length → Ev (fun k => fencepostref09_Last.l0 k l a ((n : Int) - 1)) (lastF (l.take n) a) := by
 intro n
 induction n with
 | zero =>
  intro h
  refine Ev.step (fun k => by rw [fencepostref09_Last.l0]) ?_
  simp only [if_neg (show ¬ (((0 : Nat) : Int) - 1) ≥ 0 by omega)]
  exact Ev.now _
 | succ n ih =>
  intro h
  refine Ev.step (fun k => by rw [fencepostref09_Last.l0]) ?_
  have e1 : ((n + 1 : Nat) : Int) - 1 = (n : Int) := by omega
  have e2 : rd_T66 l (n : Int) = l[n]'(by omega) := by
   unfold rd_T66
   rw [List.getD_eq_getElem?_getD, show ((n : Int)).toNat = n by omega, List.getElem?_eq_getElem (by omega)]; rfl
  have e3 : l.take (n + 1) = l.take n ++ [l[n]'(by omega)] := by rw [List.take_add_one, List.getElem?_eq_getElem (by omega)]; rfl
  rw [e1, e3, lastF_snoc]
  simp only [if_pos (show (n : Int) ≥ 0 by omega), if_pos (show 0 ≤ (n : Int) by omega), if_pos (show (n : Int) < (l.length : Int) by omega), e2]
  by_cases c : (l[n]'(by omega)).f0 = a
  ·simp only [if_pos c]; exact Ev.now _
  ·simp only [if_neg c]
   rw [w64s (by omega) (by omega)]
   exact ih (by omega)
theorem rlast_ev (l : List S66) (hl : l.length ≤ 1000000) (a : Int) : Ev (fun k => fencepostref09_Last.f k l a) (lastF l a) := by
 unfold fencepostref09_Last.f
 rw [w64s (by omega) (by omega)]
 have := rlast_l0 l hl a l.length (Nat.le_refl _)
 rwa [List.take_length] at this
theorem rview_ev (l : List S66) (hl : l.length ≤ 1000000) (m : List Int) (a : Int) : Ev (fun k => fencepostref09_View.f k l m a) (viewF l m a) := by
 unfold fencepostref09_View.f
 refine Ev.bind (rlast_ev l hl a) ?_
 rw [view_tail]
 exact Ev.now _
theorem rpush_f {l : List S66} (hl : l.length ≤ 1000000) (a b : Int) : fencepostref09_Push.f l a b = some (l ++ [⟨a, b⟩]) := by
 unfold fencepostref09_Push.f
 simp only [Option.bind_some, List.nil_append, List.length_nil, List.length_singleton, if_pos (show 0 + l.length < 8796093022208 by omega), if_pos (show l.length + 1 < 8796093022208 by omega)]
theorem rdrain_f {l : List S66} (hl : l.length ≤ 1000000) {m : List Int} (hm : m.length ≤ 1000000) : fencepostref09_Drain.f l m = some (drainF l m) := by
 unfold fencepostref09_Drain.f
 simp only [Option.bind_some, List.nil_append, List.length_nil, if_pos (show 0 + m.length < 17592186044416 by omega), if_pos (show 0 + l.length < 8796093022208 by omega)]
 cases l with
 | nil => rfl
 | cons x t =>
  have e0 : rd_T66 (x :: t) 0 = x := rfl
  have hl' : t.length + 1 ≤ 1000000 := hl
  simp only [e0, List.length_cons, if_neg (show ¬ ((t.length + 1 : Nat) : Int) = 0 by omega), if_pos (show 0 < ((t.length + 1 : Nat) : Int) by omega)]
  unfold drainF
  by_cases c1 : x.f0 < 0
  ·simp only [if_pos c1, if_pos (show x.f0 < 0 ∨ x.f0 ≥ (m.length : Int) from .inl c1)]
  ·by_cases c2 : x.f0 ≥ (m.length : Int)
   ·simp only [if_neg c1, if_pos c2, if_pos (show x.f0 < 0 ∨ x.f0 ≥ (m.length : Int) from .inr c2)]
   ·simp only [if_neg c1, if_neg c2, if_neg (show ¬ (x.f0 < 0 ∨ x.f0 ≥ (m.length : Int)) by omega), if_pos (show 0 ≤ x.f0 by omega), if_pos (show x.f0 < (m.length : Int) by omega), if_pos (show (1 : Int) ≤ ((t.length + 1 : Nat) : Int) by omega), List.drop_succ_cons, List.drop_zero, if_pos (show 0 + t.length < 8796093022208 by omega)]
theorem refF_len (s : S36) (mem : List Int) (x : S49) : (refF s mem x).2.f1.length = x.f1.length := by
 unfold refF
 repeat' split
 all_goals simp
/-- What a step, whose write is on its way, makes of its thread. -/
def tsoGo (s : S36) (mem : List Int) (x : S49) : List Int × S49 :=
 if s.f0 = 2 then ((refF s mem x).1, ⟨(refF s mem x).2.f0, (refF s mem x).2.f1.set s.f1.toNat (viewF x.f3 mem s.f2).1, (refF s mem x).2.f2, (refF s mem x).2.f3⟩)
 else if s.f0 = 3 then (mem, ⟨(refF s mem x).2.f0, (refF s mem x).2.f1, (refF s mem x).2.f2, x.f3 ++ [⟨s.f2, rd x.f1 s.f1⟩]⟩)
 else if s.f0 = 4 then (mem, ⟨(refF s mem x).2.f0, (refF s mem x).2.f1, (refF s mem x).2.f2, x.f3 ++ [⟨s.f2, s.f3⟩]⟩)
 else refF s mem x
/-- A thread's row of writes is another one now. -/
theorem S_buf {base g n cap t : Nat} {ths : List S49} {W : World} {v : Value} {bs : List S66} {x : S49} (h : Kd.S k49 49 W base (fun k => True ∧ some k ≠ v.ownBlock) (.slice (some ⟨g, 0, none⟩) n cap) ths) (hx : ths[t]? = some x) (hv : Kd.R k66 66 W base (fun _ => True) v bs) :
    Kd.S k49 49 (W.setCell ⟨g, t * 4 + 3, none⟩ v) base (fun _ => True) (.slice (some ⟨g, 0, none⟩) n cap) (ths.set t ⟨x.f0, x.f1, x.f2, bs⟩) := by
  have hn := (Kd.S_reads' h).1
  have htl : t < ths.length := (List.getElem?_eq_some_iff.1 hx).1
  have hgd : ths.getD (t : Int).toNat z49 = x := by rw [List.getD_eq_getElem?_getD, show ((t : Int)).toNat = t by omega, hx]; rfl
  obtain ⟨cg, hcg⟩ := Kd.S_typed h g (by simp [Value.ownBlock])
  obtain ⟨oki, c, hcl, hM, hcc, hfr, hoki, hH⟩ := Kd.S_elem (Kd.S_mono (ok' := fun k => True ∧ ¬ (some k = v.ownBlock)) h (fun k hk => hk)) z49 (t : Int) (by omega) (by omega)
  rw [hgd] at hM
  obtain ⟨v1, v3, rfl, g1, g3⟩ := k49_openM hM
  have e0 : (t : Int).toNat * k49.sz = t * 4 := by show (t : Int).toNat * 4 = _; omega
  have hS := (Kd.S_seg (okg := fun k => some k = v.ownBlock) hH (by omega) (by omega) (seg := [v]) (j := 3) (show 3 + 1 ≤ 4 by decide) (x' := ⟨x.f0, x.f1, x.f2, bs⟩) (okp := fun k => oki k ∨ some k = v.ownBlock)
    (k49_mkM W base (fun k => oki k ∨ some k = v.ownBlock) ⟨x.f0, x.f1, x.f2, bs⟩ (Kd.R_mono g1 (fun k hk => .inl hk)) (Kd.R_mono (Kd.R_tight rfl hv) (fun k hk => .inr hk))) (fun k hk => hk) (fun k hk => ⟨trivial, fun e => by
      subst e
      obtain ⟨cv, hcv⟩ := Kd.R_typed hv k hk.symm
      exact types_ne hcv hcg (by decide) rfl⟩)).1
  rw [e0, show ((t : Int)).toNat = t by omega] at hS
  exact hS
theorem S_c3 {base g n cap t : Nat} {ok : Nat → Prop} {ths : List S49} {W : World} {x : S49} (h : Kd.S k49 49 W base ok (.slice (some ⟨g, 0, none⟩) n cap) ths) (hx : ths[t]? = some x) : ∃ v, W.cell? ⟨g, t * 4 + 3, none⟩ = some v := by
 have hn := (Kd.S_reads' h).1
 have htl : t < ths.length := (List.getElem?_eq_some_iff.1 hx).1
 obtain ⟨oki, c, hcl, hM, hcc, hfr, hoki, hH⟩ := Kd.S_elem h z49 (t : Int) (by omega) (by omega)
 obtain ⟨v1, v3, rfl, g1, g3⟩ := k49_openM hM
 have e0 : (t : Int).toNat * k49.sz = t * 4 := by show (t : Int).toNat * 4 = _; omega
 have := hcc 3 v3 rfl
 rw [e0] at this
 exact ⟨v3, this⟩
theorem S_f3 {base g n cap t : Nat} {ok : Nat → Prop} {ths : List S49} {W : World} {x : S49} (h : Kd.S k49 49 W base ok (.slice (some ⟨g, 0, none⟩) n cap) ths) (hx : ths[t]? = some x) : W.frozen? ⟨g, t * 4 + 3, none⟩ = false := by
 have hn := (Kd.S_reads' h).1
 have htl : t < ths.length := (List.getElem?_eq_some_iff.1 hx).1
 obtain ⟨oki, c, hcl, hM, hcc, hfr, hoki, hH⟩ := Kd.S_elem h z49 (t : Int) (by omega) (by omega)
 have e0 : (t : Int).toNat * k49.sz = t * 4 := by show (t : Int).toNat * 4 = _; omega
 have := hfr 3
 rw [e0] at this
 exact this
end Go.Proofs.Ytphklaajolpieaa.Print
