/- What cfg.Met answers at a code's row: plain Lean. -/
import Derived.Test.YteobpfgncohloaaHCsCode
import Derived.Test.YteobpfgncohloaaPrint1
import Derived.Test.YteobpfgncohloaaHCfg
import Derived.Test.YteobpfgncohloaaHWays
namespace Go.Proofs.Yteobpfgncohloaa.Print
open Go.RowKit Go.Maps Go.Proofs.YteobpfgncohloaaW.PrintWords Go.Proofs.YteobpfgncohloaaW.PrintLast Go.Proofs.YteobpfgncohloaaW.PrintMore
set_option linter.unusedVariables false
set_option linter.unusedSimpArgs false
theorem rdOf_set (m : List Bool) (x y : Int) (b : Bool) (hx : 0 ≤ x) (hy : 0 ≤ y) (hl : y < (m.length : Int)) : rdOf false (m.set y.toNat b) x = if x = y then b else rdOf false m x := by
 unfold rdOf
 rw [List.getD_eq_getElem?_getD, List.getD_eq_getElem?_getD, List.getElem?_set]
 by_cases c : x = y
 ·subst c; simp only [if_true]; rw [if_pos (by omega)]; rfl
 ·rw [if_neg (by omega), if_neg c]
theorem rdOf_replicate (n : Nat) (x : Int) : rdOf false (List.replicate n false) x = false := by
 unfold rdOf
 rw [List.getD_eq_getElem?_getD, List.getElem?_replicate]
 split <;> rfl
def reachD (l : List S42) (a b : Int) : Bool := decide (0 < ledF l anyStep a b)
theorem reachD_iff {l : List S42} (hF : Fwd l) {a b : Int} : reachD l a b = true ↔ Way l anyStep a b := by
 unfold reachD; rw [decide_eq_true_eq]; exact walk_way l anyStep hF _ a b (by omega)
theorem reach_f {l : List S42} (hl : l.length ≤ 80) (hB : fwdB l = true) (a : Int) {b : Int} (hb : (Lit.int .i64 b).wf = true) : cfg_Reach.f l a b = some (reachD l a b) := by
 unfold cfg_Reach.f; rw [if_pos ⟨by omega, hB⟩, if_pos hb]; rfl
def Met (l : List S42) (r : List Bool) : Prop := r.length = l.length + 1 ∧ ∀ x : Int, 0 ≤ x → x ≤ (l.length : Int) → rdOf false r x = (x == 0 || reachD l 0 x)
theorem met_l0 (l : List S42) (hl : l.length ≤ 80) (hB : fwdB l = true) : ∀ (n : Nat) (i : Int) (m : List Bool), ((l.length : Int) + 1) - i ≤ n → 0 ≤ i → i ≤ (l.length : Int) + 1 → m.length = l.length + 1 →
 (∀ x : Int, 0 ≤ x → x ≤ (l.length : Int) → rdOf false m x = (x == 0 || (decide (x < i) && reachD l 0 x))) → ∃ r, Ev (fun k => cfg_Met.l0 k l m ((l.length + 1 : Nat) : Int) i) r ∧ Met l r := by
 intro n
 induction n with
 | zero =>
  intro i m h h0 hi hm hM
  refine ⟨m, ?_, hm, fun x h1 h2 => ?_⟩
  ·refine Ev.step (fun k => by rw [cfg_Met.l0]) ?_
   simp only [if_neg (show ¬ i < ((l.length + 1 : Nat) : Int) by omega)]
   exact Ev.now m
  ·rw [hM x h1 h2, decide_eq_true (show x < i by omega)]; simp
 | succ n ih =>
  intro i m h h0 hi hm hM
  by_cases c : i < ((l.length + 1 : Nat) : Int)
  ·have e1 : wrap64 (i + 1) = i + 1 := w64 (by omega) (by omega)
   by_cases cm : rdOf false m i = true
   ·have ci : i = 0 := by
     have := hM i h0 (by omega)
     rw [cm] at this
     simp at this
     exact this
    have hs : rdOf false (m.set i.toNat true) = rdOf false m ∨ True := .inr trivial
    obtain ⟨r, hr, hp⟩ := ih (i + 1) (m.set i.toNat true) (by omega) (by omega) (by omega) (by simp [hm]) (fun x h1 h2 => by
     rw [rdOf_set m x i true h1 h0 (by omega), hM x h1 h2]
     by_cases cx : x = i
     ·simp [cx, ci]
     ·rw [if_neg cx, decide_eq_false (show ¬ x < i by omega), decide_eq_false (show ¬ x < i + 1 by omega)])
    refine ⟨r, ?_, hp⟩
    refine Ev.step (fun k => by rw [cfg_Met.l0]) ?_
    simp only [if_pos c, if_pos h0, if_pos (show i < (m.length : Int) by omega), if_pos cm, e1]
    exact hr
   ·have hne : i ≠ 0 := by
     intro e
     have := hM i h0 (by omega)
     rw [e] at this cm
     exact cm (by rw [this]; rfl)
    obtain ⟨r, hr, hp⟩ := ih (i + 1) (m.set i.toNat (reachD l 0 i)) (by omega) (by omega) (by omega) (by simp [hm]) (fun x h1 h2 => by
     rw [rdOf_set m x i _ h1 h0 (by omega), hM x h1 h2]
     by_cases cx : x = i
     ·subst cx; rw [if_pos rfl, decide_eq_true (show x < x + 1 by omega)]; simp [hne]
     ·rw [if_neg cx]
      by_cases c2 : x < i
      ·rw [decide_eq_true c2, decide_eq_true (show x < i + 1 by omega)]
      ·rw [decide_eq_false c2, decide_eq_false (show ¬ x < i + 1 by omega)])
    refine ⟨r, ?_, hp⟩
    refine Ev.step (fun k => by rw [cfg_Met.l0]) ?_
    simp only [if_pos c, if_pos h0, if_pos (show i < (m.length : Int) by omega), if_neg cm, e1, reach_f hl hB 0 (wf_i64_of (x := i) (by omega) (by omega)), Option.bind_some]
    exact hr
  ·refine ⟨m, ?_, hm, fun x h1 h2 => ?_⟩
   ·refine Ev.step (fun k => by rw [cfg_Met.l0]) ?_
    simp only [if_neg c]
    exact Ev.now m
   ·rw [hM x h1 h2, decide_eq_true (show x < i by omega)]; simp
theorem met_ev (l : List S42) (hl : l.length ≤ 80) (hB : fwdB l = true) : ∃ r, Ev (fun k => cfg_Met.f k l) r ∧ Met l r := by
 have e1 : wrap64 ((l.length : Int) + 1) = (l.length : Int) + 1 := w64 (by omega) (by omega)
 obtain ⟨r, hr, hp⟩ := met_l0 l hl hB (l.length + 1) 0 ((List.replicate (l.length + 1) false).set 0 true) (by omega) (by omega) (by omega) (by simp) (fun x h1 h2 => by
  have := rdOf_set (List.replicate (l.length + 1) false) x 0 true h1 (by omega) (by rw [List.length_replicate]; omega)
  rw [show (0 : Int).toNat = 0 from rfl] at this
  rw [this, rdOf_replicate, decide_eq_false (show ¬ x < 0 by omega)]
  by_cases c : x = 0 <;> simp [c])
 refine ⟨r, ?_, hp⟩
 unfold cfg_Met.f
 simp only [e1, if_pos (show (0 : Int) ≤ (l.length : Int) + 1 by omega), show ((l.length : Int) + 1).toNat = l.length + 1 by omega, if_pos (show l.length + 1 ≤ 281474976710656 by omega), Option.bind_some, List.length_replicate, if_pos (show 0 < ((l.length + 1 : Nat) : Int) by omega), show (0 : Int).toNat = 0 from rfl]
 exact hr
theorem head18 : Ev (fun k => fencepostlaw18_head.f k) true := Ev.of fencepostlaw18_head.mono (k := 40) (by decide +kernel)
theorem fwdB_row {n : Nat} {l : List S42} (h : RowOk n l) : fwdB l = true := by
 unfold fwdB
 rw [List.all_eq_true]
 intro i hi
 have hi' : i < l.length := by simpa using hi
 have hk := (h (i : Int) (by omega) (by omega)).tgt
 unfold JumpOk at hk
 by_cases c : (rd_T42 l (i : Int)).f0 ≥ 8
 ·have := hk c
  simp only [Bool.or_eq_true, Bool.and_eq_true, decide_eq_true_eq]
  exact .inr ⟨by omega, this.2⟩
 ·have h8 : (rd_T42 l (i : Int)).f0 ≠ 8 := by omega
  have h9 : (rd_T42 l (i : Int)).f0 ≠ 9 := by omega
  have h10 : (rd_T42 l (i : Int)).f0 ≠ 10 := by omega
  simp [h8, h9, h10]
/-- A place is come to. -/
def At (l : List S42) (a : Int) : Prop := 0 ≤ a ∧ a ≤ (l.length : Int) ∧ (a = 0 ∨ reachD l 0 a = true)
theorem At.next {l : List S42} (hF : Fwd l) {a b : Int} (h : At l a) (hb : b ∈ nexts l a) : At l b := by
 have hr := nexts_range hF hb
 refine ⟨by omega, by omega, .inr ((reachD_iff hF).2 ?_)⟩
 rcases h.2.2 with e | e
 ·subst e; exact .one hb
 ·exact ((reachD_iff hF).1 e).trans (by omega) rfl (.one hb)
end Go.Proofs.Yteobpfgncohloaa.Print
