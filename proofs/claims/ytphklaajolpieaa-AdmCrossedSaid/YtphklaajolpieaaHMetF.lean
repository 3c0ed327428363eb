/- What cfg.Met answers, as a list. -/
import Derived.Test.YtphklaajolpieaaHCfgMet
namespace Go.Proofs.Ytphklaajolpieaa.Print
open Go.RowKit Go.Maps Go.Proofs.YtphklaajolpieaaW.PrintWords Go.Proofs.YtphklaajolpieaaW.PrintLast Go.Proofs.YtphklaajolpieaaW.PrintMore
set_option linter.unusedVariables false
set_option linter.unusedSimpArgs false
theorem mw64 {x : Int} (h0 : -9223372036854775808 ≤ x) (h1 : x ≤ 9223372036854775807) : wrap64 x = x := by
 unfold wrap64; omega
theorem mrd_set (m : List Bool) (x y : Int) (b : Bool) (hx : 0 ≤ x) (hy : 0 ≤ y) (hl : y < (m.length : Int)) : rdOf false (m.set y.toNat b) x = if x = y then b else rdOf false m x := by
 unfold rdOf
 rw [List.getD_eq_getElem?_getD, List.getD_eq_getElem?_getD, List.getElem?_set]
 by_cases c : x = y
 ·subst c; simp only [if_true]; rw [if_pos (by omega)]; rfl
 ·rw [if_neg (by omega), if_neg c]
theorem mrd_replicate (n : Nat) (x : Int) : rdOf false (List.replicate n false) x = false := by
 unfold rdOf
 rw [List.getD_eq_getElem?_getD, List.getElem?_replicate]
 split <;> rfl
def metAt (l : List S36) (x : Int) : Bool := x == 0 || decide (0 < ledF l anyStep 0 x)
def metF (l : List S36) : List Bool := (List.range (l.length + 1)).map fun (x : Nat) => metAt l (x : Int)
theorem metF_length (l : List S36) : (metF l).length = l.length + 1 := by simp [metF]
theorem mreach_f {l : List S36} (hl : l.length ≤ 1000) (hB : fwdB l = true) (a : Int) {b : Int} (hb : (Lit.int .i64 b).wf = true) : cfg_Reach.f l a b = some (decide (0 < ledF l anyStep a b)) := by
 unfold cfg_Reach.f; rw [if_pos ⟨by omega, hB⟩, if_pos hb]
theorem mmet_l0 (l : List S36) (hl : l.length ≤ 1000) (hB : fwdB l = true) : ∀ (n : Nat) (i : Int) (m : List Bool), ((l.length : Int) + 1) - i ≤ n → 0 ≤ i → i ≤ (l.length : Int) + 1 → m.length = l.length + 1 →
 (∀ x : Int, 0 ≤ x → x ≤ (l.length : Int) → rdOf false m x = (x == 0 || (decide (x < i) && decide (0 < ledF l anyStep 0 x)))) → ∃ r, Ev (fun k => cfg_Met.l0 k l m ((l.length + 1 : Nat) : Int) i) r ∧ r.length = l.length + 1 ∧ ∀ x : Int, 0 ≤ x → x ≤ (l.length : Int) → rdOf false r x = metAt l x := by
 intro n
 induction n with
 | zero =>
  intro i m h h0 hi hm hM
  refine ⟨m, ?_, hm, fun x h1 h2 => ?_⟩
  ·refine Ev.step (fun k => by rw [cfg_Met.l0]) ?_
   simp only [if_neg (show ¬ i < ((l.length + 1 : Nat) : Int) by omega)]
   exact Ev.now m
  ·rw [hM x h1 h2, decide_eq_true (show x < i by omega)]; simp [metAt]
 | succ n ih =>
  intro i m h h0 hi hm hM
  by_cases c : i < ((l.length + 1 : Nat) : Int)
  ·have e1 : wrap64 (i + 1) = i + 1 := mw64 (by omega) (by omega)
   by_cases cm : rdOf false m i = true
   ·have ci : i = 0 := by
     have := hM i h0 (by omega)
     rw [cm] at this
     simp at this
     exact this
    obtain ⟨r, hr, hp⟩ := ih (i + 1) (m.set i.toNat true) (by omega) (by omega) (by omega) (by simp [hm]) (fun x h1 h2 => by
     rw [mrd_set m x i true h1 h0 (by omega), hM x h1 h2]
     by_cases cx : x = i
     ·simp [cx, ci]
     ·rw [if_neg cx, decide_eq_false (show ¬ x < i by omega), decide_eq_false (show ¬ x < i + 1 by omega)])
    refine ⟨r, ?_, hp⟩
    refine Ev.step (fun k => by rw [cfg_Met.l0]) ?_
    simp only [if_pos c, if_pos h0, if_pos (show i < (m.length : Int) by omega), if_pos cm, e1]
    exact hr
   ·have hne : i ≠ 0 := by
     intro e
     have := hM i h0 (by omega)
     rw [e] at this cm
     exact cm (by rw [this]; rfl)
    obtain ⟨r, hr, hp⟩ := ih (i + 1) (m.set i.toNat (decide (0 < ledF l anyStep 0 i))) (by omega) (by omega) (by omega) (by simp [hm]) (fun x h1 h2 => by
     rw [mrd_set m x i _ h1 h0 (by omega), hM x h1 h2]
     by_cases cx : x = i
     ·subst cx; rw [if_pos rfl, decide_eq_true (show x < x + 1 by omega)]; simp [hne]
     ·rw [if_neg cx]
      by_cases c2 : x < i
      ·rw [decide_eq_true c2, decide_eq_true (show x < i + 1 by omega)]
      ·rw [decide_eq_false c2, decide_eq_false (show ¬ x < i + 1 by omega)])
    refine ⟨r, ?_, hp⟩
    refine Ev.step (fun k => by rw [cfg_Met.l0]) ?_
    simp only [if_pos c, if_pos h0, if_pos (show i < (m.length : Int) by omega), if_neg cm, e1, mreach_f hl hB 0 (wf_i64_of (x := i) (by omega) (by omega)), Option.bind_some]
    exact hr
  ·refine ⟨m, ?_, hm, fun x h1 h2 => ?_⟩
   ·refine Ev.step (fun k => by rw [cfg_Met.l0]) ?_
    simp only [if_neg c]
    exact Ev.now m
   ·rw [hM x h1 h2, decide_eq_true (show x < i by omega)]; simp [metAt]
theorem metF_ev (l : List S36) (hl : l.length ≤ 1000) (hB : fwdB l = true) : Ev (fun k => cfg_Met.f k l) (metF l) := by
 have e1 : wrap64 ((l.length : Int) + 1) = (l.length : Int) + 1 := mw64 (by omega) (by omega)
 obtain ⟨r, hr, hlen, hp⟩ := mmet_l0 l hl hB (l.length + 1) 0 ((List.replicate (l.length + 1) false).set 0 true) (by omega) (by omega) (by omega) (by simp) (fun x h1 h2 => by
  have := mrd_set (List.replicate (l.length + 1) false) x 0 true h1 (by omega) (by rw [List.length_replicate]; omega)
  rw [show (0 : Int).toNat = 0 from rfl] at this
  rw [this, mrd_replicate, decide_eq_false (show ¬ x < 0 by omega)]
  by_cases c : x = 0 <;> simp [c])
 have : r = metF l := by
  apply List.ext_getElem
  ·rw [hlen, metF_length]
  ·intro i h1 h2
   have := hp (i : Int) (by omega) (by omega)
   unfold rdOf at this
   rw [List.getD_eq_getElem?_getD, show ((i : Int)).toNat = i by omega, List.getElem?_eq_getElem h1] at this
   simp [metF]
   exact this
 rw [← this]
 unfold cfg_Met.f
 simp only [e1, if_pos (show (0 : Int) ≤ (l.length : Int) + 1 by omega), show ((l.length : Int) + 1).toNat = l.length + 1 by omega, if_pos (show l.length + 1 ≤ 281474976710656 by omega), Option.bind_some, List.length_replicate, if_pos (show 0 < ((l.length + 1 : Nat) : Int) by omega), show (0 : Int).toNat = 0 from rfl]
 exact hr
end Go.Proofs.Ytphklaajolpieaa.Print
