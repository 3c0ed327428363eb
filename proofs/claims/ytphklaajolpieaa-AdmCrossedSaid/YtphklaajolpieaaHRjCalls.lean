/- ref10.Step: its Lean function and its contract. -/
import Derived.Test.YtphklaajolpieaaHRjSt
import Derived.Test.YtphklaajolpieaaHRjStep
namespace Go.Proofs.Ytphklaajolpieaa.Print
open Go.RowKit Go.Proofs.YtphklaajolpieaaW.PrintWords Go.Proofs.YtphklaajolpieaaW.PrintLast Go.Proofs.YtphklaajolpieaaW.PrintMore
set_option linter.unusedVariables false
set_option linter.unusedSimpArgs false
theorem w64s {x : Int} (h0 : -9223372036854775808 ≤ x) (h1 : x ≤ 9223372036854775807) : wrap64 x = x := by
 unfold wrap64; omega
section
variable {A : List Int} {B : List (List S36)} {mem : List Int} {ths : List S49}
theorem ats_yes (h2 : ths.length = B.length) {t : Nat} {x : S49} (hx : ths[t]? = some x) (h3 : 0 ≤ x.f0) (hl : x.f0 < ((rd_L2 B (t : Int)).length : Int)) : fencepostref10_At.f A B mem ths (t : Int) = some ((rd_T36 (rd_L2 B (t : Int)) x.f0).f0, (rd_T36 (rd_L2 B (t : Int)) x.f0).f1, (rd_T36 (rd_L2 B (t : Int)) x.f0).f2, (rd_T36 (rd_L2 B (t : Int)) x.f0).f3, (rd_T36 (rd_L2 B (t : Int)) x.f0).f4, true) := by
 have h1 := (List.getElem?_eq_some_iff.1 hx).1
 have e : rd_T49 ths (t : Int) = x := by unfold rd_T49; rw [Int.toNat_natCast, List.getD_eq_getElem?_getD, hx]; rfl
 unfold fencepostref10_At.f
 simp only [e, if_neg (show ¬ (t : Int) < 0 by omega), if_neg (show ¬ (t : Int) ≥ (ths.length : Int) by omega), if_pos (show (0 : Int) ≤ (t : Int) by omega), if_pos (show (t : Int) < (ths.length : Int) by omega), if_pos (show (t : Int) < (B.length : Int) by omega), if_neg (show ¬ x.f0 ≥ ((rd_L2 B (t : Int)).length : Int) by omega), if_pos h3, if_pos hl]
theorem ats_no (h2 : ths.length = B.length) (a : Int) (ha : a < 0 ∨ (ths.length : Int) ≤ a ∨ ((rd_L2 B a).length : Int) ≤ (rd_T49 ths a).f0) : fencepostref10_At.f A B mem ths a = some (0, 0, 0, 0, 0, false) := by
 unfold fencepostref10_At.f
 by_cases c1 : a < 0
 ·rw [if_pos c1]
 ·rw [if_neg c1]
  by_cases c2 : a ≥ (ths.length : Int)
  ·rw [if_pos c2]
  ·rw [if_neg c2, if_pos (by omega), if_pos (by omega), if_pos (by omega), if_pos (by omega)]
theorem own_l0 (h : ∀ x ∈ ths, x.f1.length = 4 ∧ x.f3.length ≤ 1000000) (hl : ths.length ≤ 1000) : ∀ (d : Nat) (t : Nat), ths.length - t ≤ d → t ≤ ths.length → Ev (fun k => fencepostref10_Own.l0 k (t : Int) mem ths mem (ths.take t)) (mem, ths) := by
 intro d
 induction d with
 | zero =>
  intro t h1 h2
  refine Ev.step (fun k => by rw [fencepostref10_Own.l0]) ?_
  simp only [if_neg (show ¬ (t : Int) < (ths.length : Int) by omega), List.take_of_length_le (show ths.length ≤ t by omega)]
  exact Ev.now _
 | succ d ih =>
  intro t h1 h2
  by_cases c : t < ths.length
  ·obtain ⟨x, hx⟩ : ∃ x, ths[t]? = some x := ⟨_, List.getElem?_eq_getElem c⟩
   have e : rd_T49 ths (t : Int) = x := by unfold rd_T49; rw [Int.toNat_natCast, List.getD_eq_getElem?_getD, hx]; rfl
   have ho := h x (List.mem_of_getElem? hx)
   have hk : (ths.take t).length = t := by rw [List.length_take]; omega
   refine Ev.step (fun k => by rw [fencepostref10_Own.l0]) ?_
   simp only [e, Option.bind_some, List.nil_append, if_pos (show (t : Int) < (ths.length : Int) by omega), if_pos (show (0 : Int) ≤ (t : Int) by omega), if_pos (show ([] : List Int).length + x.f1.length < 17592186044416 by simp; omega), if_pos (show ([] : List S66).length + x.f3.length < 8796093022208 by simp; omega), if_pos (show (ths.take t).length < 2199023255552 by omega), w64s (show -9223372036854775808 ≤ (t : Int) + 1 by omega) (by omega)]
   have e2 : ths.take t ++ [x] = ths.take (t + 1) := by rw [List.take_add_one, hx]; rfl
   rw [e2]
   exact ih (t + 1) (by omega) (by omega)
  ·refine Ev.step (fun k => by rw [fencepostref10_Own.l0]) ?_
   simp only [if_neg (show ¬ (t : Int) < (ths.length : Int) by omega), List.take_of_length_le (show ths.length ≤ t by omega)]
   exact Ev.now _
theorem own_some (h : ∀ x ∈ ths, x.f1.length = 4 ∧ x.f3.length ≤ 1000000) (hl : ths.length ≤ 1000) (hm : mem.length ≤ 1000000) : ∃ k, fencepostref10_Own.f k mem ths = some (mem, ths) := by
 obtain ⟨k, hk⟩ := (own_l0 (mem := mem) h hl ths.length 0 (by omega) (by omega)).rounds
 refine ⟨k, ?_⟩
 unfold fencepostref10_Own.f
 simp only [Option.bind_some, List.nil_append, if_pos (show ([] : List Int).length + mem.length < 17592186044416 by simp; omega)]
 exact hk
end
end Go.Proofs.Ytphklaajolpieaa.Print
