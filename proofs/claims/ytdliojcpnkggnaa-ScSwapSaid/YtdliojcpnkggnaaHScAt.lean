/- ref10.At at a state that may be, and what a step does to locations: plain Lean. -/
import Derived.Test.YtdliojcpnkggnaaHScSt
import Derived.Test.YtdliojcpnkggnaaPrint9
namespace Go.Proofs.Ytdliojcpnkggnaa.Print
open Go.RowKit Go.Proofs.YtdliojcpnkggnaaW.PrintWords Go.Proofs.YtdliojcpnkggnaaW.PrintLast Go.Proofs.YtdliojcpnkggnaaW.PrintMore
set_option linter.unusedVariables false
set_option linter.unusedSimpArgs false
section
variable {A : List Int} {B : List (List S39)} {mem : List Int} {ths : List S45}
theorem at_yes (h : StOk A B mem ths) {t : Nat} {x : S45} (hx : ths[t]? = some x) (hl : x.f0 < ((rd_L3 B (t : Int)).length : Int)) : fencepostref10_At.f A B mem ths (t : Int) = some ((rd_T39 (rd_L3 B (t : Int)) x.f0).f0, (rd_T39 (rd_L3 B (t : Int)) x.f0).f1, (rd_T39 (rd_L3 B (t : Int)) x.f0).f2, (rd_T39 (rd_L3 B (t : Int)) x.f0).f3, (rd_T39 (rd_L3 B (t : Int)) x.f0).f4, true) := by
  have h1 := (List.getElem?_eq_some_iff.1 hx).1
  have h2 := h.lt
  have h3 := (h.th t x hx).lo
  unfold fencepostref10_At.f
  simp only [rdT_nat hx, if_neg (show ¬ (t : Int) < 0 by omega), if_neg (show ¬ (t : Int) ≥ (ths.length : Int) by omega), if_pos (show (0 : Int) ≤ (t : Int) by omega), if_pos (show (t : Int) < (ths.length : Int) by omega), if_pos (show (t : Int) < (B.length : Int) by omega), if_neg (show ¬ x.f0 ≥ ((rd_L3 B (t : Int)).length : Int) by omega), if_pos h3, if_pos hl]
theorem at_no (h : StOk A B mem ths) (a : Int) (ha : a < 0 ∨ (ths.length : Int) ≤ a ∨ ((rd_L3 B a).length : Int) ≤ (rd_T45 ths a).f0) : fencepostref10_At.f A B mem ths a = some (0, 0, 0, 0, 0, false) := by
  have h2 := h.lt
  unfold fencepostref10_At.f
  by_cases c1 : a < 0
  · rw [if_pos c1]
  · rw [if_neg c1]
    by_cases c2 : a ≥ (ths.length : Int)
    · rw [if_pos c2]
    · rw [if_neg c2, if_pos (by omega), if_pos (by omega), if_pos (by omega), if_pos (by omega)]
theorem rd_set (l : List Int) (i v j : Int) (hi : 0 ≤ i) (hj : 0 ≤ j) : rd (l.set i.toNat v) j = rd l j ∨ i = j := by
  by_cases e : i = j
  · exact .inr e
  · left
    unfold rd
    rw [List.getD_eq_getElem?_getD, List.getD_eq_getElem?_getD, List.getElem?_set_ne (by omega)]
end
end Go.Proofs.Ytdliojcpnkggnaa.Print
