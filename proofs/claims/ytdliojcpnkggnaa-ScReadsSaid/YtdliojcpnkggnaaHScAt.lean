/- ref10.At at a state that may be, and what a step does to locations: plain Lean. -/
import Derived.Test.YtdliojcpnkggnaaHScSt
import Derived.Test.YtdliojcpnkggnaaPrint9
namespace Go.Proofs.Ytdliojcpnkggnaa.Print
open Go.RowKit Go.Proofs.YtdliojcpnkggnaaW.PrintWords Go.Proofs.YtdliojcpnkggnaaW.PrintLast Go.Proofs.YtdliojcpnkggnaaW.PrintMore
set_option linter.unusedVariables false
set_option linter.unusedSimpArgs false
section
variable {A : List Int} {B : List (List S39)} {mem : List Int} {ths : List S45}
theorem rd_set (l : List Int) (i v j : Int) (hi : 0 ≤ i) (hj : 0 ≤ j) : rd (l.set i.toNat v) j = rd l j ∨ i = j := by
  by_cases e : i = j
  · exact .inr e
  · left
    unfold rd
    rw [List.getD_eq_getElem?_getD, List.getD_eq_getElem?_getD, List.getElem?_set_ne (by omega)]
end
end Go.Proofs.Ytdliojcpnkggnaa.Print
