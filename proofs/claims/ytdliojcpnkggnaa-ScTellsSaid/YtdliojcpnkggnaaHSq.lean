/- Short names for what the print spells out often: where a cell that is read lies. -/
import Derived.Test.YtdliojcpnkggnaaPrint0
namespace Go.Proofs.Ytdliojcpnkggnaa.Print
open Go.RowKit Go.Proofs.YtdliojcpnkggnaaW.PrintWords Go.Proofs.YtdliojcpnkggnaaW.PrintLast Go.Proofs.YtdliojcpnkggnaaW.PrintMore
set_option linter.unusedVariables false
theorem bk_ {w : World} {p : Addr} {b g : Nat} {u : Value} (h : w.cell? p = some u) (hg : w.heap.size ≤ g) (e : p.block = b := by first | rfl | exact add_block _ _) : b < g := by
  rw [← e]; exact Nat.lt_of_lt_of_le (World.block_lt_of_cell? _ _ h) hg
/-- A row of Bools, told by a number. -/
def lb_ (n m : Nat) : Array Bool := ((List.range n).map fun i => m.testBit i).toArray
end Go.Proofs.Ytdliojcpnkggnaa.Print
