/- Short names for what the print spells out often: where a cell that is read lies. -/
import Derived.Test.YtijpfonbeepmfaaPrint0
namespace Go.Proofs.Ytijpfonbeepmfaa.Print
open Go.RowKit Go.Proofs.YtijpfonbeepmfaaW.PrintWords Go.Proofs.YtijpfonbeepmfaaW.PrintLast Go.Proofs.YtijpfonbeepmfaaW.PrintMore
set_option linter.unusedVariables false
/-- A row of Bools, told by a number. -/
def lb_ (n m : Nat) : Array Bool := ((List.range n).map fun i => m.testBit i).toArray
end Go.Proofs.Ytijpfonbeepmfaa.Print
