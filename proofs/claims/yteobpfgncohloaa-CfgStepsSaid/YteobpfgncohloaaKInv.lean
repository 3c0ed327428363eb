/- Words of this claim: of those that the kit's print laid as YteobpfgncohloaaWInv the ones that it uses. -/
import Derived.Test.YteobpfgncohloaaKTab
namespace Go.Proofs.YteobpfgncohloaaW.PrintLast
def up (b : Nat → Bool) (i : Nat) : Nat → Bool := fun j => if j = i then true else b j
end Go.Proofs.YteobpfgncohloaaW.PrintLast
