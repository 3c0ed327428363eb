/- Words of this claim: of those that the kit's print laid as YtijpfonbeepmfaaWInv the ones that it uses. -/
import Derived.Test.YtijpfonbeepmfaaKTab
namespace Go.Proofs.YtijpfonbeepmfaaW.PrintLast
def up (b : Nat → Bool) (i : Nat) : Nat → Bool := fun j => if j = i then true else b j
end Go.Proofs.YtijpfonbeepmfaaW.PrintLast
