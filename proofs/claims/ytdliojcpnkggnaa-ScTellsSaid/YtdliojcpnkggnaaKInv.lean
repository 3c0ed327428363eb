/- Words of this claim: of those that the kit's print laid as YtdliojcpnkggnaaWInv the ones that it uses. -/
import Derived.Test.YtdliojcpnkggnaaKTab
namespace Go.Proofs.YtdliojcpnkggnaaW.PrintLast
def up (b : Nat → Bool) (i : Nat) : Nat → Bool := fun j => if j = i then true else b j
end Go.Proofs.YtdliojcpnkggnaaW.PrintLast
