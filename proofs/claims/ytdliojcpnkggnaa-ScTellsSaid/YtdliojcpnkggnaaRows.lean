/-
  No cell of these rows narrows 'for every input' (looked for: loops, veiled, ifaces, maps, wideKeys, modest, calm, conditions, laid).
  DERIVED. THE GIVEN ROWS OF THIS SEAT. 6 by the template 'for every input the law returns true; each argument reads behind the call as it read before'; 0 by the template 'total and deterministic' (their statements: YtdliojcpnkggnaaTotals.lean).
  GIVEN WITH THE SEED: the statements are not yours to turn. If you find one false, say at which input.
  Laid BY PROGRAM, IN A SANDBOX (cutbox-rows.mjs): the forced cells as the released guide's own fill.sh prints them over the translation 07fd469e078cba44… (all of the seat's roots in one cut). By AI agents, Wed Nov 11 2026. No macro, syntax, notation, axiom, sorry.
-/
import Derived.Test.YtdliojcpnkggnaaChecked
import GoSem.Claim
import GoSem.ClaimJoined
import GoSem.ClaimMapViews
import Derived.JoinedTies
import Derived.KernelRfl
namespace Go.Proofs.Ytdliojcpnkggnaa
/- THE CELL 'sum', in the pinned program and in every row, IS THE sha256 OF THE DUMP (.gsa) THAT YtdliojcpnkggnaaProg.lean LOADS. Nothing in Lean hashes anything: it is a label: what it is worth is what the hold of that sum in a sandbox is worth. -/
noncomputable def Try.pinned : Pinned := { name := "ytdliojcpnkggnaa", sum := "07fd469e078cba44a568e46dde6f5d877eb63b61a12415aa6710ce256fefff68", checked := Try.checked }
namespace Rows
def none {H : Type} : Left H := { results := [], args := [] }

/-- 'fencepostlaw10.ScTells': WHATEVER THE INPUT: true; the input reads as it did. -/
def scTellsSpec : ChangeSpec := { name := "scTells", fn := fun _ => fun
  | [d1, d2, d3] => { results := [.lit (.bool true)], args := [d1, d2, d3] }
  | _ => none }
def scTellsRow : OpenClaim := { program := "ytdliojcpnkggnaa", sum := "07fd469e078cba44a568e46dde6f5d877eb63b61a12415aa6710ce256fefff68", func := "fencepost/fencepostlaw10.ScTells", spec := "scTells", unfollowed := true, recurses := true, apart := false }
def ScTellsSaid : Prop := scTellsRow.holds Try.pinned (OpenSpec.ofChange scTellsSpec)

/-- ITS FALSE NEIGHBOUR: 'it returns false'. Refute it at one input. -/
def scTellsWrong : ChangeSpec := { name := "scTells", fn := fun _ => fun
  | [d1, d2, d3] => { results := [.lit (.bool false)], args := [d1, d2, d3] }
  | _ => none }
def ScTellsWrongFalsely : Prop := scTellsRow.holds Try.pinned (OpenSpec.ofChange scTellsWrong)

/-- 'fencepostlaw10.ScApart': WHATEVER THE INPUT: true; the input reads as it did. -/
def scApartSpec : ChangeSpec := { name := "scApart", fn := fun _ => fun
  | [d1, d2, d3] => { results := [.lit (.bool true)], args := [d1, d2, d3] }
  | _ => none }
def scApartRow : OpenClaim := { program := "ytdliojcpnkggnaa", sum := "07fd469e078cba44a568e46dde6f5d877eb63b61a12415aa6710ce256fefff68", func := "fencepost/fencepostlaw10.ScApart", spec := "scApart", unfollowed := true, recurses := true, apart := false }
def ScApartSaid : Prop := scApartRow.holds Try.pinned (OpenSpec.ofChange scApartSpec)

/-- ITS FALSE NEIGHBOUR: 'it returns false'. Refute it at one input. -/
def scApartWrong : ChangeSpec := { name := "scApart", fn := fun _ => fun
  | [d1, d2, d3] => { results := [.lit (.bool false)], args := [d1, d2, d3] }
  | _ => none }
def ScApartWrongFalsely : Prop := scApartRow.holds Try.pinned (OpenSpec.ofChange scApartWrong)

/-- 'fencepostlaw10.ScOn': WHATEVER THE INPUT: true; the input reads as it did. -/
def scOnSpec : ChangeSpec := { name := "scOn", fn := fun _ => fun
  | [d1, d2, d3] => { results := [.lit (.bool true)], args := [d1, d2, d3] }
  | _ => none }
def scOnRow : OpenClaim := { program := "ytdliojcpnkggnaa", sum := "07fd469e078cba44a568e46dde6f5d877eb63b61a12415aa6710ce256fefff68", func := "fencepost/fencepostlaw10.ScOn", spec := "scOn", unfollowed := true, recurses := true, apart := false }
def ScOnSaid : Prop := scOnRow.holds Try.pinned (OpenSpec.ofChange scOnSpec)

/-- ITS FALSE NEIGHBOUR: 'it returns false'. Refute it at one input. -/
def scOnWrong : ChangeSpec := { name := "scOn", fn := fun _ => fun
  | [d1, d2, d3] => { results := [.lit (.bool false)], args := [d1, d2, d3] }
  | _ => none }
def ScOnWrongFalsely : Prop := scOnRow.holds Try.pinned (OpenSpec.ofChange scOnWrong)

/-- 'fencepostlaw10.ScReads': WHATEVER THE INPUT: true; the input reads as it did. -/
def scReadsSpec : ChangeSpec := { name := "scReads", fn := fun _ => fun
  | [d1, d2, d3, d4] => { results := [.lit (.bool true)], args := [d1, d2, d3, d4] }
  | _ => none }
def scReadsRow : OpenClaim := { program := "ytdliojcpnkggnaa", sum := "07fd469e078cba44a568e46dde6f5d877eb63b61a12415aa6710ce256fefff68", func := "fencepost/fencepostlaw10.ScReads", spec := "scReads", unfollowed := true, recurses := true, apart := false }
def ScReadsSaid : Prop := scReadsRow.holds Try.pinned (OpenSpec.ofChange scReadsSpec)

/-- ITS FALSE NEIGHBOUR: 'it returns false'. Refute it at one input. -/
def scReadsWrong : ChangeSpec := { name := "scReads", fn := fun _ => fun
  | [d1, d2, d3, d4] => { results := [.lit (.bool false)], args := [d1, d2, d3, d4] }
  | _ => none }
def ScReadsWrongFalsely : Prop := scReadsRow.holds Try.pinned (OpenSpec.ofChange scReadsWrong)

/-- 'fencepostlaw10.ScSwap': WHATEVER THE INPUT: true; the input reads as it did. -/
def scSwapSpec : ChangeSpec := { name := "scSwap", fn := fun _ => fun
  | [d1, d2, d3, d4] => { results := [.lit (.bool true)], args := [d1, d2, d3, d4] }
  | _ => none }
def scSwapRow : OpenClaim := { program := "ytdliojcpnkggnaa", sum := "07fd469e078cba44a568e46dde6f5d877eb63b61a12415aa6710ce256fefff68", func := "fencepost/fencepostlaw10.ScSwap", spec := "scSwap", unfollowed := true, recurses := true, apart := false }
def ScSwapSaid : Prop := scSwapRow.holds Try.pinned (OpenSpec.ofChange scSwapSpec)

/-- ITS FALSE NEIGHBOUR: 'it returns false'. Refute it at one input. -/
def scSwapWrong : ChangeSpec := { name := "scSwap", fn := fun _ => fun
  | [d1, d2, d3, d4] => { results := [.lit (.bool false)], args := [d1, d2, d3, d4] }
  | _ => none }
def ScSwapWrongFalsely : Prop := scSwapRow.holds Try.pinned (OpenSpec.ofChange scSwapWrong)

/-- 'fencepostlaw10.ScEnds': WHATEVER THE INPUT: true; the input reads as it did. -/
def scEndsSpec : ChangeSpec := { name := "scEnds", fn := fun _ => fun
  | [d1, d2] => { results := [.lit (.bool true)], args := [d1, d2] }
  | _ => none }
def scEndsRow : OpenClaim := { program := "ytdliojcpnkggnaa", sum := "07fd469e078cba44a568e46dde6f5d877eb63b61a12415aa6710ce256fefff68", func := "fencepost/fencepostlaw10.ScEnds", spec := "scEnds", unfollowed := true, recurses := true, apart := false }
def ScEndsSaid : Prop := scEndsRow.holds Try.pinned (OpenSpec.ofChange scEndsSpec)

/-- ITS FALSE NEIGHBOUR: 'it returns false'. Refute it at one input. -/
def scEndsWrong : ChangeSpec := { name := "scEnds", fn := fun _ => fun
  | [d1, d2] => { results := [.lit (.bool false)], args := [d1, d2] }
  | _ => none }
def ScEndsWrongFalsely : Prop := scEndsRow.holds Try.pinned (OpenSpec.ofChange scEndsWrong)

/- THE SECOND FORM. 'bulk': how many values and letters a reading holds, each counted each time it is reached (what is shared counts as often as it is met; a slice's spare places count too). A statement '..UptoSaid' is the law's where the arguments, and the package variables that the reading takes, are together of bulk at most 1048576: NARROWER than '..Said'. Prove '..Said' where nothing that the law and all that it calls make is longer than what came in: it says more and counts as full. Else prove '..UptoSaid'. A law counts once. -/
mutual
def uptoBulk {H : Type} : DataW H → Nat
  | .lit (.string bytes) => bytes.length + 1
  | .lit _ => 1
  | .nil => 1
  | .ptr d => uptoBulk d + 1
  | .slice elems spare => uptoBulkAll elems + uptoBulkAll spare + 1
  | .agg parts => uptoBulkAll parts + 1
  | .iface _ d => uptoBulk d + 1
  | .map entries => uptoBulkEntries entries + 1
  | .held _ => 1
def uptoBulkAll {H : Type} : List (DataW H) → Nat
  | [] => 0
  | d :: r => uptoBulk d + uptoBulkAll r
def uptoBulkEntries {H : Type} : List (Lit × DataW H) → Nat
  | [] => 0
  | x :: r => uptoBulkEntry x + uptoBulkEntries r
def uptoBulkEntry {H : Type} : Lit × DataW H → Nat
  | (.string bytes, d) => bytes.length + uptoBulk d + 1
  | (_, d) => uptoBulk d + 1
 end
def uptoSmall : (H : Type) → List (DataW H) → Bool := fun _ ds => decide (uptoBulkAll ds ≤ 1048576)
def OpenSpec.upto (s : _root_.Go.ChangeSpec) : _root_.Go.OpenSpec := { _root_.Go.OpenSpec.ofChange s with cond := some uptoSmall }

/-- 'fencepostlaw10.ScTells', WHERE WHAT IT READS IS OF BULK AT MOST 1048576: true; the input reads as it did. -/
def scTellsUptoRow : OpenClaim := { program := "ytdliojcpnkggnaa", sum := "07fd469e078cba44a568e46dde6f5d877eb63b61a12415aa6710ce256fefff68", func := "fencepost/fencepostlaw10.ScTells", spec := "scTells", unfollowed := true, recurses := true, apart := false, narrowed := true }
def ScTellsUptoSaid : Prop := scTellsUptoRow.holds Try.pinned (OpenSpec.upto scTellsSpec)

/-- 'fencepostlaw10.ScApart', WHERE WHAT IT READS IS OF BULK AT MOST 1048576: true; the input reads as it did. -/
def scApartUptoRow : OpenClaim := { program := "ytdliojcpnkggnaa", sum := "07fd469e078cba44a568e46dde6f5d877eb63b61a12415aa6710ce256fefff68", func := "fencepost/fencepostlaw10.ScApart", spec := "scApart", unfollowed := true, recurses := true, apart := false, narrowed := true }
def ScApartUptoSaid : Prop := scApartUptoRow.holds Try.pinned (OpenSpec.upto scApartSpec)

/-- 'fencepostlaw10.ScOn', WHERE WHAT IT READS IS OF BULK AT MOST 1048576: true; the input reads as it did. -/
def scOnUptoRow : OpenClaim := { program := "ytdliojcpnkggnaa", sum := "07fd469e078cba44a568e46dde6f5d877eb63b61a12415aa6710ce256fefff68", func := "fencepost/fencepostlaw10.ScOn", spec := "scOn", unfollowed := true, recurses := true, apart := false, narrowed := true }
def ScOnUptoSaid : Prop := scOnUptoRow.holds Try.pinned (OpenSpec.upto scOnSpec)

/-- 'fencepostlaw10.ScReads', WHERE WHAT IT READS IS OF BULK AT MOST 1048576: true; the input reads as it did. -/
def scReadsUptoRow : OpenClaim := { program := "ytdliojcpnkggnaa", sum := "07fd469e078cba44a568e46dde6f5d877eb63b61a12415aa6710ce256fefff68", func := "fencepost/fencepostlaw10.ScReads", spec := "scReads", unfollowed := true, recurses := true, apart := false, narrowed := true }
def ScReadsUptoSaid : Prop := scReadsUptoRow.holds Try.pinned (OpenSpec.upto scReadsSpec)

/-- 'fencepostlaw10.ScSwap', WHERE WHAT IT READS IS OF BULK AT MOST 1048576: true; the input reads as it did. -/
def scSwapUptoRow : OpenClaim := { program := "ytdliojcpnkggnaa", sum := "07fd469e078cba44a568e46dde6f5d877eb63b61a12415aa6710ce256fefff68", func := "fencepost/fencepostlaw10.ScSwap", spec := "scSwap", unfollowed := true, recurses := true, apart := false, narrowed := true }
def ScSwapUptoSaid : Prop := scSwapUptoRow.holds Try.pinned (OpenSpec.upto scSwapSpec)

/-- 'fencepostlaw10.ScEnds', WHERE WHAT IT READS IS OF BULK AT MOST 1048576: true; the input reads as it did. -/
def scEndsUptoRow : OpenClaim := { program := "ytdliojcpnkggnaa", sum := "07fd469e078cba44a568e46dde6f5d877eb63b61a12415aa6710ce256fefff68", func := "fencepost/fencepostlaw10.ScEnds", spec := "scEnds", unfollowed := true, recurses := true, apart := false, narrowed := true }
def ScEndsUptoSaid : Prop := scEndsUptoRow.holds Try.pinned (OpenSpec.upto scEndsSpec)

end Rows
end Go.Proofs.Ytdliojcpnkggnaa
