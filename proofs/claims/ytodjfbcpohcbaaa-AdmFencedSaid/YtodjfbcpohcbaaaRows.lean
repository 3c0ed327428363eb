/-
  No cell of these rows narrows 'for every input' (looked for: loops, veiled, ifaces, maps, wideKeys, modest, calm, conditions, laid).
  DERIVED. THE GIVEN ROWS OF THIS SEAT. 6 by the template 'for every input the law returns true; each argument reads behind the call as it read before'; 0 by the template 'total and deterministic' (their statements: YtodjfbcpohcbaaaTotals.lean).
  GIVEN WITH THE SEED: the statements are not yours to turn. If you find one false, say at which input.
  Laid BY PROGRAM, IN A SANDBOX (cutbox-rows.mjs): the forced cells as the released guide's own fill.sh prints them over the translation 965d862b3556edf3… (all of the seat's roots in one cut). By AI agents, Wed Nov 11 2026. No macro, syntax, notation, axiom, sorry.
-/
import Derived.Test.YtodjfbcpohcbaaaChecked
import GoSem.Claim
import GoSem.ClaimJoined
import GoSem.ClaimMapViews
import Derived.JoinedTies
import Derived.KernelRfl
namespace Go.Proofs.Ytodjfbcpohcbaaa
/- THE CELL 'sum', in the pinned program and in every row, IS THE sha256 OF THE DUMP (.gsa) THAT YtodjfbcpohcbaaaProg.lean LOADS. Nothing in Lean hashes anything: it is a label: what it is worth is what the hold of that sum in a sandbox is worth. -/
noncomputable def Try.pinned : Pinned := { name := "ytodjfbcpohcbaaa", sum := "965d862b3556edf3eb3a59635050a691e2dae326a2bbbf82f3e706c5035e02e9", checked := Try.checked }
namespace Rows
def none {H : Type} : Left H := { results := [], args := [] }

/-- 'fencepostlaw19.AdmTells': WHATEVER THE INPUT: true; the input reads as it did. -/
def admTellsSpec : ChangeSpec := { name := "admTells", fn := fun _ => fun
  | [d1, d2] => { results := [.lit (.bool true)], args := [d1, d2] }
  | _ => none }
def admTellsRow : OpenClaim := { program := "ytodjfbcpohcbaaa", sum := "965d862b3556edf3eb3a59635050a691e2dae326a2bbbf82f3e706c5035e02e9", func := "fencepost/fencepostlaw19.AdmTells", spec := "admTells", unfollowed := true, recurses := true, apart := false }
def AdmTellsSaid : Prop := admTellsRow.holds Try.pinned (OpenSpec.ofChange admTellsSpec)

/-- ITS FALSE NEIGHBOUR: 'it returns false'. Refute it at one input. -/
def admTellsWrong : ChangeSpec := { name := "admTells", fn := fun _ => fun
  | [d1, d2] => { results := [.lit (.bool false)], args := [d1, d2] }
  | _ => none }
def AdmTellsWrongFalsely : Prop := admTellsRow.holds Try.pinned (OpenSpec.ofChange admTellsWrong)

/-- 'fencepostlaw19.AdmCrossed': WHATEVER THE INPUT: true; the input reads as it did. -/
def admCrossedSpec : ChangeSpec := { name := "admCrossed", fn := fun _ => fun
  | [d1, d2] => { results := [.lit (.bool true)], args := [d1, d2] }
  | _ => none }
def admCrossedRow : OpenClaim := { program := "ytodjfbcpohcbaaa", sum := "965d862b3556edf3eb3a59635050a691e2dae326a2bbbf82f3e706c5035e02e9", func := "fencepost/fencepostlaw19.AdmCrossed", spec := "admCrossed", unfollowed := true, recurses := true, apart := false }
def AdmCrossedSaid : Prop := admCrossedRow.holds Try.pinned (OpenSpec.ofChange admCrossedSpec)

/-- ITS FALSE NEIGHBOUR: 'it returns false'. Refute it at one input. -/
def admCrossedWrong : ChangeSpec := { name := "admCrossed", fn := fun _ => fun
  | [d1, d2] => { results := [.lit (.bool false)], args := [d1, d2] }
  | _ => none }
def AdmCrossedWrongFalsely : Prop := admCrossedRow.holds Try.pinned (OpenSpec.ofChange admCrossedWrong)

/-- 'fencepostlaw19.AdmIdle': WHATEVER THE INPUT: true; the input reads as it did. -/
def admIdleSpec : ChangeSpec := { name := "admIdle", fn := fun _ => fun
  | [d1, d2] => { results := [.lit (.bool true)], args := [d1, d2] }
  | _ => none }
def admIdleRow : OpenClaim := { program := "ytodjfbcpohcbaaa", sum := "965d862b3556edf3eb3a59635050a691e2dae326a2bbbf82f3e706c5035e02e9", func := "fencepost/fencepostlaw19.AdmIdle", spec := "admIdle", unfollowed := true, recurses := true, apart := false }
def AdmIdleSaid : Prop := admIdleRow.holds Try.pinned (OpenSpec.ofChange admIdleSpec)

/-- ITS FALSE NEIGHBOUR: 'it returns false'. Refute it at one input. -/
def admIdleWrong : ChangeSpec := { name := "admIdle", fn := fun _ => fun
  | [d1, d2] => { results := [.lit (.bool false)], args := [d1, d2] }
  | _ => none }
def AdmIdleWrongFalsely : Prop := admIdleRow.holds Try.pinned (OpenSpec.ofChange admIdleWrong)

/-- 'fencepostlaw19.AdmFenced': WHATEVER THE INPUT: true; the input reads as it did. -/
def admFencedSpec : ChangeSpec := { name := "admFenced", fn := fun _ => fun
  | [d] => { results := [.lit (.bool true)], args := [d] }
  | _ => none }
def admFencedRow : OpenClaim := { program := "ytodjfbcpohcbaaa", sum := "965d862b3556edf3eb3a59635050a691e2dae326a2bbbf82f3e706c5035e02e9", func := "fencepost/fencepostlaw19.AdmFenced", spec := "admFenced", unfollowed := true, recurses := true, apart := false }
def AdmFencedSaid : Prop := admFencedRow.holds Try.pinned (OpenSpec.ofChange admFencedSpec)

/-- ITS FALSE NEIGHBOUR: 'it returns false'. Refute it at one input. -/
def admFencedWrong : ChangeSpec := { name := "admFenced", fn := fun _ => fun
  | [d] => { results := [.lit (.bool false)], args := [d] }
  | _ => none }
def AdmFencedWrongFalsely : Prop := admFencedRow.holds Try.pinned (OpenSpec.ofChange admFencedWrong)

/-- 'fencepostlaw19.AdmSteps': WHATEVER THE INPUT: true; the input reads as it did. -/
def admStepsSpec : ChangeSpec := { name := "admSteps", fn := fun _ => fun
  | [d] => { results := [.lit (.bool true)], args := [d] }
  | _ => none }
def admStepsRow : OpenClaim := { program := "ytodjfbcpohcbaaa", sum := "965d862b3556edf3eb3a59635050a691e2dae326a2bbbf82f3e706c5035e02e9", func := "fencepost/fencepostlaw19.AdmSteps", spec := "admSteps", unfollowed := true, recurses := true, apart := false }
def AdmStepsSaid : Prop := admStepsRow.holds Try.pinned (OpenSpec.ofChange admStepsSpec)

/-- ITS FALSE NEIGHBOUR: 'it returns false'. Refute it at one input. -/
def admStepsWrong : ChangeSpec := { name := "admSteps", fn := fun _ => fun
  | [d] => { results := [.lit (.bool false)], args := [d] }
  | _ => none }
def AdmStepsWrongFalsely : Prop := admStepsRow.holds Try.pinned (OpenSpec.ofChange admStepsWrong)

/-- 'fencepostlaw19.AdmBehind': WHATEVER THE INPUT: true; the input reads as it did. -/
def admBehindSpec : ChangeSpec := { name := "admBehind", fn := fun _ => fun
  | [d1, d2, d3] => { results := [.lit (.bool true)], args := [d1, d2, d3] }
  | _ => none }
def admBehindRow : OpenClaim := { program := "ytodjfbcpohcbaaa", sum := "965d862b3556edf3eb3a59635050a691e2dae326a2bbbf82f3e706c5035e02e9", func := "fencepost/fencepostlaw19.AdmBehind", spec := "admBehind", unfollowed := true, recurses := true, apart := false }
def AdmBehindSaid : Prop := admBehindRow.holds Try.pinned (OpenSpec.ofChange admBehindSpec)

/-- ITS FALSE NEIGHBOUR: 'it returns false'. Refute it at one input. -/
def admBehindWrong : ChangeSpec := { name := "admBehind", fn := fun _ => fun
  | [d1, d2, d3] => { results := [.lit (.bool false)], args := [d1, d2, d3] }
  | _ => none }
def AdmBehindWrongFalsely : Prop := admBehindRow.holds Try.pinned (OpenSpec.ofChange admBehindWrong)

/- THE SECOND FORM. 'bulk': how many values and letters a reading holds, each counted each time it is reached (what is shared counts as often as it is met; a slice's spare places count too). A statement '..UptoSaid' is the law's where the arguments, and the package variables that the reading takes, are together of bulk at most 1048576: NARROWER than '..Said'. Prove '..Said' where nothing that the law and all that it calls make is longer than what came in: it says more and counts as full. Else prove '..UptoSaid'. A law counts once. -/
mutual
def uptoBulk {H : Type} : DataW H → Nat
  | .lit (.string bytes) => bytes.length + 1
  | .lit _ => 1
  | .nil => 1
  | .ptr d => uptoBulk d + 1
  | .slice elems spare => uptoBulkAll elems + uptoBulkAll spare + 1
  | .agg parts => uptoBulkAll parts + 1
  | .iface _ d => uptoBulk d + 1
  | .map entries => uptoBulkEntries entries + 1
  | .held _ => 1
def uptoBulkAll {H : Type} : List (DataW H) → Nat
  | [] => 0
  | d :: r => uptoBulk d + uptoBulkAll r
def uptoBulkEntries {H : Type} : List (Lit × DataW H) → Nat
  | [] => 0
  | x :: r => uptoBulkEntry x + uptoBulkEntries r
def uptoBulkEntry {H : Type} : Lit × DataW H → Nat
  | (.string bytes, d) => bytes.length + uptoBulk d + 1
  | (_, d) => uptoBulk d + 1
 end
def uptoSmall : (H : Type) → List (DataW H) → Bool := fun _ ds => decide (uptoBulkAll ds ≤ 1048576)
def OpenSpec.upto (s : _root_.Go.ChangeSpec) : _root_.Go.OpenSpec := { _root_.Go.OpenSpec.ofChange s with cond := some uptoSmall }

/-- 'fencepostlaw19.AdmTells', WHERE WHAT IT READS IS OF BULK AT MOST 1048576: true; the input reads as it did. -/
def admTellsUptoRow : OpenClaim := { program := "ytodjfbcpohcbaaa", sum := "965d862b3556edf3eb3a59635050a691e2dae326a2bbbf82f3e706c5035e02e9", func := "fencepost/fencepostlaw19.AdmTells", spec := "admTells", unfollowed := true, recurses := true, apart := false, narrowed := true }
def AdmTellsUptoSaid : Prop := admTellsUptoRow.holds Try.pinned (OpenSpec.upto admTellsSpec)

/-- 'fencepostlaw19.AdmCrossed', WHERE WHAT IT READS IS OF BULK AT MOST 1048576: true; the input reads as it did. -/
def admCrossedUptoRow : OpenClaim := { program := "ytodjfbcpohcbaaa", sum := "965d862b3556edf3eb3a59635050a691e2dae326a2bbbf82f3e706c5035e02e9", func := "fencepost/fencepostlaw19.AdmCrossed", spec := "admCrossed", unfollowed := true, recurses := true, apart := false, narrowed := true }
def AdmCrossedUptoSaid : Prop := admCrossedUptoRow.holds Try.pinned (OpenSpec.upto admCrossedSpec)

/-- 'fencepostlaw19.AdmIdle', WHERE WHAT IT READS IS OF BULK AT MOST 1048576: true; the input reads as it did. -/
def admIdleUptoRow : OpenClaim := { program := "ytodjfbcpohcbaaa", sum := "965d862b3556edf3eb3a59635050a691e2dae326a2bbbf82f3e706c5035e02e9", func := "fencepost/fencepostlaw19.AdmIdle", spec := "admIdle", unfollowed := true, recurses := true, apart := false, narrowed := true }
def AdmIdleUptoSaid : Prop := admIdleUptoRow.holds Try.pinned (OpenSpec.upto admIdleSpec)

/-- 'fencepostlaw19.AdmFenced', WHERE WHAT IT READS IS OF BULK AT MOST 1048576: true; the input reads as it did. -/
def admFencedUptoRow : OpenClaim := { program := "ytodjfbcpohcbaaa", sum := "965d862b3556edf3eb3a59635050a691e2dae326a2bbbf82f3e706c5035e02e9", func := "fencepost/fencepostlaw19.AdmFenced", spec := "admFenced", unfollowed := true, recurses := true, apart := false, narrowed := true }
def AdmFencedUptoSaid : Prop := admFencedUptoRow.holds Try.pinned (OpenSpec.upto admFencedSpec)

/-- 'fencepostlaw19.AdmSteps', WHERE WHAT IT READS IS OF BULK AT MOST 1048576: true; the input reads as it did. -/
def admStepsUptoRow : OpenClaim := { program := "ytodjfbcpohcbaaa", sum := "965d862b3556edf3eb3a59635050a691e2dae326a2bbbf82f3e706c5035e02e9", func := "fencepost/fencepostlaw19.AdmSteps", spec := "admSteps", unfollowed := true, recurses := true, apart := false, narrowed := true }
def AdmStepsUptoSaid : Prop := admStepsUptoRow.holds Try.pinned (OpenSpec.upto admStepsSpec)

/-- 'fencepostlaw19.AdmBehind', WHERE WHAT IT READS IS OF BULK AT MOST 1048576: true; the input reads as it did. -/
def admBehindUptoRow : OpenClaim := { program := "ytodjfbcpohcbaaa", sum := "965d862b3556edf3eb3a59635050a691e2dae326a2bbbf82f3e706c5035e02e9", func := "fencepost/fencepostlaw19.AdmBehind", spec := "admBehind", unfollowed := true, recurses := true, apart := false, narrowed := true }
def AdmBehindUptoSaid : Prop := admBehindUptoRow.holds Try.pinned (OpenSpec.upto admBehindSpec)

end Rows
end Go.Proofs.Ytodjfbcpohcbaaa
