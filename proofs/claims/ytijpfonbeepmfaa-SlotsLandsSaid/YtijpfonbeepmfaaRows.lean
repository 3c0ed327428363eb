/-
  No cell of these rows narrows 'for every input' (looked for: loops, veiled, ifaces, maps, wideKeys, modest, calm, conditions, laid).
  DERIVED. THE GIVEN ROWS OF THIS SEAT. 7 by the template 'for every input the law returns true; each argument reads behind the call as it read before'; 0 by the template 'total and deterministic' (their statements: YtijpfonbeepmfaaTotals.lean).
  GIVEN WITH THE SEED: the statements are not yours to turn. If you find one false, say at which input.
  Laid BY PROGRAM, IN A SANDBOX (cutbox-rows.mjs): the forced cells as the released guide's own fill.sh prints them over the translation 69e68e195c4b8e95… (all of the seat's roots in one cut). By AI agents, Wed Nov 11 2026. No macro, syntax, notation, axiom, sorry.
-/
import Derived.Test.YtijpfonbeepmfaaChecked
import GoSem.Claim
import GoSem.ClaimJoined
import GoSem.ClaimMapViews
import Derived.JoinedTies
import Derived.KernelRfl
namespace Go.Proofs.Ytijpfonbeepmfaa
/- THE CELL 'sum', in the pinned program and in every row, IS THE sha256 OF THE DUMP (.gsa) THAT YtijpfonbeepmfaaProg.lean LOADS. Nothing in Lean hashes anything: it is a label: what it is worth is what the hold of that sum in a sandbox is worth. -/
noncomputable def Try.pinned : Pinned := { name := "ytijpfonbeepmfaa", sum := "69e68e195c4b8e959dd2684352f3f0db33ed4306ea2fcaf9fc5decfbd21095a7", checked := Try.checked }
namespace Rows
def none {H : Type} : Left H := { results := [], args := [] }

/-- 'fencepostlaw08.SlotsTells': WHATEVER THE INPUT: true; the input reads as it did. -/
def slotsTellsSpec : ChangeSpec := { name := "slotsTells", fn := fun _ => fun
  | [d1, d2, d3, d4, d5, d6] => { results := [.lit (.bool true)], args := [d1, d2, d3, d4, d5, d6] }
  | _ => none }
def slotsTellsRow : OpenClaim := { program := "ytijpfonbeepmfaa", sum := "69e68e195c4b8e959dd2684352f3f0db33ed4306ea2fcaf9fc5decfbd21095a7", func := "fencepost/fencepostlaw08.SlotsTells", spec := "slotsTells", unfollowed := true, recurses := true, apart := false }
def SlotsTellsSaid : Prop := slotsTellsRow.holds Try.pinned (OpenSpec.ofChange slotsTellsSpec)

/-- ITS FALSE NEIGHBOUR: 'it returns false'. Refute it at one input. -/
def slotsTellsWrong : ChangeSpec := { name := "slotsTells", fn := fun _ => fun
  | [d1, d2, d3, d4, d5, d6] => { results := [.lit (.bool false)], args := [d1, d2, d3, d4, d5, d6] }
  | _ => none }
def SlotsTellsWrongFalsely : Prop := slotsTellsRow.holds Try.pinned (OpenSpec.ofChange slotsTellsWrong)

/-- 'fencepostlaw08.SlotsNums': WHATEVER THE INPUT: true; the input reads as it did. -/
def slotsNumsSpec : ChangeSpec := { name := "slotsNums", fn := fun _ => fun
  | [d1, d2, d3, d4] => { results := [.lit (.bool true)], args := [d1, d2, d3, d4] }
  | _ => none }
def slotsNumsRow : OpenClaim := { program := "ytijpfonbeepmfaa", sum := "69e68e195c4b8e959dd2684352f3f0db33ed4306ea2fcaf9fc5decfbd21095a7", func := "fencepost/fencepostlaw08.SlotsNums", spec := "slotsNums", unfollowed := true, recurses := true, apart := false }
def SlotsNumsSaid : Prop := slotsNumsRow.holds Try.pinned (OpenSpec.ofChange slotsNumsSpec)

/-- ITS FALSE NEIGHBOUR: 'it returns false'. Refute it at one input. -/
def slotsNumsWrong : ChangeSpec := { name := "slotsNums", fn := fun _ => fun
  | [d1, d2, d3, d4] => { results := [.lit (.bool false)], args := [d1, d2, d3, d4] }
  | _ => none }
def SlotsNumsWrongFalsely : Prop := slotsNumsRow.holds Try.pinned (OpenSpec.ofChange slotsNumsWrong)

/-- 'fencepostlaw08.SlotsBack': WHATEVER THE INPUT: true; the input reads as it did. -/
def slotsBackSpec : ChangeSpec := { name := "slotsBack", fn := fun _ => fun
  | [d1, d2] => { results := [.lit (.bool true)], args := [d1, d2] }
  | _ => none }
def slotsBackRow : OpenClaim := { program := "ytijpfonbeepmfaa", sum := "69e68e195c4b8e959dd2684352f3f0db33ed4306ea2fcaf9fc5decfbd21095a7", func := "fencepost/fencepostlaw08.SlotsBack", spec := "slotsBack", unfollowed := true, recurses := true, apart := false }
def SlotsBackSaid : Prop := slotsBackRow.holds Try.pinned (OpenSpec.ofChange slotsBackSpec)

/-- ITS FALSE NEIGHBOUR: 'it returns false'. Refute it at one input. -/
def slotsBackWrong : ChangeSpec := { name := "slotsBack", fn := fun _ => fun
  | [d1, d2] => { results := [.lit (.bool false)], args := [d1, d2] }
  | _ => none }
def SlotsBackWrongFalsely : Prop := slotsBackRow.holds Try.pinned (OpenSpec.ofChange slotsBackWrong)

/-- 'fencepostlaw08.SlotsErased': WHATEVER THE INPUT: true; the input reads as it did. -/
def slotsErasedSpec : ChangeSpec := { name := "slotsErased", fn := fun _ => fun
  | [d1, d2] => { results := [.lit (.bool true)], args := [d1, d2] }
  | _ => none }
def slotsErasedRow : OpenClaim := { program := "ytijpfonbeepmfaa", sum := "69e68e195c4b8e959dd2684352f3f0db33ed4306ea2fcaf9fc5decfbd21095a7", func := "fencepost/fencepostlaw08.SlotsErased", spec := "slotsErased", unfollowed := true, recurses := true, apart := false }
def SlotsErasedSaid : Prop := slotsErasedRow.holds Try.pinned (OpenSpec.ofChange slotsErasedSpec)

/-- ITS FALSE NEIGHBOUR: 'it returns false'. Refute it at one input. -/
def slotsErasedWrong : ChangeSpec := { name := "slotsErased", fn := fun _ => fun
  | [d1, d2] => { results := [.lit (.bool false)], args := [d1, d2] }
  | _ => none }
def SlotsErasedWrongFalsely : Prop := slotsErasedRow.holds Try.pinned (OpenSpec.ofChange slotsErasedWrong)

/-- 'fencepostlaw08.SlotsCode': WHATEVER THE INPUT: true; the input reads as it did. -/
def slotsCodeSpec : ChangeSpec := { name := "slotsCode", fn := fun _ => fun
  | [d1, d2] => { results := [.lit (.bool true)], args := [d1, d2] }
  | _ => none }
def slotsCodeRow : OpenClaim := { program := "ytijpfonbeepmfaa", sum := "69e68e195c4b8e959dd2684352f3f0db33ed4306ea2fcaf9fc5decfbd21095a7", func := "fencepost/fencepostlaw08.SlotsCode", spec := "slotsCode", unfollowed := true, recurses := true, apart := false }
def SlotsCodeSaid : Prop := slotsCodeRow.holds Try.pinned (OpenSpec.ofChange slotsCodeSpec)

/-- ITS FALSE NEIGHBOUR: 'it returns false'. Refute it at one input. -/
def slotsCodeWrong : ChangeSpec := { name := "slotsCode", fn := fun _ => fun
  | [d1, d2] => { results := [.lit (.bool false)], args := [d1, d2] }
  | _ => none }
def SlotsCodeWrongFalsely : Prop := slotsCodeRow.holds Try.pinned (OpenSpec.ofChange slotsCodeWrong)

/-- 'fencepostlaw08.SlotsLands': WHATEVER THE INPUT: true; the input reads as it did. -/
def slotsLandsSpec : ChangeSpec := { name := "slotsLands", fn := fun _ => fun
  | [d1, d2] => { results := [.lit (.bool true)], args := [d1, d2] }
  | _ => none }
def slotsLandsRow : OpenClaim := { program := "ytijpfonbeepmfaa", sum := "69e68e195c4b8e959dd2684352f3f0db33ed4306ea2fcaf9fc5decfbd21095a7", func := "fencepost/fencepostlaw08.SlotsLands", spec := "slotsLands", unfollowed := true, recurses := true, apart := false }
def SlotsLandsSaid : Prop := slotsLandsRow.holds Try.pinned (OpenSpec.ofChange slotsLandsSpec)

/-- ITS FALSE NEIGHBOUR: 'it returns false'. Refute it at one input. -/
def slotsLandsWrong : ChangeSpec := { name := "slotsLands", fn := fun _ => fun
  | [d1, d2] => { results := [.lit (.bool false)], args := [d1, d2] }
  | _ => none }
def SlotsLandsWrongFalsely : Prop := slotsLandsRow.holds Try.pinned (OpenSpec.ofChange slotsLandsWrong)

/-- 'fencepostlaw08.SlotsNone': WHATEVER THE INPUT: true; the input reads as it did. -/
def slotsNoneSpec : ChangeSpec := { name := "slotsNone", fn := fun _ => fun
  | [d1, d2] => { results := [.lit (.bool true)], args := [d1, d2] }
  | _ => none }
def slotsNoneRow : OpenClaim := { program := "ytijpfonbeepmfaa", sum := "69e68e195c4b8e959dd2684352f3f0db33ed4306ea2fcaf9fc5decfbd21095a7", func := "fencepost/fencepostlaw08.SlotsNone", spec := "slotsNone", unfollowed := true, recurses := true, apart := false }
def SlotsNoneSaid : Prop := slotsNoneRow.holds Try.pinned (OpenSpec.ofChange slotsNoneSpec)

/-- ITS FALSE NEIGHBOUR: 'it returns false'. Refute it at one input. -/
def slotsNoneWrong : ChangeSpec := { name := "slotsNone", fn := fun _ => fun
  | [d1, d2] => { results := [.lit (.bool false)], args := [d1, d2] }
  | _ => none }
def SlotsNoneWrongFalsely : Prop := slotsNoneRow.holds Try.pinned (OpenSpec.ofChange slotsNoneWrong)

/- THE SECOND FORM. 'bulk': how many values and letters a reading holds, each counted each time it is reached (what is shared counts as often as it is met; a slice's spare places count too). A statement '..UptoSaid' is the law's where the arguments, and the package variables that the reading takes, are together of bulk at most 1048576: NARROWER than '..Said'. Prove '..Said' where nothing that the law and all that it calls make is longer than what came in: it says more and counts as full. Else prove '..UptoSaid'. A law counts once. -/
mutual
def uptoBulk {H : Type} : DataW H → Nat
  | .lit (.string bytes) => bytes.length + 1
  | .lit _ => 1
  | .nil => 1
  | .ptr d => uptoBulk d + 1
  | .slice elems spare => uptoBulkAll elems + uptoBulkAll spare + 1
  | .agg parts => uptoBulkAll parts + 1
  | .iface _ d => uptoBulk d + 1
  | .map entries => uptoBulkEntries entries + 1
  | .held _ => 1
def uptoBulkAll {H : Type} : List (DataW H) → Nat
  | [] => 0
  | d :: r => uptoBulk d + uptoBulkAll r
def uptoBulkEntries {H : Type} : List (Lit × DataW H) → Nat
  | [] => 0
  | x :: r => uptoBulkEntry x + uptoBulkEntries r
def uptoBulkEntry {H : Type} : Lit × DataW H → Nat
  | (.string bytes, d) => bytes.length + uptoBulk d + 1
  | (_, d) => uptoBulk d + 1
 end
def uptoSmall : (H : Type) → List (DataW H) → Bool := fun _ ds => decide (uptoBulkAll ds ≤ 1048576)
def OpenSpec.upto (s : _root_.Go.ChangeSpec) : _root_.Go.OpenSpec := { _root_.Go.OpenSpec.ofChange s with cond := some uptoSmall }

/-- 'fencepostlaw08.SlotsTells', WHERE WHAT IT READS IS OF BULK AT MOST 1048576: true; the input reads as it did. -/
def slotsTellsUptoRow : OpenClaim := { program := "ytijpfonbeepmfaa", sum := "69e68e195c4b8e959dd2684352f3f0db33ed4306ea2fcaf9fc5decfbd21095a7", func := "fencepost/fencepostlaw08.SlotsTells", spec := "slotsTells", unfollowed := true, recurses := true, apart := false, narrowed := true }
def SlotsTellsUptoSaid : Prop := slotsTellsUptoRow.holds Try.pinned (OpenSpec.upto slotsTellsSpec)

/-- 'fencepostlaw08.SlotsNums', WHERE WHAT IT READS IS OF BULK AT MOST 1048576: true; the input reads as it did. -/
def slotsNumsUptoRow : OpenClaim := { program := "ytijpfonbeepmfaa", sum := "69e68e195c4b8e959dd2684352f3f0db33ed4306ea2fcaf9fc5decfbd21095a7", func := "fencepost/fencepostlaw08.SlotsNums", spec := "slotsNums", unfollowed := true, recurses := true, apart := false, narrowed := true }
def SlotsNumsUptoSaid : Prop := slotsNumsUptoRow.holds Try.pinned (OpenSpec.upto slotsNumsSpec)

/-- 'fencepostlaw08.SlotsBack', WHERE WHAT IT READS IS OF BULK AT MOST 1048576: true; the input reads as it did. -/
def slotsBackUptoRow : OpenClaim := { program := "ytijpfonbeepmfaa", sum := "69e68e195c4b8e959dd2684352f3f0db33ed4306ea2fcaf9fc5decfbd21095a7", func := "fencepost/fencepostlaw08.SlotsBack", spec := "slotsBack", unfollowed := true, recurses := true, apart := false, narrowed := true }
def SlotsBackUptoSaid : Prop := slotsBackUptoRow.holds Try.pinned (OpenSpec.upto slotsBackSpec)

/-- 'fencepostlaw08.SlotsErased', WHERE WHAT IT READS IS OF BULK AT MOST 1048576: true; the input reads as it did. -/
def slotsErasedUptoRow : OpenClaim := { program := "ytijpfonbeepmfaa", sum := "69e68e195c4b8e959dd2684352f3f0db33ed4306ea2fcaf9fc5decfbd21095a7", func := "fencepost/fencepostlaw08.SlotsErased", spec := "slotsErased", unfollowed := true, recurses := true, apart := false, narrowed := true }
def SlotsErasedUptoSaid : Prop := slotsErasedUptoRow.holds Try.pinned (OpenSpec.upto slotsErasedSpec)

/-- 'fencepostlaw08.SlotsCode', WHERE WHAT IT READS IS OF BULK AT MOST 1048576: true; the input reads as it did. -/
def slotsCodeUptoRow : OpenClaim := { program := "ytijpfonbeepmfaa", sum := "69e68e195c4b8e959dd2684352f3f0db33ed4306ea2fcaf9fc5decfbd21095a7", func := "fencepost/fencepostlaw08.SlotsCode", spec := "slotsCode", unfollowed := true, recurses := true, apart := false, narrowed := true }
def SlotsCodeUptoSaid : Prop := slotsCodeUptoRow.holds Try.pinned (OpenSpec.upto slotsCodeSpec)

/-- 'fencepostlaw08.SlotsLands', WHERE WHAT IT READS IS OF BULK AT MOST 1048576: true; the input reads as it did. -/
def slotsLandsUptoRow : OpenClaim := { program := "ytijpfonbeepmfaa", sum := "69e68e195c4b8e959dd2684352f3f0db33ed4306ea2fcaf9fc5decfbd21095a7", func := "fencepost/fencepostlaw08.SlotsLands", spec := "slotsLands", unfollowed := true, recurses := true, apart := false, narrowed := true }
def SlotsLandsUptoSaid : Prop := slotsLandsUptoRow.holds Try.pinned (OpenSpec.upto slotsLandsSpec)

/-- 'fencepostlaw08.SlotsNone', WHERE WHAT IT READS IS OF BULK AT MOST 1048576: true; the input reads as it did. -/
def slotsNoneUptoRow : OpenClaim := { program := "ytijpfonbeepmfaa", sum := "69e68e195c4b8e959dd2684352f3f0db33ed4306ea2fcaf9fc5decfbd21095a7", func := "fencepost/fencepostlaw08.SlotsNone", spec := "slotsNone", unfollowed := true, recurses := true, apart := false, narrowed := true }
def SlotsNoneUptoSaid : Prop := slotsNoneUptoRow.holds Try.pinned (OpenSpec.upto slotsNoneSpec)

end Rows
end Go.Proofs.Ytijpfonbeepmfaa
