/-
  No cell of these rows narrows 'for every input' (looked for: loops, veiled, ifaces, maps, wideKeys, modest, calm, conditions, laid).
  DERIVED. THE GIVEN ROWS OF THIS SEAT. 12 by the template 'for every input the law returns true; each argument reads behind the call as it read before'; 0 by the template 'total and deterministic' (their statements: YtpaifpnnjflnfaaTotals.lean).
  GIVEN WITH THE SEED: the statements are not yours to turn. If you find one false, say at which input.
  Laid BY PROGRAM, IN A SANDBOX (cutbox-rows.mjs): the forced cells as the released guide's own fill.sh prints them over the translation 478e4dbb1efcde82… (all of the seat's roots in one cut). By AI agents, Wed Nov 11 2026. No macro, syntax, notation, axiom, sorry.
-/
import Derived.Test.YtpaifpnnjflnfaaChecked
import GoSem.Claim
import GoSem.ClaimJoined
import GoSem.ClaimMapViews
import Derived.JoinedTies
import Derived.KernelRfl
namespace Go.Proofs.Ytpaifpnnjflnfaa
/- THE CELL 'sum', in the pinned program and in every row, IS THE sha256 OF THE DUMP (.gsa) THAT YtpaifpnnjflnfaaProg.lean LOADS. Nothing in Lean hashes anything: it is a label: what it is worth is what the hold of that sum in a sandbox is worth. -/
noncomputable def Try.pinned : Pinned := { name := "ytpaifpnnjflnfaa", sum := "478e4dbb1efcde82beae01a30088b07d05891792894e4ab3f695117bd5159733", checked := Try.checked }
namespace Rows
def none {H : Type} : Left H := { results := [], args := [] }

/-- 'fencepostlaw18.CfgTells': WHATEVER THE INPUT: true; the input reads as it did. -/
def cfgTellsSpec : ChangeSpec := { name := "cfgTells", fn := fun _ => fun
  | [d1, d2, d3] => { results := [.lit (.bool true)], args := [d1, d2, d3] }
  | _ => none }
def cfgTellsRow : OpenClaim := { program := "ytpaifpnnjflnfaa", sum := "478e4dbb1efcde82beae01a30088b07d05891792894e4ab3f695117bd5159733", func := "fencepost/fencepostlaw18.CfgTells", spec := "cfgTells", unfollowed := true, recurses := true, apart := false }
def CfgTellsSaid : Prop := cfgTellsRow.holds Try.pinned (OpenSpec.ofChange cfgTellsSpec)

/-- ITS FALSE NEIGHBOUR: 'it returns false'. Refute it at one input. -/
def cfgTellsWrong : ChangeSpec := { name := "cfgTells", fn := fun _ => fun
  | [d1, d2, d3] => { results := [.lit (.bool false)], args := [d1, d2, d3] }
  | _ => none }
def CfgTellsWrongFalsely : Prop := cfgTellsRow.holds Try.pinned (OpenSpec.ofChange cfgTellsWrong)

/-- 'fencepostlaw18.CfgOn': WHATEVER THE INPUT: true; the input reads as it did. -/
def cfgOnSpec : ChangeSpec := { name := "cfgOn", fn := fun _ => fun
  | [d1, d2, d3] => { results := [.lit (.bool true)], args := [d1, d2, d3] }
  | _ => none }
def cfgOnRow : OpenClaim := { program := "ytpaifpnnjflnfaa", sum := "478e4dbb1efcde82beae01a30088b07d05891792894e4ab3f695117bd5159733", func := "fencepost/fencepostlaw18.CfgOn", spec := "cfgOn", unfollowed := true, recurses := true, apart := false }
def CfgOnSaid : Prop := cfgOnRow.holds Try.pinned (OpenSpec.ofChange cfgOnSpec)

/-- ITS FALSE NEIGHBOUR: 'it returns false'. Refute it at one input. -/
def cfgOnWrong : ChangeSpec := { name := "cfgOn", fn := fun _ => fun
  | [d1, d2, d3] => { results := [.lit (.bool false)], args := [d1, d2, d3] }
  | _ => none }
def CfgOnWrongFalsely : Prop := cfgOnRow.holds Try.pinned (OpenSpec.ofChange cfgOnWrong)

/-- 'fencepostlaw18.CfgThrough': WHATEVER THE INPUT: true; the input reads as it did. -/
def cfgThroughSpec : ChangeSpec := { name := "cfgThrough", fn := fun _ => fun
  | [d1, d2, d3, d4] => { results := [.lit (.bool true)], args := [d1, d2, d3, d4] }
  | _ => none }
def cfgThroughRow : OpenClaim := { program := "ytpaifpnnjflnfaa", sum := "478e4dbb1efcde82beae01a30088b07d05891792894e4ab3f695117bd5159733", func := "fencepost/fencepostlaw18.CfgThrough", spec := "cfgThrough", unfollowed := true, recurses := true, apart := false }
def CfgThroughSaid : Prop := cfgThroughRow.holds Try.pinned (OpenSpec.ofChange cfgThroughSpec)

/-- ITS FALSE NEIGHBOUR: 'it returns false'. Refute it at one input. -/
def cfgThroughWrong : ChangeSpec := { name := "cfgThrough", fn := fun _ => fun
  | [d1, d2, d3, d4] => { results := [.lit (.bool false)], args := [d1, d2, d3, d4] }
  | _ => none }
def CfgThroughWrongFalsely : Prop := cfgThroughRow.holds Try.pinned (OpenSpec.ofChange cfgThroughWrong)

/-- 'fencepostlaw18.CfgMet': WHATEVER THE INPUT: true; the input reads as it did. -/
def cfgMetSpec : ChangeSpec := { name := "cfgMet", fn := fun _ => fun
  | [d1, d2] => { results := [.lit (.bool true)], args := [d1, d2] }
  | _ => none }
def cfgMetRow : OpenClaim := { program := "ytpaifpnnjflnfaa", sum := "478e4dbb1efcde82beae01a30088b07d05891792894e4ab3f695117bd5159733", func := "fencepost/fencepostlaw18.CfgMet", spec := "cfgMet", unfollowed := true, recurses := true, apart := false }
def CfgMetSaid : Prop := cfgMetRow.holds Try.pinned (OpenSpec.ofChange cfgMetSpec)

/-- ITS FALSE NEIGHBOUR: 'it returns false'. Refute it at one input. -/
def cfgMetWrong : ChangeSpec := { name := "cfgMet", fn := fun _ => fun
  | [d1, d2] => { results := [.lit (.bool false)], args := [d1, d2] }
  | _ => none }
def CfgMetWrongFalsely : Prop := cfgMetRow.holds Try.pinned (OpenSpec.ofChange cfgMetWrong)

/-- 'fencepostlaw18.CfgSteps': WHATEVER THE INPUT: true; the input reads as it did. -/
def cfgStepsSpec : ChangeSpec := { name := "cfgSteps", fn := fun _ => fun
  | [d1, d2, d3] => { results := [.lit (.bool true)], args := [d1, d2, d3] }
  | _ => none }
def cfgStepsRow : OpenClaim := { program := "ytpaifpnnjflnfaa", sum := "478e4dbb1efcde82beae01a30088b07d05891792894e4ab3f695117bd5159733", func := "fencepost/fencepostlaw18.CfgSteps", spec := "cfgSteps", unfollowed := true, recurses := true, apart := false }
def CfgStepsSaid : Prop := cfgStepsRow.holds Try.pinned (OpenSpec.ofChange cfgStepsSpec)

/-- ITS FALSE NEIGHBOUR: 'it returns false'. Refute it at one input. -/
def cfgStepsWrong : ChangeSpec := { name := "cfgSteps", fn := fun _ => fun
  | [d1, d2, d3] => { results := [.lit (.bool false)], args := [d1, d2, d3] }
  | _ => none }
def CfgStepsWrongFalsely : Prop := cfgStepsRow.holds Try.pinned (OpenSpec.ofChange cfgStepsWrong)

/-- 'fencepostlaw18.CfgFences': WHATEVER THE INPUT: true; the input reads as it did. -/
def cfgFencesSpec : ChangeSpec := { name := "cfgFences", fn := fun _ => fun
  | [d1, d2, d3, d4] => { results := [.lit (.bool true)], args := [d1, d2, d3, d4] }
  | _ => none }
def cfgFencesRow : OpenClaim := { program := "ytpaifpnnjflnfaa", sum := "478e4dbb1efcde82beae01a30088b07d05891792894e4ab3f695117bd5159733", func := "fencepost/fencepostlaw18.CfgFences", spec := "cfgFences", unfollowed := true, recurses := true, apart := false }
def CfgFencesSaid : Prop := cfgFencesRow.holds Try.pinned (OpenSpec.ofChange cfgFencesSpec)

/-- ITS FALSE NEIGHBOUR: 'it returns false'. Refute it at one input. -/
def cfgFencesWrong : ChangeSpec := { name := "cfgFences", fn := fun _ => fun
  | [d1, d2, d3, d4] => { results := [.lit (.bool false)], args := [d1, d2, d3, d4] }
  | _ => none }
def CfgFencesWrongFalsely : Prop := cfgFencesRow.holds Try.pinned (OpenSpec.ofChange cfgFencesWrong)

/-- 'fencepostlaw09.BufTells': WHATEVER THE INPUT: true; the input reads as it did. -/
def bufTellsSpec : ChangeSpec := { name := "bufTells", fn := fun _ => fun
  | [d1, d2, d3, d4] => { results := [.lit (.bool true)], args := [d1, d2, d3, d4] }
  | _ => none }
def bufTellsRow : OpenClaim := { program := "ytpaifpnnjflnfaa", sum := "478e4dbb1efcde82beae01a30088b07d05891792894e4ab3f695117bd5159733", func := "fencepost/fencepostlaw09.BufTells", spec := "bufTells", unfollowed := true, recurses := true, apart := false }
def BufTellsSaid : Prop := bufTellsRow.holds Try.pinned (OpenSpec.ofChange bufTellsSpec)

/-- ITS FALSE NEIGHBOUR: 'it returns false'. Refute it at one input. -/
def bufTellsWrong : ChangeSpec := { name := "bufTells", fn := fun _ => fun
  | [d1, d2, d3, d4] => { results := [.lit (.bool false)], args := [d1, d2, d3, d4] }
  | _ => none }
def BufTellsWrongFalsely : Prop := bufTellsRow.holds Try.pinned (OpenSpec.ofChange bufTellsWrong)

/-- 'fencepostlaw09.BufView': WHATEVER THE INPUT: true; the input reads as it did. -/
def bufViewSpec : ChangeSpec := { name := "bufView", fn := fun _ => fun
  | [d1, d2, d3] => { results := [.lit (.bool true)], args := [d1, d2, d3] }
  | _ => none }
def bufViewRow : OpenClaim := { program := "ytpaifpnnjflnfaa", sum := "478e4dbb1efcde82beae01a30088b07d05891792894e4ab3f695117bd5159733", func := "fencepost/fencepostlaw09.BufView", spec := "bufView", unfollowed := true, recurses := true, apart := false }
def BufViewSaid : Prop := bufViewRow.holds Try.pinned (OpenSpec.ofChange bufViewSpec)

/-- ITS FALSE NEIGHBOUR: 'it returns false'. Refute it at one input. -/
def bufViewWrong : ChangeSpec := { name := "bufView", fn := fun _ => fun
  | [d1, d2, d3] => { results := [.lit (.bool false)], args := [d1, d2, d3] }
  | _ => none }
def BufViewWrongFalsely : Prop := bufViewRow.holds Try.pinned (OpenSpec.ofChange bufViewWrong)

/-- 'fencepostlaw09.BufOne': WHATEVER THE INPUT: true; the input reads as it did. -/
def bufOneSpec : ChangeSpec := { name := "bufOne", fn := fun _ => fun
  | [d1, d2, d3, d4] => { results := [.lit (.bool true)], args := [d1, d2, d3, d4] }
  | _ => none }
def bufOneRow : OpenClaim := { program := "ytpaifpnnjflnfaa", sum := "478e4dbb1efcde82beae01a30088b07d05891792894e4ab3f695117bd5159733", func := "fencepost/fencepostlaw09.BufOne", spec := "bufOne", unfollowed := true, recurses := true, apart := false }
def BufOneSaid : Prop := bufOneRow.holds Try.pinned (OpenSpec.ofChange bufOneSpec)

/-- ITS FALSE NEIGHBOUR: 'it returns false'. Refute it at one input. -/
def bufOneWrong : ChangeSpec := { name := "bufOne", fn := fun _ => fun
  | [d1, d2, d3, d4] => { results := [.lit (.bool false)], args := [d1, d2, d3, d4] }
  | _ => none }
def BufOneWrongFalsely : Prop := bufOneRow.holds Try.pinned (OpenSpec.ofChange bufOneWrong)

/-- 'fencepostlaw09.BufSteps': WHATEVER THE INPUT: true; the input reads as it did. -/
def bufStepsSpec : ChangeSpec := { name := "bufSteps", fn := fun _ => fun
  | [d1, d2] => { results := [.lit (.bool true)], args := [d1, d2] }
  | _ => none }
def bufStepsRow : OpenClaim := { program := "ytpaifpnnjflnfaa", sum := "478e4dbb1efcde82beae01a30088b07d05891792894e4ab3f695117bd5159733", func := "fencepost/fencepostlaw09.BufSteps", spec := "bufSteps", unfollowed := true, recurses := true, apart := false }
def BufStepsSaid : Prop := bufStepsRow.holds Try.pinned (OpenSpec.ofChange bufStepsSpec)

/-- ITS FALSE NEIGHBOUR: 'it returns false'. Refute it at one input. -/
def bufStepsWrong : ChangeSpec := { name := "bufSteps", fn := fun _ => fun
  | [d1, d2] => { results := [.lit (.bool false)], args := [d1, d2] }
  | _ => none }
def BufStepsWrongFalsely : Prop := bufStepsRow.holds Try.pinned (OpenSpec.ofChange bufStepsWrong)

/-- 'fencepostlaw09.BufParts': WHATEVER THE INPUT: true; the input reads as it did. -/
def bufPartsSpec : ChangeSpec := { name := "bufParts", fn := fun _ => fun
  | [d1, d2, d3] => { results := [.lit (.bool true)], args := [d1, d2, d3] }
  | _ => none }
def bufPartsRow : OpenClaim := { program := "ytpaifpnnjflnfaa", sum := "478e4dbb1efcde82beae01a30088b07d05891792894e4ab3f695117bd5159733", func := "fencepost/fencepostlaw09.BufParts", spec := "bufParts", unfollowed := true, recurses := true, apart := false }
def BufPartsSaid : Prop := bufPartsRow.holds Try.pinned (OpenSpec.ofChange bufPartsSpec)

/-- ITS FALSE NEIGHBOUR: 'it returns false'. Refute it at one input. -/
def bufPartsWrong : ChangeSpec := { name := "bufParts", fn := fun _ => fun
  | [d1, d2, d3] => { results := [.lit (.bool false)], args := [d1, d2, d3] }
  | _ => none }
def BufPartsWrongFalsely : Prop := bufPartsRow.holds Try.pinned (OpenSpec.ofChange bufPartsWrong)

/-- 'fencepostlaw09.BufGiven': WHATEVER THE INPUT: true; the input reads as it did. -/
def bufGivenSpec : ChangeSpec := { name := "bufGiven", fn := fun _ => fun
  | [d1, d2, d3] => { results := [.lit (.bool true)], args := [d1, d2, d3] }
  | _ => none }
def bufGivenRow : OpenClaim := { program := "ytpaifpnnjflnfaa", sum := "478e4dbb1efcde82beae01a30088b07d05891792894e4ab3f695117bd5159733", func := "fencepost/fencepostlaw09.BufGiven", spec := "bufGiven", unfollowed := true, recurses := true, apart := false }
def BufGivenSaid : Prop := bufGivenRow.holds Try.pinned (OpenSpec.ofChange bufGivenSpec)

/-- ITS FALSE NEIGHBOUR: 'it returns false'. Refute it at one input. -/
def bufGivenWrong : ChangeSpec := { name := "bufGiven", fn := fun _ => fun
  | [d1, d2, d3] => { results := [.lit (.bool false)], args := [d1, d2, d3] }
  | _ => none }
def BufGivenWrongFalsely : Prop := bufGivenRow.holds Try.pinned (OpenSpec.ofChange bufGivenWrong)

/- THE SECOND FORM. 'bulk': how many values and letters a reading holds, each counted each time it is reached (what is shared counts as often as it is met; a slice's spare places count too). A statement '..UptoSaid' is the law's where the arguments, and the package variables that the reading takes, are together of bulk at most 1048576: NARROWER than '..Said'. Prove '..Said' where nothing that the law and all that it calls make is longer than what came in: it says more and counts as full. Else prove '..UptoSaid'. A law counts once. -/
mutual
def uptoBulk {H : Type} : DataW H → Nat
  | .lit (.string bytes) => bytes.length + 1
  | .lit _ => 1
  | .nil => 1
  | .ptr d => uptoBulk d + 1
  | .slice elems spare => uptoBulkAll elems + uptoBulkAll spare + 1
  | .agg parts => uptoBulkAll parts + 1
  | .iface _ d => uptoBulk d + 1
  | .map entries => uptoBulkEntries entries + 1
  | .held _ => 1
def uptoBulkAll {H : Type} : List (DataW H) → Nat
  | [] => 0
  | d :: r => uptoBulk d + uptoBulkAll r
def uptoBulkEntries {H : Type} : List (Lit × DataW H) → Nat
  | [] => 0
  | x :: r => uptoBulkEntry x + uptoBulkEntries r
def uptoBulkEntry {H : Type} : Lit × DataW H → Nat
  | (.string bytes, d) => bytes.length + uptoBulk d + 1
  | (_, d) => uptoBulk d + 1
 end
def uptoSmall : (H : Type) → List (DataW H) → Bool := fun _ ds => decide (uptoBulkAll ds ≤ 1048576)
def OpenSpec.upto (s : _root_.Go.ChangeSpec) : _root_.Go.OpenSpec := { _root_.Go.OpenSpec.ofChange s with cond := some uptoSmall }

/-- 'fencepostlaw18.CfgTells', WHERE WHAT IT READS IS OF BULK AT MOST 1048576: true; the input reads as it did. -/
def cfgTellsUptoRow : OpenClaim := { program := "ytpaifpnnjflnfaa", sum := "478e4dbb1efcde82beae01a30088b07d05891792894e4ab3f695117bd5159733", func := "fencepost/fencepostlaw18.CfgTells", spec := "cfgTells", unfollowed := true, recurses := true, apart := false, narrowed := true }
def CfgTellsUptoSaid : Prop := cfgTellsUptoRow.holds Try.pinned (OpenSpec.upto cfgTellsSpec)

/-- 'fencepostlaw18.CfgOn', WHERE WHAT IT READS IS OF BULK AT MOST 1048576: true; the input reads as it did. -/
def cfgOnUptoRow : OpenClaim := { program := "ytpaifpnnjflnfaa", sum := "478e4dbb1efcde82beae01a30088b07d05891792894e4ab3f695117bd5159733", func := "fencepost/fencepostlaw18.CfgOn", spec := "cfgOn", unfollowed := true, recurses := true, apart := false, narrowed := true }
def CfgOnUptoSaid : Prop := cfgOnUptoRow.holds Try.pinned (OpenSpec.upto cfgOnSpec)

/-- 'fencepostlaw18.CfgThrough', WHERE WHAT IT READS IS OF BULK AT MOST 1048576: true; the input reads as it did. -/
def cfgThroughUptoRow : OpenClaim := { program := "ytpaifpnnjflnfaa", sum := "478e4dbb1efcde82beae01a30088b07d05891792894e4ab3f695117bd5159733", func := "fencepost/fencepostlaw18.CfgThrough", spec := "cfgThrough", unfollowed := true, recurses := true, apart := false, narrowed := true }
def CfgThroughUptoSaid : Prop := cfgThroughUptoRow.holds Try.pinned (OpenSpec.upto cfgThroughSpec)

/-- 'fencepostlaw18.CfgMet', WHERE WHAT IT READS IS OF BULK AT MOST 1048576: true; the input reads as it did. -/
def cfgMetUptoRow : OpenClaim := { program := "ytpaifpnnjflnfaa", sum := "478e4dbb1efcde82beae01a30088b07d05891792894e4ab3f695117bd5159733", func := "fencepost/fencepostlaw18.CfgMet", spec := "cfgMet", unfollowed := true, recurses := true, apart := false, narrowed := true }
def CfgMetUptoSaid : Prop := cfgMetUptoRow.holds Try.pinned (OpenSpec.upto cfgMetSpec)

/-- 'fencepostlaw18.CfgSteps', WHERE WHAT IT READS IS OF BULK AT MOST 1048576: true; the input reads as it did. -/
def cfgStepsUptoRow : OpenClaim := { program := "ytpaifpnnjflnfaa", sum := "478e4dbb1efcde82beae01a30088b07d05891792894e4ab3f695117bd5159733", func := "fencepost/fencepostlaw18.CfgSteps", spec := "cfgSteps", unfollowed := true, recurses := true, apart := false, narrowed := true }
def CfgStepsUptoSaid : Prop := cfgStepsUptoRow.holds Try.pinned (OpenSpec.upto cfgStepsSpec)

/-- 'fencepostlaw18.CfgFences', WHERE WHAT IT READS IS OF BULK AT MOST 1048576: true; the input reads as it did. -/
def cfgFencesUptoRow : OpenClaim := { program := "ytpaifpnnjflnfaa", sum := "478e4dbb1efcde82beae01a30088b07d05891792894e4ab3f695117bd5159733", func := "fencepost/fencepostlaw18.CfgFences", spec := "cfgFences", unfollowed := true, recurses := true, apart := false, narrowed := true }
def CfgFencesUptoSaid : Prop := cfgFencesUptoRow.holds Try.pinned (OpenSpec.upto cfgFencesSpec)

/-- 'fencepostlaw09.BufTells', WHERE WHAT IT READS IS OF BULK AT MOST 1048576: true; the input reads as it did. -/
def bufTellsUptoRow : OpenClaim := { program := "ytpaifpnnjflnfaa", sum := "478e4dbb1efcde82beae01a30088b07d05891792894e4ab3f695117bd5159733", func := "fencepost/fencepostlaw09.BufTells", spec := "bufTells", unfollowed := true, recurses := true, apart := false, narrowed := true }
def BufTellsUptoSaid : Prop := bufTellsUptoRow.holds Try.pinned (OpenSpec.upto bufTellsSpec)

/-- 'fencepostlaw09.BufView', WHERE WHAT IT READS IS OF BULK AT MOST 1048576: true; the input reads as it did. -/
def bufViewUptoRow : OpenClaim := { program := "ytpaifpnnjflnfaa", sum := "478e4dbb1efcde82beae01a30088b07d05891792894e4ab3f695117bd5159733", func := "fencepost/fencepostlaw09.BufView", spec := "bufView", unfollowed := true, recurses := true, apart := false, narrowed := true }
def BufViewUptoSaid : Prop := bufViewUptoRow.holds Try.pinned (OpenSpec.upto bufViewSpec)

/-- 'fencepostlaw09.BufOne', WHERE WHAT IT READS IS OF BULK AT MOST 1048576: true; the input reads as it did. -/
def bufOneUptoRow : OpenClaim := { program := "ytpaifpnnjflnfaa", sum := "478e4dbb1efcde82beae01a30088b07d05891792894e4ab3f695117bd5159733", func := "fencepost/fencepostlaw09.BufOne", spec := "bufOne", unfollowed := true, recurses := true, apart := false, narrowed := true }
def BufOneUptoSaid : Prop := bufOneUptoRow.holds Try.pinned (OpenSpec.upto bufOneSpec)

/-- 'fencepostlaw09.BufSteps', WHERE WHAT IT READS IS OF BULK AT MOST 1048576: true; the input reads as it did. -/
def bufStepsUptoRow : OpenClaim := { program := "ytpaifpnnjflnfaa", sum := "478e4dbb1efcde82beae01a30088b07d05891792894e4ab3f695117bd5159733", func := "fencepost/fencepostlaw09.BufSteps", spec := "bufSteps", unfollowed := true, recurses := true, apart := false, narrowed := true }
def BufStepsUptoSaid : Prop := bufStepsUptoRow.holds Try.pinned (OpenSpec.upto bufStepsSpec)

/-- 'fencepostlaw09.BufParts', WHERE WHAT IT READS IS OF BULK AT MOST 1048576: true; the input reads as it did. -/
def bufPartsUptoRow : OpenClaim := { program := "ytpaifpnnjflnfaa", sum := "478e4dbb1efcde82beae01a30088b07d05891792894e4ab3f695117bd5159733", func := "fencepost/fencepostlaw09.BufParts", spec := "bufParts", unfollowed := true, recurses := true, apart := false, narrowed := true }
def BufPartsUptoSaid : Prop := bufPartsUptoRow.holds Try.pinned (OpenSpec.upto bufPartsSpec)

/-- 'fencepostlaw09.BufGiven', WHERE WHAT IT READS IS OF BULK AT MOST 1048576: true; the input reads as it did. -/
def bufGivenUptoRow : OpenClaim := { program := "ytpaifpnnjflnfaa", sum := "478e4dbb1efcde82beae01a30088b07d05891792894e4ab3f695117bd5159733", func := "fencepost/fencepostlaw09.BufGiven", spec := "bufGiven", unfollowed := true, recurses := true, apart := false, narrowed := true }
def BufGivenUptoSaid : Prop := bufGivenUptoRow.holds Try.pinned (OpenSpec.upto bufGivenSpec)

end Rows
end Go.Proofs.Ytpaifpnnjflnfaa
