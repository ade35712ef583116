/-
  No cell of these rows narrows 'for every input' (looked for: loops, veiled, ifaces, maps, wideKeys, modest, calm, conditions, laid).
  DERIVED. THE GIVEN ROWS OF THIS SEAT. 8 by the template 'for every input the law returns true; each argument reads behind the call as it read before'; 0 by the template 'total and deterministic' (their statements: YtnfbhgalkcmbdaaTotals.lean).
  GIVEN WITH THE SEED: the statements are not yours to turn. If you find one false, say at which input.
  Laid BY PROGRAM, IN A SANDBOX (cutbox-rows.mjs): the forced cells as the released guide's own fill.sh prints them over the translation 15568562f0b53cf3… (all of the seat's roots in one cut). By AI agents, Wed Nov 11 2026. No macro, syntax, notation, axiom, sorry.
-/
import Derived.Test.YtnfbhgalkcmbdaaChecked
import GoSem.Claim
import GoSem.ClaimJoined
import GoSem.ClaimMapViews
import Derived.JoinedTies
import Derived.KernelRfl
namespace Go.Proofs.Ytnfbhgalkcmbdaa
/- THE CELL 'sum', in the pinned program and in every row, IS THE sha256 OF THE DUMP (.gsa) THAT YtnfbhgalkcmbdaaProg.lean LOADS. Nothing in Lean hashes anything: it is a label: what it is worth is what the hold of that sum in a sandbox is worth. -/
noncomputable def Try.pinned : Pinned := { name := "ytnfbhgalkcmbdaa", sum := "15568562f0b53cf34f642ad3bcc0070dfe1c1fa233ecc0173e5f3c22d2887780", checked := Try.checked }
namespace Rows
def none {H : Type} : Left H := { results := [], args := [] }

/-- 'seisinlaw08.DrlAnew': WHATEVER THE INPUT: true; the input reads as it did. -/
def drlAnewSpec : ChangeSpec := { name := "drlAnew", fn := fun _ => fun
  | [d1, d2, d3] => { results := [.lit (.bool true)], args := [d1, d2, d3] }
  | _ => none }
def drlAnewRow : OpenClaim := { program := "ytnfbhgalkcmbdaa", sum := "15568562f0b53cf34f642ad3bcc0070dfe1c1fa233ecc0173e5f3c22d2887780", func := "seisin/seisinlaw08.DrlAnew", spec := "drlAnew", unfollowed := true, recurses := true, apart := false }
def DrlAnewSaid : Prop := drlAnewRow.holds Try.pinned (OpenSpec.ofChange drlAnewSpec)

/-- ITS FALSE NEIGHBOUR: 'it returns false'. Refute it at one input. -/
def drlAnewWrong : ChangeSpec := { name := "drlAnew", fn := fun _ => fun
  | [d1, d2, d3] => { results := [.lit (.bool false)], args := [d1, d2, d3] }
  | _ => none }
def DrlAnewWrongFalsely : Prop := drlAnewRow.holds Try.pinned (OpenSpec.ofChange drlAnewWrong)

/-- 'seisinlaw08.DrlRegions': WHATEVER THE INPUT: true; the input reads as it did. -/
def drlRegionsSpec : ChangeSpec := { name := "drlRegions", fn := fun _ => fun
  | [d1, d2] => { results := [.lit (.bool true)], args := [d1, d2] }
  | _ => none }
def drlRegionsRow : OpenClaim := { program := "ytnfbhgalkcmbdaa", sum := "15568562f0b53cf34f642ad3bcc0070dfe1c1fa233ecc0173e5f3c22d2887780", func := "seisin/seisinlaw08.DrlRegions", spec := "drlRegions", unfollowed := true, recurses := true, apart := false }
def DrlRegionsSaid : Prop := drlRegionsRow.holds Try.pinned (OpenSpec.ofChange drlRegionsSpec)

/-- ITS FALSE NEIGHBOUR: 'it returns false'. Refute it at one input. -/
def drlRegionsWrong : ChangeSpec := { name := "drlRegions", fn := fun _ => fun
  | [d1, d2] => { results := [.lit (.bool false)], args := [d1, d2] }
  | _ => none }
def DrlRegionsWrongFalsely : Prop := drlRegionsRow.holds Try.pinned (OpenSpec.ofChange drlRegionsWrong)

/-- 'seisinlaw08.DrlClears': WHATEVER THE INPUT: true; the input reads as it did. -/
def drlClearsSpec : ChangeSpec := { name := "drlClears", fn := fun _ => fun
  | [d1, d2, d3] => { results := [.lit (.bool true)], args := [d1, d2, d3] }
  | _ => none }
def drlClearsRow : OpenClaim := { program := "ytnfbhgalkcmbdaa", sum := "15568562f0b53cf34f642ad3bcc0070dfe1c1fa233ecc0173e5f3c22d2887780", func := "seisin/seisinlaw08.DrlClears", spec := "drlClears", unfollowed := true, recurses := true, apart := false }
def DrlClearsSaid : Prop := drlClearsRow.holds Try.pinned (OpenSpec.ofChange drlClearsSpec)

/-- ITS FALSE NEIGHBOUR: 'it returns false'. Refute it at one input. -/
def drlClearsWrong : ChangeSpec := { name := "drlClears", fn := fun _ => fun
  | [d1, d2, d3] => { results := [.lit (.bool false)], args := [d1, d2, d3] }
  | _ => none }
def DrlClearsWrongFalsely : Prop := drlClearsRow.holds Try.pinned (OpenSpec.ofChange drlClearsWrong)

/-- 'seisinlaw06.LogRing': WHATEVER THE INPUT: true; the input reads as it did. -/
def logRingSpec : ChangeSpec := { name := "logRing", fn := fun _ => fun
  | [d1, d2, d3] => { results := [.lit (.bool true)], args := [d1, d2, d3] }
  | _ => none }
def logRingRow : OpenClaim := { program := "ytnfbhgalkcmbdaa", sum := "15568562f0b53cf34f642ad3bcc0070dfe1c1fa233ecc0173e5f3c22d2887780", func := "seisin/seisinlaw06.LogRing", spec := "logRing", unfollowed := true, recurses := true, apart := false }
def LogRingSaid : Prop := logRingRow.holds Try.pinned (OpenSpec.ofChange logRingSpec)

/-- ITS FALSE NEIGHBOUR: 'it returns false'. Refute it at one input. -/
def logRingWrong : ChangeSpec := { name := "logRing", fn := fun _ => fun
  | [d1, d2, d3] => { results := [.lit (.bool false)], args := [d1, d2, d3] }
  | _ => none }
def LogRingWrongFalsely : Prop := logRingRow.holds Try.pinned (OpenSpec.ofChange logRingWrong)

/-- 'seisinlaw06.LogAnew': WHATEVER THE INPUT: true; the input reads as it did. -/
def logAnewSpec : ChangeSpec := { name := "logAnew", fn := fun _ => fun
  | [d1, d2, d3] => { results := [.lit (.bool true)], args := [d1, d2, d3] }
  | _ => none }
def logAnewRow : OpenClaim := { program := "ytnfbhgalkcmbdaa", sum := "15568562f0b53cf34f642ad3bcc0070dfe1c1fa233ecc0173e5f3c22d2887780", func := "seisin/seisinlaw06.LogAnew", spec := "logAnew", unfollowed := true, recurses := true, apart := false }
def LogAnewSaid : Prop := logAnewRow.holds Try.pinned (OpenSpec.ofChange logAnewSpec)

/-- ITS FALSE NEIGHBOUR: 'it returns false'. Refute it at one input. -/
def logAnewWrong : ChangeSpec := { name := "logAnew", fn := fun _ => fun
  | [d1, d2, d3] => { results := [.lit (.bool false)], args := [d1, d2, d3] }
  | _ => none }
def LogAnewWrongFalsely : Prop := logAnewRow.holds Try.pinned (OpenSpec.ofChange logAnewWrong)

/-- 'seisinlaw06.LogAlone': WHATEVER THE INPUT: true; the input reads as it did. -/
def logAloneSpec : ChangeSpec := { name := "logAlone", fn := fun _ => fun
  | [d1, d2] => { results := [.lit (.bool true)], args := [d1, d2] }
  | _ => none }
def logAloneRow : OpenClaim := { program := "ytnfbhgalkcmbdaa", sum := "15568562f0b53cf34f642ad3bcc0070dfe1c1fa233ecc0173e5f3c22d2887780", func := "seisin/seisinlaw06.LogAlone", spec := "logAlone", unfollowed := true, recurses := true, apart := false }
def LogAloneSaid : Prop := logAloneRow.holds Try.pinned (OpenSpec.ofChange logAloneSpec)

/-- ITS FALSE NEIGHBOUR: 'it returns false'. Refute it at one input. -/
def logAloneWrong : ChangeSpec := { name := "logAlone", fn := fun _ => fun
  | [d1, d2] => { results := [.lit (.bool false)], args := [d1, d2] }
  | _ => none }
def LogAloneWrongFalsely : Prop := logAloneRow.holds Try.pinned (OpenSpec.ofChange logAloneWrong)

/-- 'seisinlaw06.LogTwo': WHATEVER THE INPUT: true; the input reads as it did. -/
def logTwoSpec : ChangeSpec := { name := "logTwo", fn := fun _ => fun
  | [d1, d2] => { results := [.lit (.bool true)], args := [d1, d2] }
  | _ => none }
def logTwoRow : OpenClaim := { program := "ytnfbhgalkcmbdaa", sum := "15568562f0b53cf34f642ad3bcc0070dfe1c1fa233ecc0173e5f3c22d2887780", func := "seisin/seisinlaw06.LogTwo", spec := "logTwo", unfollowed := true, recurses := true, apart := false }
def LogTwoSaid : Prop := logTwoRow.holds Try.pinned (OpenSpec.ofChange logTwoSpec)

/-- ITS FALSE NEIGHBOUR: 'it returns false'. Refute it at one input. -/
def logTwoWrong : ChangeSpec := { name := "logTwo", fn := fun _ => fun
  | [d1, d2] => { results := [.lit (.bool false)], args := [d1, d2] }
  | _ => none }
def LogTwoWrongFalsely : Prop := logTwoRow.holds Try.pinned (OpenSpec.ofChange logTwoWrong)

/-- 'seisinlaw06.LogSteps': WHATEVER THE INPUT: true; the input reads as it did. -/
def logStepsSpec : ChangeSpec := { name := "logSteps", fn := fun _ => fun
  | [d1, d2] => { results := [.lit (.bool true)], args := [d1, d2] }
  | _ => none }
def logStepsRow : OpenClaim := { program := "ytnfbhgalkcmbdaa", sum := "15568562f0b53cf34f642ad3bcc0070dfe1c1fa233ecc0173e5f3c22d2887780", func := "seisin/seisinlaw06.LogSteps", spec := "logSteps", unfollowed := true, recurses := true, apart := false }
def LogStepsSaid : Prop := logStepsRow.holds Try.pinned (OpenSpec.ofChange logStepsSpec)

/-- ITS FALSE NEIGHBOUR: 'it returns false'. Refute it at one input. -/
def logStepsWrong : ChangeSpec := { name := "logSteps", fn := fun _ => fun
  | [d1, d2] => { results := [.lit (.bool false)], args := [d1, d2] }
  | _ => none }
def LogStepsWrongFalsely : Prop := logStepsRow.holds Try.pinned (OpenSpec.ofChange logStepsWrong)

/- THE SECOND FORM. 'bulk': how many values and letters a reading holds, each counted each time it is reached (what is shared counts as often as it is met; a slice's spare places count too). A statement '..UptoSaid' is the law's where the arguments, and the package variables that the reading takes, are together of bulk at most 1048576: NARROWER than '..Said'. Prove '..Said' where nothing that the law and all that it calls make is longer than what came in: it says more and counts as full. Else prove '..UptoSaid'. A law counts once. -/
mutual
def uptoBulk {H : Type} : DataW H → Nat
  | .lit (.string bytes) => bytes.length + 1
  | .lit _ => 1
  | .nil => 1
  | .ptr d => uptoBulk d + 1
  | .slice elems spare => uptoBulkAll elems + uptoBulkAll spare + 1
  | .agg parts => uptoBulkAll parts + 1
  | .iface _ d => uptoBulk d + 1
  | .map entries => uptoBulkEntries entries + 1
  | .held _ => 1
def uptoBulkAll {H : Type} : List (DataW H) → Nat
  | [] => 0
  | d :: r => uptoBulk d + uptoBulkAll r
def uptoBulkEntries {H : Type} : List (Lit × DataW H) → Nat
  | [] => 0
  | x :: r => uptoBulkEntry x + uptoBulkEntries r
def uptoBulkEntry {H : Type} : Lit × DataW H → Nat
  | (.string bytes, d) => bytes.length + uptoBulk d + 1
  | (_, d) => uptoBulk d + 1
 end
def uptoSmall : (H : Type) → List (DataW H) → Bool := fun _ ds => decide (uptoBulkAll ds ≤ 1048576)
def OpenSpec.upto (s : _root_.Go.ChangeSpec) : _root_.Go.OpenSpec := { _root_.Go.OpenSpec.ofChange s with cond := some uptoSmall }

/-- 'seisinlaw08.DrlAnew', WHERE WHAT IT READS IS OF BULK AT MOST 1048576: true; the input reads as it did. -/
def drlAnewUptoRow : OpenClaim := { program := "ytnfbhgalkcmbdaa", sum := "15568562f0b53cf34f642ad3bcc0070dfe1c1fa233ecc0173e5f3c22d2887780", func := "seisin/seisinlaw08.DrlAnew", spec := "drlAnew", unfollowed := true, recurses := true, apart := false, narrowed := true }
def DrlAnewUptoSaid : Prop := drlAnewUptoRow.holds Try.pinned (OpenSpec.upto drlAnewSpec)

/-- 'seisinlaw08.DrlRegions', WHERE WHAT IT READS IS OF BULK AT MOST 1048576: true; the input reads as it did. -/
def drlRegionsUptoRow : OpenClaim := { program := "ytnfbhgalkcmbdaa", sum := "15568562f0b53cf34f642ad3bcc0070dfe1c1fa233ecc0173e5f3c22d2887780", func := "seisin/seisinlaw08.DrlRegions", spec := "drlRegions", unfollowed := true, recurses := true, apart := false, narrowed := true }
def DrlRegionsUptoSaid : Prop := drlRegionsUptoRow.holds Try.pinned (OpenSpec.upto drlRegionsSpec)

/-- 'seisinlaw08.DrlClears', WHERE WHAT IT READS IS OF BULK AT MOST 1048576: true; the input reads as it did. -/
def drlClearsUptoRow : OpenClaim := { program := "ytnfbhgalkcmbdaa", sum := "15568562f0b53cf34f642ad3bcc0070dfe1c1fa233ecc0173e5f3c22d2887780", func := "seisin/seisinlaw08.DrlClears", spec := "drlClears", unfollowed := true, recurses := true, apart := false, narrowed := true }
def DrlClearsUptoSaid : Prop := drlClearsUptoRow.holds Try.pinned (OpenSpec.upto drlClearsSpec)

/-- 'seisinlaw06.LogRing', WHERE WHAT IT READS IS OF BULK AT MOST 1048576: true; the input reads as it did. -/
def logRingUptoRow : OpenClaim := { program := "ytnfbhgalkcmbdaa", sum := "15568562f0b53cf34f642ad3bcc0070dfe1c1fa233ecc0173e5f3c22d2887780", func := "seisin/seisinlaw06.LogRing", spec := "logRing", unfollowed := true, recurses := true, apart := false, narrowed := true }
def LogRingUptoSaid : Prop := logRingUptoRow.holds Try.pinned (OpenSpec.upto logRingSpec)

/-- 'seisinlaw06.LogAnew', WHERE WHAT IT READS IS OF BULK AT MOST 1048576: true; the input reads as it did. -/
def logAnewUptoRow : OpenClaim := { program := "ytnfbhgalkcmbdaa", sum := "15568562f0b53cf34f642ad3bcc0070dfe1c1fa233ecc0173e5f3c22d2887780", func := "seisin/seisinlaw06.LogAnew", spec := "logAnew", unfollowed := true, recurses := true, apart := false, narrowed := true }
def LogAnewUptoSaid : Prop := logAnewUptoRow.holds Try.pinned (OpenSpec.upto logAnewSpec)

/-- 'seisinlaw06.LogAlone', WHERE WHAT IT READS IS OF BULK AT MOST 1048576: true; the input reads as it did. -/
def logAloneUptoRow : OpenClaim := { program := "ytnfbhgalkcmbdaa", sum := "15568562f0b53cf34f642ad3bcc0070dfe1c1fa233ecc0173e5f3c22d2887780", func := "seisin/seisinlaw06.LogAlone", spec := "logAlone", unfollowed := true, recurses := true, apart := false, narrowed := true }
def LogAloneUptoSaid : Prop := logAloneUptoRow.holds Try.pinned (OpenSpec.upto logAloneSpec)

/-- 'seisinlaw06.LogTwo', WHERE WHAT IT READS IS OF BULK AT MOST 1048576: true; the input reads as it did. -/
def logTwoUptoRow : OpenClaim := { program := "ytnfbhgalkcmbdaa", sum := "15568562f0b53cf34f642ad3bcc0070dfe1c1fa233ecc0173e5f3c22d2887780", func := "seisin/seisinlaw06.LogTwo", spec := "logTwo", unfollowed := true, recurses := true, apart := false, narrowed := true }
def LogTwoUptoSaid : Prop := logTwoUptoRow.holds Try.pinned (OpenSpec.upto logTwoSpec)

/-- 'seisinlaw06.LogSteps', WHERE WHAT IT READS IS OF BULK AT MOST 1048576: true; the input reads as it did. -/
def logStepsUptoRow : OpenClaim := { program := "ytnfbhgalkcmbdaa", sum := "15568562f0b53cf34f642ad3bcc0070dfe1c1fa233ecc0173e5f3c22d2887780", func := "seisin/seisinlaw06.LogSteps", spec := "logSteps", unfollowed := true, recurses := true, apart := false, narrowed := true }
def LogStepsUptoSaid : Prop := logStepsUptoRow.holds Try.pinned (OpenSpec.upto logStepsSpec)

end Rows
end Go.Proofs.Ytnfbhgalkcmbdaa
