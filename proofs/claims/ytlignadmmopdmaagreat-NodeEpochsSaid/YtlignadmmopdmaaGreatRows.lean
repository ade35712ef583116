/-
  No cell of these rows narrows 'for every input' (looked for: loops, veiled, ifaces, maps, wideKeys, modest, calm, conditions, laid).
  DERIVED. THE GIVEN ROWS OF THIS SEAT. 9 by the template 'for every input the law returns true; each argument reads behind the call as it read before'; 0 by the template 'total and deterministic' (their statements: YtlignadmmopdmaaGreatTotals.lean).
  GIVEN WITH THE SEED: the statements are not yours to turn. If you find one false, say at which input.
  Laid BY PROGRAM, IN A SANDBOX (cutbox-rows.mjs): the forced cells as the released guide's own fill.sh prints them over the translation 1d1c1bfbc67b90f5… (all of the seat's roots in one cut). By AI agents, Wed Nov 11 2026. No macro, syntax, notation, axiom, sorry.
-/
import Derived.Test.YtlignadmmopdmaaGreatChecked
import GoSem.Claim
import GoSem.ClaimJoined
import GoSem.ClaimMapViews
import Derived.JoinedTies
import Derived.KernelRfl
namespace Go.Proofs.YtlignadmmopdmaaGreat
/- THE CELL 'sum', in the pinned program and in every row, IS THE sha256 OF THE DUMP (.gsa) THAT YtlignadmmopdmaaGreatProg.lean LOADS. Nothing in Lean hashes anything: it is a label: what it is worth is what the hold of that sum in a sandbox is worth. -/
noncomputable def Tryz.pinned : Pinned := { name := "ytlignadmmopdmaagreat", sum := "1d1c1bfbc67b90f567f94e522d72be5f809245fcc8392cbacedde7399150db49", checked := Tryz.checked }
namespace Rows
def none {H : Type} : Left H := { results := [], args := [] }

/-- 'seisinlaw16.NodeAnswers': WHATEVER THE INPUT: true; the input reads as it did. -/
def nodeAnswersSpec : ChangeSpec := { name := "nodeAnswers", fn := fun _ => fun
  | [d1, d2] => { results := [.lit (.bool true)], args := [d1, d2] }
  | _ => none }
def nodeAnswersRow : OpenClaim := { program := "ytlignadmmopdmaagreat", sum := "1d1c1bfbc67b90f567f94e522d72be5f809245fcc8392cbacedde7399150db49", func := "seisin/seisinlaw16.NodeAnswers", spec := "nodeAnswers", unfollowed := true, recurses := true, plainKeys := false, apart := false }
def NodeAnswersSaid : Prop := nodeAnswersRow.holds Tryz.pinned (OpenSpec.ofChange nodeAnswersSpec)

/-- ITS FALSE NEIGHBOUR: 'it returns false'. Refute it at one input. -/
def nodeAnswersWrong : ChangeSpec := { name := "nodeAnswers", fn := fun _ => fun
  | [d1, d2] => { results := [.lit (.bool false)], args := [d1, d2] }
  | _ => none }
def NodeAnswersWrongFalsely : Prop := nodeAnswersRow.holds Tryz.pinned (OpenSpec.ofChange nodeAnswersWrong)

/-- 'seisinlaw16.NodeFacts': WHATEVER THE INPUT: true; the input reads as it did. -/
def nodeFactsSpec : ChangeSpec := { name := "nodeFacts", fn := fun _ => fun
  | [d1, d2] => { results := [.lit (.bool true)], args := [d1, d2] }
  | _ => none }
def nodeFactsRow : OpenClaim := { program := "ytlignadmmopdmaagreat", sum := "1d1c1bfbc67b90f567f94e522d72be5f809245fcc8392cbacedde7399150db49", func := "seisin/seisinlaw16.NodeFacts", spec := "nodeFacts", unfollowed := true, recurses := true, plainKeys := false, apart := false }
def NodeFactsSaid : Prop := nodeFactsRow.holds Tryz.pinned (OpenSpec.ofChange nodeFactsSpec)

/-- ITS FALSE NEIGHBOUR: 'it returns false'. Refute it at one input. -/
def nodeFactsWrong : ChangeSpec := { name := "nodeFacts", fn := fun _ => fun
  | [d1, d2] => { results := [.lit (.bool false)], args := [d1, d2] }
  | _ => none }
def NodeFactsWrongFalsely : Prop := nodeFactsRow.holds Tryz.pinned (OpenSpec.ofChange nodeFactsWrong)

/-- 'seisinlaw16.NodeElder': WHATEVER THE INPUT: true; the input reads as it did. -/
def nodeElderSpec : ChangeSpec := { name := "nodeElder", fn := fun _ => fun
  | [d1, d2, d3, d4] => { results := [.lit (.bool true)], args := [d1, d2, d3, d4] }
  | _ => none }
def nodeElderRow : OpenClaim := { program := "ytlignadmmopdmaagreat", sum := "1d1c1bfbc67b90f567f94e522d72be5f809245fcc8392cbacedde7399150db49", func := "seisin/seisinlaw16.NodeElder", spec := "nodeElder", unfollowed := true, recurses := true, plainKeys := false, apart := false }
def NodeElderSaid : Prop := nodeElderRow.holds Tryz.pinned (OpenSpec.ofChange nodeElderSpec)

/-- ITS FALSE NEIGHBOUR: 'it returns false'. Refute it at one input. -/
def nodeElderWrong : ChangeSpec := { name := "nodeElder", fn := fun _ => fun
  | [d1, d2, d3, d4] => { results := [.lit (.bool false)], args := [d1, d2, d3, d4] }
  | _ => none }
def NodeElderWrongFalsely : Prop := nodeElderRow.holds Tryz.pinned (OpenSpec.ofChange nodeElderWrong)

/-- 'seisinlaw16.NodeIdle': WHATEVER THE INPUT: true; the input reads as it did. -/
def nodeIdleSpec : ChangeSpec := { name := "nodeIdle", fn := fun _ => fun
  | [d1, d2] => { results := [.lit (.bool true)], args := [d1, d2] }
  | _ => none }
def nodeIdleRow : OpenClaim := { program := "ytlignadmmopdmaagreat", sum := "1d1c1bfbc67b90f567f94e522d72be5f809245fcc8392cbacedde7399150db49", func := "seisin/seisinlaw16.NodeIdle", spec := "nodeIdle", unfollowed := true, recurses := true, plainKeys := false, apart := false }
def NodeIdleSaid : Prop := nodeIdleRow.holds Tryz.pinned (OpenSpec.ofChange nodeIdleSpec)

/-- ITS FALSE NEIGHBOUR: 'it returns false'. Refute it at one input. -/
def nodeIdleWrong : ChangeSpec := { name := "nodeIdle", fn := fun _ => fun
  | [d1, d2] => { results := [.lit (.bool false)], args := [d1, d2] }
  | _ => none }
def NodeIdleWrongFalsely : Prop := nodeIdleRow.holds Tryz.pinned (OpenSpec.ofChange nodeIdleWrong)

/-- 'seisinlaw16.NodeQuiet': WHATEVER THE INPUT: true; the input reads as it did. -/
def nodeQuietSpec : ChangeSpec := { name := "nodeQuiet", fn := fun _ => fun
  | [d1, d2, d3] => { results := [.lit (.bool true)], args := [d1, d2, d3] }
  | _ => none }
def nodeQuietRow : OpenClaim := { program := "ytlignadmmopdmaagreat", sum := "1d1c1bfbc67b90f567f94e522d72be5f809245fcc8392cbacedde7399150db49", func := "seisin/seisinlaw16.NodeQuiet", spec := "nodeQuiet", unfollowed := true, recurses := true, plainKeys := false, apart := false }
def NodeQuietSaid : Prop := nodeQuietRow.holds Tryz.pinned (OpenSpec.ofChange nodeQuietSpec)

/-- ITS FALSE NEIGHBOUR: 'it returns false'. Refute it at one input. -/
def nodeQuietWrong : ChangeSpec := { name := "nodeQuiet", fn := fun _ => fun
  | [d1, d2, d3] => { results := [.lit (.bool false)], args := [d1, d2, d3] }
  | _ => none }
def NodeQuietWrongFalsely : Prop := nodeQuietRow.holds Tryz.pinned (OpenSpec.ofChange nodeQuietWrong)

/-- 'seisinlaw16.NodeSame': WHATEVER THE INPUT: true; the input reads as it did. -/
def nodeSameSpec : ChangeSpec := { name := "nodeSame", fn := fun _ => fun
  | [d1, d2] => { results := [.lit (.bool true)], args := [d1, d2] }
  | _ => none }
def nodeSameRow : OpenClaim := { program := "ytlignadmmopdmaagreat", sum := "1d1c1bfbc67b90f567f94e522d72be5f809245fcc8392cbacedde7399150db49", func := "seisin/seisinlaw16.NodeSame", spec := "nodeSame", unfollowed := true, recurses := true, plainKeys := false, apart := false }
def NodeSameSaid : Prop := nodeSameRow.holds Tryz.pinned (OpenSpec.ofChange nodeSameSpec)

/-- ITS FALSE NEIGHBOUR: 'it returns false'. Refute it at one input. -/
def nodeSameWrong : ChangeSpec := { name := "nodeSame", fn := fun _ => fun
  | [d1, d2] => { results := [.lit (.bool false)], args := [d1, d2] }
  | _ => none }
def NodeSameWrongFalsely : Prop := nodeSameRow.holds Tryz.pinned (OpenSpec.ofChange nodeSameWrong)

/-- 'seisinlaw16.NodeFound': WHATEVER THE INPUT: true; the input reads as it did. -/
def nodeFoundSpec : ChangeSpec := { name := "nodeFound", fn := fun _ => fun
  | [d1, d2, d3, d4, d5] => { results := [.lit (.bool true)], args := [d1, d2, d3, d4, d5] }
  | _ => none }
def nodeFoundRow : OpenClaim := { program := "ytlignadmmopdmaagreat", sum := "1d1c1bfbc67b90f567f94e522d72be5f809245fcc8392cbacedde7399150db49", func := "seisin/seisinlaw16.NodeFound", spec := "nodeFound", unfollowed := true, recurses := true, plainKeys := false, apart := false }
def NodeFoundSaid : Prop := nodeFoundRow.holds Tryz.pinned (OpenSpec.ofChange nodeFoundSpec)

/-- ITS FALSE NEIGHBOUR: 'it returns false'. Refute it at one input. -/
def nodeFoundWrong : ChangeSpec := { name := "nodeFound", fn := fun _ => fun
  | [d1, d2, d3, d4, d5] => { results := [.lit (.bool false)], args := [d1, d2, d3, d4, d5] }
  | _ => none }
def NodeFoundWrongFalsely : Prop := nodeFoundRow.holds Tryz.pinned (OpenSpec.ofChange nodeFoundWrong)

/-- 'seisinlaw16.NodeEpochs': WHATEVER THE INPUT: true; the input reads as it did. -/
def nodeEpochsSpec : ChangeSpec := { name := "nodeEpochs", fn := fun _ => fun
  | [d1, d2] => { results := [.lit (.bool true)], args := [d1, d2] }
  | _ => none }
def nodeEpochsRow : OpenClaim := { program := "ytlignadmmopdmaagreat", sum := "1d1c1bfbc67b90f567f94e522d72be5f809245fcc8392cbacedde7399150db49", func := "seisin/seisinlaw16.NodeEpochs", spec := "nodeEpochs", unfollowed := true, recurses := true, plainKeys := false, apart := false }
def NodeEpochsSaid : Prop := nodeEpochsRow.holds Tryz.pinned (OpenSpec.ofChange nodeEpochsSpec)

/-- ITS FALSE NEIGHBOUR: 'it returns false'. Refute it at one input. -/
def nodeEpochsWrong : ChangeSpec := { name := "nodeEpochs", fn := fun _ => fun
  | [d1, d2] => { results := [.lit (.bool false)], args := [d1, d2] }
  | _ => none }
def NodeEpochsWrongFalsely : Prop := nodeEpochsRow.holds Tryz.pinned (OpenSpec.ofChange nodeEpochsWrong)

/-- 'seisinlaw16.NodeKeeps': WHATEVER THE INPUT: true; the input reads as it did. -/
def nodeKeepsSpec : ChangeSpec := { name := "nodeKeeps", fn := fun _ => fun
  | [d1, d2] => { results := [.lit (.bool true)], args := [d1, d2] }
  | _ => none }
def nodeKeepsRow : OpenClaim := { program := "ytlignadmmopdmaagreat", sum := "1d1c1bfbc67b90f567f94e522d72be5f809245fcc8392cbacedde7399150db49", func := "seisin/seisinlaw16.NodeKeeps", spec := "nodeKeeps", unfollowed := true, recurses := true, plainKeys := false, apart := false }
def NodeKeepsSaid : Prop := nodeKeepsRow.holds Tryz.pinned (OpenSpec.ofChange nodeKeepsSpec)

/-- ITS FALSE NEIGHBOUR: 'it returns false'. Refute it at one input. -/
def nodeKeepsWrong : ChangeSpec := { name := "nodeKeeps", fn := fun _ => fun
  | [d1, d2] => { results := [.lit (.bool false)], args := [d1, d2] }
  | _ => none }
def NodeKeepsWrongFalsely : Prop := nodeKeepsRow.holds Tryz.pinned (OpenSpec.ofChange nodeKeepsWrong)

/- THE SECOND FORM. 'bulk': how many values and letters a reading holds, each counted each time it is reached (what is shared counts as often as it is met; a slice's spare places count too). A statement '..UptoSaid' is the law's where the arguments, and the package variables that the reading takes, are together of bulk at most 1048576: NARROWER than '..Said'. Prove '..Said' where nothing that the law and all that it calls make is longer than what came in: it says more and counts as full. Else prove '..UptoSaid'. A law counts once. -/
mutual
def uptoBulk {H : Type} : DataW H → Nat
  | .lit (.string bytes) => bytes.length + 1
  | .lit _ => 1
  | .nil => 1
  | .ptr d => uptoBulk d + 1
  | .slice elems spare => uptoBulkAll elems + uptoBulkAll spare + 1
  | .agg parts => uptoBulkAll parts + 1
  | .iface _ d => uptoBulk d + 1
  | .map entries => uptoBulkEntries entries + 1
  | .held _ => 1
def uptoBulkAll {H : Type} : List (DataW H) → Nat
  | [] => 0
  | d :: r => uptoBulk d + uptoBulkAll r
def uptoBulkEntries {H : Type} : List (Lit × DataW H) → Nat
  | [] => 0
  | x :: r => uptoBulkEntry x + uptoBulkEntries r
def uptoBulkEntry {H : Type} : Lit × DataW H → Nat
  | (.string bytes, d) => bytes.length + uptoBulk d + 1
  | (_, d) => uptoBulk d + 1
 end
def uptoSmall : (H : Type) → List (DataW H) → Bool := fun _ ds => decide (uptoBulkAll ds ≤ 1048576)
def OpenSpec.upto (s : _root_.Go.ChangeSpec) : _root_.Go.OpenSpec := { _root_.Go.OpenSpec.ofChange s with cond := some uptoSmall }

/-- 'seisinlaw16.NodeAnswers', WHERE WHAT IT READS IS OF BULK AT MOST 1048576: true; the input reads as it did. -/
def nodeAnswersUptoRow : OpenClaim := { program := "ytlignadmmopdmaagreat", sum := "1d1c1bfbc67b90f567f94e522d72be5f809245fcc8392cbacedde7399150db49", func := "seisin/seisinlaw16.NodeAnswers", spec := "nodeAnswers", unfollowed := true, recurses := true, plainKeys := false, apart := false, narrowed := true }
def NodeAnswersUptoSaid : Prop := nodeAnswersUptoRow.holds Tryz.pinned (OpenSpec.upto nodeAnswersSpec)

/-- 'seisinlaw16.NodeFacts', WHERE WHAT IT READS IS OF BULK AT MOST 1048576: true; the input reads as it did. -/
def nodeFactsUptoRow : OpenClaim := { program := "ytlignadmmopdmaagreat", sum := "1d1c1bfbc67b90f567f94e522d72be5f809245fcc8392cbacedde7399150db49", func := "seisin/seisinlaw16.NodeFacts", spec := "nodeFacts", unfollowed := true, recurses := true, plainKeys := false, apart := false, narrowed := true }
def NodeFactsUptoSaid : Prop := nodeFactsUptoRow.holds Tryz.pinned (OpenSpec.upto nodeFactsSpec)

/-- 'seisinlaw16.NodeElder', WHERE WHAT IT READS IS OF BULK AT MOST 1048576: true; the input reads as it did. -/
def nodeElderUptoRow : OpenClaim := { program := "ytlignadmmopdmaagreat", sum := "1d1c1bfbc67b90f567f94e522d72be5f809245fcc8392cbacedde7399150db49", func := "seisin/seisinlaw16.NodeElder", spec := "nodeElder", unfollowed := true, recurses := true, plainKeys := false, apart := false, narrowed := true }
def NodeElderUptoSaid : Prop := nodeElderUptoRow.holds Tryz.pinned (OpenSpec.upto nodeElderSpec)

/-- 'seisinlaw16.NodeIdle', WHERE WHAT IT READS IS OF BULK AT MOST 1048576: true; the input reads as it did. -/
def nodeIdleUptoRow : OpenClaim := { program := "ytlignadmmopdmaagreat", sum := "1d1c1bfbc67b90f567f94e522d72be5f809245fcc8392cbacedde7399150db49", func := "seisin/seisinlaw16.NodeIdle", spec := "nodeIdle", unfollowed := true, recurses := true, plainKeys := false, apart := false, narrowed := true }
def NodeIdleUptoSaid : Prop := nodeIdleUptoRow.holds Tryz.pinned (OpenSpec.upto nodeIdleSpec)

/-- 'seisinlaw16.NodeQuiet', WHERE WHAT IT READS IS OF BULK AT MOST 1048576: true; the input reads as it did. -/
def nodeQuietUptoRow : OpenClaim := { program := "ytlignadmmopdmaagreat", sum := "1d1c1bfbc67b90f567f94e522d72be5f809245fcc8392cbacedde7399150db49", func := "seisin/seisinlaw16.NodeQuiet", spec := "nodeQuiet", unfollowed := true, recurses := true, plainKeys := false, apart := false, narrowed := true }
def NodeQuietUptoSaid : Prop := nodeQuietUptoRow.holds Tryz.pinned (OpenSpec.upto nodeQuietSpec)

/-- 'seisinlaw16.NodeSame', WHERE WHAT IT READS IS OF BULK AT MOST 1048576: true; the input reads as it did. -/
def nodeSameUptoRow : OpenClaim := { program := "ytlignadmmopdmaagreat", sum := "1d1c1bfbc67b90f567f94e522d72be5f809245fcc8392cbacedde7399150db49", func := "seisin/seisinlaw16.NodeSame", spec := "nodeSame", unfollowed := true, recurses := true, plainKeys := false, apart := false, narrowed := true }
def NodeSameUptoSaid : Prop := nodeSameUptoRow.holds Tryz.pinned (OpenSpec.upto nodeSameSpec)

/-- 'seisinlaw16.NodeFound', WHERE WHAT IT READS IS OF BULK AT MOST 1048576: true; the input reads as it did. -/
def nodeFoundUptoRow : OpenClaim := { program := "ytlignadmmopdmaagreat", sum := "1d1c1bfbc67b90f567f94e522d72be5f809245fcc8392cbacedde7399150db49", func := "seisin/seisinlaw16.NodeFound", spec := "nodeFound", unfollowed := true, recurses := true, plainKeys := false, apart := false, narrowed := true }
def NodeFoundUptoSaid : Prop := nodeFoundUptoRow.holds Tryz.pinned (OpenSpec.upto nodeFoundSpec)

/-- 'seisinlaw16.NodeEpochs', WHERE WHAT IT READS IS OF BULK AT MOST 1048576: true; the input reads as it did. -/
def nodeEpochsUptoRow : OpenClaim := { program := "ytlignadmmopdmaagreat", sum := "1d1c1bfbc67b90f567f94e522d72be5f809245fcc8392cbacedde7399150db49", func := "seisin/seisinlaw16.NodeEpochs", spec := "nodeEpochs", unfollowed := true, recurses := true, plainKeys := false, apart := false, narrowed := true }
def NodeEpochsUptoSaid : Prop := nodeEpochsUptoRow.holds Tryz.pinned (OpenSpec.upto nodeEpochsSpec)

/-- 'seisinlaw16.NodeKeeps', WHERE WHAT IT READS IS OF BULK AT MOST 1048576: true; the input reads as it did. -/
def nodeKeepsUptoRow : OpenClaim := { program := "ytlignadmmopdmaagreat", sum := "1d1c1bfbc67b90f567f94e522d72be5f809245fcc8392cbacedde7399150db49", func := "seisin/seisinlaw16.NodeKeeps", spec := "nodeKeeps", unfollowed := true, recurses := true, plainKeys := false, apart := false, narrowed := true }
def NodeKeepsUptoSaid : Prop := nodeKeepsUptoRow.holds Tryz.pinned (OpenSpec.upto nodeKeepsSpec)

end Rows
end Go.Proofs.YtlignadmmopdmaaGreat
