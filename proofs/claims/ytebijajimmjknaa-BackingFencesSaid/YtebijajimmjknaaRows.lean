/-
  No cell of these rows narrows 'for every input' (looked for: loops, veiled, ifaces, maps, wideKeys, modest, calm, conditions, laid).
  DERIVED. THE GIVEN ROWS OF THIS SEAT. 10 by the template 'for every input the law returns true; each argument reads behind the call as it read before'; 0 by the template 'total and deterministic' (their statements: YtebijajimmjknaaTotals.lean).
  GIVEN WITH THE SEED: the statements are not yours to turn. If you find one false, say at which input.
  Laid BY PROGRAM, IN A SANDBOX (cutbox-rows.mjs): the forced cells as the released guide's own fill.sh prints them over the translation 4e963e6afcf9225e… (all of the seat's roots in one cut). By AI agents, Wed Nov 11 2026. No macro, syntax, notation, axiom, sorry.
-/
import Derived.Test.YtebijajimmjknaaChecked
import GoSem.Claim
import GoSem.ClaimJoined
import GoSem.ClaimMapViews
import Derived.JoinedTies
import Derived.KernelRfl
namespace Go.Proofs.Ytebijajimmjknaa
/- THE CELL 'sum', in the pinned program and in every row, IS THE sha256 OF THE DUMP (.gsa) THAT YtebijajimmjknaaProg.lean LOADS. Nothing in Lean hashes anything: it is a label: what it is worth is what the hold of that sum in a sandbox is worth. -/
noncomputable def Try.pinned : Pinned := { name := "ytebijajimmjknaa", sum := "4e963e6afcf9225ef816659436b4605c1a7b12ba2dc5f4429671fafb135c2509", checked := Try.checked }
namespace Rows
def none {H : Type} : Left H := { results := [], args := [] }

/-- 'seisinlaw14.WitnessChanges': WHATEVER THE INPUT: true; the input reads as it did. -/
def witnessChangesSpec : ChangeSpec := { name := "witnessChanges", fn := fun _ => fun
  | [d1, d2] => { results := [.lit (.bool true)], args := [d1, d2] }
  | _ => none }
def witnessChangesRow : OpenClaim := { program := "ytebijajimmjknaa", sum := "4e963e6afcf9225ef816659436b4605c1a7b12ba2dc5f4429671fafb135c2509", func := "seisin/seisinlaw14.WitnessChanges", spec := "witnessChanges", unfollowed := true, recurses := true, apart := false }
def WitnessChangesSaid : Prop := witnessChangesRow.holds Try.pinned (OpenSpec.ofChange witnessChangesSpec)

/-- ITS FALSE NEIGHBOUR: 'it returns false'. Refute it at one input. -/
def witnessChangesWrong : ChangeSpec := { name := "witnessChanges", fn := fun _ => fun
  | [d1, d2] => { results := [.lit (.bool false)], args := [d1, d2] }
  | _ => none }
def WitnessChangesWrongFalsely : Prop := witnessChangesRow.holds Try.pinned (OpenSpec.ofChange witnessChangesWrong)

/-- 'seisinlaw13.BackingTwice': WHATEVER THE INPUT: true; the input reads as it did. -/
def backingTwiceSpec : ChangeSpec := { name := "backingTwice", fn := fun _ => fun
  | [d1, d2, d3] => { results := [.lit (.bool true)], args := [d1, d2, d3] }
  | _ => none }
def backingTwiceRow : OpenClaim := { program := "ytebijajimmjknaa", sum := "4e963e6afcf9225ef816659436b4605c1a7b12ba2dc5f4429671fafb135c2509", func := "seisin/seisinlaw13.BackingTwice", spec := "backingTwice", unfollowed := true, recurses := true, apart := false }
def BackingTwiceSaid : Prop := backingTwiceRow.holds Try.pinned (OpenSpec.ofChange backingTwiceSpec)

/-- ITS FALSE NEIGHBOUR: 'it returns false'. Refute it at one input. -/
def backingTwiceWrong : ChangeSpec := { name := "backingTwice", fn := fun _ => fun
  | [d1, d2, d3] => { results := [.lit (.bool false)], args := [d1, d2, d3] }
  | _ => none }
def BackingTwiceWrongFalsely : Prop := backingTwiceRow.holds Try.pinned (OpenSpec.ofChange backingTwiceWrong)

/-- 'seisinlaw13.BackingApart': WHATEVER THE INPUT: true; the input reads as it did. -/
def backingApartSpec : ChangeSpec := { name := "backingApart", fn := fun _ => fun
  | [d1, d2] => { results := [.lit (.bool true)], args := [d1, d2] }
  | _ => none }
def backingApartRow : OpenClaim := { program := "ytebijajimmjknaa", sum := "4e963e6afcf9225ef816659436b4605c1a7b12ba2dc5f4429671fafb135c2509", func := "seisin/seisinlaw13.BackingApart", spec := "backingApart", unfollowed := true, recurses := true, apart := false }
def BackingApartSaid : Prop := backingApartRow.holds Try.pinned (OpenSpec.ofChange backingApartSpec)

/-- ITS FALSE NEIGHBOUR: 'it returns false'. Refute it at one input. -/
def backingApartWrong : ChangeSpec := { name := "backingApart", fn := fun _ => fun
  | [d1, d2] => { results := [.lit (.bool false)], args := [d1, d2] }
  | _ => none }
def BackingApartWrongFalsely : Prop := backingApartRow.holds Try.pinned (OpenSpec.ofChange backingApartWrong)

/-- 'seisinlaw13.BackingTable': WHATEVER THE INPUT: true; the input reads as it did. -/
def backingTableSpec : ChangeSpec := { name := "backingTable", fn := fun _ => fun
  | [d1, d2] => { results := [.lit (.bool true)], args := [d1, d2] }
  | _ => none }
def backingTableRow : OpenClaim := { program := "ytebijajimmjknaa", sum := "4e963e6afcf9225ef816659436b4605c1a7b12ba2dc5f4429671fafb135c2509", func := "seisin/seisinlaw13.BackingTable", spec := "backingTable", unfollowed := true, recurses := true, apart := false }
def BackingTableSaid : Prop := backingTableRow.holds Try.pinned (OpenSpec.ofChange backingTableSpec)

/-- ITS FALSE NEIGHBOUR: 'it returns false'. Refute it at one input. -/
def backingTableWrong : ChangeSpec := { name := "backingTable", fn := fun _ => fun
  | [d1, d2] => { results := [.lit (.bool false)], args := [d1, d2] }
  | _ => none }
def BackingTableWrongFalsely : Prop := backingTableRow.holds Try.pinned (OpenSpec.ofChange backingTableWrong)

/-- 'seisinlaw13.BackingAnew': WHATEVER THE INPUT: true; the input reads as it did. -/
def backingAnewSpec : ChangeSpec := { name := "backingAnew", fn := fun _ => fun
  | [d1, d2] => { results := [.lit (.bool true)], args := [d1, d2] }
  | _ => none }
def backingAnewRow : OpenClaim := { program := "ytebijajimmjknaa", sum := "4e963e6afcf9225ef816659436b4605c1a7b12ba2dc5f4429671fafb135c2509", func := "seisin/seisinlaw13.BackingAnew", spec := "backingAnew", unfollowed := true, recurses := true, apart := false }
def BackingAnewSaid : Prop := backingAnewRow.holds Try.pinned (OpenSpec.ofChange backingAnewSpec)

/-- ITS FALSE NEIGHBOUR: 'it returns false'. Refute it at one input. -/
def backingAnewWrong : ChangeSpec := { name := "backingAnew", fn := fun _ => fun
  | [d1, d2] => { results := [.lit (.bool false)], args := [d1, d2] }
  | _ => none }
def BackingAnewWrongFalsely : Prop := backingAnewRow.holds Try.pinned (OpenSpec.ofChange backingAnewWrong)

/-- 'seisinlaw14.WitnessOne': WHATEVER THE INPUT: true; the input reads as it did. -/
def witnessOneSpec : ChangeSpec := { name := "witnessOne", fn := fun _ => fun
  | [d1, d2] => { results := [.lit (.bool true)], args := [d1, d2] }
  | _ => none }
def witnessOneRow : OpenClaim := { program := "ytebijajimmjknaa", sum := "4e963e6afcf9225ef816659436b4605c1a7b12ba2dc5f4429671fafb135c2509", func := "seisin/seisinlaw14.WitnessOne", spec := "witnessOne", unfollowed := true, recurses := true, apart := false }
def WitnessOneSaid : Prop := witnessOneRow.holds Try.pinned (OpenSpec.ofChange witnessOneSpec)

/-- ITS FALSE NEIGHBOUR: 'it returns false'. Refute it at one input. -/
def witnessOneWrong : ChangeSpec := { name := "witnessOne", fn := fun _ => fun
  | [d1, d2] => { results := [.lit (.bool false)], args := [d1, d2] }
  | _ => none }
def WitnessOneWrongFalsely : Prop := witnessOneRow.holds Try.pinned (OpenSpec.ofChange witnessOneWrong)

/-- 'seisinlaw14.WitnessMasks': WHATEVER THE INPUT: true; the input reads as it did. -/
def witnessMasksSpec : ChangeSpec := { name := "witnessMasks", fn := fun _ => fun
  | [d1, d2] => { results := [.lit (.bool true)], args := [d1, d2] }
  | _ => none }
def witnessMasksRow : OpenClaim := { program := "ytebijajimmjknaa", sum := "4e963e6afcf9225ef816659436b4605c1a7b12ba2dc5f4429671fafb135c2509", func := "seisin/seisinlaw14.WitnessMasks", spec := "witnessMasks", unfollowed := true, recurses := true, apart := false }
def WitnessMasksSaid : Prop := witnessMasksRow.holds Try.pinned (OpenSpec.ofChange witnessMasksSpec)

/-- ITS FALSE NEIGHBOUR: 'it returns false'. Refute it at one input. -/
def witnessMasksWrong : ChangeSpec := { name := "witnessMasks", fn := fun _ => fun
  | [d1, d2] => { results := [.lit (.bool false)], args := [d1, d2] }
  | _ => none }
def WitnessMasksWrongFalsely : Prop := witnessMasksRow.holds Try.pinned (OpenSpec.ofChange witnessMasksWrong)

/-- 'seisinlaw14.WitnessAnew': WHATEVER THE INPUT: true; the input reads as it did. -/
def witnessAnewSpec : ChangeSpec := { name := "witnessAnew", fn := fun _ => fun
  | [d1, d2] => { results := [.lit (.bool true)], args := [d1, d2] }
  | _ => none }
def witnessAnewRow : OpenClaim := { program := "ytebijajimmjknaa", sum := "4e963e6afcf9225ef816659436b4605c1a7b12ba2dc5f4429671fafb135c2509", func := "seisin/seisinlaw14.WitnessAnew", spec := "witnessAnew", unfollowed := true, recurses := true, apart := false }
def WitnessAnewSaid : Prop := witnessAnewRow.holds Try.pinned (OpenSpec.ofChange witnessAnewSpec)

/-- ITS FALSE NEIGHBOUR: 'it returns false'. Refute it at one input. -/
def witnessAnewWrong : ChangeSpec := { name := "witnessAnew", fn := fun _ => fun
  | [d1, d2] => { results := [.lit (.bool false)], args := [d1, d2] }
  | _ => none }
def WitnessAnewWrongFalsely : Prop := witnessAnewRow.holds Try.pinned (OpenSpec.ofChange witnessAnewWrong)

/-- 'seisinlaw14.WitnessTicks': WHATEVER THE INPUT: true; the input reads as it did. -/
def witnessTicksSpec : ChangeSpec := { name := "witnessTicks", fn := fun _ => fun
  | [d1, d2] => { results := [.lit (.bool true)], args := [d1, d2] }
  | _ => none }
def witnessTicksRow : OpenClaim := { program := "ytebijajimmjknaa", sum := "4e963e6afcf9225ef816659436b4605c1a7b12ba2dc5f4429671fafb135c2509", func := "seisin/seisinlaw14.WitnessTicks", spec := "witnessTicks", unfollowed := true, recurses := true, apart := false }
def WitnessTicksSaid : Prop := witnessTicksRow.holds Try.pinned (OpenSpec.ofChange witnessTicksSpec)

/-- ITS FALSE NEIGHBOUR: 'it returns false'. Refute it at one input. -/
def witnessTicksWrong : ChangeSpec := { name := "witnessTicks", fn := fun _ => fun
  | [d1, d2] => { results := [.lit (.bool false)], args := [d1, d2] }
  | _ => none }
def WitnessTicksWrongFalsely : Prop := witnessTicksRow.holds Try.pinned (OpenSpec.ofChange witnessTicksWrong)

/-- 'seisinlaw13.BackingFences': WHATEVER THE INPUT: true; the input reads as it did. -/
def backingFencesSpec : ChangeSpec := { name := "backingFences", fn := fun _ => fun
  | [d1, d2] => { results := [.lit (.bool true)], args := [d1, d2] }
  | _ => none }
def backingFencesRow : OpenClaim := { program := "ytebijajimmjknaa", sum := "4e963e6afcf9225ef816659436b4605c1a7b12ba2dc5f4429671fafb135c2509", func := "seisin/seisinlaw13.BackingFences", spec := "backingFences", unfollowed := true, recurses := true, apart := false }
def BackingFencesSaid : Prop := backingFencesRow.holds Try.pinned (OpenSpec.ofChange backingFencesSpec)

/-- ITS FALSE NEIGHBOUR: 'it returns false'. Refute it at one input. -/
def backingFencesWrong : ChangeSpec := { name := "backingFences", fn := fun _ => fun
  | [d1, d2] => { results := [.lit (.bool false)], args := [d1, d2] }
  | _ => none }
def BackingFencesWrongFalsely : Prop := backingFencesRow.holds Try.pinned (OpenSpec.ofChange backingFencesWrong)

/- THE SECOND FORM. 'bulk': how many values and letters a reading holds, each counted each time it is reached (what is shared counts as often as it is met; a slice's spare places count too). A statement '..UptoSaid' is the law's where the arguments, and the package variables that the reading takes, are together of bulk at most 1048576: NARROWER than '..Said'. Prove '..Said' where nothing that the law and all that it calls make is longer than what came in: it says more and counts as full. Else prove '..UptoSaid'. A law counts once. -/
mutual
def uptoBulk {H : Type} : DataW H → Nat
  | .lit (.string bytes) => bytes.length + 1
  | .lit _ => 1
  | .nil => 1
  | .ptr d => uptoBulk d + 1
  | .slice elems spare => uptoBulkAll elems + uptoBulkAll spare + 1
  | .agg parts => uptoBulkAll parts + 1
  | .iface _ d => uptoBulk d + 1
  | .map entries => uptoBulkEntries entries + 1
  | .held _ => 1
def uptoBulkAll {H : Type} : List (DataW H) → Nat
  | [] => 0
  | d :: r => uptoBulk d + uptoBulkAll r
def uptoBulkEntries {H : Type} : List (Lit × DataW H) → Nat
  | [] => 0
  | x :: r => uptoBulkEntry x + uptoBulkEntries r
def uptoBulkEntry {H : Type} : Lit × DataW H → Nat
  | (.string bytes, d) => bytes.length + uptoBulk d + 1
  | (_, d) => uptoBulk d + 1
 end
def uptoSmall : (H : Type) → List (DataW H) → Bool := fun _ ds => decide (uptoBulkAll ds ≤ 1048576)
def OpenSpec.upto (s : _root_.Go.ChangeSpec) : _root_.Go.OpenSpec := { _root_.Go.OpenSpec.ofChange s with cond := some uptoSmall }

/-- 'seisinlaw14.WitnessChanges', WHERE WHAT IT READS IS OF BULK AT MOST 1048576: true; the input reads as it did. -/
def witnessChangesUptoRow : OpenClaim := { program := "ytebijajimmjknaa", sum := "4e963e6afcf9225ef816659436b4605c1a7b12ba2dc5f4429671fafb135c2509", func := "seisin/seisinlaw14.WitnessChanges", spec := "witnessChanges", unfollowed := true, recurses := true, apart := false, narrowed := true }
def WitnessChangesUptoSaid : Prop := witnessChangesUptoRow.holds Try.pinned (OpenSpec.upto witnessChangesSpec)

/-- 'seisinlaw13.BackingTwice', WHERE WHAT IT READS IS OF BULK AT MOST 1048576: true; the input reads as it did. -/
def backingTwiceUptoRow : OpenClaim := { program := "ytebijajimmjknaa", sum := "4e963e6afcf9225ef816659436b4605c1a7b12ba2dc5f4429671fafb135c2509", func := "seisin/seisinlaw13.BackingTwice", spec := "backingTwice", unfollowed := true, recurses := true, apart := false, narrowed := true }
def BackingTwiceUptoSaid : Prop := backingTwiceUptoRow.holds Try.pinned (OpenSpec.upto backingTwiceSpec)

/-- 'seisinlaw13.BackingApart', WHERE WHAT IT READS IS OF BULK AT MOST 1048576: true; the input reads as it did. -/
def backingApartUptoRow : OpenClaim := { program := "ytebijajimmjknaa", sum := "4e963e6afcf9225ef816659436b4605c1a7b12ba2dc5f4429671fafb135c2509", func := "seisin/seisinlaw13.BackingApart", spec := "backingApart", unfollowed := true, recurses := true, apart := false, narrowed := true }
def BackingApartUptoSaid : Prop := backingApartUptoRow.holds Try.pinned (OpenSpec.upto backingApartSpec)

/-- 'seisinlaw13.BackingTable', WHERE WHAT IT READS IS OF BULK AT MOST 1048576: true; the input reads as it did. -/
def backingTableUptoRow : OpenClaim := { program := "ytebijajimmjknaa", sum := "4e963e6afcf9225ef816659436b4605c1a7b12ba2dc5f4429671fafb135c2509", func := "seisin/seisinlaw13.BackingTable", spec := "backingTable", unfollowed := true, recurses := true, apart := false, narrowed := true }
def BackingTableUptoSaid : Prop := backingTableUptoRow.holds Try.pinned (OpenSpec.upto backingTableSpec)

/-- 'seisinlaw13.BackingAnew', WHERE WHAT IT READS IS OF BULK AT MOST 1048576: true; the input reads as it did. -/
def backingAnewUptoRow : OpenClaim := { program := "ytebijajimmjknaa", sum := "4e963e6afcf9225ef816659436b4605c1a7b12ba2dc5f4429671fafb135c2509", func := "seisin/seisinlaw13.BackingAnew", spec := "backingAnew", unfollowed := true, recurses := true, apart := false, narrowed := true }
def BackingAnewUptoSaid : Prop := backingAnewUptoRow.holds Try.pinned (OpenSpec.upto backingAnewSpec)

/-- 'seisinlaw14.WitnessOne', WHERE WHAT IT READS IS OF BULK AT MOST 1048576: true; the input reads as it did. -/
def witnessOneUptoRow : OpenClaim := { program := "ytebijajimmjknaa", sum := "4e963e6afcf9225ef816659436b4605c1a7b12ba2dc5f4429671fafb135c2509", func := "seisin/seisinlaw14.WitnessOne", spec := "witnessOne", unfollowed := true, recurses := true, apart := false, narrowed := true }
def WitnessOneUptoSaid : Prop := witnessOneUptoRow.holds Try.pinned (OpenSpec.upto witnessOneSpec)

/-- 'seisinlaw14.WitnessMasks', WHERE WHAT IT READS IS OF BULK AT MOST 1048576: true; the input reads as it did. -/
def witnessMasksUptoRow : OpenClaim := { program := "ytebijajimmjknaa", sum := "4e963e6afcf9225ef816659436b4605c1a7b12ba2dc5f4429671fafb135c2509", func := "seisin/seisinlaw14.WitnessMasks", spec := "witnessMasks", unfollowed := true, recurses := true, apart := false, narrowed := true }
def WitnessMasksUptoSaid : Prop := witnessMasksUptoRow.holds Try.pinned (OpenSpec.upto witnessMasksSpec)

/-- 'seisinlaw14.WitnessAnew', WHERE WHAT IT READS IS OF BULK AT MOST 1048576: true; the input reads as it did. -/
def witnessAnewUptoRow : OpenClaim := { program := "ytebijajimmjknaa", sum := "4e963e6afcf9225ef816659436b4605c1a7b12ba2dc5f4429671fafb135c2509", func := "seisin/seisinlaw14.WitnessAnew", spec := "witnessAnew", unfollowed := true, recurses := true, apart := false, narrowed := true }
def WitnessAnewUptoSaid : Prop := witnessAnewUptoRow.holds Try.pinned (OpenSpec.upto witnessAnewSpec)

/-- 'seisinlaw14.WitnessTicks', WHERE WHAT IT READS IS OF BULK AT MOST 1048576: true; the input reads as it did. -/
def witnessTicksUptoRow : OpenClaim := { program := "ytebijajimmjknaa", sum := "4e963e6afcf9225ef816659436b4605c1a7b12ba2dc5f4429671fafb135c2509", func := "seisin/seisinlaw14.WitnessTicks", spec := "witnessTicks", unfollowed := true, recurses := true, apart := false, narrowed := true }
def WitnessTicksUptoSaid : Prop := witnessTicksUptoRow.holds Try.pinned (OpenSpec.upto witnessTicksSpec)

/-- 'seisinlaw13.BackingFences', WHERE WHAT IT READS IS OF BULK AT MOST 1048576: true; the input reads as it did. -/
def backingFencesUptoRow : OpenClaim := { program := "ytebijajimmjknaa", sum := "4e963e6afcf9225ef816659436b4605c1a7b12ba2dc5f4429671fafb135c2509", func := "seisin/seisinlaw13.BackingFences", spec := "backingFences", unfollowed := true, recurses := true, apart := false, narrowed := true }
def BackingFencesUptoSaid : Prop := backingFencesUptoRow.holds Try.pinned (OpenSpec.upto backingFencesSpec)

end Rows
end Go.Proofs.Ytebijajimmjknaa
