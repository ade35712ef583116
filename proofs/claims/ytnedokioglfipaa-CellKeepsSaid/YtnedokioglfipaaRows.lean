/-
  No cell of these rows narrows 'for every input' (looked for: loops, veiled, ifaces, maps, wideKeys, modest, calm, conditions, laid).
  DERIVED. THE GIVEN ROWS OF THIS SEAT. 11 by the template 'for every input the law returns true; each argument reads behind the call as it read before'; 0 by the template 'total and deterministic' (their statements: YtnedokioglfipaaTotals.lean).
  GIVEN WITH THE SEED: the statements are not yours to turn. If you find one false, say at which input.
  Laid BY PROGRAM, IN A SANDBOX (cutbox-rows.mjs): the forced cells as the released guide's own fill.sh prints them over the translation 2bdd867f240f811e… (all of the seat's roots in one cut). By AI agents, Wed Nov 11 2026. No macro, syntax, notation, axiom, sorry.
-/
import Derived.Test.YtnedokioglfipaaChecked
import GoSem.Claim
import GoSem.ClaimJoined
import GoSem.ClaimMapViews
import Derived.JoinedTies
import Derived.KernelRfl
namespace Go.Proofs.Ytnedokioglfipaa
/- THE CELL 'sum', in the pinned program and in every row, IS THE sha256 OF THE DUMP (.gsa) THAT YtnedokioglfipaaProg.lean LOADS. Nothing in Lean hashes anything: it is a label: what it is worth is what the hold of that sum in a sandbox is worth. -/
noncomputable def Try.pinned : Pinned := { name := "ytnedokioglfipaa", sum := "2bdd867f240f811eb27c61e11937311b63aea36ed274f0ec79ff4a1e4a07dd17", checked := Try.checked }
namespace Rows
def none {H : Type} : Left H := { results := [], args := [] }

/-- 'seisinlaw04.SectorFuse': WHATEVER THE INPUT: true; the input reads as it did. -/
def sectorFuseSpec : ChangeSpec := { name := "sectorFuse", fn := fun _ => fun
  | [d1, d2] => { results := [.lit (.bool true)], args := [d1, d2] }
  | _ => none }
def sectorFuseRow : OpenClaim := { program := "ytnedokioglfipaa", sum := "2bdd867f240f811eb27c61e11937311b63aea36ed274f0ec79ff4a1e4a07dd17", func := "seisin/seisinlaw04.SectorFuse", spec := "sectorFuse", unfollowed := true, recurses := true, apart := false }
def SectorFuseSaid : Prop := sectorFuseRow.holds Try.pinned (OpenSpec.ofChange sectorFuseSpec)

/-- ITS FALSE NEIGHBOUR: 'it returns false'. Refute it at one input. -/
def sectorFuseWrong : ChangeSpec := { name := "sectorFuse", fn := fun _ => fun
  | [d1, d2] => { results := [.lit (.bool false)], args := [d1, d2] }
  | _ => none }
def SectorFuseWrongFalsely : Prop := sectorFuseRow.holds Try.pinned (OpenSpec.ofChange sectorFuseWrong)

/-- 'seisinlaw04.SectorDoes': WHATEVER THE INPUT: true; the input reads as it did. -/
def sectorDoesSpec : ChangeSpec := { name := "sectorDoes", fn := fun _ => fun
  | [d1, d2, d3] => { results := [.lit (.bool true)], args := [d1, d2, d3] }
  | _ => none }
def sectorDoesRow : OpenClaim := { program := "ytnedokioglfipaa", sum := "2bdd867f240f811eb27c61e11937311b63aea36ed274f0ec79ff4a1e4a07dd17", func := "seisin/seisinlaw04.SectorDoes", spec := "sectorDoes", unfollowed := true, recurses := true, apart := false }
def SectorDoesSaid : Prop := sectorDoesRow.holds Try.pinned (OpenSpec.ofChange sectorDoesSpec)

/-- ITS FALSE NEIGHBOUR: 'it returns false'. Refute it at one input. -/
def sectorDoesWrong : ChangeSpec := { name := "sectorDoes", fn := fun _ => fun
  | [d1, d2, d3] => { results := [.lit (.bool false)], args := [d1, d2, d3] }
  | _ => none }
def SectorDoesWrongFalsely : Prop := sectorDoesRow.holds Try.pinned (OpenSpec.ofChange sectorDoesWrong)

/-- 'seisinlaw04.SectorSure': WHATEVER THE INPUT: true; the input reads as it did. -/
def sectorSureSpec : ChangeSpec := { name := "sectorSure", fn := fun _ => fun
  | [d1, d2, d3, d4] => { results := [.lit (.bool true)], args := [d1, d2, d3, d4] }
  | _ => none }
def sectorSureRow : OpenClaim := { program := "ytnedokioglfipaa", sum := "2bdd867f240f811eb27c61e11937311b63aea36ed274f0ec79ff4a1e4a07dd17", func := "seisin/seisinlaw04.SectorSure", spec := "sectorSure", unfollowed := true, recurses := true, apart := false }
def SectorSureSaid : Prop := sectorSureRow.holds Try.pinned (OpenSpec.ofChange sectorSureSpec)

/-- ITS FALSE NEIGHBOUR: 'it returns false'. Refute it at one input. -/
def sectorSureWrong : ChangeSpec := { name := "sectorSure", fn := fun _ => fun
  | [d1, d2, d3, d4] => { results := [.lit (.bool false)], args := [d1, d2, d3, d4] }
  | _ => none }
def SectorSureWrongFalsely : Prop := sectorSureRow.holds Try.pinned (OpenSpec.ofChange sectorSureWrong)

/-- 'seisinlaw04.SectorAlone': WHATEVER THE INPUT: true; the input reads as it did. -/
def sectorAloneSpec : ChangeSpec := { name := "sectorAlone", fn := fun _ => fun
  | [d1, d2, d3, d4, d5] => { results := [.lit (.bool true)], args := [d1, d2, d3, d4, d5] }
  | _ => none }
def sectorAloneRow : OpenClaim := { program := "ytnedokioglfipaa", sum := "2bdd867f240f811eb27c61e11937311b63aea36ed274f0ec79ff4a1e4a07dd17", func := "seisin/seisinlaw04.SectorAlone", spec := "sectorAlone", unfollowed := true, recurses := true, apart := false }
def SectorAloneSaid : Prop := sectorAloneRow.holds Try.pinned (OpenSpec.ofChange sectorAloneSpec)

/-- ITS FALSE NEIGHBOUR: 'it returns false'. Refute it at one input. -/
def sectorAloneWrong : ChangeSpec := { name := "sectorAlone", fn := fun _ => fun
  | [d1, d2, d3, d4, d5] => { results := [.lit (.bool false)], args := [d1, d2, d3, d4, d5] }
  | _ => none }
def SectorAloneWrongFalsely : Prop := sectorAloneRow.holds Try.pinned (OpenSpec.ofChange sectorAloneWrong)

/-- 'seisinlaw04.SectorAnew': WHATEVER THE INPUT: true; the input reads as it did. -/
def sectorAnewSpec : ChangeSpec := { name := "sectorAnew", fn := fun _ => fun
  | [d1, d2, d3] => { results := [.lit (.bool true)], args := [d1, d2, d3] }
  | _ => none }
def sectorAnewRow : OpenClaim := { program := "ytnedokioglfipaa", sum := "2bdd867f240f811eb27c61e11937311b63aea36ed274f0ec79ff4a1e4a07dd17", func := "seisin/seisinlaw04.SectorAnew", spec := "sectorAnew", unfollowed := true, recurses := true, apart := false }
def SectorAnewSaid : Prop := sectorAnewRow.holds Try.pinned (OpenSpec.ofChange sectorAnewSpec)

/-- ITS FALSE NEIGHBOUR: 'it returns false'. Refute it at one input. -/
def sectorAnewWrong : ChangeSpec := { name := "sectorAnew", fn := fun _ => fun
  | [d1, d2, d3] => { results := [.lit (.bool false)], args := [d1, d2, d3] }
  | _ => none }
def SectorAnewWrongFalsely : Prop := sectorAnewRow.holds Try.pinned (OpenSpec.ofChange sectorAnewWrong)

/-- 'seisinlaw04.SectorPending': WHATEVER THE INPUT: true; the input reads as it did. -/
def sectorPendingSpec : ChangeSpec := { name := "sectorPending", fn := fun _ => fun
  | [d1, d2] => { results := [.lit (.bool true)], args := [d1, d2] }
  | _ => none }
def sectorPendingRow : OpenClaim := { program := "ytnedokioglfipaa", sum := "2bdd867f240f811eb27c61e11937311b63aea36ed274f0ec79ff4a1e4a07dd17", func := "seisin/seisinlaw04.SectorPending", spec := "sectorPending", unfollowed := true, recurses := true, apart := false }
def SectorPendingSaid : Prop := sectorPendingRow.holds Try.pinned (OpenSpec.ofChange sectorPendingSpec)

/-- ITS FALSE NEIGHBOUR: 'it returns false'. Refute it at one input. -/
def sectorPendingWrong : ChangeSpec := { name := "sectorPending", fn := fun _ => fun
  | [d1, d2] => { results := [.lit (.bool false)], args := [d1, d2] }
  | _ => none }
def SectorPendingWrongFalsely : Prop := sectorPendingRow.holds Try.pinned (OpenSpec.ofChange sectorPendingWrong)

/-- 'seisinlaw05.CellSlots': WHATEVER THE INPUT: true; the input reads as it did. -/
def cellSlotsSpec : ChangeSpec := { name := "cellSlots", fn := fun _ => fun
  | [d1, d2, d3] => { results := [.lit (.bool true)], args := [d1, d2, d3] }
  | _ => none }
def cellSlotsRow : OpenClaim := { program := "ytnedokioglfipaa", sum := "2bdd867f240f811eb27c61e11937311b63aea36ed274f0ec79ff4a1e4a07dd17", func := "seisin/seisinlaw05.CellSlots", spec := "cellSlots", unfollowed := true, recurses := true, apart := false }
def CellSlotsSaid : Prop := cellSlotsRow.holds Try.pinned (OpenSpec.ofChange cellSlotsSpec)

/-- ITS FALSE NEIGHBOUR: 'it returns false'. Refute it at one input. -/
def cellSlotsWrong : ChangeSpec := { name := "cellSlots", fn := fun _ => fun
  | [d1, d2, d3] => { results := [.lit (.bool false)], args := [d1, d2, d3] }
  | _ => none }
def CellSlotsWrongFalsely : Prop := cellSlotsRow.holds Try.pinned (OpenSpec.ofChange cellSlotsWrong)

/-- 'seisinlaw05.CellGens': WHATEVER THE INPUT: true; the input reads as it did. -/
def cellGensSpec : ChangeSpec := { name := "cellGens", fn := fun _ => fun
  | [d1, d2] => { results := [.lit (.bool true)], args := [d1, d2] }
  | _ => none }
def cellGensRow : OpenClaim := { program := "ytnedokioglfipaa", sum := "2bdd867f240f811eb27c61e11937311b63aea36ed274f0ec79ff4a1e4a07dd17", func := "seisin/seisinlaw05.CellGens", spec := "cellGens", unfollowed := true, recurses := true, apart := false }
def CellGensSaid : Prop := cellGensRow.holds Try.pinned (OpenSpec.ofChange cellGensSpec)

/-- ITS FALSE NEIGHBOUR: 'it returns false'. Refute it at one input. -/
def cellGensWrong : ChangeSpec := { name := "cellGens", fn := fun _ => fun
  | [d1, d2] => { results := [.lit (.bool false)], args := [d1, d2] }
  | _ => none }
def CellGensWrongFalsely : Prop := cellGensRow.holds Try.pinned (OpenSpec.ofChange cellGensWrong)

/-- 'seisinlaw05.CellAlone': WHATEVER THE INPUT: true; the input reads as it did. -/
def cellAloneSpec : ChangeSpec := { name := "cellAlone", fn := fun _ => fun
  | [d1, d2, d3] => { results := [.lit (.bool true)], args := [d1, d2, d3] }
  | _ => none }
def cellAloneRow : OpenClaim := { program := "ytnedokioglfipaa", sum := "2bdd867f240f811eb27c61e11937311b63aea36ed274f0ec79ff4a1e4a07dd17", func := "seisin/seisinlaw05.CellAlone", spec := "cellAlone", unfollowed := true, recurses := true, apart := false }
def CellAloneSaid : Prop := cellAloneRow.holds Try.pinned (OpenSpec.ofChange cellAloneSpec)

/-- ITS FALSE NEIGHBOUR: 'it returns false'. Refute it at one input. -/
def cellAloneWrong : ChangeSpec := { name := "cellAlone", fn := fun _ => fun
  | [d1, d2, d3] => { results := [.lit (.bool false)], args := [d1, d2, d3] }
  | _ => none }
def CellAloneWrongFalsely : Prop := cellAloneRow.holds Try.pinned (OpenSpec.ofChange cellAloneWrong)

/-- 'seisinlaw05.CellSlotsApart': WHATEVER THE INPUT: true; the input reads as it did. -/
def cellSlotsApartSpec : ChangeSpec := { name := "cellSlotsApart", fn := fun _ => fun
  | [d1, d2, d3, d4] => { results := [.lit (.bool true)], args := [d1, d2, d3, d4] }
  | _ => none }
def cellSlotsApartRow : OpenClaim := { program := "ytnedokioglfipaa", sum := "2bdd867f240f811eb27c61e11937311b63aea36ed274f0ec79ff4a1e4a07dd17", func := "seisin/seisinlaw05.CellSlotsApart", spec := "cellSlotsApart", unfollowed := true, recurses := true, apart := false }
def CellSlotsApartSaid : Prop := cellSlotsApartRow.holds Try.pinned (OpenSpec.ofChange cellSlotsApartSpec)

/-- ITS FALSE NEIGHBOUR: 'it returns false'. Refute it at one input. -/
def cellSlotsApartWrong : ChangeSpec := { name := "cellSlotsApart", fn := fun _ => fun
  | [d1, d2, d3, d4] => { results := [.lit (.bool false)], args := [d1, d2, d3, d4] }
  | _ => none }
def CellSlotsApartWrongFalsely : Prop := cellSlotsApartRow.holds Try.pinned (OpenSpec.ofChange cellSlotsApartWrong)

/-- 'seisinlaw05.CellKeeps': WHATEVER THE INPUT: true; the input reads as it did. -/
def cellKeepsSpec : ChangeSpec := { name := "cellKeeps", fn := fun _ => fun
  | [d1, d2, d3] => { results := [.lit (.bool true)], args := [d1, d2, d3] }
  | _ => none }
def cellKeepsRow : OpenClaim := { program := "ytnedokioglfipaa", sum := "2bdd867f240f811eb27c61e11937311b63aea36ed274f0ec79ff4a1e4a07dd17", func := "seisin/seisinlaw05.CellKeeps", spec := "cellKeeps", unfollowed := true, recurses := true, apart := false }
def CellKeepsSaid : Prop := cellKeepsRow.holds Try.pinned (OpenSpec.ofChange cellKeepsSpec)

/-- ITS FALSE NEIGHBOUR: 'it returns false'. Refute it at one input. -/
def cellKeepsWrong : ChangeSpec := { name := "cellKeeps", fn := fun _ => fun
  | [d1, d2, d3] => { results := [.lit (.bool false)], args := [d1, d2, d3] }
  | _ => none }
def CellKeepsWrongFalsely : Prop := cellKeepsRow.holds Try.pinned (OpenSpec.ofChange cellKeepsWrong)

/- THE SECOND FORM. 'bulk': how many values and letters a reading holds, each counted each time it is reached (what is shared counts as often as it is met; a slice's spare places count too). A statement '..UptoSaid' is the law's where the arguments, and the package variables that the reading takes, are together of bulk at most 1048576: NARROWER than '..Said'. Prove '..Said' where nothing that the law and all that it calls make is longer than what came in: it says more and counts as full. Else prove '..UptoSaid'. A law counts once. -/
mutual
def uptoBulk {H : Type} : DataW H → Nat
  | .lit (.string bytes) => bytes.length + 1
  | .lit _ => 1
  | .nil => 1
  | .ptr d => uptoBulk d + 1
  | .slice elems spare => uptoBulkAll elems + uptoBulkAll spare + 1
  | .agg parts => uptoBulkAll parts + 1
  | .iface _ d => uptoBulk d + 1
  | .map entries => uptoBulkEntries entries + 1
  | .held _ => 1
def uptoBulkAll {H : Type} : List (DataW H) → Nat
  | [] => 0
  | d :: r => uptoBulk d + uptoBulkAll r
def uptoBulkEntries {H : Type} : List (Lit × DataW H) → Nat
  | [] => 0
  | x :: r => uptoBulkEntry x + uptoBulkEntries r
def uptoBulkEntry {H : Type} : Lit × DataW H → Nat
  | (.string bytes, d) => bytes.length + uptoBulk d + 1
  | (_, d) => uptoBulk d + 1
 end
def uptoSmall : (H : Type) → List (DataW H) → Bool := fun _ ds => decide (uptoBulkAll ds ≤ 1048576)
def OpenSpec.upto (s : _root_.Go.ChangeSpec) : _root_.Go.OpenSpec := { _root_.Go.OpenSpec.ofChange s with cond := some uptoSmall }

/-- 'seisinlaw04.SectorFuse', WHERE WHAT IT READS IS OF BULK AT MOST 1048576: true; the input reads as it did. -/
def sectorFuseUptoRow : OpenClaim := { program := "ytnedokioglfipaa", sum := "2bdd867f240f811eb27c61e11937311b63aea36ed274f0ec79ff4a1e4a07dd17", func := "seisin/seisinlaw04.SectorFuse", spec := "sectorFuse", unfollowed := true, recurses := true, apart := false, narrowed := true }
def SectorFuseUptoSaid : Prop := sectorFuseUptoRow.holds Try.pinned (OpenSpec.upto sectorFuseSpec)

/-- 'seisinlaw04.SectorDoes', WHERE WHAT IT READS IS OF BULK AT MOST 1048576: true; the input reads as it did. -/
def sectorDoesUptoRow : OpenClaim := { program := "ytnedokioglfipaa", sum := "2bdd867f240f811eb27c61e11937311b63aea36ed274f0ec79ff4a1e4a07dd17", func := "seisin/seisinlaw04.SectorDoes", spec := "sectorDoes", unfollowed := true, recurses := true, apart := false, narrowed := true }
def SectorDoesUptoSaid : Prop := sectorDoesUptoRow.holds Try.pinned (OpenSpec.upto sectorDoesSpec)

/-- 'seisinlaw04.SectorSure', WHERE WHAT IT READS IS OF BULK AT MOST 1048576: true; the input reads as it did. -/
def sectorSureUptoRow : OpenClaim := { program := "ytnedokioglfipaa", sum := "2bdd867f240f811eb27c61e11937311b63aea36ed274f0ec79ff4a1e4a07dd17", func := "seisin/seisinlaw04.SectorSure", spec := "sectorSure", unfollowed := true, recurses := true, apart := false, narrowed := true }
def SectorSureUptoSaid : Prop := sectorSureUptoRow.holds Try.pinned (OpenSpec.upto sectorSureSpec)

/-- 'seisinlaw04.SectorAlone', WHERE WHAT IT READS IS OF BULK AT MOST 1048576: true; the input reads as it did. -/
def sectorAloneUptoRow : OpenClaim := { program := "ytnedokioglfipaa", sum := "2bdd867f240f811eb27c61e11937311b63aea36ed274f0ec79ff4a1e4a07dd17", func := "seisin/seisinlaw04.SectorAlone", spec := "sectorAlone", unfollowed := true, recurses := true, apart := false, narrowed := true }
def SectorAloneUptoSaid : Prop := sectorAloneUptoRow.holds Try.pinned (OpenSpec.upto sectorAloneSpec)

/-- 'seisinlaw04.SectorAnew', WHERE WHAT IT READS IS OF BULK AT MOST 1048576: true; the input reads as it did. -/
def sectorAnewUptoRow : OpenClaim := { program := "ytnedokioglfipaa", sum := "2bdd867f240f811eb27c61e11937311b63aea36ed274f0ec79ff4a1e4a07dd17", func := "seisin/seisinlaw04.SectorAnew", spec := "sectorAnew", unfollowed := true, recurses := true, apart := false, narrowed := true }
def SectorAnewUptoSaid : Prop := sectorAnewUptoRow.holds Try.pinned (OpenSpec.upto sectorAnewSpec)

/-- 'seisinlaw04.SectorPending', WHERE WHAT IT READS IS OF BULK AT MOST 1048576: true; the input reads as it did. -/
def sectorPendingUptoRow : OpenClaim := { program := "ytnedokioglfipaa", sum := "2bdd867f240f811eb27c61e11937311b63aea36ed274f0ec79ff4a1e4a07dd17", func := "seisin/seisinlaw04.SectorPending", spec := "sectorPending", unfollowed := true, recurses := true, apart := false, narrowed := true }
def SectorPendingUptoSaid : Prop := sectorPendingUptoRow.holds Try.pinned (OpenSpec.upto sectorPendingSpec)

/-- 'seisinlaw05.CellSlots', WHERE WHAT IT READS IS OF BULK AT MOST 1048576: true; the input reads as it did. -/
def cellSlotsUptoRow : OpenClaim := { program := "ytnedokioglfipaa", sum := "2bdd867f240f811eb27c61e11937311b63aea36ed274f0ec79ff4a1e4a07dd17", func := "seisin/seisinlaw05.CellSlots", spec := "cellSlots", unfollowed := true, recurses := true, apart := false, narrowed := true }
def CellSlotsUptoSaid : Prop := cellSlotsUptoRow.holds Try.pinned (OpenSpec.upto cellSlotsSpec)

/-- 'seisinlaw05.CellGens', WHERE WHAT IT READS IS OF BULK AT MOST 1048576: true; the input reads as it did. -/
def cellGensUptoRow : OpenClaim := { program := "ytnedokioglfipaa", sum := "2bdd867f240f811eb27c61e11937311b63aea36ed274f0ec79ff4a1e4a07dd17", func := "seisin/seisinlaw05.CellGens", spec := "cellGens", unfollowed := true, recurses := true, apart := false, narrowed := true }
def CellGensUptoSaid : Prop := cellGensUptoRow.holds Try.pinned (OpenSpec.upto cellGensSpec)

/-- 'seisinlaw05.CellAlone', WHERE WHAT IT READS IS OF BULK AT MOST 1048576: true; the input reads as it did. -/
def cellAloneUptoRow : OpenClaim := { program := "ytnedokioglfipaa", sum := "2bdd867f240f811eb27c61e11937311b63aea36ed274f0ec79ff4a1e4a07dd17", func := "seisin/seisinlaw05.CellAlone", spec := "cellAlone", unfollowed := true, recurses := true, apart := false, narrowed := true }
def CellAloneUptoSaid : Prop := cellAloneUptoRow.holds Try.pinned (OpenSpec.upto cellAloneSpec)

/-- 'seisinlaw05.CellSlotsApart', WHERE WHAT IT READS IS OF BULK AT MOST 1048576: true; the input reads as it did. -/
def cellSlotsApartUptoRow : OpenClaim := { program := "ytnedokioglfipaa", sum := "2bdd867f240f811eb27c61e11937311b63aea36ed274f0ec79ff4a1e4a07dd17", func := "seisin/seisinlaw05.CellSlotsApart", spec := "cellSlotsApart", unfollowed := true, recurses := true, apart := false, narrowed := true }
def CellSlotsApartUptoSaid : Prop := cellSlotsApartUptoRow.holds Try.pinned (OpenSpec.upto cellSlotsApartSpec)

/-- 'seisinlaw05.CellKeeps', WHERE WHAT IT READS IS OF BULK AT MOST 1048576: true; the input reads as it did. -/
def cellKeepsUptoRow : OpenClaim := { program := "ytnedokioglfipaa", sum := "2bdd867f240f811eb27c61e11937311b63aea36ed274f0ec79ff4a1e4a07dd17", func := "seisin/seisinlaw05.CellKeeps", spec := "cellKeeps", unfollowed := true, recurses := true, apart := false, narrowed := true }
def CellKeepsUptoSaid : Prop := cellKeepsUptoRow.holds Try.pinned (OpenSpec.upto cellKeepsSpec)

end Rows
end Go.Proofs.Ytnedokioglfipaa
