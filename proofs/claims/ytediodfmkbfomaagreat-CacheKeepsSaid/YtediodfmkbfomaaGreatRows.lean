/-
  No cell of these rows narrows 'for every input' (looked for: loops, veiled, ifaces, maps, wideKeys, modest, calm, conditions, laid).
  DERIVED. THE GIVEN ROWS OF THIS SEAT. 8 by the template 'for every input the law returns true; each argument reads behind the call as it read before'; 0 by the template 'total and deterministic' (their statements: YtediodfmkbfomaaGreatTotals.lean).
  GIVEN WITH THE SEED: the statements are not yours to turn. If you find one false, say at which input.
  Laid BY PROGRAM, IN A SANDBOX (cutbox-rows.mjs): the forced cells as the released guide's own fill.sh prints them over the translation adb3ed5c9987b699… (all of the seat's roots in one cut). By AI agents, Wed Nov 11 2026. No macro, syntax, notation, axiom, sorry.
-/
import Derived.Test.YtediodfmkbfomaaGreatChecked
import GoSem.Claim
import GoSem.ClaimJoined
import GoSem.ClaimMapViews
import Derived.JoinedTies
import Derived.KernelRfl
namespace Go.Proofs.YtediodfmkbfomaaGreat
/- THE CELL 'sum', in the pinned program and in every row, IS THE sha256 OF THE DUMP (.gsa) THAT YtediodfmkbfomaaGreatProg.lean LOADS. Nothing in Lean hashes anything: it is a label: what it is worth is what the hold of that sum in a sandbox is worth. -/
noncomputable def Tryz.pinned : Pinned := { name := "ytediodfmkbfomaagreat", sum := "adb3ed5c9987b6998251cbb16a4e2fad180e08302c16990f51fa29fb7ee6da52", checked := Tryz.checked }
namespace Rows
def none {H : Type} : Left H := { results := [], args := [] }

/-- 'seisinlaw09.CacheLives': WHATEVER THE INPUT: true; the input reads as it did. -/
def cacheLivesSpec : ChangeSpec := { name := "cacheLives", fn := fun _ => fun
  | [d1, d2, d3] => { results := [.lit (.bool true)], args := [d1, d2, d3] }
  | _ => none }
def cacheLivesRow : OpenClaim := { program := "ytediodfmkbfomaagreat", sum := "adb3ed5c9987b6998251cbb16a4e2fad180e08302c16990f51fa29fb7ee6da52", func := "seisin/seisinlaw09.CacheLives", spec := "cacheLives", unfollowed := true, recurses := true, apart := false }
def CacheLivesSaid : Prop := cacheLivesRow.holds Tryz.pinned (OpenSpec.ofChange cacheLivesSpec)

/-- ITS FALSE NEIGHBOUR: 'it returns false'. Refute it at one input. -/
def cacheLivesWrong : ChangeSpec := { name := "cacheLives", fn := fun _ => fun
  | [d1, d2, d3] => { results := [.lit (.bool false)], args := [d1, d2, d3] }
  | _ => none }
def CacheLivesWrongFalsely : Prop := cacheLivesRow.holds Tryz.pinned (OpenSpec.ofChange cacheLivesWrong)

/-- 'seisinlaw09.CacheFull': WHATEVER THE INPUT: true; the input reads as it did. -/
def cacheFullSpec : ChangeSpec := { name := "cacheFull", fn := fun _ => fun
  | [d1, d2] => { results := [.lit (.bool true)], args := [d1, d2] }
  | _ => none }
def cacheFullRow : OpenClaim := { program := "ytediodfmkbfomaagreat", sum := "adb3ed5c9987b6998251cbb16a4e2fad180e08302c16990f51fa29fb7ee6da52", func := "seisin/seisinlaw09.CacheFull", spec := "cacheFull", unfollowed := true, recurses := true, apart := false }
def CacheFullSaid : Prop := cacheFullRow.holds Tryz.pinned (OpenSpec.ofChange cacheFullSpec)

/-- ITS FALSE NEIGHBOUR: 'it returns false'. Refute it at one input. -/
def cacheFullWrong : ChangeSpec := { name := "cacheFull", fn := fun _ => fun
  | [d1, d2] => { results := [.lit (.bool false)], args := [d1, d2] }
  | _ => none }
def CacheFullWrongFalsely : Prop := cacheFullRow.holds Tryz.pinned (OpenSpec.ofChange cacheFullWrong)

/-- 'seisinlaw09.CacheErrors': WHATEVER THE INPUT: true; the input reads as it did. -/
def cacheErrorsSpec : ChangeSpec := { name := "cacheErrors", fn := fun _ => fun
  | [d1, d2] => { results := [.lit (.bool true)], args := [d1, d2] }
  | _ => none }
def cacheErrorsRow : OpenClaim := { program := "ytediodfmkbfomaagreat", sum := "adb3ed5c9987b6998251cbb16a4e2fad180e08302c16990f51fa29fb7ee6da52", func := "seisin/seisinlaw09.CacheErrors", spec := "cacheErrors", unfollowed := true, recurses := true, apart := false }
def CacheErrorsSaid : Prop := cacheErrorsRow.holds Tryz.pinned (OpenSpec.ofChange cacheErrorsSpec)

/-- ITS FALSE NEIGHBOUR: 'it returns false'. Refute it at one input. -/
def cacheErrorsWrong : ChangeSpec := { name := "cacheErrors", fn := fun _ => fun
  | [d1, d2] => { results := [.lit (.bool false)], args := [d1, d2] }
  | _ => none }
def CacheErrorsWrongFalsely : Prop := cacheErrorsRow.holds Tryz.pinned (OpenSpec.ofChange cacheErrorsWrong)

/-- 'seisinlaw09.CacheAnew': WHATEVER THE INPUT: true; the input reads as it did. -/
def cacheAnewSpec : ChangeSpec := { name := "cacheAnew", fn := fun _ => fun
  | [d1, d2, d3] => { results := [.lit (.bool true)], args := [d1, d2, d3] }
  | _ => none }
def cacheAnewRow : OpenClaim := { program := "ytediodfmkbfomaagreat", sum := "adb3ed5c9987b6998251cbb16a4e2fad180e08302c16990f51fa29fb7ee6da52", func := "seisin/seisinlaw09.CacheAnew", spec := "cacheAnew", unfollowed := true, recurses := true, apart := false }
def CacheAnewSaid : Prop := cacheAnewRow.holds Tryz.pinned (OpenSpec.ofChange cacheAnewSpec)

/-- ITS FALSE NEIGHBOUR: 'it returns false'. Refute it at one input. -/
def cacheAnewWrong : ChangeSpec := { name := "cacheAnew", fn := fun _ => fun
  | [d1, d2, d3] => { results := [.lit (.bool false)], args := [d1, d2, d3] }
  | _ => none }
def CacheAnewWrongFalsely : Prop := cacheAnewRow.holds Tryz.pinned (OpenSpec.ofChange cacheAnewWrong)

/-- 'seisinlaw09.CacheRises': WHATEVER THE INPUT: true; the input reads as it did. -/
def cacheRisesSpec : ChangeSpec := { name := "cacheRises", fn := fun _ => fun
  | [d1, d2] => { results := [.lit (.bool true)], args := [d1, d2] }
  | _ => none }
def cacheRisesRow : OpenClaim := { program := "ytediodfmkbfomaagreat", sum := "adb3ed5c9987b6998251cbb16a4e2fad180e08302c16990f51fa29fb7ee6da52", func := "seisin/seisinlaw09.CacheRises", spec := "cacheRises", unfollowed := true, recurses := true, apart := false }
def CacheRisesSaid : Prop := cacheRisesRow.holds Tryz.pinned (OpenSpec.ofChange cacheRisesSpec)

/-- ITS FALSE NEIGHBOUR: 'it returns false'. Refute it at one input. -/
def cacheRisesWrong : ChangeSpec := { name := "cacheRises", fn := fun _ => fun
  | [d1, d2] => { results := [.lit (.bool false)], args := [d1, d2] }
  | _ => none }
def CacheRisesWrongFalsely : Prop := cacheRisesRow.holds Tryz.pinned (OpenSpec.ofChange cacheRisesWrong)

/-- 'seisinlaw09.CacheApart': WHATEVER THE INPUT: true; the input reads as it did. -/
def cacheApartSpec : ChangeSpec := { name := "cacheApart", fn := fun _ => fun
  | [d1, d2] => { results := [.lit (.bool true)], args := [d1, d2] }
  | _ => none }
def cacheApartRow : OpenClaim := { program := "ytediodfmkbfomaagreat", sum := "adb3ed5c9987b6998251cbb16a4e2fad180e08302c16990f51fa29fb7ee6da52", func := "seisin/seisinlaw09.CacheApart", spec := "cacheApart", unfollowed := true, recurses := true, apart := false }
def CacheApartSaid : Prop := cacheApartRow.holds Tryz.pinned (OpenSpec.ofChange cacheApartSpec)

/-- ITS FALSE NEIGHBOUR: 'it returns false'. Refute it at one input. -/
def cacheApartWrong : ChangeSpec := { name := "cacheApart", fn := fun _ => fun
  | [d1, d2] => { results := [.lit (.bool false)], args := [d1, d2] }
  | _ => none }
def CacheApartWrongFalsely : Prop := cacheApartRow.holds Tryz.pinned (OpenSpec.ofChange cacheApartWrong)

/-- 'seisinlaw09.CacheReset': WHATEVER THE INPUT: true; the input reads as it did. -/
def cacheResetSpec : ChangeSpec := { name := "cacheReset", fn := fun _ => fun
  | [d1, d2, d3, d4] => { results := [.lit (.bool true)], args := [d1, d2, d3, d4] }
  | _ => none }
def cacheResetRow : OpenClaim := { program := "ytediodfmkbfomaagreat", sum := "adb3ed5c9987b6998251cbb16a4e2fad180e08302c16990f51fa29fb7ee6da52", func := "seisin/seisinlaw09.CacheReset", spec := "cacheReset", unfollowed := true, recurses := true, apart := false }
def CacheResetSaid : Prop := cacheResetRow.holds Tryz.pinned (OpenSpec.ofChange cacheResetSpec)

/-- ITS FALSE NEIGHBOUR: 'it returns false'. Refute it at one input. -/
def cacheResetWrong : ChangeSpec := { name := "cacheReset", fn := fun _ => fun
  | [d1, d2, d3, d4] => { results := [.lit (.bool false)], args := [d1, d2, d3, d4] }
  | _ => none }
def CacheResetWrongFalsely : Prop := cacheResetRow.holds Tryz.pinned (OpenSpec.ofChange cacheResetWrong)

/-- 'seisinlaw09.CacheKeeps': WHATEVER THE INPUT: true; the input reads as it did. -/
def cacheKeepsSpec : ChangeSpec := { name := "cacheKeeps", fn := fun _ => fun
  | [d1, d2] => { results := [.lit (.bool true)], args := [d1, d2] }
  | _ => none }
def cacheKeepsRow : OpenClaim := { program := "ytediodfmkbfomaagreat", sum := "adb3ed5c9987b6998251cbb16a4e2fad180e08302c16990f51fa29fb7ee6da52", func := "seisin/seisinlaw09.CacheKeeps", spec := "cacheKeeps", unfollowed := true, recurses := true, apart := false }
def CacheKeepsSaid : Prop := cacheKeepsRow.holds Tryz.pinned (OpenSpec.ofChange cacheKeepsSpec)

/-- ITS FALSE NEIGHBOUR: 'it returns false'. Refute it at one input. -/
def cacheKeepsWrong : ChangeSpec := { name := "cacheKeeps", fn := fun _ => fun
  | [d1, d2] => { results := [.lit (.bool false)], args := [d1, d2] }
  | _ => none }
def CacheKeepsWrongFalsely : Prop := cacheKeepsRow.holds Tryz.pinned (OpenSpec.ofChange cacheKeepsWrong)

/- THE SECOND FORM. 'bulk': how many values and letters a reading holds, each counted each time it is reached (what is shared counts as often as it is met; a slice's spare places count too). A statement '..UptoSaid' is the law's where the arguments, and the package variables that the reading takes, are together of bulk at most 1048576: NARROWER than '..Said'. Prove '..Said' where nothing that the law and all that it calls make is longer than what came in: it says more and counts as full. Else prove '..UptoSaid'. A law counts once. -/
mutual
def uptoBulk {H : Type} : DataW H → Nat
  | .lit (.string bytes) => bytes.length + 1
  | .lit _ => 1
  | .nil => 1
  | .ptr d => uptoBulk d + 1
  | .slice elems spare => uptoBulkAll elems + uptoBulkAll spare + 1
  | .agg parts => uptoBulkAll parts + 1
  | .iface _ d => uptoBulk d + 1
  | .map entries => uptoBulkEntries entries + 1
  | .held _ => 1
def uptoBulkAll {H : Type} : List (DataW H) → Nat
  | [] => 0
  | d :: r => uptoBulk d + uptoBulkAll r
def uptoBulkEntries {H : Type} : List (Lit × DataW H) → Nat
  | [] => 0
  | x :: r => uptoBulkEntry x + uptoBulkEntries r
def uptoBulkEntry {H : Type} : Lit × DataW H → Nat
  | (.string bytes, d) => bytes.length + uptoBulk d + 1
  | (_, d) => uptoBulk d + 1
 end
def uptoSmall : (H : Type) → List (DataW H) → Bool := fun _ ds => decide (uptoBulkAll ds ≤ 1048576)
def OpenSpec.upto (s : _root_.Go.ChangeSpec) : _root_.Go.OpenSpec := { _root_.Go.OpenSpec.ofChange s with cond := some uptoSmall }

/-- 'seisinlaw09.CacheLives', WHERE WHAT IT READS IS OF BULK AT MOST 1048576: true; the input reads as it did. -/
def cacheLivesUptoRow : OpenClaim := { program := "ytediodfmkbfomaagreat", sum := "adb3ed5c9987b6998251cbb16a4e2fad180e08302c16990f51fa29fb7ee6da52", func := "seisin/seisinlaw09.CacheLives", spec := "cacheLives", unfollowed := true, recurses := true, apart := false, narrowed := true }
def CacheLivesUptoSaid : Prop := cacheLivesUptoRow.holds Tryz.pinned (OpenSpec.upto cacheLivesSpec)

/-- 'seisinlaw09.CacheFull', WHERE WHAT IT READS IS OF BULK AT MOST 1048576: true; the input reads as it did. -/
def cacheFullUptoRow : OpenClaim := { program := "ytediodfmkbfomaagreat", sum := "adb3ed5c9987b6998251cbb16a4e2fad180e08302c16990f51fa29fb7ee6da52", func := "seisin/seisinlaw09.CacheFull", spec := "cacheFull", unfollowed := true, recurses := true, apart := false, narrowed := true }
def CacheFullUptoSaid : Prop := cacheFullUptoRow.holds Tryz.pinned (OpenSpec.upto cacheFullSpec)

/-- 'seisinlaw09.CacheErrors', WHERE WHAT IT READS IS OF BULK AT MOST 1048576: true; the input reads as it did. -/
def cacheErrorsUptoRow : OpenClaim := { program := "ytediodfmkbfomaagreat", sum := "adb3ed5c9987b6998251cbb16a4e2fad180e08302c16990f51fa29fb7ee6da52", func := "seisin/seisinlaw09.CacheErrors", spec := "cacheErrors", unfollowed := true, recurses := true, apart := false, narrowed := true }
def CacheErrorsUptoSaid : Prop := cacheErrorsUptoRow.holds Tryz.pinned (OpenSpec.upto cacheErrorsSpec)

/-- 'seisinlaw09.CacheAnew', WHERE WHAT IT READS IS OF BULK AT MOST 1048576: true; the input reads as it did. -/
def cacheAnewUptoRow : OpenClaim := { program := "ytediodfmkbfomaagreat", sum := "adb3ed5c9987b6998251cbb16a4e2fad180e08302c16990f51fa29fb7ee6da52", func := "seisin/seisinlaw09.CacheAnew", spec := "cacheAnew", unfollowed := true, recurses := true, apart := false, narrowed := true }
def CacheAnewUptoSaid : Prop := cacheAnewUptoRow.holds Tryz.pinned (OpenSpec.upto cacheAnewSpec)

/-- 'seisinlaw09.CacheRises', WHERE WHAT IT READS IS OF BULK AT MOST 1048576: true; the input reads as it did. -/
def cacheRisesUptoRow : OpenClaim := { program := "ytediodfmkbfomaagreat", sum := "adb3ed5c9987b6998251cbb16a4e2fad180e08302c16990f51fa29fb7ee6da52", func := "seisin/seisinlaw09.CacheRises", spec := "cacheRises", unfollowed := true, recurses := true, apart := false, narrowed := true }
def CacheRisesUptoSaid : Prop := cacheRisesUptoRow.holds Tryz.pinned (OpenSpec.upto cacheRisesSpec)

/-- 'seisinlaw09.CacheApart', WHERE WHAT IT READS IS OF BULK AT MOST 1048576: true; the input reads as it did. -/
def cacheApartUptoRow : OpenClaim := { program := "ytediodfmkbfomaagreat", sum := "adb3ed5c9987b6998251cbb16a4e2fad180e08302c16990f51fa29fb7ee6da52", func := "seisin/seisinlaw09.CacheApart", spec := "cacheApart", unfollowed := true, recurses := true, apart := false, narrowed := true }
def CacheApartUptoSaid : Prop := cacheApartUptoRow.holds Tryz.pinned (OpenSpec.upto cacheApartSpec)

/-- 'seisinlaw09.CacheReset', WHERE WHAT IT READS IS OF BULK AT MOST 1048576: true; the input reads as it did. -/
def cacheResetUptoRow : OpenClaim := { program := "ytediodfmkbfomaagreat", sum := "adb3ed5c9987b6998251cbb16a4e2fad180e08302c16990f51fa29fb7ee6da52", func := "seisin/seisinlaw09.CacheReset", spec := "cacheReset", unfollowed := true, recurses := true, apart := false, narrowed := true }
def CacheResetUptoSaid : Prop := cacheResetUptoRow.holds Tryz.pinned (OpenSpec.upto cacheResetSpec)

/-- 'seisinlaw09.CacheKeeps', WHERE WHAT IT READS IS OF BULK AT MOST 1048576: true; the input reads as it did. -/
def cacheKeepsUptoRow : OpenClaim := { program := "ytediodfmkbfomaagreat", sum := "adb3ed5c9987b6998251cbb16a4e2fad180e08302c16990f51fa29fb7ee6da52", func := "seisin/seisinlaw09.CacheKeeps", spec := "cacheKeeps", unfollowed := true, recurses := true, apart := false, narrowed := true }
def CacheKeepsUptoSaid : Prop := cacheKeepsUptoRow.holds Tryz.pinned (OpenSpec.upto cacheKeepsSpec)

end Rows
end Go.Proofs.YtediodfmkbfomaaGreat
