/- A part of the proof: contracts and plain lemmas, each without conditions beyond those that it names. -/
import Derived.Test.YtnedokioglfipaaSlT
import Derived.Test.YtnedokioglfipaaGF
set_option linter.unusedVariables false
set_option linter.unusedSimpArgs false
set_option linter.constructorNameAsVariable false
namespace Go.Sl
open Go.ChangeShapes Go.WideShapes Go.ChangeAt Go.RowKit Go.Deep
set_option linter.unusedSimpArgs false
def boolsV (l : List Bool) : List Value := l.map Value.bool
theorem boolsV_len (l : List Bool) : (boolsV l).length = l.length := by simp [boolsV]
theorem boolsV_get {l : List Bool} {k : Nat} {b : Bool} (h : l[k]? = some b) : (boolsV l)[k]? = some (.bool b) := by simp [boolsV, h]
section
variable {H : Type} {enc : TypeId × Value → H} {P : Program} {W : World} {base : Nat} {spare : Nat → Bool} {held : Bool}
theorem flat1 {α : Type} (f : α → Value) : ∀ (l : List α), (l.map fun b => [f b]).flatten = l.map f
  | [] => rfl
  | b :: l => by simp only [List.map_cons, List.flatten_cons, flat1 f l]; rfl
theorem str_eta (s : ByteArray) : s = ⟨s.data.toList.toArray⟩ := by cases s; simp
theorem open_strs {t e fuel : Nat} {cs : List Value} {x : DataW H × List MemPlace} (ht : P.underlying t = some (.slice e)) (he : P.underlying e = some .string) (hC : P.cellsOf e = 1) (h : DataW.trod enc P W base spare held fuel t cs = some x) :
    ∃ v ts, cs = [v] ∧ @RdV (envAt W) [baseSeg W] v ts.length (strsV ts) ∧ ts.length ≤ maxLen := by
  obtain ⟨v, l, h1, h2, _, h3⟩ := open_sl (f := fun b : Bytes => [Value.string ⟨b.toArray⟩]) (ok := fun _ => True) ht hC (by omega) (fun _ => rfl) (fun n cs' y hy => by
    obtain ⟨s, hs, _⟩ := DataW.trod_string he hy
    exact ⟨s.data.toList, by rw [hs, ← str_eta], trivial⟩) h
  refine ⟨v, l, h1, ?_, h3⟩
  rw [flat1] at h2
  exact h2
theorem open_bools' {t e fuel : Nat} {cs : List Value} {x : DataW H × List MemPlace} (ht : P.underlying t = some (.slice e)) (he : P.underlying e = some .bool) (hC : P.cellsOf e = 1) (h : DataW.trod enc P W base spare held fuel t cs = some x) :
    ∃ v ts, cs = [v] ∧ @RdV (envAt W) [baseSeg W] v ts.length (boolsV ts) ∧ ts.length ≤ maxLen := by
  obtain ⟨v, l, h1, h2, _, h3⟩ := open_sl (f := fun b : Bool => [Value.bool b]) (ok := fun _ => True) ht hC (by omega) (fun _ => rfl) (fun n cs' y hy => by
    obtain ⟨s, hs, _⟩ := DataW.trod_bool he hy
    exact ⟨s, hs, trivial⟩) h
  refine ⟨v, l, h1, ?_, h3⟩
  rw [flat1] at h2
  exact h2
end
end Go.Sl
