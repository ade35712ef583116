/- What the rows of package cell share: what their arguments' readings give. -/
import Derived.Test.YtnedokioglfipaaF0
import Derived.Test.YtnedokioglfipaaSlU
set_option linter.unusedVariables false
set_option linter.unusedSimpArgs false
set_option linter.constructorNameAsVariable false
namespace Go.Proofs.Ytnedokioglfipaa
open Go Go.Sl Go.ChangeShapes Go.WideShapes Go.ChangeAt Go.RowKit
theorem strs_of {H : Type} {enc : TypeId × Value → H} {W : World} {base : Nat} {spare : Nat → Bool} {held : Bool} {v : Value} {d : DataW H} {p : List MemPlace} (hv : ∃ a len cap, v = .slice a len cap)
    (h : DataW.Trod enc Try.prog W base spare held 57 v d p) : ∃ ts : List Bytes, @RdV (envAt W) [baseSeg W] v ts.length (strsV ts) ∧ ts.length ≤ maxLen := by
  obtain ⟨a, len, cap, rfl⟩ := hv
  obtain ⟨fuel, hf⟩ := h
  obtain ⟨v, bs, h1, h2, h3⟩ := open_strs Try.underlying57 Try.underlying9 (by kernel_rfl) hf
  simp [Value.cells] at h1
  subst h1
  exact ⟨bs, h2, h3⟩
theorem bools_of {H : Type} {enc : TypeId × Value → H} {W : World} {base : Nat} {spare : Nat → Bool} {held : Bool} {v : Value} {d : DataW H} {p : List MemPlace} (hv : ∃ a len cap, v = .slice a len cap)
    (h : DataW.Trod enc Try.prog W base spare held 67 v d p) : ∃ ts : List Bool, @RdV (envAt W) [baseSeg W] v ts.length (boolsV ts) ∧ ts.length ≤ maxLen := by
  obtain ⟨a, len, cap, rfl⟩ := hv
  obtain ⟨fuel, hf⟩ := h
  obtain ⟨v, bs, h1, h2, h3⟩ := open_bools' Try.underlying67 Try.underlying4 (by kernel_rfl) hf
  simp [Value.cells] at h1
  subst h1
  exact ⟨bs, h2, h3⟩
end Go.Proofs.Ytnedokioglfipaa
