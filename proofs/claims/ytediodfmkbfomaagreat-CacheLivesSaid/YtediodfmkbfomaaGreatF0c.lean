/- What the rows of package cache share: what their arguments' readings give. -/
import Derived.Test.YtediodfmkbfomaaGreatGO
import Derived.Test.YtediodfmkbfomaaGreatRows
import Derived.WalkKit
import Derived.OpenShut
set_option linter.unusedVariables false
set_option linter.unusedSimpArgs false
set_option linter.constructorNameAsVariable false
namespace Go.Proofs.YtediodfmkbfomaaGreat
open Go Go.Sl Go.ChangeShapes Go.WideShapes Go.ChangeAt Go.RowKit
theorem own : ownKnob Tryz.prog.godebug = none := by kernel_rfl
theorem laidOut : laidOutB Tryz.prog = true := by kernel_rfl
theorem u8s_of {H : Type} {enc : TypeId × Value → H} {W : World} {base : Nat} {spare : Nat → Bool} {held : Bool} {v : Value} {d : DataW H} {p : List MemPlace} (hv : ∃ a len cap, v = .slice a len cap)
    (h : DataW.Trod enc Tryz.prog W base spare held 22 v d p) : ∃ bs : Bytes, @RdV (envAt W) [baseSeg W] v bs.length (bytesV bs) := by
  obtain ⟨a, len, cap, rfl⟩ := hv
  obtain ⟨fuel, hf⟩ := h
  obtain ⟨v, bs, h1, h2, _⟩ := open_bytes Tryz.underlying22 Tryz.underlying5 (by kernel_rfl) hf
  simp [Value.cells] at h1
  subst h1
  exact ⟨bs, @rdV_of_rdB (envAt W) _ _ _ _ h2 (has_base W)⟩
theorem bools_of {H : Type} {enc : TypeId × Value → H} {W : World} {base : Nat} {spare : Nat → Bool} {held : Bool} {v : Value} {d : DataW H} {p : List MemPlace} (hv : ∃ a len cap, v = .slice a len cap)
    (h : DataW.Trod enc Tryz.prog W base spare held 23 v d p) : ∃ ts : List Bool, @RdV (envAt W) [baseSeg W] v ts.length (boolsV ts) ∧ ts.length ≤ maxLen := by
  obtain ⟨a, len, cap, rfl⟩ := hv
  obtain ⟨fuel, hf⟩ := h
  obtain ⟨v, bs, h1, h2, h3⟩ := open_bools' Tryz.underlying23 Tryz.underlying4 (by kernel_rfl) hf
  simp [Value.cells] at h1
  subst h1
  exact ⟨bs, h2, h3⟩
end Go.Proofs.YtediodfmkbfomaaGreat
