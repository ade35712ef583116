/- What the rows of DrlDoes needs: what their arguments' readings give. -/
import Derived.Test.YtnfbhgalkcmbdaaGreatGL
import Derived.Test.YtnfbhgalkcmbdaaGreatGI
import Derived.Test.YtnfbhgalkcmbdaaGreatRows
import Derived.WalkKit
import Derived.OpenShut
set_option linter.unusedVariables false
set_option linter.unusedSimpArgs false
set_option linter.constructorNameAsVariable false
namespace Go.Proofs.YtnfbhgalkcmbdaaGreat
open Go Go.Sl Go.ChangeShapes Go.WideShapes Go.ChangeAt Go.RowKit
theorem own : ownKnob Tryz.prog.godebug = none := by kernel_rfl
theorem laidOut : laidOutB Tryz.prog = true := by kernel_rfl
set_option maxRecDepth 100000 in
theorem actl_of {H : Type} {enc : TypeId × Value → H} {W : World} {base : Nat} {spare : Nat → Bool} {held : Bool} {n : Nat} {cs : List Value} {y : DataW H × List MemPlace}
    (h : DataW.trod enc Tryz.prog W base spare held n 37 cs = some y) : ∃ a : ActL, cs = a.cells ∧ @ActL.ok (envAt W) [baseSeg W] a :=
  open_actl Tryz.underlying37 (by kernel_rfl) (by kernel_rfl) Tryz.underlying3 Tryz.underlying3 Tryz.underlying9
    Tryz.underlying35 Tryz.underlying96 (by kernel_rfl) (by kernel_rfl) Tryz.underlying3 Tryz.underlying3 h
theorem actds_of {H : Type} {enc : TypeId × Value → H} {W : World} {base : Nat} {spare : Nat → Bool} {held : Bool} {v : Value} {d : DataW H} {p : List MemPlace} (hv : ∃ a len cap, v = .slice a len cap)
    (h : DataW.Trod enc Tryz.prog W base spare held 22 v d p) : ∃ acts : List ActL, @RdV (envAt W) [baseSeg W] v acts.length (actlsV acts) ∧ (∀ a ∈ acts, @ActL.ok (envAt W) [baseSeg W] a) ∧ acts.length ≤ maxLen := by
  obtain ⟨a, len, cap, rfl⟩ := hv
  obtain ⟨fuel, hf⟩ := h
  obtain ⟨v, l, h1, h2, h3, h4⟩ := open_sl (f := ActL.cells) (ok := @ActL.ok (envAt W) [baseSeg W]) Tryz.underlying22 (show Tryz.prog.cellsOf 37 = 4 by kernel_rfl) (by omega) (fun _ => rfl) (fun n cs' y hy => actl_of hy) hf
  simp [Value.cells] at h1
  subst h1
  exact ⟨l, h2, h3, h4⟩
end Go.Proofs.YtnfbhgalkcmbdaaGreat
