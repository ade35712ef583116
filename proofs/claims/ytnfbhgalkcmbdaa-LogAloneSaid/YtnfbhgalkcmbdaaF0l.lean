/- What the rows of packages drl and log share: what their arguments' readings give. -/
import Derived.Test.YtnfbhgalkcmbdaaGL
import Derived.Test.YtnfbhgalkcmbdaaGI
import Derived.Test.YtnfbhgalkcmbdaaRows
import Derived.WalkKit
import Derived.OpenShut
set_option linter.unusedVariables false
set_option linter.unusedSimpArgs false
set_option linter.constructorNameAsVariable false
namespace Go.Proofs.Ytnfbhgalkcmbdaa
open Go Go.Sl Go.ChangeShapes Go.WideShapes Go.ChangeAt Go.RowKit
theorem own : ownKnob Try.prog.godebug = none := by kernel_rfl
theorem laidOut : laidOutB Try.prog = true := by kernel_rfl
theorem u8s_of {H : Type} {enc : TypeId × Value → H} {W : World} {base : Nat} {spare : Nat → Bool} {held : Bool} {v : Value} {d : DataW H} {p : List MemPlace} (hv : ∃ a len cap, v = .slice a len cap)
    (h : DataW.Trod enc Try.prog W base spare held 22 v d p) : ∃ bs : Bytes, @RdV (envAt W) [baseSeg W] v bs.length (bytesV bs) := by
  obtain ⟨a, len, cap, rfl⟩ := hv
  obtain ⟨fuel, hf⟩ := h
  obtain ⟨v, bs, h1, h2, _⟩ := open_bytes Try.underlying22 Try.underlying5 (by kernel_rfl) hf
  simp [Value.cells] at h1
  subst h1
  exact ⟨bs, @rdV_of_rdB (envAt W) _ _ _ _ h2 (has_base W)⟩
theorem strs_of {H : Type} {enc : TypeId × Value → H} {W : World} {base : Nat} {spare : Nat → Bool} {held : Bool} {v : Value} {d : DataW H} {p : List MemPlace} (hv : ∃ a len cap, v = .slice a len cap)
    (h : DataW.Trod enc Try.prog W base spare held 45 v d p) : ∃ ts : List Bytes, @RdV (envAt W) [baseSeg W] v ts.length (strsV ts) ∧ ts.length ≤ maxLen := by
  obtain ⟨a, len, cap, rfl⟩ := hv
  obtain ⟨fuel, hf⟩ := h
  obtain ⟨v, bs, h1, h2, h3⟩ := open_strs Try.underlying45 Try.underlying9 (by kernel_rfl) hf
  simp [Value.cells] at h1
  subst h1
  exact ⟨bs, h2, h3⟩
set_option maxRecDepth 100000 in
theorem actl_of {H : Type} {enc : TypeId × Value → H} {W : World} {base : Nat} {spare : Nat → Bool} {held : Bool} {n : Nat} {cs : List Value} {y : DataW H × List MemPlace}
    (h : DataW.trod enc Try.prog W base spare held n 58 cs = some y) : ∃ a : ActL, cs = a.cells ∧ @ActL.ok (envAt W) [baseSeg W] a :=
  open_actl Try.underlying58 (by kernel_rfl) (by kernel_rfl) Try.underlying3 Try.underlying3 Try.underlying9
    Try.underlying56 Try.underlying105 (by kernel_rfl) (by kernel_rfl) Try.underlying3 Try.underlying3 h
theorem actls_of {H : Type} {enc : TypeId × Value → H} {W : World} {base : Nat} {spare : Nat → Bool} {held : Bool} {v : Value} {d : DataW H} {p : List MemPlace} (hv : ∃ a len cap, v = .slice a len cap)
    (h : DataW.Trod enc Try.prog W base spare held 55 v d p) : ∃ acts : List ActL, @RdV (envAt W) [baseSeg W] v acts.length (actlsV acts) ∧ (∀ a ∈ acts, @ActL.ok (envAt W) [baseSeg W] a) ∧ acts.length ≤ maxLen := by
  obtain ⟨a, len, cap, rfl⟩ := hv
  obtain ⟨fuel, hf⟩ := h
  obtain ⟨v, l, h1, h2, h3, h4⟩ := open_sl (f := ActL.cells) (ok := @ActL.ok (envAt W) [baseSeg W]) Try.underlying55 (show Try.prog.cellsOf 58 = 4 by kernel_rfl) (by omega) (fun _ => rfl) (fun n cs' y hy => actl_of hy) hf
  simp [Value.cells] at h1
  subst h1
  exact ⟨l, h2, h3, h4⟩
end Go.Proofs.Ytnfbhgalkcmbdaa
