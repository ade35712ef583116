/- What every row of this seat shares: what its arguments' readings give. -/
import Derived.Test.YtnedokioglfipaaSlT
import Derived.Test.YtnedokioglfipaaRows
import Derived.WalkKit
import Derived.OpenShut
set_option linter.unusedVariables false
set_option linter.unusedSimpArgs false
set_option linter.constructorNameAsVariable false
namespace Go.Proofs.Ytnedokioglfipaa
open Go Go.Sl Go.ChangeShapes Go.WideShapes Go.ChangeAt Go.RowKit
theorem own : ownKnob Try.prog.godebug = none := by kernel_rfl
theorem laidOut : laidOutB Try.prog = true := by kernel_rfl
set_option maxRecDepth 100000 in
theorem act_of {H : Type} {enc : TypeId × Value → H} {W : World} {base : Nat} {spare : Nat → Bool} {held : Bool} {n : Nat} {cs : List Value} {y : DataW H × List MemPlace}
    (h : DataW.trod enc Try.prog W base spare held n 30 cs = some y) : ∃ a : ActM, cs = a.cells ∧ @ActM.ok (envAt W) [baseSeg W] a :=
  open_act Try.underlying30 (by kernel_rfl) (by kernel_rfl) Try.underlying3 Try.underlying3 Try.underlying27 Try.underlying5 (by kernel_rfl)
    Try.underlying28 Try.underlying76 (by kernel_rfl) (by kernel_rfl) Try.underlying3 Try.underlying3 h
theorem acts_of {H : Type} {enc : TypeId × Value → H} {W : World} {base : Nat} {spare : Nat → Bool} {held : Bool} {v : Value} {d : DataW H} {p : List MemPlace} (hv : ∃ a len cap, v = .slice a len cap)
    (h : DataW.Trod enc Try.prog W base spare held 22 v d p) : ∃ acts : List ActM, @RdV (envAt W) [baseSeg W] v acts.length (actsV acts) ∧ (∀ a ∈ acts, @ActM.ok (envAt W) [baseSeg W] a) ∧ acts.length ≤ maxLen := by
  obtain ⟨a, len, cap, rfl⟩ := hv
  obtain ⟨fuel, hf⟩ := h
  obtain ⟨v, l, h1, h2, h3, h4⟩ := open_sl (f := ActM.cells) (ok := @ActM.ok (envAt W) [baseSeg W]) Try.underlying22 (show Try.prog.cellsOf 30 = 4 by kernel_rfl) (by omega) (fun _ => rfl) (fun n cs' y hy => act_of hy) hf
  simp [Value.cells] at h1
  subst h1
  exact ⟨l, h2, h3, h4⟩

theorem bytes_of {H : Type} {enc : TypeId × Value → H} {W : World} {base : Nat} {spare : Nat → Bool} {held : Bool} {v : Value} {d : DataW H} {p : List MemPlace} (hv : ∃ a len cap, v = .slice a len cap)
    (h : DataW.Trod enc Try.prog W base spare held 27 v d p) : ∃ bs : Bytes, @RdB (envAt W) [baseSeg W] v bs := by
  obtain ⟨a, len, cap, rfl⟩ := hv
  obtain ⟨fuel, hf⟩ := h
  obtain ⟨v, bs, h1, h2, _⟩ := open_bytes Try.underlying27 Try.underlying5 (by kernel_rfl) hf
  simp [Value.cells] at h1
  subst h1
  exact ⟨bs, h2⟩
theorem keeps_of {H : Type} {enc : TypeId × Value → H} {W : World} {base : Nat} {spare : Nat → Bool} {held : Bool} {v : Value} {d : DataW H} {p : List MemPlace} (hv : ∃ a len cap, v = .slice a len cap)
    (h : DataW.Trod enc Try.prog W base spare held 28 v d p) : ∃ ks : Keeps, @RdV (envAt W) [baseSeg W] v ks.length (keepsV ks) := by
  obtain ⟨a, len, cap, rfl⟩ := hv
  obtain ⟨fuel, hf⟩ := h
  obtain ⟨v, ks, h1, h2, _⟩ := open_keeps Try.underlying28 Try.underlying76 (by kernel_rfl) (by kernel_rfl) Try.underlying3 Try.underlying3 hf
  simp [Value.cells] at h1
  subst h1
  exact ⟨ks, h2⟩
end Go.Proofs.Ytnedokioglfipaa
