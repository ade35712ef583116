/- What the rows of packages witness and backing share: what their arguments' readings give. -/
import Derived.Test.YtebijajimmjknaaGreatGH
import Derived.Test.YtebijajimmjknaaGreatGE
import Derived.Test.YtebijajimmjknaaGreatRows
import Derived.WalkKit
import Derived.OpenShut
set_option linter.unusedVariables false
set_option linter.unusedSimpArgs false
set_option linter.constructorNameAsVariable false
namespace Go.Proofs.YtebijajimmjknaaGreat
open Go Go.Sl Go.ChangeShapes Go.WideShapes Go.ChangeAt Go.RowKit
theorem own : ownKnob Tryz.prog.godebug = none := by kernel_rfl
theorem laidOut : laidOutB Tryz.prog = true := by kernel_rfl
theorem msg_of {H : Type} {enc : TypeId × Value → H} {W : World} {base : Nat} {spare : Nat → Bool} {held : Bool} {n : Nat} {cs : List Value} {y : DataW H × List MemPlace}
   (h : DataW.trod enc Tryz.prog W base spare held n 37 cs = some y) : ∃ m : MsgM, cs = m.cells :=
 open_msg Tryz.underlying37 (by kernel_rfl) (by kernel_rfl) Tryz.underlying3 Tryz.underlying2 Tryz.underlying2 Tryz.underlying2 Tryz.underlying3 Tryz.underlying3 Tryz.underlying29
   Tryz.underlying35 Tryz.underlying2 (by kernel_rfl) Tryz.underlying9 Tryz.underlying9 h
set_option maxRecDepth 100000 in
theorem actb_of {H : Type} {enc : TypeId × Value → H} {W : World} {base : Nat} {spare : Nat → Bool} {held : Bool} {n : Nat} {cs : List Value} {y : DataW H × List MemPlace}
   (h : DataW.trod enc Tryz.prog W base spare held n 68 cs = some y) : ∃ a : ActB, cs = a.cells ∧ @ActB.ok (envAt W) [baseSeg W] a :=
 open_actb Tryz.underlying68 (by kernel_rfl) (by kernel_rfl) Tryz.underlying3 Tryz.underlying3 (fun n cs y hy => msg_of hy) Tryz.underlying9
   Tryz.underlying38 Tryz.underlying116 (by kernel_rfl) (by kernel_rfl) Tryz.underlying3 Tryz.underlying3 h
theorem actbs_of {H : Type} {enc : TypeId × Value → H} {W : World} {base : Nat} {spare : Nat → Bool} {held : Bool} {v : Value} {d : DataW H} {p : List MemPlace} (hv : ∃ a len cap, v = .slice a len cap)
   (h : DataW.Trod enc Tryz.prog W base spare held 60 v d p) : ∃ acts : List ActB, @RdV (envAt W) [baseSeg W] v acts.length (actbsV acts) ∧ (∀ a ∈ acts, @ActB.ok (envAt W) [baseSeg W] a) ∧ acts.length ≤ maxLen := by
 obtain ⟨a, len, cap, rfl⟩ := hv
 obtain ⟨fuel, hf⟩ := h
 obtain ⟨v, l, h1, h2, h3, h4⟩ := open_sl (f := ActB.cells) (ok := @ActB.ok (envAt W) [baseSeg W]) Tryz.underlying60 (show Tryz.prog.cellsOf 68 = 17 by kernel_rfl) (by omega) (fun _ => rfl) (fun n cs' y hy => actb_of hy) hf
 simp [Value.cells] at h1
 subst h1
 exact ⟨l, h2, h3, h4⟩
end Go.Proofs.YtebijajimmjknaaGreat
