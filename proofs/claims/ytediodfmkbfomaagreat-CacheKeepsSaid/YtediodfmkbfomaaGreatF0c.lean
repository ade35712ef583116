/- What the rows of package cache share: what their arguments' readings give. -/
import Derived.Test.YtediodfmkbfomaaGreatGO
import Derived.Test.YtediodfmkbfomaaGreatRows
import Derived.WalkKit
import Derived.OpenShut
set_option linter.unusedVariables false
set_option linter.unusedSimpArgs false
set_option linter.constructorNameAsVariable false
namespace Go.Proofs.YtediodfmkbfomaaGreat
open Go Go.Sl Go.ChangeShapes Go.WideShapes Go.ChangeAt Go.RowKit
theorem own : ownKnob Tryz.prog.godebug = none := by kernel_rfl
theorem laidOut : laidOutB Tryz.prog = true := by kernel_rfl
theorem ver_of0 {H : Type} {enc : TypeId × Value → H} {W : World} {base : Nat} {spare : Nat → Bool} {held : Bool} {n : Nat} {cs : List Value} {y : DataW H × List MemPlace}
   (h : DataW.trod enc Tryz.prog W base spare held n 31 cs = some y) : ∃ a b : Int, cs = [iV a, iV b] :=
 open_ver Tryz.underlying31 (by kernel_rfl) (by kernel_rfl) Tryz.underlying2 Tryz.underlying2 h
theorem ent_of {H : Type} {enc : TypeId × Value → H} {W : World} {base : Nat} {spare : Nat → Bool} {held : Bool} {n : Nat} {cs : List Value} {y : DataW H × List MemPlace}
   (h : DataW.trod enc Tryz.prog W base spare held n 34 cs = some y) : ∃ x : EntM, cs = x.cells :=
 open_ent Tryz.underlying34 (by kernel_rfl) (by kernel_rfl) Tryz.underlying3 (fun _ _ _ h => ver_of0 h) Tryz.underlying9 Tryz.underlying4 Tryz.underlying3 Tryz.underlying2 h
set_option maxRecDepth 100000 in
theorem actc_of {H : Type} {enc : TypeId × Value → H} {W : World} {base : Nat} {spare : Nat → Bool} {held : Bool} {n : Nat} {cs : List Value} {y : DataW H × List MemPlace}
   (h : DataW.trod enc Tryz.prog W base spare held n 59 cs = some y) : ∃ a : ActC, cs = a.cells ∧ @ActC.ok (envAt W) [baseSeg W] a :=
 open_actc (ts := 0) Tryz.underlying59 (by kernel_rfl) (by kernel_rfl) Tryz.underlying3 Tryz.underlying3 (fun _ _ _ h => ent_of h) Tryz.underlying56 Tryz.underlying2 (by kernel_rfl) Tryz.underlying9
   Tryz.underlying57 Tryz.underlying71 (by kernel_rfl) (by kernel_rfl) Tryz.underlying3 Tryz.underlying3 h
theorem actcs_of {H : Type} {enc : TypeId × Value → H} {W : World} {base : Nat} {spare : Nat → Bool} {held : Bool} {v : Value} {d : DataW H} {p : List MemPlace} (hv : ∃ a len cap, v = .slice a len cap)
   (h : DataW.Trod enc Tryz.prog W base spare held 55 v d p) : ∃ acts : List ActC, @RdV (envAt W) [baseSeg W] v acts.length (actcsV acts) ∧ (∀ a ∈ acts, @ActC.ok (envAt W) [baseSeg W] a) ∧ acts.length ≤ maxLen := by
 obtain ⟨a, len, cap, rfl⟩ := hv
 obtain ⟨fuel, hf⟩ := h
 obtain ⟨v, l, h1, h2, h3, h4⟩ := open_sl (f := ActC.cells) (ok := @ActC.ok (envAt W) [baseSeg W]) Tryz.underlying55 (show Tryz.prog.cellsOf 59 = 12 by kernel_rfl) (by omega) (fun _ => rfl) (fun n cs' y hy => actc_of hy) hf
 simp [Value.cells] at h1
 subst h1
 exact ⟨l, h2, h3, h4⟩
end Go.Proofs.YtediodfmkbfomaaGreat
