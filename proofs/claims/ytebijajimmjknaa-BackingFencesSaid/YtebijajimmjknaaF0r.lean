/- What the rows of packages witness and backing share: what their arguments' readings give. -/
import Derived.Test.YtebijajimmjknaaGH
import Derived.Test.YtebijajimmjknaaGE
import Derived.Test.YtebijajimmjknaaRows
import Derived.WalkKit
import Derived.OpenShut
set_option linter.unusedVariables false
set_option linter.unusedSimpArgs false
set_option linter.constructorNameAsVariable false
namespace Go.Proofs.Ytebijajimmjknaa
open Go Go.Sl Go.ChangeShapes Go.WideShapes Go.ChangeAt Go.RowKit
theorem own : ownKnob Try.prog.godebug = none := by kernel_rfl
theorem laidOut : laidOutB Try.prog = true := by kernel_rfl
theorem u8s_of {H : Type} {enc : TypeId × Value → H} {W : World} {base : Nat} {spare : Nat → Bool} {held : Bool} {v : Value} {d : DataW H} {p : List MemPlace} (hv : ∃ a len cap, v = .slice a len cap)
    (h : DataW.Trod enc Try.prog W base spare held 23 v d p) : ∃ bs : Bytes, @RdV (envAt W) [baseSeg W] v bs.length (bytesV bs) := by
  obtain ⟨a, len, cap, rfl⟩ := hv
  obtain ⟨fuel, hf⟩ := h
  obtain ⟨v, bs, h1, h2, _⟩ := open_bytes Try.underlying23 Try.underlying5 (by kernel_rfl) hf
  simp [Value.cells] at h1
  subst h1
  exact ⟨bs, @rdV_of_rdB (envAt W) _ _ _ _ h2 (has_base W)⟩
theorem bools_of {H : Type} {enc : TypeId × Value → H} {W : World} {base : Nat} {spare : Nat → Bool} {held : Bool} {v : Value} {d : DataW H} {p : List MemPlace} (hv : ∃ a len cap, v = .slice a len cap)
    (h : DataW.Trod enc Try.prog W base spare held 22 v d p) : ∃ ts : List Bool, @RdV (envAt W) [baseSeg W] v ts.length (boolsV ts) ∧ ts.length ≤ maxLen := by
  obtain ⟨a, len, cap, rfl⟩ := hv
  obtain ⟨fuel, hf⟩ := h
  obtain ⟨v, bs, h1, h2, h3⟩ := open_bools' Try.underlying22 Try.underlying4 (by kernel_rfl) hf
  simp [Value.cells] at h1
  subst h1
  exact ⟨bs, h2, h3⟩
set_option maxRecDepth 100000 in
theorem msg_of {H : Type} {enc : TypeId × Value → H} {W : World} {base : Nat} {spare : Nat → Bool} {held : Bool} {n : Nat} {cs : List Value} {y : DataW H × List MemPlace}
    (h : DataW.trod enc Try.prog W base spare held n 35 cs = some y) : ∃ m : MsgM, cs = m.cells :=
  open_msg Try.underlying35 (by kernel_rfl) (by kernel_rfl) Try.underlying3 Try.underlying2 Try.underlying2 Try.underlying2 Try.underlying3 Try.underlying3 Try.underlying32
    Try.underlying33 Try.underlying2 (by kernel_rfl) Try.underlying9 Try.underlying9 h
theorem msgs_of {H : Type} {enc : TypeId × Value → H} {W : World} {base : Nat} {spare : Nat → Bool} {held : Bool} {v : Value} {d : DataW H} {p : List MemPlace} (hv : ∃ a len cap, v = .slice a len cap)
    (h : DataW.Trod enc Try.prog W base spare held 41 v d p) : ∃ ms : List MsgM, @RdV (envAt W) [baseSeg W] v ms.length (msgsV ms) ∧ ms.length ≤ maxLen := by
  obtain ⟨a, len, cap, rfl⟩ := hv
  obtain ⟨fuel, hf⟩ := h
  obtain ⟨v, l, h1, h2, _, h4⟩ := open_sl (f := MsgM.cells) (ok := fun _ => True) Try.underlying41 (show Try.prog.cellsOf 35 = 13 by kernel_rfl) (by omega) (fun _ => rfl) (fun n cs' y hy => by
    obtain ⟨m, hm⟩ := msg_of hy
    exact ⟨m, hm, trivial⟩) hf
  simp [Value.cells] at h1
  subst h1
  exact ⟨l, h2, h4⟩
set_option maxRecDepth 100000 in
theorem actw_of {H : Type} {enc : TypeId × Value → H} {W : World} {base : Nat} {spare : Nat → Bool} {held : Bool} {n : Nat} {cs : List Value} {y : DataW H × List MemPlace}
    (h : DataW.trod enc Try.prog W base spare held n 64 cs = some y) : ∃ a : ActW, cs = a.cells ∧ @ActW.ok (envAt W) [baseSeg W] a :=
  open_actw Try.underlying64 (by kernel_rfl) (by kernel_rfl) Try.underlying3 Try.underlying3 Try.underlying3 (fun n cs y hy => msg_of hy) Try.underlying9
    Try.underlying62 Try.underlying76 (by kernel_rfl) (by kernel_rfl) Try.underlying3 Try.underlying3 h
theorem actws_of {H : Type} {enc : TypeId × Value → H} {W : World} {base : Nat} {spare : Nat → Bool} {held : Bool} {v : Value} {d : DataW H} {p : List MemPlace} (hv : ∃ a len cap, v = .slice a len cap)
    (h : DataW.Trod enc Try.prog W base spare held 60 v d p) : ∃ acts : List ActW, @RdV (envAt W) [baseSeg W] v acts.length (actwsV acts) ∧ (∀ a ∈ acts, @ActW.ok (envAt W) [baseSeg W] a) ∧ acts.length ≤ maxLen := by
  obtain ⟨a, len, cap, rfl⟩ := hv
  obtain ⟨fuel, hf⟩ := h
  obtain ⟨v, l, h1, h2, h3, h4⟩ := open_sl (f := ActW.cells) (ok := @ActW.ok (envAt W) [baseSeg W]) Try.underlying60 (show Try.prog.cellsOf 64 = 18 by kernel_rfl) (by omega) (fun _ => rfl) (fun n cs' y hy => actw_of hy) hf
  simp [Value.cells] at h1
  subst h1
  exact ⟨l, h2, h3, h4⟩
set_option maxRecDepth 100000 in
theorem actb_of {H : Type} {enc : TypeId × Value → H} {W : World} {base : Nat} {spare : Nat → Bool} {held : Bool} {n : Nat} {cs : List Value} {y : DataW H × List MemPlace}
    (h : DataW.trod enc Try.prog W base spare held n 73 cs = some y) : ∃ a : ActB, cs = a.cells ∧ @ActB.ok (envAt W) [baseSeg W] a :=
  open_actb Try.underlying73 (by kernel_rfl) (by kernel_rfl) Try.underlying3 Try.underlying3 (fun n cs y hy => msg_of hy) Try.underlying9
    Try.underlying62 Try.underlying76 (by kernel_rfl) (by kernel_rfl) Try.underlying3 Try.underlying3 h
theorem actbs_of {H : Type} {enc : TypeId × Value → H} {W : World} {base : Nat} {spare : Nat → Bool} {held : Bool} {v : Value} {d : DataW H} {p : List MemPlace} (hv : ∃ a len cap, v = .slice a len cap)
    (h : DataW.Trod enc Try.prog W base spare held 71 v d p) : ∃ acts : List ActB, @RdV (envAt W) [baseSeg W] v acts.length (actbsV acts) ∧ (∀ a ∈ acts, @ActB.ok (envAt W) [baseSeg W] a) ∧ acts.length ≤ maxLen := by
  obtain ⟨a, len, cap, rfl⟩ := hv
  obtain ⟨fuel, hf⟩ := h
  obtain ⟨v, l, h1, h2, h3, h4⟩ := open_sl (f := ActB.cells) (ok := @ActB.ok (envAt W) [baseSeg W]) Try.underlying71 (show Try.prog.cellsOf 73 = 17 by kernel_rfl) (by omega) (fun _ => rfl) (fun n cs' y hy => actb_of hy) hf
  simp [Value.cells] at h1
  subst h1
  exact ⟨l, h2, h3, h4⟩
end Go.Proofs.Ytebijajimmjknaa
