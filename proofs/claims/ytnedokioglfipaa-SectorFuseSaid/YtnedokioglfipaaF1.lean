/- Whatever fuse and acts it is given, the law SectorFuse of package seisinlaw04 ends, returns true, and leaves its arguments as they were; there are no conditions. -/
import Derived.Test.YtnedokioglfipaaS6
import Derived.Test.YtnedokioglfipaaSlT
import Derived.Test.YtnedokioglfipaaRows
import Derived.WalkKit
import Derived.OpenShut
set_option linter.unusedVariables false
set_option linter.unusedSimpArgs false
set_option linter.constructorNameAsVariable false
namespace Go.Proofs.Ytnedokioglfipaa
open Go Go.Sl Go.ChangeShapes Go.WideShapes Go.ChangeAt Go.RowKit
theorem own : ownKnob Try.prog.godebug = none := by kernel_rfl
theorem laidOut : laidOutB Try.prog = true := by kernel_rfl
set_option maxRecDepth 100000 in
theorem act_of {H : Type} {enc : TypeId × Value → H} {W : World} {base : Nat} {spare : Nat → Bool} {held : Bool} {n : Nat} {cs : List Value} {y : DataW H × List MemPlace}
    (h : DataW.trod enc Try.prog W base spare held n 30 cs = some y) : ∃ a : ActM, cs = a.cells ∧ @ActM.ok (envAt W) [baseSeg W] a :=
  open_act Try.underlying30 (by kernel_rfl) (by kernel_rfl) Try.underlying3 Try.underlying3 Try.underlying27 Try.underlying5 (by kernel_rfl)
    Try.underlying28 Try.underlying76 (by kernel_rfl) (by kernel_rfl) Try.underlying3 Try.underlying3 h
theorem acts_of {H : Type} {enc : TypeId × Value → H} {W : World} {base : Nat} {spare : Nat → Bool} {held : Bool} {v : Value} {d : DataW H} {p : List MemPlace} (hv : ∃ a len cap, v = .slice a len cap)
    (h : DataW.Trod enc Try.prog W base spare held 22 v d p) : ∃ acts : List ActM, @RdV (envAt W) [baseSeg W] v acts.length (actsV acts) ∧ (∀ a ∈ acts, @ActM.ok (envAt W) [baseSeg W] a) ∧ acts.length ≤ maxLen := by
  obtain ⟨a, len, cap, rfl⟩ := hv
  obtain ⟨fuel, hf⟩ := h
  obtain ⟨v, l, h1, h2, h3, h4⟩ := open_sl (f := ActM.cells) (ok := @ActM.ok (envAt W) [baseSeg W]) Try.underlying22 (show Try.prog.cellsOf 30 = 4 by kernel_rfl) (by omega) (fun _ => rfl) (fun n cs' y hy => act_of hy) hf
  simp [Value.cells] at h1
  subst h1
  exact ⟨l, h2, h3, h4⟩

namespace fuse
set_option maxRecDepth 100000 in
theorem contract (H : Type) (enc : TypeId × Value → H) (W : World) (base : Nat) (args : Array Value) (ds gs : List (DataW H)) (before : List MemPlace)
    (hval : ∀ (j : Nat) t v, Try.f3.params[j]? = some t → args[j]? = some v → Value.okWide Try.prog W .any base t v)
    (hW : DataW.Whole enc Try.prog Try.f3.params.toList Rows.sectorFuseSpec.vars false W args.toList ds gs before) :
    Calls Try.prog 3 args W fun e W' => ∃ v, e = .returned v ∧ Rows.sectorFuseSpec.post enc Try.prog Try.f3 false true false false W args v W' := by
  have hW' := hW
  obtain ⟨p, q, hA0, hV, rfl, hfz, hnd⟩ := hW
  have hA : DataW.TrodAll enc Try.prog W 0 (fun _ => true) true Try.f3.params.toList args.toList ds p := hA0
  rw [Try.params3] at hA hval
  obtain ⟨v0, v1, d0, d1, p0, p1, rfl, rfl, rfl, h0, h1⟩ := trodAll_two hA
  obtain ⟨rfl, rfl⟩ := trodVars_none hV
  obtain ⟨fu, rfl, -, -, wf⟩ := open_int Try.underlying5 (hval 0 _ v0 rfl rfl) h0
  simp [Lit.wf, IntKind.min, IntKind.max, IntKind.signed, IntKind.bits] at wf
  obtain ⟨acts, hr, hok, -⟩ := acts_of (okWide_slice Try.underlying22 (hval 1 _ v1 rfl rfl)) h1
  letI : Env := envAt W
  refine (Go.Proofs.W.lawFuse hr hok (by omega) (by omega) W (has_base W)).mono ?_
  rintro e W' ⟨v, L', rfl, ⟨rfl, rfl⟩, hh⟩
  exact ⟨_, rfl, post_law laidOut hW' rfl hh (by kernel_rfl) Try.underlying4 (of_decide_eq_true (by kernel_rfl)) rfl⟩

set_option maxRecDepth 100000 in
theorem lifted (os : Os) (started : os.Started) (H : Type) (enc : TypeId × Value → H) :
    ReturnsInHanded {} Try.checked os 3 .any (Rows.sectorFuseSpec.pre6 enc Try.prog Try.f3 Rows.sectorFuseRow.domain false) (Rows.sectorFuseSpec.post enc Try.prog Try.f3 false true false false) := by
  refine returnsInHanded_of_change (C := Try.checked) own started (by kernel_rfl) Try.func3
    (ChangeSpec.witness6 (enc := enc) (C := Try.checked) false ⟨#[], #[.int .u8 0, .slice none 0 0], []⟩ 8 (by kernel_rfl) (by kernel_rfl) (by kernel_rfl) (by kernel_rfl)) ?_
  intro W base args ds gs before hval hW _ _
  exact contract H enc W base args ds gs before hval hW

theorem proved : Rows.SectorFuseSaid :=
  OpenClaim.holds_of_wide 3 Try.f3 rfl rfl rfl rfl rfl rfl rfl ⟨rfl, rfl, rfl, rfl, rfl⟩ rfl rfl rfl rfl rfl (by kernel_rfl) Try.func3 (by kernel_rfl)
    (of_decide_eq_true (by kernel_rfl)) (by unfold Func.isWrapper; first | (rw [if_pos (by decide +kernel)]; kernel_rfl) | (rw [if_neg (by decide +kernel)]; exact ⟨rfl, rfl⟩))
    (fun os started H enc _ => lifted os started H enc)
#print axioms proved
end fuse
end Go.Proofs.Ytnedokioglfipaa
