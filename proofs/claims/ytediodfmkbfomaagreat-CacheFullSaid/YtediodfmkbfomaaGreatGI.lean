/- A part of the proof: contracts and plain lemmas, each without conditions beyond those that it names. -/
import Derived.Test.YtediodfmkbfomaaGreatGE
import Derived.Carry
import Derived.ProofKit
import Derived.Deep.Slices
import Derived.Deep.Fields
import Derived.Test.YtediodfmkbfomaaGreatGF
set_option linter.unusedVariables false
set_option linter.unusedSimpArgs false
set_option linter.constructorNameAsVariable false
/- From the readings of arguments to what lies below: one segment that holds all that was there. -/
namespace Go.Sl
open Go.ChangeShapes Go.WideShapes Go.ChangeAt Go.RowKit Go.Deep
set_option linter.unusedSimpArgs false
def baseSeg (W : World) : Seg := W.heap.toList.zipIdx.map fun x => (x.2, x.1)
abbrev envAt (W : World) : Env := ⟨W⟩
theorem baseSeg_mem {W : World} {x : Nat × Obj} : x ∈ baseSeg W ↔ W.heap[x.1]? = some x.2 := by
  unfold baseSeg
  simp only [List.mem_map]
  constructor
  · rintro ⟨y, hy, rfl⟩
    have := List.mk_mem_zipIdx_iff_getElem?.1 (show (y.1, y.2) ∈ _ from hy)
    simpa using this
  · intro h
    exact ⟨(x.2, x.1), List.mk_mem_zipIdx_iff_getElem?.2 (by simpa using h), rfl⟩
theorem has_base (W : World) : @Has (envAt W) W [baseSeg W] := by
  refine @Has.mk (envAt W) _ _ ⟨rfl, rfl, rfl⟩ (fun x hx => baseSeg_mem.1 (by simpa using hx)) ?_
  have : ([baseSeg W].flatten.map Prod.fst) = (W.heap.toList.zipIdx).map Prod.snd := by simp [baseSeg, List.map_map, Function.comp_def]
  rw [this, List.zipIdx_map_snd]
  exact List.nodup_range'
theorem below_base {W w : World} {L : List Seg} (h : @Has (envAt W) w (L ++ [baseSeg W])) : Below W.heap.size W w := by
  letI : Env := envAt W
  have hb : ∀ k, k < W.heap.size → w.heap[k]? = W.heap[k]? := fun k hk => by
    have h1 : W.heap[k]? = some W.heap[k] := Array.getElem?_eq_getElem hk
    have := h.mem (k, W.heap[k]) (List.mem_flatten.2 ⟨baseSeg W, by simp, baseSeg_mem.2 h1⟩)
    rw [h1]; exact this
  refine ⟨h.env.1, h.env.2.1, h.env.2.2, ?_, hb⟩
  rcases Nat.eq_zero_or_pos W.heap.size with h0 | h0
  · omega
  · have := hb (W.heap.size - 1) (by omega)
    rw [Array.getElem?_eq_getElem (show W.heap.size - 1 < W.heap.size by omega)] at this
    have := (Array.getElem?_eq_some_iff.1 this).1
    omega
section
variable {H : Type} {enc : TypeId × Value → H} {P : Program} {W : World} {base : Nat} {spare : Nat → Bool} {held : Bool}
/-- A law that answers true and leaves all that was there as it was. -/
theorem post_law {f : Func} {s : ChangeSpec} {apart fresh handsOn : Bool} {W W' : World} {args : Array Value} {L : List Seg} {ds gs : List (DataW H)} {before : List MemPlace} {tb : TypeId} (hlo : laidOutB P = true)
    (hW : DataW.Whole enc P f.params.toList s.vars apart W args.toList ds gs before) (hvs : s.vars = []) (hh : @Has (envAt W) W' (L ++ [baseSeg W])) (hrt : f.resultTypes = #[tb]) (htb : P.underlying tb = some .bool)
    (hpt : ∀ t ∈ f.params.toList, P.readableRec t = true ∧ t < P.types.size) (hfn : s.fn H (ds ++ gs) = { results := [.lit (.bool true)], args := ds }) :
    s.post enc P f apart fresh handsOn false W args (.bool true) W' := by
  have hb := below_base hh
  have hlt := fun p hp => hW.lt p hp
  have hW' := hW
  obtain ⟨p, q, hA, hV, rfl, hfz, hnd⟩ := hW
  have hp : ∀ x ∈ p, x.block < W.heap.size := fun x hx => by simpa using hlt x (by simp [hx])
  have carry : ∀ {ts : List TypeId} {vs : List Value} {ds : List (DataW H)} {ps : List MemPlace}, (∀ t ∈ ts, P.readableRec t = true ∧ t < P.types.size) → (∀ x ∈ ps, x.block < W.heap.size) →
      DataW.TrodAll enc P W 0 (fun _ => true) true ts vs ds ps → DataW.TrodAll enc P W' 0 (fun b => decide (b < W.heap.size)) true ts vs ds ps := by
    intro ts
    induction ts with
    | nil =>
      intro vs ds ps _ _ h
      obtain ⟨rfl, rfl, rfl⟩ := trodAll_nil h
      exact h
    | cons t ts ih =>
      intro vs ds ps ht hps h
      obtain ⟨v, vs1, d, ds1, a, b, rfl, rfl, rfl, h1, h2⟩ := trodAll_cons h
      exact ⟨a, b, Below.trod hlo (ht t (by simp)).1 (ht t (by simp)).2 h1 hb (fun x hx => hps x (by simp [hx])), ih (fun u hu => ht u (by simp [hu])) (fun x hx => hps x (by simp [hx])) h2, rfl⟩
  rw [hvs] at hV
  obtain ⟨rfl, rfl⟩ := trodVars_none hV
  refine ⟨ds, [], p ++ [], [], p, [], hW', ?_, ?_, ?_, ?_, fun h => (by cases h)⟩
  · rw [hfn, hrt]
    exact trodAll_mk1 (shut_bool htb _)
  · rw [hfn]
    exact carry hpt hp hA
  · rw [hvs, hfn]
    rfl
  · refine ⟨hb.os, hb.output, fun i hi => ?_⟩
    rw [hb.block i hi]
    split <;> simp_all
end
end Go.Sl
namespace Go.Sl
open Go.ChangeShapes Go.WideShapes Go.ChangeAt Go.RowKit Go.Deep
set_option linter.unusedSimpArgs false
section
variable {H : Type} {enc : TypeId × Value → H} {P : Program} {W : World} {base : Nat} {spare : Nat → Bool} {held : Bool}
end
end Go.Sl
