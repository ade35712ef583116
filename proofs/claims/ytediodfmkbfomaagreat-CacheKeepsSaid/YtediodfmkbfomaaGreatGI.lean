/- A part of the proof: contracts and plain lemmas, each without conditions beyond those that it names. -/
import Derived.Test.YtediodfmkbfomaaGreatGE
import Derived.Carry
import Derived.ProofKit
import Derived.Deep.Slices
import Derived.Deep.Fields
import Derived.Test.YtediodfmkbfomaaGreatGF
set_option linter.unusedVariables false
set_option linter.unusedSimpArgs false
set_option linter.constructorNameAsVariable false
/- From the readings of arguments to what lies below: one segment that holds all that was there. -/
namespace Go.Sl
open Go.ChangeShapes Go.WideShapes Go.ChangeAt Go.RowKit Go.Deep
set_option linter.unusedSimpArgs false
def baseSeg (W : World) : Seg := W.heap.toList.zipIdx.map fun x => (x.2, x.1)
abbrev envAt (W : World) : Env := ⟨W⟩
theorem baseSeg_mem {W : World} {x : Nat × Obj} : x ∈ baseSeg W ↔ W.heap[x.1]? = some x.2 := by
  unfold baseSeg
  simp only [List.mem_map]
  constructor
  · rintro ⟨y, hy, rfl⟩
    have := List.mk_mem_zipIdx_iff_getElem?.1 (show (y.1, y.2) ∈ _ from hy)
    simpa using this
  · intro h
    exact ⟨(x.2, x.1), List.mk_mem_zipIdx_iff_getElem?.2 (by simpa using h), rfl⟩
theorem has_base (W : World) : @Has (envAt W) W [baseSeg W] := by
  refine @Has.mk (envAt W) _ _ ⟨rfl, rfl, rfl⟩ (fun x hx => baseSeg_mem.1 (by simpa using hx)) ?_
  have : ([baseSeg W].flatten.map Prod.fst) = (W.heap.toList.zipIdx).map Prod.snd := by simp [baseSeg, List.map_map, Function.comp_def]
  rw [this, List.zipIdx_map_snd]
  exact List.nodup_range'
theorem below_base {W w : World} {L : List Seg} (h : @Has (envAt W) w (L ++ [baseSeg W])) : Below W.heap.size W w := by
  letI : Env := envAt W
  have hb : ∀ k, k < W.heap.size → w.heap[k]? = W.heap[k]? := fun k hk => by
    have h1 : W.heap[k]? = some W.heap[k] := Array.getElem?_eq_getElem hk
    have := h.mem (k, W.heap[k]) (List.mem_flatten.2 ⟨baseSeg W, by simp, baseSeg_mem.2 h1⟩)
    rw [h1]; exact this
  refine ⟨h.env.1, h.env.2.1, h.env.2.2, ?_, hb⟩
  rcases Nat.eq_zero_or_pos W.heap.size with h0 | h0
  · omega
  · have := hb (W.heap.size - 1) (by omega)
    rw [Array.getElem?_eq_getElem (show W.heap.size - 1 < W.heap.size by omega)] at this
    have := (Array.getElem?_eq_some_iff.1 this).1
    omega
theorem cell_base {W w : World} {a : Addr} {v : Value} (h : @Has (envAt W) w [baseSeg W]) (hc : W.cell? a = some v) : w.cell? a = some v := by
  have hb := below_base (L := []) h
  have hl : a.block < W.heap.size := by
    unfold World.cell? at hc
    cases hh : W.heap[a.block]? with
    | none => rw [hh] at hc; cases hc
    | some o => exact (Array.getElem?_eq_some_iff.1 hh).1
  unfold World.cell? at hc ⊢
  rw [hb.block _ hl]
  exact hc
theorem flatten_get {α : Type} {f : α → List Value} {k : Nat} (hk : 0 < k) (hf : ∀ x, (f x).length = k) : ∀ (l : List α) (i r : Nat), r < k → ((l.map f).flatten)[i * k + r]? = (l[i]?).bind fun x => (f x)[r]?
  | [], i, r, _ => by simp
  | x :: l, 0, r, hr => by
    simp only [List.map_cons, List.flatten_cons, Nat.zero_mul, Nat.zero_add, List.getElem?_cons_zero, Option.bind_some]
    rw [List.getElem?_append_left (by rw [hf]; exact hr)]
  | x :: l, i + 1, r, hr => by
    have ih := flatten_get hk hf l i r hr
    simp only [List.map_cons, List.flatten_cons, List.getElem?_cons_succ]
    rw [List.getElem?_append_right (by rw [hf, Nat.succ_mul]; omega), hf, show (i + 1) * k + r - k = i * k + r by rw [Nat.succ_mul]; omega]
    exact ih
theorem flatten_len {α : Type} {f : α → List Value} {k : Nat} (hf : ∀ x, (f x).length = k) : ∀ (l : List α), ((l.map f).flatten).length = l.length * k
  | [] => by simp
  | x :: l => by simp only [List.map_cons, List.flatten_cons, List.length_append, hf, flatten_len hf l, List.length_cons, Nat.succ_mul]; omega
theorem list_of {α : Type} {p : Nat → α → Prop} : ∀ (n : Nat), (∀ i, i < n → ∃ a, p i a) → ∃ l : List α, l.length = n ∧ ∀ i a, l[i]? = some a → p i a
  | 0, _ => ⟨[], rfl, fun i a h => by simp at h⟩
  | n + 1, h => by
    obtain ⟨l, hl, hp⟩ := list_of n (fun i hi => h i (by omega))
    obtain ⟨a, ha⟩ := h n (by omega)
    refine ⟨l ++ [a], by simp [hl], fun i b hb => ?_⟩
    rcases Nat.lt_or_ge i l.length with h1 | h1
    · rw [List.getElem?_append_left h1] at hb; exact hp i b hb
    · rw [List.getElem?_append_right h1] at hb
      have : i - l.length = 0 := by
        rcases Nat.eq_zero_or_pos (i - l.length) with h0 | h0
        · exact h0
        · rw [List.getElem?_eq_none (by simp; omega)] at hb; cases hb
      rw [this] at hb
      simp at hb
      subst hb
      rw [show i = n by omega]
      exact ha
theorem addr_add {a : Addr} (h : a.spot = none) (k : Nat) : a.add k = ⟨a.block, a.off + k, none⟩ := by
  cases a; simp at h; subst h; exact add_lit _ _ _
theorem cell_spot {w : World} {a : Addr} {v : Value} (h : w.cell? a = some v) : a.spot = none := by
  unfold World.cell? at h
  split at h
  · cases hs : a.spot with
    | none => rfl
    | some s => rw [hs] at h; simp at h
  · cases h
section
variable {H : Type} {enc : TypeId × Value → H} {P : Program} {W : World} {base : Nat} {spare : Nat → Bool} {held : Bool}
/-- A slice that is read, element by element. -/
theorem open_sl {t e k fuel : Nat} {cs : List Value} {x : DataW H × List MemPlace} {α : Type} {f : α → List Value} {ok : α → Prop} (ht : P.underlying t = some (.slice e)) (hC : P.cellsOf e = k) (hk : 0 < k) (hf : ∀ x, (f x).length = k)
    (he : ∀ n cs' y, DataW.trod enc P W base spare held n e cs' = some y → ∃ a, cs' = f a ∧ ok a) (h : DataW.trod enc P W base spare held fuel t cs = some x) :
    ∃ (v : Value) (l : List α), cs = [v] ∧ @RdV (envAt W) [baseSeg W] v l.length (l.map f).flatten ∧ (∀ a ∈ l, ok a) ∧ l.length ≤ maxLen := by
  rcases open_slice ht h with ⟨rfl, _⟩ | ⟨a, len, cap, m, n, D, Pl, rfl, hb, hl, hm, hmm, hx, hi⟩
  · exact ⟨_, [], rfl, .inl ⟨rfl, rfl, rfl⟩, fun _ h => (by cases h), Nat.zero_le _⟩
  · have hlm : len ≤ m := by rw [hmm]; split <;> omega
    obtain ⟨l, hll, hp⟩ := list_of (p := fun i y => (∀ r, r < k → W.cell? ((a.add (i * k)).add r) = (f y)[r]?) ∧ ok y) len (fun i hil => by
      obtain ⟨cs', hc, ht'⟩ := hi i (by omega)
      obtain ⟨y, rfl, hy⟩ := he _ _ _ ht'
      rw [hC] at hc
      obtain ⟨_, _, hat⟩ := World.cells?_some hc
      exact ⟨y, fun r hr => hat r hr, hy⟩)
    have hsp : len ≠ 0 → a.spot = none := fun h0 => by
      obtain ⟨y, hy⟩ : ∃ y, l[0]? = some y := ⟨_, List.getElem?_eq_getElem (by omega)⟩
      have h1 := (hp 0 y hy).1 0 hk
      have h2 : (f y)[0]? = some ((f y)[0]'(by rw [hf]; exact hk)) := List.getElem?_eq_getElem _
      rw [h2, Nat.zero_mul] at h1
      exact cell_spot (a := a) (by simpa [Addr.add] using h1)
    refine ⟨_, l, rfl, .inr ⟨a, cap, by rw [hll], by rw [hll]; exact hsp, fun w hw j hj => ?_⟩, fun y hy => ?_, by omega⟩
    · have hj2 : j < len * k := by rw [flatten_len hf, hll] at hj; exact hj
      have hjk : j = j / k * k + j % k := by rw [Nat.mul_comm]; exact (Nat.div_add_mod j k).symm
      have hil : j / k < len := Nat.div_lt_of_lt_mul (by rw [Nat.mul_comm]; exact hj2)
      have hr : j % k < k := Nat.mod_lt _ hk
      have hs := hsp (fun h0 => by rw [h0] at hil; exact absurd hil (Nat.not_lt_zero _))
      obtain ⟨y, hy⟩ : ∃ y, l[j / k]? = some y := ⟨_, List.getElem?_eq_getElem (by rw [hll]; exact hil)⟩
      have h1 := (hp _ y hy).1 _ hr
      rw [addr_add hs, add_lit, Nat.add_assoc, ← hjk] at h1
      have h2 := flatten_get hk hf l (j / k) (j % k) hr
      rw [← hjk, hy, Option.bind_some] at h2
      refine @cell_base W w _ _ hw (h1.trans ?_)
      rw [← h2, List.getElem?_eq_getElem hj]
    · obtain ⟨i, hi', e⟩ := List.getElem_of_mem hy
      exact (hp i y (by rw [← e]; exact List.getElem?_eq_getElem hi')).2
theorem open_i64 {e n : Nat} {cs : List Value} {y : DataW H × List MemPlace} (he : P.underlying e = some (.int .i64)) (h : DataW.trod enc P W base spare held n e cs = some y) : ∃ i : Int, cs = [.int .i64 i] ∧ -9223372036854775808 ≤ i ∧ i ≤ 9223372036854775807 := by
  obtain ⟨n, rfl, _, hw⟩ := DataW.trod_int he h
  simp [Lit.wf, IntKind.min, IntKind.max, IntKind.signed, IntKind.bits] at hw
  exact ⟨n, rfl, by omega, by omega⟩
/-- A struct of two ints. -/
theorem open_pair {e n : Nat} {cs : List Value} {y : DataW H × List MemPlace} {f0 f1 : Field} (he : P.underlying e = some (.struct #[f0, f1])) (hone : oneCellFields P #[f0, f1] = true) (hC : P.cellsOf e = 2)
    (h0 : P.underlying f0.type = some (.int .i64)) (h1 : P.underlying f1.type = some (.int .i64)) (h : DataW.trod enc P W base spare held n e cs = some y) : ∃ x : Int × Int, cs = [.int .i64 x.1, .int .i64 x.2] := by
  obtain ⟨xs, n', _, _, hl, hxl, hf⟩ := DataW.trod_struct he h
  rw [hC] at hl
  match cs, hl with
  | [c0, c1], _ =>
    obtain ⟨o0, k0⟩ := hone_of hone 0 f0 rfl
    obtain ⟨o1, k1⟩ := hone_of hone 1 f1 rfl
    have g0 := hf 0 f0 rfl
    have g1 := hf 1 f1 rfl
    rw [o0, k0] at g0
    rw [o1, k1] at g1
    match xs, hxl with
    | [y0, y1], _ =>
      obtain ⟨i, e0, _⟩ := open_i64 h0 (cs := [c0]) (by simpa using g0)
      obtain ⟨j, e1, _⟩ := open_i64 h1 (cs := [c1]) (by simpa using g1)
      cases e0; cases e1
      exact ⟨(i, j), rfl⟩
theorem open_keeps {t e fuel : Nat} {cs : List Value} {x : DataW H × List MemPlace} {f0 f1 : Field} (ht : P.underlying t = some (.slice e)) (he : P.underlying e = some (.struct #[f0, f1])) (hone : oneCellFields P #[f0, f1] = true) (hC : P.cellsOf e = 2)
    (h0 : P.underlying f0.type = some (.int .i64)) (h1 : P.underlying f1.type = some (.int .i64)) (h : DataW.trod enc P W base spare held fuel t cs = some x) :
    ∃ v ks, cs = [v] ∧ @RdV (envAt W) [baseSeg W] v ks.length (keepsV ks) ∧ ks.length ≤ maxLen := by
  obtain ⟨v, l, h1, h2, _, h3⟩ := open_sl (f := fun x : Int × Int => [Value.int .i64 x.1, Value.int .i64 x.2]) (ok := fun _ => True) ht hC (by omega) (fun _ => rfl) (fun n cs' y hy => by
    obtain ⟨b, hb⟩ := open_pair he hone hC h0 h1 hy
    exact ⟨b, hb, trivial⟩) h
  exact ⟨v, l, h1, h2, h3⟩
/-- A law that answers true and leaves all that was there as it was. -/
theorem post_law {f : Func} {s : ChangeSpec} {apart fresh handsOn : Bool} {W W' : World} {args : Array Value} {L : List Seg} {ds gs : List (DataW H)} {before : List MemPlace} {tb : TypeId} (hlo : laidOutB P = true)
    (hW : DataW.Whole enc P f.params.toList s.vars apart W args.toList ds gs before) (hvs : s.vars = []) (hh : @Has (envAt W) W' (L ++ [baseSeg W])) (hrt : f.resultTypes = #[tb]) (htb : P.underlying tb = some .bool)
    (hpt : ∀ t ∈ f.params.toList, P.readableRec t = true ∧ t < P.types.size) (hfn : s.fn H (ds ++ gs) = { results := [.lit (.bool true)], args := ds }) :
    s.post enc P f apart fresh handsOn false W args (.bool true) W' := by
  have hb := below_base hh
  have hlt := fun p hp => hW.lt p hp
  have hW' := hW
  obtain ⟨p, q, hA, hV, rfl, hfz, hnd⟩ := hW
  have hp : ∀ x ∈ p, x.block < W.heap.size := fun x hx => by simpa using hlt x (by simp [hx])
  have carry : ∀ {ts : List TypeId} {vs : List Value} {ds : List (DataW H)} {ps : List MemPlace}, (∀ t ∈ ts, P.readableRec t = true ∧ t < P.types.size) → (∀ x ∈ ps, x.block < W.heap.size) →
      DataW.TrodAll enc P W 0 (fun _ => true) true ts vs ds ps → DataW.TrodAll enc P W' 0 (fun b => decide (b < W.heap.size)) true ts vs ds ps := by
    intro ts
    induction ts with
    | nil =>
      intro vs ds ps _ _ h
      obtain ⟨rfl, rfl, rfl⟩ := trodAll_nil h
      exact h
    | cons t ts ih =>
      intro vs ds ps ht hps h
      obtain ⟨v, vs1, d, ds1, a, b, rfl, rfl, rfl, h1, h2⟩ := trodAll_cons h
      exact ⟨a, b, Below.trod hlo (ht t (by simp)).1 (ht t (by simp)).2 h1 hb (fun x hx => hps x (by simp [hx])), ih (fun u hu => ht u (by simp [hu])) (fun x hx => hps x (by simp [hx])) h2, rfl⟩
  rw [hvs] at hV
  obtain ⟨rfl, rfl⟩ := trodVars_none hV
  refine ⟨ds, [], p ++ [], [], p, [], hW', ?_, ?_, ?_, ?_, fun h => (by cases h)⟩
  · rw [hfn, hrt]
    exact trodAll_mk1 (shut_bool htb _)
  · rw [hfn]
    exact carry hpt hp hA
  · rw [hvs, hfn]
    rfl
  · refine ⟨hb.os, hb.output, fun i hi => ?_⟩
    rw [hb.block i hi]
    split <;> simp_all
end
end Go.Sl
namespace Go.Sl
open Go.ChangeShapes Go.WideShapes Go.ChangeAt Go.RowKit Go.Deep
set_option linter.unusedSimpArgs false
section
variable {H : Type} {enc : TypeId × Value → H} {P : Program} {W : World} {base : Nat} {spare : Nat → Bool} {held : Bool}
theorem flat1 {α : Type} (f : α → Value) : ∀ (l : List α), (l.map fun b => [f b]).flatten = l.map f
  | [] => rfl
  | b :: l => by simp only [List.map_cons, List.flatten_cons, flat1 f l]; rfl
theorem str_eta (s : ByteArray) : s = ⟨s.data.toList.toArray⟩ := by cases s; simp
end
end Go.Sl
