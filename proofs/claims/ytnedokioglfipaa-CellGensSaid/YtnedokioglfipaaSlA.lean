/- A small separation logic over the model's worlds: segments of blocks, frames as lists of known slots, rules for single operations. No program in sight. -/
import Derived.Tactics
import Derived.OrdersHeld
import Derived.Laws.Slices
import Derived.Laws.CopyRow
import Derived.Laws.AppendOwn
import Derived.Laws.Small
import Derived.WalkKit
set_option linter.unusedVariables false
set_option linter.unusedSimpArgs false
set_option linter.constructorNameAsVariable false
namespace Go.Sl

abbrev Seg := List (Nat × Obj)
/-- One block of cells. -/
def sc (b : Nat) (vs : List Value) (T : TypeId) : Seg := [(b, .cells vs.toArray T (0, 0))]
/-- One block of any kind. -/
def so (b : Nat) (o : Obj) : Seg := [(b, o)]

/-- What no walk here turns: the tape, the system, what was printed. -/
class Env where
  w0 : World
def EnvOk [E : Env] (w : World) : Prop := w.os = E.w0.os ∧ w.tape = E.w0.tape ∧ w.output = E.w0.output

structure Has [Env] (w : World) (L : List Seg) : Prop where
  env : EnvOk w
  mem : ∀ x ∈ L.flatten, w.heap[x.1]? = some x.2
  nd : (L.flatten.map Prod.fst).Nodup

theorem Has.perm [Env] {w : World} {L L' : List Seg} (h : Has w L) (p : L.flatten.Perm L'.flatten) : Has w L' :=
  ⟨h.env, fun x hx => h.mem x (p.mem_iff.2 hx), (p.map _).nodup_iff.1 h.nd⟩

theorem Has.sub [Env] {w : World} {L L' : List Seg} (h : Has w L) (p : ∃ M : Seg, L.flatten.Perm (L'.flatten ++ M)) : Has w L' := by
  obtain ⟨M, p⟩ := p
  refine ⟨h.env, fun x hx => h.mem x (p.mem_iff.2 (List.mem_append_left _ hx)), ?_⟩
  have := (p.map Prod.fst).nodup_iff.1 h.nd
  rw [List.map_append] at this
  exact (List.nodup_append.1 this).1

/-- A segment picked out of a list of segments. -/
inductive Pk : List Seg → Seg → List Seg → Prop
  | z {s L} : Pk (s :: L) s L
  | s {x s L L'} : Pk L s L' → Pk (x :: L) s (x :: L')

theorem Pk.perm {L L' : List Seg} {s : Seg} (h : Pk L s L') : L.flatten.Perm (s ++ L'.flatten) := by
  induction h with
  | z => simp
  | @s x s L L' _ ih =>
    simp only [List.flatten_cons]
    refine (List.Perm.append_left x ih).trans ?_
    rw [← List.append_assoc, ← List.append_assoc]
    exact List.Perm.append_right _ List.perm_append_comm

theorem Pk.has [Env] {w : World} {L L' : List Seg} {s : Seg} (h : Pk L s L') (hh : Has w L) : Has w (s :: L') :=
  hh.perm (by simpa using h.perm)
theorem Pk.back [Env] {w : World} {L L' : List Seg} {s : Seg} (h : Pk L s L') (hh : Has w (s :: L')) : Has w L :=
  hh.perm (by simpa using h.perm.symm)

/-- A segment replaced in place. -/
inductive Rp : List Seg → Seg → Seg → List Seg → Prop
  | z {s s' L} : Rp (s :: L) s s' (s' :: L)
  | s {x s s' L L'} : Rp L s s' L' → Rp (x :: L) s s' (x :: L')

theorem Rp.pk {L L' : List Seg} {s s' : Seg} (h : Rp L s s' L') : ∃ M, Pk L s M ∧ Pk L' s' M := by
  induction h with
  | z => exact ⟨_, .z, .z⟩
  | s _ ih => obtain ⟨M, h1, h2⟩ := ih; exact ⟨_, .s h1, .s h2⟩

/-- A segment that lies there. -/
inductive In : List Seg → Seg → Prop
  | z {s L} : In (s :: L) s
  | s {x s L} : In L s → In (x :: L) s

theorem In.mem {L : List Seg} {s : Seg} (h : In L s) : s ∈ L := by
  induction h with
  | z => exact List.mem_cons_self
  | s _ ih => exact List.mem_cons_of_mem _ ih

theorem Has.at [Env] {w : World} {L : List Seg} {s : Seg} (h : Has w L) (hi : In L s) {b : Nat} {o : Obj} (hm : (b, o) ∈ s) : w.heap[b]? = some o :=
  h.mem (b, o) (List.mem_flatten.2 ⟨s, hi.mem, hm⟩)

theorem Has.cells [Env] {w : World} {L : List Seg} {b : Nat} {vs : List Value} {T : TypeId} (h : Has w L) (hi : In L (sc b vs T)) :
    w.heap[b]? = some (.cells vs.toArray T (0, 0)) := h.at hi (by simp [sc])
theorem Has.obj [Env] {w : World} {L : List Seg} {b : Nat} {o : Obj} (h : Has w L) (hi : In L (so b o)) : w.heap[b]? = some o := h.at hi (by simp [so])

/-- Taking segments out, one by one; and what is left. -/
inductive Tk : List Seg → List Seg → List Seg → Prop
  | nil {L} : Tk L [] L
  | cons {L s L1 pre R} : Pk L s L1 → Tk L1 pre R → Tk L (s :: pre) R

theorem Tk.perm {L pre R : List Seg} (h : Tk L pre R) : L.flatten.Perm ((pre ++ R).flatten) := by
  induction h with
  | nil => simp
  | cons hp _ ih =>
    refine hp.perm.trans ?_
    simp only [List.cons_append, List.flatten_cons]
    exact List.Perm.append_left _ ih

theorem Tk.has [Env] {w : World} {L pre R : List Seg} (h : Tk L pre R) (hh : Has w L) : Has w (pre ++ R) := hh.perm h.perm

/-- Dropping what nobody needs: 'L' holds at least 'M'. -/
inductive Ge : List Seg → List Seg → Prop
  | refl {L} : Ge L L
  | nil {L} : Ge L []
  | e {L M} : Ge L M → Ge L ([] :: M)
  | pick {L s L1 M} : Pk L s L1 → Ge L1 M → Ge L (s :: M)
  | drop {x L M} : Ge L M → Ge (x :: L) M

theorem Ge.sub {L M : List Seg} (h : Ge L M) : ∃ N : Seg, L.flatten.Perm (M.flatten ++ N) := by
  induction h with
  | refl => exact ⟨[], by simp⟩
  | @nil L => exact ⟨L.flatten, by simp⟩
  | e _ ih => obtain ⟨N, hn⟩ := ih; exact ⟨N, by simpa using hn⟩
  | @pick L s L1 M hp _ ih =>
    obtain ⟨N, hn⟩ := ih
    refine ⟨N, hp.perm.trans ?_⟩
    simp only [List.flatten_cons, List.append_assoc]
    exact List.Perm.append_left _ hn
  | @drop x L M _ ih =>
    obtain ⟨N, hn⟩ := ih
    refine ⟨x ++ N, ?_⟩
    simp only [List.flatten_cons]
    refine (List.Perm.append_left x hn).trans ?_
    rw [← List.append_assoc, ← List.append_assoc]
    exact List.Perm.append_right _ List.perm_append_comm

theorem Ge.has [Env] {w : World} {L M : List Seg} (h : Ge L M) (hh : Has w L) : Has w M := hh.sub h.sub

/-- The same blocks, otherwise parted. -/
theorem Has.re [Env] {w : World} {L M : List Seg} (h : L.flatten = M.flatten) (hh : Has w L) : Has w M := hh.perm (h ▸ List.Perm.refl _)

/-! ### Worlds -/
theorem Has.of_heap [Env] {w w' : World} {L : List Seg} (h : Has w L) (e : w'.heap = w.heap) (e2 : EnvOk w → EnvOk w') : Has w' L := ⟨e2 h.env, fun x hx => e ▸ h.mem x hx, h.nd⟩
theorem Has.drew [Env] {w : World} {L : List Seg} (h : Has w L) : Has w.drew L := h.of_heap rfl fun h => h
theorem Has.drawn [Env] {w : World} {L : List Seg} (h : Has w L) (n : Nat) : Has { w with drawn := n } L := h.of_heap rfl fun h => h

theorem Has.lt [Env] {w : World} {L : List Seg} (h : Has w L) {x : Nat × Obj} (hx : x ∈ L.flatten) : x.1 < w.heap.size :=
  (Array.getElem?_eq_some_iff.1 (h.mem x hx)).1

theorem Has.alloc [Env] {w : World} {L : List Seg} (h : Has w L) (o : Obj) : Has (w.alloc o) (so w.heap.size o :: L) := by
  refine ⟨h.env, ?_, ?_⟩
  · intro x hx
    simp only [so, List.flatten_cons, List.cons_append, List.nil_append, List.mem_cons] at hx
    show (w.heap.push o)[x.1]? = some x.2
    rcases hx with rfl | hx
    · exact Array.getElem?_push_size
    · have := h.lt hx
      rw [Array.getElem?_push]
      split
      · omega
      · exact h.mem x hx
  · simp only [so, List.flatten_cons, List.cons_append, List.nil_append, List.map_cons, List.nodup_cons]
    refine ⟨fun hm => ?_, h.nd⟩
    obtain ⟨x, hx, e⟩ := List.mem_map.1 hm
    have := h.lt hx
    omega

/-- A world in which one block is another one. -/
def setB (w : World) (b : Nat) (o : Obj) : World := { w with heap := w.heap.setIfInBounds b o }

theorem Has.setB [Env] {w : World} {L L' : List Seg} {b : Nat} {o o' : Obj} (h : Has w L) (r : Rp L (so b o) (so b o') L') : Has (setB w b o') L' := by
  obtain ⟨M, h1, h2⟩ := r.pk
  have hh := h1.has h
  refine h2.back ⟨h.env, ?_, ?_⟩
  · intro x hx
    have hnd := hh.nd
    simp only [so, List.flatten_cons, List.cons_append, List.nil_append, List.mem_cons, List.map_cons, List.nodup_cons] at hx hnd
    rcases hx with rfl | hx
    · have hl : b < w.heap.size := hh.lt (x := (b, o)) (by simp [so])
      simp [Sl.setB, hl]
    · have hne : x.1 ≠ b := fun e => hnd.1 (List.mem_map.2 ⟨x, hx, e⟩)
      have := hh.mem x (by simp [so, hx])
      simp only [Sl.setB]
      rw [Array.getElem?_setIfInBounds_ne (Ne.symm hne)]
      exact this
  · simpa [so] using hh.nd

/-! ### Frames -/
def look : List (Nat × Value) → Nat → Option Value
  | [], _ => none
  | (a, v) :: l, t => bif Nat.beq a t then some v else look l t

structure Fr (n : Nat) (l : List (Nat × Value)) (a : Act) : Prop where
  size : a.tmps.size = n
  defers : a.defers = []
  get : ∀ t v, look l t = some v → a.tmps.getD t undef = v

def ev (l : List (Nat × Value)) : Operand → Option Value
  | .tmp t => look l t
  | .const v => some v
  | .global g => some (.pointer (some ⟨g, 0, none⟩))
  | .func f => some (.func (.func f) #[] #[])

theorem Fr.ev {n : Nat} {l : List (Nat × Value)} {a : Act} (h : Fr n l a) {x : Operand} {v : Value} (hx : ev l x = some v) : a.eval x = v := by
  cases x with
  | tmp t => exact h.get t v hx
  | const u => exact Option.some.inj hx
  | global g => exact Option.some.inj hx
  | func f => exact Option.some.inj hx

theorem Fr.put {n : Nat} {l : List (Nat × Value)} {a : Act} (h : Fr n l a) {d : Nat} (hd : Nat.blt d n = true) (v : Value) : Fr n ((d, v) :: l) (a.put (some d) v) := by
  have hd' : d < n := by simpa using hd
  refine ⟨by simpa [Act.put] using h.size, h.defers, fun t u ht => ?_⟩
  by_cases e : d = t
  · subst e
    have hb : Nat.beq d d = true := by simp
    simp only [look, hb, cond_true] at ht
    have hs : d < a.tmps.size := by rw [h.size]; exact hd'
    simp [Act.put, hs]
    simpa using ht
  · have hb : Nat.beq d t = false := by rw [← Bool.not_eq_true]; exact fun hh => e (Nat.eq_of_beq_eq_true hh)
    simp only [look, hb, cond_false] at ht
    have := h.get t u ht
    simpa [Act.put, Array.getElem?_setIfInBounds_ne e] using this

theorem Fr.put_none {n : Nat} {l : List (Nat × Value)} {a : Act} (h : Fr n l a) (v : Value) : Fr n l (a.put none v) := h

/-- Fewer slots are known. -/
def sub (l l' : List (Nat × Value)) : Prop := ∀ t v, look l' t = some v → look l t = some v
theorem Fr.sub {n : Nat} {l l' : List (Nat × Value)} {a : Act} (h : Fr n l a) (hs : sub l l') : Fr n l' a :=
  ⟨h.size, h.defers, fun t v ht => h.get t v (hs t v ht)⟩
theorem sub_nil {l : List (Nat × Value)} : sub l [] := fun _ _ h => by cases h
theorem sub_cons {l l' : List (Nat × Value)} {t : Nat} {v : Value} (h : look l t = some v) (hs : sub l l') : sub l ((t, v) :: l') := by
  intro u x hx
  by_cases e : Nat.beq t u = true
  · simp only [look, e, cond_true] at hx
    have : t = u := by simpa using e
    subst this
    rw [h]; exact hx
  · simp only [look, e, cond_false] at hx
    exact hs u x hx

theorem sub_cons' {l l' : List (Nat × Value)} {t : Nat} {v u : Value} (h : look l t = some u) (e : u = v) (hs : sub l l') : sub l ((t, v) :: l') := sub_cons (e ▸ h) hs
theorem frame_enter (args : Array Value) (n : Nat) (h : args.size ≤ n) (l : List (Nat × Value)) (hl : ∀ t v, look l t = some v → args[t]? = some v) :
    Fr n l { tmps := args ++ Array.replicate (n - args.size) undef, defers := [] } := by
  refine ⟨by simp; omega, rfl, fun t v ht => ?_⟩
  have h1 := hl t v ht
  have : t < args.size := (Array.getElem?_eq_some_iff.1 h1).1
  simp [Array.getElem?_append, this]
  simp [Array.getElem?_eq_getElem this] at h1
  exact h1
end Go.Sl
