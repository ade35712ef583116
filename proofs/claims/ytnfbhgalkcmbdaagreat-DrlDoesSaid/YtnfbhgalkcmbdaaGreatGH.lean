/- A part of the proof: contracts and plain lemmas, each without conditions beyond those that it names. -/
import Derived.Test.YtnfbhgalkcmbdaaGreatGG
import Derived.Test.YtnfbhgalkcmbdaaGreatGC
import Derived.Test.YtnfbhgalkcmbdaaGreatGI
import Derived.OpenShut
set_option linter.unusedVariables false
set_option linter.unusedSimpArgs false
set_option linter.constructorNameAsVariable false
namespace Go.Sl
set_option linter.unusedSimpArgs false
structure MsgM where
  kind : Int
  epoch : Int
  seq : Int
  n : Int
  block : Int
  client : Int
  e : Int
  t0 : Int
  t1 : Int
  t2 : Int
  t3 : Int
  data : Bytes
  row : Bytes
  deriving DecidableEq
def MsgM.cells (m : MsgM) : List Value := [.int .i64 m.kind, .int .i64 m.epoch, .int .i64 m.seq, .int .i64 m.n, .int .i64 m.block, .int .i64 m.client, .int .i64 m.e, .int .i64 m.t0, .int .i64 m.t1, .int .i64 m.t2, .int .i64 m.t3, .string ⟨m.data.toArray⟩, .string ⟨m.row.toArray⟩]
def MsgM.zero : MsgM := ⟨0, 0, 0, 0, 0, 0, 0, 0, 0, 0, 0, [], []⟩
def within3 (n lo hi : Int) : Bool := decide (lo ≤ n) && decide (n ≤ hi)
def MsgM.may (m : MsgM) : Bool := within3 m.t0 0 4611686018427387904 && within3 m.t1 0 4611686018427387904 && within3 m.t2 0 4611686018427387904 && within3 m.t3 0 4611686018427387904 &&
  decide ((m.data.length : Int) ≤ 40) && decide ((m.row.length : Int) ≤ 10) && within3 m.kind 1 15 && within3 m.epoch 0 4611686018427387904 && within3 m.seq 0 4611686018427387904 && within3 m.n (-4611686018427387904) 4611686018427387904 && within3 m.block (-1) 31 && within3 m.client (-1) 3 && within3 m.e 0 31
structure MsgM.ok (m : MsgM) : Prop where
  kind : 1 ≤ m.kind ∧ m.kind ≤ 15
  epoch : 0 ≤ m.epoch ∧ m.epoch ≤ 4611686018427387904
  seq : 0 ≤ m.seq ∧ m.seq ≤ 4611686018427387904
  n : -4611686018427387904 ≤ m.n ∧ m.n ≤ 4611686018427387904
  block : -1 ≤ m.block ∧ m.block ≤ 31
  client : -1 ≤ m.client ∧ m.client ≤ 3
  t0 : 0 ≤ m.t0 ∧ m.t0 ≤ 4611686018427387904
  t1 : 0 ≤ m.t1 ∧ m.t1 ≤ 4611686018427387904
  t2 : 0 ≤ m.t2 ∧ m.t2 ≤ 4611686018427387904
  t3 : 0 ≤ m.t3 ∧ m.t3 ≤ 4611686018427387904
  data : m.data.length ≤ 40
structure FactM where
  epoch : Int
  holder : Int
  mask : Int
  change : Int
  l0 : Int
  l1 : Int
  deriving DecidableEq
def FactM.cells (f : FactM) : List Value := [.int .i64 f.epoch, .int .i64 f.holder, .int .i64 f.mask, .int .i64 f.change, .int .i64 f.l0, .int .i64 f.l1]
def FactM.first : FactM := ⟨0, -1, 3, 0, -1, -1⟩
def factR (f : FactM) : RecM := ⟨40, [f.epoch, f.holder, f.mask, f.change, f.l0, f.l1], []⟩
structure FactM.ok (f : FactM) : Prop where
  epoch : 0 ≤ f.epoch ∧ f.epoch ≤ 4611686018427387904
  holder : -1 ≤ f.holder ∧ f.holder ≤ 1
  mask : 1 ≤ f.mask ∧ f.mask ≤ 3
  change : 0 ≤ f.change ∧ f.change ≤ 4611686018427387904
  l0 : -1 ≤ f.l0 ∧ f.l0 ≤ 4611686018427387904
  l1 : -1 ≤ f.l1 ∧ f.l1 ≤ 4611686018427387904
structure WitM where
  c : CellM
  f : FactM
  left : Int
  wait : Int
def WitM.set (W : WitM) : WitM := { W with left := max W.wait 0 }
def WitM.put (W : WitM) (D : Dev) (f : FactM) : Int × WitM × Dev :=
  ((W.c.put D (recB (factR f))).1, { W with c := (W.c.put D (recB (factR f))).2.1, f := if (W.c.put D (recB (factR f))).1 = 0 then f else W.f }, (W.c.put D (recB (factR f))).2.2)
/-- Is a node in a mask? -/
def inM (mask node : Int) : Bool := if node = 0 then decide (mask % 2 = 1) else decide (2 ≤ mask)
def outM (mask node : Int) : Int := if node = 0 then (if 2 ≤ mask then 2 else 0) else mask % 2
def WitM.ask (W : WitM) (D : Dev) (from_ : Int) (m : MsgM) : Int × WitM × Dev :=
  if inM W.f.mask from_ = false then (20, W, D) else
  if W.f.holder = from_ ∧ m.seq = 0 ∧ m.epoch = W.f.epoch then (0, W.set, D) else
  if W.f.holder ≠ from_ ∧ 0 < W.left then (25, W, D) else
  if W.f.epoch = 4611686018427387904 then (22, W, D) else
  let r := W.put D { W.f with epoch := W.f.epoch + 1, holder := from_, change := 0 }
  (r.1, if r.1 = 0 then r.2.1.set else r.2.1, r.2.2)
def WitM.changed (W : WitM) (D : Dev) (from_ : Int) (m : MsgM) : Int × WitM × Dev :=
  if W.f.holder ≠ from_ ∨ m.epoch ≠ W.f.epoch then (20, W, D) else
  if within3 m.seq 1 3 = false ∨ inM m.seq from_ = false then (1, W, D) else
  if m.n ≤ W.f.change then (0, W, D) else
  W.put D { W.f with mask := m.seq, change := m.n }
def FactM.loss (f : FactM) (from_ : Int) : Int := if from_ = 0 then f.l0 else f.l1
def FactM.lose (f : FactM) (from_ n : Int) : FactM :=
  { f with holder := -1, l0 := if from_ = 0 then n else f.l0, l1 := if from_ = 0 then f.l1 else n, mask := if outM f.mask from_ ≠ 0 then outM f.mask from_ else f.mask }
def WitM.lost (W : WitM) (D : Dev) (from_ : Int) (m : MsgM) : Int × WitM × Dev :=
  if m.n ≤ W.f.loss from_ then (0, W, D) else W.put D (W.f.lose from_ m.n)
def WitM.handle (W : WitM) (D : Dev) (from_ : Int) (m : MsgM) : Option (Int × WitM × Dev) :=
  if m.kind = 1 then some (W.ask D from_ m) else if m.kind = 3 then some (W.changed D from_ m) else if m.kind = 4 then some (W.lost D from_ m) else none
def WitM.answer (W : WitM) (m : MsgM) (e : Int) : MsgM := ⟨if m.kind = 1 then 2 else m.kind, W.f.epoch, W.f.mask, m.n, -1, W.f.holder, e, 0, 0, 0, 0, [], []⟩
def WitM.take (W : WitM) (D : Dev) (from_ : Int) (m : MsgM) : (MsgM × Bool) × WitM × Dev :=
  if from_ < 0 ∨ 1 < from_ ∨ m.may = false then ((.zero, false), W, D) else
  match W.handle D from_ m with
  | none => ((.zero, false), W, D)
  | some r => if r.1 = 30 then ((.zero, false), r.2.1, r.2.2) else ((r.2.1.answer m r.1, true), r.2.1, r.2.2)
structure WitM.ok (W : WitM) (D : Dev) : Prop where
  c : W.c.ok D.l.length
  f : W.f.ok
  left : 0 ≤ W.left ∧ W.left ≤ 9223372036854775807
  wait : 1 ≤ W.wait ∧ W.wait ≤ 1099511627776
  d : D.ok
theorem put_l {C : CellM} {D : Dev} {s : Bytes} : (C.put D s).2.2.l.length = D.l.length := by
  unfold CellM.put
  split
  · rfl
  · split
    · rfl
    · dsimp only
      split
      · rw [write_l]
      · split
        · rw [barrier_l, write_l]
        · rw [barrier_l, write_l]
theorem WitM.put_ok {W : WitM} {D : Dev} {f : FactM} (h : W.ok D) (hf : f.ok) : (W.put D f).2.1.ok (W.put D f).2.2 := by
  have hp := Go.Sl.put_ok h.c h.d (recB (factR f))
  refine ⟨by unfold WitM.put; dsimp only; rw [put_l]; exact hp.1, ?_, h.left, h.wait, hp.2⟩
  unfold WitM.put; dsimp only
  split
  · exact hf
  · exact h.f
theorem WitM.set_ok {W : WitM} {D : Dev} (h : W.ok D) : W.set.ok D := ⟨h.c, h.f, by have := h.wait; simp only [WitM.set]; omega, h.wait, h.d⟩
end Go.Sl
/- From the readings of arguments to messages and acts. -/
namespace Go.Sl
open Go.ChangeShapes Go.WideShapes Go.ChangeAt Go.RowKit Go.Deep
set_option linter.unusedSimpArgs false
structure ActW where
  kind : Int
  n : Int
  fr : Int
  m : MsgM
  s : Bytes
  kv : Value
  ks : Keeps
def ActW.cells (a : ActW) : List Value := [.int .i64 a.kind, .int .i64 a.n, .int .i64 a.fr] ++ a.m.cells ++ [.string ⟨a.s.toArray⟩, a.kv]
structure ActW.ok [Env] (R : List Seg) (a : ActW) : Prop where
  keeps : RdV R a.kv a.ks.length (keepsV a.ks)
  n : -9223372036854775808 ≤ a.n ∧ a.n ≤ 9223372036854775807
  fr : -9223372036854775808 ≤ a.fr ∧ a.fr ≤ 9223372036854775807
theorem ActW.ok.mono [Env] {R R' : List Seg} {a : ActW} (h : a.ok R) (hg : Ge R' R) : a.ok R' := ⟨h.keeps.mono hg, h.n, h.fr⟩
structure ActB where
  kind : Int
  n : Int
  m : MsgM
  s : Bytes
  kv : Value
  ks : Keeps
def ActB.cells (a : ActB) : List Value := [.int .i64 a.kind, .int .i64 a.n] ++ a.m.cells ++ [.string ⟨a.s.toArray⟩, a.kv]
structure ActB.ok [Env] (R : List Seg) (a : ActB) : Prop where
  keeps : RdV R a.kv a.ks.length (keepsV a.ks)
  n : -9223372036854775808 ≤ a.n ∧ a.n ≤ 9223372036854775807
theorem ActB.ok.mono [Env] {R R' : List Seg} {a : ActB} (h : a.ok R) (hg : Ge R' R) : a.ok R' := ⟨h.keeps.mono hg, h.n⟩
theorem flat_at {α : Type} {f : α → List Value} {k : Nat} (hf : ∀ x, (f x).length = k) : ∀ (l : List α) (i : Nat) (x : α), l[i]? = some x → ((((l.map f).flatten).drop (i * k)).take k) = f x
  | [], i, x, h => by simp at h
  | z :: l, 0, x, h => by
    simp at h; subst h
    simp only [List.map_cons, List.flatten_cons, Nat.zero_mul, List.drop_zero]
    rw [List.take_append_of_le_length (by rw [hf]; exact Nat.le_refl _), List.take_of_length_le (by rw [hf]; exact Nat.le_refl _)]
  | z :: l, i + 1, x, h => by
    have := flat_at hf l i x (by simpa using h)
    rw [show (i + 1) * k = k + i * k by rw [Nat.succ_mul]; omega, ← List.drop_drop]
    simp only [List.map_cons, List.flatten_cons]
    have e : (f z ++ (List.map f l).flatten).drop k = (List.map f l).flatten := List.drop_left' (hf z)
    rw [e]
    exact this
def fieldsAt (P : Program) (fs : Array Field) (l : List (Nat × Nat)) : Bool := (fs.toList.zip l).all fun x => Nat.beq x.1.offset x.2.1 && Nat.beq (P.cellsOf x.1.type) x.2.2
theorem at_of {P : Program} {fs : Array Field} {l : List (Nat × Nat)} (h : fieldsAt P fs l = true) (i : Nat) (f : Field) (q : Nat × Nat) (hf : fs[i]? = some f) (hq : l[i]? = some q) : f.offset = q.1 ∧ P.cellsOf f.type = q.2 := by
  have hm : (f, q) ∈ fs.toList.zip l := by
    have : (fs.toList.zip l)[i]? = some (f, q) := by rw [List.getElem?_zip_eq_some]; exact ⟨by simpa using hf, hq⟩
    exact List.mem_of_getElem? this
  have := List.all_eq_true.1 h _ hm
  simp only [Bool.and_eq_true] at this
  exact ⟨Nat.eq_of_beq_eq_true this.1, Nat.eq_of_beq_eq_true this.2⟩
section
variable {H : Type} {enc : TypeId × Value → H} {P : Program} {W : World} {base : Nat} {spare : Nat → Bool} {held : Bool}
theorem open_str {e n : Nat} {cs : List Value} {y : DataW H × List MemPlace} (he : P.underlying e = some .string) (h : DataW.trod enc P W base spare held n e cs = some y) : ∃ b : Bytes, cs = [.string ⟨b.toArray⟩] := by
  obtain ⟨s, hs, _⟩ := DataW.trod_string he h
  exact ⟨s.data.toList, by rw [hs, ← str_eta]⟩
/-- A struct's field, with its place. -/
theorem open_fld {fs : Array Field} {l : List (Nat × Nat)} {cs : List Value} {xs : List (DataW H × List MemPlace)} {n : Nat} (hat : fieldsAt P fs l = true)
    (hf : ∀ (i : Nat) (f : Field), fs[i]? = some f → DataW.trod enc P W base spare held n f.type ((cs.drop f.offset).take (P.cellsOf f.type)) = xs[i]?) (hx : xs.length = fs.size)
    (i : Nat) (f : Field) (o k : Nat) (h1 : fs[i]? = some f) (h2 : l[i]? = some (o, k)) : ∃ y, DataW.trod enc P W base spare held n f.type ((cs.drop o).take k) = some y := by
  obtain ⟨a, b⟩ := at_of hat i f (o, k) h1 h2
  have := hf i f h1
  rw [a, b] at this
  have hi : i < fs.size := by
    rcases Nat.lt_or_ge i fs.size with h | h
    · exact h
    · rw [Array.getElem?_eq_none h] at h1; cases h1
  exact ⟨_, this.trans (List.getElem?_eq_getElem (by omega))⟩
end
end Go.Sl
