/- A part of the proof: contracts and plain lemmas, each without conditions beyond those that it names. -/
import Derived.Test.YtediodfmkbfomaaGreatGG
import Derived.Test.YtediodfmkbfomaaGreatGC
import Derived.Test.YtediodfmkbfomaaGreatGI
import Derived.OpenShut
set_option linter.unusedVariables false
set_option linter.unusedSimpArgs false
set_option linter.constructorNameAsVariable false
namespace Go.Sl
set_option linter.unusedSimpArgs false
structure MsgM where
  kind : Int
  epoch : Int
  seq : Int
  n : Int
  block : Int
  client : Int
  e : Int
  t0 : Int
  t1 : Int
  t2 : Int
  t3 : Int
  data : Bytes
  row : Bytes
  deriving DecidableEq
def iV (n : Int) : Value := .int .i64 n
def sV (t : Bytes) : Value := .string ⟨t.toArray⟩
def MsgM.cells (m : MsgM) : List Value := [.int .i64 m.kind, .int .i64 m.epoch, .int .i64 m.seq, .int .i64 m.n, .int .i64 m.block, .int .i64 m.client, .int .i64 m.e, .int .i64 m.t0, .int .i64 m.t1, .int .i64 m.t2, .int .i64 m.t3, .string ⟨m.data.toArray⟩, .string ⟨m.row.toArray⟩]
def MsgM.zero : MsgM := ⟨0, 0, 0, 0, 0, 0, 0, 0, 0, 0, 0, [], []⟩
def within3 (n lo hi : Int) : Bool := decide (lo ≤ n) && decide (n ≤ hi)
def MsgM.may (m : MsgM) : Bool := within3 m.t0 0 4611686018427387904 && within3 m.t1 0 4611686018427387904 && within3 m.t2 0 4611686018427387904 && within3 m.t3 0 4611686018427387904 &&
  decide ((m.data.length : Int) ≤ 40) && decide ((m.row.length : Int) ≤ 10) && within3 m.kind 1 15 && within3 m.epoch 0 4611686018427387904 && within3 m.seq 0 4611686018427387904 && within3 m.n (-4611686018427387904) 4611686018427387904 && within3 m.block (-1) 31 && within3 m.client (-1) 3 && within3 m.e 0 31
structure MsgM.ok (m : MsgM) : Prop where
  kind : 1 ≤ m.kind ∧ m.kind ≤ 15
  epoch : 0 ≤ m.epoch ∧ m.epoch ≤ 4611686018427387904
  seq : 0 ≤ m.seq ∧ m.seq ≤ 4611686018427387904
  n : -4611686018427387904 ≤ m.n ∧ m.n ≤ 4611686018427387904
  block : -1 ≤ m.block ∧ m.block ≤ 31
  client : -1 ≤ m.client ∧ m.client ≤ 3
  t0 : 0 ≤ m.t0 ∧ m.t0 ≤ 4611686018427387904
  t1 : 0 ≤ m.t1 ∧ m.t1 ≤ 4611686018427387904
  t2 : 0 ≤ m.t2 ∧ m.t2 ≤ 4611686018427387904
  t3 : 0 ≤ m.t3 ∧ m.t3 ≤ 4611686018427387904
  data : m.data.length ≤ 40
structure FactM where
  epoch : Int
  holder : Int
  mask : Int
  change : Int
  l0 : Int
  l1 : Int
  deriving DecidableEq
def FactM.cells (f : FactM) : List Value := [.int .i64 f.epoch, .int .i64 f.holder, .int .i64 f.mask, .int .i64 f.change, .int .i64 f.l0, .int .i64 f.l1]
def FactM.first : FactM := ⟨0, -1, 3, 0, -1, -1⟩
def factR (f : FactM) : RecM := ⟨40, [f.epoch, f.holder, f.mask, f.change, f.l0, f.l1], []⟩
structure FactM.ok (f : FactM) : Prop where
  epoch : 0 ≤ f.epoch ∧ f.epoch ≤ 4611686018427387904
  holder : -1 ≤ f.holder ∧ f.holder ≤ 1
  mask : 1 ≤ f.mask ∧ f.mask ≤ 3
  change : 0 ≤ f.change ∧ f.change ≤ 4611686018427387904
  l0 : -1 ≤ f.l0 ∧ f.l0 ≤ 4611686018427387904
  l1 : -1 ≤ f.l1 ∧ f.l1 ≤ 4611686018427387904
theorem FactM.first_ok : FactM.first.ok := ⟨by decide, by decide, by decide, by decide, by decide, by decide⟩
theorem fact_may {f : FactM} (h : f.ok) : (factR f).may := by
  have h1 := h.epoch; have h2 := h.holder; have h3 := h.mask; have h4 := h.change; have h5 := h.l0; have h6 := h.l1
  refine ⟨by simp [factR], by simp [factR], by simp [factR], by simp [factR], fun t ht => by simp [factR] at ht, fun n hn => ?_⟩
  simp only [factR, List.mem_cons, List.not_mem_nil, or_false] at hn
  rcases hn with rfl | rfl | rfl | rfl | rfl | rfl <;> omega
theorem fact_len {f : FactM} (h : f.ok) : (recB (factR f)).length ≤ 62 := by
  have := numsB_len (fact_may h).num
  have e : (numsB (factR f).nums).length ≤ 60 := this
  have e2 : textsB (factR f).texts = [] := rfl
  simp only [recB, e2, List.append_nil, List.length_cons]
  omega
/-- What lies in the cell: the facts, or none. -/
def factsOf (t : Bytes) : FactM := match (decM t).1.nums, (decM t).1.texts with
  | [a, b, c, d, e, f], [] => if (decM t).2 = 0 ∧ (decM t).1.kind = 40 ∧ within3 a 0 4611686018427387904 = true ∧ within3 b (-1) 1 = true ∧ within3 c 1 3 = true ∧ within3 d 0 4611686018427387904 = true ∧ within3 e (-1) 4611686018427387904 = true ∧ within3 f (-1) 4611686018427387904 = true then ⟨a, b, c, d, e, f⟩ else .first
  | _, _ => .first
theorem factsOf_ok (t : Bytes) : (factsOf t).ok := by
  unfold factsOf
  split
  · split
    · rename_i h
      unfold within3 at h
      simp only [Bool.and_eq_true, decide_eq_true_eq] at h
      obtain ⟨-, -, h1, h2, h3, h4, h5, h6⟩ := h
      exact ⟨h1, h2, h3, h4, h5, h6⟩
    · exact FactM.first_ok
  · exact FactM.first_ok
theorem factsOf_rec {f : FactM} (h : f.ok) : factsOf (recB (factR f)) = f := by
  have e : decM (recB (factR f)) = (factR f, 0) := decM_some (recD_recB (fact_may h))
  unfold factsOf
  rw [e]
  have h1 := h.epoch; have h2 := h.holder; have h3 := h.mask; have h4 := h.change; have h5 := h.l0; have h6 := h.l1
  show (if _ then _ else _) = f
  rw [if_pos]
  simp [factR, within3, h1, h2, h3, h4, h5, h6]
structure WitM where
  c : CellM
  f : FactM
  left : Int
  wait : Int
def WitM.set (W : WitM) : WitM := { W with left := max W.wait 0 }
def WitM.put (W : WitM) (D : Dev) (f : FactM) : Int × WitM × Dev :=
  ((W.c.put D (recB (factR f))).1, { W with c := (W.c.put D (recB (factR f))).2.1, f := if (W.c.put D (recB (factR f))).1 = 0 then f else W.f }, (W.c.put D (recB (factR f))).2.2)
/-- Is a node in a mask? -/
def inM (mask node : Int) : Bool := if node = 0 then decide (mask % 2 = 1) else decide (2 ≤ mask)
def outM (mask node : Int) : Int := if node = 0 then (if 2 ≤ mask then 2 else 0) else mask % 2
def WitM.ask (W : WitM) (D : Dev) (from_ : Int) (m : MsgM) : Int × WitM × Dev :=
  if inM W.f.mask from_ = false then (20, W, D) else
  if W.f.holder = from_ ∧ m.seq = 0 ∧ m.epoch = W.f.epoch then (0, W.set, D) else
  if W.f.holder ≠ from_ ∧ 0 < W.left then (25, W, D) else
  if W.f.epoch = 4611686018427387904 then (22, W, D) else
  let r := W.put D { W.f with epoch := W.f.epoch + 1, holder := from_, change := 0 }
  (r.1, if r.1 = 0 then r.2.1.set else r.2.1, r.2.2)
def WitM.changed (W : WitM) (D : Dev) (from_ : Int) (m : MsgM) : Int × WitM × Dev :=
  if W.f.holder ≠ from_ ∨ m.epoch ≠ W.f.epoch then (20, W, D) else
  if within3 m.seq 1 3 = false ∨ inM m.seq from_ = false then (1, W, D) else
  if m.n ≤ W.f.change then (0, W, D) else
  W.put D { W.f with mask := m.seq, change := m.n }
def FactM.loss (f : FactM) (from_ : Int) : Int := if from_ = 0 then f.l0 else f.l1
def FactM.lose (f : FactM) (from_ n : Int) : FactM :=
  { f with holder := -1, l0 := if from_ = 0 then n else f.l0, l1 := if from_ = 0 then f.l1 else n, mask := if outM f.mask from_ ≠ 0 then outM f.mask from_ else f.mask }
def WitM.lost (W : WitM) (D : Dev) (from_ : Int) (m : MsgM) : Int × WitM × Dev :=
  if m.n ≤ W.f.loss from_ then (0, W, D) else W.put D (W.f.lose from_ m.n)
def WitM.handle (W : WitM) (D : Dev) (from_ : Int) (m : MsgM) : Option (Int × WitM × Dev) :=
  if m.kind = 1 then some (W.ask D from_ m) else if m.kind = 3 then some (W.changed D from_ m) else if m.kind = 4 then some (W.lost D from_ m) else none
def WitM.answer (W : WitM) (m : MsgM) (e : Int) : MsgM := ⟨if m.kind = 1 then 2 else m.kind, W.f.epoch, W.f.mask, m.n, -1, W.f.holder, e, 0, 0, 0, 0, [], []⟩
def WitM.take (W : WitM) (D : Dev) (from_ : Int) (m : MsgM) : (MsgM × Bool) × WitM × Dev :=
  if from_ < 0 ∨ 1 < from_ ∨ m.may = false then ((.zero, false), W, D) else
  match W.handle D from_ m with
  | none => ((.zero, false), W, D)
  | some r => if r.1 = 30 then ((.zero, false), r.2.1, r.2.2) else ((r.2.1.answer m r.1, true), r.2.1, r.2.2)
structure WitM.ok (W : WitM) (D : Dev) : Prop where
  c : W.c.ok D.l.length
  f : W.f.ok
  left : 0 ≤ W.left ∧ W.left ≤ 9223372036854775807
  wait : 1 ≤ W.wait ∧ W.wait ≤ 1099511627776
  d : D.ok
theorem put_l {C : CellM} {D : Dev} {s : Bytes} : (C.put D s).2.2.l.length = D.l.length := by
  unfold CellM.put
  split
  · rfl
  · split
    · rfl
    · dsimp only
      split
      · rw [write_l]
      · split
        · rw [barrier_l, write_l]
        · rw [barrier_l, write_l]
theorem WitM.put_ok {W : WitM} {D : Dev} {f : FactM} (h : W.ok D) (hf : f.ok) : (W.put D f).2.1.ok (W.put D f).2.2 := by
  have hp := Go.Sl.put_ok h.c h.d (recB (factR f))
  refine ⟨by unfold WitM.put; dsimp only; rw [put_l]; exact hp.1, ?_, h.left, h.wait, hp.2⟩
  unfold WitM.put; dsimp only
  split
  · exact hf
  · exact h.f
end Go.Sl
namespace Go.Sl
set_option linter.unusedSimpArgs false
theorem msg_one (m : MsgM) : ∀ u ∈ m.cells, u.oneCell' = true := by
  intro u hu
  simp only [MsgM.cells, List.mem_cons, List.not_mem_nil, or_false] at hu
  rcases hu with rfl | rfl | rfl | rfl | rfl | rfl | rfl | rfl | rfl | rfl | rfl | rfl | rfl <;> rfl
end Go.Sl
namespace Go.Sl
set_option linter.unusedSimpArgs false
theorem getd_get {α : Type} {l : List α} {i : Nat} {d : α} (h : i < l.length) : l[i]? = some (l.getD i d) := by
  rw [List.getElem?_eq_getElem h, List.getD_eq_getElem?_getD, List.getElem?_eq_getElem h]; rfl
def witE (D : Dev) (a b wait : Int) : Int := if within3 wait 1 1099511627776 = false then 1 else openE D a b
def witO (D : Dev) (a b wait : Int) : WitM := ⟨openC D a b, factsOf (openC D a b).text, wait, wait⟩
theorem within3_iff {n lo hi : Int} : within3 n lo hi = true ↔ lo ≤ n ∧ n ≤ hi := by unfold within3; simp
theorem witE_zero {D : Dev} {a b wait : Int} : witE D a b wait = 0 ↔ (1 ≤ wait ∧ wait ≤ 1099511627776) ∧ openE D a b = 0 := by
  unfold witE
  by_cases h : within3 wait 1 1099511627776 = false
  · rw [if_pos h]
    constructor
    · intro h; cases h
    · rintro ⟨h1, _⟩; rw [← within3_iff, h] at h1; cases h1
  · rw [if_neg h]
    exact ⟨fun h1 => ⟨within3_iff.1 (by simpa using h), h1⟩, fun h1 => h1.2⟩
end Go.Sl
namespace Go.Sl
set_option linter.unusedSimpArgs false
structure WGood (W : WitM) (D : Dev) (k : Nat) : Prop where
  up : Up D 2
  es : D.es = []
  c : W.c = openC D 0 1
  f : W.f = factsOf W.c.text
  gen : W.c.gen ≤ k
  left : 0 ≤ W.left ∧ W.left ≤ 9223372036854775807
  wait : 1 ≤ W.wait ∧ W.wait ≤ 1099511627776
theorem WGood.openE {W : WitM} {D : Dev} {k : Nat} (h : WGood W D k) : openE D 0 1 = 0 := openE_up h.up (by decide) (by decide) (by decide)
theorem WGood.cok {W : WitM} {D : Dev} {k : Nat} (h : WGood W D k) : W.c.ok 2 := by
  have := (openC_ok h.openE).1
  rw [h.up.len, ← h.c] at this
  exact this
theorem WGood.put {W : WitM} {D : Dev} {k : Nat} (h : WGood W D k) (hk : k < 4611686018427387904) {f : FactM} (hf : f.ok) :
    ∃ D' c', W.put D f = (0, { W with c := c', f := f }, D') ∧ WGood { W with c := c', f := f } D' (k + 1) := by
  have hl := fact_len hf
  have hg := h.gen
  obtain ⟨D', h1, h2⟩ := put_good h.up h.cok (s := recB (factR f)) (by omega) (by omega)
  have ho : openC D' 0 1 = (openC D 0 1).next (recB (factR f)) := open_next h.up.len h.openE (by omega) (by rw [← h.c]; omega) (by rw [← h.c]; exact h2)
  refine ⟨D', W.c.next (recB (factR f)), ?_, h2.up, h2.es, by rw [ho, h.c], ?_, ?_, h.left, h.wait⟩
  · unfold WitM.put; rw [h1]; rfl
  · exact (factsOf_rec hf).symm
  · show W.c.gen + 1 ≤ _; omega
theorem WGood.set {W : WitM} {D : Dev} {k : Nat} (h : WGood W D k) : WGood W.set D k := ⟨h.up, h.es, h.c, h.f, h.gen, by have := h.wait; simp only [WitM.set]; omega, h.wait⟩
theorem WGood.up1 {W : WitM} {D : Dev} {k : Nat} (h : WGood W D k) : WGood W D (k + 1) := ⟨h.up, h.es, h.c, h.f, by have := h.gen; omega, h.left, h.wait⟩
abbrev FL := FactM × Int
def askF (f : FactM) (left wait fr : Int) (m : MsgM) : Int × FL :=
  if inM f.mask fr = false then (20, f, left) else if f.holder = fr ∧ m.seq = 0 ∧ m.epoch = f.epoch then (0, f, wait) else
  if f.holder ≠ fr ∧ 0 < left then (25, f, left) else if f.epoch = 4611686018427387904 then (22, f, left) else (0, { f with epoch := f.epoch + 1, holder := fr, change := 0 }, wait)
def changedF (f : FactM) (left fr : Int) (m : MsgM) : Int × FL :=
  if f.holder ≠ fr ∨ m.epoch ≠ f.epoch then (20, f, left) else if within3 m.seq 1 3 = false ∨ inM m.seq fr = false then (1, f, left) else
  if m.n ≤ f.change then (0, f, left) else (0, { f with mask := m.seq, change := m.n }, left)
def lostF (f : FactM) (left fr : Int) (m : MsgM) : Int × FL := if m.n ≤ f.loss fr then (0, f, left) else (0, f.lose fr m.n, left)
def handleF (f : FactM) (left wait fr : Int) (m : MsgM) : Option (Int × FL) :=
  if m.kind = 1 then some (askF f left wait fr m) else if m.kind = 3 then some (changedF f left fr m) else if m.kind = 4 then some (lostF f left fr m) else none
def ansF (f : FactM) (m : MsgM) (e : Int) : MsgM := ⟨if m.kind = 1 then 2 else m.kind, f.epoch, f.mask, m.n, -1, f.holder, e, 0, 0, 0, 0, [], []⟩
def takeF (f : FactM) (left wait fr : Int) (m : MsgM) : (MsgM × Bool) × FL :=
  if fr < 0 ∨ 1 < fr ∨ m.may = false then ((.zero, false), f, left) else
  match handleF f left wait fr m with
  | none => ((.zero, false), f, left)
  | some r => ((ansF r.2.1 m r.1, true), r.2)
end Go.Sl
namespace Go.Sl
set_option linter.unusedSimpArgs false
end Go.Sl
/- From the readings of arguments to messages and acts. -/
namespace Go.Sl
open Go.ChangeShapes Go.WideShapes Go.ChangeAt Go.RowKit Go.Deep
set_option linter.unusedSimpArgs false
structure ActW where
  kind : Int
  n : Int
  fr : Int
  m : MsgM
  s : Bytes
  kv : Value
  ks : Keeps
def ActW.cells (a : ActW) : List Value := [.int .i64 a.kind, .int .i64 a.n, .int .i64 a.fr] ++ a.m.cells ++ [.string ⟨a.s.toArray⟩, a.kv]
structure ActW.ok [Env] (R : List Seg) (a : ActW) : Prop where
  keeps : RdV R a.kv a.ks.length (keepsV a.ks)
  n : -9223372036854775808 ≤ a.n ∧ a.n ≤ 9223372036854775807
  fr : -9223372036854775808 ≤ a.fr ∧ a.fr ≤ 9223372036854775807
theorem ActW.ok.mono [Env] {R R' : List Seg} {a : ActW} (h : a.ok R) (hg : Ge R' R) : a.ok R' := ⟨h.keeps.mono hg, h.n, h.fr⟩
structure ActB where
  kind : Int
  n : Int
  m : MsgM
  s : Bytes
  kv : Value
  ks : Keeps
def ActB.cells (a : ActB) : List Value := [.int .i64 a.kind, .int .i64 a.n] ++ a.m.cells ++ [.string ⟨a.s.toArray⟩, a.kv]
structure ActB.ok [Env] (R : List Seg) (a : ActB) : Prop where
  keeps : RdV R a.kv a.ks.length (keepsV a.ks)
  n : -9223372036854775808 ≤ a.n ∧ a.n ≤ 9223372036854775807
theorem ActB.ok.mono [Env] {R R' : List Seg} {a : ActB} (h : a.ok R) (hg : Ge R' R) : a.ok R' := ⟨h.keeps.mono hg, h.n⟩
theorem flat_at {α : Type} {f : α → List Value} {k : Nat} (hf : ∀ x, (f x).length = k) : ∀ (l : List α) (i : Nat) (x : α), l[i]? = some x → ((((l.map f).flatten).drop (i * k)).take k) = f x
  | [], i, x, h => by simp at h
  | z :: l, 0, x, h => by
    simp at h; subst h
    simp only [List.map_cons, List.flatten_cons, Nat.zero_mul, List.drop_zero]
    rw [List.take_append_of_le_length (by rw [hf]; exact Nat.le_refl _), List.take_of_length_le (by rw [hf]; exact Nat.le_refl _)]
  | z :: l, i + 1, x, h => by
    have := flat_at hf l i x (by simpa using h)
    rw [show (i + 1) * k = k + i * k by rw [Nat.succ_mul]; omega, ← List.drop_drop]
    simp only [List.map_cons, List.flatten_cons]
    have e : (f z ++ (List.map f l).flatten).drop k = (List.map f l).flatten := List.drop_left' (hf z)
    rw [e]
    exact this
def fieldsAt (P : Program) (fs : Array Field) (l : List (Nat × Nat)) : Bool := (fs.toList.zip l).all fun x => Nat.beq x.1.offset x.2.1 && Nat.beq (P.cellsOf x.1.type) x.2.2
theorem at_of {P : Program} {fs : Array Field} {l : List (Nat × Nat)} (h : fieldsAt P fs l = true) (i : Nat) (f : Field) (q : Nat × Nat) (hf : fs[i]? = some f) (hq : l[i]? = some q) : f.offset = q.1 ∧ P.cellsOf f.type = q.2 := by
  have hm : (f, q) ∈ fs.toList.zip l := by
    have : (fs.toList.zip l)[i]? = some (f, q) := by rw [List.getElem?_zip_eq_some]; exact ⟨by simpa using hf, hq⟩
    exact List.mem_of_getElem? this
  have := List.all_eq_true.1 h _ hm
  simp only [Bool.and_eq_true] at this
  exact ⟨Nat.eq_of_beq_eq_true this.1, Nat.eq_of_beq_eq_true this.2⟩
section
variable {H : Type} {enc : TypeId × Value → H} {P : Program} {W : World} {base : Nat} {spare : Nat → Bool} {held : Bool}
theorem open_str {e n : Nat} {cs : List Value} {y : DataW H × List MemPlace} (he : P.underlying e = some .string) (h : DataW.trod enc P W base spare held n e cs = some y) : ∃ b : Bytes, cs = [.string ⟨b.toArray⟩] := by
  obtain ⟨s, hs, _⟩ := DataW.trod_string he h
  exact ⟨s.data.toList, by rw [hs, ← str_eta]⟩
/-- A struct's field, with its place. -/
theorem open_fld {fs : Array Field} {l : List (Nat × Nat)} {cs : List Value} {xs : List (DataW H × List MemPlace)} {n : Nat} (hat : fieldsAt P fs l = true)
    (hf : ∀ (i : Nat) (f : Field), fs[i]? = some f → DataW.trod enc P W base spare held n f.type ((cs.drop f.offset).take (P.cellsOf f.type)) = xs[i]?) (hx : xs.length = fs.size)
    (i : Nat) (f : Field) (o k : Nat) (h1 : fs[i]? = some f) (h2 : l[i]? = some (o, k)) : ∃ y, DataW.trod enc P W base spare held n f.type ((cs.drop o).take k) = some y := by
  obtain ⟨a, b⟩ := at_of hat i f (o, k) h1 h2
  have := hf i f h1
  rw [a, b] at this
  have hi : i < fs.size := by
    rcases Nat.lt_or_ge i fs.size with h | h
    · exact h
    · rw [Array.getElem?_eq_none h] at h1; cases h1
  exact ⟨_, this.trans (List.getElem?_eq_getElem (by omega))⟩
end
end Go.Sl
namespace Go.Sl
set_option linter.unusedSimpArgs false
theorem RdV.src [Env] {P : Program} {L : List Seg} {size m : Nat} {v : Value} {vs : List Value} (h : RdV L v m vs) (hl : vs.length = m * size) : Src P L size v m vs := by
  rcases h with ⟨rfl, rfl, rfl⟩ | ⟨a, c, rfl, h3, h2⟩
  · exact src_nil
  · refine ⟨hl, fun w hh => ⟨by simp [Builtin.lenOf], ?_⟩⟩
    refine run_firstCells_some w size m _ m c vs hl (fun j v hj => ?_)
    have hj' : j < vs.length := by
      rcases Nat.lt_or_ge j vs.length with h | h
      · exact h
      · rw [List.getElem?_eq_none h] at hj; cases hj
    have hm : m ≠ 0 := fun h0 => by rw [h0, Nat.zero_mul] at hl; omega
    have hs := h3 hm
    have := h2 w hh j hj'
    rw [List.getElem?_eq_getElem hj'] at hj
    cases hj
    cases a
    simp at hs
    subst hs
    rw [add_lit]
    exact this
theorem mget_put {kv : Kv} {c : Nat} {k e : Int} {v : Value} : mget (mput kv c k v) e = if e = k then some v else mget kv e := by
  unfold mput mget
  by_cases h : kv.any (fun x => decide (x.1 = k)) = true
  · rw [if_pos h]
    unfold mset
    induction kv with
    | nil => simp at h
    | cons x kv ih =>
      simp only [List.map_cons, List.find?_cons]
      by_cases hx : x.1 = k
      · rw [if_pos hx]
        by_cases hek : e = k
        · subst hek; simp
        · have h1 : decide (k = e) = false := by simp; omega
          have h2 : decide (x.1 = e) = false := by simp; omega
          simp only [h1, h2, if_neg hek]
          by_cases h3 : kv.any (fun x => decide (x.1 = k)) = true
          · have := ih h3
            rw [if_neg hek] at this
            exact this
          · have e1 : (kv.map fun x => if x.1 = k then (k, v, x.2.2) else x) = kv := by
              have : ∀ x ∈ kv, (if x.1 = k then (k, v, x.2.2) else x) = x := fun y hy => by
                rw [if_neg]
                intro hyk
                exact h3 (List.any_eq_true.2 ⟨y, hy, by simp [hyk]⟩)
              exact (List.map_congr_left this).trans (List.map_id kv)
            rw [e1]
      · rw [if_neg hx]
        have h3 : kv.any (fun x => decide (x.1 = k)) = true := by simpa [hx] using h
        by_cases hxe : x.1 = e
        · have hek : e ≠ k := by omega
          simp [hxe, hek]
        · have h2 : decide (x.1 = e) = false := by simp [hxe]
          simp only [h2]
          exact ih h3
  · rw [if_neg h, List.find?_append]
    by_cases hek : e = k
    · subst hek
      have : kv.find? (fun x => decide (x.1 = e)) = none := by
        rw [List.find?_eq_none]
        intro x hx hxe
        exact h (List.any_eq_true.2 ⟨x, hx, hxe⟩)
      simp [this]
    · have h1 : decide (k = e) = false := by simp; omega
      rw [if_neg hek]
      simp [List.find?_cons, h1]
theorem uniq_put {kv : Kv} {c : Nat} {k : Int} {v : Value} (h : uniq kv) : uniq (mput kv c k v) := by
  unfold mput
  by_cases hq : kv.any (fun x => decide (x.1 = k)) = true
  · rw [if_pos hq]
    unfold uniq mset at *
    rw [List.map_map]
    have : ((fun x : Int × Value × Nat => x.1) ∘ fun x => if x.1 = k then (k, v, x.2.2) else x) = fun x => x.1 := by
      funext x
      simp only [Function.comp]
      split
      · rename_i h; exact h.symm
      · rfl
    rw [this]
    exact h
  · rw [if_neg hq]
    unfold uniq at *
    rw [List.map_append, List.map_cons, List.map_nil]
    refine List.nodup_append.2 ⟨h, by simp, fun a ha b hb => ?_⟩
    simp at hb
    subst hb
    rintro rfl
    obtain ⟨x, hx, hxk⟩ := List.mem_map.1 ha
    exact hq (List.any_eq_true.2 ⟨x, hx, by simp [hxk]⟩)
structure OwnOk (kv : Kv) (g : Int → Option Int) : Prop where
  un : uniq kv
  get : ∀ e, mget kv e = (g e).map fun n => .int .i64 n
theorem OwnOk.put {kv : Kv} {g : Int → Option Int} (h : OwnOk kv g) (c : Nat) (e w : Int) : OwnOk (mput kv c e (.int .i64 w)) (fun x => if x = e then some w else g x) := by
  refine ⟨uniq_put h.un, fun x => ?_⟩
  rw [mget_put]
  split
  · rfl
  · exact h.get x
def maskK (ks : Keeps) : Keeps := ks.map fun x => (bAnd .i64 x.1 1, x.2)
structure LifeM where
  W : WitM
  D : Dev
  g : Int → Option Int
  bad : Bool
def grantB (a : MsgM × Bool) : Bool := a.2 && decide (a.1.kind = 2) && decide (a.1.e = 0)
def WitM.ticks (W : WitM) (k : Nat) : WitM := { W with left := max (W.left - k) 0 }
def actT (n : Int) : Nat := (n.tmod 50).toNat
def LifeM.act (w : LifeM) (x : ActW) : (MsgM × Bool) × LifeM :=
  if x.kind = 0 then
    let r := w.W.take w.D x.fr x.m
    if grantB r.1 = true then
      (r.1, ⟨r.2.1, r.2.2, fun e => if e = r.1.1.epoch then some x.fr else w.g e, w.bad || ((w.g r.1.1.epoch).isSome && decide ((w.g r.1.1.epoch).getD 0 ≠ x.fr)) || decide (r.1.1.client ≠ x.fr) || decide (r.1.1.epoch < 1)⟩)
    else (r.1, ⟨r.2.1, r.2.2, w.g, w.bad⟩)
  else if x.kind = 1 then ((.zero, false), { w with W := w.W.ticks (actT x.n) })
  else if x.kind = 2 then ((.zero, false), { w with W := witO (w.D.crash (maskK x.ks)) 0 1 w.W.wait, D := w.D.crash (maskK x.ks) })
  else if x.kind = 3 then ((.zero, false), { w with D := w.D.setFuse x.n })
  else ((.zero, false), w)
def maskN (ks : Keeps) (k : Nat) : Keeps := maskK (ks.take k) ++ ks.drop k
theorem maskN_all (ks : Keeps) : maskN ks ks.length = maskK ks := by simp [maskN]
theorem maskN_len (ks : Keeps) (k : Nat) : (maskN ks k).length = ks.length := by simp [maskN, maskK]; omega
theorem maskN_get {ks : Keeps} {k : Nat} {x : Int × Int} (h : ks[k]? = some x) : (maskN ks k)[k]? = some x := by
  have hk : k < ks.length := (List.getElem?_eq_some_iff.1 h).1
  unfold maskN maskK
  rw [List.getElem?_append_right (by simp; omega), List.getElem?_drop]
  simp only [List.length_map, List.length_take]
  rw [show k + (k - min k ks.length) = k by omega]
  exact h
theorem maskN_set {ks : Keeps} {k : Nat} {x : Int × Int} (h : ks[k]? = some x) : (maskN ks k).set k (bAnd .i64 x.1 1, x.2) = maskN ks (k + 1) := by
  have hk : k < ks.length := (List.getElem?_eq_some_iff.1 h).1
  unfold maskN maskK
  rw [List.set_append_right _ _ (by simp; omega)]
  simp only [List.length_map, List.length_take]
  rw [show k - min k ks.length = 0 by omega, List.drop_eq_getElem_cons hk]
  have hx : ks[k] = x := by rw [List.getElem?_eq_getElem hk] at h; exact Option.some.inj h
  rw [List.set_cons_zero, List.take_add_one, h]
  simp
theorem keepsV_set {ks : Keeps} {k : Nat} {x : Int × Int} {h : Int} (hk : ks[k]? = some x) : (keepsV ks).set (k * 2) (.int .i64 h) = keepsV (ks.set k (h, x.2)) := by
  induction ks generalizing k with
  | nil => simp at hk
  | cons z ks ih =>
    cases k with
    | zero =>
      simp at hk; subst hk
      simp [keepsV]
    | succ k =>
      have := ih (k := k) (by simpa using hk)
      simp only [keepsV, List.map_cons, List.flatten_cons, List.set_cons_succ, List.cons_append, List.nil_append] at this ⊢
      rw [show (k + 1) * 2 = k * 2 + 1 + 1 by omega, List.set_cons_succ, List.set_cons_succ, this]
theorem keepsV_get0 {ks : Keeps} {k : Nat} {x : Int × Int} (hk : ks[k]? = some x) : (keepsV ks)[k * 2]? = some (.int .i64 x.1) := by
  induction ks generalizing k with
  | nil => simp at hk
  | cons z ks ih =>
    cases k with
    | zero => simp at hk; subst hk; simp [keepsV]
    | succ k =>
      have := ih (k := k) (by simpa using hk)
      rw [show (k + 1) * 2 = k * 2 + 1 + 1 by omega]
      simpa [keepsV] using this
theorem keepsV_len2 (ks : Keeps) : (keepsV ks).length = ks.length * 2 := by
  induction ks with
  | nil => rfl
  | cons z ks ih =>
    simp only [keepsV, List.map_cons, List.flatten_cons, List.length_append, List.length_cons, List.length_nil] at ih ⊢
    omega
theorem keepsV_one (ks : Keeps) : ∀ u ∈ keepsV ks, u.oneCell' = true := by
  intro u hu
  unfold keepsV at hu
  obtain ⟨l, hl, hul⟩ := List.mem_flatten.1 hu
  obtain ⟨x, _, rfl⟩ := List.mem_map.1 hl
  simp only [List.mem_cons, List.not_mem_nil, or_false] at hul
  rcases hul with rfl | rfl <;> rfl
theorem svOk_same {s : Sv} {m k : Nat} {xs ys : List Value} (h : svOk s m k xs) (hl : ys.length = xs.length) : svOk s m k ys := by
  cases s with
  | none =>
    obtain ⟨h1, h2⟩ := h
    subst h2
    exact ⟨h1, List.eq_nil_of_length_eq_zero hl⟩
  | some p =>
    obtain ⟨h1, h2, h3, h4⟩ := h
    refine ⟨h1, h2, hl.trans h3, ?_⟩
    rw [List.length_append] at h4 ⊢
    rw [hl]; exact h4
theorem maskK_len (ks : Keeps) : (maskK ks).length = ks.length := by simp [maskK]
end Go.Sl
namespace Go.Sl
set_option linter.unusedSimpArgs false
structure OwnInv (g : Int → Option Int) (f : FactM) : Prop where
  own : ∀ e w, g e = some w → e ≤ f.epoch ∧ (e = f.epoch → f.holder = w ∨ f.holder = -1)
  held : f.holder ≠ -1 → 1 ≤ f.epoch
structure ActGood (W : WitM) (D : Dev) (g : Int → Option Int) (x : ActW) (k : Nat) (w : (MsgM × Bool) × LifeM) : Prop where
  good : WGood w.2.W w.2.D k
  wait : w.2.W.wait = W.wait
  own : OwnInv w.2.g w.2.W.f
  bad : w.2.bad = false
  left : w.2.W.left = if x.kind = 1 then max (W.left - actT x.n) 0 else if grantB w.1 = true then W.wait else W.left
  ans : w.1 = if x.kind = 0 then (takeF W.f W.left W.wait x.fr x.m).1 else (.zero, false)
  f : w.2.W.f = if x.kind = 0 then (takeF W.f W.left W.wait x.fr x.m).2.1 else W.f
theorem WGood.ticks {W : WitM} {D : Dev} {k : Nat} (h : WGood W D k) (n : Nat) : WGood (W.ticks n) D k := ⟨h.up, h.es, h.c, h.f, h.gen, by have := h.left; simp only [WitM.ticks]; omega, h.wait⟩
theorem ActW.ok.one [Env] {R : List Seg} {a : ActW} (h : a.ok R) : ∀ u ∈ a.cells, u.oneCell' = true := by
  obtain ⟨b, c, e⟩ := h.keeps.lenVal
  intro u hu
  unfold ActW.cells at hu
  rcases List.mem_append.1 hu with hu | hu
  · rcases List.mem_append.1 hu with hu | hu
    · simp only [List.mem_cons, List.not_mem_nil, or_false] at hu
      rcases hu with rfl | rfl | rfl <;> rfl
    · exact msg_one _ u hu
  · simp only [List.mem_cons, List.not_mem_nil, or_false] at hu
    rcases hu with rfl | rfl
    · rfl
    · rw [e]; rfl
structure LsM where
  W : WitM
  D : Dev
  kv : Kv
  n : Nat
  g : Int → Option Int
  s : Nat
  c : Nat
structure LsM.ok (S : LsM) (wt : Int) (k : Nat) : Prop where
  good : WGood S.W S.D k
  inv : OwnInv S.g S.W.f
  own : OwnOk S.kv S.g
  wait : S.W.wait = wt
theorem LsM.ok.up1 {S : LsM} {wt : Int} {k : Nat} (h : S.ok wt k) : S.ok wt (k + 1) := ⟨h.good.up1, h.inv, h.own, h.wait⟩
theorem ActGood.none {W : WitM} {D : Dev} {g : Int → Option Int} {x : ActW} {k : Nat} {w : (MsgM × Bool) × LifeM} (hA : ActGood W D g x k w) (h : x.kind ≠ 0) : w.1 = (.zero, false) := by rw [hA.ans, if_neg h]
theorem LsM.ok.open {S : LsM} {wt : Int} {k : Nat} (h : S.ok wt k) : witE S.D 0 1 wt = 0 ∧ witO S.D 0 1 wt = { S.W with left := wt } := by
  have hw := h.good.wait
  rw [h.wait] at hw
  refine ⟨witE_zero.2 ⟨hw, h.good.openE⟩, ?_⟩
  unfold witO
  have e1 := h.good.c
  have e2 := h.good.f
  rw [← e1, ← e2]
  have e3 := h.wait
  generalize S.W = W at *
  cases W
  simp at e3
  rw [e3]
end Go.Sl
namespace Go.Sl
set_option linter.unusedSimpArgs false
structure HalfD (D Dp : Dev) (n : Nat) (o : Int) (p : Bytes) : Prop where
  live : Live Dp n
  ok : D.ok
  l : D.l = Dp.l
  dead : D.dead = true
  es : D.es = [] ∨ ∃ c, D.es = [(o, p, c)]
  o : 0 ≤ o ∧ o < n
theorem write_30 {D : Dev} {i : Int} {bs : Bytes} (h : (D.write i bs).1 = 30) : (D.write i bs).2.dead = true := by
  unfold Dev.write at h ⊢
  by_cases c1 : D.has i ≠ 0
  · rw [if_pos c1] at h ⊢
    unfold Dev.has at h
    by_cases c2 : D.dead = true
    · exact c2
    · rw [if_neg c2] at h; split at h <;> cases h
  · rw [if_neg c1] at h ⊢
    by_cases c2 : (144 : Int) < bs.length
    · rw [if_pos c2] at h; cases h
    · rw [if_neg c2] at h ⊢
      by_cases c3 : D.act.1 ≠ 0
      · rw [if_pos c3] at h ⊢
        unfold Dev.act at h ⊢
        by_cases c4 : D.fuse = 0
        · rw [if_pos c4]
        · rw [if_neg c4] at h; cases h
      · rw [if_neg c3] at h; cases h
theorem barrier_30 {D : Dev} (h : ¬ D.barrier.1 = 0) : D.barrier.2.dead = true := by
  unfold Dev.barrier at h ⊢
  by_cases c1 : D.dead = true
  · rw [if_pos c1]; exact c1
  · rw [if_neg c1] at h ⊢
    by_cases c3 : D.act.1 ≠ 0
    · rw [if_pos c3]
      unfold Dev.act at c3 ⊢
      by_cases c4 : D.fuse = 0
      · rw [if_pos c4]
      · rw [if_neg c4] at c3; exact absurd rfl c3
    · rw [if_neg c3] at h; exact absurd rfl h
theorem put_30 {C : CellM} {D D' : Dev} {s : Bytes} (h : C.put D s = (30, C, D')) : D'.dead = true := by
  unfold CellM.put at h
  by_cases c1 : (100 : Int) < s.length
  · rw [if_pos c1] at h; simp at h
  rw [if_neg c1] at h
  by_cases c2 : C.gen = 4611686018427387904
  · rw [if_pos c2] at h; simp at h
  rw [if_neg c2] at h
  dsimp only at h
  by_cases c3 : (D.write C.other (slotM (IntKind.i64.wrap (C.gen + 1)) s)).1 ≠ 0
  · rw [if_pos c3] at h
    simp only [Prod.mk.injEq, true_and] at h
    rw [← h.2]; exact write_30 h.1
  rw [if_neg c3] at h
  by_cases c4 : (D.write C.other (slotM (IntKind.i64.wrap (C.gen + 1)) s)).2.barrier.1 ≠ 0
  · rw [if_pos c4] at h
    simp only [Prod.mk.injEq, true_and] at h
    rw [← h.2]; exact barrier_30 c4
  · rw [if_neg c4] at h; simp at h
theorem put_dead {C : CellM} {D : Dev} {s : Bytes} (hd : D.dead = true) (hs : s.length ≤ 100) (hg : C.gen < 4611686018427387904) : C.put D s = (30, C, D) := by
  have e : D.write C.other (slotM (IntKind.i64.wrap (C.gen + 1)) s) = (30, D) := by
    have : D.has C.other = 30 := by unfold Dev.has; rw [if_pos hd]
    unfold Dev.write; rw [this, if_pos (by decide)]
  unfold CellM.put
  rw [if_neg (by omega), if_neg (by omega), e]
  dsimp only
  rw [if_pos (by decide)]
theorem live_openC {D : Dev} {n : Nat} {a b : Int} (h : Live D n) (hab : a ≠ b) (ha : 0 ≤ a ∧ a < n) (hb : 0 ≤ b ∧ b < n) : openE D a b = 0 ∧ (openC D a b).ok n := by
  have hE : openE D a b = 0 := openE_ok hab (by omega) (by rw [h.len]; omega) (by rw [h.live]; decide)
  have := (openC_ok hE).1
  rw [h.len] at this
  exact ⟨hE, this⟩
/-- A put on a device that is alive. -/
theorem put_live {D : Dev} {n : Nat} {a b : Int} {s : Bytes} (hL : Live D n) (hC : (openC D a b).ok n) (hs : s.length ≤ 100) (hg : (openC D a b).gen < 4611686018427387904) :
    (∃ D', (openC D a b).put D s = (0, (openC D a b).next s, D') ∧ Live D' n ∧ openC D' a b = (openC D a b).next s ∧ ∀ j : Int, 0 ≤ j → j < n → j ≠ (openC D a b).other → D'.sec j = D.sec j) ∨
    (∃ D', (openC D a b).put D s = (30, openC D a b, D') ∧ HalfD D' D n (openC D a b).other (pad (slotM ((openC D a b).gen + 1) s))) := by
  have hgen := hC.gen
  have hp := put_res hL hC hs hg
  by_cases h0 : ((openC D a b).put D s).1 = 0
  · obtain ⟨D', h1, h2, h3, h4⟩ := putRes_zero hp h0
    exact .inl ⟨D', h1, h2, open_next' hC hs hg (by rw [h3]; exact readM_pad (by rw [slotOk_iff]; omega)) h4, h4⟩
  · obtain ⟨D', h1, h2, h3, h4⟩ := putRes_fail hp h0
    exact .inr ⟨D', h1, hL, h2, h3, put_30 h1, h4, other_in hC⟩
theorem half_crash {D Dp : Dev} {n : Nat} {o : Int} {p : Bytes} (h : HalfD D Dp n o p) {ks : Keeps} (hk : ∀ x ∈ ks, x.1 ≠ 2) :
    Live (D.crash ks) n ∧ (∀ j : Int, 0 ≤ j → j < n → j ≠ o → (D.crash ks).sec j = Dp.sec j) ∧ ((D.crash ks).sec o = Dp.sec o ∨ (D.crash ks).sec o = p) := by
  have hU := crash_up h.ok ks
  have hlen : D.l.length = n := by rw [h.l]; exact h.live.len
  rw [hlen] at hU
  have hLc : Live (D.crash ks) n := ⟨hU.ok, hU.len, hU.live, rfl⟩
  refine ⟨hLc, fun j h0 h1 hj => ?_, ?_⟩
  · rcases h.es with he | ⟨c, he⟩
    · exact crash_none ks h.live h.l he j
    · rw [sec_crash_other h.ok h0, h.l, sec_l h.live.es]
      intro hm
      have : j ∈ D.es.map (·.1) := (List.mergeSort_perm _ _).mem_iff.1 hm
      rw [he] at this
      simp at this
      exact hj this
  · rcases h.es with he | ⟨c, he⟩
    · exact .inl (crash_none ks h.live h.l he o)
    · have hp : D.pending = [o] := by unfold Dev.pending; rw [he]; simp
      have hso : D.sec o = p := by unfold Dev.sec; rw [he]; simp [eget]
      have hoi := h.o
      rw [sec_l hLc.es, sec_l h.live.es, ← h.l]
      unfold Dev.crash
      dsimp only
      rw [hp]
      cases ks with
      | nil => left; rw [crashL_nil']
      | cons x ks =>
        unfold crashL
        rw [crashL_nil, List.getElem?_set_self (by omega), Option.getD_some, hso]
        unfold keep1
        split
        · exact .inr rfl
        · rw [if_neg (hk x (List.mem_cons_self ..))]
          left
          have : o.toNat < D.l.length := by omega
          simp [List.getElem?_eq_getElem this]
/-- The cell that was under way. -/
theorem half_cell {D Dp : Dev} {n : Nat} {a b : Int} {s : Bytes} (h : HalfD D Dp n (openC Dp a b).other (pad (slotM ((openC Dp a b).gen + 1) s))) {ks : Keeps} (hk : ∀ x ∈ ks, x.1 ≠ 2)
    (hC : (openC Dp a b).ok n) (hs : s.length ≤ 100) (hg : (openC Dp a b).gen < 4611686018427387904) : openC (D.crash ks) a b = openC Dp a b ∨ openC (D.crash ks) a b = (openC Dp a b).next s := by
  have hgen := hC.gen
  obtain ⟨_, h1, h2⟩ := half_crash h hk
  rcases h2 with h2 | h2
  · left
    have hall : ∀ j : Int, 0 ≤ j → j < n → (D.crash ks).sec j = Dp.sec j := fun j j0 j1 => by
      by_cases hj : j = (openC Dp a b).other
      · rw [hj]; exact h2
      · exact h1 j j0 j1 hj
    have e := openC_ab Dp a b
    have ha := hC.a
    have hb := hC.b
    rw [e.1] at ha
    rw [e.2] at hb
    exact open_same (hall a ha.1 ha.2) (hall b hb.1 hb.2)
  · right
    exact open_next' hC hs hg (by rw [h2]; exact readM_pad (by rw [slotOk_iff]; omega)) h1
end Go.Sl
namespace Go.Sl
set_option linter.unusedSimpArgs false
/-- Facts that may follow. -/
def Cand (f f' : FactM) : Prop := (f'.epoch = f.epoch ∧ (f'.holder = f.holder ∨ f'.holder = -1)) ∨ f'.epoch = f.epoch + 1
inductive OneI (W : WitM) (D : Dev) (k : Nat) : Prop where
  | live (hL : Live D 2) (hc : W.c = openC D 0 1) (hf : W.f = factsOf W.c.text) (hg : W.c.gen ≤ k)
  | half (Dp : Dev) (f' : FactM) (hf' : f'.ok) (hC : Cand W.f f') (hc : W.c = openC Dp 0 1) (hf : W.f = factsOf W.c.text) (hg : W.c.gen ≤ k) (hH : HalfD D Dp 2 W.c.other (pad (slotM (W.c.gen + 1) (recB (factR f')))))
theorem OneI.up1 {W : WitM} {D : Dev} {k : Nat} (h : OneI W D k) : OneI W D (k + 1) := by
  cases h with
  | live hL hc hf hg => exact .live hL hc hf (by omega)
  | half Dp f' hf' hC hc hf hg hH => exact .half Dp f' hf' hC hc hf (by omega) hH
theorem OneI.left {W : WitM} {D : Dev} {k : Nat} (h : OneI W D k) (n : Int) : OneI { W with left := n } D k := by
  cases h with
  | live hL hc hf hg => exact .live hL hc hf hg
  | half Dp f' hf' hC hc hf hg hH => exact .half Dp f' hf' hC hc hf hg hH
theorem OneI.base {W : WitM} {D : Dev} {k : Nat} (h : OneI W D k) : W.c.ok 2 ∧ W.f.ok ∧ D.ok ∧ D.l.length = 2 ∧ W.c.gen ≤ k := by
  cases h with
  | live hL hc hf hg => exact ⟨by rw [hc]; exact (live_openC hL (by decide) (by decide) (by decide)).2, by rw [hf]; exact factsOf_ok _, hL.ok, hL.len, hg⟩
  | half Dp f' hf' hC hc hf hg hH => exact ⟨by rw [hc]; exact (live_openC hH.live (by decide) (by decide) (by decide)).2, by rw [hf]; exact factsOf_ok _, hH.ok, by rw [hH.l]; exact hH.live.len, hg⟩
/-- A put of facts that may follow. -/
theorem OneI.put {W : WitM} {D : Dev} {k : Nat} (h : OneI W D k) (hk : k < 4611686018427387904) {f' : FactM} (hf' : f'.ok) (hC : Cand W.f f') :
    (∃ c' D', W.put D f' = (0, { W with c := c', f := f' }, D') ∧ OneI { W with c := c', f := f' } D' (k + 1)) ∨ (∃ D', W.put D f' = (30, W, D') ∧ OneI W D' (k + 1)) := by
  have hl := fact_len hf'
  obtain ⟨b1, b2, b3, b4, b5⟩ := h.base
  cases h with
  | live hL hc hf hg =>
    rw [hc] at b1 b5
    rcases put_live (s := recB (factR f')) hL b1 (by omega) (by omega) with ⟨D', h1, h2, h3, _⟩ | ⟨D', h1, h2⟩
    · left
      rw [← hc] at h1 h3
      refine ⟨W.c.next (recB (factR f')), D', ?_, .live h2 h3.symm (factsOf_rec hf').symm ?_⟩
      · unfold WitM.put; rw [h1]; rfl
      · show W.c.gen + 1 ≤ _; omega
    · right
      rw [← hc] at h1 h2
      refine ⟨D', ?_, .half D f' hf' hC hc hf (by omega) h2⟩
      unfold WitM.put; rw [h1]; rfl
  | half Dp f2 hf2 hC2 hc hf hg hH =>
    right
    refine ⟨D, ?_, .half Dp f2 hf2 hC2 hc hf (by omega) hH⟩
    unfold WitM.put
    rw [put_dead hH.dead (by omega) (by omega)]
    rfl
theorem bAnd1 (p : Int) : bAnd .i64 p 1 ≠ 2 := by
  unfold bAnd
  have h : (BitVec.ofInt IntKind.i64.bits p &&& BitVec.ofInt IntKind.i64.bits 1).toNat ≤ 1 := by
    rw [BitVec.toNat_and]
    have : (BitVec.ofInt IntKind.i64.bits 1).toNat = 1 := by decide
    rw [this]
    exact Nat.and_le_right
  rw [wr (by omega) (by omega)]
  omega
theorem maskK_no2 (ks : Keeps) : ∀ x ∈ maskK ks, x.1 ≠ 2 := by
  intro x hx
  obtain ⟨y, _, rfl⟩ := List.mem_map.1 hx
  exact bAnd1 y.1
end Go.Sl
