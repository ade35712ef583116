/- A part of the proof: contracts and plain lemmas, each without conditions beyond those that it names. -/
import Derived.Test.YtediodfmkbfomaaGreatGG
import Derived.Test.YtediodfmkbfomaaGreatGC
import Derived.Test.YtediodfmkbfomaaGreatGI
import Derived.OpenShut
set_option linter.unusedVariables false
set_option linter.unusedSimpArgs false
set_option linter.constructorNameAsVariable false
namespace Go.Sl
set_option linter.unusedSimpArgs false
structure MsgM where
  kind : Int
  epoch : Int
  seq : Int
  n : Int
  block : Int
  client : Int
  e : Int
  t0 : Int
  t1 : Int
  t2 : Int
  t3 : Int
  data : Bytes
  row : Bytes
  deriving DecidableEq
def iV (n : Int) : Value := .int .i64 n
def sV (t : Bytes) : Value := .string ⟨t.toArray⟩
def MsgM.cells (m : MsgM) : List Value := [.int .i64 m.kind, .int .i64 m.epoch, .int .i64 m.seq, .int .i64 m.n, .int .i64 m.block, .int .i64 m.client, .int .i64 m.e, .int .i64 m.t0, .int .i64 m.t1, .int .i64 m.t2, .int .i64 m.t3, .string ⟨m.data.toArray⟩, .string ⟨m.row.toArray⟩]
def MsgM.zero : MsgM := ⟨0, 0, 0, 0, 0, 0, 0, 0, 0, 0, 0, [], []⟩
def within3 (n lo hi : Int) : Bool := decide (lo ≤ n) && decide (n ≤ hi)
def MsgM.may (m : MsgM) : Bool := within3 m.t0 0 4611686018427387904 && within3 m.t1 0 4611686018427387904 && within3 m.t2 0 4611686018427387904 && within3 m.t3 0 4611686018427387904 &&
  decide ((m.data.length : Int) ≤ 40) && decide ((m.row.length : Int) ≤ 10) && within3 m.kind 1 15 && within3 m.epoch 0 4611686018427387904 && within3 m.seq 0 4611686018427387904 && within3 m.n (-4611686018427387904) 4611686018427387904 && within3 m.block (-1) 31 && within3 m.client (-1) 3 && within3 m.e 0 31
structure MsgM.ok (m : MsgM) : Prop where
  kind : 1 ≤ m.kind ∧ m.kind ≤ 15
  epoch : 0 ≤ m.epoch ∧ m.epoch ≤ 4611686018427387904
  seq : 0 ≤ m.seq ∧ m.seq ≤ 4611686018427387904
  n : -4611686018427387904 ≤ m.n ∧ m.n ≤ 4611686018427387904
  block : -1 ≤ m.block ∧ m.block ≤ 31
  client : -1 ≤ m.client ∧ m.client ≤ 3
  t0 : 0 ≤ m.t0 ∧ m.t0 ≤ 4611686018427387904
  t1 : 0 ≤ m.t1 ∧ m.t1 ≤ 4611686018427387904
  t2 : 0 ≤ m.t2 ∧ m.t2 ≤ 4611686018427387904
  t3 : 0 ≤ m.t3 ∧ m.t3 ≤ 4611686018427387904
  data : m.data.length ≤ 40
structure FactM where
  epoch : Int
  holder : Int
  mask : Int
  change : Int
  l0 : Int
  l1 : Int
  deriving DecidableEq
def FactM.cells (f : FactM) : List Value := [.int .i64 f.epoch, .int .i64 f.holder, .int .i64 f.mask, .int .i64 f.change, .int .i64 f.l0, .int .i64 f.l1]
def FactM.first : FactM := ⟨0, -1, 3, 0, -1, -1⟩
def factR (f : FactM) : RecM := ⟨40, [f.epoch, f.holder, f.mask, f.change, f.l0, f.l1], []⟩
structure FactM.ok (f : FactM) : Prop where
  epoch : 0 ≤ f.epoch ∧ f.epoch ≤ 4611686018427387904
  holder : -1 ≤ f.holder ∧ f.holder ≤ 1
  mask : 1 ≤ f.mask ∧ f.mask ≤ 3
  change : 0 ≤ f.change ∧ f.change ≤ 4611686018427387904
  l0 : -1 ≤ f.l0 ∧ f.l0 ≤ 4611686018427387904
  l1 : -1 ≤ f.l1 ∧ f.l1 ≤ 4611686018427387904
theorem fact_may {f : FactM} (h : f.ok) : (factR f).may := by
  have h1 := h.epoch; have h2 := h.holder; have h3 := h.mask; have h4 := h.change; have h5 := h.l0; have h6 := h.l1
  refine ⟨by simp [factR], by simp [factR], by simp [factR], by simp [factR], fun t ht => by simp [factR] at ht, fun n hn => ?_⟩
  simp only [factR, List.mem_cons, List.not_mem_nil, or_false] at hn
  rcases hn with rfl | rfl | rfl | rfl | rfl | rfl <;> omega
theorem fact_len {f : FactM} (h : f.ok) : (recB (factR f)).length ≤ 62 := by
  have := numsB_len (fact_may h).num
  have e : (numsB (factR f).nums).length ≤ 60 := this
  have e2 : textsB (factR f).texts = [] := rfl
  simp only [recB, e2, List.append_nil, List.length_cons]
  omega
/-- What lies in the cell: the facts, or none. -/
def factsOf (t : Bytes) : FactM := match (decM t).1.nums, (decM t).1.texts with
  | [a, b, c, d, e, f], [] => if (decM t).2 = 0 ∧ (decM t).1.kind = 40 ∧ within3 a 0 4611686018427387904 = true ∧ within3 b (-1) 1 = true ∧ within3 c 1 3 = true ∧ within3 d 0 4611686018427387904 = true ∧ within3 e (-1) 4611686018427387904 = true ∧ within3 f (-1) 4611686018427387904 = true then ⟨a, b, c, d, e, f⟩ else .first
  | _, _ => .first
theorem factsOf_rec {f : FactM} (h : f.ok) : factsOf (recB (factR f)) = f := by
  have e : decM (recB (factR f)) = (factR f, 0) := decM_some (recD_recB (fact_may h))
  unfold factsOf
  rw [e]
  have h1 := h.epoch; have h2 := h.holder; have h3 := h.mask; have h4 := h.change; have h5 := h.l0; have h6 := h.l1
  show (if _ then _ else _) = f
  rw [if_pos]
  simp [factR, within3, h1, h2, h3, h4, h5, h6]
structure WitM where
  c : CellM
  f : FactM
  left : Int
  wait : Int
def WitM.set (W : WitM) : WitM := { W with left := max W.wait 0 }
def WitM.put (W : WitM) (D : Dev) (f : FactM) : Int × WitM × Dev :=
  ((W.c.put D (recB (factR f))).1, { W with c := (W.c.put D (recB (factR f))).2.1, f := if (W.c.put D (recB (factR f))).1 = 0 then f else W.f }, (W.c.put D (recB (factR f))).2.2)
/-- Is a node in a mask? -/
def inM (mask node : Int) : Bool := if node = 0 then decide (mask % 2 = 1) else decide (2 ≤ mask)
def outM (mask node : Int) : Int := if node = 0 then (if 2 ≤ mask then 2 else 0) else mask % 2
def WitM.ask (W : WitM) (D : Dev) (from_ : Int) (m : MsgM) : Int × WitM × Dev :=
  if inM W.f.mask from_ = false then (20, W, D) else
  if W.f.holder = from_ ∧ m.seq = 0 ∧ m.epoch = W.f.epoch then (0, W.set, D) else
  if W.f.holder ≠ from_ ∧ 0 < W.left then (25, W, D) else
  if W.f.epoch = 4611686018427387904 then (22, W, D) else
  let r := W.put D { W.f with epoch := W.f.epoch + 1, holder := from_, change := 0 }
  (r.1, if r.1 = 0 then r.2.1.set else r.2.1, r.2.2)
def WitM.changed (W : WitM) (D : Dev) (from_ : Int) (m : MsgM) : Int × WitM × Dev :=
  if W.f.holder ≠ from_ ∨ m.epoch ≠ W.f.epoch then (20, W, D) else
  if within3 m.seq 1 3 = false ∨ inM m.seq from_ = false then (1, W, D) else
  if m.n ≤ W.f.change then (0, W, D) else
  W.put D { W.f with mask := m.seq, change := m.n }
def FactM.loss (f : FactM) (from_ : Int) : Int := if from_ = 0 then f.l0 else f.l1
def FactM.lose (f : FactM) (from_ n : Int) : FactM :=
  { f with holder := -1, l0 := if from_ = 0 then n else f.l0, l1 := if from_ = 0 then f.l1 else n, mask := if outM f.mask from_ ≠ 0 then outM f.mask from_ else f.mask }
def WitM.lost (W : WitM) (D : Dev) (from_ : Int) (m : MsgM) : Int × WitM × Dev :=
  if m.n ≤ W.f.loss from_ then (0, W, D) else W.put D (W.f.lose from_ m.n)
def WitM.handle (W : WitM) (D : Dev) (from_ : Int) (m : MsgM) : Option (Int × WitM × Dev) :=
  if m.kind = 1 then some (W.ask D from_ m) else if m.kind = 3 then some (W.changed D from_ m) else if m.kind = 4 then some (W.lost D from_ m) else none
def WitM.answer (W : WitM) (m : MsgM) (e : Int) : MsgM := ⟨if m.kind = 1 then 2 else m.kind, W.f.epoch, W.f.mask, m.n, -1, W.f.holder, e, 0, 0, 0, 0, [], []⟩
def WitM.take (W : WitM) (D : Dev) (from_ : Int) (m : MsgM) : (MsgM × Bool) × WitM × Dev :=
  if from_ < 0 ∨ 1 < from_ ∨ m.may = false then ((.zero, false), W, D) else
  match W.handle D from_ m with
  | none => ((.zero, false), W, D)
  | some r => if r.1 = 30 then ((.zero, false), r.2.1, r.2.2) else ((r.2.1.answer m r.1, true), r.2.1, r.2.2)
structure WitM.ok (W : WitM) (D : Dev) : Prop where
  c : W.c.ok D.l.length
  f : W.f.ok
  left : 0 ≤ W.left ∧ W.left ≤ 9223372036854775807
  wait : 1 ≤ W.wait ∧ W.wait ≤ 1099511627776
  d : D.ok
theorem put_l {C : CellM} {D : Dev} {s : Bytes} : (C.put D s).2.2.l.length = D.l.length := by
  unfold CellM.put
  split
  · rfl
  · split
    · rfl
    · dsimp only
      split
      · rw [write_l]
      · split
        · rw [barrier_l, write_l]
        · rw [barrier_l, write_l]
theorem WitM.put_ok {W : WitM} {D : Dev} {f : FactM} (h : W.ok D) (hf : f.ok) : (W.put D f).2.1.ok (W.put D f).2.2 := by
  have hp := Go.Sl.put_ok h.c h.d (recB (factR f))
  refine ⟨by unfold WitM.put; dsimp only; rw [put_l]; exact hp.1, ?_, h.left, h.wait, hp.2⟩
  unfold WitM.put; dsimp only
  split
  · exact hf
  · exact h.f
end Go.Sl
namespace Go.Sl
set_option linter.unusedSimpArgs false
end Go.Sl
namespace Go.Sl
set_option linter.unusedSimpArgs false
theorem getd_get {α : Type} {l : List α} {i : Nat} {d : α} (h : i < l.length) : l[i]? = some (l.getD i d) := by
  rw [List.getElem?_eq_getElem h, List.getD_eq_getElem?_getD, List.getElem?_eq_getElem h]; rfl
def witO (D : Dev) (a b wait : Int) : WitM := ⟨openC D a b, factsOf (openC D a b).text, wait, wait⟩
theorem within3_iff {n lo hi : Int} : within3 n lo hi = true ↔ lo ≤ n ∧ n ≤ hi := by unfold within3; simp
end Go.Sl
namespace Go.Sl
set_option linter.unusedSimpArgs false
structure WGood (W : WitM) (D : Dev) (k : Nat) : Prop where
  up : Up D 2
  es : D.es = []
  c : W.c = openC D 0 1
  f : W.f = factsOf W.c.text
  gen : W.c.gen ≤ k
  left : 0 ≤ W.left ∧ W.left ≤ 9223372036854775807
  wait : 1 ≤ W.wait ∧ W.wait ≤ 1099511627776
theorem WGood.openE {W : WitM} {D : Dev} {k : Nat} (h : WGood W D k) : openE D 0 1 = 0 := openE_up h.up (by decide) (by decide) (by decide)
theorem WGood.cok {W : WitM} {D : Dev} {k : Nat} (h : WGood W D k) : W.c.ok 2 := by
  have := (openC_ok h.openE).1
  rw [h.up.len, ← h.c] at this
  exact this
theorem WGood.put {W : WitM} {D : Dev} {k : Nat} (h : WGood W D k) (hk : k < 4611686018427387904) {f : FactM} (hf : f.ok) :
    ∃ D' c', W.put D f = (0, { W with c := c', f := f }, D') ∧ WGood { W with c := c', f := f } D' (k + 1) := by
  have hl := fact_len hf
  have hg := h.gen
  obtain ⟨D', h1, h2⟩ := put_good h.up h.cok (s := recB (factR f)) (by omega) (by omega)
  have ho : openC D' 0 1 = (openC D 0 1).next (recB (factR f)) := open_next h.up.len h.openE (by omega) (by rw [← h.c]; omega) (by rw [← h.c]; exact h2)
  refine ⟨D', W.c.next (recB (factR f)), ?_, h2.up, h2.es, by rw [ho, h.c], ?_, ?_, h.left, h.wait⟩
  · unfold WitM.put; rw [h1]; rfl
  · exact (factsOf_rec hf).symm
  · show W.c.gen + 1 ≤ _; omega
theorem WGood.set {W : WitM} {D : Dev} {k : Nat} (h : WGood W D k) : WGood W.set D k := ⟨h.up, h.es, h.c, h.f, h.gen, by have := h.wait; simp only [WitM.set]; omega, h.wait⟩
theorem WGood.up1 {W : WitM} {D : Dev} {k : Nat} (h : WGood W D k) : WGood W D (k + 1) := ⟨h.up, h.es, h.c, h.f, by have := h.gen; omega, h.left, h.wait⟩
end Go.Sl
namespace Go.Sl
set_option linter.unusedSimpArgs false
end Go.Sl
/- From the readings of arguments to messages and acts. -/
namespace Go.Sl
open Go.ChangeShapes Go.WideShapes Go.ChangeAt Go.RowKit Go.Deep
set_option linter.unusedSimpArgs false
structure ActW where
  kind : Int
  n : Int
  fr : Int
  m : MsgM
  s : Bytes
  kv : Value
  ks : Keeps
def ActW.cells (a : ActW) : List Value := [.int .i64 a.kind, .int .i64 a.n, .int .i64 a.fr] ++ a.m.cells ++ [.string ⟨a.s.toArray⟩, a.kv]
structure ActW.ok [Env] (R : List Seg) (a : ActW) : Prop where
  keeps : RdV R a.kv a.ks.length (keepsV a.ks)
  n : -9223372036854775808 ≤ a.n ∧ a.n ≤ 9223372036854775807
  fr : -9223372036854775808 ≤ a.fr ∧ a.fr ≤ 9223372036854775807
theorem ActW.ok.mono [Env] {R R' : List Seg} {a : ActW} (h : a.ok R) (hg : Ge R' R) : a.ok R' := ⟨h.keeps.mono hg, h.n, h.fr⟩
structure ActB where
  kind : Int
  n : Int
  m : MsgM
  s : Bytes
  kv : Value
  ks : Keeps
def ActB.cells (a : ActB) : List Value := [.int .i64 a.kind, .int .i64 a.n] ++ a.m.cells ++ [.string ⟨a.s.toArray⟩, a.kv]
structure ActB.ok [Env] (R : List Seg) (a : ActB) : Prop where
  keeps : RdV R a.kv a.ks.length (keepsV a.ks)
  n : -9223372036854775808 ≤ a.n ∧ a.n ≤ 9223372036854775807
theorem ActB.ok.mono [Env] {R R' : List Seg} {a : ActB} (h : a.ok R) (hg : Ge R' R) : a.ok R' := ⟨h.keeps.mono hg, h.n⟩
theorem flat_at {α : Type} {f : α → List Value} {k : Nat} (hf : ∀ x, (f x).length = k) : ∀ (l : List α) (i : Nat) (x : α), l[i]? = some x → ((((l.map f).flatten).drop (i * k)).take k) = f x
  | [], i, x, h => by simp at h
  | z :: l, 0, x, h => by
    simp at h; subst h
    simp only [List.map_cons, List.flatten_cons, Nat.zero_mul, List.drop_zero]
    rw [List.take_append_of_le_length (by rw [hf]; exact Nat.le_refl _), List.take_of_length_le (by rw [hf]; exact Nat.le_refl _)]
  | z :: l, i + 1, x, h => by
    have := flat_at hf l i x (by simpa using h)
    rw [show (i + 1) * k = k + i * k by rw [Nat.succ_mul]; omega, ← List.drop_drop]
    simp only [List.map_cons, List.flatten_cons]
    have e : (f z ++ (List.map f l).flatten).drop k = (List.map f l).flatten := List.drop_left' (hf z)
    rw [e]
    exact this
section
variable {H : Type} {enc : TypeId × Value → H} {P : Program} {W : World} {base : Nat} {spare : Nat → Bool} {held : Bool}
end
end Go.Sl
namespace Go.Sl
set_option linter.unusedSimpArgs false
theorem RdV.src [Env] {P : Program} {L : List Seg} {size m : Nat} {v : Value} {vs : List Value} (h : RdV L v m vs) (hl : vs.length = m * size) : Src P L size v m vs := by
  rcases h with ⟨rfl, rfl, rfl⟩ | ⟨a, c, rfl, h3, h2⟩
  · exact src_nil
  · refine ⟨hl, fun w hh => ⟨by simp [Builtin.lenOf], ?_⟩⟩
    refine run_firstCells_some w size m _ m c vs hl (fun j v hj => ?_)
    have hj' : j < vs.length := by
      rcases Nat.lt_or_ge j vs.length with h | h
      · exact h
      · rw [List.getElem?_eq_none h] at hj; cases hj
    have hm : m ≠ 0 := fun h0 => by rw [h0, Nat.zero_mul] at hl; omega
    have hs := h3 hm
    have := h2 w hh j hj'
    rw [List.getElem?_eq_getElem hj'] at hj
    cases hj
    cases a
    simp at hs
    subst hs
    rw [add_lit]
    exact this
theorem mget_put {kv : Kv} {c : Nat} {k e : Int} {v : Value} : mget (mput kv c k v) e = if e = k then some v else mget kv e := by
  unfold mput mget
  by_cases h : kv.any (fun x => decide (x.1 = k)) = true
  · rw [if_pos h]
    unfold mset
    induction kv with
    | nil => simp at h
    | cons x kv ih =>
      simp only [List.map_cons, List.find?_cons]
      by_cases hx : x.1 = k
      · rw [if_pos hx]
        by_cases hek : e = k
        · subst hek; simp
        · have h1 : decide (k = e) = false := by simp; omega
          have h2 : decide (x.1 = e) = false := by simp; omega
          simp only [h1, h2, if_neg hek]
          by_cases h3 : kv.any (fun x => decide (x.1 = k)) = true
          · have := ih h3
            rw [if_neg hek] at this
            exact this
          · have e1 : (kv.map fun x => if x.1 = k then (k, v, x.2.2) else x) = kv := by
              have : ∀ x ∈ kv, (if x.1 = k then (k, v, x.2.2) else x) = x := fun y hy => by
                rw [if_neg]
                intro hyk
                exact h3 (List.any_eq_true.2 ⟨y, hy, by simp [hyk]⟩)
              exact (List.map_congr_left this).trans (List.map_id kv)
            rw [e1]
      · rw [if_neg hx]
        have h3 : kv.any (fun x => decide (x.1 = k)) = true := by simpa [hx] using h
        by_cases hxe : x.1 = e
        · have hek : e ≠ k := by omega
          simp [hxe, hek]
        · have h2 : decide (x.1 = e) = false := by simp [hxe]
          simp only [h2]
          exact ih h3
  · rw [if_neg h, List.find?_append]
    by_cases hek : e = k
    · subst hek
      have : kv.find? (fun x => decide (x.1 = e)) = none := by
        rw [List.find?_eq_none]
        intro x hx hxe
        exact h (List.any_eq_true.2 ⟨x, hx, hxe⟩)
      simp [this]
    · have h1 : decide (k = e) = false := by simp; omega
      rw [if_neg hek]
      simp [List.find?_cons, h1]
theorem uniq_put {kv : Kv} {c : Nat} {k : Int} {v : Value} (h : uniq kv) : uniq (mput kv c k v) := by
  unfold mput
  by_cases hq : kv.any (fun x => decide (x.1 = k)) = true
  · rw [if_pos hq]
    unfold uniq mset at *
    rw [List.map_map]
    have : ((fun x : Int × Value × Nat => x.1) ∘ fun x => if x.1 = k then (k, v, x.2.2) else x) = fun x => x.1 := by
      funext x
      simp only [Function.comp]
      split
      · rename_i h; exact h.symm
      · rfl
    rw [this]
    exact h
  · rw [if_neg hq]
    unfold uniq at *
    rw [List.map_append, List.map_cons, List.map_nil]
    refine List.nodup_append.2 ⟨h, by simp, fun a ha b hb => ?_⟩
    simp at hb
    subst hb
    rintro rfl
    obtain ⟨x, hx, hxk⟩ := List.mem_map.1 ha
    exact hq (List.any_eq_true.2 ⟨x, hx, by simp [hxk]⟩)
structure OwnOk (kv : Kv) (g : Int → Option Int) : Prop where
  un : uniq kv
  get : ∀ e, mget kv e = (g e).map fun n => .int .i64 n
theorem OwnOk.put {kv : Kv} {g : Int → Option Int} (h : OwnOk kv g) (c : Nat) (e w : Int) : OwnOk (mput kv c e (.int .i64 w)) (fun x => if x = e then some w else g x) := by
  refine ⟨uniq_put h.un, fun x => ?_⟩
  rw [mget_put]
  split
  · rfl
  · exact h.get x
def maskK (ks : Keeps) : Keeps := ks.map fun x => (bAnd .i64 x.1 1, x.2)
structure LifeM where
  W : WitM
  D : Dev
  g : Int → Option Int
  bad : Bool
def grantB (a : MsgM × Bool) : Bool := a.2 && decide (a.1.kind = 2) && decide (a.1.e = 0)
def WitM.ticks (W : WitM) (k : Nat) : WitM := { W with left := max (W.left - k) 0 }
def actT (n : Int) : Nat := (n.tmod 50).toNat
def LifeM.act (w : LifeM) (x : ActW) : (MsgM × Bool) × LifeM :=
  if x.kind = 0 then
    let r := w.W.take w.D x.fr x.m
    if grantB r.1 = true then
      (r.1, ⟨r.2.1, r.2.2, fun e => if e = r.1.1.epoch then some x.fr else w.g e, w.bad || ((w.g r.1.1.epoch).isSome && decide ((w.g r.1.1.epoch).getD 0 ≠ x.fr)) || decide (r.1.1.client ≠ x.fr) || decide (r.1.1.epoch < 1)⟩)
    else (r.1, ⟨r.2.1, r.2.2, w.g, w.bad⟩)
  else if x.kind = 1 then ((.zero, false), { w with W := w.W.ticks (actT x.n) })
  else if x.kind = 2 then ((.zero, false), { w with W := witO (w.D.crash (maskK x.ks)) 0 1 w.W.wait, D := w.D.crash (maskK x.ks) })
  else if x.kind = 3 then ((.zero, false), { w with D := w.D.setFuse x.n })
  else ((.zero, false), w)
end Go.Sl
