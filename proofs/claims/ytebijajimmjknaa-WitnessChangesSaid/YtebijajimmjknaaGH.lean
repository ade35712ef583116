/- A part of the proof: contracts and plain lemmas, each without conditions beyond those that it names. -/
import Derived.Test.YtebijajimmjknaaGG
import Derived.Test.YtebijajimmjknaaGC
set_option linter.unusedVariables false
set_option linter.unusedSimpArgs false
set_option linter.constructorNameAsVariable false
namespace Go.Sl
set_option linter.unusedSimpArgs false
/-! messages -/
structure MsgM where
  kind : Int
  epoch : Int
  seq : Int
  n : Int
  block : Int
  client : Int
  e : Int
  t0 : Int
  t1 : Int
  t2 : Int
  t3 : Int
  data : Bytes
  row : Bytes
  deriving DecidableEq
def iV (n : Int) : Value := .int .i64 n
def sV (t : Bytes) : Value := .string ⟨t.toArray⟩
def MsgM.cells (m : MsgM) : List Value := [.int .i64 m.kind, .int .i64 m.epoch, .int .i64 m.seq, .int .i64 m.n, .int .i64 m.block, .int .i64 m.client, .int .i64 m.e, .int .i64 m.t0, .int .i64 m.t1, .int .i64 m.t2, .int .i64 m.t3, .string ⟨m.data.toArray⟩, .string ⟨m.row.toArray⟩]
def MsgM.zero : MsgM := ⟨0, 0, 0, 0, 0, 0, 0, 0, 0, 0, 0, [], []⟩
def MsgM.tn (m : MsgM) : Nat → Int
  | 0 => m.t0
  | 1 => m.t1
  | 2 => m.t2
  | _ => m.t3
/-- All of a message's numbers are numbers of 64 bits. -/
structure MsgM.in64 (m : MsgM) : Prop where
  n : -9223372036854775808 ≤ m.n ∧ m.n ≤ 9223372036854775807
def within3 (n lo hi : Int) : Bool := decide (lo ≤ n) && decide (n ≤ hi)
def maxN : Int := 4611686018427387904
def MsgM.may (m : MsgM) : Bool := within3 m.t0 0 4611686018427387904 && within3 m.t1 0 4611686018427387904 && within3 m.t2 0 4611686018427387904 && within3 m.t3 0 4611686018427387904 &&
  decide ((m.data.length : Int) ≤ 40) && decide ((m.row.length : Int) ≤ 10) && within3 m.kind 1 15 && within3 m.epoch 0 4611686018427387904 && within3 m.seq 0 4611686018427387904 && within3 m.n (-4611686018427387904) 4611686018427387904 && within3 m.block (-1) 31 && within3 m.client (-1) 3 && within3 m.e 0 31
structure MsgM.ok (m : MsgM) : Prop where
  kind : 1 ≤ m.kind ∧ m.kind ≤ 15
  epoch : 0 ≤ m.epoch ∧ m.epoch ≤ 4611686018427387904
  seq : 0 ≤ m.seq ∧ m.seq ≤ 4611686018427387904
  n : -4611686018427387904 ≤ m.n ∧ m.n ≤ 4611686018427387904
  block : -1 ≤ m.block ∧ m.block ≤ 31
  client : -1 ≤ m.client ∧ m.client ≤ 3
  t0 : 0 ≤ m.t0 ∧ m.t0 ≤ 4611686018427387904
  t1 : 0 ≤ m.t1 ∧ m.t1 ≤ 4611686018427387904
  t2 : 0 ≤ m.t2 ∧ m.t2 ≤ 4611686018427387904
  t3 : 0 ≤ m.t3 ∧ m.t3 ≤ 4611686018427387904
  data : m.data.length ≤ 40
theorem MsgM.ok_of {m : MsgM} (h : m.may = true) : m.ok := by
  unfold MsgM.may within3 at h
  simp only [Bool.and_eq_true, decide_eq_true_eq] at h
  exact ⟨by omega, by omega, by omega, by omega, by omega, by omega, by omega, by omega, by omega, by omega, by omega⟩
abbrev Wi := Int × Int × Int
def wiOk (x : Wi) : Bool := within3 x.1 x.2.1 x.2.2
def wisV (l : List Wi) : List Value := (l.map fun x => [Value.int .i64 x.1, .int .i64 x.2.1, .int .i64 x.2.2]).flatten
theorem wisV_get : ∀ (l : List Wi) (k : Nat) (x : Wi), l[k]? = some x → ((wisV l).drop (k * 3)).take 3 = [.int .i64 x.1, .int .i64 x.2.1, .int .i64 x.2.2]
  | [], k, x, h => by simp at h
  | z :: l, 0, x, h => by simp at h; subst h; simp [wisV]
  | z :: l, k + 1, x, h => by
    have := wisV_get l k x (by simpa using h)
    rw [show (k + 1) * 3 = 3 + k * 3 by omega, ← List.drop_drop]
    simpa [wisV] using this
theorem wisV_len (l : List Wi) : (wisV l).length = l.length * 3 := by
  induction l with
  | nil => rfl
  | cons x l ih => simp only [wisV, List.map_cons, List.flatten_cons, List.length_append, List.length_cons, List.length_nil] at ih ⊢; omega
/-! a witness -/
structure FactM where
  epoch : Int
  holder : Int
  mask : Int
  change : Int
  l0 : Int
  l1 : Int
  deriving DecidableEq
def FactM.cells (f : FactM) : List Value := [.int .i64 f.epoch, .int .i64 f.holder, .int .i64 f.mask, .int .i64 f.change, .int .i64 f.l0, .int .i64 f.l1]
def FactM.first : FactM := ⟨0, -1, 3, 0, -1, -1⟩
def factR (f : FactM) : RecM := ⟨40, [f.epoch, f.holder, f.mask, f.change, f.l0, f.l1], []⟩
structure FactM.ok (f : FactM) : Prop where
  epoch : 0 ≤ f.epoch ∧ f.epoch ≤ 4611686018427387904
  holder : -1 ≤ f.holder ∧ f.holder ≤ 1
  mask : 1 ≤ f.mask ∧ f.mask ≤ 3
  change : 0 ≤ f.change ∧ f.change ≤ 4611686018427387904
  l0 : -1 ≤ f.l0 ∧ f.l0 ≤ 4611686018427387904
  l1 : -1 ≤ f.l1 ∧ f.l1 ≤ 4611686018427387904
theorem FactM.first_ok : FactM.first.ok := ⟨by decide, by decide, by decide, by decide, by decide, by decide⟩
theorem fact_may {f : FactM} (h : f.ok) : (factR f).may := by
  have h1 := h.epoch; have h2 := h.holder; have h3 := h.mask; have h4 := h.change; have h5 := h.l0; have h6 := h.l1
  refine ⟨by simp [factR], by simp [factR], by simp [factR], by simp [factR], fun t ht => by simp [factR] at ht, fun n hn => ?_⟩
  simp only [factR, List.mem_cons, List.not_mem_nil, or_false] at hn
  rcases hn with rfl | rfl | rfl | rfl | rfl | rfl <;> omega
theorem fact_len {f : FactM} (h : f.ok) : (recB (factR f)).length ≤ 62 := by
  have := numsB_len (fact_may h).num
  have e : (numsB (factR f).nums).length ≤ 60 := this
  have e2 : textsB (factR f).texts = [] := rfl
  simp only [recB, e2, List.append_nil, List.length_cons]
  omega
/-- What lies in the cell: the facts, or none. -/
def factsOf (t : Bytes) : FactM := match (decM t).1.nums, (decM t).1.texts with
  | [a, b, c, d, e, f], [] => if (decM t).2 = 0 ∧ (decM t).1.kind = 40 ∧ within3 a 0 4611686018427387904 = true ∧ within3 b (-1) 1 = true ∧ within3 c 1 3 = true ∧ within3 d 0 4611686018427387904 = true ∧ within3 e (-1) 4611686018427387904 = true ∧ within3 f (-1) 4611686018427387904 = true then ⟨a, b, c, d, e, f⟩ else .first
  | _, _ => .first
theorem factsOf_ok (t : Bytes) : (factsOf t).ok := by
  unfold factsOf
  split
  · split
    · rename_i h
      unfold within3 at h
      simp only [Bool.and_eq_true, decide_eq_true_eq] at h
      obtain ⟨-, -, h1, h2, h3, h4, h5, h6⟩ := h
      exact ⟨h1, h2, h3, h4, h5, h6⟩
    · exact FactM.first_ok
  · exact FactM.first_ok
theorem factsOf_rec {f : FactM} (h : f.ok) : factsOf (recB (factR f)) = f := by
  have e : decM (recB (factR f)) = (factR f, 0) := decM_some (recD_recB (fact_may h))
  unfold factsOf
  rw [e]
  have h1 := h.epoch; have h2 := h.holder; have h3 := h.mask; have h4 := h.change; have h5 := h.l0; have h6 := h.l1
  show (if _ then _ else _) = f
  rw [if_pos]
  simp [factR, within3, h1, h2, h3, h4, h5, h6]
theorem factsOf_nil : factsOf [] = .first := rfl
structure WitM where
  c : CellM
  f : FactM
  left : Int
  wait : Int
def WitM.set (W : WitM) : WitM := { W with left := max W.wait 0 }
def WitM.tick (W : WitM) : WitM := { W with left := max (W.left - 1) 0 }
def WitM.put (W : WitM) (D : Dev) (f : FactM) : Int × WitM × Dev :=
  ((W.c.put D (recB (factR f))).1, { W with c := (W.c.put D (recB (factR f))).2.1, f := if (W.c.put D (recB (factR f))).1 = 0 then f else W.f }, (W.c.put D (recB (factR f))).2.2)
/-- Is a node in a mask? -/
def inM (mask node : Int) : Bool := if node = 0 then decide (mask % 2 = 1) else decide (2 ≤ mask)
def outM (mask node : Int) : Int := if node = 0 then (if 2 ≤ mask then 2 else 0) else mask % 2
def WitM.ask (W : WitM) (D : Dev) (from_ : Int) (m : MsgM) : Int × WitM × Dev :=
  if inM W.f.mask from_ = false then (20, W, D) else
  if W.f.holder = from_ ∧ m.seq = 0 ∧ m.epoch = W.f.epoch then (0, W.set, D) else
  if W.f.holder ≠ from_ ∧ 0 < W.left then (25, W, D) else
  if W.f.epoch = 4611686018427387904 then (22, W, D) else
  let r := W.put D { W.f with epoch := W.f.epoch + 1, holder := from_, change := 0 }
  (r.1, if r.1 = 0 then r.2.1.set else r.2.1, r.2.2)
def WitM.changed (W : WitM) (D : Dev) (from_ : Int) (m : MsgM) : Int × WitM × Dev :=
  if W.f.holder ≠ from_ ∨ m.epoch ≠ W.f.epoch then (20, W, D) else
  if within3 m.seq 1 3 = false ∨ inM m.seq from_ = false then (1, W, D) else
  if m.n ≤ W.f.change then (0, W, D) else
  W.put D { W.f with mask := m.seq, change := m.n }
def FactM.loss (f : FactM) (from_ : Int) : Int := if from_ = 0 then f.l0 else f.l1
def FactM.lose (f : FactM) (from_ n : Int) : FactM :=
  { f with holder := -1, l0 := if from_ = 0 then n else f.l0, l1 := if from_ = 0 then f.l1 else n, mask := if outM f.mask from_ ≠ 0 then outM f.mask from_ else f.mask }
def WitM.lost (W : WitM) (D : Dev) (from_ : Int) (m : MsgM) : Int × WitM × Dev :=
  if m.n ≤ W.f.loss from_ then (0, W, D) else W.put D (W.f.lose from_ m.n)
def WitM.handle (W : WitM) (D : Dev) (from_ : Int) (m : MsgM) : Option (Int × WitM × Dev) :=
  if m.kind = 1 then some (W.ask D from_ m) else if m.kind = 3 then some (W.changed D from_ m) else if m.kind = 4 then some (W.lost D from_ m) else none
def WitM.answer (W : WitM) (m : MsgM) (e : Int) : MsgM := ⟨if m.kind = 1 then 2 else m.kind, W.f.epoch, W.f.mask, m.n, -1, W.f.holder, e, 0, 0, 0, 0, [], []⟩
def WitM.take (W : WitM) (D : Dev) (from_ : Int) (m : MsgM) : (MsgM × Bool) × WitM × Dev :=
  if from_ < 0 ∨ 1 < from_ ∨ m.may = false then ((.zero, false), W, D) else
  match W.handle D from_ m with
  | none => ((.zero, false), W, D)
  | some r => if r.1 = 30 then ((.zero, false), r.2.1, r.2.2) else ((r.2.1.answer m r.1, true), r.2.1, r.2.2)
structure WitM.ok (W : WitM) (D : Dev) : Prop where
  c : W.c.ok D.l.length
  f : W.f.ok
  left : 0 ≤ W.left ∧ W.left ≤ 9223372036854775807
  wait : 1 ≤ W.wait ∧ W.wait ≤ 1099511627776
  d : D.ok
theorem put_l {C : CellM} {D : Dev} {s : Bytes} : (C.put D s).2.2.l.length = D.l.length := by
  unfold CellM.put
  split
  · rfl
  · split
    · rfl
    · dsimp only
      split
      · rw [write_l]
      · split
        · rw [barrier_l, write_l]
        · rw [barrier_l, write_l]
theorem WitM.put_ok {W : WitM} {D : Dev} {f : FactM} (h : W.ok D) (hf : f.ok) : (W.put D f).2.1.ok (W.put D f).2.2 := by
  have hp := Go.Sl.put_ok h.c h.d (recB (factR f))
  refine ⟨by unfold WitM.put; dsimp only; rw [put_l]; exact hp.1, ?_, h.left, h.wait, hp.2⟩
  unfold WitM.put; dsimp only
  split
  · exact hf
  · exact h.f
theorem WitM.set_ok {W : WitM} {D : Dev} (h : W.ok D) : W.set.ok D := ⟨h.c, h.f, by have := h.wait; simp only [WitM.set]; omega, h.wait, h.d⟩
theorem WitM.tick_ok {W : WitM} {D : Dev} (h : W.ok D) : W.tick.ok D := ⟨h.c, h.f, by have := h.left; simp only [WitM.tick]; omega, h.wait, h.d⟩
theorem askF_ok {W : WitM} {D : Dev} (h : W.ok D) {from_ : Int} (hf : from_ = 0 ∨ from_ = 1) (he : ¬ W.f.epoch = 4611686018427387904) : ({ W.f with epoch := W.f.epoch + 1, holder := from_, change := 0 } : FactM).ok := by
  have := h.f.epoch
  exact ⟨by dsimp only; omega, by dsimp only; omega, h.f.mask, by dsimp only; omega, h.f.l0, h.f.l1⟩
theorem changeF_ok {W : WitM} {D : Dev} (h : W.ok D) {m : MsgM} (hs : within3 m.seq 1 3 = true) (hn : ¬ m.n ≤ W.f.change) (hm : m.n ≤ 4611686018427387904) : ({ W.f with mask := m.seq, change := m.n } : FactM).ok := by
  unfold within3 at hs
  simp only [Bool.and_eq_true, decide_eq_true_eq] at hs
  have := h.f.change
  exact ⟨h.f.epoch, h.f.holder, by dsimp only; omega, by dsimp only; omega, h.f.l0, h.f.l1⟩
theorem outM_ok {mask from_ : Int} (h : 1 ≤ mask ∧ mask ≤ 3) (h0 : outM mask from_ ≠ 0) : 1 ≤ outM mask from_ ∧ outM mask from_ ≤ 3 := by
  unfold outM at h0 ⊢
  split at h0
  · split at h0
    · rename_i h1 h2; rw [if_pos h1, if_pos h2]; omega
    · exact absurd rfl h0
  · rename_i h1; rw [if_neg h1]; omega
theorem loseF_ok {W : WitM} {D : Dev} (h : W.ok D) {from_ n : Int} (h1 : -4611686018427387904 ≤ n) (h2 : n ≤ 4611686018427387904) (hn : ¬ n ≤ W.f.loss from_) : (W.f.lose from_ n).ok := by
  have a := h.f.l0; have b := h.f.l1
  unfold FactM.loss at hn
  refine ⟨h.f.epoch, by simp [FactM.lose], ?_, h.f.change, ?_, ?_⟩
  · simp only [FactM.lose]
    split
    · rename_i h0; exact outM_ok h.f.mask h0
    · exact h.f.mask
  · simp only [FactM.lose]; split <;> rename_i hq
    · rw [if_pos hq] at hn; omega
    · exact a
  · simp only [FactM.lose]; split <;> rename_i hq
    · exact b
    · rw [if_neg hq] at hn; omega
theorem may_all {m : MsgM} (h : within3 m.t0 0 4611686018427387904 = true ∧ within3 m.t1 0 4611686018427387904 = true ∧ within3 m.t2 0 4611686018427387904 = true ∧ within3 m.t3 0 4611686018427387904 = true) :
    m.may = (decide ((m.data.length : Int) ≤ 40) && decide ((m.row.length : Int) ≤ 10) && ([(m.kind, 1, 15), (m.epoch, 0, 4611686018427387904), (m.seq, 0, 4611686018427387904), (m.n, -4611686018427387904, 4611686018427387904), (m.block, -1, 31), (m.client, -1, 3), (m.e, 0, 31)] : List Wi).all wiOk) := by
  obtain ⟨h0, h1, h2, h3⟩ := h
  unfold MsgM.may
  rw [h0, h1, h2, h3]
  simp only [List.all_cons, List.all_nil, wiOk, Bool.and_true, Bool.true_and, Bool.and_assoc]
theorem may_not {m : MsgM} {k : Nat} (hk : k < 4) (h : within3 (m.tn k) 0 4611686018427387904 = false) : m.may = false := by
  unfold MsgM.may
  match k, hk with
  | 0, _ => rw [show within3 m.t0 0 4611686018427387904 = false from h]; rfl
  | 1, _ => rw [show within3 m.t1 0 4611686018427387904 = false from h]; simp
  | 2, _ => rw [show within3 m.t2 0 4611686018427387904 = false from h]; simp
  | 3, _ => rw [show within3 m.t3 0 4611686018427387904 = false from h]; simp
end Go.Sl

namespace Go.Sl
set_option linter.unusedSimpArgs false
theorem in_bits {mask node : Int} (hm : 1 ≤ mask ∧ mask ≤ 3) (hn : node = 0 ∨ node = 1) : bAnd .i64 (mask.fdiv (2 ^ (min node.toNat IntKind.i64.bits))) 1 = if inM mask node = true then 1 else 0 := by
  have h3 : mask = 1 ∨ mask = 2 ∨ mask = 3 := by omega
  rcases hn with rfl | rfl <;> rcases h3 with rfl | rfl | rfl <;> decide
theorem out_bits {mask node : Int} (hm : 1 ≤ mask ∧ mask ≤ 3) (hn : node = 0 ∨ node = 1) : bNot .i64 mask (IntKind.i64.wrap (1 * 2 ^ (min node.toNat IntKind.i64.bits))) = outM mask node := by
  have h3 : mask = 1 ∨ mask = 2 ∨ mask = 3 := by omega
  rcases hn with rfl | rfl <;> rcases h3 with rfl | rfl | rfl <;> decide
theorem bNot_eq (k : IntKind) (p q : Int) : bNot k p q = bNot k p q := rfl
theorem fact_enc {f : FactM} (h : f.ok) : encM (factR f) = (recB (factR f), 0) := by unfold encM; rw [if_pos (mayB_of (fact_may h))]
theorem max0 (n : Int) : (if 0 > n then 0 else n) = max n 0 := by split <;> omega
theorem fact_get {f : FactM} (c l w : Value) {node : Int} (hn : node = 0 ∨ node = 1) : ([c, .int .i64 f.epoch, .int .i64 f.holder, .int .i64 f.mask, .int .i64 f.change, .int .i64 f.l0, .int .i64 f.l1, l, w] : List Value)[0 + 1 + 4 + node.toNat * 1]? = some (.int .i64 (f.loss node)) := by
  rcases hn with rfl | rfl <;> rfl
theorem fact_set {f : FactM} {node n : Int} (hn : node = 0 ∨ node = 1) : ([.int .i64 f.epoch, .int .i64 f.holder, .int .i64 f.mask, .int .i64 f.change, .int .i64 f.l0, .int .i64 f.l1] : List Value).set (0 + 4 + node.toNat * 1) (.int .i64 n) =
    [.int .i64 f.epoch, .int .i64 f.holder, .int .i64 f.mask, .int .i64 f.change, .int .i64 (if node = 0 then n else f.l0), .int .i64 (if node = 0 then f.l1 else n)] := by
  rcases hn with rfl | rfl <;> rfl
theorem fact_one (f : FactM) : ∀ u ∈ f.cells, u.oneCell' = true := by
  intro u hu
  simp only [FactM.cells, List.mem_cons, List.not_mem_nil, or_false] at hu
  rcases hu with rfl | rfl | rfl | rfl | rfl | rfl <;> rfl
theorem msg_one (m : MsgM) : ∀ u ∈ m.cells, u.oneCell' = true := by
  intro u hu
  simp only [MsgM.cells, List.mem_cons, List.not_mem_nil, or_false] at hu
  rcases hu with rfl | rfl | rfl | rfl | rfl | rfl | rfl | rfl | rfl | rfl | rfl | rfl | rfl <;> rfl
end Go.Sl

namespace Go.Sl
set_option linter.unusedSimpArgs false
/-- Whether a cell's text says no facts. -/
def BadF (r : RecM) (e : Int) : Prop :=
  e ≠ 0 ∨ r.kind ≠ 40 ∨ (r.nums.length : Int) ≠ 6 ∨ (r.texts.length : Int) ≠ 0 ∨ within3 (r.nums.getD 0 0) 0 4611686018427387904 = false ∨ within3 (r.nums.getD 1 0) (-1) 1 = false ∨ within3 (r.nums.getD 2 0) 1 3 = false ∨ within3 (r.nums.getD 3 0) 0 4611686018427387904 = false ∨ within3 (r.nums.getD 4 0) (-1) 4611686018427387904 = false ∨ within3 (r.nums.getD 5 0) (-1) 4611686018427387904 = false
theorem facts_dich {t : Bytes} : (BadF (decM t).1 (decM t).2 → factsOf t = .first) ∧
    (¬ BadF (decM t).1 (decM t).2 → factsOf t = ⟨(decM t).1.nums.getD 0 0, (decM t).1.nums.getD 1 0, (decM t).1.nums.getD 2 0, (decM t).1.nums.getD 3 0, (decM t).1.nums.getD 4 0, (decM t).1.nums.getD 5 0⟩) := by
  unfold BadF factsOf
  generalize decM t = x
  obtain ⟨⟨k, ns, ts⟩, e⟩ := x
  dsimp only
  match ns, ts with
  | [a, b, c, d, f, g], [] =>
    simp only [List.length_cons, List.length_nil, List.getD_cons_zero, List.getD_cons_succ]
    constructor
    · intro h
      rw [if_neg]
      rintro ⟨h1, h2, h3, h4, h5, h6, h7, h8⟩
      simp_all
    · intro h
      rw [if_pos]
      simp only [not_or, Bool.not_eq_false] at h
      obtain ⟨h1, h2, _, _, h3, h4, h5, h6, h7, h8⟩ := h
      exact ⟨by omega, by omega, h3, h4, h5, h6, h7, h8⟩
  | [], _ => exact ⟨fun _ => rfl, fun h => absurd (.inr (.inr (.inl (by simp)))) h⟩
  | [_], _ => exact ⟨fun _ => rfl, fun h => absurd (.inr (.inr (.inl (by simp)))) h⟩
  | [_, _], _ => exact ⟨fun _ => rfl, fun h => absurd (.inr (.inr (.inl (by simp)))) h⟩
  | [_, _, _], _ => exact ⟨fun _ => rfl, fun h => absurd (.inr (.inr (.inl (by simp)))) h⟩
  | [_, _, _, _], _ => exact ⟨fun _ => rfl, fun h => absurd (.inr (.inr (.inl (by simp)))) h⟩
  | [_, _, _, _, _], _ => exact ⟨fun _ => rfl, fun h => absurd (.inr (.inr (.inl (by simp)))) h⟩
  | _ :: _ :: _ :: _ :: _ :: _ :: _ :: _, _ => exact ⟨fun _ => rfl, fun h => absurd (.inr (.inr (.inl (by simp only [List.length_cons]; omega)))) h⟩
  | [_, _, _, _, _, _], _ :: _ => exact ⟨fun _ => rfl, fun h => absurd (.inr (.inr (.inr (.inl (by simp only [List.length_cons]; omega))))) h⟩
theorem getd_get {α : Type} {l : List α} {i : Nat} {d : α} (h : i < l.length) : l[i]? = some (l.getD i d) := by
  rw [List.getElem?_eq_getElem h, List.getD_eq_getElem?_getD, List.getElem?_eq_getElem h]; rfl
def witE (D : Dev) (a b wait : Int) : Int := if within3 wait 1 1099511627776 = false then 1 else openE D a b
def witO (D : Dev) (a b wait : Int) : WitM := ⟨openC D a b, factsOf (openC D a b).text, wait, wait⟩
theorem within3_iff {n lo hi : Int} : within3 n lo hi = true ↔ lo ≤ n ∧ n ≤ hi := by unfold within3; simp
theorem witE_zero {D : Dev} {a b wait : Int} : witE D a b wait = 0 ↔ (1 ≤ wait ∧ wait ≤ 1099511627776) ∧ openE D a b = 0 := by
  unfold witE
  by_cases h : within3 wait 1 1099511627776 = false
  · rw [if_pos h]
    constructor
    · intro h; cases h
    · rintro ⟨h1, _⟩; rw [← within3_iff, h] at h1; cases h1
  · rw [if_neg h]
    exact ⟨fun h1 => ⟨within3_iff.1 (by simpa using h), h1⟩, fun h1 => h1.2⟩
theorem witO_ok {D : Dev} {a b wait : Int} (hD : D.ok) (h : witE D a b wait = 0) : (witO D a b wait).ok D := by
  obtain ⟨h1, h2⟩ := witE_zero.1 h
  exact ⟨(openC_ok h2).1, factsOf_ok _, by simp only [witO]; omega, h1, hD⟩
end Go.Sl

namespace Go.Sl
set_option linter.unusedSimpArgs false
/-! a witness on a device that doesn't die -/
structure WGood (W : WitM) (D : Dev) (k : Nat) : Prop where
  up : Up D 2
  es : D.es = []
  c : W.c = openC D 0 1
  f : W.f = factsOf W.c.text
  gen : W.c.gen ≤ k
  left : 0 ≤ W.left ∧ W.left ≤ 9223372036854775807
  wait : 1 ≤ W.wait ∧ W.wait ≤ 1099511627776
theorem WGood.fok {W : WitM} {D : Dev} {k : Nat} (h : WGood W D k) : W.f.ok := by rw [h.f]; exact factsOf_ok _
theorem WGood.openE {W : WitM} {D : Dev} {k : Nat} (h : WGood W D k) : openE D 0 1 = 0 := openE_up h.up (by decide) (by decide) (by decide)
theorem WGood.cok {W : WitM} {D : Dev} {k : Nat} (h : WGood W D k) : W.c.ok 2 := by
  have := (openC_ok h.openE).1
  rw [h.up.len, ← h.c] at this
  exact this
theorem WGood.wok {W : WitM} {D : Dev} {k : Nat} (h : WGood W D k) : W.ok D := ⟨by rw [h.up.len]; exact h.cok, h.fok, h.left, h.wait, h.up.ok⟩
theorem WGood.put {W : WitM} {D : Dev} {k : Nat} (h : WGood W D k) (hk : k < 4611686018427387904) {f : FactM} (hf : f.ok) :
    ∃ D' c', W.put D f = (0, { W with c := c', f := f }, D') ∧ WGood { W with c := c', f := f } D' (k + 1) := by
  have hl := fact_len hf
  have hg := h.gen
  obtain ⟨D', h1, h2⟩ := put_good h.up h.cok (s := recB (factR f)) (by omega) (by omega)
  have ho : openC D' 0 1 = (openC D 0 1).next (recB (factR f)) := open_next h.up.len h.openE (by omega) (by rw [← h.c]; omega) (by rw [← h.c]; exact h2)
  refine ⟨D', W.c.next (recB (factR f)), ?_, h2.up, h2.es, by rw [ho, h.c], ?_, ?_, h.left, h.wait⟩
  · unfold WitM.put; rw [h1]; rfl
  · exact (factsOf_rec hf).symm
  · show W.c.gen + 1 ≤ _; omega
theorem WGood.set {W : WitM} {D : Dev} {k : Nat} (h : WGood W D k) : WGood W.set D k := ⟨h.up, h.es, h.c, h.f, h.gen, by have := h.wait; simp only [WitM.set]; omega, h.wait⟩
theorem WGood.tick {W : WitM} {D : Dev} {k : Nat} (h : WGood W D k) : WGood W.tick D k := ⟨h.up, h.es, h.c, h.f, h.gen, by have := h.left; simp only [WitM.tick]; omega, h.wait⟩
theorem WGood.up1 {W : WitM} {D : Dev} {k : Nat} (h : WGood W D k) : WGood W D (k + 1) := ⟨h.up, h.es, h.c, h.f, by have := h.gen; omega, h.left, h.wait⟩
abbrev FL := FactM × Int
def askF (f : FactM) (left wait fr : Int) (m : MsgM) : Int × FL :=
  if inM f.mask fr = false then (20, f, left) else if f.holder = fr ∧ m.seq = 0 ∧ m.epoch = f.epoch then (0, f, wait) else
  if f.holder ≠ fr ∧ 0 < left then (25, f, left) else if f.epoch = 4611686018427387904 then (22, f, left) else (0, { f with epoch := f.epoch + 1, holder := fr, change := 0 }, wait)
def changedF (f : FactM) (left fr : Int) (m : MsgM) : Int × FL :=
  if f.holder ≠ fr ∨ m.epoch ≠ f.epoch then (20, f, left) else if within3 m.seq 1 3 = false ∨ inM m.seq fr = false then (1, f, left) else
  if m.n ≤ f.change then (0, f, left) else (0, { f with mask := m.seq, change := m.n }, left)
def lostF (f : FactM) (left fr : Int) (m : MsgM) : Int × FL := if m.n ≤ f.loss fr then (0, f, left) else (0, f.lose fr m.n, left)
def handleF (f : FactM) (left wait fr : Int) (m : MsgM) : Option (Int × FL) :=
  if m.kind = 1 then some (askF f left wait fr m) else if m.kind = 3 then some (changedF f left fr m) else if m.kind = 4 then some (lostF f left fr m) else none
def ansF (f : FactM) (m : MsgM) (e : Int) : MsgM := ⟨if m.kind = 1 then 2 else m.kind, f.epoch, f.mask, m.n, -1, f.holder, e, 0, 0, 0, 0, [], []⟩
def takeF (f : FactM) (left wait fr : Int) (m : MsgM) : (MsgM × Bool) × FL :=
  if fr < 0 ∨ 1 < fr ∨ m.may = false then ((.zero, false), f, left) else
  match handleF f left wait fr m with
  | none => ((.zero, false), f, left)
  | some r => ((ansF r.2.1 m r.1, true), r.2)
structure TakeOk (W : WitM) (D : Dev) (fr : Int) (m : MsgM) (k : Nat) (r : (MsgM × Bool) × WitM × Dev) : Prop where
  ans : r.1 = (takeF W.f W.left W.wait fr m).1
  f : r.2.1.f = (takeF W.f W.left W.wait fr m).2.1
  left : r.2.1.left = (takeF W.f W.left W.wait fr m).2.2
  wait : r.2.1.wait = W.wait
  good : WGood r.2.1 r.2.2 k
theorem handle_good {W : WitM} {D : Dev} {k : Nat} (h : WGood W D k) (hk : k < 4611686018427387904) {fr : Int} (hf : fr = 0 ∨ fr = 1) {m : MsgM} (hm : m.ok) :
    (W.handle D fr m = none ∧ handleF W.f W.left W.wait fr m = none) ∨ ∃ r q, W.handle D fr m = some r ∧ handleF W.f W.left W.wait fr m = some q ∧ r.1 = q.1 ∧ r.1 ≠ 30 ∧ r.2.1.f = q.2.1 ∧ r.2.1.left = q.2.2 ∧ r.2.1.wait = W.wait ∧ WGood r.2.1 r.2.2 (k + 1) := by
  have hw := h.wait
  unfold WitM.handle handleF
  by_cases h1 : m.kind = 1
  · rw [if_pos h1, if_pos h1]
    refine .inr ⟨_, _, rfl, rfl, ?_⟩
    unfold WitM.ask askF
    by_cases c1 : inM W.f.mask fr = false
    · rw [if_pos c1, if_pos c1]; exact ⟨rfl, by simp, rfl, rfl, rfl, h.up1⟩
    rw [if_neg c1, if_neg c1]
    by_cases c2 : W.f.holder = fr ∧ m.seq = 0 ∧ m.epoch = W.f.epoch
    · rw [if_pos c2, if_pos c2]; exact ⟨rfl, by simp, rfl, by simp only [WitM.set]; omega, rfl, h.set.up1⟩
    rw [if_neg c2, if_neg c2]
    by_cases c3 : W.f.holder ≠ fr ∧ 0 < W.left
    · rw [if_pos c3, if_pos c3]; exact ⟨rfl, by simp, rfl, rfl, rfl, h.up1⟩
    rw [if_neg c3, if_neg c3]
    by_cases c4 : W.f.epoch = 4611686018427387904
    · rw [if_pos c4, if_pos c4]; exact ⟨rfl, by simp, rfl, rfl, rfl, h.up1⟩
    rw [if_neg c4, if_neg c4]
    obtain ⟨D', c', e, hg⟩ := h.put hk (askF_ok h.wok hf c4)
    dsimp only
    rw [e]
    dsimp only
    rw [if_pos rfl]
    exact ⟨rfl, by simp, rfl, by simp only [WitM.set]; omega, rfl, hg.set⟩
  rw [if_neg h1, if_neg h1]
  by_cases h3 : m.kind = 3
  · rw [if_pos h3, if_pos h3]
    refine .inr ⟨_, _, rfl, rfl, ?_⟩
    unfold WitM.changed changedF
    by_cases c1 : W.f.holder ≠ fr ∨ m.epoch ≠ W.f.epoch
    · rw [if_pos c1, if_pos c1]; exact ⟨rfl, by simp, rfl, rfl, rfl, h.up1⟩
    rw [if_neg c1, if_neg c1]
    by_cases c2 : within3 m.seq 1 3 = false ∨ inM m.seq fr = false
    · rw [if_pos c2, if_pos c2]; exact ⟨rfl, by simp, rfl, rfl, rfl, h.up1⟩
    rw [if_neg c2, if_neg c2]
    by_cases c3 : m.n ≤ W.f.change
    · rw [if_pos c3, if_pos c3]; exact ⟨rfl, by simp, rfl, rfl, rfl, h.up1⟩
    rw [if_neg c3, if_neg c3]
    have hn := hm.n
    obtain ⟨D', c', e, hg⟩ := h.put hk (changeF_ok h.wok (m := m) (by simpa using (not_or.1 c2).1) c3 hn.2)
    rw [e]
    exact ⟨rfl, by simp, rfl, rfl, rfl, hg⟩
  rw [if_neg h3, if_neg h3]
  by_cases h4 : m.kind = 4
  · rw [if_pos h4, if_pos h4]
    refine .inr ⟨_, _, rfl, rfl, ?_⟩
    unfold WitM.lost lostF
    by_cases c1 : m.n ≤ W.f.loss fr
    · rw [if_pos c1, if_pos c1]; exact ⟨rfl, by simp, rfl, rfl, rfl, h.up1⟩
    rw [if_neg c1, if_neg c1]
    have hn := hm.n
    obtain ⟨D', c', e, hg⟩ := h.put hk (loseF_ok h.wok hn.1 hn.2 c1)
    rw [e]
    exact ⟨rfl, by simp, rfl, rfl, rfl, hg⟩
  rw [if_neg h4, if_neg h4]
  exact .inl ⟨rfl, rfl⟩
theorem take_good {W : WitM} {D : Dev} {k : Nat} (h : WGood W D k) (hk : k < 4611686018427387904) (fr : Int) (m : MsgM) : TakeOk W D fr m (k + 1) (W.take D fr m) := by
  unfold WitM.take
  by_cases c : fr < 0 ∨ 1 < fr ∨ m.may = false
  · have e : takeF W.f W.left W.wait fr m = ((.zero, false), W.f, W.left) := by unfold takeF; rw [if_pos c]
    rw [if_pos c]
    exact ⟨by rw [e], by rw [e], by rw [e], rfl, h.up1⟩
  · rw [if_neg c]
    have hm : m.ok := MsgM.ok_of (by simp only [not_or, Bool.not_eq_false] at c; exact c.2.2)
    rcases handle_good h hk (fr := fr) (by omega) hm with ⟨h1, h2⟩ | ⟨r, q, h1, h2, h3, h4, h5, h6, h7, h8⟩
    · have e : takeF W.f W.left W.wait fr m = ((.zero, false), W.f, W.left) := by unfold takeF; rw [if_neg c, h2]
      rw [h1]
      exact ⟨by rw [e], by rw [e], by rw [e], rfl, h.up1⟩
    · have e : takeF W.f W.left W.wait fr m = ((ansF q.2.1 m q.1, true), q.2) := by unfold takeF; rw [if_neg c, h2]
      rw [h1]
      dsimp only
      rw [if_neg h4]
      refine ⟨?_, by rw [e]; exact h5, by rw [e]; exact h6, h7, h8⟩
      rw [e]
      unfold WitM.answer ansF
      dsimp only
      rw [h5, h3]
theorem good_open {D : Dev} {wait : Int} {k : Nat} (hU : Up D 2) (he : D.es = []) (hg : (openC D 0 1).gen ≤ k) (hw : 1 ≤ wait ∧ wait ≤ 1099511627776) : WGood (witO D 0 1 wait) D k :=
  ⟨hU, he, rfl, rfl, hg, by simp only [witO]; omega, hw⟩
theorem good_new {wait : Int} (hw : 1 ≤ wait ∧ wait ≤ 1099511627776) : WGood (witO (Dev.new 2) 0 1 wait) (Dev.new 2) 0 :=
  good_open (new_up (by decide)) rfl (by rw [open_new (by decide) (by decide) (by decide) (by decide)]; decide) hw
theorem witO_new (wait : Int) : (witO (Dev.new 2) 0 1 wait).f = .first ∧ (witO (Dev.new 2) 0 1 wait).left = wait ∧ (witO (Dev.new 2) 0 1 wait).wait = wait := by
  refine ⟨?_, rfl, rfl⟩
  have e : (openC (Dev.new 2) 0 1).text = [] := by rw [open_new (by decide) (by decide) (by decide) (by decide)]; rfl
  have e2 : factsOf (openC (Dev.new 2) 0 1).text = FactM.first := by rw [e]; exact factsOf_nil
  unfold witO
  dsimp only
  exact e2
end Go.Sl

namespace Go.Sl
set_option linter.unusedSimpArgs false
/-! changes in one epoch -/
def maskC (us : List Bool) (top : Int) : Int := if top < 0 then 3 else if us.getD top.toNat false = true then 3 else 1
def factC (us : List Bool) (top : Int) : FactM := ⟨1, 0, maskC us top, top + 1, -1, -1⟩
def chM (mask n : Int) : MsgM := ⟨3, 1, mask, n, 0, 0, 0, 0, 0, 0, 0, [], []⟩
theorem maskC_cases (us : List Bool) (top : Int) : maskC us top = 1 ∨ maskC us top = 3 := by
  unfold maskC; split
  · exact .inr rfl
  · split
    · exact .inr rfl
    · exact .inl rfl
theorem chM_may {mask n : Int} (hm : mask = 1 ∨ mask = 3) (hn : 0 ≤ n ∧ n ≤ 100) : (chM mask n).may = true := by
  unfold MsgM.may chM within3
  rcases hm with rfl | rfl
  all_goals
    simp only [Bool.and_eq_true, decide_eq_true_eq, List.length_nil]
    omega
theorem take_change {us : List Bool} {top k : Int} {left wait : Int} (ht : -1 ≤ top) (hk : 0 ≤ k ∧ k < 50) :
    takeF (factC us top) left wait 0 (chM (maskC us k) (k + 1)) = ((ansF (factC us (max top k)) (chM (maskC us k) (k + 1)) 0, true), factC us (max top k), left) := by
  have hm := maskC_cases us k
  unfold takeF
  rw [if_neg (by rw [chM_may hm (by omega)]; simp)]
  have hh : handleF (factC us top) left wait 0 (chM (maskC us k) (k + 1)) = some (0, factC us (max top k), left) := by
    unfold handleF
    rw [if_neg (by simp [chM]), if_pos (by simp [chM])]
    unfold changedF
    rw [if_neg (by simp [factC, chM]), if_neg (by
      have h1 : (chM (maskC us k) (k + 1)).seq = maskC us k := rfl
      rw [h1]
      rcases hm with h | h <;> rw [h] <;> decide)]
    have h2 : (chM (maskC us k) (k + 1)).n = k + 1 := rfl
    have h3 : (factC us top).change = top + 1 := rfl
    rw [h2, h3]
    by_cases hkt : k + 1 ≤ top + 1
    · rw [if_pos hkt, show max top k = top by omega]
    · rw [if_neg hkt, show max top k = k by omega]; rfl
  rw [hh]
theorem take_first {wait : Int} : takeF .first 0 wait 0 ⟨1, 0, 0, 0, 0, 0, 0, 0, 0, 0, 0, [], []⟩ = ((ansF ⟨1, 0, 3, 0, -1, -1⟩ ⟨1, 0, 0, 0, 0, 0, 0, 0, 0, 0, 0, [], []⟩ 0, true), ⟨1, 0, 3, 0, -1, -1⟩, wait) := rfl
theorem factC_start (us : List Bool) : factC us (-1) = ⟨1, 0, 3, 0, -1, -1⟩ := rfl
theorem kmod {b : UInt8} {n : Nat} (h : 0 < n) : ∃ k : Nat, (IntKind.i64.wrap (b.toNat : Int)).tmod (if (50:Int) < n then 50 else n) = (k : Int) ∧ k < n ∧ k < 50 := by
  have hb := b.toNat_lt
  rw [wr (by omega) (by omega), Int.tmod_eq_emod_of_nonneg (by omega)]
  by_cases c : (50:Int) < n
  · rw [if_pos c]
    exact ⟨b.toNat % 50, by omega, by omega, by omega⟩
  · rw [if_neg c]
    have := Nat.mod_lt b.toNat h
    exact ⟨b.toNat % n, by omega, by omega, by omega⟩
theorem maskC_nat {us : List Bool} {k : Nat} {b : Bool} (h : us[k]? = some b) : maskC us k = if b = true then 3 else 1 := by
  unfold maskC
  rw [if_neg (by omega)]
  simp only [Int.toNat_natCast, List.getD_eq_getElem?_getD, h, Option.getD_some]
theorem maskC_int {us : List Bool} {k : Int} {b : Bool} (h0 : 0 ≤ k) (h : us[k.toNat]? = some b) : maskC us k = if b = true then 3 else 1 := by
  obtain ⟨n, rfl⟩ : ∃ n : Nat, k = n := ⟨k.toNat, by omega⟩
  exact maskC_nat (by simpa using h)
end Go.Sl
