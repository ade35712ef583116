/- A part of the proof: contracts and plain lemmas, each without conditions beyond those that it names. -/
import Derived.Test.YtebijajimmjknaaGG
import Derived.Test.YtebijajimmjknaaGC
import Derived.Test.YtebijajimmjknaaGI
import Derived.OpenShut
set_option linter.unusedVariables false
set_option linter.unusedSimpArgs false
set_option linter.constructorNameAsVariable false
namespace Go.Sl
set_option linter.unusedSimpArgs false
/-! messages -/
structure MsgM where
  kind : Int
  epoch : Int
  seq : Int
  n : Int
  block : Int
  client : Int
  e : Int
  t0 : Int
  t1 : Int
  t2 : Int
  t3 : Int
  data : Bytes
  row : Bytes
  deriving DecidableEq
def iV (n : Int) : Value := .int .i64 n
def sV (t : Bytes) : Value := .string ⟨t.toArray⟩
def MsgM.cells (m : MsgM) : List Value := [.int .i64 m.kind, .int .i64 m.epoch, .int .i64 m.seq, .int .i64 m.n, .int .i64 m.block, .int .i64 m.client, .int .i64 m.e, .int .i64 m.t0, .int .i64 m.t1, .int .i64 m.t2, .int .i64 m.t3, .string ⟨m.data.toArray⟩, .string ⟨m.row.toArray⟩]
def MsgM.zero : MsgM := ⟨0, 0, 0, 0, 0, 0, 0, 0, 0, 0, 0, [], []⟩
def MsgM.tn (m : MsgM) : Nat → Int
  | 0 => m.t0
  | 1 => m.t1
  | 2 => m.t2
  | _ => m.t3
/-- All of a message's numbers are numbers of 64 bits. -/
structure MsgM.in64 (m : MsgM) : Prop where
  n : -9223372036854775808 ≤ m.n ∧ m.n ≤ 9223372036854775807
def within3 (n lo hi : Int) : Bool := decide (lo ≤ n) && decide (n ≤ hi)
def maxN : Int := 4611686018427387904
def MsgM.may (m : MsgM) : Bool := within3 m.t0 0 4611686018427387904 && within3 m.t1 0 4611686018427387904 && within3 m.t2 0 4611686018427387904 && within3 m.t3 0 4611686018427387904 &&
  decide ((m.data.length : Int) ≤ 40) && decide ((m.row.length : Int) ≤ 10) && within3 m.kind 1 15 && within3 m.epoch 0 4611686018427387904 && within3 m.seq 0 4611686018427387904 && within3 m.n (-4611686018427387904) 4611686018427387904 && within3 m.block (-1) 31 && within3 m.client (-1) 3 && within3 m.e 0 31
structure MsgM.ok (m : MsgM) : Prop where
  kind : 1 ≤ m.kind ∧ m.kind ≤ 15
  epoch : 0 ≤ m.epoch ∧ m.epoch ≤ 4611686018427387904
  seq : 0 ≤ m.seq ∧ m.seq ≤ 4611686018427387904
  n : -4611686018427387904 ≤ m.n ∧ m.n ≤ 4611686018427387904
  block : -1 ≤ m.block ∧ m.block ≤ 31
  client : -1 ≤ m.client ∧ m.client ≤ 3
  t0 : 0 ≤ m.t0 ∧ m.t0 ≤ 4611686018427387904
  t1 : 0 ≤ m.t1 ∧ m.t1 ≤ 4611686018427387904
  t2 : 0 ≤ m.t2 ∧ m.t2 ≤ 4611686018427387904
  t3 : 0 ≤ m.t3 ∧ m.t3 ≤ 4611686018427387904
  data : m.data.length ≤ 40
theorem MsgM.ok_of {m : MsgM} (h : m.may = true) : m.ok := by
  unfold MsgM.may within3 at h
  simp only [Bool.and_eq_true, decide_eq_true_eq] at h
  exact ⟨by omega, by omega, by omega, by omega, by omega, by omega, by omega, by omega, by omega, by omega, by omega⟩
abbrev Wi := Int × Int × Int
def wiOk (x : Wi) : Bool := within3 x.1 x.2.1 x.2.2
def wisV (l : List Wi) : List Value := (l.map fun x => [Value.int .i64 x.1, .int .i64 x.2.1, .int .i64 x.2.2]).flatten
theorem wisV_get : ∀ (l : List Wi) (k : Nat) (x : Wi), l[k]? = some x → ((wisV l).drop (k * 3)).take 3 = [.int .i64 x.1, .int .i64 x.2.1, .int .i64 x.2.2]
  | [], k, x, h => by simp at h
  | z :: l, 0, x, h => by simp at h; subst h; simp [wisV]
  | z :: l, k + 1, x, h => by
    have := wisV_get l k x (by simpa using h)
    rw [show (k + 1) * 3 = 3 + k * 3 by omega, ← List.drop_drop]
    simpa [wisV] using this
theorem wisV_len (l : List Wi) : (wisV l).length = l.length * 3 := by
  induction l with
  | nil => rfl
  | cons x l ih => simp only [wisV, List.map_cons, List.flatten_cons, List.length_append, List.length_cons, List.length_nil] at ih ⊢; omega
/-! a witness -/
structure FactM where
  epoch : Int
  holder : Int
  mask : Int
  change : Int
  l0 : Int
  l1 : Int
  deriving DecidableEq
def FactM.cells (f : FactM) : List Value := [.int .i64 f.epoch, .int .i64 f.holder, .int .i64 f.mask, .int .i64 f.change, .int .i64 f.l0, .int .i64 f.l1]
def FactM.first : FactM := ⟨0, -1, 3, 0, -1, -1⟩
def factR (f : FactM) : RecM := ⟨40, [f.epoch, f.holder, f.mask, f.change, f.l0, f.l1], []⟩
structure FactM.ok (f : FactM) : Prop where
  epoch : 0 ≤ f.epoch ∧ f.epoch ≤ 4611686018427387904
  holder : -1 ≤ f.holder ∧ f.holder ≤ 1
  mask : 1 ≤ f.mask ∧ f.mask ≤ 3
  change : 0 ≤ f.change ∧ f.change ≤ 4611686018427387904
  l0 : -1 ≤ f.l0 ∧ f.l0 ≤ 4611686018427387904
  l1 : -1 ≤ f.l1 ∧ f.l1 ≤ 4611686018427387904
theorem FactM.first_ok : FactM.first.ok := ⟨by decide, by decide, by decide, by decide, by decide, by decide⟩
theorem fact_may {f : FactM} (h : f.ok) : (factR f).may := by
  have h1 := h.epoch; have h2 := h.holder; have h3 := h.mask; have h4 := h.change; have h5 := h.l0; have h6 := h.l1
  refine ⟨by simp [factR], by simp [factR], by simp [factR], by simp [factR], fun t ht => by simp [factR] at ht, fun n hn => ?_⟩
  simp only [factR, List.mem_cons, List.not_mem_nil, or_false] at hn
  rcases hn with rfl | rfl | rfl | rfl | rfl | rfl <;> omega
theorem fact_len {f : FactM} (h : f.ok) : (recB (factR f)).length ≤ 62 := by
  have := numsB_len (fact_may h).num
  have e : (numsB (factR f).nums).length ≤ 60 := this
  have e2 : textsB (factR f).texts = [] := rfl
  simp only [recB, e2, List.append_nil, List.length_cons]
  omega
/-- What lies in the cell: the facts, or none. -/
def factsOf (t : Bytes) : FactM := match (decM t).1.nums, (decM t).1.texts with
  | [a, b, c, d, e, f], [] => if (decM t).2 = 0 ∧ (decM t).1.kind = 40 ∧ within3 a 0 4611686018427387904 = true ∧ within3 b (-1) 1 = true ∧ within3 c 1 3 = true ∧ within3 d 0 4611686018427387904 = true ∧ within3 e (-1) 4611686018427387904 = true ∧ within3 f (-1) 4611686018427387904 = true then ⟨a, b, c, d, e, f⟩ else .first
  | _, _ => .first
theorem factsOf_ok (t : Bytes) : (factsOf t).ok := by
  unfold factsOf
  split
  · split
    · rename_i h
      unfold within3 at h
      simp only [Bool.and_eq_true, decide_eq_true_eq] at h
      obtain ⟨-, -, h1, h2, h3, h4, h5, h6⟩ := h
      exact ⟨h1, h2, h3, h4, h5, h6⟩
    · exact FactM.first_ok
  · exact FactM.first_ok
theorem factsOf_rec {f : FactM} (h : f.ok) : factsOf (recB (factR f)) = f := by
  have e : decM (recB (factR f)) = (factR f, 0) := decM_some (recD_recB (fact_may h))
  unfold factsOf
  rw [e]
  have h1 := h.epoch; have h2 := h.holder; have h3 := h.mask; have h4 := h.change; have h5 := h.l0; have h6 := h.l1
  show (if _ then _ else _) = f
  rw [if_pos]
  simp [factR, within3, h1, h2, h3, h4, h5, h6]
theorem factsOf_nil : factsOf [] = .first := rfl
structure WitM where
  c : CellM
  f : FactM
  left : Int
  wait : Int
def WitM.set (W : WitM) : WitM := { W with left := max W.wait 0 }
def WitM.tick (W : WitM) : WitM := { W with left := max (W.left - 1) 0 }
def WitM.put (W : WitM) (D : Dev) (f : FactM) : Int × WitM × Dev :=
  ((W.c.put D (recB (factR f))).1, { W with c := (W.c.put D (recB (factR f))).2.1, f := if (W.c.put D (recB (factR f))).1 = 0 then f else W.f }, (W.c.put D (recB (factR f))).2.2)
/-- Is a node in a mask? -/
def inM (mask node : Int) : Bool := if node = 0 then decide (mask % 2 = 1) else decide (2 ≤ mask)
def outM (mask node : Int) : Int := if node = 0 then (if 2 ≤ mask then 2 else 0) else mask % 2
def WitM.ask (W : WitM) (D : Dev) (from_ : Int) (m : MsgM) : Int × WitM × Dev :=
  if inM W.f.mask from_ = false then (20, W, D) else
  if W.f.holder = from_ ∧ m.seq = 0 ∧ m.epoch = W.f.epoch then (0, W.set, D) else
  if W.f.holder ≠ from_ ∧ 0 < W.left then (25, W, D) else
  if W.f.epoch = 4611686018427387904 then (22, W, D) else
  let r := W.put D { W.f with epoch := W.f.epoch + 1, holder := from_, change := 0 }
  (r.1, if r.1 = 0 then r.2.1.set else r.2.1, r.2.2)
def WitM.changed (W : WitM) (D : Dev) (from_ : Int) (m : MsgM) : Int × WitM × Dev :=
  if W.f.holder ≠ from_ ∨ m.epoch ≠ W.f.epoch then (20, W, D) else
  if within3 m.seq 1 3 = false ∨ inM m.seq from_ = false then (1, W, D) else
  if m.n ≤ W.f.change then (0, W, D) else
  W.put D { W.f with mask := m.seq, change := m.n }
def FactM.loss (f : FactM) (from_ : Int) : Int := if from_ = 0 then f.l0 else f.l1
def FactM.lose (f : FactM) (from_ n : Int) : FactM :=
  { f with holder := -1, l0 := if from_ = 0 then n else f.l0, l1 := if from_ = 0 then f.l1 else n, mask := if outM f.mask from_ ≠ 0 then outM f.mask from_ else f.mask }
def WitM.lost (W : WitM) (D : Dev) (from_ : Int) (m : MsgM) : Int × WitM × Dev :=
  if m.n ≤ W.f.loss from_ then (0, W, D) else W.put D (W.f.lose from_ m.n)
def WitM.handle (W : WitM) (D : Dev) (from_ : Int) (m : MsgM) : Option (Int × WitM × Dev) :=
  if m.kind = 1 then some (W.ask D from_ m) else if m.kind = 3 then some (W.changed D from_ m) else if m.kind = 4 then some (W.lost D from_ m) else none
def WitM.answer (W : WitM) (m : MsgM) (e : Int) : MsgM := ⟨if m.kind = 1 then 2 else m.kind, W.f.epoch, W.f.mask, m.n, -1, W.f.holder, e, 0, 0, 0, 0, [], []⟩
def WitM.take (W : WitM) (D : Dev) (from_ : Int) (m : MsgM) : (MsgM × Bool) × WitM × Dev :=
  if from_ < 0 ∨ 1 < from_ ∨ m.may = false then ((.zero, false), W, D) else
  match W.handle D from_ m with
  | none => ((.zero, false), W, D)
  | some r => if r.1 = 30 then ((.zero, false), r.2.1, r.2.2) else ((r.2.1.answer m r.1, true), r.2.1, r.2.2)
structure WitM.ok (W : WitM) (D : Dev) : Prop where
  c : W.c.ok D.l.length
  f : W.f.ok
  left : 0 ≤ W.left ∧ W.left ≤ 9223372036854775807
  wait : 1 ≤ W.wait ∧ W.wait ≤ 1099511627776
  d : D.ok
theorem put_l {C : CellM} {D : Dev} {s : Bytes} : (C.put D s).2.2.l.length = D.l.length := by
  unfold CellM.put
  split
  · rfl
  · split
    · rfl
    · dsimp only
      split
      · rw [write_l]
      · split
        · rw [barrier_l, write_l]
        · rw [barrier_l, write_l]
theorem WitM.put_ok {W : WitM} {D : Dev} {f : FactM} (h : W.ok D) (hf : f.ok) : (W.put D f).2.1.ok (W.put D f).2.2 := by
  have hp := Go.Sl.put_ok h.c h.d (recB (factR f))
  refine ⟨by unfold WitM.put; dsimp only; rw [put_l]; exact hp.1, ?_, h.left, h.wait, hp.2⟩
  unfold WitM.put; dsimp only
  split
  · exact hf
  · exact h.f
theorem WitM.set_ok {W : WitM} {D : Dev} (h : W.ok D) : W.set.ok D := ⟨h.c, h.f, by have := h.wait; simp only [WitM.set]; omega, h.wait, h.d⟩
theorem WitM.tick_ok {W : WitM} {D : Dev} (h : W.ok D) : W.tick.ok D := ⟨h.c, h.f, by have := h.left; simp only [WitM.tick]; omega, h.wait, h.d⟩
theorem askF_ok {W : WitM} {D : Dev} (h : W.ok D) {from_ : Int} (hf : from_ = 0 ∨ from_ = 1) (he : ¬ W.f.epoch = 4611686018427387904) : ({ W.f with epoch := W.f.epoch + 1, holder := from_, change := 0 } : FactM).ok := by
  have := h.f.epoch
  exact ⟨by dsimp only; omega, by dsimp only; omega, h.f.mask, by dsimp only; omega, h.f.l0, h.f.l1⟩
theorem changeF_ok {W : WitM} {D : Dev} (h : W.ok D) {m : MsgM} (hs : within3 m.seq 1 3 = true) (hn : ¬ m.n ≤ W.f.change) (hm : m.n ≤ 4611686018427387904) : ({ W.f with mask := m.seq, change := m.n } : FactM).ok := by
  unfold within3 at hs
  simp only [Bool.and_eq_true, decide_eq_true_eq] at hs
  have := h.f.change
  exact ⟨h.f.epoch, h.f.holder, by dsimp only; omega, by dsimp only; omega, h.f.l0, h.f.l1⟩
theorem outM_ok {mask from_ : Int} (h : 1 ≤ mask ∧ mask ≤ 3) (h0 : outM mask from_ ≠ 0) : 1 ≤ outM mask from_ ∧ outM mask from_ ≤ 3 := by
  unfold outM at h0 ⊢
  split at h0
  · split at h0
    · rename_i h1 h2; rw [if_pos h1, if_pos h2]; omega
    · exact absurd rfl h0
  · rename_i h1; rw [if_neg h1]; omega
theorem loseF_ok {W : WitM} {D : Dev} (h : W.ok D) {from_ n : Int} (h1 : -4611686018427387904 ≤ n) (h2 : n ≤ 4611686018427387904) (hn : ¬ n ≤ W.f.loss from_) : (W.f.lose from_ n).ok := by
  have a := h.f.l0; have b := h.f.l1
  unfold FactM.loss at hn
  refine ⟨h.f.epoch, by simp [FactM.lose], ?_, h.f.change, ?_, ?_⟩
  · simp only [FactM.lose]
    split
    · rename_i h0; exact outM_ok h.f.mask h0
    · exact h.f.mask
  · simp only [FactM.lose]; split <;> rename_i hq
    · rw [if_pos hq] at hn; omega
    · exact a
  · simp only [FactM.lose]; split <;> rename_i hq
    · exact b
    · rw [if_neg hq] at hn; omega
theorem may_all {m : MsgM} (h : within3 m.t0 0 4611686018427387904 = true ∧ within3 m.t1 0 4611686018427387904 = true ∧ within3 m.t2 0 4611686018427387904 = true ∧ within3 m.t3 0 4611686018427387904 = true) :
    m.may = (decide ((m.data.length : Int) ≤ 40) && decide ((m.row.length : Int) ≤ 10) && ([(m.kind, 1, 15), (m.epoch, 0, 4611686018427387904), (m.seq, 0, 4611686018427387904), (m.n, -4611686018427387904, 4611686018427387904), (m.block, -1, 31), (m.client, -1, 3), (m.e, 0, 31)] : List Wi).all wiOk) := by
  obtain ⟨h0, h1, h2, h3⟩ := h
  unfold MsgM.may
  rw [h0, h1, h2, h3]
  simp only [List.all_cons, List.all_nil, wiOk, Bool.and_true, Bool.true_and, Bool.and_assoc]
theorem may_not {m : MsgM} {k : Nat} (hk : k < 4) (h : within3 (m.tn k) 0 4611686018427387904 = false) : m.may = false := by
  unfold MsgM.may
  match k, hk with
  | 0, _ => rw [show within3 m.t0 0 4611686018427387904 = false from h]; rfl
  | 1, _ => rw [show within3 m.t1 0 4611686018427387904 = false from h]; simp
  | 2, _ => rw [show within3 m.t2 0 4611686018427387904 = false from h]; simp
  | 3, _ => rw [show within3 m.t3 0 4611686018427387904 = false from h]; simp
end Go.Sl

namespace Go.Sl
set_option linter.unusedSimpArgs false
theorem in_bits {mask node : Int} (hm : 1 ≤ mask ∧ mask ≤ 3) (hn : node = 0 ∨ node = 1) : bAnd .i64 (mask.fdiv (2 ^ (min node.toNat IntKind.i64.bits))) 1 = if inM mask node = true then 1 else 0 := by
  have h3 : mask = 1 ∨ mask = 2 ∨ mask = 3 := by omega
  rcases hn with rfl | rfl <;> rcases h3 with rfl | rfl | rfl <;> decide
theorem out_bits {mask node : Int} (hm : 1 ≤ mask ∧ mask ≤ 3) (hn : node = 0 ∨ node = 1) : bNot .i64 mask (IntKind.i64.wrap (1 * 2 ^ (min node.toNat IntKind.i64.bits))) = outM mask node := by
  have h3 : mask = 1 ∨ mask = 2 ∨ mask = 3 := by omega
  rcases hn with rfl | rfl <;> rcases h3 with rfl | rfl | rfl <;> decide
theorem bNot_eq (k : IntKind) (p q : Int) : bNot k p q = bNot k p q := rfl
theorem fact_enc {f : FactM} (h : f.ok) : encM (factR f) = (recB (factR f), 0) := by unfold encM; rw [if_pos (mayB_of (fact_may h))]
theorem max0 (n : Int) : (if 0 > n then 0 else n) = max n 0 := by split <;> omega
theorem fact_get {f : FactM} (c l w : Value) {node : Int} (hn : node = 0 ∨ node = 1) : ([c, .int .i64 f.epoch, .int .i64 f.holder, .int .i64 f.mask, .int .i64 f.change, .int .i64 f.l0, .int .i64 f.l1, l, w] : List Value)[0 + 1 + 4 + node.toNat * 1]? = some (.int .i64 (f.loss node)) := by
  rcases hn with rfl | rfl <;> rfl
theorem fact_set {f : FactM} {node n : Int} (hn : node = 0 ∨ node = 1) : ([.int .i64 f.epoch, .int .i64 f.holder, .int .i64 f.mask, .int .i64 f.change, .int .i64 f.l0, .int .i64 f.l1] : List Value).set (0 + 4 + node.toNat * 1) (.int .i64 n) =
    [.int .i64 f.epoch, .int .i64 f.holder, .int .i64 f.mask, .int .i64 f.change, .int .i64 (if node = 0 then n else f.l0), .int .i64 (if node = 0 then f.l1 else n)] := by
  rcases hn with rfl | rfl <;> rfl
theorem fact_one (f : FactM) : ∀ u ∈ f.cells, u.oneCell' = true := by
  intro u hu
  simp only [FactM.cells, List.mem_cons, List.not_mem_nil, or_false] at hu
  rcases hu with rfl | rfl | rfl | rfl | rfl | rfl <;> rfl
theorem msg_one (m : MsgM) : ∀ u ∈ m.cells, u.oneCell' = true := by
  intro u hu
  simp only [MsgM.cells, List.mem_cons, List.not_mem_nil, or_false] at hu
  rcases hu with rfl | rfl | rfl | rfl | rfl | rfl | rfl | rfl | rfl | rfl | rfl | rfl | rfl <;> rfl
end Go.Sl

namespace Go.Sl
set_option linter.unusedSimpArgs false
/-- Whether a cell's text says no facts. -/
def BadF (r : RecM) (e : Int) : Prop :=
  e ≠ 0 ∨ r.kind ≠ 40 ∨ (r.nums.length : Int) ≠ 6 ∨ (r.texts.length : Int) ≠ 0 ∨ within3 (r.nums.getD 0 0) 0 4611686018427387904 = false ∨ within3 (r.nums.getD 1 0) (-1) 1 = false ∨ within3 (r.nums.getD 2 0) 1 3 = false ∨ within3 (r.nums.getD 3 0) 0 4611686018427387904 = false ∨ within3 (r.nums.getD 4 0) (-1) 4611686018427387904 = false ∨ within3 (r.nums.getD 5 0) (-1) 4611686018427387904 = false
theorem facts_dich {t : Bytes} : (BadF (decM t).1 (decM t).2 → factsOf t = .first) ∧
    (¬ BadF (decM t).1 (decM t).2 → factsOf t = ⟨(decM t).1.nums.getD 0 0, (decM t).1.nums.getD 1 0, (decM t).1.nums.getD 2 0, (decM t).1.nums.getD 3 0, (decM t).1.nums.getD 4 0, (decM t).1.nums.getD 5 0⟩) := by
  unfold BadF factsOf
  generalize decM t = x
  obtain ⟨⟨k, ns, ts⟩, e⟩ := x
  dsimp only
  match ns, ts with
  | [a, b, c, d, f, g], [] =>
    simp only [List.length_cons, List.length_nil, List.getD_cons_zero, List.getD_cons_succ]
    constructor
    · intro h
      rw [if_neg]
      rintro ⟨h1, h2, h3, h4, h5, h6, h7, h8⟩
      simp_all
    · intro h
      rw [if_pos]
      simp only [not_or, Bool.not_eq_false] at h
      obtain ⟨h1, h2, _, _, h3, h4, h5, h6, h7, h8⟩ := h
      exact ⟨by omega, by omega, h3, h4, h5, h6, h7, h8⟩
  | [], _ => exact ⟨fun _ => rfl, fun h => absurd (.inr (.inr (.inl (by simp)))) h⟩
  | [_], _ => exact ⟨fun _ => rfl, fun h => absurd (.inr (.inr (.inl (by simp)))) h⟩
  | [_, _], _ => exact ⟨fun _ => rfl, fun h => absurd (.inr (.inr (.inl (by simp)))) h⟩
  | [_, _, _], _ => exact ⟨fun _ => rfl, fun h => absurd (.inr (.inr (.inl (by simp)))) h⟩
  | [_, _, _, _], _ => exact ⟨fun _ => rfl, fun h => absurd (.inr (.inr (.inl (by simp)))) h⟩
  | [_, _, _, _, _], _ => exact ⟨fun _ => rfl, fun h => absurd (.inr (.inr (.inl (by simp)))) h⟩
  | _ :: _ :: _ :: _ :: _ :: _ :: _ :: _, _ => exact ⟨fun _ => rfl, fun h => absurd (.inr (.inr (.inl (by simp only [List.length_cons]; omega)))) h⟩
  | [_, _, _, _, _, _], _ :: _ => exact ⟨fun _ => rfl, fun h => absurd (.inr (.inr (.inr (.inl (by simp only [List.length_cons]; omega))))) h⟩
theorem getd_get {α : Type} {l : List α} {i : Nat} {d : α} (h : i < l.length) : l[i]? = some (l.getD i d) := by
  rw [List.getElem?_eq_getElem h, List.getD_eq_getElem?_getD, List.getElem?_eq_getElem h]; rfl
def witE (D : Dev) (a b wait : Int) : Int := if within3 wait 1 1099511627776 = false then 1 else openE D a b
def witO (D : Dev) (a b wait : Int) : WitM := ⟨openC D a b, factsOf (openC D a b).text, wait, wait⟩
theorem within3_iff {n lo hi : Int} : within3 n lo hi = true ↔ lo ≤ n ∧ n ≤ hi := by unfold within3; simp
theorem witE_zero {D : Dev} {a b wait : Int} : witE D a b wait = 0 ↔ (1 ≤ wait ∧ wait ≤ 1099511627776) ∧ openE D a b = 0 := by
  unfold witE
  by_cases h : within3 wait 1 1099511627776 = false
  · rw [if_pos h]
    constructor
    · intro h; cases h
    · rintro ⟨h1, _⟩; rw [← within3_iff, h] at h1; cases h1
  · rw [if_neg h]
    exact ⟨fun h1 => ⟨within3_iff.1 (by simpa using h), h1⟩, fun h1 => h1.2⟩
theorem witO_ok {D : Dev} {a b wait : Int} (hD : D.ok) (h : witE D a b wait = 0) : (witO D a b wait).ok D := by
  obtain ⟨h1, h2⟩ := witE_zero.1 h
  exact ⟨(openC_ok h2).1, factsOf_ok _, by simp only [witO]; omega, h1, hD⟩
end Go.Sl

namespace Go.Sl
set_option linter.unusedSimpArgs false
/-! a witness on a device that doesn't die -/
structure WGood (W : WitM) (D : Dev) (k : Nat) : Prop where
  up : Up D 2
  es : D.es = []
  c : W.c = openC D 0 1
  f : W.f = factsOf W.c.text
  gen : W.c.gen ≤ k
  left : 0 ≤ W.left ∧ W.left ≤ 9223372036854775807
  wait : 1 ≤ W.wait ∧ W.wait ≤ 1099511627776
theorem WGood.fok {W : WitM} {D : Dev} {k : Nat} (h : WGood W D k) : W.f.ok := by rw [h.f]; exact factsOf_ok _
theorem WGood.openE {W : WitM} {D : Dev} {k : Nat} (h : WGood W D k) : openE D 0 1 = 0 := openE_up h.up (by decide) (by decide) (by decide)
theorem WGood.cok {W : WitM} {D : Dev} {k : Nat} (h : WGood W D k) : W.c.ok 2 := by
  have := (openC_ok h.openE).1
  rw [h.up.len, ← h.c] at this
  exact this
theorem WGood.wok {W : WitM} {D : Dev} {k : Nat} (h : WGood W D k) : W.ok D := ⟨by rw [h.up.len]; exact h.cok, h.fok, h.left, h.wait, h.up.ok⟩
theorem WGood.put {W : WitM} {D : Dev} {k : Nat} (h : WGood W D k) (hk : k < 4611686018427387904) {f : FactM} (hf : f.ok) :
    ∃ D' c', W.put D f = (0, { W with c := c', f := f }, D') ∧ WGood { W with c := c', f := f } D' (k + 1) := by
  have hl := fact_len hf
  have hg := h.gen
  obtain ⟨D', h1, h2⟩ := put_good h.up h.cok (s := recB (factR f)) (by omega) (by omega)
  have ho : openC D' 0 1 = (openC D 0 1).next (recB (factR f)) := open_next h.up.len h.openE (by omega) (by rw [← h.c]; omega) (by rw [← h.c]; exact h2)
  refine ⟨D', W.c.next (recB (factR f)), ?_, h2.up, h2.es, by rw [ho, h.c], ?_, ?_, h.left, h.wait⟩
  · unfold WitM.put; rw [h1]; rfl
  · exact (factsOf_rec hf).symm
  · show W.c.gen + 1 ≤ _; omega
theorem WGood.set {W : WitM} {D : Dev} {k : Nat} (h : WGood W D k) : WGood W.set D k := ⟨h.up, h.es, h.c, h.f, h.gen, by have := h.wait; simp only [WitM.set]; omega, h.wait⟩
theorem WGood.tick {W : WitM} {D : Dev} {k : Nat} (h : WGood W D k) : WGood W.tick D k := ⟨h.up, h.es, h.c, h.f, h.gen, by have := h.left; simp only [WitM.tick]; omega, h.wait⟩
theorem WGood.up1 {W : WitM} {D : Dev} {k : Nat} (h : WGood W D k) : WGood W D (k + 1) := ⟨h.up, h.es, h.c, h.f, by have := h.gen; omega, h.left, h.wait⟩
abbrev FL := FactM × Int
def askF (f : FactM) (left wait fr : Int) (m : MsgM) : Int × FL :=
  if inM f.mask fr = false then (20, f, left) else if f.holder = fr ∧ m.seq = 0 ∧ m.epoch = f.epoch then (0, f, wait) else
  if f.holder ≠ fr ∧ 0 < left then (25, f, left) else if f.epoch = 4611686018427387904 then (22, f, left) else (0, { f with epoch := f.epoch + 1, holder := fr, change := 0 }, wait)
def changedF (f : FactM) (left fr : Int) (m : MsgM) : Int × FL :=
  if f.holder ≠ fr ∨ m.epoch ≠ f.epoch then (20, f, left) else if within3 m.seq 1 3 = false ∨ inM m.seq fr = false then (1, f, left) else
  if m.n ≤ f.change then (0, f, left) else (0, { f with mask := m.seq, change := m.n }, left)
def lostF (f : FactM) (left fr : Int) (m : MsgM) : Int × FL := if m.n ≤ f.loss fr then (0, f, left) else (0, f.lose fr m.n, left)
def handleF (f : FactM) (left wait fr : Int) (m : MsgM) : Option (Int × FL) :=
  if m.kind = 1 then some (askF f left wait fr m) else if m.kind = 3 then some (changedF f left fr m) else if m.kind = 4 then some (lostF f left fr m) else none
def ansF (f : FactM) (m : MsgM) (e : Int) : MsgM := ⟨if m.kind = 1 then 2 else m.kind, f.epoch, f.mask, m.n, -1, f.holder, e, 0, 0, 0, 0, [], []⟩
def takeF (f : FactM) (left wait fr : Int) (m : MsgM) : (MsgM × Bool) × FL :=
  if fr < 0 ∨ 1 < fr ∨ m.may = false then ((.zero, false), f, left) else
  match handleF f left wait fr m with
  | none => ((.zero, false), f, left)
  | some r => ((ansF r.2.1 m r.1, true), r.2)
structure TakeOk (W : WitM) (D : Dev) (fr : Int) (m : MsgM) (k : Nat) (r : (MsgM × Bool) × WitM × Dev) : Prop where
  ans : r.1 = (takeF W.f W.left W.wait fr m).1
  f : r.2.1.f = (takeF W.f W.left W.wait fr m).2.1
  left : r.2.1.left = (takeF W.f W.left W.wait fr m).2.2
  wait : r.2.1.wait = W.wait
  good : WGood r.2.1 r.2.2 k
theorem handle_good {W : WitM} {D : Dev} {k : Nat} (h : WGood W D k) (hk : k < 4611686018427387904) {fr : Int} (hf : fr = 0 ∨ fr = 1) {m : MsgM} (hm : m.ok) :
    (W.handle D fr m = none ∧ handleF W.f W.left W.wait fr m = none) ∨ ∃ r q, W.handle D fr m = some r ∧ handleF W.f W.left W.wait fr m = some q ∧ r.1 = q.1 ∧ r.1 ≠ 30 ∧ r.2.1.f = q.2.1 ∧ r.2.1.left = q.2.2 ∧ r.2.1.wait = W.wait ∧ WGood r.2.1 r.2.2 (k + 1) := by
  have hw := h.wait
  unfold WitM.handle handleF
  by_cases h1 : m.kind = 1
  · rw [if_pos h1, if_pos h1]
    refine .inr ⟨_, _, rfl, rfl, ?_⟩
    unfold WitM.ask askF
    by_cases c1 : inM W.f.mask fr = false
    · rw [if_pos c1, if_pos c1]; exact ⟨rfl, by simp, rfl, rfl, rfl, h.up1⟩
    rw [if_neg c1, if_neg c1]
    by_cases c2 : W.f.holder = fr ∧ m.seq = 0 ∧ m.epoch = W.f.epoch
    · rw [if_pos c2, if_pos c2]; exact ⟨rfl, by simp, rfl, by simp only [WitM.set]; omega, rfl, h.set.up1⟩
    rw [if_neg c2, if_neg c2]
    by_cases c3 : W.f.holder ≠ fr ∧ 0 < W.left
    · rw [if_pos c3, if_pos c3]; exact ⟨rfl, by simp, rfl, rfl, rfl, h.up1⟩
    rw [if_neg c3, if_neg c3]
    by_cases c4 : W.f.epoch = 4611686018427387904
    · rw [if_pos c4, if_pos c4]; exact ⟨rfl, by simp, rfl, rfl, rfl, h.up1⟩
    rw [if_neg c4, if_neg c4]
    obtain ⟨D', c', e, hg⟩ := h.put hk (askF_ok h.wok hf c4)
    dsimp only
    rw [e]
    dsimp only
    rw [if_pos rfl]
    exact ⟨rfl, by simp, rfl, by simp only [WitM.set]; omega, rfl, hg.set⟩
  rw [if_neg h1, if_neg h1]
  by_cases h3 : m.kind = 3
  · rw [if_pos h3, if_pos h3]
    refine .inr ⟨_, _, rfl, rfl, ?_⟩
    unfold WitM.changed changedF
    by_cases c1 : W.f.holder ≠ fr ∨ m.epoch ≠ W.f.epoch
    · rw [if_pos c1, if_pos c1]; exact ⟨rfl, by simp, rfl, rfl, rfl, h.up1⟩
    rw [if_neg c1, if_neg c1]
    by_cases c2 : within3 m.seq 1 3 = false ∨ inM m.seq fr = false
    · rw [if_pos c2, if_pos c2]; exact ⟨rfl, by simp, rfl, rfl, rfl, h.up1⟩
    rw [if_neg c2, if_neg c2]
    by_cases c3 : m.n ≤ W.f.change
    · rw [if_pos c3, if_pos c3]; exact ⟨rfl, by simp, rfl, rfl, rfl, h.up1⟩
    rw [if_neg c3, if_neg c3]
    have hn := hm.n
    obtain ⟨D', c', e, hg⟩ := h.put hk (changeF_ok h.wok (m := m) (by simpa using (not_or.1 c2).1) c3 hn.2)
    rw [e]
    exact ⟨rfl, by simp, rfl, rfl, rfl, hg⟩
  rw [if_neg h3, if_neg h3]
  by_cases h4 : m.kind = 4
  · rw [if_pos h4, if_pos h4]
    refine .inr ⟨_, _, rfl, rfl, ?_⟩
    unfold WitM.lost lostF
    by_cases c1 : m.n ≤ W.f.loss fr
    · rw [if_pos c1, if_pos c1]; exact ⟨rfl, by simp, rfl, rfl, rfl, h.up1⟩
    rw [if_neg c1, if_neg c1]
    have hn := hm.n
    obtain ⟨D', c', e, hg⟩ := h.put hk (loseF_ok h.wok hn.1 hn.2 c1)
    rw [e]
    exact ⟨rfl, by simp, rfl, rfl, rfl, hg⟩
  rw [if_neg h4, if_neg h4]
  exact .inl ⟨rfl, rfl⟩
theorem take_good {W : WitM} {D : Dev} {k : Nat} (h : WGood W D k) (hk : k < 4611686018427387904) (fr : Int) (m : MsgM) : TakeOk W D fr m (k + 1) (W.take D fr m) := by
  unfold WitM.take
  by_cases c : fr < 0 ∨ 1 < fr ∨ m.may = false
  · have e : takeF W.f W.left W.wait fr m = ((.zero, false), W.f, W.left) := by unfold takeF; rw [if_pos c]
    rw [if_pos c]
    exact ⟨by rw [e], by rw [e], by rw [e], rfl, h.up1⟩
  · rw [if_neg c]
    have hm : m.ok := MsgM.ok_of (by simp only [not_or, Bool.not_eq_false] at c; exact c.2.2)
    rcases handle_good h hk (fr := fr) (by omega) hm with ⟨h1, h2⟩ | ⟨r, q, h1, h2, h3, h4, h5, h6, h7, h8⟩
    · have e : takeF W.f W.left W.wait fr m = ((.zero, false), W.f, W.left) := by unfold takeF; rw [if_neg c, h2]
      rw [h1]
      exact ⟨by rw [e], by rw [e], by rw [e], rfl, h.up1⟩
    · have e : takeF W.f W.left W.wait fr m = ((ansF q.2.1 m q.1, true), q.2) := by unfold takeF; rw [if_neg c, h2]
      rw [h1]
      dsimp only
      rw [if_neg h4]
      refine ⟨?_, by rw [e]; exact h5, by rw [e]; exact h6, h7, h8⟩
      rw [e]
      unfold WitM.answer ansF
      dsimp only
      rw [h5, h3]
theorem good_open {D : Dev} {wait : Int} {k : Nat} (hU : Up D 2) (he : D.es = []) (hg : (openC D 0 1).gen ≤ k) (hw : 1 ≤ wait ∧ wait ≤ 1099511627776) : WGood (witO D 0 1 wait) D k :=
  ⟨hU, he, rfl, rfl, hg, by simp only [witO]; omega, hw⟩
theorem good_new {wait : Int} (hw : 1 ≤ wait ∧ wait ≤ 1099511627776) : WGood (witO (Dev.new 2) 0 1 wait) (Dev.new 2) 0 :=
  good_open (new_up (by decide)) rfl (by rw [open_new (by decide) (by decide) (by decide) (by decide)]; decide) hw
theorem witO_new (wait : Int) : (witO (Dev.new 2) 0 1 wait).f = .first ∧ (witO (Dev.new 2) 0 1 wait).left = wait ∧ (witO (Dev.new 2) 0 1 wait).wait = wait := by
  refine ⟨?_, rfl, rfl⟩
  have e : (openC (Dev.new 2) 0 1).text = [] := by rw [open_new (by decide) (by decide) (by decide) (by decide)]; rfl
  have e2 : factsOf (openC (Dev.new 2) 0 1).text = FactM.first := by rw [e]; exact factsOf_nil
  unfold witO
  dsimp only
  exact e2
end Go.Sl

namespace Go.Sl
set_option linter.unusedSimpArgs false
/-! changes in one epoch -/
def maskC (us : List Bool) (top : Int) : Int := if top < 0 then 3 else if us.getD top.toNat false = true then 3 else 1
def factC (us : List Bool) (top : Int) : FactM := ⟨1, 0, maskC us top, top + 1, -1, -1⟩
def chM (mask n : Int) : MsgM := ⟨3, 1, mask, n, 0, 0, 0, 0, 0, 0, 0, [], []⟩
theorem maskC_cases (us : List Bool) (top : Int) : maskC us top = 1 ∨ maskC us top = 3 := by
  unfold maskC; split
  · exact .inr rfl
  · split
    · exact .inr rfl
    · exact .inl rfl
theorem chM_may {mask n : Int} (hm : mask = 1 ∨ mask = 3) (hn : 0 ≤ n ∧ n ≤ 100) : (chM mask n).may = true := by
  unfold MsgM.may chM within3
  rcases hm with rfl | rfl
  all_goals
    simp only [Bool.and_eq_true, decide_eq_true_eq, List.length_nil]
    omega
theorem take_change {us : List Bool} {top k : Int} {left wait : Int} (ht : -1 ≤ top) (hk : 0 ≤ k ∧ k < 50) :
    takeF (factC us top) left wait 0 (chM (maskC us k) (k + 1)) = ((ansF (factC us (max top k)) (chM (maskC us k) (k + 1)) 0, true), factC us (max top k), left) := by
  have hm := maskC_cases us k
  unfold takeF
  rw [if_neg (by rw [chM_may hm (by omega)]; simp)]
  have hh : handleF (factC us top) left wait 0 (chM (maskC us k) (k + 1)) = some (0, factC us (max top k), left) := by
    unfold handleF
    rw [if_neg (by simp [chM]), if_pos (by simp [chM])]
    unfold changedF
    rw [if_neg (by simp [factC, chM]), if_neg (by
      have h1 : (chM (maskC us k) (k + 1)).seq = maskC us k := rfl
      rw [h1]
      rcases hm with h | h <;> rw [h] <;> decide)]
    have h2 : (chM (maskC us k) (k + 1)).n = k + 1 := rfl
    have h3 : (factC us top).change = top + 1 := rfl
    rw [h2, h3]
    by_cases hkt : k + 1 ≤ top + 1
    · rw [if_pos hkt, show max top k = top by omega]
    · rw [if_neg hkt, show max top k = k by omega]; rfl
  rw [hh]
theorem take_first {wait : Int} : takeF .first 0 wait 0 ⟨1, 0, 0, 0, 0, 0, 0, 0, 0, 0, 0, [], []⟩ = ((ansF ⟨1, 0, 3, 0, -1, -1⟩ ⟨1, 0, 0, 0, 0, 0, 0, 0, 0, 0, 0, [], []⟩ 0, true), ⟨1, 0, 3, 0, -1, -1⟩, wait) := rfl
theorem factC_start (us : List Bool) : factC us (-1) = ⟨1, 0, 3, 0, -1, -1⟩ := rfl
theorem kmod {b : UInt8} {n : Nat} (h : 0 < n) : ∃ k : Nat, (IntKind.i64.wrap (b.toNat : Int)).tmod (if (50:Int) < n then 50 else n) = (k : Int) ∧ k < n ∧ k < 50 := by
  have hb := b.toNat_lt
  rw [wr (by omega) (by omega), Int.tmod_eq_emod_of_nonneg (by omega)]
  by_cases c : (50:Int) < n
  · rw [if_pos c]
    exact ⟨b.toNat % 50, by omega, by omega, by omega⟩
  · rw [if_neg c]
    have := Nat.mod_lt b.toNat h
    exact ⟨b.toNat % n, by omega, by omega, by omega⟩
theorem maskC_nat {us : List Bool} {k : Nat} {b : Bool} (h : us[k]? = some b) : maskC us k = if b = true then 3 else 1 := by
  unfold maskC
  rw [if_neg (by omega)]
  simp only [Int.toNat_natCast, List.getD_eq_getElem?_getD, h, Option.getD_some]
theorem maskC_int {us : List Bool} {k : Int} {b : Bool} (h0 : 0 ≤ k) (h : us[k.toNat]? = some b) : maskC us k = if b = true then 3 else 1 := by
  obtain ⟨n, rfl⟩ : ∃ n : Nat, k = n := ⟨k.toNat, by omega⟩
  exact maskC_nat (by simpa using h)
end Go.Sl

/- From the readings of arguments to messages and acts. -/
namespace Go.Sl
open Go.ChangeShapes Go.WideShapes Go.ChangeAt Go.RowKit Go.Deep
set_option linter.unusedSimpArgs false
def msgsV (l : List MsgM) : List Value := (l.map MsgM.cells).flatten
structure ActW where
  kind : Int
  n : Int
  fr : Int
  m : MsgM
  s : Bytes
  kv : Value
  ks : Keeps
def ActW.cells (a : ActW) : List Value := [.int .i64 a.kind, .int .i64 a.n, .int .i64 a.fr] ++ a.m.cells ++ [.string ⟨a.s.toArray⟩, a.kv]
structure ActW.ok [Env] (R : List Seg) (a : ActW) : Prop where
  keeps : RdV R a.kv a.ks.length (keepsV a.ks)
  n : -9223372036854775808 ≤ a.n ∧ a.n ≤ 9223372036854775807
  fr : -9223372036854775808 ≤ a.fr ∧ a.fr ≤ 9223372036854775807
theorem ActW.ok.mono [Env] {R R' : List Seg} {a : ActW} (h : a.ok R) (hg : Ge R' R) : a.ok R' := ⟨h.keeps.mono hg, h.n, h.fr⟩
def actwsV (l : List ActW) : List Value := (l.map ActW.cells).flatten
structure ActB where
  kind : Int
  n : Int
  m : MsgM
  s : Bytes
  kv : Value
  ks : Keeps
def ActB.cells (a : ActB) : List Value := [.int .i64 a.kind, .int .i64 a.n] ++ a.m.cells ++ [.string ⟨a.s.toArray⟩, a.kv]
structure ActB.ok [Env] (R : List Seg) (a : ActB) : Prop where
  keeps : RdV R a.kv a.ks.length (keepsV a.ks)
  n : -9223372036854775808 ≤ a.n ∧ a.n ≤ 9223372036854775807
theorem ActB.ok.mono [Env] {R R' : List Seg} {a : ActB} (h : a.ok R) (hg : Ge R' R) : a.ok R' := ⟨h.keeps.mono hg, h.n⟩
def actbsV (l : List ActB) : List Value := (l.map ActB.cells).flatten
theorem flat_at {α : Type} {f : α → List Value} {k : Nat} (hf : ∀ x, (f x).length = k) : ∀ (l : List α) (i : Nat) (x : α), l[i]? = some x → ((((l.map f).flatten).drop (i * k)).take k) = f x
  | [], i, x, h => by simp at h
  | z :: l, 0, x, h => by
    simp at h; subst h
    simp only [List.map_cons, List.flatten_cons, Nat.zero_mul, List.drop_zero]
    rw [List.take_append_of_le_length (by rw [hf]; exact Nat.le_refl _), List.take_of_length_le (by rw [hf]; exact Nat.le_refl _)]
  | z :: l, i + 1, x, h => by
    have := flat_at hf l i x (by simpa using h)
    rw [show (i + 1) * k = k + i * k by rw [Nat.succ_mul]; omega, ← List.drop_drop]
    simp only [List.map_cons, List.flatten_cons]
    have e : (f z ++ (List.map f l).flatten).drop k = (List.map f l).flatten := List.drop_left' (hf z)
    rw [e]
    exact this
theorem actwsV_get {l : List ActW} {i : Nat} {a : ActW} (h : l[i]? = some a) : ((actwsV l).drop (i * 18)).take 18 = a.cells := flat_at (f := ActW.cells) (k := 18) (fun _ => rfl) l i a h
theorem actbsV_get {l : List ActB} {i : Nat} {a : ActB} (h : l[i]? = some a) : ((actbsV l).drop (i * 17)).take 17 = a.cells := flat_at (f := ActB.cells) (k := 17) (fun _ => rfl) l i a h
theorem msgsV_get {l : List MsgM} {i : Nat} {a : MsgM} (h : l[i]? = some a) : ((msgsV l).drop (i * 13)).take 13 = a.cells := flat_at (f := MsgM.cells) (k := 13) (fun _ => rfl) l i a h
def fieldsAt (P : Program) (fs : Array Field) (l : List (Nat × Nat)) : Bool := (fs.toList.zip l).all fun x => Nat.beq x.1.offset x.2.1 && Nat.beq (P.cellsOf x.1.type) x.2.2
theorem at_of {P : Program} {fs : Array Field} {l : List (Nat × Nat)} (h : fieldsAt P fs l = true) (i : Nat) (f : Field) (q : Nat × Nat) (hf : fs[i]? = some f) (hq : l[i]? = some q) : f.offset = q.1 ∧ P.cellsOf f.type = q.2 := by
  have hm : (f, q) ∈ fs.toList.zip l := by
    have : (fs.toList.zip l)[i]? = some (f, q) := by rw [List.getElem?_zip_eq_some]; exact ⟨by simpa using hf, hq⟩
    exact List.mem_of_getElem? this
  have := List.all_eq_true.1 h _ hm
  simp only [Bool.and_eq_true] at this
  exact ⟨Nat.eq_of_beq_eq_true this.1, Nat.eq_of_beq_eq_true this.2⟩
section
variable {H : Type} {enc : TypeId × Value → H} {P : Program} {W : World} {base : Nat} {spare : Nat → Bool} {held : Bool}
theorem open_str {e n : Nat} {cs : List Value} {y : DataW H × List MemPlace} (he : P.underlying e = some .string) (h : DataW.trod enc P W base spare held n e cs = some y) : ∃ b : Bytes, cs = [.string ⟨b.toArray⟩] := by
  obtain ⟨s, hs, _⟩ := DataW.trod_string he h
  exact ⟨s.data.toList, by rw [hs, ← str_eta]⟩
/-- A struct's field, with its place. -/
theorem open_fld {fs : Array Field} {l : List (Nat × Nat)} {cs : List Value} {xs : List (DataW H × List MemPlace)} {n : Nat} (hat : fieldsAt P fs l = true)
    (hf : ∀ (i : Nat) (f : Field), fs[i]? = some f → DataW.trod enc P W base spare held n f.type ((cs.drop f.offset).take (P.cellsOf f.type)) = xs[i]?) (hx : xs.length = fs.size)
    (i : Nat) (f : Field) (o k : Nat) (h1 : fs[i]? = some f) (h2 : l[i]? = some (o, k)) : ∃ y, DataW.trod enc P W base spare held n f.type ((cs.drop o).take k) = some y := by
  obtain ⟨a, b⟩ := at_of hat i f (o, k) h1 h2
  have := hf i f h1
  rw [a, b] at this
  have hi : i < fs.size := by
    rcases Nat.lt_or_ge i fs.size with h | h
    · exact h
    · rw [Array.getElem?_eq_none h] at h1; cases h1
  exact ⟨_, this.trans (List.getElem?_eq_getElem (by omega))⟩
abbrev msgAt : List (Nat × Nat) := [(0, 1), (1, 1), (2, 1), (3, 1), (4, 1), (5, 1), (6, 1), (7, 4), (11, 1), (12, 1)]
theorem open_msg {e n : Nat} {cs : List Value} {y : DataW H × List MemPlace} {f0 f1 f2 f3 f4 f5 f6 f7 f8 f9 : Field} {g : TypeId} (he : P.underlying e = some (.struct #[f0, f1, f2, f3, f4, f5, f6, f7, f8, f9])) (hat : fieldsAt P #[f0, f1, f2, f3, f4, f5, f6, f7, f8, f9] msgAt = true) (hC : P.cellsOf e = 13)
    (h0 : P.underlying f0.type = some (.int .i64)) (h1 : P.underlying f1.type = some (.int .i64)) (h2 : P.underlying f2.type = some (.int .i64)) (h3 : P.underlying f3.type = some (.int .i64)) (h4 : P.underlying f4.type = some (.int .i64)) (h5 : P.underlying f5.type = some (.int .i64)) (h6 : P.underlying f6.type = some (.int .i64))
    (h7 : P.underlying f7.type = some (.array 4 g)) (hg : P.underlying g = some (.int .i64)) (hCg : P.cellsOf g = 1) (h8 : P.underlying f8.type = some .string) (h9 : P.underlying f9.type = some .string)
    (h : DataW.trod enc P W base spare held n e cs = some y) : ∃ m : MsgM, cs = m.cells := by
  obtain ⟨xs, n', _, _, hl, hxl, hf⟩ := DataW.trod_struct he h
  rw [hC] at hl
  match cs, hl with
  | [c0, c1, c2, c3, c4, c5, c6, c7, c8, c9, c10, c11, c12], _ =>
    have F := open_fld hat hf (by simpa using hxl)
    obtain ⟨_, q0⟩ := F 0 f0 0 1 rfl rfl
    obtain ⟨_, q1⟩ := F 1 f1 1 1 rfl rfl
    obtain ⟨_, q2⟩ := F 2 f2 2 1 rfl rfl
    obtain ⟨_, q3⟩ := F 3 f3 3 1 rfl rfl
    obtain ⟨_, q4⟩ := F 4 f4 4 1 rfl rfl
    obtain ⟨_, q5⟩ := F 5 f5 5 1 rfl rfl
    obtain ⟨_, q6⟩ := F 6 f6 6 1 rfl rfl
    obtain ⟨_, q7⟩ := F 7 f7 7 4 rfl rfl
    obtain ⟨_, q8⟩ := F 8 f8 11 1 rfl rfl
    obtain ⟨_, q9⟩ := F 9 f9 12 1 rfl rfl
    obtain ⟨n0, e0, -⟩ := open_i64 h0 q0
    obtain ⟨n1, e1, -⟩ := open_i64 h1 q1
    obtain ⟨n2, e2, -⟩ := open_i64 h2 q2
    obtain ⟨n3, e3, -⟩ := open_i64 h3 q3
    obtain ⟨n4, e4, -⟩ := open_i64 h4 q4
    obtain ⟨n5, e5, -⟩ := open_i64 h5 q5
    obtain ⟨n6, e6, -⟩ := open_i64 h6 q6
    obtain ⟨s8, e8⟩ := open_str h8 q8
    obtain ⟨s9, e9⟩ := open_str h9 q9
    obtain ⟨zs, m, _, _, _, hzl, hz⟩ := DataW.trod_array h7 q7
    rw [hCg] at hz
    have Z : ∀ k, k < 4 → ∃ u, zs[k]? = some u := fun k hk => ⟨_, List.getElem?_eq_getElem (by omega)⟩
    obtain ⟨u0, hu0⟩ := Z 0 (by omega)
    obtain ⟨u1, hu1⟩ := Z 1 (by omega)
    obtain ⟨u2, hu2⟩ := Z 2 (by omega)
    obtain ⟨u3, hu3⟩ := Z 3 (by omega)
    obtain ⟨t0, a0, -⟩ := open_i64 hg ((hz 0 (by omega)).trans hu0)
    obtain ⟨t1, a1, -⟩ := open_i64 hg ((hz 1 (by omega)).trans hu1)
    obtain ⟨t2, a2, -⟩ := open_i64 hg ((hz 2 (by omega)).trans hu2)
    obtain ⟨t3, a3, -⟩ := open_i64 hg ((hz 3 (by omega)).trans hu3)
    simp at e0 e1 e2 e3 e4 e5 e6 e8 e9 a0 a1 a2 a3
    subst e0 e1 e2 e3 e4 e5 e6 e8 e9 a0 a1 a2 a3
    exact ⟨⟨n0, n1, n2, n3, n4, n5, n6, t0, t1, t2, t3, s8, s9⟩, rfl⟩
theorem open_actw {e n : Nat} {cs : List Value} {y : DataW H × List MemPlace} {f0 f1 f2 f3 f4 f5 g0 g1 : Field} {k : TypeId} (he : P.underlying e = some (.struct #[f0, f1, f2, f3, f4, f5])) (hat : fieldsAt P #[f0, f1, f2, f3, f4, f5] [(0, 1), (1, 1), (2, 1), (3, 13), (16, 1), (17, 1)] = true) (hC : P.cellsOf e = 18)
    (h0 : P.underlying f0.type = some (.int .i64)) (h1 : P.underlying f1.type = some (.int .i64)) (h2 : P.underlying f2.type = some (.int .i64))
    (h3 : ∀ n cs y, DataW.trod enc P W base spare held n f3.type cs = some y → ∃ m : MsgM, cs = m.cells) (h4 : P.underlying f4.type = some .string)
    (h5 : P.underlying f5.type = some (.slice k)) (hk : P.underlying k = some (.struct #[g0, g1])) (honek : oneCellFields P #[g0, g1] = true) (hCk : P.cellsOf k = 2) (hg0 : P.underlying g0.type = some (.int .i64)) (hg1 : P.underlying g1.type = some (.int .i64))
    (h : DataW.trod enc P W base spare held n e cs = some y) : ∃ a : ActW, cs = a.cells ∧ @ActW.ok (envAt W) [baseSeg W] a := by
  obtain ⟨xs, n', _, _, hl, hxl, hf⟩ := DataW.trod_struct he h
  rw [hC] at hl
  have F := open_fld hat hf (by simpa using hxl)
  obtain ⟨_, q0⟩ := F 0 f0 0 1 rfl rfl
  obtain ⟨_, q1⟩ := F 1 f1 1 1 rfl rfl
  obtain ⟨_, q2⟩ := F 2 f2 2 1 rfl rfl
  obtain ⟨_, q3⟩ := F 3 f3 3 13 rfl rfl
  obtain ⟨_, q4⟩ := F 4 f4 16 1 rfl rfl
  obtain ⟨_, q5⟩ := F 5 f5 17 1 rfl rfl
  obtain ⟨n0, e0, -⟩ := open_i64 h0 q0
  obtain ⟨n1, e1, b1⟩ := open_i64 h1 q1
  obtain ⟨n2, e2, b2⟩ := open_i64 h2 q2
  obtain ⟨m, e3⟩ := h3 _ _ _ q3
  obtain ⟨s4, e4⟩ := open_str h4 q4
  obtain ⟨kv, ks, e5, hkk, _⟩ := open_keeps h5 hk honek hCk hg0 hg1 q5
  refine ⟨⟨n0, n1, n2, m, s4, kv, ks⟩, ?_, @ActW.ok.mk (envAt W) _ _ hkk b1 b2⟩
  match cs, hl with
  | [c0, c1, c2, c3, c4, c5, c6, c7, c8, c9, c10, c11, c12, c13, c14, c15, c16, c17], _ =>
    simp at e0 e1 e2 e3 e4 e5
    subst e0 e1 e2 e4 e5
    simp [ActW.cells, ← e3]
theorem open_actb {e n : Nat} {cs : List Value} {y : DataW H × List MemPlace} {f0 f1 f3 f4 f5 g0 g1 : Field} {k : TypeId} (he : P.underlying e = some (.struct #[f0, f1, f3, f4, f5])) (hat : fieldsAt P #[f0, f1, f3, f4, f5] [(0, 1), (1, 1), (2, 13), (15, 1), (16, 1)] = true) (hC : P.cellsOf e = 17)
    (h0 : P.underlying f0.type = some (.int .i64)) (h1 : P.underlying f1.type = some (.int .i64))
    (h3 : ∀ n cs y, DataW.trod enc P W base spare held n f3.type cs = some y → ∃ m : MsgM, cs = m.cells) (h4 : P.underlying f4.type = some .string)
    (h5 : P.underlying f5.type = some (.slice k)) (hk : P.underlying k = some (.struct #[g0, g1])) (honek : oneCellFields P #[g0, g1] = true) (hCk : P.cellsOf k = 2) (hg0 : P.underlying g0.type = some (.int .i64)) (hg1 : P.underlying g1.type = some (.int .i64))
    (h : DataW.trod enc P W base spare held n e cs = some y) : ∃ a : ActB, cs = a.cells ∧ @ActB.ok (envAt W) [baseSeg W] a := by
  obtain ⟨xs, n', _, _, hl, hxl, hf⟩ := DataW.trod_struct he h
  rw [hC] at hl
  have F := open_fld hat hf (by simpa using hxl)
  obtain ⟨_, q0⟩ := F 0 f0 0 1 rfl rfl
  obtain ⟨_, q1⟩ := F 1 f1 1 1 rfl rfl
  obtain ⟨_, q3⟩ := F 2 f3 2 13 rfl rfl
  obtain ⟨_, q4⟩ := F 3 f4 15 1 rfl rfl
  obtain ⟨_, q5⟩ := F 4 f5 16 1 rfl rfl
  obtain ⟨n0, e0, -⟩ := open_i64 h0 q0
  obtain ⟨n1, e1, b1⟩ := open_i64 h1 q1
  obtain ⟨m, e3⟩ := h3 _ _ _ q3
  obtain ⟨s4, e4⟩ := open_str h4 q4
  obtain ⟨kv, ks, e5, hkk, _⟩ := open_keeps h5 hk honek hCk hg0 hg1 q5
  refine ⟨⟨n0, n1, m, s4, kv, ks⟩, ?_, @ActB.ok.mk (envAt W) _ _ hkk b1⟩
  match cs, hl with
  | [c0, c1, c3, c4, c5, c6, c7, c8, c9, c10, c11, c12, c13, c14, c15, c16, c17], _ =>
    simp at e0 e1 e3 e4 e5
    subst e0 e1 e4 e5
    simp [ActB.cells, ← e3]
end
end Go.Sl

namespace Go.Sl
set_option linter.unusedSimpArgs false
theorem RdV.src [Env] {P : Program} {L : List Seg} {size m : Nat} {v : Value} {vs : List Value} (h : RdV L v m vs) (hl : vs.length = m * size) : Src P L size v m vs := by
  rcases h with ⟨rfl, rfl, rfl⟩ | ⟨a, c, rfl, h3, h2⟩
  · exact src_nil
  · refine ⟨hl, fun w hh => ⟨by simp [Builtin.lenOf], ?_⟩⟩
    refine run_firstCells_some w size m _ m c vs hl (fun j v hj => ?_)
    have hj' : j < vs.length := by
      rcases Nat.lt_or_ge j vs.length with h | h
      · exact h
      · rw [List.getElem?_eq_none h] at hj; cases hj
    have hm : m ≠ 0 := fun h0 => by rw [h0, Nat.zero_mul] at hl; omega
    have hs := h3 hm
    have := h2 w hh j hj'
    rw [List.getElem?_eq_getElem hj'] at hj
    cases hj
    cases a
    simp at hs
    subst hs
    rw [add_lit]
    exact this
/-! who was granted what -/
theorem mget_put {kv : Kv} {c : Nat} {k e : Int} {v : Value} : mget (mput kv c k v) e = if e = k then some v else mget kv e := by
  unfold mput mget
  by_cases h : kv.any (fun x => decide (x.1 = k)) = true
  · rw [if_pos h]
    unfold mset
    induction kv with
    | nil => simp at h
    | cons x kv ih =>
      simp only [List.map_cons, List.find?_cons]
      by_cases hx : x.1 = k
      · rw [if_pos hx]
        by_cases hek : e = k
        · subst hek; simp
        · have h1 : decide (k = e) = false := by simp; omega
          have h2 : decide (x.1 = e) = false := by simp; omega
          simp only [h1, h2, if_neg hek]
          by_cases h3 : kv.any (fun x => decide (x.1 = k)) = true
          · have := ih h3
            rw [if_neg hek] at this
            exact this
          · have e1 : (kv.map fun x => if x.1 = k then (k, v, x.2.2) else x) = kv := by
              have : ∀ x ∈ kv, (if x.1 = k then (k, v, x.2.2) else x) = x := fun y hy => by
                rw [if_neg]
                intro hyk
                exact h3 (List.any_eq_true.2 ⟨y, hy, by simp [hyk]⟩)
              exact (List.map_congr_left this).trans (List.map_id kv)
            rw [e1]
      · rw [if_neg hx]
        have h3 : kv.any (fun x => decide (x.1 = k)) = true := by simpa [hx] using h
        by_cases hxe : x.1 = e
        · have hek : e ≠ k := by omega
          simp [hxe, hek]
        · have h2 : decide (x.1 = e) = false := by simp [hxe]
          simp only [h2]
          exact ih h3
  · rw [if_neg h, List.find?_append]
    by_cases hek : e = k
    · subst hek
      have : kv.find? (fun x => decide (x.1 = e)) = none := by
        rw [List.find?_eq_none]
        intro x hx hxe
        exact h (List.any_eq_true.2 ⟨x, hx, hxe⟩)
      simp [this]
    · have h1 : decide (k = e) = false := by simp; omega
      rw [if_neg hek]
      simp [List.find?_cons, h1]
theorem uniq_put {kv : Kv} {c : Nat} {k : Int} {v : Value} (h : uniq kv) : uniq (mput kv c k v) := by
  unfold mput
  by_cases hq : kv.any (fun x => decide (x.1 = k)) = true
  · rw [if_pos hq]
    unfold uniq mset at *
    rw [List.map_map]
    have : ((fun x : Int × Value × Nat => x.1) ∘ fun x => if x.1 = k then (k, v, x.2.2) else x) = fun x => x.1 := by
      funext x
      simp only [Function.comp]
      split
      · rename_i h; exact h.symm
      · rfl
    rw [this]
    exact h
  · rw [if_neg hq]
    unfold uniq at *
    rw [List.map_append, List.map_cons, List.map_nil]
    refine List.nodup_append.2 ⟨h, by simp, fun a ha b hb => ?_⟩
    simp at hb
    subst hb
    rintro rfl
    obtain ⟨x, hx, hxk⟩ := List.mem_map.1 ha
    exact hq (List.any_eq_true.2 ⟨x, hx, by simp [hxk]⟩)
structure OwnOk (kv : Kv) (g : Int → Option Int) : Prop where
  un : uniq kv
  get : ∀ e, mget kv e = (g e).map fun n => .int .i64 n
theorem own_nil : OwnOk [] fun _ => none := ⟨by simp [uniq], fun e => rfl⟩
theorem OwnOk.put {kv : Kv} {g : Int → Option Int} (h : OwnOk kv g) (c : Nat) (e w : Int) : OwnOk (mput kv c e (.int .i64 w)) (fun x => if x = e then some w else g x) := by
  refine ⟨uniq_put h.un, fun x => ?_⟩
  rw [mget_put]
  split
  · rfl
  · exact h.get x
/-! acts -/
def maskK (ks : Keeps) : Keeps := ks.map fun x => (bAnd .i64 x.1 1, x.2)
structure LifeM where
  W : WitM
  D : Dev
  g : Int → Option Int
  bad : Bool
def grantB (a : MsgM × Bool) : Bool := a.2 && decide (a.1.kind = 2) && decide (a.1.e = 0)
def WitM.ticks (W : WitM) (k : Nat) : WitM := { W with left := max (W.left - k) 0 }
def actT (n : Int) : Nat := (n.tmod 50).toNat
def LifeM.act (w : LifeM) (x : ActW) : (MsgM × Bool) × LifeM :=
  if x.kind = 0 then
    let r := w.W.take w.D x.fr x.m
    if grantB r.1 = true then
      (r.1, ⟨r.2.1, r.2.2, fun e => if e = r.1.1.epoch then some x.fr else w.g e, w.bad || ((w.g r.1.1.epoch).isSome && decide ((w.g r.1.1.epoch).getD 0 ≠ x.fr)) || decide (r.1.1.client ≠ x.fr) || decide (r.1.1.epoch < 1)⟩)
    else (r.1, ⟨r.2.1, r.2.2, w.g, w.bad⟩)
  else if x.kind = 1 then ((.zero, false), { w with W := w.W.ticks (actT x.n) })
  else if x.kind = 2 then ((.zero, false), { w with W := witO (w.D.crash (maskK x.ks)) 0 1 w.W.wait, D := w.D.crash (maskK x.ks) })
  else if x.kind = 3 then ((.zero, false), { w with D := w.D.setFuse x.n })
  else ((.zero, false), w)
theorem ticks_zero {W : WitM} {D : Dev} (h : W.ok D) : W.ticks 0 = W := by
  have := h.left
  unfold WitM.ticks
  rw [show max (W.left - ((0 : Nat) : Int)) 0 = W.left by omega]
theorem ticks_succ (W : WitM) (k : Nat) : (W.ticks k).tick = W.ticks (k + 1) := by
  unfold WitM.ticks WitM.tick
  dsimp only
  rw [show max (max (W.left - (k : Int)) 0 - 1) 0 = max (W.left - ((k + 1 : Nat) : Int)) 0 by omega]
theorem ticks_ok {W : WitM} {D : Dev} (h : W.ok D) (k : Nat) : (W.ticks k).ok D := ⟨h.c, h.f, by have := h.left; simp only [WitM.ticks]; omega, h.wait, h.d⟩
theorem crash_E {W : WitM} {D : Dev} (h : W.ok D) (hl : D.l.length = 2) (ks : Keeps) : witE (D.crash ks) 0 1 W.wait = 0 := by
  have hU := crash_up h.d ks
  rw [hl] at hU
  exact witE_zero.2 ⟨h.wait, openE_up hU (by decide) (by decide) (by decide)⟩
theorem tmod50 (n : Int) : (∀ k : Nat, (k : Int) < n.tmod 50 ↔ k < actT n) ∧ actT n < 50 ∧ n.tmod 50 < 50 := by
  have h1 : n.tmod 50 < 50 := Int.tmod_lt_of_pos n (by omega)
  unfold actT
  refine ⟨fun k => by omega, by omega, h1⟩
theorem own_val (o : Option Int) : (o.map fun n => Value.int .i64 n).getD (.int .i64 0) = .int .i64 (o.getD 0) := by cases o <;> rfl
theorem own_some (o : Option Int) : (o.map fun n => Value.int .i64 n).isSome = o.isSome := by cases o <;> rfl
def badNow (g : Int → Option Int) (bad : Bool) (a : MsgM) (fr : Int) : Bool := bad || ((g a.epoch).isSome && decide ((g a.epoch).getD 0 ≠ fr)) || decide (a.client ≠ fr) || decide (a.epoch < 1)
theorem act_grant {W : WitM} {D : Dev} {g : Int → Option Int} {bad : Bool} {x : ActW} {r : (MsgM × Bool) × WitM × Dev} (h0 : x.kind = 0) (ht : W.take D x.fr x.m = r) (hg : grantB r.1 = true) :
    LifeM.act ⟨W, D, g, bad⟩ x = (r.1, ⟨r.2.1, r.2.2, fun e => if e = r.1.1.epoch then some x.fr else g e, badNow g bad r.1.1 x.fr⟩) := by
  unfold LifeM.act
  rw [if_pos h0]
  dsimp only
  rw [ht, if_pos hg]
  rfl
theorem act_nogrant {W : WitM} {D : Dev} {g : Int → Option Int} {bad : Bool} {x : ActW} {r : (MsgM × Bool) × WitM × Dev} (h0 : x.kind = 0) (ht : W.take D x.fr x.m = r) (hg : grantB r.1 = false) :
    LifeM.act ⟨W, D, g, bad⟩ x = (r.1, ⟨r.2.1, r.2.2, g, bad⟩) := by
  unfold LifeM.act
  rw [if_pos h0]
  dsimp only
  rw [ht, if_neg (by rw [hg]; decide)]
theorem act_tick {W : WitM} {D : Dev} {g : Int → Option Int} {bad : Bool} {x : ActW} (h : x.kind = 1) : LifeM.act ⟨W, D, g, bad⟩ x = ((.zero, false), ⟨W.ticks (actT x.n), D, g, bad⟩) := by
  unfold LifeM.act; rw [if_neg (by omega), if_pos h]
theorem act_crash {W : WitM} {D : Dev} {g : Int → Option Int} {bad : Bool} {x : ActW} (h : x.kind = 2) : LifeM.act ⟨W, D, g, bad⟩ x = ((.zero, false), ⟨witO (D.crash (maskK x.ks)) 0 1 W.wait, D.crash (maskK x.ks), g, bad⟩) := by
  unfold LifeM.act; rw [if_neg (by omega), if_neg (by omega), if_pos h]
theorem act_fuse {W : WitM} {D : Dev} {g : Int → Option Int} {bad : Bool} {x : ActW} (h : x.kind = 3) : LifeM.act ⟨W, D, g, bad⟩ x = ((.zero, false), ⟨W, D.setFuse x.n, g, bad⟩) := by
  unfold LifeM.act; rw [if_neg (by omega), if_neg (by omega), if_neg (by omega), if_pos h]
theorem act_else {W : WitM} {D : Dev} {g : Int → Option Int} {bad : Bool} {x : ActW} (h0 : x.kind ≠ 0) (h1 : x.kind ≠ 1) (h2 : x.kind ≠ 2) (h3 : x.kind ≠ 3) : LifeM.act ⟨W, D, g, bad⟩ x = ((.zero, false), ⟨W, D, g, bad⟩) := by
  unfold LifeM.act; rw [if_neg h0, if_neg h1, if_neg h2, if_neg h3]
def maskN (ks : Keeps) (k : Nat) : Keeps := maskK (ks.take k) ++ ks.drop k
theorem maskN_zero (ks : Keeps) : maskN ks 0 = ks := by simp [maskN, maskK]
theorem maskN_all (ks : Keeps) : maskN ks ks.length = maskK ks := by simp [maskN]
theorem maskN_len (ks : Keeps) (k : Nat) : (maskN ks k).length = ks.length := by simp [maskN, maskK]; omega
theorem maskN_get {ks : Keeps} {k : Nat} {x : Int × Int} (h : ks[k]? = some x) : (maskN ks k)[k]? = some x := by
  have hk : k < ks.length := (List.getElem?_eq_some_iff.1 h).1
  unfold maskN maskK
  rw [List.getElem?_append_right (by simp; omega), List.getElem?_drop]
  simp only [List.length_map, List.length_take]
  rw [show k + (k - min k ks.length) = k by omega]
  exact h
theorem maskN_set {ks : Keeps} {k : Nat} {x : Int × Int} (h : ks[k]? = some x) : (maskN ks k).set k (bAnd .i64 x.1 1, x.2) = maskN ks (k + 1) := by
  have hk : k < ks.length := (List.getElem?_eq_some_iff.1 h).1
  unfold maskN maskK
  rw [List.set_append_right _ _ (by simp; omega)]
  simp only [List.length_map, List.length_take]
  rw [show k - min k ks.length = 0 by omega, List.drop_eq_getElem_cons hk]
  have hx : ks[k] = x := by rw [List.getElem?_eq_getElem hk] at h; exact Option.some.inj h
  rw [List.set_cons_zero, List.take_add_one, h]
  simp
theorem keepsV_set {ks : Keeps} {k : Nat} {x : Int × Int} {h : Int} (hk : ks[k]? = some x) : (keepsV ks).set (k * 2) (.int .i64 h) = keepsV (ks.set k (h, x.2)) := by
  induction ks generalizing k with
  | nil => simp at hk
  | cons z ks ih =>
    cases k with
    | zero =>
      simp at hk; subst hk
      simp [keepsV]
    | succ k =>
      have := ih (k := k) (by simpa using hk)
      simp only [keepsV, List.map_cons, List.flatten_cons, List.set_cons_succ, List.cons_append, List.nil_append] at this ⊢
      rw [show (k + 1) * 2 = k * 2 + 1 + 1 by omega, List.set_cons_succ, List.set_cons_succ, this]
theorem keepsV_get0 {ks : Keeps} {k : Nat} {x : Int × Int} (hk : ks[k]? = some x) : (keepsV ks)[k * 2]? = some (.int .i64 x.1) := by
  induction ks generalizing k with
  | nil => simp at hk
  | cons z ks ih =>
    cases k with
    | zero => simp at hk; subst hk; simp [keepsV]
    | succ k =>
      have := ih (k := k) (by simpa using hk)
      rw [show (k + 1) * 2 = k * 2 + 1 + 1 by omega]
      simpa [keepsV] using this
theorem keepsV_len2 (ks : Keeps) : (keepsV ks).length = ks.length * 2 := by
  induction ks with
  | nil => rfl
  | cons z ks ih =>
    simp only [keepsV, List.map_cons, List.flatten_cons, List.length_append, List.length_cons, List.length_nil] at ih ⊢
    omega
theorem keepsV_one (ks : Keeps) : ∀ u ∈ keepsV ks, u.oneCell' = true := by
  intro u hu
  unfold keepsV at hu
  obtain ⟨l, hl, hul⟩ := List.mem_flatten.1 hu
  obtain ⟨x, _, rfl⟩ := List.mem_map.1 hl
  simp only [List.mem_cons, List.not_mem_nil, or_false] at hul
  rcases hul with rfl | rfl <;> rfl
theorem svOk_same {s : Sv} {m k : Nat} {xs ys : List Value} (h : svOk s m k xs) (hl : ys.length = xs.length) : svOk s m k ys := by
  cases s with
  | none =>
    obtain ⟨h1, h2⟩ := h
    subst h2
    exact ⟨h1, List.eq_nil_of_length_eq_zero hl⟩
  | some p =>
    obtain ⟨h1, h2, h3, h4⟩ := h
    refine ⟨h1, h2, hl.trans h3, ?_⟩
    rw [List.length_append] at h4 ⊢
    rw [hl]; exact h4
theorem maskK_len (ks : Keeps) : (maskK ks).length = ks.length := by simp [maskK]
end Go.Sl

namespace Go.Sl
set_option linter.unusedSimpArgs false
structure OwnInv (g : Int → Option Int) (f : FactM) : Prop where
  own : ∀ e w, g e = some w → e ≤ f.epoch ∧ (e = f.epoch → f.holder = w ∨ f.holder = -1)
  held : f.holder ≠ -1 → 1 ≤ f.epoch
theorem ownInv_first : OwnInv (fun _ => none) .first := ⟨fun e w h => (by cases h), fun h => absurd rfl h⟩
theorem takeF_cases (f : FactM) (left wait fr : Int) (m : MsgM) : takeF f left wait fr m = ((.zero, false), f, left) ∨ ∃ q, handleF f left wait fr m = some q ∧ (fr = 0 ∨ fr = 1) ∧ m.may = true ∧ takeF f left wait fr m = ((ansF q.2.1 m q.1, true), q.2) := by
  unfold takeF
  by_cases c : fr < 0 ∨ 1 < fr ∨ m.may = false
  · rw [if_pos c]; exact .inl rfl
  · rw [if_neg c]
    cases h : handleF f left wait fr m with
    | none => exact .inl rfl
    | some q => exact .inr ⟨q, rfl, by omega, by simp only [not_or, Bool.not_eq_false] at c; exact c.2.2, rfl⟩
/-- How the facts turn. -/
inductive TurnF (f : FactM) (left wait fr : Int) (m : MsgM) : Int → FL → Prop where
  | none (e : Int) (h : e ≠ 0) : TurnF f left wait fr m e (f, left)
  | keep (h : m.kind ≠ 1) : TurnF f left wait fr m 0 (f, left)
  | again (h : m.kind = 1) (hin : inM f.mask fr = true) (hh : f.holder = fr) : TurnF f left wait fr m 0 (f, wait)
  | grant (h : m.kind = 1) (hin : inM f.mask fr = true) (hl : f.holder = fr ∨ left ≤ 0) : TurnF f left wait fr m 0 ({ f with epoch := f.epoch + 1, holder := fr, change := 0 }, wait)
  | change (h : m.kind = 3) (hh : f.holder = fr) (he : m.epoch = f.epoch) (hw : within3 m.seq 1 3 = true) (hn : f.change < m.n) : TurnF f left wait fr m 0 ({ f with mask := m.seq, change := m.n }, left)
  | lost (h : m.kind = 4) (hn : f.loss fr < m.n) : TurnF f left wait fr m 0 (f.lose fr m.n, left)
theorem handleF_turn {f : FactM} {left wait fr : Int} {m : MsgM} {q : Int × FL} (h : handleF f left wait fr m = some q) : TurnF f left wait fr m q.1 q.2 ∧ (m.kind = 1 ∨ m.kind = 3 ∨ m.kind = 4) := by
  unfold handleF at h
  by_cases h1 : m.kind = 1
  · rw [if_pos h1] at h
    cases h
    refine ⟨?_, .inl h1⟩
    unfold askF
    by_cases c1 : inM f.mask fr = false
    · rw [if_pos c1]; exact .none _ (by simp)
    rw [if_neg c1]
    have hin : inM f.mask fr = true := by simpa using c1
    by_cases c2 : f.holder = fr ∧ m.seq = 0 ∧ m.epoch = f.epoch
    · rw [if_pos c2]; exact .again h1 hin c2.1
    rw [if_neg c2]
    by_cases c3 : f.holder ≠ fr ∧ 0 < left
    · rw [if_pos c3]; exact .none _ (by simp)
    rw [if_neg c3]
    by_cases c4 : f.epoch = 4611686018427387904
    · rw [if_pos c4]; exact .none _ (by simp)
    rw [if_neg c4]
    exact .grant h1 hin (by omega)
  rw [if_neg h1] at h
  by_cases h3 : m.kind = 3
  · rw [if_pos h3] at h
    cases h
    refine ⟨?_, .inr (.inl h3)⟩
    unfold changedF
    by_cases c1 : f.holder ≠ fr ∨ m.epoch ≠ f.epoch
    · rw [if_pos c1]; exact .none _ (by simp)
    rw [if_neg c1]
    by_cases c2 : within3 m.seq 1 3 = false ∨ inM m.seq fr = false
    · rw [if_pos c2]; exact .none _ (by simp)
    rw [if_neg c2]
    by_cases c3 : m.n ≤ f.change
    · rw [if_pos c3]; exact .keep h1
    rw [if_neg c3]
    exact .change h3 (by omega) (by omega) (by simpa using (not_or.1 c2).1) (by omega)
  rw [if_neg h3] at h
  by_cases h4 : m.kind = 4
  · rw [if_pos h4] at h
    cases h
    refine ⟨?_, .inr (.inr h4)⟩
    unfold lostF
    by_cases c1 : m.n ≤ f.loss fr
    · rw [if_pos c1]; exact .keep h1
    · rw [if_neg c1]; exact .lost h4 (by omega)
  rw [if_neg h4] at h
  cases h
def ownNext (g : Int → Option Int) (a : MsgM × Bool) (fr : Int) : Int → Option Int := if grantB a = true then fun e => if e = a.1.epoch then some fr else g e else g
theorem turn_own {f : FactM} {left wait fr : Int} {m : MsgM} {e : Int} {q : FL} (h : TurnF f left wait fr m e q) (hk : m.kind = 1 ∨ m.kind = 3 ∨ m.kind = 4) (hfr : fr = 0 ∨ fr = 1) (h0 : 0 ≤ f.epoch) {g : Int → Option Int} (hi : OwnInv g f) :
    OwnInv (ownNext g (ansF q.1 m e, true) fr) q.1 ∧ (grantB (ansF q.1 m e, true) = true → badNow g false (ansF q.1 m e) fr = false) ∧ q.2 = if grantB (ansF q.1 m e, true) = true then wait else left := by
  have hgb : ∀ q' : FactM, grantB (ansF q' m e, true) = (decide (m.kind = 1) && decide (e = 0)) := by
    intro q'
    unfold grantB ansF
    dsimp only
    rcases hk with h | h | h <;> rw [h] <;> simp
  cases h with
  | none _ he =>
    have hg : grantB (ansF f m e, true) = false := by rw [hgb]; simp [he]
    unfold ownNext
    dsimp only
    rw [hg]
    exact ⟨by simpa using hi, fun h => by simp at h, rfl⟩
  | keep hm =>
    have hg : grantB (ansF f m 0, true) = false := by rw [hgb]; simp [hm]
    unfold ownNext
    dsimp only
    rw [hg]
    exact ⟨by simpa using hi, fun h => by simp at h, rfl⟩
  | again hm _ hh =>
    have hg : grantB (ansF f m 0, true) = true := by rw [hgb]; simp [hm]
    unfold ownNext
    dsimp only
    rw [hg, if_pos rfl, if_pos rfl]
    refine ⟨⟨fun e w hw => ?_, hi.held⟩, fun _ => ?_, rfl⟩
    · have ee : (ansF f m 0).epoch = f.epoch := rfl
      rw [ee] at hw
      split at hw
      · rename_i he; cases hw; exact ⟨by omega, fun _ => .inl hh⟩
      · exact hi.own e w hw
    · have hp := hi.held (by omega)
      unfold badNow
      have ee : (ansF f m 0).epoch = f.epoch := rfl
      have ec : (ansF f m 0).client = f.holder := rfl
      rw [ee, ec]
      cases hgo : g f.epoch with
      | none => simp [hh]; omega
      | some w =>
        have := (hi.own _ _ hgo).2 rfl
        have hwf : w = fr := by omega
        simp [hh, hwf]; omega
  | grant hm _ _ =>
    have hg : grantB (ansF { f with epoch := f.epoch + 1, holder := fr, change := 0 } m 0, true) = true := by rw [hgb]; simp [hm]
    unfold ownNext
    dsimp only
    rw [hg, if_pos rfl, if_pos rfl]
    have ee : (ansF { f with epoch := f.epoch + 1, holder := fr, change := 0 } m 0).epoch = f.epoch + 1 := rfl
    have ec : (ansF { f with epoch := f.epoch + 1, holder := fr, change := 0 } m 0).client = fr := rfl
    refine ⟨⟨fun e w hw => ?_, fun _ => by dsimp only; omega⟩, fun _ => ?_, rfl⟩
    · rw [ee] at hw
      split at hw
      · rename_i he; cases hw; exact ⟨by dsimp only; omega, fun _ => .inl rfl⟩
      · have := (hi.own e w hw).1
        exact ⟨by dsimp only; omega, fun h => by dsimp only at h; omega⟩
    · unfold badNow
      rw [ee, ec]
      cases hgo : g (f.epoch + 1) with
      | none => simp; omega
      | some w => have := (hi.own _ _ hgo).1; omega
  | change hm hh he hw hn =>
    have hg : grantB (ansF { f with mask := m.seq, change := m.n } m 0, true) = false := by rw [hgb]; simp [hm]
    unfold ownNext
    dsimp only
    rw [hg]
    exact ⟨⟨fun e w h => hi.own e w (by simpa using h), hi.held⟩, fun h => by simp at h, rfl⟩
  | lost hm hn =>
    have hg : grantB (ansF (f.lose fr m.n) m 0, true) = false := by rw [hgb]; simp [hm]
    unfold ownNext
    dsimp only
    rw [hg]
    exact ⟨⟨fun e w h => ⟨(hi.own e w (by simpa using h)).1, fun _ => .inr rfl⟩, fun h => absurd rfl h⟩, fun h => by simp at h, rfl⟩
theorem grantB_zero : grantB (.zero, false) = false := rfl
theorem takeF_own {f : FactM} {left wait fr : Int} {m : MsgM} (h0 : 0 ≤ f.epoch) {g : Int → Option Int} (hi : OwnInv g f) :
    OwnInv (ownNext g (takeF f left wait fr m).1 fr) (takeF f left wait fr m).2.1 ∧ (grantB (takeF f left wait fr m).1 = true → badNow g false (takeF f left wait fr m).1.1 fr = false) ∧ (takeF f left wait fr m).2.2 = if grantB (takeF f left wait fr m).1 = true then wait else left := by
  rcases takeF_cases f left wait fr m with h | ⟨q, h1, h2, h3, h⟩
  · rw [h]
    dsimp only
    unfold ownNext
    rw [grantB_zero]
    exact ⟨by simpa using hi, fun h => by simp at h, rfl⟩
  · rw [h]
    obtain ⟨h4, h5⟩ := handleF_turn h1
    exact turn_own h4 h5 h2 h0 hi
structure ActGood (W : WitM) (D : Dev) (g : Int → Option Int) (x : ActW) (k : Nat) (w : (MsgM × Bool) × LifeM) : Prop where
  good : WGood w.2.W w.2.D k
  wait : w.2.W.wait = W.wait
  own : OwnInv w.2.g w.2.W.f
  bad : w.2.bad = false
  left : w.2.W.left = if x.kind = 1 then max (W.left - actT x.n) 0 else if grantB w.1 = true then W.wait else W.left
  ans : w.1 = if x.kind = 0 then (takeF W.f W.left W.wait x.fr x.m).1 else (.zero, false)
  f : w.2.W.f = if x.kind = 0 then (takeF W.f W.left W.wait x.fr x.m).2.1 else W.f
theorem WGood.ticks {W : WitM} {D : Dev} {k : Nat} (h : WGood W D k) (n : Nat) : WGood (W.ticks n) D k := ⟨h.up, h.es, h.c, h.f, h.gen, by have := h.left; simp only [WitM.ticks]; omega, h.wait⟩
theorem actGood {W : WitM} {D : Dev} {g : Int → Option Int} {x : ActW} {k : Nat} (h : WGood W D k) (hk : k < 4611686018427387904) (hi : OwnInv g W.f) (hx : x.kind ≤ 1) : ActGood W D g x (k + 1) (LifeM.act ⟨W, D, g, false⟩ x) := by
  have h0 := h.fok.epoch
  by_cases c0 : x.kind = 0
  · have ht := take_good h hk x.fr x.m
    obtain ⟨o1, o2, o3⟩ := takeF_own (left := W.left) (wait := W.wait) (fr := x.fr) (m := x.m) h0.1 hi
    rw [← ht.ans] at o1 o2 o3
    have e1 : x.kind ≠ 1 := by omega
    cases hg : grantB (W.take D x.fr x.m).1 with
    | true =>
      rw [act_grant c0 rfl hg]
      unfold ownNext at o1
      rw [if_pos hg, ← ht.f] at o1
      refine ⟨ht.good, ht.wait, o1, o2 hg, ?_, by rw [if_pos c0]; exact ht.ans, by rw [if_pos c0]; exact ht.f⟩
      rw [if_neg e1]
      dsimp only
      rw [ht.left, o3]
    | false =>
      rw [act_nogrant c0 rfl hg]
      unfold ownNext at o1
      rw [if_neg (by rw [hg]; decide), ← ht.f] at o1
      refine ⟨ht.good, ht.wait, o1, rfl, ?_, by rw [if_pos c0]; exact ht.ans, by rw [if_pos c0]; exact ht.f⟩
      rw [if_neg e1]
      dsimp only
      rw [ht.left, o3]
  · by_cases c1 : x.kind = 1
    · rw [act_tick c1]
      exact ⟨(h.ticks _).up1, rfl, hi, rfl, by rw [if_pos c1]; rfl, by rw [if_neg c0], by rw [if_neg c0]; rfl⟩
    · rw [act_else c0 c1 (by omega) (by omega)]
      exact ⟨h.up1, rfl, hi, rfl, by rw [if_neg c1, grantB_zero]; rfl, by rw [if_neg c0], by rw [if_neg c0]⟩
theorem ActW.ok.one [Env] {R : List Seg} {a : ActW} (h : a.ok R) : ∀ u ∈ a.cells, u.oneCell' = true := by
  obtain ⟨b, c, e⟩ := h.keeps.lenVal
  intro u hu
  unfold ActW.cells at hu
  rcases List.mem_append.1 hu with hu | hu
  · rcases List.mem_append.1 hu with hu | hu
    · simp only [List.mem_cons, List.not_mem_nil, or_false] at hu
      rcases hu with rfl | rfl | rfl <;> rfl
    · exact msg_one _ u hu
  · simp only [List.mem_cons, List.not_mem_nil, or_false] at hu
    rcases hu with rfl | rfl
    · rfl
    · rw [e]; rfl
structure LsM where
  W : WitM
  D : Dev
  kv : Kv
  n : Nat
  g : Int → Option Int
  s : Nat
  c : Nat
structure LsM.ok (S : LsM) (wt : Int) (k : Nat) : Prop where
  good : WGood S.W S.D k
  inv : OwnInv S.g S.W.f
  own : OwnOk S.kv S.g
  wait : S.W.wait = wt
theorem LsM.ok.up1 {S : LsM} {wt : Int} {k : Nat} (h : S.ok wt k) : S.ok wt (k + 1) := ⟨h.good.up1, h.inv, h.own, h.wait⟩
theorem left_is {W : WitM} {D : Dev} {g : Int → Option Int} {x : ActW} {k : Nat} {w : (MsgM × Bool) × LifeM} (hA : ActGood W D g x k w) {W' : WitM} (hw : W' = w.2.W) (z : Int)
    (h : (x.kind = 1 ∧ z = max (W.left - actT x.n) 0) ∨ (x.kind ≠ 1 ∧ grantB w.1 = true ∧ z = W.wait) ∨ (x.kind ≠ 1 ∧ grantB w.1 = false ∧ z = W.left)) : z = W'.left := by
  rw [hw, hA.left]
  rcases h with ⟨h1, rfl⟩ | ⟨h1, h2, rfl⟩ | ⟨h1, h2, rfl⟩
  · rw [if_pos h1]
  · rw [if_neg h1, if_pos h2]
  · rw [if_neg h1, if_neg (by rw [h2]; decide)]
theorem ActGood.none {W : WitM} {D : Dev} {g : Int → Option Int} {x : ActW} {k : Nat} {w : (MsgM × Bool) × LifeM} (hA : ActGood W D g x k w) (h : x.kind ≠ 0) : w.1 = (.zero, false) := by rw [hA.ans, if_neg h]
theorem actwsV_at {l : List ActW} {i r : Nat} {a : ActW} (h : l[i]? = some a) (hr : r < 18) : (actwsV l)[i * 18 + r]? = a.cells[r]? := by
  have := flatten_get (f := ActW.cells) (k := 18) (by omega) (fun _ => rfl) l i r hr
  rw [h] at this
  exact this
theorem LsM.ok.open {S : LsM} {wt : Int} {k : Nat} (h : S.ok wt k) : witE S.D 0 1 wt = 0 ∧ witO S.D 0 1 wt = { S.W with left := wt } := by
  have hw := h.good.wait
  rw [h.wait] at hw
  refine ⟨witE_zero.2 ⟨hw, h.good.openE⟩, ?_⟩
  unfold witO
  have e1 := h.good.c
  have e2 := h.good.f
  rw [← e1, ← e2]
  have e3 := h.wait
  generalize S.W = W at *
  cases W
  simp at e3
  rw [e3]
end Go.Sl

namespace Go.Sl
set_option linter.unusedSimpArgs false
/-! cells on a device that may die, whose sectors don't tear -/
structure HalfD (D Dp : Dev) (n : Nat) (o : Int) (p : Bytes) : Prop where
  live : Live Dp n
  ok : D.ok
  l : D.l = Dp.l
  dead : D.dead = true
  es : D.es = [] ∨ ∃ c, D.es = [(o, p, c)]
  o : 0 ≤ o ∧ o < n
theorem write_30 {D : Dev} {i : Int} {bs : Bytes} (h : (D.write i bs).1 = 30) : (D.write i bs).2.dead = true := by
  unfold Dev.write at h ⊢
  by_cases c1 : D.has i ≠ 0
  · rw [if_pos c1] at h ⊢
    unfold Dev.has at h
    by_cases c2 : D.dead = true
    · exact c2
    · rw [if_neg c2] at h; split at h <;> cases h
  · rw [if_neg c1] at h ⊢
    by_cases c2 : (144 : Int) < bs.length
    · rw [if_pos c2] at h; cases h
    · rw [if_neg c2] at h ⊢
      by_cases c3 : D.act.1 ≠ 0
      · rw [if_pos c3] at h ⊢
        unfold Dev.act at h ⊢
        by_cases c4 : D.fuse = 0
        · rw [if_pos c4]
        · rw [if_neg c4] at h; cases h
      · rw [if_neg c3] at h; cases h
theorem barrier_30 {D : Dev} (h : ¬ D.barrier.1 = 0) : D.barrier.2.dead = true := by
  unfold Dev.barrier at h ⊢
  by_cases c1 : D.dead = true
  · rw [if_pos c1]; exact c1
  · rw [if_neg c1] at h ⊢
    by_cases c3 : D.act.1 ≠ 0
    · rw [if_pos c3]
      unfold Dev.act at c3 ⊢
      by_cases c4 : D.fuse = 0
      · rw [if_pos c4]
      · rw [if_neg c4] at c3; exact absurd rfl c3
    · rw [if_neg c3] at h; exact absurd rfl h
theorem put_30 {C : CellM} {D D' : Dev} {s : Bytes} (h : C.put D s = (30, C, D')) : D'.dead = true := by
  unfold CellM.put at h
  by_cases c1 : (100 : Int) < s.length
  · rw [if_pos c1] at h; simp at h
  rw [if_neg c1] at h
  by_cases c2 : C.gen = 4611686018427387904
  · rw [if_pos c2] at h; simp at h
  rw [if_neg c2] at h
  dsimp only at h
  by_cases c3 : (D.write C.other (slotM (IntKind.i64.wrap (C.gen + 1)) s)).1 ≠ 0
  · rw [if_pos c3] at h
    simp only [Prod.mk.injEq, true_and] at h
    rw [← h.2]; exact write_30 h.1
  rw [if_neg c3] at h
  by_cases c4 : (D.write C.other (slotM (IntKind.i64.wrap (C.gen + 1)) s)).2.barrier.1 ≠ 0
  · rw [if_pos c4] at h
    simp only [Prod.mk.injEq, true_and] at h
    rw [← h.2]; exact barrier_30 c4
  · rw [if_neg c4] at h; simp at h
theorem put_dead {C : CellM} {D : Dev} {s : Bytes} (hd : D.dead = true) (hs : s.length ≤ 100) (hg : C.gen < 4611686018427387904) : C.put D s = (30, C, D) := by
  have e : D.write C.other (slotM (IntKind.i64.wrap (C.gen + 1)) s) = (30, D) := by
    have : D.has C.other = 30 := by unfold Dev.has; rw [if_pos hd]
    unfold Dev.write; rw [this, if_pos (by decide)]
  unfold CellM.put
  rw [if_neg (by omega), if_neg (by omega), e]
  dsimp only
  rw [if_pos (by decide)]
theorem live_openC {D : Dev} {n : Nat} {a b : Int} (h : Live D n) (hab : a ≠ b) (ha : 0 ≤ a ∧ a < n) (hb : 0 ≤ b ∧ b < n) : openE D a b = 0 ∧ (openC D a b).ok n := by
  have hE : openE D a b = 0 := openE_ok hab (by omega) (by rw [h.len]; omega) (by rw [h.live]; decide)
  have := (openC_ok hE).1
  rw [h.len] at this
  exact ⟨hE, this⟩
/-- A put on a device that is alive. -/
theorem put_live {D : Dev} {n : Nat} {a b : Int} {s : Bytes} (hL : Live D n) (hC : (openC D a b).ok n) (hs : s.length ≤ 100) (hg : (openC D a b).gen < 4611686018427387904) :
    (∃ D', (openC D a b).put D s = (0, (openC D a b).next s, D') ∧ Live D' n ∧ openC D' a b = (openC D a b).next s ∧ ∀ j : Int, 0 ≤ j → j < n → j ≠ (openC D a b).other → D'.sec j = D.sec j) ∨
    (∃ D', (openC D a b).put D s = (30, openC D a b, D') ∧ HalfD D' D n (openC D a b).other (pad (slotM ((openC D a b).gen + 1) s))) := by
  have hgen := hC.gen
  have hp := put_res hL hC hs hg
  by_cases h0 : ((openC D a b).put D s).1 = 0
  · obtain ⟨D', h1, h2, h3, h4⟩ := putRes_zero hp h0
    exact .inl ⟨D', h1, h2, open_next' hC hs hg (by rw [h3]; exact readM_pad (by rw [slotOk_iff]; omega)) h4, h4⟩
  · obtain ⟨D', h1, h2, h3, h4⟩ := putRes_fail hp h0
    exact .inr ⟨D', h1, hL, h2, h3, put_30 h1, h4, other_in hC⟩
theorem half_crash {D Dp : Dev} {n : Nat} {o : Int} {p : Bytes} (h : HalfD D Dp n o p) {ks : Keeps} (hk : ∀ x ∈ ks, x.1 ≠ 2) :
    Live (D.crash ks) n ∧ (∀ j : Int, 0 ≤ j → j < n → j ≠ o → (D.crash ks).sec j = Dp.sec j) ∧ ((D.crash ks).sec o = Dp.sec o ∨ (D.crash ks).sec o = p) := by
  have hU := crash_up h.ok ks
  have hlen : D.l.length = n := by rw [h.l]; exact h.live.len
  rw [hlen] at hU
  have hLc : Live (D.crash ks) n := ⟨hU.ok, hU.len, hU.live, rfl⟩
  refine ⟨hLc, fun j h0 h1 hj => ?_, ?_⟩
  · rcases h.es with he | ⟨c, he⟩
    · exact crash_none ks h.live h.l he j
    · rw [sec_crash_other h.ok h0, h.l, sec_l h.live.es]
      intro hm
      have : j ∈ D.es.map (·.1) := (List.mergeSort_perm _ _).mem_iff.1 hm
      rw [he] at this
      simp at this
      exact hj this
  · rcases h.es with he | ⟨c, he⟩
    · exact .inl (crash_none ks h.live h.l he o)
    · have hp : D.pending = [o] := by unfold Dev.pending; rw [he]; simp
      have hso : D.sec o = p := by unfold Dev.sec; rw [he]; simp [eget]
      have hoi := h.o
      rw [sec_l hLc.es, sec_l h.live.es, ← h.l]
      unfold Dev.crash
      dsimp only
      rw [hp]
      cases ks with
      | nil => left; rw [crashL_nil']
      | cons x ks =>
        unfold crashL
        rw [crashL_nil, List.getElem?_set_self (by omega), Option.getD_some, hso]
        unfold keep1
        split
        · exact .inr rfl
        · rw [if_neg (hk x (List.mem_cons_self ..))]
          left
          have : o.toNat < D.l.length := by omega
          simp [List.getElem?_eq_getElem this]
/-- The cell that was under way. -/
theorem half_cell {D Dp : Dev} {n : Nat} {a b : Int} {s : Bytes} (h : HalfD D Dp n (openC Dp a b).other (pad (slotM ((openC Dp a b).gen + 1) s))) {ks : Keeps} (hk : ∀ x ∈ ks, x.1 ≠ 2)
    (hC : (openC Dp a b).ok n) (hs : s.length ≤ 100) (hg : (openC Dp a b).gen < 4611686018427387904) : openC (D.crash ks) a b = openC Dp a b ∨ openC (D.crash ks) a b = (openC Dp a b).next s := by
  have hgen := hC.gen
  obtain ⟨_, h1, h2⟩ := half_crash h hk
  rcases h2 with h2 | h2
  · left
    have hall : ∀ j : Int, 0 ≤ j → j < n → (D.crash ks).sec j = Dp.sec j := fun j j0 j1 => by
      by_cases hj : j = (openC Dp a b).other
      · rw [hj]; exact h2
      · exact h1 j j0 j1 hj
    have e := openC_ab Dp a b
    have ha := hC.a
    have hb := hC.b
    rw [e.1] at ha
    rw [e.2] at hb
    exact open_same (hall a ha.1 ha.2) (hall b hb.1 hb.2)
  · right
    exact open_next' hC hs hg (by rw [h2]; exact readM_pad (by rw [slotOk_iff]; omega)) h1
theorem live_crash {D : Dev} {n : Nat} (h : Live D n) (ks : Keeps) : Live (D.crash ks) n ∧ ∀ j : Int, (D.crash ks).sec j = D.sec j := by
  have hU := crash_up h.ok ks
  rw [h.len] at hU
  exact ⟨⟨hU.ok, hU.len, hU.live, rfl⟩, fun j => sec_crash_nil h.es ks j⟩
end Go.Sl

namespace Go.Sl
set_option linter.unusedSimpArgs false
/-! a witness on a device that may die -/
/-- Facts that may follow. -/
def Cand (f f' : FactM) : Prop := (f'.epoch = f.epoch ∧ (f'.holder = f.holder ∨ f'.holder = -1)) ∨ f'.epoch = f.epoch + 1
theorem cand_own {g : Int → Option Int} {f f' : FactM} (hi : OwnInv g f) (h0 : 0 ≤ f.epoch) (hc : Cand f f') : OwnInv g f' := by
  rcases hc with ⟨h1, h2⟩ | h1
  · refine ⟨fun e w hw => ?_, fun hh => ?_⟩
    · obtain ⟨a, b⟩ := hi.own e w hw
      refine ⟨by omega, fun he => ?_⟩
      rcases h2 with h2 | h2
      · have := b (by omega); omega
      · exact .inr h2
    · rcases h2 with h2 | h2
      · have := hi.held (by omega); omega
      · exact absurd h2 hh
  · refine ⟨fun e w hw => ?_, fun hh => by omega⟩
    have := (hi.own e w hw).1
    exact ⟨by omega, fun he => by omega⟩
theorem cand_le {f f' : FactM} (hc : Cand f f') : f.epoch ≤ f'.epoch := by rcases hc with ⟨h1, _⟩ | h1 <;> omega
theorem turn_cand {f : FactM} {left wait fr : Int} {m : MsgM} {e : Int} {q : FL} (h : TurnF f left wait fr m e q) : Cand f q.1 := by
  cases h with
  | none => exact .inl ⟨rfl, .inl rfl⟩
  | keep => exact .inl ⟨rfl, .inl rfl⟩
  | again => exact .inl ⟨rfl, .inl rfl⟩
  | grant => exact .inr rfl
  | change => exact .inl ⟨rfl, .inl rfl⟩
  | lost => exact .inl ⟨rfl, .inr rfl⟩
/-- How a message is handled: without a put, or with one. -/
theorem handle_gen {W : WitM} {D : Dev} (h : W.ok D) {fr : Int} (hf : fr = 0 ∨ fr = 1) {m : MsgM} (hm : m.ok) :
    (W.handle D fr m = none ∧ handleF W.f W.left W.wait fr m = none) ∨ ∃ q, handleF W.f W.left W.wait fr m = some q ∧ q.1 ≠ 30 ∧
      ((q.2.1 = W.f ∧ W.handle D fr m = some (q.1, { W with left := q.2.2 }, D)) ∨
       (q.1 = 0 ∧ q.2.1.ok ∧ W.handle D fr m = some ((W.put D q.2.1).1, (if (W.put D q.2.1).1 = 0 then { (W.put D q.2.1).2.1 with left := q.2.2 } else (W.put D q.2.1).2.1), (W.put D q.2.1).2.2))) := by
  have hw := h.wait
  unfold WitM.handle handleF
  by_cases h1 : m.kind = 1
  · rw [if_pos h1, if_pos h1]
    refine .inr ⟨_, rfl, ?_⟩
    unfold WitM.ask askF
    by_cases c1 : inM W.f.mask fr = false
    · rw [if_pos c1, if_pos c1]; exact ⟨by simp, .inl ⟨rfl, rfl⟩⟩
    rw [if_neg c1, if_neg c1]
    by_cases c2 : W.f.holder = fr ∧ m.seq = 0 ∧ m.epoch = W.f.epoch
    · rw [if_pos c2, if_pos c2]
      refine ⟨by simp, .inl ⟨rfl, ?_⟩⟩
      unfold WitM.set
      rw [show max W.wait 0 = W.wait by omega]
    rw [if_neg c2, if_neg c2]
    by_cases c3 : W.f.holder ≠ fr ∧ 0 < W.left
    · rw [if_pos c3, if_pos c3]; exact ⟨by simp, .inl ⟨rfl, rfl⟩⟩
    rw [if_neg c3, if_neg c3]
    by_cases c4 : W.f.epoch = 4611686018427387904
    · rw [if_pos c4, if_pos c4]; exact ⟨by simp, .inl ⟨rfl, rfl⟩⟩
    rw [if_neg c4, if_neg c4]
    refine ⟨by simp, .inr ⟨rfl, askF_ok h hf c4, ?_⟩⟩
    dsimp only
    unfold WitM.set
    rw [show max (W.put D { W.f with epoch := W.f.epoch + 1, holder := fr, change := 0 }).2.1.wait 0 = W.wait by show max W.wait 0 = _; omega]
  rw [if_neg h1, if_neg h1]
  by_cases h3 : m.kind = 3
  · rw [if_pos h3, if_pos h3]
    refine .inr ⟨_, rfl, ?_⟩
    unfold WitM.changed changedF
    by_cases c1 : W.f.holder ≠ fr ∨ m.epoch ≠ W.f.epoch
    · rw [if_pos c1, if_pos c1]; exact ⟨by simp, .inl ⟨rfl, rfl⟩⟩
    rw [if_neg c1, if_neg c1]
    by_cases c2 : within3 m.seq 1 3 = false ∨ inM m.seq fr = false
    · rw [if_pos c2, if_pos c2]; exact ⟨by simp, .inl ⟨rfl, rfl⟩⟩
    rw [if_neg c2, if_neg c2]
    by_cases c3 : m.n ≤ W.f.change
    · rw [if_pos c3, if_pos c3]; exact ⟨by simp, .inl ⟨rfl, rfl⟩⟩
    rw [if_neg c3, if_neg c3]
    have hn := hm.n
    refine ⟨by simp, .inr ⟨rfl, changeF_ok h (m := m) (by simpa using (not_or.1 c2).1) c3 hn.2, ?_⟩⟩
    dsimp only
    split <;> rfl
  rw [if_neg h3, if_neg h3]
  by_cases h4 : m.kind = 4
  · rw [if_pos h4, if_pos h4]
    refine .inr ⟨_, rfl, ?_⟩
    unfold WitM.lost lostF
    by_cases c1 : m.n ≤ W.f.loss fr
    · rw [if_pos c1, if_pos c1]; exact ⟨by simp, .inl ⟨rfl, rfl⟩⟩
    rw [if_neg c1, if_neg c1]
    have hn := hm.n
    refine ⟨by simp, .inr ⟨rfl, loseF_ok h hn.1 hn.2 c1, ?_⟩⟩
    dsimp only
    split <;> rfl
  rw [if_neg h4, if_neg h4]
  exact .inl ⟨rfl, rfl⟩
inductive OneI (W : WitM) (D : Dev) (k : Nat) : Prop where
  | live (hL : Live D 2) (hc : W.c = openC D 0 1) (hf : W.f = factsOf W.c.text) (hg : W.c.gen ≤ k)
  | half (Dp : Dev) (f' : FactM) (hf' : f'.ok) (hC : Cand W.f f') (hc : W.c = openC Dp 0 1) (hf : W.f = factsOf W.c.text) (hg : W.c.gen ≤ k) (hH : HalfD D Dp 2 W.c.other (pad (slotM (W.c.gen + 1) (recB (factR f')))))
theorem OneI.up1 {W : WitM} {D : Dev} {k : Nat} (h : OneI W D k) : OneI W D (k + 1) := by
  cases h with
  | live hL hc hf hg => exact .live hL hc hf (by omega)
  | half Dp f' hf' hC hc hf hg hH => exact .half Dp f' hf' hC hc hf (by omega) hH
theorem OneI.left {W : WitM} {D : Dev} {k : Nat} (h : OneI W D k) (n : Int) : OneI { W with left := n } D k := by
  cases h with
  | live hL hc hf hg => exact .live hL hc hf hg
  | half Dp f' hf' hC hc hf hg hH => exact .half Dp f' hf' hC hc hf hg hH
theorem OneI.base {W : WitM} {D : Dev} {k : Nat} (h : OneI W D k) : W.c.ok 2 ∧ W.f.ok ∧ D.ok ∧ D.l.length = 2 ∧ W.c.gen ≤ k := by
  cases h with
  | live hL hc hf hg => exact ⟨by rw [hc]; exact (live_openC hL (by decide) (by decide) (by decide)).2, by rw [hf]; exact factsOf_ok _, hL.ok, hL.len, hg⟩
  | half Dp f' hf' hC hc hf hg hH => exact ⟨by rw [hc]; exact (live_openC hH.live (by decide) (by decide) (by decide)).2, by rw [hf]; exact factsOf_ok _, hH.ok, by rw [hH.l]; exact hH.live.len, hg⟩
structure OneS (W : WitM) (D : Dev) (g : Int → Option Int) (k : Nat) : Prop where
  i : OneI W D k
  own : OwnInv g W.f
  left : 0 ≤ W.left ∧ W.left ≤ 9223372036854775807
  wait : 1 ≤ W.wait ∧ W.wait ≤ 1099511627776
theorem OneS.wok {W : WitM} {D : Dev} {g : Int → Option Int} {k : Nat} (h : OneS W D g k) : W.ok D := by
  obtain ⟨h1, h2, h3, h4, _⟩ := h.i.base
  exact ⟨by rw [h4]; exact h1, h2, h.left, h.wait, h3⟩
/-- A put of facts that may follow. -/
theorem OneI.put {W : WitM} {D : Dev} {k : Nat} (h : OneI W D k) (hk : k < 4611686018427387904) {f' : FactM} (hf' : f'.ok) (hC : Cand W.f f') :
    (∃ c' D', W.put D f' = (0, { W with c := c', f := f' }, D') ∧ OneI { W with c := c', f := f' } D' (k + 1)) ∨ (∃ D', W.put D f' = (30, W, D') ∧ OneI W D' (k + 1)) := by
  have hl := fact_len hf'
  obtain ⟨b1, b2, b3, b4, b5⟩ := h.base
  cases h with
  | live hL hc hf hg =>
    rw [hc] at b1 b5
    rcases put_live (s := recB (factR f')) hL b1 (by omega) (by omega) with ⟨D', h1, h2, h3, _⟩ | ⟨D', h1, h2⟩
    · left
      rw [← hc] at h1 h3
      refine ⟨W.c.next (recB (factR f')), D', ?_, .live h2 h3.symm (factsOf_rec hf').symm ?_⟩
      · unfold WitM.put; rw [h1]; rfl
      · show W.c.gen + 1 ≤ _; omega
    · right
      rw [← hc] at h1 h2
      refine ⟨D', ?_, .half D f' hf' hC hc hf (by omega) h2⟩
      unfold WitM.put; rw [h1]; rfl
  | half Dp f2 hf2 hC2 hc hf hg hH =>
    right
    refine ⟨D, ?_, .half Dp f2 hf2 hC2 hc hf (by omega) hH⟩
    unfold WitM.put
    rw [put_dead hH.dead (by omega) (by omega)]
    rfl
theorem oneS_take {W : WitM} {D : Dev} {g : Int → Option Int} {k : Nat} (h : OneS W D g k) (hk : k < 4611686018427387904) (fr : Int) (m : MsgM) {r : (MsgM × Bool) × WitM × Dev} (hr : W.take D fr m = r) :
    OneS r.2.1 r.2.2 (ownNext g r.1 fr) (k + 1) ∧ (grantB r.1 = true → badNow g false r.1.1 fr = false) ∧ W.f.epoch ≤ r.2.1.f.epoch ∧ r.2.1.wait = W.wait := by
  subst hr
  have hwk := h.wok
  have h0 := hwk.f.epoch
  have hwt := h.wait
  have hlf := h.left
  have nog : ∀ (W' : WitM) (D' : Dev), OneI W' D' (k + 1) → W'.f = W.f → W'.wait = W.wait → 0 ≤ W'.left ∧ W'.left ≤ 9223372036854775807 →
      OneS W' D' (ownNext g (MsgM.zero, false) fr) (k + 1) ∧ (grantB (MsgM.zero, false) = true → badNow g false MsgM.zero fr = false) ∧ W.f.epoch ≤ W'.f.epoch ∧ W'.wait = W.wait := by
    intro W' D' h1 h2 h3 h4
    refine ⟨⟨h1, ?_, h4, by rw [h3]; exact hwt⟩, fun h => by simp [grantB_zero] at h, by rw [h2]; exact Int.le_refl _, h3⟩
    unfold ownNext
    rw [grantB_zero, h2]
    simpa using h.own
  unfold WitM.take
  by_cases c : fr < 0 ∨ 1 < fr ∨ m.may = false
  · rw [if_pos c]; exact nog W D h.i.up1 rfl rfl hlf
  rw [if_neg c]
  have hm : m.ok := MsgM.ok_of (by simp only [not_or, Bool.not_eq_false] at c; exact c.2.2)
  have hfr : fr = 0 ∨ fr = 1 := by omega
  rcases handle_gen hwk hfr hm with ⟨h1, _⟩ | ⟨q, hq, hq30, h2 | ⟨hq0, hqo, h2⟩⟩
  · rw [h1]; exact nog W D h.i.up1 rfl rfl hlf
  · obtain ⟨hqf, h2⟩ := h2
    obtain ⟨ht, hkd⟩ := handleF_turn hq
    obtain ⟨o1, o2, o3⟩ := turn_own ht hkd hfr h0.1 h.own
    rw [h2]
    dsimp only
    rw [if_neg hq30]
    have ea : ({ W with left := q.2.2 } : WitM).answer m q.1 = ansF q.2.1 m q.1 := by unfold WitM.answer ansF; rw [hqf]
    rw [ea]
    refine ⟨⟨(h.i.left _).up1, by rw [← hqf]; exact o1, ?_, hwt⟩, o2, Int.le_refl _, rfl⟩
    show 0 ≤ q.2.2 ∧ q.2.2 ≤ _
    rw [o3]
    split <;> omega
  · obtain ⟨ht, hkd⟩ := handleF_turn hq
    obtain ⟨o1, o2, o3⟩ := turn_own ht hkd hfr h0.1 h.own
    have hcd := turn_cand ht
    rw [h2]
    dsimp only
    rcases h.i.put hk hqo hcd with ⟨c', D', e, hI⟩ | ⟨D', e, hI⟩
    · rw [e]
      dsimp only
      rw [if_neg (by decide), if_pos rfl]
      have ea : ({ W with c := c', f := q.2.1, left := q.2.2 } : WitM).answer m 0 = ansF q.2.1 m q.1 := by unfold WitM.answer ansF; rw [hq0]
      rw [ea]
      refine ⟨⟨hI.left q.2.2, o1, ?_, hwt⟩, o2, cand_le hcd, rfl⟩
      show 0 ≤ q.2.2 ∧ q.2.2 ≤ _
      rw [o3]
      split <;> omega
    · rw [e]
      dsimp only
      rw [if_pos rfl, if_neg (by decide)]
      exact nog W D' hI rfl rfl hlf
theorem bAnd1 (p : Int) : bAnd .i64 p 1 ≠ 2 := by
  unfold bAnd
  have h : (BitVec.ofInt IntKind.i64.bits p &&& BitVec.ofInt IntKind.i64.bits 1).toNat ≤ 1 := by
    rw [BitVec.toNat_and]
    have : (BitVec.ofInt IntKind.i64.bits 1).toNat = 1 := by decide
    rw [this]
    exact Nat.and_le_right
  rw [wr (by omega) (by omega)]
  omega
theorem maskK_no2 (ks : Keeps) : ∀ x ∈ maskK ks, x.1 ≠ 2 := by
  intro x hx
  obtain ⟨y, _, rfl⟩ := List.mem_map.1 hx
  exact bAnd1 y.1
theorem oneS_act {W : WitM} {D : Dev} {g : Int → Option Int} {k : Nat} {x : ActW} (h : OneS W D g k) (hk : k < 4611686018427387904) (hn : x.n ≤ 9223372036854775807) {w : (MsgM × Bool) × LifeM} (hw : LifeM.act ⟨W, D, g, false⟩ x = w) :
    OneS w.2.W w.2.D w.2.g (k + 1) ∧ w.2.bad = false ∧ W.f.epoch ≤ w.2.W.f.epoch ∧ w.2.W.wait = W.wait := by
  subst hw
  have hlf := h.left
  have hwt := h.wait
  by_cases c0 : x.kind = 0
  · obtain ⟨h1, h2, h3, h4⟩ := oneS_take h hk x.fr x.m rfl
    cases hg : grantB (W.take D x.fr x.m).1 with
    | true =>
      rw [act_grant c0 rfl hg]
      unfold ownNext at h1
      rw [if_pos hg] at h1
      exact ⟨h1, h2 hg, h3, h4⟩
    | false =>
      rw [act_nogrant c0 rfl hg]
      unfold ownNext at h1
      rw [if_neg (by rw [hg]; decide)] at h1
      exact ⟨h1, rfl, h3, h4⟩
  by_cases c1 : x.kind = 1
  · rw [act_tick c1]
    exact ⟨⟨(h.i.left _).up1, h.own, by simp only [WitM.ticks]; omega, hwt⟩, rfl, Int.le_refl _, rfl⟩
  by_cases c2 : x.kind = 2
  · rw [act_crash c2]
    dsimp only
    have h0 := h.wok.f.epoch
    have hI := h.i
    cases hI with
    | live hL hc hf hg =>
      obtain ⟨hLc, hs⟩ := live_crash hL (maskK x.ks)
      have ho : openC (D.crash (maskK x.ks)) 0 1 = W.c := by rw [hc]; exact open_same (hs 0) (hs 1)
      have hff : (witO (D.crash (maskK x.ks)) 0 1 W.wait).f = W.f := by unfold witO; dsimp only; rw [ho, hf]
      refine ⟨⟨.live hLc rfl rfl ?_, by rw [hff]; exact h.own, by simp only [witO]; omega, hwt⟩, rfl, by rw [hff]; exact Int.le_refl _, rfl⟩
      show (openC (D.crash (maskK x.ks)) 0 1).gen ≤ _
      rw [ho]; omega
    | half Dp f' hf' hC hc hf hg hH =>
      rw [hc] at hH hg
      have hCk := (live_openC hH.live (a := 0) (b := 1) (by decide) (by decide) (by decide)).2
      have hlc := (half_crash hH (maskK_no2 x.ks)).1
      have hl := fact_len hf'
      have hgen := hCk.gen
      rcases half_cell hH (maskK_no2 x.ks) hCk (by omega) (by omega) with ho | ho
      · have hff : (witO (D.crash (maskK x.ks)) 0 1 W.wait).f = W.f := by unfold witO; dsimp only; rw [ho, hf, hc]
        refine ⟨⟨.live hlc rfl rfl ?_, by rw [hff]; exact h.own, by simp only [witO]; omega, hwt⟩, rfl, by rw [hff]; exact Int.le_refl _, rfl⟩
        show (openC (D.crash (maskK x.ks)) 0 1).gen ≤ _
        rw [ho]; omega
      · have hff : (witO (D.crash (maskK x.ks)) 0 1 W.wait).f = f' := by unfold witO; dsimp only; rw [ho]; exact factsOf_rec hf'
        refine ⟨⟨.live hlc rfl rfl ?_, by rw [hff]; exact cand_own h.own h0.1 hC, by simp only [witO]; omega, hwt⟩, rfl, by rw [hff]; exact cand_le hC, rfl⟩
        show (openC (D.crash (maskK x.ks)) 0 1).gen ≤ _
        rw [ho]
        show (openC Dp 0 1).gen + 1 ≤ _
        omega
  by_cases c3 : x.kind = 3
  · rw [act_fuse c3]
    refine ⟨⟨?_, h.own, hlf, hwt⟩, rfl, Int.le_refl _, rfl⟩
    have hI := h.i
    cases hI with
    | live hL hc hf hg => exact .live ⟨Dev.setFuse_ok hL.ok hn, hL.len, hL.live, hL.es⟩ (by dsimp only; rw [hc]; exact open_same rfl rfl) hf (by dsimp only; omega)
    | half Dp f' hf' hC hc hf hg hH => exact .half Dp f' hf' hC hc hf (by dsimp only; omega) ⟨hH.live, Dev.setFuse_ok hH.ok hn, hH.l, hH.dead, hH.es, hH.o⟩
  · rw [act_else c0 c1 c2 c3]
    exact ⟨⟨h.i.up1, h.own, hlf, hwt⟩, rfl, Int.le_refl _, rfl⟩
end Go.Sl
