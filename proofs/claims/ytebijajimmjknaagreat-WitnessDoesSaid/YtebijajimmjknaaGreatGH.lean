/- A part of the proof: contracts and plain lemmas, each without conditions beyond those that it names. -/
import Derived.Test.YtebijajimmjknaaGreatGG
import Derived.Test.YtebijajimmjknaaGreatGC
import Derived.Test.YtebijajimmjknaaGreatGI
import Derived.OpenShut
set_option linter.unusedVariables false
set_option linter.unusedSimpArgs false
set_option linter.constructorNameAsVariable false
namespace Go.Sl
set_option linter.unusedSimpArgs false
structure MsgM where
  kind : Int
  epoch : Int
  seq : Int
  n : Int
  block : Int
  client : Int
  e : Int
  t0 : Int
  t1 : Int
  t2 : Int
  t3 : Int
  data : Bytes
  row : Bytes
  deriving DecidableEq
def MsgM.cells (m : MsgM) : List Value := [.int .i64 m.kind, .int .i64 m.epoch, .int .i64 m.seq, .int .i64 m.n, .int .i64 m.block, .int .i64 m.client, .int .i64 m.e, .int .i64 m.t0, .int .i64 m.t1, .int .i64 m.t2, .int .i64 m.t3, .string ⟨m.data.toArray⟩, .string ⟨m.row.toArray⟩]
def MsgM.zero : MsgM := ⟨0, 0, 0, 0, 0, 0, 0, 0, 0, 0, 0, [], []⟩
def MsgM.tn (m : MsgM) : Nat → Int
  | 0 => m.t0
  | 1 => m.t1
  | 2 => m.t2
  | _ => m.t3
def within3 (n lo hi : Int) : Bool := decide (lo ≤ n) && decide (n ≤ hi)
def MsgM.may (m : MsgM) : Bool := within3 m.t0 0 4611686018427387904 && within3 m.t1 0 4611686018427387904 && within3 m.t2 0 4611686018427387904 && within3 m.t3 0 4611686018427387904 &&
  decide ((m.data.length : Int) ≤ 40) && decide ((m.row.length : Int) ≤ 10) && within3 m.kind 1 15 && within3 m.epoch 0 4611686018427387904 && within3 m.seq 0 4611686018427387904 && within3 m.n (-4611686018427387904) 4611686018427387904 && within3 m.block (-1) 31 && within3 m.client (-1) 3 && within3 m.e 0 31
structure MsgM.ok (m : MsgM) : Prop where
  kind : 1 ≤ m.kind ∧ m.kind ≤ 15
  epoch : 0 ≤ m.epoch ∧ m.epoch ≤ 4611686018427387904
  seq : 0 ≤ m.seq ∧ m.seq ≤ 4611686018427387904
  n : -4611686018427387904 ≤ m.n ∧ m.n ≤ 4611686018427387904
  block : -1 ≤ m.block ∧ m.block ≤ 31
  client : -1 ≤ m.client ∧ m.client ≤ 3
  t0 : 0 ≤ m.t0 ∧ m.t0 ≤ 4611686018427387904
  t1 : 0 ≤ m.t1 ∧ m.t1 ≤ 4611686018427387904
  t2 : 0 ≤ m.t2 ∧ m.t2 ≤ 4611686018427387904
  t3 : 0 ≤ m.t3 ∧ m.t3 ≤ 4611686018427387904
  data : m.data.length ≤ 40
theorem MsgM.ok_of {m : MsgM} (h : m.may = true) : m.ok := by
  unfold MsgM.may within3 at h
  simp only [Bool.and_eq_true, decide_eq_true_eq] at h
  exact ⟨by omega, by omega, by omega, by omega, by omega, by omega, by omega, by omega, by omega, by omega, by omega⟩
abbrev Wi := Int × Int × Int
def wiOk (x : Wi) : Bool := within3 x.1 x.2.1 x.2.2
def wisV (l : List Wi) : List Value := (l.map fun x => [Value.int .i64 x.1, .int .i64 x.2.1, .int .i64 x.2.2]).flatten
theorem wisV_get : ∀ (l : List Wi) (k : Nat) (x : Wi), l[k]? = some x → ((wisV l).drop (k * 3)).take 3 = [.int .i64 x.1, .int .i64 x.2.1, .int .i64 x.2.2]
  | [], k, x, h => by simp at h
  | z :: l, 0, x, h => by simp at h; subst h; simp [wisV]
  | z :: l, k + 1, x, h => by
    have := wisV_get l k x (by simpa using h)
    rw [show (k + 1) * 3 = 3 + k * 3 by omega, ← List.drop_drop]
    simpa [wisV] using this
structure FactM where
  epoch : Int
  holder : Int
  mask : Int
  change : Int
  l0 : Int
  l1 : Int
  deriving DecidableEq
def FactM.cells (f : FactM) : List Value := [.int .i64 f.epoch, .int .i64 f.holder, .int .i64 f.mask, .int .i64 f.change, .int .i64 f.l0, .int .i64 f.l1]
def FactM.first : FactM := ⟨0, -1, 3, 0, -1, -1⟩
def factR (f : FactM) : RecM := ⟨40, [f.epoch, f.holder, f.mask, f.change, f.l0, f.l1], []⟩
structure FactM.ok (f : FactM) : Prop where
  epoch : 0 ≤ f.epoch ∧ f.epoch ≤ 4611686018427387904
  holder : -1 ≤ f.holder ∧ f.holder ≤ 1
  mask : 1 ≤ f.mask ∧ f.mask ≤ 3
  change : 0 ≤ f.change ∧ f.change ≤ 4611686018427387904
  l0 : -1 ≤ f.l0 ∧ f.l0 ≤ 4611686018427387904
  l1 : -1 ≤ f.l1 ∧ f.l1 ≤ 4611686018427387904
theorem FactM.first_ok : FactM.first.ok := ⟨by decide, by decide, by decide, by decide, by decide, by decide⟩
theorem fact_may {f : FactM} (h : f.ok) : (factR f).may := by
  have h1 := h.epoch; have h2 := h.holder; have h3 := h.mask; have h4 := h.change; have h5 := h.l0; have h6 := h.l1
  refine ⟨by simp [factR], by simp [factR], by simp [factR], by simp [factR], fun t ht => by simp [factR] at ht, fun n hn => ?_⟩
  simp only [factR, List.mem_cons, List.not_mem_nil, or_false] at hn
  rcases hn with rfl | rfl | rfl | rfl | rfl | rfl <;> omega
theorem fact_len {f : FactM} (h : f.ok) : (recB (factR f)).length ≤ 62 := by
  have := numsB_len (fact_may h).num
  have e : (numsB (factR f).nums).length ≤ 60 := this
  have e2 : textsB (factR f).texts = [] := rfl
  simp only [recB, e2, List.append_nil, List.length_cons]
  omega
/-- What lies in the cell: the facts, or none. -/
def factsOf (t : Bytes) : FactM := match (decM t).1.nums, (decM t).1.texts with
  | [a, b, c, d, e, f], [] => if (decM t).2 = 0 ∧ (decM t).1.kind = 40 ∧ within3 a 0 4611686018427387904 = true ∧ within3 b (-1) 1 = true ∧ within3 c 1 3 = true ∧ within3 d 0 4611686018427387904 = true ∧ within3 e (-1) 4611686018427387904 = true ∧ within3 f (-1) 4611686018427387904 = true then ⟨a, b, c, d, e, f⟩ else .first
  | _, _ => .first
theorem factsOf_ok (t : Bytes) : (factsOf t).ok := by
  unfold factsOf
  split
  · split
    · rename_i h
      unfold within3 at h
      simp only [Bool.and_eq_true, decide_eq_true_eq] at h
      obtain ⟨-, -, h1, h2, h3, h4, h5, h6⟩ := h
      exact ⟨h1, h2, h3, h4, h5, h6⟩
    · exact FactM.first_ok
  · exact FactM.first_ok
theorem factsOf_rec {f : FactM} (h : f.ok) : factsOf (recB (factR f)) = f := by
  have e : decM (recB (factR f)) = (factR f, 0) := decM_some (recD_recB (fact_may h))
  unfold factsOf
  rw [e]
  have h1 := h.epoch; have h2 := h.holder; have h3 := h.mask; have h4 := h.change; have h5 := h.l0; have h6 := h.l1
  show (if _ then _ else _) = f
  rw [if_pos]
  simp [factR, within3, h1, h2, h3, h4, h5, h6]
theorem factsOf_nil : factsOf [] = .first := rfl
structure WitM where
  c : CellM
  f : FactM
  left : Int
  wait : Int
def WitM.set (W : WitM) : WitM := { W with left := max W.wait 0 }
def WitM.tick (W : WitM) : WitM := { W with left := max (W.left - 1) 0 }
def WitM.put (W : WitM) (D : Dev) (f : FactM) : Int × WitM × Dev :=
  ((W.c.put D (recB (factR f))).1, { W with c := (W.c.put D (recB (factR f))).2.1, f := if (W.c.put D (recB (factR f))).1 = 0 then f else W.f }, (W.c.put D (recB (factR f))).2.2)
/-- Is a node in a mask? -/
def inM (mask node : Int) : Bool := if node = 0 then decide (mask % 2 = 1) else decide (2 ≤ mask)
def outM (mask node : Int) : Int := if node = 0 then (if 2 ≤ mask then 2 else 0) else mask % 2
def WitM.ask (W : WitM) (D : Dev) (from_ : Int) (m : MsgM) : Int × WitM × Dev :=
  if inM W.f.mask from_ = false then (20, W, D) else
  if W.f.holder = from_ ∧ m.seq = 0 ∧ m.epoch = W.f.epoch then (0, W.set, D) else
  if W.f.holder ≠ from_ ∧ 0 < W.left then (25, W, D) else
  if W.f.epoch = 4611686018427387904 then (22, W, D) else
  let r := W.put D { W.f with epoch := W.f.epoch + 1, holder := from_, change := 0 }
  (r.1, if r.1 = 0 then r.2.1.set else r.2.1, r.2.2)
def WitM.changed (W : WitM) (D : Dev) (from_ : Int) (m : MsgM) : Int × WitM × Dev :=
  if W.f.holder ≠ from_ ∨ m.epoch ≠ W.f.epoch then (20, W, D) else
  if within3 m.seq 1 3 = false ∨ inM m.seq from_ = false then (1, W, D) else
  if m.n ≤ W.f.change then (0, W, D) else
  W.put D { W.f with mask := m.seq, change := m.n }
def FactM.loss (f : FactM) (from_ : Int) : Int := if from_ = 0 then f.l0 else f.l1
def FactM.lose (f : FactM) (from_ n : Int) : FactM :=
  { f with holder := -1, l0 := if from_ = 0 then n else f.l0, l1 := if from_ = 0 then f.l1 else n, mask := if outM f.mask from_ ≠ 0 then outM f.mask from_ else f.mask }
def WitM.lost (W : WitM) (D : Dev) (from_ : Int) (m : MsgM) : Int × WitM × Dev :=
  if m.n ≤ W.f.loss from_ then (0, W, D) else W.put D (W.f.lose from_ m.n)
def WitM.handle (W : WitM) (D : Dev) (from_ : Int) (m : MsgM) : Option (Int × WitM × Dev) :=
  if m.kind = 1 then some (W.ask D from_ m) else if m.kind = 3 then some (W.changed D from_ m) else if m.kind = 4 then some (W.lost D from_ m) else none
def WitM.answer (W : WitM) (m : MsgM) (e : Int) : MsgM := ⟨if m.kind = 1 then 2 else m.kind, W.f.epoch, W.f.mask, m.n, -1, W.f.holder, e, 0, 0, 0, 0, [], []⟩
def WitM.take (W : WitM) (D : Dev) (from_ : Int) (m : MsgM) : (MsgM × Bool) × WitM × Dev :=
  if from_ < 0 ∨ 1 < from_ ∨ m.may = false then ((.zero, false), W, D) else
  match W.handle D from_ m with
  | none => ((.zero, false), W, D)
  | some r => if r.1 = 30 then ((.zero, false), r.2.1, r.2.2) else ((r.2.1.answer m r.1, true), r.2.1, r.2.2)
structure WitM.ok (W : WitM) (D : Dev) : Prop where
  c : W.c.ok D.l.length
  f : W.f.ok
  left : 0 ≤ W.left ∧ W.left ≤ 9223372036854775807
  wait : 1 ≤ W.wait ∧ W.wait ≤ 1099511627776
  d : D.ok
theorem put_l {C : CellM} {D : Dev} {s : Bytes} : (C.put D s).2.2.l.length = D.l.length := by
  unfold CellM.put
  split
  · rfl
  · split
    · rfl
    · dsimp only
      split
      · rw [write_l]
      · split
        · rw [barrier_l, write_l]
        · rw [barrier_l, write_l]
theorem WitM.put_ok {W : WitM} {D : Dev} {f : FactM} (h : W.ok D) (hf : f.ok) : (W.put D f).2.1.ok (W.put D f).2.2 := by
  have hp := Go.Sl.put_ok h.c h.d (recB (factR f))
  refine ⟨by unfold WitM.put; dsimp only; rw [put_l]; exact hp.1, ?_, h.left, h.wait, hp.2⟩
  unfold WitM.put; dsimp only
  split
  · exact hf
  · exact h.f
theorem WitM.set_ok {W : WitM} {D : Dev} (h : W.ok D) : W.set.ok D := ⟨h.c, h.f, by have := h.wait; simp only [WitM.set]; omega, h.wait, h.d⟩
theorem WitM.tick_ok {W : WitM} {D : Dev} (h : W.ok D) : W.tick.ok D := ⟨h.c, h.f, by have := h.left; simp only [WitM.tick]; omega, h.wait, h.d⟩
theorem askF_ok {W : WitM} {D : Dev} (h : W.ok D) {from_ : Int} (hf : from_ = 0 ∨ from_ = 1) (he : ¬ W.f.epoch = 4611686018427387904) : ({ W.f with epoch := W.f.epoch + 1, holder := from_, change := 0 } : FactM).ok := by
  have := h.f.epoch
  exact ⟨by dsimp only; omega, by dsimp only; omega, h.f.mask, by dsimp only; omega, h.f.l0, h.f.l1⟩
theorem changeF_ok {W : WitM} {D : Dev} (h : W.ok D) {m : MsgM} (hs : within3 m.seq 1 3 = true) (hn : ¬ m.n ≤ W.f.change) (hm : m.n ≤ 4611686018427387904) : ({ W.f with mask := m.seq, change := m.n } : FactM).ok := by
  unfold within3 at hs
  simp only [Bool.and_eq_true, decide_eq_true_eq] at hs
  have := h.f.change
  exact ⟨h.f.epoch, h.f.holder, by dsimp only; omega, by dsimp only; omega, h.f.l0, h.f.l1⟩
theorem outM_ok {mask from_ : Int} (h : 1 ≤ mask ∧ mask ≤ 3) (h0 : outM mask from_ ≠ 0) : 1 ≤ outM mask from_ ∧ outM mask from_ ≤ 3 := by
  unfold outM at h0 ⊢
  split at h0
  · split at h0
    · rename_i h1 h2; rw [if_pos h1, if_pos h2]; omega
    · exact absurd rfl h0
  · rename_i h1; rw [if_neg h1]; omega
theorem loseF_ok {W : WitM} {D : Dev} (h : W.ok D) {from_ n : Int} (h1 : -4611686018427387904 ≤ n) (h2 : n ≤ 4611686018427387904) (hn : ¬ n ≤ W.f.loss from_) : (W.f.lose from_ n).ok := by
  have a := h.f.l0; have b := h.f.l1
  unfold FactM.loss at hn
  refine ⟨h.f.epoch, by simp [FactM.lose], ?_, h.f.change, ?_, ?_⟩
  · simp only [FactM.lose]
    split
    · rename_i h0; exact outM_ok h.f.mask h0
    · exact h.f.mask
  · simp only [FactM.lose]; split <;> rename_i hq
    · rw [if_pos hq] at hn; omega
    · exact a
  · simp only [FactM.lose]; split <;> rename_i hq
    · exact b
    · rw [if_neg hq] at hn; omega
theorem may_all {m : MsgM} (h : within3 m.t0 0 4611686018427387904 = true ∧ within3 m.t1 0 4611686018427387904 = true ∧ within3 m.t2 0 4611686018427387904 = true ∧ within3 m.t3 0 4611686018427387904 = true) :
    m.may = (decide ((m.data.length : Int) ≤ 40) && decide ((m.row.length : Int) ≤ 10) && ([(m.kind, 1, 15), (m.epoch, 0, 4611686018427387904), (m.seq, 0, 4611686018427387904), (m.n, -4611686018427387904, 4611686018427387904), (m.block, -1, 31), (m.client, -1, 3), (m.e, 0, 31)] : List Wi).all wiOk) := by
  obtain ⟨h0, h1, h2, h3⟩ := h
  unfold MsgM.may
  rw [h0, h1, h2, h3]
  simp only [List.all_cons, List.all_nil, wiOk, Bool.and_true, Bool.true_and, Bool.and_assoc]
theorem may_not {m : MsgM} {k : Nat} (hk : k < 4) (h : within3 (m.tn k) 0 4611686018427387904 = false) : m.may = false := by
  unfold MsgM.may
  match k, hk with
  | 0, _ => rw [show within3 m.t0 0 4611686018427387904 = false from h]; rfl
  | 1, _ => rw [show within3 m.t1 0 4611686018427387904 = false from h]; simp
  | 2, _ => rw [show within3 m.t2 0 4611686018427387904 = false from h]; simp
  | 3, _ => rw [show within3 m.t3 0 4611686018427387904 = false from h]; simp
end Go.Sl
namespace Go.Sl
set_option linter.unusedSimpArgs false
theorem in_bits {mask node : Int} (hm : 1 ≤ mask ∧ mask ≤ 3) (hn : node = 0 ∨ node = 1) : bAnd .i64 (mask.fdiv (2 ^ (min node.toNat IntKind.i64.bits))) 1 = if inM mask node = true then 1 else 0 := by
  have h3 : mask = 1 ∨ mask = 2 ∨ mask = 3 := by omega
  rcases hn with rfl | rfl <;> rcases h3 with rfl | rfl | rfl <;> decide
theorem out_bits {mask node : Int} (hm : 1 ≤ mask ∧ mask ≤ 3) (hn : node = 0 ∨ node = 1) : bNot .i64 mask (IntKind.i64.wrap (1 * 2 ^ (min node.toNat IntKind.i64.bits))) = outM mask node := by
  have h3 : mask = 1 ∨ mask = 2 ∨ mask = 3 := by omega
  rcases hn with rfl | rfl <;> rcases h3 with rfl | rfl | rfl <;> decide
theorem fact_enc {f : FactM} (h : f.ok) : encM (factR f) = (recB (factR f), 0) := by unfold encM; rw [if_pos (mayB_of (fact_may h))]
theorem max0 (n : Int) : (if 0 > n then 0 else n) = max n 0 := by split <;> omega
theorem fact_get {f : FactM} (c l w : Value) {node : Int} (hn : node = 0 ∨ node = 1) : ([c, .int .i64 f.epoch, .int .i64 f.holder, .int .i64 f.mask, .int .i64 f.change, .int .i64 f.l0, .int .i64 f.l1, l, w] : List Value)[0 + 1 + 4 + node.toNat * 1]? = some (.int .i64 (f.loss node)) := by
  rcases hn with rfl | rfl <;> rfl
theorem fact_set {f : FactM} {node n : Int} (hn : node = 0 ∨ node = 1) : ([.int .i64 f.epoch, .int .i64 f.holder, .int .i64 f.mask, .int .i64 f.change, .int .i64 f.l0, .int .i64 f.l1] : List Value).set (0 + 4 + node.toNat * 1) (.int .i64 n) =
    [.int .i64 f.epoch, .int .i64 f.holder, .int .i64 f.mask, .int .i64 f.change, .int .i64 (if node = 0 then n else f.l0), .int .i64 (if node = 0 then f.l1 else n)] := by
  rcases hn with rfl | rfl <;> rfl
theorem fact_one (f : FactM) : ∀ u ∈ f.cells, u.oneCell' = true := by
  intro u hu
  simp only [FactM.cells, List.mem_cons, List.not_mem_nil, or_false] at hu
  rcases hu with rfl | rfl | rfl | rfl | rfl | rfl <;> rfl
theorem msg_one (m : MsgM) : ∀ u ∈ m.cells, u.oneCell' = true := by
  intro u hu
  simp only [MsgM.cells, List.mem_cons, List.not_mem_nil, or_false] at hu
  rcases hu with rfl | rfl | rfl | rfl | rfl | rfl | rfl | rfl | rfl | rfl | rfl | rfl | rfl <;> rfl
end Go.Sl
namespace Go.Sl
set_option linter.unusedSimpArgs false
/-- Whether a cell's text says no facts. -/
def BadF (r : RecM) (e : Int) : Prop :=
  e ≠ 0 ∨ r.kind ≠ 40 ∨ (r.nums.length : Int) ≠ 6 ∨ (r.texts.length : Int) ≠ 0 ∨ within3 (r.nums.getD 0 0) 0 4611686018427387904 = false ∨ within3 (r.nums.getD 1 0) (-1) 1 = false ∨ within3 (r.nums.getD 2 0) 1 3 = false ∨ within3 (r.nums.getD 3 0) 0 4611686018427387904 = false ∨ within3 (r.nums.getD 4 0) (-1) 4611686018427387904 = false ∨ within3 (r.nums.getD 5 0) (-1) 4611686018427387904 = false
theorem facts_dich {t : Bytes} : (BadF (decM t).1 (decM t).2 → factsOf t = .first) ∧
    (¬ BadF (decM t).1 (decM t).2 → factsOf t = ⟨(decM t).1.nums.getD 0 0, (decM t).1.nums.getD 1 0, (decM t).1.nums.getD 2 0, (decM t).1.nums.getD 3 0, (decM t).1.nums.getD 4 0, (decM t).1.nums.getD 5 0⟩) := by
  unfold BadF factsOf
  generalize decM t = x
  obtain ⟨⟨k, ns, ts⟩, e⟩ := x
  dsimp only
  match ns, ts with
  | [a, b, c, d, f, g], [] =>
    simp only [List.length_cons, List.length_nil, List.getD_cons_zero, List.getD_cons_succ]
    constructor
    · intro h
      rw [if_neg]
      rintro ⟨h1, h2, h3, h4, h5, h6, h7, h8⟩
      simp_all
    · intro h
      rw [if_pos]
      simp only [not_or, Bool.not_eq_false] at h
      obtain ⟨h1, h2, _, _, h3, h4, h5, h6, h7, h8⟩ := h
      exact ⟨by omega, by omega, h3, h4, h5, h6, h7, h8⟩
  | [], _ => exact ⟨fun _ => rfl, fun h => absurd (.inr (.inr (.inl (by simp)))) h⟩
  | [_], _ => exact ⟨fun _ => rfl, fun h => absurd (.inr (.inr (.inl (by simp)))) h⟩
  | [_, _], _ => exact ⟨fun _ => rfl, fun h => absurd (.inr (.inr (.inl (by simp)))) h⟩
  | [_, _, _], _ => exact ⟨fun _ => rfl, fun h => absurd (.inr (.inr (.inl (by simp)))) h⟩
  | [_, _, _, _], _ => exact ⟨fun _ => rfl, fun h => absurd (.inr (.inr (.inl (by simp)))) h⟩
  | [_, _, _, _, _], _ => exact ⟨fun _ => rfl, fun h => absurd (.inr (.inr (.inl (by simp)))) h⟩
  | _ :: _ :: _ :: _ :: _ :: _ :: _ :: _, _ => exact ⟨fun _ => rfl, fun h => absurd (.inr (.inr (.inl (by simp only [List.length_cons]; omega)))) h⟩
  | [_, _, _, _, _, _], _ :: _ => exact ⟨fun _ => rfl, fun h => absurd (.inr (.inr (.inr (.inl (by simp only [List.length_cons]; omega))))) h⟩
theorem getd_get {α : Type} {l : List α} {i : Nat} {d : α} (h : i < l.length) : l[i]? = some (l.getD i d) := by
  rw [List.getElem?_eq_getElem h, List.getD_eq_getElem?_getD, List.getElem?_eq_getElem h]; rfl
def witE (D : Dev) (a b wait : Int) : Int := if within3 wait 1 1099511627776 = false then 1 else openE D a b
def witO (D : Dev) (a b wait : Int) : WitM := ⟨openC D a b, factsOf (openC D a b).text, wait, wait⟩
theorem within3_iff {n lo hi : Int} : within3 n lo hi = true ↔ lo ≤ n ∧ n ≤ hi := by unfold within3; simp
theorem witE_zero {D : Dev} {a b wait : Int} : witE D a b wait = 0 ↔ (1 ≤ wait ∧ wait ≤ 1099511627776) ∧ openE D a b = 0 := by
  unfold witE
  by_cases h : within3 wait 1 1099511627776 = false
  · rw [if_pos h]
    constructor
    · intro h; cases h
    · rintro ⟨h1, _⟩; rw [← within3_iff, h] at h1; cases h1
  · rw [if_neg h]
    exact ⟨fun h1 => ⟨within3_iff.1 (by simpa using h), h1⟩, fun h1 => h1.2⟩
theorem witO_ok {D : Dev} {a b wait : Int} (hD : D.ok) (h : witE D a b wait = 0) : (witO D a b wait).ok D := by
  obtain ⟨h1, h2⟩ := witE_zero.1 h
  exact ⟨(openC_ok h2).1, factsOf_ok _, by simp only [witO]; omega, h1, hD⟩
end Go.Sl
namespace Go.Sl
set_option linter.unusedSimpArgs false
structure WGood (W : WitM) (D : Dev) (k : Nat) : Prop where
  up : Up D 2
  es : D.es = []
  c : W.c = openC D 0 1
  f : W.f = factsOf W.c.text
  gen : W.c.gen ≤ k
  left : 0 ≤ W.left ∧ W.left ≤ 9223372036854775807
  wait : 1 ≤ W.wait ∧ W.wait ≤ 1099511627776
theorem WGood.fok {W : WitM} {D : Dev} {k : Nat} (h : WGood W D k) : W.f.ok := by rw [h.f]; exact factsOf_ok _
theorem WGood.openE {W : WitM} {D : Dev} {k : Nat} (h : WGood W D k) : openE D 0 1 = 0 := openE_up h.up (by decide) (by decide) (by decide)
theorem WGood.cok {W : WitM} {D : Dev} {k : Nat} (h : WGood W D k) : W.c.ok 2 := by
  have := (openC_ok h.openE).1
  rw [h.up.len, ← h.c] at this
  exact this
theorem WGood.wok {W : WitM} {D : Dev} {k : Nat} (h : WGood W D k) : W.ok D := ⟨by rw [h.up.len]; exact h.cok, h.fok, h.left, h.wait, h.up.ok⟩
theorem WGood.put {W : WitM} {D : Dev} {k : Nat} (h : WGood W D k) (hk : k < 4611686018427387904) {f : FactM} (hf : f.ok) :
    ∃ D' c', W.put D f = (0, { W with c := c', f := f }, D') ∧ WGood { W with c := c', f := f } D' (k + 1) := by
  have hl := fact_len hf
  have hg := h.gen
  obtain ⟨D', h1, h2⟩ := put_good h.up h.cok (s := recB (factR f)) (by omega) (by omega)
  have ho : openC D' 0 1 = (openC D 0 1).next (recB (factR f)) := open_next h.up.len h.openE (by omega) (by rw [← h.c]; omega) (by rw [← h.c]; exact h2)
  refine ⟨D', W.c.next (recB (factR f)), ?_, h2.up, h2.es, by rw [ho, h.c], ?_, ?_, h.left, h.wait⟩
  · unfold WitM.put; rw [h1]; rfl
  · exact (factsOf_rec hf).symm
  · show W.c.gen + 1 ≤ _; omega
theorem WGood.set {W : WitM} {D : Dev} {k : Nat} (h : WGood W D k) : WGood W.set D k := ⟨h.up, h.es, h.c, h.f, h.gen, by have := h.wait; simp only [WitM.set]; omega, h.wait⟩
theorem WGood.tick {W : WitM} {D : Dev} {k : Nat} (h : WGood W D k) : WGood W.tick D k := ⟨h.up, h.es, h.c, h.f, h.gen, by have := h.left; simp only [WitM.tick]; omega, h.wait⟩
theorem WGood.up1 {W : WitM} {D : Dev} {k : Nat} (h : WGood W D k) : WGood W D (k + 1) := ⟨h.up, h.es, h.c, h.f, by have := h.gen; omega, h.left, h.wait⟩
abbrev FL := FactM × Int
def askF (f : FactM) (left wait fr : Int) (m : MsgM) : Int × FL :=
  if inM f.mask fr = false then (20, f, left) else if f.holder = fr ∧ m.seq = 0 ∧ m.epoch = f.epoch then (0, f, wait) else
  if f.holder ≠ fr ∧ 0 < left then (25, f, left) else if f.epoch = 4611686018427387904 then (22, f, left) else (0, { f with epoch := f.epoch + 1, holder := fr, change := 0 }, wait)
def changedF (f : FactM) (left fr : Int) (m : MsgM) : Int × FL :=
  if f.holder ≠ fr ∨ m.epoch ≠ f.epoch then (20, f, left) else if within3 m.seq 1 3 = false ∨ inM m.seq fr = false then (1, f, left) else
  if m.n ≤ f.change then (0, f, left) else (0, { f with mask := m.seq, change := m.n }, left)
def lostF (f : FactM) (left fr : Int) (m : MsgM) : Int × FL := if m.n ≤ f.loss fr then (0, f, left) else (0, f.lose fr m.n, left)
def handleF (f : FactM) (left wait fr : Int) (m : MsgM) : Option (Int × FL) :=
  if m.kind = 1 then some (askF f left wait fr m) else if m.kind = 3 then some (changedF f left fr m) else if m.kind = 4 then some (lostF f left fr m) else none
def ansF (f : FactM) (m : MsgM) (e : Int) : MsgM := ⟨if m.kind = 1 then 2 else m.kind, f.epoch, f.mask, m.n, -1, f.holder, e, 0, 0, 0, 0, [], []⟩
def takeF (f : FactM) (left wait fr : Int) (m : MsgM) : (MsgM × Bool) × FL :=
  if fr < 0 ∨ 1 < fr ∨ m.may = false then ((.zero, false), f, left) else
  match handleF f left wait fr m with
  | none => ((.zero, false), f, left)
  | some r => ((ansF r.2.1 m r.1, true), r.2)
structure TakeOk (W : WitM) (D : Dev) (fr : Int) (m : MsgM) (k : Nat) (r : (MsgM × Bool) × WitM × Dev) : Prop where
  ans : r.1 = (takeF W.f W.left W.wait fr m).1
  f : r.2.1.f = (takeF W.f W.left W.wait fr m).2.1
  left : r.2.1.left = (takeF W.f W.left W.wait fr m).2.2
  wait : r.2.1.wait = W.wait
  good : WGood r.2.1 r.2.2 k
theorem handle_good {W : WitM} {D : Dev} {k : Nat} (h : WGood W D k) (hk : k < 4611686018427387904) {fr : Int} (hf : fr = 0 ∨ fr = 1) {m : MsgM} (hm : m.ok) :
    (W.handle D fr m = none ∧ handleF W.f W.left W.wait fr m = none) ∨ ∃ r q, W.handle D fr m = some r ∧ handleF W.f W.left W.wait fr m = some q ∧ r.1 = q.1 ∧ r.1 ≠ 30 ∧ r.2.1.f = q.2.1 ∧ r.2.1.left = q.2.2 ∧ r.2.1.wait = W.wait ∧ WGood r.2.1 r.2.2 (k + 1) := by
  have hw := h.wait
  unfold WitM.handle handleF
  by_cases h1 : m.kind = 1
  · rw [if_pos h1, if_pos h1]
    refine .inr ⟨_, _, rfl, rfl, ?_⟩
    unfold WitM.ask askF
    by_cases c1 : inM W.f.mask fr = false
    · rw [if_pos c1, if_pos c1]; exact ⟨rfl, by simp, rfl, rfl, rfl, h.up1⟩
    rw [if_neg c1, if_neg c1]
    by_cases c2 : W.f.holder = fr ∧ m.seq = 0 ∧ m.epoch = W.f.epoch
    · rw [if_pos c2, if_pos c2]; exact ⟨rfl, by simp, rfl, by simp only [WitM.set]; omega, rfl, h.set.up1⟩
    rw [if_neg c2, if_neg c2]
    by_cases c3 : W.f.holder ≠ fr ∧ 0 < W.left
    · rw [if_pos c3, if_pos c3]; exact ⟨rfl, by simp, rfl, rfl, rfl, h.up1⟩
    rw [if_neg c3, if_neg c3]
    by_cases c4 : W.f.epoch = 4611686018427387904
    · rw [if_pos c4, if_pos c4]; exact ⟨rfl, by simp, rfl, rfl, rfl, h.up1⟩
    rw [if_neg c4, if_neg c4]
    obtain ⟨D', c', e, hg⟩ := h.put hk (askF_ok h.wok hf c4)
    dsimp only
    rw [e]
    dsimp only
    rw [if_pos rfl]
    exact ⟨rfl, by simp, rfl, by simp only [WitM.set]; omega, rfl, hg.set⟩
  rw [if_neg h1, if_neg h1]
  by_cases h3 : m.kind = 3
  · rw [if_pos h3, if_pos h3]
    refine .inr ⟨_, _, rfl, rfl, ?_⟩
    unfold WitM.changed changedF
    by_cases c1 : W.f.holder ≠ fr ∨ m.epoch ≠ W.f.epoch
    · rw [if_pos c1, if_pos c1]; exact ⟨rfl, by simp, rfl, rfl, rfl, h.up1⟩
    rw [if_neg c1, if_neg c1]
    by_cases c2 : within3 m.seq 1 3 = false ∨ inM m.seq fr = false
    · rw [if_pos c2, if_pos c2]; exact ⟨rfl, by simp, rfl, rfl, rfl, h.up1⟩
    rw [if_neg c2, if_neg c2]
    by_cases c3 : m.n ≤ W.f.change
    · rw [if_pos c3, if_pos c3]; exact ⟨rfl, by simp, rfl, rfl, rfl, h.up1⟩
    rw [if_neg c3, if_neg c3]
    have hn := hm.n
    obtain ⟨D', c', e, hg⟩ := h.put hk (changeF_ok h.wok (m := m) (by simpa using (not_or.1 c2).1) c3 hn.2)
    rw [e]
    exact ⟨rfl, by simp, rfl, rfl, rfl, hg⟩
  rw [if_neg h3, if_neg h3]
  by_cases h4 : m.kind = 4
  · rw [if_pos h4, if_pos h4]
    refine .inr ⟨_, _, rfl, rfl, ?_⟩
    unfold WitM.lost lostF
    by_cases c1 : m.n ≤ W.f.loss fr
    · rw [if_pos c1, if_pos c1]; exact ⟨rfl, by simp, rfl, rfl, rfl, h.up1⟩
    rw [if_neg c1, if_neg c1]
    have hn := hm.n
    obtain ⟨D', c', e, hg⟩ := h.put hk (loseF_ok h.wok hn.1 hn.2 c1)
    rw [e]
    exact ⟨rfl, by simp, rfl, rfl, rfl, hg⟩
  rw [if_neg h4, if_neg h4]
  exact .inl ⟨rfl, rfl⟩
theorem take_good {W : WitM} {D : Dev} {k : Nat} (h : WGood W D k) (hk : k < 4611686018427387904) (fr : Int) (m : MsgM) : TakeOk W D fr m (k + 1) (W.take D fr m) := by
  unfold WitM.take
  by_cases c : fr < 0 ∨ 1 < fr ∨ m.may = false
  · have e : takeF W.f W.left W.wait fr m = ((.zero, false), W.f, W.left) := by unfold takeF; rw [if_pos c]
    rw [if_pos c]
    exact ⟨by rw [e], by rw [e], by rw [e], rfl, h.up1⟩
  · rw [if_neg c]
    have hm : m.ok := MsgM.ok_of (by simp only [not_or, Bool.not_eq_false] at c; exact c.2.2)
    rcases handle_good h hk (fr := fr) (by omega) hm with ⟨h1, h2⟩ | ⟨r, q, h1, h2, h3, h4, h5, h6, h7, h8⟩
    · have e : takeF W.f W.left W.wait fr m = ((.zero, false), W.f, W.left) := by unfold takeF; rw [if_neg c, h2]
      rw [h1]
      exact ⟨by rw [e], by rw [e], by rw [e], rfl, h.up1⟩
    · have e : takeF W.f W.left W.wait fr m = ((ansF q.2.1 m q.1, true), q.2) := by unfold takeF; rw [if_neg c, h2]
      rw [h1]
      dsimp only
      rw [if_neg h4]
      refine ⟨?_, by rw [e]; exact h5, by rw [e]; exact h6, h7, h8⟩
      rw [e]
      unfold WitM.answer ansF
      dsimp only
      rw [h5, h3]
theorem good_open {D : Dev} {wait : Int} {k : Nat} (hU : Up D 2) (he : D.es = []) (hg : (openC D 0 1).gen ≤ k) (hw : 1 ≤ wait ∧ wait ≤ 1099511627776) : WGood (witO D 0 1 wait) D k :=
  ⟨hU, he, rfl, rfl, hg, by simp only [witO]; omega, hw⟩
theorem good_new {wait : Int} (hw : 1 ≤ wait ∧ wait ≤ 1099511627776) : WGood (witO (Dev.new 2) 0 1 wait) (Dev.new 2) 0 :=
  good_open (new_up (by decide)) rfl (by rw [open_new (by decide) (by decide) (by decide) (by decide)]; decide) hw
theorem witO_new (wait : Int) : (witO (Dev.new 2) 0 1 wait).f = .first ∧ (witO (Dev.new 2) 0 1 wait).left = wait ∧ (witO (Dev.new 2) 0 1 wait).wait = wait := by
  refine ⟨?_, rfl, rfl⟩
  have e : (openC (Dev.new 2) 0 1).text = [] := by rw [open_new (by decide) (by decide) (by decide) (by decide)]; rfl
  have e2 : factsOf (openC (Dev.new 2) 0 1).text = FactM.first := by rw [e]; exact factsOf_nil
  unfold witO
  dsimp only
  exact e2
end Go.Sl
namespace Go.Sl
set_option linter.unusedSimpArgs false
end Go.Sl
/- From the readings of arguments to messages and acts. -/
namespace Go.Sl
open Go.ChangeShapes Go.WideShapes Go.ChangeAt Go.RowKit Go.Deep
set_option linter.unusedSimpArgs false
structure ActW where
  kind : Int
  n : Int
  fr : Int
  m : MsgM
  s : Bytes
  kv : Value
  ks : Keeps
def ActW.cells (a : ActW) : List Value := [.int .i64 a.kind, .int .i64 a.n, .int .i64 a.fr] ++ a.m.cells ++ [.string ⟨a.s.toArray⟩, a.kv]
structure ActW.ok [Env] (R : List Seg) (a : ActW) : Prop where
  keeps : RdV R a.kv a.ks.length (keepsV a.ks)
  n : -9223372036854775808 ≤ a.n ∧ a.n ≤ 9223372036854775807
  fr : -9223372036854775808 ≤ a.fr ∧ a.fr ≤ 9223372036854775807
theorem ActW.ok.mono [Env] {R R' : List Seg} {a : ActW} (h : a.ok R) (hg : Ge R' R) : a.ok R' := ⟨h.keeps.mono hg, h.n, h.fr⟩
def actwsV (l : List ActW) : List Value := (l.map ActW.cells).flatten
structure ActB where
  kind : Int
  n : Int
  m : MsgM
  s : Bytes
  kv : Value
  ks : Keeps
def ActB.cells (a : ActB) : List Value := [.int .i64 a.kind, .int .i64 a.n] ++ a.m.cells ++ [.string ⟨a.s.toArray⟩, a.kv]
structure ActB.ok [Env] (R : List Seg) (a : ActB) : Prop where
  keeps : RdV R a.kv a.ks.length (keepsV a.ks)
  n : -9223372036854775808 ≤ a.n ∧ a.n ≤ 9223372036854775807
theorem ActB.ok.mono [Env] {R R' : List Seg} {a : ActB} (h : a.ok R) (hg : Ge R' R) : a.ok R' := ⟨h.keeps.mono hg, h.n⟩
theorem flat_at {α : Type} {f : α → List Value} {k : Nat} (hf : ∀ x, (f x).length = k) : ∀ (l : List α) (i : Nat) (x : α), l[i]? = some x → ((((l.map f).flatten).drop (i * k)).take k) = f x
  | [], i, x, h => by simp at h
  | z :: l, 0, x, h => by
    simp at h; subst h
    simp only [List.map_cons, List.flatten_cons, Nat.zero_mul, List.drop_zero]
    rw [List.take_append_of_le_length (by rw [hf]; exact Nat.le_refl _), List.take_of_length_le (by rw [hf]; exact Nat.le_refl _)]
  | z :: l, i + 1, x, h => by
    have := flat_at hf l i x (by simpa using h)
    rw [show (i + 1) * k = k + i * k by rw [Nat.succ_mul]; omega, ← List.drop_drop]
    simp only [List.map_cons, List.flatten_cons]
    have e : (f z ++ (List.map f l).flatten).drop k = (List.map f l).flatten := List.drop_left' (hf z)
    rw [e]
    exact this
theorem actwsV_get {l : List ActW} {i : Nat} {a : ActW} (h : l[i]? = some a) : ((actwsV l).drop (i * 18)).take 18 = a.cells := flat_at (f := ActW.cells) (k := 18) (fun _ => rfl) l i a h
def fieldsAt (P : Program) (fs : Array Field) (l : List (Nat × Nat)) : Bool := (fs.toList.zip l).all fun x => Nat.beq x.1.offset x.2.1 && Nat.beq (P.cellsOf x.1.type) x.2.2
theorem at_of {P : Program} {fs : Array Field} {l : List (Nat × Nat)} (h : fieldsAt P fs l = true) (i : Nat) (f : Field) (q : Nat × Nat) (hf : fs[i]? = some f) (hq : l[i]? = some q) : f.offset = q.1 ∧ P.cellsOf f.type = q.2 := by
  have hm : (f, q) ∈ fs.toList.zip l := by
    have : (fs.toList.zip l)[i]? = some (f, q) := by rw [List.getElem?_zip_eq_some]; exact ⟨by simpa using hf, hq⟩
    exact List.mem_of_getElem? this
  have := List.all_eq_true.1 h _ hm
  simp only [Bool.and_eq_true] at this
  exact ⟨Nat.eq_of_beq_eq_true this.1, Nat.eq_of_beq_eq_true this.2⟩
section
variable {H : Type} {enc : TypeId × Value → H} {P : Program} {W : World} {base : Nat} {spare : Nat → Bool} {held : Bool}
theorem open_str {e n : Nat} {cs : List Value} {y : DataW H × List MemPlace} (he : P.underlying e = some .string) (h : DataW.trod enc P W base spare held n e cs = some y) : ∃ b : Bytes, cs = [.string ⟨b.toArray⟩] := by
  obtain ⟨s, hs, _⟩ := DataW.trod_string he h
  exact ⟨s.data.toList, by rw [hs, ← str_eta]⟩
/-- A struct's field, with its place. -/
theorem open_fld {fs : Array Field} {l : List (Nat × Nat)} {cs : List Value} {xs : List (DataW H × List MemPlace)} {n : Nat} (hat : fieldsAt P fs l = true)
    (hf : ∀ (i : Nat) (f : Field), fs[i]? = some f → DataW.trod enc P W base spare held n f.type ((cs.drop f.offset).take (P.cellsOf f.type)) = xs[i]?) (hx : xs.length = fs.size)
    (i : Nat) (f : Field) (o k : Nat) (h1 : fs[i]? = some f) (h2 : l[i]? = some (o, k)) : ∃ y, DataW.trod enc P W base spare held n f.type ((cs.drop o).take k) = some y := by
  obtain ⟨a, b⟩ := at_of hat i f (o, k) h1 h2
  have := hf i f h1
  rw [a, b] at this
  have hi : i < fs.size := by
    rcases Nat.lt_or_ge i fs.size with h | h
    · exact h
    · rw [Array.getElem?_eq_none h] at h1; cases h1
  exact ⟨_, this.trans (List.getElem?_eq_getElem (by omega))⟩
abbrev msgAt : List (Nat × Nat) := [(0, 1), (1, 1), (2, 1), (3, 1), (4, 1), (5, 1), (6, 1), (7, 4), (11, 1), (12, 1)]
theorem open_msg {e n : Nat} {cs : List Value} {y : DataW H × List MemPlace} {f0 f1 f2 f3 f4 f5 f6 f7 f8 f9 : Field} {g : TypeId} (he : P.underlying e = some (.struct #[f0, f1, f2, f3, f4, f5, f6, f7, f8, f9])) (hat : fieldsAt P #[f0, f1, f2, f3, f4, f5, f6, f7, f8, f9] msgAt = true) (hC : P.cellsOf e = 13)
    (h0 : P.underlying f0.type = some (.int .i64)) (h1 : P.underlying f1.type = some (.int .i64)) (h2 : P.underlying f2.type = some (.int .i64)) (h3 : P.underlying f3.type = some (.int .i64)) (h4 : P.underlying f4.type = some (.int .i64)) (h5 : P.underlying f5.type = some (.int .i64)) (h6 : P.underlying f6.type = some (.int .i64))
    (h7 : P.underlying f7.type = some (.array 4 g)) (hg : P.underlying g = some (.int .i64)) (hCg : P.cellsOf g = 1) (h8 : P.underlying f8.type = some .string) (h9 : P.underlying f9.type = some .string)
    (h : DataW.trod enc P W base spare held n e cs = some y) : ∃ m : MsgM, cs = m.cells := by
  obtain ⟨xs, n', _, _, hl, hxl, hf⟩ := DataW.trod_struct he h
  rw [hC] at hl
  match cs, hl with
  | [c0, c1, c2, c3, c4, c5, c6, c7, c8, c9, c10, c11, c12], _ =>
    have F := open_fld hat hf (by simpa using hxl)
    obtain ⟨_, q0⟩ := F 0 f0 0 1 rfl rfl
    obtain ⟨_, q1⟩ := F 1 f1 1 1 rfl rfl
    obtain ⟨_, q2⟩ := F 2 f2 2 1 rfl rfl
    obtain ⟨_, q3⟩ := F 3 f3 3 1 rfl rfl
    obtain ⟨_, q4⟩ := F 4 f4 4 1 rfl rfl
    obtain ⟨_, q5⟩ := F 5 f5 5 1 rfl rfl
    obtain ⟨_, q6⟩ := F 6 f6 6 1 rfl rfl
    obtain ⟨_, q7⟩ := F 7 f7 7 4 rfl rfl
    obtain ⟨_, q8⟩ := F 8 f8 11 1 rfl rfl
    obtain ⟨_, q9⟩ := F 9 f9 12 1 rfl rfl
    obtain ⟨n0, e0, -⟩ := open_i64 h0 q0
    obtain ⟨n1, e1, -⟩ := open_i64 h1 q1
    obtain ⟨n2, e2, -⟩ := open_i64 h2 q2
    obtain ⟨n3, e3, -⟩ := open_i64 h3 q3
    obtain ⟨n4, e4, -⟩ := open_i64 h4 q4
    obtain ⟨n5, e5, -⟩ := open_i64 h5 q5
    obtain ⟨n6, e6, -⟩ := open_i64 h6 q6
    obtain ⟨s8, e8⟩ := open_str h8 q8
    obtain ⟨s9, e9⟩ := open_str h9 q9
    obtain ⟨zs, m, _, _, _, hzl, hz⟩ := DataW.trod_array h7 q7
    rw [hCg] at hz
    have Z : ∀ k, k < 4 → ∃ u, zs[k]? = some u := fun k hk => ⟨_, List.getElem?_eq_getElem (by omega)⟩
    obtain ⟨u0, hu0⟩ := Z 0 (by omega)
    obtain ⟨u1, hu1⟩ := Z 1 (by omega)
    obtain ⟨u2, hu2⟩ := Z 2 (by omega)
    obtain ⟨u3, hu3⟩ := Z 3 (by omega)
    obtain ⟨t0, a0, -⟩ := open_i64 hg ((hz 0 (by omega)).trans hu0)
    obtain ⟨t1, a1, -⟩ := open_i64 hg ((hz 1 (by omega)).trans hu1)
    obtain ⟨t2, a2, -⟩ := open_i64 hg ((hz 2 (by omega)).trans hu2)
    obtain ⟨t3, a3, -⟩ := open_i64 hg ((hz 3 (by omega)).trans hu3)
    simp at e0 e1 e2 e3 e4 e5 e6 e8 e9 a0 a1 a2 a3
    subst e0 e1 e2 e3 e4 e5 e6 e8 e9 a0 a1 a2 a3
    exact ⟨⟨n0, n1, n2, n3, n4, n5, n6, t0, t1, t2, t3, s8, s9⟩, rfl⟩
theorem open_actw {e n : Nat} {cs : List Value} {y : DataW H × List MemPlace} {f0 f1 f2 f3 f4 f5 g0 g1 : Field} {k : TypeId} (he : P.underlying e = some (.struct #[f0, f1, f2, f3, f4, f5])) (hat : fieldsAt P #[f0, f1, f2, f3, f4, f5] [(0, 1), (1, 1), (2, 1), (3, 13), (16, 1), (17, 1)] = true) (hC : P.cellsOf e = 18)
    (h0 : P.underlying f0.type = some (.int .i64)) (h1 : P.underlying f1.type = some (.int .i64)) (h2 : P.underlying f2.type = some (.int .i64))
    (h3 : ∀ n cs y, DataW.trod enc P W base spare held n f3.type cs = some y → ∃ m : MsgM, cs = m.cells) (h4 : P.underlying f4.type = some .string)
    (h5 : P.underlying f5.type = some (.slice k)) (hk : P.underlying k = some (.struct #[g0, g1])) (honek : oneCellFields P #[g0, g1] = true) (hCk : P.cellsOf k = 2) (hg0 : P.underlying g0.type = some (.int .i64)) (hg1 : P.underlying g1.type = some (.int .i64))
    (h : DataW.trod enc P W base spare held n e cs = some y) : ∃ a : ActW, cs = a.cells ∧ @ActW.ok (envAt W) [baseSeg W] a := by
  obtain ⟨xs, n', _, _, hl, hxl, hf⟩ := DataW.trod_struct he h
  rw [hC] at hl
  have F := open_fld hat hf (by simpa using hxl)
  obtain ⟨_, q0⟩ := F 0 f0 0 1 rfl rfl
  obtain ⟨_, q1⟩ := F 1 f1 1 1 rfl rfl
  obtain ⟨_, q2⟩ := F 2 f2 2 1 rfl rfl
  obtain ⟨_, q3⟩ := F 3 f3 3 13 rfl rfl
  obtain ⟨_, q4⟩ := F 4 f4 16 1 rfl rfl
  obtain ⟨_, q5⟩ := F 5 f5 17 1 rfl rfl
  obtain ⟨n0, e0, -⟩ := open_i64 h0 q0
  obtain ⟨n1, e1, b1⟩ := open_i64 h1 q1
  obtain ⟨n2, e2, b2⟩ := open_i64 h2 q2
  obtain ⟨m, e3⟩ := h3 _ _ _ q3
  obtain ⟨s4, e4⟩ := open_str h4 q4
  obtain ⟨kv, ks, e5, hkk, _⟩ := open_keeps h5 hk honek hCk hg0 hg1 q5
  refine ⟨⟨n0, n1, n2, m, s4, kv, ks⟩, ?_, @ActW.ok.mk (envAt W) _ _ hkk b1 b2⟩
  match cs, hl with
  | [c0, c1, c2, c3, c4, c5, c6, c7, c8, c9, c10, c11, c12, c13, c14, c15, c16, c17], _ =>
    simp at e0 e1 e2 e3 e4 e5
    subst e0 e1 e2 e4 e5
    simp [ActW.cells, ← e3]
end
end Go.Sl
namespace Go.Sl
set_option linter.unusedSimpArgs false
theorem RdV.src [Env] {P : Program} {L : List Seg} {size m : Nat} {v : Value} {vs : List Value} (h : RdV L v m vs) (hl : vs.length = m * size) : Src P L size v m vs := by
  rcases h with ⟨rfl, rfl, rfl⟩ | ⟨a, c, rfl, h3, h2⟩
  · exact src_nil
  · refine ⟨hl, fun w hh => ⟨by simp [Builtin.lenOf], ?_⟩⟩
    refine run_firstCells_some w size m _ m c vs hl (fun j v hj => ?_)
    have hj' : j < vs.length := by
      rcases Nat.lt_or_ge j vs.length with h | h
      · exact h
      · rw [List.getElem?_eq_none h] at hj; cases hj
    have hm : m ≠ 0 := fun h0 => by rw [h0, Nat.zero_mul] at hl; omega
    have hs := h3 hm
    have := h2 w hh j hj'
    rw [List.getElem?_eq_getElem hj'] at hj
    cases hj
    cases a
    simp at hs
    subst hs
    rw [add_lit]
    exact this
theorem mget_put {kv : Kv} {c : Nat} {k e : Int} {v : Value} : mget (mput kv c k v) e = if e = k then some v else mget kv e := by
  unfold mput mget
  by_cases h : kv.any (fun x => decide (x.1 = k)) = true
  · rw [if_pos h]
    unfold mset
    induction kv with
    | nil => simp at h
    | cons x kv ih =>
      simp only [List.map_cons, List.find?_cons]
      by_cases hx : x.1 = k
      · rw [if_pos hx]
        by_cases hek : e = k
        · subst hek; simp
        · have h1 : decide (k = e) = false := by simp; omega
          have h2 : decide (x.1 = e) = false := by simp; omega
          simp only [h1, h2, if_neg hek]
          by_cases h3 : kv.any (fun x => decide (x.1 = k)) = true
          · have := ih h3
            rw [if_neg hek] at this
            exact this
          · have e1 : (kv.map fun x => if x.1 = k then (k, v, x.2.2) else x) = kv := by
              have : ∀ x ∈ kv, (if x.1 = k then (k, v, x.2.2) else x) = x := fun y hy => by
                rw [if_neg]
                intro hyk
                exact h3 (List.any_eq_true.2 ⟨y, hy, by simp [hyk]⟩)
              exact (List.map_congr_left this).trans (List.map_id kv)
            rw [e1]
      · rw [if_neg hx]
        have h3 : kv.any (fun x => decide (x.1 = k)) = true := by simpa [hx] using h
        by_cases hxe : x.1 = e
        · have hek : e ≠ k := by omega
          simp [hxe, hek]
        · have h2 : decide (x.1 = e) = false := by simp [hxe]
          simp only [h2]
          exact ih h3
  · rw [if_neg h, List.find?_append]
    by_cases hek : e = k
    · subst hek
      have : kv.find? (fun x => decide (x.1 = e)) = none := by
        rw [List.find?_eq_none]
        intro x hx hxe
        exact h (List.any_eq_true.2 ⟨x, hx, hxe⟩)
      simp [this]
    · have h1 : decide (k = e) = false := by simp; omega
      rw [if_neg hek]
      simp [List.find?_cons, h1]
theorem uniq_put {kv : Kv} {c : Nat} {k : Int} {v : Value} (h : uniq kv) : uniq (mput kv c k v) := by
  unfold mput
  by_cases hq : kv.any (fun x => decide (x.1 = k)) = true
  · rw [if_pos hq]
    unfold uniq mset at *
    rw [List.map_map]
    have : ((fun x : Int × Value × Nat => x.1) ∘ fun x => if x.1 = k then (k, v, x.2.2) else x) = fun x => x.1 := by
      funext x
      simp only [Function.comp]
      split
      · rename_i h; exact h.symm
      · rfl
    rw [this]
    exact h
  · rw [if_neg hq]
    unfold uniq at *
    rw [List.map_append, List.map_cons, List.map_nil]
    refine List.nodup_append.2 ⟨h, by simp, fun a ha b hb => ?_⟩
    simp at hb
    subst hb
    rintro rfl
    obtain ⟨x, hx, hxk⟩ := List.mem_map.1 ha
    exact hq (List.any_eq_true.2 ⟨x, hx, by simp [hxk]⟩)
structure OwnOk (kv : Kv) (g : Int → Option Int) : Prop where
  un : uniq kv
  get : ∀ e, mget kv e = (g e).map fun n => .int .i64 n
theorem OwnOk.put {kv : Kv} {g : Int → Option Int} (h : OwnOk kv g) (c : Nat) (e w : Int) : OwnOk (mput kv c e (.int .i64 w)) (fun x => if x = e then some w else g x) := by
  refine ⟨uniq_put h.un, fun x => ?_⟩
  rw [mget_put]
  split
  · rfl
  · exact h.get x
def maskK (ks : Keeps) : Keeps := ks.map fun x => (bAnd .i64 x.1 1, x.2)
structure LifeM where
  W : WitM
  D : Dev
  g : Int → Option Int
  bad : Bool
def grantB (a : MsgM × Bool) : Bool := a.2 && decide (a.1.kind = 2) && decide (a.1.e = 0)
def WitM.ticks (W : WitM) (k : Nat) : WitM := { W with left := max (W.left - k) 0 }
def actT (n : Int) : Nat := (n.tmod 50).toNat
def LifeM.act (w : LifeM) (x : ActW) : (MsgM × Bool) × LifeM :=
  if x.kind = 0 then
    let r := w.W.take w.D x.fr x.m
    if grantB r.1 = true then
      (r.1, ⟨r.2.1, r.2.2, fun e => if e = r.1.1.epoch then some x.fr else w.g e, w.bad || ((w.g r.1.1.epoch).isSome && decide ((w.g r.1.1.epoch).getD 0 ≠ x.fr)) || decide (r.1.1.client ≠ x.fr) || decide (r.1.1.epoch < 1)⟩)
    else (r.1, ⟨r.2.1, r.2.2, w.g, w.bad⟩)
  else if x.kind = 1 then ((.zero, false), { w with W := w.W.ticks (actT x.n) })
  else if x.kind = 2 then ((.zero, false), { w with W := witO (w.D.crash (maskK x.ks)) 0 1 w.W.wait, D := w.D.crash (maskK x.ks) })
  else if x.kind = 3 then ((.zero, false), { w with D := w.D.setFuse x.n })
  else ((.zero, false), w)
theorem tmod50 (n : Int) : (∀ k : Nat, (k : Int) < n.tmod 50 ↔ k < actT n) ∧ actT n < 50 ∧ n.tmod 50 < 50 := by
  have h1 : n.tmod 50 < 50 := Int.tmod_lt_of_pos n (by omega)
  unfold actT
  refine ⟨fun k => by omega, by omega, h1⟩
end Go.Sl
namespace Go.Sl
set_option linter.unusedSimpArgs false
structure OwnInv (g : Int → Option Int) (f : FactM) : Prop where
  own : ∀ e w, g e = some w → e ≤ f.epoch ∧ (e = f.epoch → f.holder = w ∨ f.holder = -1)
  held : f.holder ≠ -1 → 1 ≤ f.epoch
structure ActGood (W : WitM) (D : Dev) (g : Int → Option Int) (x : ActW) (k : Nat) (w : (MsgM × Bool) × LifeM) : Prop where
  good : WGood w.2.W w.2.D k
  wait : w.2.W.wait = W.wait
  own : OwnInv w.2.g w.2.W.f
  bad : w.2.bad = false
  left : w.2.W.left = if x.kind = 1 then max (W.left - actT x.n) 0 else if grantB w.1 = true then W.wait else W.left
  ans : w.1 = if x.kind = 0 then (takeF W.f W.left W.wait x.fr x.m).1 else (.zero, false)
  f : w.2.W.f = if x.kind = 0 then (takeF W.f W.left W.wait x.fr x.m).2.1 else W.f
theorem WGood.ticks {W : WitM} {D : Dev} {k : Nat} (h : WGood W D k) (n : Nat) : WGood (W.ticks n) D k := ⟨h.up, h.es, h.c, h.f, h.gen, by have := h.left; simp only [WitM.ticks]; omega, h.wait⟩
theorem ActW.ok.one [Env] {R : List Seg} {a : ActW} (h : a.ok R) : ∀ u ∈ a.cells, u.oneCell' = true := by
  obtain ⟨b, c, e⟩ := h.keeps.lenVal
  intro u hu
  unfold ActW.cells at hu
  rcases List.mem_append.1 hu with hu | hu
  · rcases List.mem_append.1 hu with hu | hu
    · simp only [List.mem_cons, List.not_mem_nil, or_false] at hu
      rcases hu with rfl | rfl | rfl <;> rfl
    · exact msg_one _ u hu
  · simp only [List.mem_cons, List.not_mem_nil, or_false] at hu
    rcases hu with rfl | rfl
    · rfl
    · rw [e]; rfl
structure LsM where
  W : WitM
  D : Dev
  kv : Kv
  n : Nat
  g : Int → Option Int
  s : Nat
  c : Nat
structure LsM.ok (S : LsM) (wt : Int) (k : Nat) : Prop where
  good : WGood S.W S.D k
  inv : OwnInv S.g S.W.f
  own : OwnOk S.kv S.g
  wait : S.W.wait = wt
theorem LsM.ok.up1 {S : LsM} {wt : Int} {k : Nat} (h : S.ok wt k) : S.ok wt (k + 1) := ⟨h.good.up1, h.inv, h.own, h.wait⟩
theorem ActGood.none {W : WitM} {D : Dev} {g : Int → Option Int} {x : ActW} {k : Nat} {w : (MsgM × Bool) × LifeM} (hA : ActGood W D g x k w) (h : x.kind ≠ 0) : w.1 = (.zero, false) := by rw [hA.ans, if_neg h]
theorem LsM.ok.open {S : LsM} {wt : Int} {k : Nat} (h : S.ok wt k) : witE S.D 0 1 wt = 0 ∧ witO S.D 0 1 wt = { S.W with left := wt } := by
  have hw := h.good.wait
  rw [h.wait] at hw
  refine ⟨witE_zero.2 ⟨hw, h.good.openE⟩, ?_⟩
  unfold witO
  have e1 := h.good.c
  have e2 := h.good.f
  rw [← e1, ← e2]
  have e3 := h.wait
  generalize S.W = W at *
  cases W
  simp at e3
  rw [e3]
end Go.Sl
