/- A part of the proof: contracts and plain lemmas, each without conditions beyond those that it names. -/
import Derived.Test.YtebijajimmjknaaGreatGH
import Derived.Test.YtebijajimmjknaaGreatGI
set_option linter.unusedVariables false
set_option linter.unusedSimpArgs false
set_option linter.constructorNameAsVariable false
namespace Go.Sl
set_option linter.unusedSimpArgs false
def oddB (n : Int) : Bool := decide (n < 0) || decide (4611686018427387904 < n)
def readB (t : Bytes) (kind nums texts : Int) : RecM × Bool :=
  ((decM t).1, decide ((decM t).2 = 0) && decide ((decM t).1.kind = kind) && decide (((decM t).1.nums.length : Int) = nums) && decide (((decM t).1.texts.length : Int) = texts) && !(decM t).1.nums.any oddB)
def maxT (t l : List Int) : List Int := List.zipWith max t l
def maxTo (t l : List Int) (k : Nat) : List Int := maxT (t.take k) (l.take k) ++ t.drop k
theorem maxTo_zero (t l : List Int) : maxTo t l 0 = t := by simp [maxTo, maxT]
theorem maxTo_all {t l : List Int} (ht : t.length = 4) (hl : l.length = 4) : maxTo t l 4 = maxT t l := by
  unfold maxTo
  rw [List.take_of_length_le (by omega), List.take_of_length_le (by omega), List.drop_of_length_le (by omega), List.append_nil]
theorem maxTo_len {t l : List Int} (ht : t.length = 4) (hl : l.length = 4) (k : Nat) : (maxTo t l k).length = 4 := by
  simp [maxTo, maxT]; omega
theorem maxTo_get {t l : List Int} (ht : t.length = 4) (hl : l.length = 4) {k : Nat} (hk : k < 4) : (maxTo t l k)[k]? = some (t.getD k 0) := by
  unfold maxTo maxT
  rw [List.getElem?_append_right (by simp; omega)]
  simp only [List.length_zipWith, List.length_take, List.getElem?_drop]
  rw [show k + (k - min (min k t.length) (min k l.length)) = k by omega]
  exact getd_get (by omega)
theorem maxTo_set {t l : List Int} (ht : t.length = 4) (hl : l.length = 4) {k : Nat} (hk : k < 4) : (maxTo t l k).set k (max (t.getD k 0) (l.getD k 0)) = maxTo t l (k + 1) := by
  match t, ht with
  | [a, b, c, d], _ =>
    match l, hl with
    | [e, f, g, h], _ =>
      match k, hk with
      | 0, _ => rfl
      | 1, _ => rfl
      | 2, _ => rfl
      | 3, _ => rfl
      | k + 4, hk => omega
theorem maxT_len {t l : List Int} (ht : t.length = 4) (hl : l.length = 4) : (maxT t l).length = 4 := by simp [maxT]; omega
structure BlkM where
  v0 : Int
  v1 : Int
  data : Bytes
  deriving DecidableEq
def noughts : Bytes := [0, 0, 0, 0, 0, 0, 0, 0]
def BlkM.zero : BlkM := ⟨0, 0, noughts⟩
def tokOf (t : Bytes) : Int := if (readB t 31 1 0).2 = true then (decM t).1.nums.getD 0 0 else 0
def blkOk (t : Bytes) : Bool := (readB t 30 6 1).2 && decide ((((decM t).1.texts.getD 0 []).length : Int) = 8)
def blkOf (t : Bytes) : BlkM := if blkOk t = true then ⟨(decM t).1.nums.getD 0 0, (decM t).1.nums.getD 1 0, (decM t).1.texts.getD 0 []⟩ else .zero
def tabOf (t : Bytes) (l : List Int) : List Int := if blkOk t = true then maxT l ((decM t).1.nums.drop 2) else l
structure StoM where
  tok : CellM
  epoch : Int
  cs : List CellM
  bs : List BlkM
  tab : List Int
def tokR (ep : Int) : RecM := ⟨31, [ep], []⟩
def blkR (v0 v1 : Int) (t : List Int) (d : Bytes) : RecM := ⟨30, [v0, v1] ++ t, [d]⟩
def StoM.raised (S : StoM) (D : Dev) (ep : Int) : Int × StoM × Dev :=
  if ep ≤ S.epoch then (0, S, D) else
  let p := S.tok.put D (recB (tokR ep))
  (p.1, { S with tok := p.2.1, epoch := if p.1 = 0 then ep else S.epoch }, p.2.2)
def inN (n : Nat) (i : Int) : Bool := decide (0 ≤ i) && decide (i < n)
def StoM.getB (S : StoM) (i : Int) : BlkM := if inN S.bs.length i = true then S.bs.getD i.toNat .zero else ⟨0, 0, []⟩
def msgT (m : MsgM) : List Int := [m.t0, m.t1, m.t2, m.t3]
def tabUp (t : List Int) (m : MsgM) : List Int := if 0 ≤ m.client then (maxT t (msgT m)).set m.client.toNat (max ((maxT t (msgT m)).getD m.client.toNat 0) m.n) else maxT t (msgT m)
def StoM.cell (S : StoM) (i : Int) : CellM := S.cs.getD i.toNat (CellM.init 0 1)
def StoM.store (S : StoM) (D : Dev) (m : MsgM) : Int × StoM × Dev :=
  if inN S.bs.length m.block = false then (2, S, D) else if (m.data.length : Int) ≠ 8 then (3, S, D) else
  if m.epoch < (S.getB m.block).v0 ∨ (m.epoch = (S.getB m.block).v0 ∧ m.seq ≤ (S.getB m.block).v1) then (0, S, D) else
  let p := (S.cell m.block).put D (recB (blkR m.epoch m.seq (tabUp S.tab m) m.data))
  (p.1, { S with cs := S.cs.set m.block.toNat p.2.1, bs := if p.1 = 0 then S.bs.set m.block.toNat ⟨m.epoch, m.seq, m.data⟩ else S.bs, tab := if p.1 = 0 then tabUp S.tab m else S.tab }, p.2.2)
def outM13 (m : MsgM) (e : Int) (t : List Int) (d : Bytes) : MsgM := ⟨if m.kind = 12 then 13 else 11, m.epoch, m.seq, m.n, m.block, -1, e, t.getD 0 0, t.getD 1 0, t.getD 2 0, t.getD 3 0, d, []⟩
def StoM.take (S : StoM) (D : Dev) (m : MsgM) : (MsgM × Bool) × StoM × Dev :=
  if (m.kind ≠ 10 ∧ m.kind ≠ 12) ∨ m.may = false then ((.zero, false), S, D) else
  let r := S.raised D m.epoch
  if m.epoch < r.2.1.epoch then ((outM13 m 24 [] [], true), r.2) else
  if r.1 ≠ 0 then (if r.1 = 30 then ((.zero, false), r.2) else ((outM13 m r.1 [] [], true), r.2)) else
  if m.kind = 10 then
    let q := r.2.1.store r.2.2 m
    if q.1 = 30 then ((.zero, false), q.2) else ((outM13 m q.1 [] [], true), q.2)
  else if 0 ≤ m.block ∧ inN S.bs.length m.block = false then ((outM13 m 2 [] [], true), r.2)
  else ((outM13 m 0 r.2.1.tab (r.2.1.getB m.block).data, true), r.2)
end Go.Sl
namespace Go.Sl
set_option linter.unusedSimpArgs false
theorem mid_get {pre xs post : List Value} {k : Nat} (hk : k < xs.length) : (pre ++ xs ++ post)[pre.length + k]? = xs[k]? := by
  rw [List.append_assoc, List.getElem?_append_right (by omega), Nat.add_sub_cancel_left, List.getElem?_append_left hk]
theorem mid_set {pre xs post : List Value} {k : Nat} {v : Value} (hk : k < xs.length) : (pre ++ xs ++ post).set (pre.length + k) v = pre ++ xs.set k v ++ post := by
  rw [List.append_assoc, List.set_append_right _ _ (by omega), Nat.add_sub_cancel_left, List.set_append_left _ _ hk, List.append_assoc]
theorem intsV_set (l : List Int) (k : Nat) (n : Int) : (intsV l).set k (.int .i64 n) = intsV (l.set k n) := by
  unfold intsV; rw [List.map_set]
theorem raise_get {pre post : List Value} {t l : List Int} {k : Nat} (ht : t.length = 4) (hl : l.length = 4) (hk : k < 4) : (pre ++ intsV (maxTo t l k) ++ post)[pre.length + k]? = some (.int .i64 (t.getD k 0)) := by
  rw [mid_get (by simp [intsV, maxTo_len ht hl]; omega)]
  exact intsV_get (maxTo_get ht hl hk)
theorem raise_set {pre post : List Value} {t l : List Int} {k : Nat} (ht : t.length = 4) (hl : l.length = 4) (hk : k < 4) : (pre ++ intsV (maxTo t l k) ++ post).set (pre.length + k) (.int .i64 (max (t.getD k 0) (l.getD k 0))) = pre ++ intsV (maxTo t l (k + 1)) ++ post := by
  rw [mid_set (by simp [intsV, maxTo_len ht hl]; omega), intsV_set, maxTo_set ht hl hk]
structure RowM where
  p : Value
  b : BlkM
def RowM.cells (r : RowM) : List Value := [r.p, .int .i64 r.b.v0, .int .i64 r.b.v1, .string ⟨r.b.data.toArray⟩]
def RowM.zero : RowM := ⟨.pointer none, ⟨0, 0, []⟩⟩
def rowsV (rows : List RowM) : List Value := (rows.map RowM.cells).flatten
theorem rowsV_len (rows : List RowM) : (rowsV rows).length = rows.length * 4 := flatten_len (k := 4) (fun _ => rfl) rows
theorem rowsV_get {rows : List RowM} {i r : Nat} {x : RowM} (h : rows[i]? = some x) (hr : r < 4) : (rowsV rows)[i * 4 + r]? = x.cells[r]? := by
  have := flatten_get (f := RowM.cells) (k := 4) (by omega) (fun _ => rfl) rows i r hr
  rw [h] at this
  exact this
theorem rowsV_setN {rows : List RowM} {i r : Nat} {x y : RowM} {us : List Value} (h : rows[i]? = some x) (hr : r + us.length ≤ 4) (hy : y.cells = x.cells.take r ++ us ++ x.cells.drop (r + us.length)) :
    (rowsV rows).take (i * 4 + r) ++ us ++ (rowsV rows).drop (i * 4 + r + us.length) = rowsV (rows.set i y) := by
  induction rows generalizing i with
  | nil => simp at h
  | cons z rows ih =>
    have e : rowsV (z :: rows) = z.cells ++ rowsV rows := by simp [rowsV]
    have hz : z.cells.length = 4 := rfl
    cases i with
    | zero =>
      simp at h; subst h
      rw [List.set_cons_zero]
      have e2 : rowsV (y :: rows) = y.cells ++ rowsV rows := by simp [rowsV]
      rw [e, e2, hy, Nat.zero_mul, Nat.zero_add, List.take_append_of_le_length (by omega), List.drop_append_of_le_length (by omega), ← List.append_assoc]
    | succ i =>
      rw [List.set_cons_succ]
      have e2 : rowsV (z :: rows.set i y) = z.cells ++ rowsV (rows.set i y) := by simp [rowsV]
      rw [e, e2, ← ih (by simpa using h)]
      have h1 : (i + 1) * 4 + r = z.cells.length + (i * 4 + r) := by rw [hz]; omega
      rw [h1, List.take_length_add_append, Nat.add_assoc, List.drop_length_add_append, List.append_assoc, List.append_assoc, List.append_assoc]
theorem rowsV_set {rows : List RowM} {i r : Nat} {x y : RowM} {u : Value} (h : rows[i]? = some x) (hr : r < 4) (hy : y.cells = x.cells.take r ++ [u] ++ x.cells.drop (r + 1)) : (rowsV rows).set (i * 4 + r) u = rowsV (rows.set i y) := by
  have hi : i < rows.length := (List.getElem?_eq_some_iff.1 h).1
  rw [← rowsV_setN (us := [u]) h (by simp; omega) hy, List.set_eq_take_append_cons_drop, if_pos (by rw [rowsV_len]; omega)]
  simp
/-- The whole of a store's block. -/
def stoV (tp : Value) (ep : Int) (n : Nat) (rows : List RowM) (tab : List Int) : List Value := [tp, .int .i64 ep, .int .i64 n] ++ rowsV rows ++ intsV tab
def rowsOf (ps : List Nat) (bs : List BlkM) : List RowM := List.zipWith (fun p b => ⟨.pointer (some ⟨p, 0, none⟩), b⟩) ps bs ++ List.replicate (32 - bs.length) RowM.zero
theorem rowsOf_len {ps : List Nat} {bs : List BlkM} (h : ps.length = bs.length) (h32 : bs.length ≤ 32) : (rowsOf ps bs).length = 32 := by simp [rowsOf]; omega
theorem rowsOf_get {ps : List Nat} {bs : List BlkM} {i p : Nat} {b : BlkM} (h1 : ps[i]? = some p) (h2 : bs[i]? = some b) : (rowsOf ps bs)[i]? = some ⟨.pointer (some ⟨p, 0, none⟩), b⟩ := by
  have hi := (List.getElem?_eq_some_iff.1 h1).1
  have hj := (List.getElem?_eq_some_iff.1 h2).1
  unfold rowsOf
  rw [List.getElem?_append_left (by simp; omega), List.getElem?_zipWith, h1, h2]
theorem rowsOf_next {ps : List Nat} {bs : List BlkM} (h : ps.length = bs.length) (h32 : bs.length < 32) : (rowsOf ps bs)[bs.length]? = some RowM.zero := by
  unfold rowsOf
  rw [List.getElem?_append_right (by simp; omega)]
  simp only [List.length_zipWith, h, Nat.min_self, Nat.sub_self]
  rw [List.getElem?_replicate, if_pos (by omega)]
theorem rowsOf_set {ps : List Nat} {bs : List BlkM} {i p : Nat} {b : BlkM} (hp : ps[i]? = some p) (hi : i < bs.length) : (rowsOf ps bs).set i ⟨.pointer (some ⟨p, 0, none⟩), b⟩ = rowsOf ps (bs.set i b) := by
  obtain ⟨hip, _⟩ := List.getElem?_eq_some_iff.1 hp
  unfold rowsOf
  rw [List.set_append_left _ _ (by simp; omega), List.length_set]
  congr 1
  apply List.ext_getElem?
  intro j
  rw [List.getElem?_set]
  by_cases hj : i = j
  · subst hj
    rw [if_pos rfl, List.getElem?_zipWith, hp, List.getElem?_set_self hi, if_pos (by simp; omega)]
  · rw [if_neg hj, List.getElem?_zipWith, List.getElem?_zipWith, List.getElem?_set_ne hj]
theorem rowsOf_add {ps : List Nat} {bs : List BlkM} {p : Nat} {b : BlkM} (h : ps.length = bs.length) (h32 : bs.length < 32) : (rowsOf ps bs).set bs.length ⟨.pointer (some ⟨p, 0, none⟩), b⟩ = rowsOf (ps ++ [p]) (bs ++ [b]) := by
  unfold rowsOf
  rw [List.set_append_right _ _ (by simp; omega)]
  simp only [List.length_zipWith, h, Nat.min_self, Nat.sub_self]
  rw [List.zipWith_append h, List.length_append, List.length_singleton, show 32 - bs.length = (32 - (bs.length + 1)) + 1 by omega, List.replicate_succ, List.set_cons_zero]
  simp
theorem sto_len {tp : Value} {ep : Int} {n : Nat} {rows : List RowM} {tab : List Int} : (stoV tp ep n rows tab).length = 3 + rows.length * 4 + tab.length := by
  simp [stoV, rowsV_len, intsV]; omega
theorem sto_eq {tp : Value} {ep : Int} {n : Nat} {rows : List RowM} {tab : List Int} : stoV tp ep n rows tab = [tp, .int .i64 ep, .int .i64 n] ++ (rowsV rows ++ intsV tab) := by simp [stoV]
theorem sto_at {tp : Value} {ep : Int} {n : Nat} {rows : List RowM} {tab : List Int} {i r : Nat} {x : RowM} (h : rows[i]? = some x) (hr : r < 4) : (stoV tp ep n rows tab)[3 + i * 4 + r]? = x.cells[r]? := by
  have hi := (List.getElem?_eq_some_iff.1 h).1
  rw [sto_eq, show 3 + i * 4 + r = ([tp, Value.int .i64 ep, .int .i64 n] : List Value).length + (i * 4 + r) by simp; omega, List.getElem?_append_right (by omega), Nat.add_sub_cancel_left, List.getElem?_append_left (by rw [rowsV_len]; omega)]
  exact rowsV_get h hr
theorem take_two {l : List Value} {i : Nat} {a b : Value} (h1 : l[i]? = some a) (h2 : l[i + 1]? = some b) : (l.drop i).take 2 = [a, b] := by
  have hi := (List.getElem?_eq_some_iff.1 h2).1
  rw [List.drop_eq_getElem_cons (by omega), List.take_succ_cons, List.drop_eq_getElem_cons hi, List.take_succ_cons, List.take_zero]
  rw [List.getElem?_eq_getElem (by omega)] at h1 h2
  rw [Option.some.inj h1, Option.some.inj h2]
theorem sto_ver {tp : Value} {ep : Int} {n : Nat} {rows : List RowM} {tab : List Int} {i : Nat} {x : RowM} (h : rows[i]? = some x) : ((stoV tp ep n rows tab).drop (3 + i * 4 + 1)).take 2 = [.int .i64 x.b.v0, .int .i64 x.b.v1] :=
  take_two (by rw [sto_at h (by decide)]; rfl) (by rw [Nat.add_assoc, sto_at h (by decide)]; rfl)
theorem sto_setN {tp : Value} {ep : Int} {n : Nat} {rows : List RowM} {tab : List Int} {i r : Nat} {x y : RowM} {us : List Value} (h : rows[i]? = some x) (hr : r + us.length ≤ 4) (hy : y.cells = x.cells.take r ++ us ++ x.cells.drop (r + us.length)) :
    (stoV tp ep n rows tab).take (3 + i * 4 + r) ++ us ++ (stoV tp ep n rows tab).drop (3 + i * 4 + r + us.length) = stoV tp ep n (rows.set i y) tab := by
  have hi := (List.getElem?_eq_some_iff.1 h).1
  have hl := rowsV_len rows
  rw [sto_eq, sto_eq, ← rowsV_setN h hr hy]
  have e : 3 + i * 4 + r = ([tp, Value.int .i64 ep, .int .i64 n] : List Value).length + (i * 4 + r) := by simp; omega
  rw [e, List.take_length_add_append, Nat.add_assoc, List.drop_length_add_append, List.take_append_of_le_length (by omega), List.drop_append_of_le_length (by omega)]
  simp only [List.append_assoc]
theorem sto_set {tp : Value} {ep : Int} {n : Nat} {rows : List RowM} {tab : List Int} {i r : Nat} {x y : RowM} {u : Value} (h : rows[i]? = some x) (hr : r < 4) (hy : y.cells = x.cells.take r ++ [u] ++ x.cells.drop (r + 1)) : (stoV tp ep n rows tab).set (3 + i * 4 + r) u = stoV tp ep n (rows.set i y) tab := by
  have hi := (List.getElem?_eq_some_iff.1 h).1
  rw [← sto_setN (us := [u]) h (by simp; omega) hy, List.set_eq_take_append_cons_drop, if_pos (by rw [sto_len]; omega)]
  simp
theorem sto_tab {tp : Value} {ep : Int} {n : Nat} {rows : List RowM} {tab : List Int} (h : rows.length = 32) (ht : tab.length = 4) : ((stoV tp ep n rows tab).drop 131).take 4 = intsV tab := by
  unfold stoV
  rw [List.drop_left' (by simp [rowsV_len, h]), List.take_of_length_le (by simp [intsV, ht])]
theorem sto_tabset {tp : Value} {ep : Int} {n : Nat} {rows : List RowM} {tab t' : List Int} (h : rows.length = 32) (ht : tab.length = 4) (ht' : t'.length = 4) : (stoV tp ep n rows tab).take 131 ++ intsV t' ++ (stoV tp ep n rows tab).drop (131 + (intsV t').length) = stoV tp ep n rows t' := by
  unfold stoV
  rw [List.take_left' (by simp [rowsV_len, h]), List.drop_of_length_le (by simp [rowsV_len, h, intsV, ht, ht']), List.append_nil]
theorem sto_pre {tp : Value} {ep : Int} {n : Nat} {rows : List RowM} (h : rows.length = 32) : ([tp, Value.int .i64 ep, .int .i64 n] ++ rowsV rows).length = 131 := by simp [rowsV_len, h]
structure StoM.wf (S : StoM) (ps : List Nat) : Prop where
  lp : ps.length = S.bs.length
  lc : S.cs.length = S.bs.length
  n : S.bs.length ≤ 32
  tab : S.tab.length = 4
theorem StoM.wf.rows {S : StoM} {ps : List Nat} (h : S.wf ps) : (rowsOf ps S.bs).length = 32 := rowsOf_len h.lp h.n
theorem inN_iff {n : Nat} {i : Int} : inN n i = true ↔ 0 ≤ i ∧ i < n := by unfold inN; simp
theorem StoM.wf.row {S : StoM} {ps : List Nat} (h : S.wf ps) {i : Int} (hi : inN S.bs.length i = true) : ∃ p b, ps[i.toNat]? = some p ∧ S.bs[i.toNat]? = some b ∧ (rowsOf ps S.bs)[i.toNat]? = some ⟨.pointer (some ⟨p, 0, none⟩), b⟩ ∧ S.getB i = b := by
  obtain ⟨h1, h2⟩ := inN_iff.1 hi
  have hl := h.lp
  have hp : ps[i.toNat]? = some (ps[i.toNat]'(by omega)) := List.getElem?_eq_getElem _
  have hb : S.bs[i.toNat]? = some (S.bs[i.toNat]'(by omega)) := List.getElem?_eq_getElem _
  refine ⟨_, _, hp, hb, rowsOf_get hp hb, ?_⟩
  unfold StoM.getB
  rw [if_pos hi, List.getD_eq_getElem?_getD, hb]; rfl
end Go.Sl
namespace Go.Sl
set_option linter.unusedSimpArgs false
def inM63 (n : Int) : Prop := 0 ≤ n ∧ n ≤ 4611686018427387904
theorem tok_may {ep : Int} (h : inM63 ep) : (tokR ep).may := by
  obtain ⟨h1, h2⟩ := h
  refine ⟨by simp [tokR], by simp [tokR], by simp [tokR], by simp [tokR], fun t ht => by simp [tokR] at ht, fun n hn => ?_⟩
  simp only [tokR, List.mem_cons, List.not_mem_nil, or_false] at hn
  subst hn; omega
theorem blk_may {v0 v1 : Int} {t : List Int} {d : Bytes} (h0 : inM63 v0) (h1 : inM63 v1) (ht : t.length = 4) (hb : ∀ x ∈ t, inM63 x) (hd : d.length = 8) : (blkR v0 v1 t d).may := by
  obtain ⟨a, b⟩ := h0
  obtain ⟨c, e⟩ := h1
  refine ⟨by simp [blkR], by simp [blkR], by simp [blkR, ht], by simp [blkR], fun t ht => ?_, fun n hn => ?_⟩
  · simp only [blkR, List.mem_cons, List.not_mem_nil, or_false] at ht; subst ht; omega
  · simp only [blkR, List.mem_append, List.mem_cons, List.not_mem_nil, or_false] at hn
    rcases hn with (rfl | rfl) | hn
    · omega
    · omega
    · obtain ⟨f, g⟩ := hb n hn; omega
theorem tok_len {ep : Int} (h : inM63 ep) : (recB (tokR ep)).length ≤ 100 := by
  have := numsB_len (tok_may h).num
  have e : (numsB (tokR ep).nums).length ≤ 10 := this
  have e2 : textsB (tokR ep).texts = [] := rfl
  simp only [recB, e2, List.append_nil, List.length_cons]
  omega
theorem blk_len {v0 v1 : Int} {t : List Int} {d : Bytes} (h0 : inM63 v0) (h1 : inM63 v1) (ht : t.length = 4) (hb : ∀ x ∈ t, inM63 x) (hd : d.length = 8) : (recB (blkR v0 v1 t d)).length ≤ 100 := by
  have h := numsB_len (blk_may h0 h1 ht hb hd).num
  have e : (blkR v0 v1 t d).nums.length = 6 := by simp [blkR, ht]
  rw [e] at h
  have e2 : (textsB (blkR v0 v1 t d).texts).length = 9 := by simp [blkR, textsB, hd]
  simp only [recB, List.length_cons, List.length_append, e2]
  omega
theorem enc_of {r : RecM} (h : r.may) : encM r = (recB r, 0) := by unfold encM; rw [if_pos (mayB_of h)]
theorem maxT_ok {t l : List Int} (ht : t.length = 4) (hl : l.length = 4) (h1 : ∀ x ∈ t, inM63 x) (h2 : ∀ x ∈ l, inM63 x) : ∀ x ∈ maxT t l, inM63 x := by
  match t, ht with
  | [a, b, c, d], _ =>
    match l, hl with
    | [e, f, g, i], _ =>
      intro x hx
      simp only [maxT, List.zipWith_cons_cons, List.zipWith_nil_left, List.mem_cons, List.not_mem_nil, or_false] at hx
      have a1 := h1 a (by simp); have a2 := h1 b (by simp); have a3 := h1 c (by simp); have a4 := h1 d (by simp)
      have b1 := h2 e (by simp); have b2 := h2 f (by simp); have b3 := h2 g (by simp); have b4 := h2 i (by simp)
      unfold inM63 at *
      rcases hx with rfl | rfl | rfl | rfl <;> omega
theorem msgT_ok {m : MsgM} (h : m.ok) : ∀ x ∈ msgT m, inM63 x := by
  intro x hx
  simp only [msgT, List.mem_cons, List.not_mem_nil, or_false] at hx
  rcases hx with rfl | rfl | rfl | rfl
  · exact h.t0
  · exact h.t1
  · exact h.t2
  · exact h.t3
theorem msgT_len (m : MsgM) : (msgT m).length = 4 := rfl
theorem tabUp_len {t : List Int} (ht : t.length = 4) (m : MsgM) : (tabUp t m).length = 4 := by
  have := maxT_len ht (msgT_len m)
  unfold tabUp
  split
  · rw [List.length_set]; exact this
  · exact this
theorem tabUp_ok {t : List Int} {m : MsgM} (ht : t.length = 4) (h1 : ∀ x ∈ t, inM63 x) (hm : m.ok) : ∀ x ∈ tabUp t m, inM63 x := by
  have h2 := maxT_ok ht (msgT_len m) h1 (msgT_ok hm)
  have hl := maxT_len ht (msgT_len m)
  have hn := hm.n
  have hc := hm.client
  unfold tabUp
  split
  · rename_i h0
    intro x hx
    rcases List.mem_or_eq_of_mem_set hx with hx | rfl
    · exact h2 x hx
    · have hg : (maxT t (msgT m))[m.client.toNat]? = some ((maxT t (msgT m)).getD m.client.toNat 0) := getd_get (by omega)
      have := h2 _ (List.mem_of_getElem? hg)
      unfold inM63 at *
      omega
  · exact h2
structure StoM.ok (S : StoM) (D : Dev) (ps : List Nat) : Prop where
  wf : S.wf ps
  tok : S.tok.ok D.l.length
  cs : ∀ C ∈ S.cs, C.ok D.l.length
  ep : inM63 S.epoch
  tab : ∀ x ∈ S.tab, inM63 x
  d : D.ok
theorem StoM.ok.cell {S : StoM} {D : Dev} {ps : List Nat} (h : S.ok D ps) {i : Int} (hi : inN S.bs.length i = true) : S.cs[i.toNat]? = some (S.cell i) ∧ (S.cell i).ok D.l.length := by
  obtain ⟨h1, h2⟩ := inN_iff.1 hi
  have hl := h.wf.lc
  have e : S.cs[i.toNat]? = some (S.cell i) := getd_get (by omega)
  exact ⟨e, h.cs _ (List.mem_of_getElem? e)⟩
theorem StoM.raised_ok {S : StoM} {D : Dev} {ps : List Nat} (h : S.ok D ps) {ep : Int} (he : inM63 ep) : (S.raised D ep).2.1.ok (S.raised D ep).2.2 ps ∧ (S.raised D ep).2.1.bs = S.bs ∧ (S.raised D ep).2.1.cs = S.cs ∧ (S.raised D ep).2.1.tab = S.tab := by
  unfold StoM.raised
  split
  · exact ⟨h, rfl, rfl, rfl⟩
  · have hp := Go.Sl.put_ok h.tok h.d (recB (tokR ep))
    refine ⟨⟨⟨h.wf.lp, h.wf.lc, h.wf.n, h.wf.tab⟩, ?_, fun C hC => ?_, ?_, h.tab, hp.2⟩, rfl, rfl, rfl⟩
    · dsimp only; rw [put_l]; exact hp.1
    · dsimp only; rw [put_l]; exact h.cs C hC
    · dsimp only; split
      · exact he
      · exact h.ep
theorem StoM.store_ok {S : StoM} {D : Dev} {ps : List Nat} (h : S.ok D ps) {m : MsgM} (hm : m.ok) : (S.store D m).2.1.ok (S.store D m).2.2 ps ∧ (S.store D m).2.1.epoch = S.epoch := by
  unfold StoM.store
  split
  · exact ⟨h, rfl⟩
  · rename_i hin
    have hin : inN S.bs.length m.block = true := by simpa using hin
    split
    · exact ⟨h, rfl⟩
    · split
      · exact ⟨h, rfl⟩
      · obtain ⟨e, hC⟩ := h.cell hin
        have hp := Go.Sl.put_ok hC h.d (recB (blkR m.epoch m.seq (tabUp S.tab m) m.data))
        refine ⟨⟨⟨?_, ?_, ?_, ?_⟩, ?_, fun C hC' => ?_, h.ep, ?_, hp.2⟩, rfl⟩
        · dsimp only; rw [h.wf.lp]; split <;> simp
        · dsimp only; rw [List.length_set, h.wf.lc]; split <;> simp
        · dsimp only; split <;> simp [h.wf.n]
        · dsimp only; split
          · exact tabUp_len h.wf.tab m
          · exact h.wf.tab
        · dsimp only; rw [put_l]; exact h.tok
        · dsimp only at hC' ⊢
          rw [put_l]
          rcases List.mem_or_eq_of_mem_set hC' with hC' | rfl
          · exact h.cs C hC'
          · exact hp.1
        · dsimp only; split
          · exact tabUp_ok h.wf.tab h.tab hm
          · exact h.tab
theorem StoM.take_ok {S : StoM} {D : Dev} {ps : List Nat} (h : S.ok D ps) (m : MsgM) : (S.take D m).2.1.ok (S.take D m).2.2 ps := by
  unfold StoM.take
  split
  · exact h
  · rename_i hn
    have hm : m.ok := MsgM.ok_of (by simp only [not_or, Bool.not_eq_false] at hn; exact hn.2)
    have hr := (StoM.raised_ok h (ep := m.epoch) hm.epoch).1
    dsimp only
    split
    · exact hr
    · split
      · split
        · exact hr
        · exact hr
      · split
        · split
          · exact (StoM.store_ok hr hm).1
          · exact (StoM.store_ok hr hm).1
        · split
          · exact hr
          · exact hr
end Go.Sl
namespace Go.Sl
set_option linter.unusedSimpArgs false
def cz (D : Dev) (f : Int) (z : Nat) : CellM := openC D (f + 2 * z) (f + 2 * z + 1)
theorem cz_ok {D : Dev} {N z : Nat} {f : Int} (h : Live D N) (h0 : 0 ≤ f) (hz : f + 2 * z + 1 < N) : openE D (f + 2 * z) (f + 2 * z + 1) = 0 ∧ (cz D f z).ok N := live_openC h (by omega) (by omega) (by omega)
theorem cz_other (D : Dev) (f : Int) (z : Nat) : (cz D f z).other = f + 2 * z ∨ (cz D f z).other = f + 2 * z + 1 := by
  obtain ⟨h1, h2⟩ := openC_ab D (f + 2 * z) (f + 2 * z + 1)
  unfold CellM.other cz
  rw [h1, h2]
  split
  · exact .inr rfl
  · exact .inl rfl
theorem cz_same {D D' : Dev} {N z : Nat} {f o : Int} (h0 : 0 ≤ f) (hz : f + 2 * z + 1 < N) (ho : o ≠ f + 2 * z ∧ o ≠ f + 2 * z + 1) (hs : ∀ j : Int, 0 ≤ j → j < N → j ≠ o → D'.sec j = D.sec j) : cz D' f z = cz D f z :=
  open_same (hs _ (by omega) (by omega) (Ne.symm ho.1)) (hs _ (by omega) (by omega) (Ne.symm ho.2))
theorem cz_all {D D' : Dev} {f : Int} {z : Nat} (hs : ∀ j : Int, D'.sec j = D.sec j) : cz D' f z = cz D f z := open_same (hs _) (hs _)
theorem put_cz {D : Dev} {N z : Nat} {f : Int} {s : Bytes} (hL : Live D N) (h0 : 0 ≤ f) (hz : f + 2 * z + 1 < N) (hs : s.length ≤ 100) (hg : (cz D f z).gen < 4611686018427387904) :
    (∃ D', (cz D f z).put D s = (0, (cz D f z).next s, D') ∧ Live D' N ∧ cz D' f z = (cz D f z).next s ∧ (∀ y : Nat, y ≠ z → f + 2 * y + 1 < N → cz D' f y = cz D f y) ∧ (D.fuse = -1 → D'.fuse = -1)) ∨
    (∃ D', (cz D f z).put D s = (30, cz D f z, D') ∧ HalfD D' D N (cz D f z).other (pad (slotM ((cz D f z).gen + 1) s)) ∧ D.fuse ≠ -1) := by
  have hC := (cz_ok hL h0 hz).2
  have hup : D.fuse = -1 → ∃ D', (cz D f z).put D s = (0, (cz D f z).next s, D') ∧ PutOk (cz D f z) D s N D' := fun hf => put_good ⟨hL.ok, hL.len, hL.live, hf⟩ hC hs hg
  rcases put_live (s := s) hL hC hs hg with ⟨D', h1, h2, h3, h4⟩ | ⟨D', h1, h2⟩
  · refine .inl ⟨D', h1, h2, h3, fun y hy hyN => ?_, fun hf => ?_⟩
    · refine cz_same h0 hyN ?_ h4
      rcases cz_other D f z with e | e <;> · rw [show (openC D (f + 2 * z) (f + 2 * z + 1)).other = _ from e]; omega
    · obtain ⟨D2, h5, h6⟩ := hup hf
      rw [show openC D (f + 2 * z) (f + 2 * z + 1) = cz D f z from rfl, h5] at h1
      simp only [Prod.mk.injEq, true_and] at h1
      rw [← h1]; exact h6.up.fuse
  · refine .inr ⟨D', h1, h2, fun hf => ?_⟩
    obtain ⟨D2, h5, h6⟩ := hup hf
    rw [show openC D (f + 2 * z) (f + 2 * z + 1) = cz D f z from rfl, h5] at h1
    simp at h1
def leT (a b : List Int) : Prop := ∀ j : Nat, j < 4 → a.getD j 0 ≤ b.getD j 0
theorem leT.refl (a : List Int) : leT a a := fun _ _ => Int.le_refl _
theorem leT.trans {a b c : List Int} (h : leT a b) (h2 : leT b c) : leT a c := fun j hj => Int.le_trans (h j hj) (h2 j hj)
theorem leT.antisymm {a b : List Int} (ha : a.length = 4) (hb : b.length = 4) (h : leT a b) (h2 : leT b a) : a = b := by
  match a, ha with
  | [a0, a1, a2, a3], _ =>
    match b, hb with
    | [b0, b1, b2, b3], _ =>
      have e := fun j hj => Int.le_antisymm (h j hj) (h2 j hj)
      have e0 := e 0 (by omega); have e1 := e 1 (by omega); have e2 := e 2 (by omega); have e3 := e 3 (by omega)
      simp at e0 e1 e2 e3
      rw [e0, e1, e2, e3]
theorem maxT_getD {t l : List Int} (ht : t.length = 4) (hl : l.length = 4) {j : Nat} (hj : j < 4) : (maxT t l).getD j 0 = max (t.getD j 0) (l.getD j 0) := by
  match t, ht with
  | [a, b, c, d], _ =>
    match l, hl with
    | [e, f, g, i], _ =>
      match j, hj with
      | 0, _ => rfl
      | 1, _ => rfl
      | 2, _ => rfl
      | 3, _ => rfl
      | j + 4, hj => omega
theorem leT_maxL {t l : List Int} (ht : t.length = 4) (hl : l.length = 4) : leT t (maxT t l) := fun j hj => by rw [maxT_getD ht hl hj]; omega
theorem leT_maxR {t l : List Int} (ht : t.length = 4) (hl : l.length = 4) : leT l (maxT t l) := fun j hj => by rw [maxT_getD ht hl hj]; omega
theorem maxT_le {t l u : List Int} (ht : t.length = 4) (hl : l.length = 4) (h1 : leT t u) (h2 : leT l u) : leT (maxT t l) u := fun j hj => by rw [maxT_getD ht hl hj]; have := h1 j hj; have := h2 j hj; omega
theorem leT_set {t : List Int} (ht : t.length = 4) {k : Nat} {n : Int} (h : t.getD k 0 ≤ n) : leT t (t.set k n) := by
  intro j hj
  simp only [List.getD_eq_getElem?_getD, List.getElem?_set] at h ⊢
  split
  · rename_i e; subst e
    rw [if_pos (by omega)]; exact h
  · exact Int.le_refl _
theorem tabUp_ge {t : List Int} (ht : t.length = 4) (m : MsgM) : leT t (tabUp t m) := by
  have h1 := leT_maxL ht (msgT_len m)
  unfold tabUp
  split
  · exact h1.trans (leT_set (maxT_len ht (msgT_len m)) (by omega))
  · exact h1
def zeroT : List Int := [0, 0, 0, 0]
def tabTo (D : Dev) (f : Int) : Nat → List Int
  | 0 => zeroT
  | k + 1 => tabOf (cz D f (k + 1)).text (tabTo D f k)
def openS (D : Dev) (f : Int) (n : Nat) : StoM :=
  ⟨cz D f 0, tokOf (cz D f 0).text, (List.range n).map fun i => cz D f (i + 1), (List.range n).map fun i => blkOf (cz D f (i + 1)).text, tabTo D f n⟩
theorem blkOk_nums {t : Bytes} (h : blkOk t = true) : (decM t).1.nums.length = 6 ∧ (∀ x ∈ (decM t).1.nums, inM63 x) ∧ ((decM t).1.texts.getD 0 []).length = 8 := by
  unfold blkOk readB at h
  simp only [Bool.and_eq_true, decide_eq_true_eq, Bool.not_eq_true'] at h
  obtain ⟨⟨⟨⟨⟨h1, h2⟩, h3⟩, h4⟩, h5⟩, h6⟩ := h
  refine ⟨by omega, fun x hx => ?_, by omega⟩
  have := List.any_eq_false.1 h5 x hx
  unfold oddB at this
  simp at this
  exact ⟨this.1, this.2⟩
theorem tokOf_in (t : Bytes) : inM63 (tokOf t) := by
  unfold tokOf
  split
  · rename_i h
    unfold readB at h
    simp only [Bool.and_eq_true, decide_eq_true_eq, Bool.not_eq_true'] at h
    obtain ⟨⟨⟨⟨h1, h2⟩, h3⟩, h4⟩, h5⟩ := h
    have hg : (decM t).1.nums[0]? = some ((decM t).1.nums.getD 0 0) := getd_get (by omega)
    have := List.any_eq_false.1 h5 _ (List.mem_of_getElem? hg)
    unfold oddB at this
    simp only [Bool.or_eq_true, decide_eq_true_eq, not_or] at this
    exact ⟨by omega, by omega⟩
  · exact ⟨by decide, by decide⟩
structure TabOk (t : List Int) : Prop where
  len : t.length = 4
  all : ∀ x ∈ t, inM63 x
theorem zeroT_ok : TabOk zeroT := ⟨rfl, fun x hx => by simp [zeroT] at hx; subst hx; exact ⟨by decide, by decide⟩⟩
theorem drop2_ok {t : Bytes} (h : blkOk t = true) : TabOk ((decM t).1.nums.drop 2) := by
  obtain ⟨h1, h2, _⟩ := blkOk_nums h
  exact ⟨by simp [h1], fun x hx => h2 x (List.mem_of_mem_drop hx)⟩
theorem tabOf_ok {t : Bytes} {l : List Int} (h : TabOk l) : TabOk (tabOf t l) := by
  unfold tabOf
  split
  · rename_i hb
    have hd := drop2_ok hb
    exact ⟨maxT_len h.len hd.len, maxT_ok h.len hd.len h.all hd.all⟩
  · exact h
theorem tabTo_ok (D : Dev) (f : Int) : ∀ n, TabOk (tabTo D f n)
  | 0 => zeroT_ok
  | n + 1 => tabOf_ok (tabTo_ok D f n)
def below (t : Bytes) (u : List Int) : Prop := blkOk t = true → leT ((decM t).1.nums.drop 2) u
theorem zeroT_le {u : List Int} (h : TabOk u) : leT zeroT u := by
  intro j hj
  have e : zeroT.getD j 0 = 0 := by
    match j, hj with
    | 0, _ => rfl
    | 1, _ => rfl
    | 2, _ => rfl
    | 3, _ => rfl
    | j + 4, hj => omega
  have hg : u[j]? = some (u.getD j 0) := getd_get (by have := h.len; omega)
  rw [e]
  exact (h.all _ (List.mem_of_getElem? hg)).1
theorem tabTo_le {D : Dev} {f : Int} {u : List Int} (hu : TabOk u) : ∀ n, (∀ i < n, below (cz D f (i + 1)).text u) → leT (tabTo D f n) u
  | 0, _ => zeroT_le hu
  | n + 1, h => by
    have ih := tabTo_le hu n fun i hi => h i (by omega)
    unfold tabTo tabOf
    split
    · rename_i hb
      exact maxT_le (tabTo_ok D f n).len (drop2_ok hb).len ih (h n (by omega) hb)
    · exact ih
theorem tabTo_ge {D : Dev} {f : Int} : ∀ n, ∀ i < n, below (cz D f (i + 1)).text (tabTo D f n)
  | 0, i, h => by omega
  | n + 1, i, h => by
    intro hb
    have hl : leT (tabTo D f n) (tabTo D f (n + 1)) := by
      show leT _ (tabOf _ _)
      unfold tabOf
      split
      · rename_i hb2
        exact leT_maxL (tabTo_ok D f n).len (drop2_ok hb2).len
      · exact leT.refl _
    by_cases e : i = n
    · subst e
      show leT _ (tabOf _ _)
      unfold tabOf
      rw [if_pos hb]
      exact leT_maxR (tabTo_ok D f i).len (drop2_ok hb).len
    · exact (tabTo_ge n i (by omega) hb).trans hl
theorem blk_dec {v0 v1 : Int} {t : List Int} {d : Bytes} (h0 : inM63 v0) (h1 : inM63 v1) (ht : TabOk t) (hd : d.length = 8) : decM (recB (blkR v0 v1 t d)) = (blkR v0 v1 t d, 0) := decM_some (recD_recB (blk_may h0 h1 ht.len ht.all hd))
theorem blk_blkOk {v0 v1 : Int} {t : List Int} {d : Bytes} (h0 : inM63 v0) (h1 : inM63 v1) (ht : TabOk t) (hd : d.length = 8) : blkOk (recB (blkR v0 v1 t d)) = true := by
  have hall : (blkR v0 v1 t d).nums.any oddB = false := by
    refine List.any_eq_false.2 fun x hx => ?_
    have : inM63 x := by
      simp only [blkR, List.mem_append, List.mem_cons, List.not_mem_nil, or_false] at hx
      rcases hx with (rfl | rfl) | hx
      · exact h0
      · exact h1
      · exact ht.all x hx
    unfold oddB
    simp only [Bool.or_eq_true, decide_eq_true_eq, not_or]
    exact ⟨by have := this.1; omega, by have := this.2; omega⟩
  unfold blkOk readB
  rw [blk_dec h0 h1 ht hd]
  dsimp only
  rw [hall]
  simp [blkR, ht.len, hd]
theorem blk_blkOf {v0 v1 : Int} {t : List Int} {d : Bytes} (h0 : inM63 v0) (h1 : inM63 v1) (ht : TabOk t) (hd : d.length = 8) : blkOf (recB (blkR v0 v1 t d)) = ⟨v0, v1, d⟩ := by
  unfold blkOf
  rw [if_pos (blk_blkOk h0 h1 ht hd), blk_dec h0 h1 ht hd]
  rfl
theorem tok_tokOf {ep : Int} (h : inM63 ep) : tokOf (recB (tokR ep)) = ep := by
  have e : decM (recB (tokR ep)) = (tokR ep, 0) := decM_some (recD_recB (tok_may h))
  obtain ⟨h1, h2⟩ := h
  unfold tokOf
  rw [if_pos]
  · rw [e]; rfl
  · unfold readB
    rw [e]
    simp [tokR, oddB]
    omega
/-- One block's cell is turned: the table is what it says. -/
theorem tabTo_set {D D' : Dev} {f : Int} {n i : Nat} {t : List Int} {v0 v1 : Int} {d : Bytes} (hi : i < n) (h0 : inM63 v0) (h1 : inM63 v1) (ht : TabOk t) (hd : d.length = 8) (hle : leT (tabTo D f n) t)
    (he : (cz D' f (i + 1)).text = recB (blkR v0 v1 t d)) (ho : ∀ y, y ≠ i → y < n → cz D' f (y + 1) = cz D f (y + 1)) : tabTo D' f n = t := by
  have hdn : (decM (cz D' f (i + 1)).text).1.nums.drop 2 = t := by rw [he, blk_dec h0 h1 ht hd]; rfl
  refine leT.antisymm (tabTo_ok D' f n).len ht.len (tabTo_le ht n fun y hy => ?_) ?_
  · intro hb
    by_cases e : y = i
    · subst e; rw [hdn]; exact leT.refl _
    · rw [ho y e hy] at hb ⊢
      exact (tabTo_ge n y hy hb).trans hle
  · have := tabTo_ge (D := D') (f := f) n i hi (by rw [he]; exact blk_blkOk h0 h1 ht hd)
    rw [hdn] at this
    exact this
theorem tabTo_same {D D' : Dev} {f : Int} : ∀ {n : Nat}, (∀ y, y < n → cz D' f (y + 1) = cz D f (y + 1)) → tabTo D' f n = tabTo D f n
  | 0, _ => rfl
  | n + 1, h => by
    unfold tabTo
    rw [h n (by omega), tabTo_same fun y hy => h y (by omega)]
end Go.Sl
namespace Go.Sl
set_option linter.unusedSimpArgs false
theorem openS_wf {D : Dev} {f : Int} {n : Nat} {ps : List Nat} (hp : ps.length = n) (hn : n ≤ 32) : (openS D f n).wf ps :=
  ⟨by simp [openS, hp], by simp [openS], by simp [openS, hn], (tabTo_ok D f n).len⟩
theorem openS_ok {D : Dev} {f : Int} {n N : Nat} {ps : List Nat} (hp : ps.length = n) (hn : n ≤ 32) (hL : Live D N) (h0 : 0 ≤ f) (hN : f + 2 + 2 * n ≤ N) : (openS D f n).ok D ps := by
  refine ⟨openS_wf hp hn, ?_, fun C hC => ?_, tokOf_in _, (tabTo_ok D f n).all, hL.ok⟩
  · rw [hL.len]; exact (cz_ok hL h0 (by omega)).2
  · obtain ⟨i, hi, rfl⟩ := List.mem_map.1 hC
    have := List.mem_range.1 hi
    rw [hL.len]; exact (cz_ok hL h0 (by omega)).2
theorem openS_ok' {D Dp : Dev} {f : Int} {n N : Nat} {ps : List Nat} (hp : ps.length = n) (hn : n ≤ 32) (hL : Live Dp N) (h0 : 0 ≤ f) (hN : f + 2 + 2 * n ≤ N) (hl : D.l = Dp.l) (hD : D.ok) : (openS Dp f n).ok D ps := by
  have h := openS_ok hp hn hL h0 hN
  exact ⟨h.wf, by rw [hl]; exact h.tok, by rw [hl]; exact h.cs, h.ep, h.tab, hD⟩
structure StA where
  ep : Int
  bs : List BlkM
  tab : List Int
  deriving DecidableEq
theorem StoM.ext_ {S T : StoM} (h1 : S.tok = T.tok) (h2 : S.epoch = T.epoch) (h3 : S.cs = T.cs) (h4 : S.bs = T.bs) (h5 : S.tab = T.tab) : S = T := by
  cases S; cases T; simp_all
def StoM.abs (S : StoM) : StA := ⟨S.epoch, S.bs, S.tab⟩
def StA.getB (A : StA) (i : Int) : BlkM := if inN A.bs.length i = true then A.bs.getD i.toNat .zero else ⟨0, 0, []⟩
def StA.old (A : StA) (m : MsgM) : Prop := m.epoch < (A.getB m.block).v0 ∨ (m.epoch = (A.getB m.block).v0 ∧ m.seq ≤ (A.getB m.block).v1)
instance (A : StA) (m : MsgM) : Decidable (A.old m) := inferInstanceAs (Decidable (_ ∨ _))
def StA.put (A : StA) (m : MsgM) : StA := { A with bs := A.bs.set m.block.toNat ⟨m.epoch, m.seq, m.data⟩, tab := tabUp A.tab m }
def StA.store (A : StA) (m : MsgM) : Int × StA :=
  if inN A.bs.length m.block = false then (2, A) else if (m.data.length : Int) ≠ 8 then (3, A) else if A.old m then (0, A) else (0, A.put m)
def StA.up (A : StA) (e : Int) : StA := { A with ep := max A.ep e }
def badK (m : MsgM) : Prop := (m.kind ≠ 10 ∧ m.kind ≠ 12) ∨ m.may = false
instance (m : MsgM) : Decidable (badK m) := inferInstanceAs (Decidable (_ ∨ _))
def StA.take (A : StA) (m : MsgM) : (MsgM × Bool) × StA :=
  if badK m then ((.zero, false), A) else if m.epoch < A.ep then ((outM13 m 24 [] [], true), A) else
  if m.kind = 10 then ((outM13 m ((A.up m.epoch).store m).1 [] [], true), ((A.up m.epoch).store m).2)
  else if 0 ≤ m.block ∧ inN A.bs.length m.block = false then ((outM13 m 2 [] [], true), A.up m.epoch)
  else ((outM13 m 0 A.tab (A.getB m.block).data, true), A.up m.epoch)
def Gens (D : Dev) (f : Int) (n k : Nat) : Prop := ∀ z : Nat, z ≤ n → (cz D f z).gen ≤ k
theorem Gens.up1 {D : Dev} {f : Int} {n k : Nat} (h : Gens D f n k) : Gens D f n (k + 1) := fun z hz => by have := h z hz; omega
/-- A device that died over a store's put: what was under way. -/
structure HalfS (D Dp : Dev) (f : Int) (n N : Nat) where
  z : Nat
  s : Bytes
  zn : z ≤ n
  len : s.length ≤ 100
  live : Live Dp N
  half : HalfD D Dp N (cz Dp f z).other (pad (slotM ((cz Dp f z).gen + 1) s))
  tok : z = 0 → ∃ e, inM63 e ∧ s = recB (tokR e) ∧ (openS Dp f n).epoch < e
inductive TakeR (D : Dev) (f : Int) (n N k : Nat) (m : MsgM) : (MsgM × Bool) × StoM × Dev → Prop where
  | done (D' : Dev) (hL : Live D' N) (hA : ((openS D f n).abs.take m).2 = (openS D' f n).abs) (hf : D.fuse = -1 → D'.fuse = -1) (hG : Gens D' f n (k + 1)) : TakeR D f n N k m (((openS D f n).abs.take m).1, openS D' f n, D')
  | died (D' Dp : Dev) (hH : HalfS D' Dp f n N) (hG : Gens Dp f n (k + 1)) (hf : D.fuse ≠ -1) (he : (openS D f n).epoch ≤ (openS Dp f n).epoch) (hek : (openS D f n).epoch < (openS Dp f n).epoch → (openS Dp f n).epoch = m.epoch)
      (hb : m.epoch < (openS D f n).epoch → False) : TakeR D f n N k m ((.zero, false), openS Dp f n, D')
section
variable {D : Dev} {f : Int} {n N k : Nat} {m : MsgM}
theorem openS_bs : (openS D f n).bs.length = n := by simp [openS]
theorem openS_cell {i : Int} (h : inN n i = true) : (openS D f n).cell i = cz D f (i.toNat + 1) := by
  obtain ⟨h1, h2⟩ := inN_iff.1 h
  unfold StoM.cell openS
  dsimp only
  rw [List.getD_eq_getElem?_getD, List.getElem?_map, List.getElem?_range (by omega)]
  rfl
theorem abs_getB (S : StoM) (i : Int) : S.getB i = S.abs.getB i := rfl
/-- Raising the token. -/
theorem raised_cz (hL : Live D N) (h0 : 0 ≤ f) (hN : f + 2 + 2 * n ≤ N) (hG : Gens D f n k) (hk : k < 4611686018427387904) {ep : Int} (he : inM63 ep) :
    (∃ D', (openS D f n).raised D ep = (0, openS D' f n, D') ∧ Live D' N ∧ (openS D' f n).abs = (openS D f n).abs.up ep ∧ (D.fuse = -1 → D'.fuse = -1) ∧ (cz D' f 0).gen ≤ k + 1 ∧ (∀ y : Nat, y ≠ 0 → y ≤ n → cz D' f y = cz D f y)) ∨
    (∃ D', (openS D f n).raised D ep = (30, openS D f n, D') ∧ (openS D f n).epoch < ep ∧ Nonempty (HalfS D' D f n N) ∧ D.fuse ≠ -1) := by
  have hg0 := hG 0 (by omega)
  unfold StoM.raised
  by_cases hle : ep ≤ (openS D f n).epoch
  · rw [if_pos hle]
    refine .inl ⟨D, rfl, hL, ?_, fun h => h, by omega, fun _ _ _ => rfl⟩
    unfold StoM.abs StA.up
    dsimp only
    rw [show max (openS D f n).epoch ep = (openS D f n).epoch by omega]
  · rw [if_neg hle]
    have hlen := tok_len he
    rcases put_cz (z := 0) (s := recB (tokR ep)) hL h0 (by omega) hlen (by omega) with ⟨D', h1, h2, h3, h4, h5⟩ | ⟨D', h1, h2, h3⟩
    · left
      have e : ((openS D f n).tok.put D (recB (tokR ep))) = (0, (cz D f 0).next (recB (tokR ep)), D') := h1
      have htok : (openS D' f n).epoch = ep := by
        show tokOf (cz D' f 0).text = ep
        rw [h3]; exact tok_tokOf he
      have hcs : ∀ y : Nat, y ≠ 0 → y ≤ n → cz D' f y = cz D f y := fun y hy hyn => h4 y hy (by omega)
      have hbs : (openS D' f n).bs = (openS D f n).bs := by
        unfold openS
        dsimp only
        exact List.map_congr_left fun i hi => by rw [hcs _ (by omega) (by have := List.mem_range.1 hi; omega)]
      have hcs2 : (openS D' f n).cs = (openS D f n).cs := by
        unfold openS
        dsimp only
        exact List.map_congr_left fun i hi => by rw [hcs _ (by omega) (by have := List.mem_range.1 hi; omega)]
      have htab : (openS D' f n).tab = (openS D f n).tab := tabTo_same fun y hy => hcs _ (by omega) (by omega)
      have hS : (openS D' f n) = { openS D f n with tok := (cz D f 0).next (recB (tokR ep)), epoch := ep } := by
        have : (openS D' f n).tok = (cz D f 0).next (recB (tokR ep)) := h3
        refine StoM.ext_ this htok ?_ ?_ ?_
        · exact hcs2
        · exact hbs
        · exact htab
      refine ⟨D', ?_, h2, ?_, h5, by rw [h3]; show (cz D f 0).gen + 1 ≤ _; omega, hcs⟩
      · dsimp only; rw [e, hS]; rfl
      · rw [hS]; unfold StoM.abs StA.up
        dsimp only
        rw [show max (openS D f n).epoch ep = ep by omega]
    · right
      have e : ((openS D f n).tok.put D (recB (tokR ep))) = (30, cz D f 0, D') := h1
      refine ⟨D', ?_, by omega, ⟨⟨0, recB (tokR ep), by omega, hlen, hL, h2, fun _ => ⟨ep, he, rfl, by omega⟩⟩⟩, h3⟩
      dsimp only; rw [e]; rfl
theorem store_cz (hn : n ≤ 32) (hL : Live D N) (h0 : 0 ≤ f) (hN : f + 2 + 2 * n ≤ N) (hG : ∀ z : Nat, z ≠ 0 → z ≤ n → (cz D f z).gen ≤ k) (hk : k < 4611686018427387904) (hm : m.ok) :
    (∃ D', (openS D f n).store D m = (((openS D f n).abs.store m).1, openS D' f n, D') ∧ Live D' N ∧ ((openS D f n).abs.store m).2 = (openS D' f n).abs ∧ (D.fuse = -1 → D'.fuse = -1) ∧ cz D' f 0 = cz D f 0 ∧ (∀ z : Nat, z ≠ 0 → z ≤ n → (cz D' f z).gen ≤ k + 1) ∧ ((openS D f n).abs.store m).1 ≠ 30) ∨
    (∃ D', (openS D f n).store D m = (30, openS D f n, D') ∧ Nonempty (HalfS D' D f n N) ∧ D.fuse ≠ -1) := by
  have hT := tabTo_ok D f n
  have hup : ∀ z : Nat, z ≠ 0 → z ≤ n → (cz D f z).gen ≤ k + 1 := fun z h1 h2 => by have := hG z h1 h2; omega
  unfold StoM.store StA.store
  have ebs : (openS D f n).abs.bs = (openS D f n).bs := rfl
  rw [ebs]
  by_cases c1 : inN (openS D f n).bs.length m.block = false
  · rw [if_pos c1, if_pos c1]; exact .inl ⟨D, rfl, hL, rfl, fun h => h, rfl, hup, by simp⟩
  rw [if_neg c1, if_neg c1]
  by_cases c2 : (m.data.length : Int) ≠ 8
  · rw [if_pos c2, if_pos c2]; exact .inl ⟨D, rfl, hL, rfl, fun h => h, rfl, hup, by simp⟩
  rw [if_neg c2, if_neg c2]
  by_cases c3 : m.epoch < ((openS D f n).getB m.block).v0 ∨ (m.epoch = ((openS D f n).getB m.block).v0 ∧ m.seq ≤ ((openS D f n).getB m.block).v1)
  · have c3' : (openS D f n).abs.old m := c3
    rw [if_pos c3, if_pos c3']; exact .inl ⟨D, rfl, hL, rfl, fun h => h, rfl, hup, by simp⟩
  have c3' : ¬ (openS D f n).abs.old m := c3
  rw [if_neg c3, if_neg c3']
  have hin : inN n m.block = true := by rw [openS_bs] at c1; simpa using c1
  obtain ⟨i0, i1⟩ := inN_iff.1 hin
  have hd : m.data.length = 8 := by omega
  have he := hm.epoch
  have hs := hm.seq
  have hTu : TabOk (tabUp (tabTo D f n) m) := ⟨tabUp_len hT.len m, tabUp_ok hT.len hT.all hm⟩
  have hlen := blk_len (v0 := m.epoch) (v1 := m.seq) (d := m.data) he hs hTu.len hTu.all hd
  have hgz := hG (m.block.toNat + 1) (by omega) (by omega)
  rw [openS_cell hin]
  obtain ⟨s, hs0⟩ : ∃ s, recB (blkR m.epoch m.seq (tabUp (openS D f n).tab m) m.data) = s := ⟨_, rfl⟩
  have hlen2 : s.length ≤ 100 := by rw [← hs0]; exact hlen
  rw [hs0]
  rcases put_cz (z := m.block.toNat + 1) (s := s) hL h0 (by omega) hlen2 (by omega) with ⟨D', h1, h2, h3, h4, h5⟩ | ⟨D', h1, h2, h3⟩
  · left
    have htx : (cz D' f (m.block.toNat + 1)).text = s := by rw [h3]; rfl
    have hcs : ∀ y : Nat, y ≠ m.block.toNat → y < n → cz D' f (y + 1) = cz D f (y + 1) := fun y hy hyn => h4 _ (by omega) (by omega)
    have hc0 : cz D' f 0 = cz D f 0 := h4 0 (by omega) (by omega)
    have htab : (openS D' f n).tab = tabUp (openS D f n).tab m := tabTo_set (i := m.block.toNat) (v0 := m.epoch) (v1 := m.seq) (d := m.data) (by omega) he hs hTu hd (tabUp_ge hT.len m) (by rw [htx, ← hs0]) hcs
    have hbk : blkOf s = ⟨m.epoch, m.seq, m.data⟩ := by rw [← hs0]; exact blk_blkOf he hs hTu hd
    have hbs : (openS D' f n).bs = (openS D f n).bs.set m.block.toNat ⟨m.epoch, m.seq, m.data⟩ := by
      unfold openS
      dsimp only
      apply List.ext_getElem?
      intro j
      rw [List.getElem?_set, List.length_map, List.length_range]
      by_cases hj : j < n
      · rw [List.getElem?_map, List.getElem?_map, List.getElem?_range hj]
        by_cases e : m.block.toNat = j
        · subst e
          rw [if_pos rfl, if_pos hj]
          show some (blkOf (cz D' f (m.block.toNat + 1)).text) = _
          rw [htx, hbk]
        · rw [if_neg e]
          show some (blkOf (cz D' f (j + 1)).text) = some (blkOf (cz D f (j + 1)).text)
          rw [hcs j (Ne.symm e) hj]
      · rw [if_neg (by omega), List.getElem?_eq_none (by simp; omega), List.getElem?_eq_none (by simp; omega)]
    have hcss : (openS D' f n).cs = (openS D f n).cs.set m.block.toNat ((cz D f (m.block.toNat + 1)).next s) := by
      unfold openS
      dsimp only
      apply List.ext_getElem?
      intro j
      rw [List.getElem?_set, List.length_map, List.length_range]
      by_cases hj : j < n
      · rw [List.getElem?_map, List.getElem?_map, List.getElem?_range hj]
        by_cases e : m.block.toNat = j
        · subst e
          rw [if_pos rfl, if_pos hj]
          show some (cz D' f (m.block.toNat + 1)) = _
          rw [h3]
        · rw [if_neg e]
          show some (cz D' f (j + 1)) = some (cz D f (j + 1))
          rw [hcs j (Ne.symm e) hj]
      · rw [if_neg (by omega), List.getElem?_eq_none (by simp; omega), List.getElem?_eq_none (by simp; omega)]
    have hS : openS D' f n = { openS D f n with cs := (openS D f n).cs.set m.block.toNat ((cz D f (m.block.toNat + 1)).next s), bs := (openS D f n).bs.set m.block.toNat ⟨m.epoch, m.seq, m.data⟩, tab := tabUp (openS D f n).tab m } := by
      have e1 : (openS D' f n).tok = (openS D f n).tok := hc0
      have e2 : (openS D' f n).epoch = (openS D f n).epoch := by show tokOf (cz D' f 0).text = tokOf (cz D f 0).text; rw [hc0]
      exact StoM.ext_ e1 e2 hcss hbs htab
    refine ⟨D', ?_, h2, ?_, h5, hc0, fun z hz hzn => ?_, by simp⟩
    · dsimp only; rw [h1, hS]; rfl
    · rw [hS]; rfl
    · by_cases e : z = m.block.toNat + 1
      · subst e; rw [h3]; show (cz D f (m.block.toNat + 1)).gen + 1 ≤ _; omega
      · rw [h4 z e (by omega)]; exact hup z hz hzn
  · right
    refine ⟨D', ?_, ⟨⟨m.block.toNat + 1, s, by omega, hlen2, hL, h2, fun h => by omega⟩⟩, h3⟩
    dsimp only; rw [h1]
    dsimp only
    rw [if_neg (by decide), if_neg (by decide)]
    have : (openS D f n).cs.set m.block.toNat (cz D f (m.block.toNat + 1)) = (openS D f n).cs := by
      refine set_same ?_
      show ((List.range n).map _)[_]? = _
      rw [List.getElem?_map, List.getElem?_range (by omega)]; rfl
    rw [this]
theorem take_cz (hn : n ≤ 32) (hL : Live D N) (h0 : 0 ≤ f) (hN : f + 2 + 2 * n ≤ N) (hG : Gens D f n k) (hk : k < 4611686018427387904) (m : MsgM) : TakeR D f n N k m ((openS D f n).take D m) := by
  obtain ⟨r, hr⟩ : ∃ r, (openS D f n).take D m = r := ⟨_, rfl⟩
  obtain ⟨a, ha⟩ : ∃ a, (openS D f n).abs.take m = a := ⟨_, rfl⟩
  have fin : ∀ D', r = (a.1, openS D' f n, D') → a.2 = (openS D' f n).abs → Live D' N → (D.fuse = -1 → D'.fuse = -1) → Gens D' f n (k + 1) → TakeR D f n N k m r := by
    intro D' h1 h2 h3 h4 h5
    rw [h1, ← ha]
    exact .done D' h3 (by rw [ha]; exact h2) h4 h5
  rw [hr]
  unfold StoM.take at hr
  unfold StA.take at ha
  by_cases c : (m.kind ≠ 10 ∧ m.kind ≠ 12) ∨ m.may = false
  · have c' : badK m := c
    rw [if_pos c] at hr
    rw [if_pos c'] at ha
    subst hr; subst ha
    exact fin D rfl rfl hL (fun h => h) hG.up1
  have c' : ¬ badK m := c
  rw [if_neg c] at hr
  rw [if_neg c'] at ha
  have hm : m.ok := MsgM.ok_of (by simp only [not_or, Bool.not_eq_false] at c; exact c.2)
  rcases raised_cz hL h0 hN hG hk (ep := m.epoch) hm.epoch with ⟨D1, e1, hL1, hA1, hf1, hg1, hc1⟩ | ⟨D1, e1, hlt, ⟨hH⟩, hf1⟩
  · rw [e1] at hr
    dsimp only at hr
    have hG1 : Gens D1 f n (k + 1) := fun z hz => by
      by_cases hz0 : z = 0
      · subst hz0; omega
      · rw [hc1 z hz0 hz]; have := hG z hz; omega
    have hep : (openS D1 f n).epoch = max (openS D f n).epoch m.epoch := congrArg StA.ep hA1
    by_cases c2 : m.epoch < (openS D f n).epoch
    · rw [if_pos (by omega)] at hr
      rw [if_pos (by exact c2)] at ha
      subst hr; subst ha
      refine fin D1 rfl ?_ hL1 hf1 hG1
      rw [hA1]; unfold StA.up
      dsimp only [StoM.abs]
      rw [show max (openS D f n).epoch m.epoch = (openS D f n).epoch by omega]
    rw [if_neg (by omega), if_neg (by decide)] at hr
    rw [if_neg (by exact c2)] at ha
    by_cases c3 : m.kind = 10
    · rw [if_pos c3] at hr ha
      rcases store_cz (m := m) (k := k) hn hL1 h0 hN (fun z h1 h2 => by rw [hc1 z h1 h2]; exact hG z h2) hk hm with ⟨D2, e2, hL2, hA2, hf2, hc2, hg2, h30⟩ | ⟨D2, e2, ⟨hH⟩, hf2⟩
      · rw [e2] at hr
        dsimp only at hr
        rw [if_neg h30] at hr
        rw [hA1] at hA2 hr
        subst hr; subst ha
        refine fin D2 rfl hA2 hL2 (fun h => hf2 (hf1 h)) fun z hz => ?_
        by_cases hz0 : z = 0
        · subst hz0; rw [hc2]; omega
        · exact hg2 z hz0 hz
      · rw [e2] at hr
        dsimp only at hr
        rw [if_pos rfl] at hr
        subst hr
        exact .died D2 D1 hH hG1 (fun h => hf2 (hf1 h)) (by omega) (by omega) (by omega)
    · rw [if_neg c3] at hr ha
      have hb : (openS D1 f n).getB m.block = (openS D f n).getB m.block := by rw [abs_getB, hA1]; rfl
      have htb : (openS D1 f n).tab = (openS D f n).tab := congrArg StA.tab hA1
      by_cases c4 : 0 ≤ m.block ∧ inN (openS D f n).bs.length m.block = false
      · rw [if_pos c4] at hr
        rw [if_pos (by exact c4)] at ha
        subst hr; subst ha
        exact fin D1 rfl hA1.symm hL1 hf1 hG1
      · rw [if_neg c4, hb, htb] at hr
        rw [if_neg (by exact c4)] at ha
        subst hr; subst ha
        exact fin D1 rfl hA1.symm hL1 hf1 hG1
  · rw [e1] at hr
    dsimp only at hr
    rw [if_neg (by omega), if_pos (by decide), if_pos rfl] at hr
    subst hr
    exact .died D1 D hH hG.up1 hf1 (Int.le_refl _) (by omega) (by omega)
end
end Go.Sl
namespace Go.Sl
set_option linter.unusedSimpArgs false
def verLe (a b : BlkM) : Prop := a.v0 < b.v0 ∨ (a.v0 = b.v0 ∧ a.v1 ≤ b.v1)
structure StA.le (A B : StA) : Prop where
  ep : A.ep ≤ B.ep
  n : A.bs.length = B.bs.length
  v : ∀ i, verLe (A.getB i) (B.getB i)
theorem verLe.refl (a : BlkM) : verLe a a := .inr ⟨rfl, Int.le_refl _⟩
theorem verLe.trans {a b c : BlkM} (h : verLe a b) (h2 : verLe b c) : verLe a c := by unfold verLe at *; omega
theorem StA.le.refl (A : StA) : A.le A := ⟨Int.le_refl _, rfl, fun _ => .refl _⟩
theorem StA.le.trans {A B C : StA} (h : A.le B) (h2 : B.le C) : A.le C := ⟨Int.le_trans h.ep h2.ep, h.n.trans h2.n, fun i => (h.v i).trans (h2.v i)⟩
/-- What a message does. -/
inductive TakeA (A : StA) (m : MsgM) : (MsgM × Bool) → StA → Prop where
  | bad (h : badK m) : TakeA A m (.zero, false) A
  | elder (hb : ¬ badK m) (h : m.epoch < A.ep) : TakeA A m (outM13 m 24 [] [], true) A
  | refused (hb : ¬ badK m) (h : A.ep ≤ m.epoch) (e : Int) (he : e = 2 ∨ e = 3) (hin : e = 3 → m.kind = 10 ∧ m.data.length ≠ 8) (h2 : e = 2 → inN A.bs.length m.block = false) : TakeA A m (outM13 m e [] [], true) (A.up m.epoch)
  | old (hb : ¬ badK m) (h : A.ep ≤ m.epoch) (hk : m.kind = 10) (ho : A.old m) (hin : inN A.bs.length m.block = true) : TakeA A m (outM13 m 0 [] [], true) (A.up m.epoch)
  | stored (hb : ¬ badK m) (h : A.ep ≤ m.epoch) (hk : m.kind = 10) (ho : ¬ A.old m) (hin : inN A.bs.length m.block = true) (hd : m.data.length = 8) : TakeA A m (outM13 m 0 [] [], true) ((A.up m.epoch).put m)
  | load (hb : ¬ badK m) (h : A.ep ≤ m.epoch) (hk : m.kind = 12) : TakeA A m (outM13 m 0 A.tab (A.getB m.block).data, true) (A.up m.epoch)
theorem takeA (A : StA) (m : MsgM) : TakeA A m (A.take m).1 (A.take m).2 := by
  unfold StA.take
  by_cases c : badK m
  · rw [if_pos c]; exact .bad c
  rw [if_neg c]
  by_cases c2 : m.epoch < A.ep
  · rw [if_pos c2]; exact .elder c c2
  rw [if_neg c2]
  by_cases c3 : m.kind = 10
  · rw [if_pos c3]
    unfold StA.store
    have e1 : (A.up m.epoch).bs = A.bs := rfl
    rw [e1]
    by_cases d1 : inN A.bs.length m.block = false
    · rw [if_pos d1]; exact .refused c (by omega) 2 (.inl rfl) (by omega) (fun _ => d1)
    rw [if_neg d1]
    by_cases d2 : (m.data.length : Int) ≠ 8
    · rw [if_pos d2]; exact .refused c (by omega) 3 (.inr rfl) (fun _ => ⟨c3, by omega⟩) (by omega)
    rw [if_neg d2]
    by_cases d3 : (A.up m.epoch).old m
    · rw [if_pos d3]; exact .old c (by omega) c3 d3 (by simpa using d1)
    · rw [if_neg d3]; exact .stored c (by omega) c3 d3 (by simpa using d1) (by omega)
  rw [if_neg c3]
  by_cases c4 : 0 ≤ m.block ∧ inN A.bs.length m.block = false
  · rw [if_pos c4]; exact .refused c (by omega) 2 (.inl rfl) (by omega) (fun _ => c4.2)
  · rw [if_neg c4]; exact .load c (by omega) (by unfold badK at c; omega)
/-- A message that was taken. -/
def StA.done (A : StA) (m : MsgM) : Prop := badK m ∨ m.epoch < A.ep ∨ (m.epoch = A.ep ∧ (m.kind = 10 → inN A.bs.length m.block = true → m.data.length = 8 → A.old m))
end Go.Sl
namespace Go.Sl
set_option linter.unusedSimpArgs false
structure SGood (ps : List Nat) (D : Dev) (n k : Nat) : Prop where
  live : Live D (2 + 2 * n)
  fuse : D.fuse = -1
  gens : Gens D 0 n k
  n32 : n ≤ 32
  ps : ps.length = n
def absS (D : Dev) (n : Nat) : StA := (openS D 0 n).abs
theorem SGood.ok {ps : List Nat} {D : Dev} {n k : Nat} (h : SGood ps D n k) : (openS D 0 n).ok D ps := openS_ok h.ps h.n32 h.live (by omega) (by omega)
theorem SGood.wf {ps : List Nat} {D : Dev} {n k : Nat} (h : SGood ps D n k) : (openS D 0 n).wf ps := h.ok.wf
theorem SGood.take {ps : List Nat} {D : Dev} {n k : Nat} (h : SGood ps D n k) (hk : k < 4611686018427387904) (m : MsgM) :
    ∃ D', (openS D 0 n).take D m = (((absS D n).take m).1, openS D' 0 n, D') ∧ SGood ps D' n (k + 1) ∧ absS D' n = ((absS D n).take m).2 := by
  have ht := take_cz h.n32 h.live (f := 0) (by omega) (by omega) h.gens hk m
  obtain ⟨r, hr⟩ : ∃ r, (openS D 0 n).take D m = r := ⟨_, rfl⟩
  rw [hr] at ht ⊢
  cases ht with
  | done D' hL hA hf hG => exact ⟨D', rfl, ⟨hL, hf h.fuse, hG, h.n32, h.ps⟩, hA.symm⟩
  | died D' Dp hH hG hf => exact absurd h.fuse hf
theorem cz_new {N z : Nat} (hz : 2 * z + 1 < N) : cz (Dev.new N) 0 z = CellM.init (0 + 2 * z) (0 + 2 * z + 1) := open_new (by omega) (by omega) (by omega) (by omega)
theorem tabTo_new {N : Nat} : ∀ n, 2 * n + 1 < N → tabTo (Dev.new N) 0 n = zeroT
  | 0, _ => rfl
  | n + 1, h => by
    unfold tabTo
    rw [cz_new h, tabTo_new n (by omega)]
    rfl
def newA (n : Nat) : StA := ⟨0, List.replicate n .zero, zeroT⟩
theorem absS_new (n : Nat) : absS (Dev.new (2 + 2 * n)) n = newA n := by
  unfold absS openS StoM.abs newA
  dsimp only
  rw [cz_new (z := 0) (by omega), tabTo_new n (by omega)]
  have e : (List.range n).map (fun i => blkOf (cz (Dev.new (2 + 2 * n)) 0 (i + 1)).text) = List.replicate n BlkM.zero := by
    apply List.ext_getElem?
    intro i
    by_cases hi : i < n
    · rw [List.getElem?_map, List.getElem?_range hi, List.getElem?_replicate, if_pos hi]
      show some (blkOf (cz (Dev.new (2 + 2 * n)) 0 (i + 1)).text) = _
      rw [cz_new (by omega)]
      rfl
    · rw [List.getElem?_eq_none (by simp; omega), List.getElem?_eq_none (by simp; omega)]
  rw [e]
  rfl
theorem new_good {n : Nat} {ps : List Nat} (hn : n ≤ 32) (hp : ps.length = n) : SGood ps (Dev.new (2 + 2 * n)) n 0 := by
  have hU := new_up (n := 2 + 2 * n) (by omega)
  refine ⟨⟨hU.ok, hU.len, hU.live, rfl⟩, rfl, fun z hz => ?_, hn, hp⟩
  rw [cz_new (by omega)]
  exact Int.le_refl _
end Go.Sl
namespace Go.Sl
set_option linter.unusedSimpArgs false
inductive FenI (S : StoM) (D : Dev) (n k : Nat) : Prop where
  | live (hL : Live D (2 + 2 * n)) (hS : S = openS D 0 n) (hG : Gens D 0 n k)
  | half (Dp : Dev) (hH : HalfS D Dp 0 n (2 + 2 * n)) (hS : S = openS Dp 0 n) (hG : Gens Dp 0 n k)
theorem FenI.up1 {S : StoM} {D : Dev} {n k : Nat} (h : FenI S D n k) : FenI S D n (k + 1) := by
  cases h with
  | live hL hS hG => exact .live hL hS hG.up1
  | half Dp hH hS hG => exact .half Dp hH hS hG.up1
theorem FenI.ok {S : StoM} {D : Dev} {n k : Nat} {ps : List Nat} (h : FenI S D n k) (hn : n ≤ 32) (hp : ps.length = n) : S.ok D ps ∧ D.l.length = 2 + 2 * n := by
  cases h with
  | live hL hS hG => rw [hS]; exact ⟨openS_ok hp hn hL (by omega) (by omega), hL.len⟩
  | half Dp hH hS hG => rw [hS]; exact ⟨openS_ok' hp hn hH.live (by omega) (by omega) hH.half.l hH.half.ok, by rw [hH.half.l]; exact hH.live.len⟩
structure FenStep (S : StoM) (m : MsgM) (a : MsgM × Bool) (S' : StoM) : Prop where
  elder : m.epoch < S.epoch → (a.2 = true → a.1.e = 24) ∧ S'.getB m.block = S.getB m.block
  not24 : S.epoch ≤ m.epoch → a.2 = true → a.1.e ≠ 24
  up : a.2 = true → a.1.e = 0 → m.epoch ≤ S'.epoch
  mono : S.epoch ≤ S'.epoch
theorem abs_step {S S' : StoM} {m : MsgM} (h : (S.abs.take m).2 = S'.abs) : FenStep S m (S.abs.take m).1 S' := by
  have ht := takeA S.abs m
  rw [h] at ht
  have hb : ∀ T : StoM, T.getB m.block = T.abs.getB m.block := fun _ => rfl
  generalize hA : S'.abs = B at *
  have hep : S'.epoch = B.ep := by rw [← hA]; rfl
  have hB := hb S'
  rw [hA] at hB
  have e0 : S.epoch = S.abs.ep := rfl
  have oe : ∀ (e : Int) (t : List Int) (d : Bytes), (outM13 m e t d).e = e := fun _ _ _ => rfl
  generalize (S.abs.take m).1 = a at *
  cases ht with
  | bad hb => exact ⟨fun _ => ⟨fun h => (by cases h), by rw [hB]; rfl⟩, fun _ h => (by cases h), fun h => (by cases h), by rw [hep, e0]; exact Int.le_refl _⟩
  | elder hb hlt => exact ⟨fun _ => ⟨fun _ => rfl, by rw [hB]; rfl⟩, fun h => by omega, fun _ h => by simp [oe] at h, by rw [hep, e0]; exact Int.le_refl _⟩
  | refused hb hle e he hin h2 =>
    have : (S.abs.up m.epoch).ep = max S.abs.ep m.epoch := rfl
    exact ⟨fun h => by omega, fun _ _ => by rw [oe]; omega, fun _ h => by rw [oe] at h; omega, by omega⟩
  | old hb hle hk ho hin =>
    have : (S.abs.up m.epoch).ep = max S.abs.ep m.epoch := rfl
    exact ⟨fun h => by omega, fun _ _ => by rw [oe]; omega, fun _ h => by omega, by omega⟩
  | stored hb hle hk ho hin hd =>
    have : ((S.abs.up m.epoch).put m).ep = max S.abs.ep m.epoch := rfl
    exact ⟨fun h => by omega, fun _ _ => by rw [oe]; omega, fun _ h => by omega, by omega⟩
  | load hb hle hk =>
    have : (S.abs.up m.epoch).ep = max S.abs.ep m.epoch := rfl
    exact ⟨fun h => by omega, fun _ _ => by rw [oe]; omega, fun _ h => by omega, by omega⟩
theorem none_step {S S' : StoM} {m : MsgM} (h : S.epoch ≤ S'.epoch) (h2 : m.epoch < S.epoch → False) : FenStep S m (.zero, false) S' :=
  ⟨fun h => (h2 h).elim, fun _ h => (by cases h), fun h => (by cases h), h⟩
/-- A dead device: nothing is changed. -/
theorem take_dead {Dp D : Dev} {n k : Nat} (hH : HalfS D Dp 0 n (2 + 2 * n)) (hG : Gens Dp 0 n k) (hk : k < 4611686018427387904) (m : MsgM) :
    ∃ a, (openS Dp 0 n).take D m = (a, openS Dp 0 n, D) ∧ FenStep (openS Dp 0 n) m a (openS Dp 0 n) := by
  obtain ⟨S, hS⟩ : ∃ S, openS Dp 0 n = S := ⟨_, rfl⟩
  have hdead := hH.half.dead
  have hg0 := hG 0 (by omega)
  have htok : S.tok = cz Dp 0 0 := by rw [← hS]; rfl
  have hbl : S.bs.length = n := by rw [← hS]; exact openS_bs
  rw [hS]
  have oe : ∀ (e : Int) (t : List Int) (d : Bytes), (outM13 m e t d).e = e := fun _ _ _ => rfl
  unfold StoM.take
  by_cases c : (m.kind ≠ 10 ∧ m.kind ≠ 12) ∨ m.may = false
  · rw [if_pos c]; exact ⟨_, rfl, ⟨fun _ => ⟨fun h => (by cases h), rfl⟩, fun _ h => (by cases h), fun h => (by cases h), Int.le_refl _⟩⟩
  rw [if_neg c]
  have hm : m.ok := MsgM.ok_of (by simp only [not_or, Bool.not_eq_false] at c; exact c.2)
  by_cases hle : m.epoch ≤ S.epoch
  · have hr : S.raised D m.epoch = (0, S, D) := by unfold StoM.raised; rw [if_pos hle]
    rw [hr]
    dsimp only
    by_cases c2 : m.epoch < S.epoch
    · rw [if_pos c2]; exact ⟨_, rfl, ⟨fun _ => ⟨fun _ => rfl, rfl⟩, fun h => by omega, fun _ h => by simp [oe] at h, Int.le_refl _⟩⟩
    rw [if_neg c2, if_neg (by decide)]
    have ans : ∀ e t d, e ≠ 24 → FenStep S m (outM13 m e t d, true) S := fun e t d h24 => ⟨fun h => by omega, fun _ _ => by rw [oe]; exact h24, fun _ _ => by omega, Int.le_refl _⟩
    by_cases c3 : m.kind = 10
    · rw [if_pos c3]
      unfold StoM.store
      by_cases d1 : inN S.bs.length m.block = false
      · rw [if_pos d1]; dsimp only; rw [if_neg (by decide)]; exact ⟨_, rfl, ans _ _ _ (by decide)⟩
      rw [if_neg d1]
      by_cases d2 : (m.data.length : Int) ≠ 8
      · rw [if_pos d2]; dsimp only; rw [if_neg (by decide)]; exact ⟨_, rfl, ans _ _ _ (by decide)⟩
      rw [if_neg d2]
      by_cases d3 : m.epoch < (S.getB m.block).v0 ∨ (m.epoch = (S.getB m.block).v0 ∧ m.seq ≤ (S.getB m.block).v1)
      · rw [if_pos d3]; dsimp only; rw [if_neg (by decide)]; exact ⟨_, rfl, ans _ _ _ (by decide)⟩
      rw [if_neg d3]
      have hin : inN n m.block = true := by rw [hbl] at d1; simpa using d1
      obtain ⟨i0, i1⟩ := inN_iff.1 hin
      have hT := tabTo_ok Dp 0 n
      have htab : S.tab = tabTo Dp 0 n := by rw [← hS]; rfl
      have hTu : TabOk (tabUp S.tab m) := by rw [htab]; exact ⟨tabUp_len hT.len m, tabUp_ok hT.len hT.all hm⟩
      have hlen := blk_len (v0 := m.epoch) (v1 := m.seq) (d := m.data) hm.epoch hm.seq hTu.len hTu.all (by omega)
      have hcell : S.cell m.block = cz Dp 0 (m.block.toNat + 1) := by rw [← hS]; exact openS_cell hin
      have hgz := hG (m.block.toNat + 1) (by omega)
      have hput := put_dead (C := cz Dp 0 (m.block.toNat + 1)) hdead hlen (by omega)
      rw [hcell, hput]
      dsimp only
      rw [if_pos rfl, if_neg (by decide), if_neg (by decide)]
      have hset : S.cs.set m.block.toNat (cz Dp 0 (m.block.toNat + 1)) = S.cs := by
        refine set_same ?_
        rw [← hS]
        show ((List.range n).map _)[_]? = _
        rw [List.getElem?_map, List.getElem?_range (by omega)]; rfl
      rw [hset]
      exact ⟨_, rfl, none_step (Int.le_refl _) c2⟩
    rw [if_neg c3]
    split
    · exact ⟨_, rfl, ans _ _ _ (by decide)⟩
    · exact ⟨_, rfl, ans _ _ _ (by decide)⟩
  · have hput := put_dead (C := cz Dp 0 0) hdead (tok_len hm.epoch) (by omega)
    have hr : S.raised D m.epoch = (30, S, D) := by
      unfold StoM.raised
      rw [if_neg hle, htok, hput]
      dsimp only
      rw [if_neg (by decide), ← htok]
    rw [hr]
    dsimp only
    rw [if_neg (by omega), if_pos (by decide), if_pos rfl]
    exact ⟨_, rfl, none_step (Int.le_refl _) (by omega)⟩
theorem FenI.take {S : StoM} {D : Dev} {n k : Nat} (h : FenI S D n k) (hn : n ≤ 32) (hk : k < 4611686018427387904) (m : MsgM) {r : (MsgM × Bool) × StoM × Dev} (hr : S.take D m = r) : FenI r.2.1 r.2.2 n (k + 1) ∧ FenStep S m r.1 r.2.1 := by
  cases h with
  | live hL hS hG =>
    subst hS
    have ht := take_cz hn hL (f := 0) (by omega) (by omega) hG hk m
    rw [hr] at ht
    cases ht with
    | done D' hL' hA hf hG' => exact ⟨.live hL' rfl hG', abs_step hA⟩
    | died D' Dp hH hG' hf he hek hb => exact ⟨.half Dp hH rfl hG', none_step he hb⟩
  | half Dp hH hS hG =>
    subst hS
    obtain ⟨a, h1, h2⟩ := take_dead hH hG hk m
    rw [h1] at hr
    subst hr
    exact ⟨.half Dp hH rfl hG.up1, h2⟩
theorem openS_same {D D' : Dev} {n : Nat} (h : ∀ z : Nat, z ≤ n → cz D' 0 z = cz D 0 z) : openS D' 0 n = openS D 0 n := by
  unfold openS
  rw [h 0 (by omega), tabTo_same fun y hy => h (y + 1) (by omega)]
  have e1 : (List.range n).map (fun i => cz D' 0 (i + 1)) = (List.range n).map (fun i => cz D 0 (i + 1)) := List.map_congr_left fun i hi => h _ (by have := List.mem_range.1 hi; omega)
  have e2 : (List.range n).map (fun i => blkOf (cz D' 0 (i + 1)).text) = (List.range n).map (fun i => blkOf (cz D 0 (i + 1)).text) := List.map_congr_left fun i hi => by rw [h _ (by have := List.mem_range.1 hi; omega)]
  rw [e1, e2]
theorem FenI.crash {S : StoM} {D : Dev} {n k : Nat} (h : FenI S D n k) (hk : k < 4611686018427387904) {ks : Keeps} (hks : ∀ x ∈ ks, x.1 ≠ 2) : Live (D.crash ks) (2 + 2 * n) ∧ Gens (D.crash ks) 0 n (k + 1) ∧ S.epoch ≤ (openS (D.crash ks) 0 n).epoch := by
  cases h with
  | live hL hS hG =>
    obtain ⟨h1, h2⟩ := live_crash hL ks
    have hc : ∀ z : Nat, cz (D.crash ks) 0 z = cz D 0 z := fun z => cz_all h2
    refine ⟨h1, fun z hz => by rw [hc]; have := hG z hz; omega, ?_⟩
    rw [hS, openS_same fun z _ => hc z]
    exact Int.le_refl _
  | half Dp hH hS hG =>
    obtain ⟨h1, h2, h3⟩ := half_crash hH.half hks
    have hzn := hH.zn
    have hCk := (cz_ok (z := hH.z) hH.live (f := 0) (by omega) (by omega)).2
    have hgz := hG hH.z hzn
    have hz := half_cell (a := 0 + 2 * hH.z) (b := 0 + 2 * hH.z + 1) hH.half hks hCk hH.len (by show (cz Dp 0 hH.z).gen < _; omega)
    have hz' : cz (D.crash ks) 0 hH.z = cz Dp 0 hH.z ∨ cz (D.crash ks) 0 hH.z = (cz Dp 0 hH.z).next hH.s := hz
    have ho : ∀ y : Nat, y ≠ hH.z → y ≤ n → cz (D.crash ks) 0 y = cz Dp 0 y := by
      intro y hy hyn
      refine cz_same (N := 2 + 2 * n) (by omega) (by omega) ?_ h2
      rcases cz_other Dp 0 hH.z with e | e <;> rw [e] <;> omega
    refine ⟨h1, fun y hy => ?_, ?_⟩
    · by_cases e : y = hH.z
      · rw [e]
        rcases hz' with e2 | e2
        · rw [e2]; omega
        · rw [e2]; show (cz Dp 0 hH.z).gen + 1 ≤ _; omega
      · rw [ho y e hy]; have := hG y hy; omega
    · rw [hS]
      show tokOf (cz Dp 0 0).text ≤ tokOf (cz (D.crash ks) 0 0).text
      by_cases e : hH.z = 0
      · rw [e] at hz'
        rcases hz' with e2 | e2
        · rw [e2]; exact Int.le_refl _
        · obtain ⟨ep, he, hs, hlt⟩ := hH.tok e
          rw [e2]
          show _ ≤ tokOf hH.s
          rw [hs, tok_tokOf he]
          have : tokOf (cz Dp 0 0).text < ep := hlt
          omega
      · rw [ho 0 (Ne.symm e) (by omega)]; exact Int.le_refl _
theorem FenI.fuse {S : StoM} {D : Dev} {n k : Nat} (h : FenI S D n k) {x : Int} (hx : x ≤ 9223372036854775807) : FenI S (D.setFuse x) n k := by
  cases h with
  | live hL hS hG => 
    have hc : ∀ z : Nat, cz (D.setFuse x) 0 z = cz D 0 z := fun z => cz_all fun j => rfl
    exact .live ⟨Dev.setFuse_ok hL.ok hx, hL.len, hL.live, hL.es⟩ (hS.trans (openS_same fun z _ => hc z).symm) (fun z hz => by rw [hc]; exact hG z hz)
  | half Dp hH hS hG => exact .half Dp ⟨hH.z, hH.s, hH.zn, hH.len, hH.live, ⟨hH.half.live, Dev.setFuse_ok hH.half.ok hx, hH.half.l, hH.half.dead, hH.half.es, hH.half.o⟩, hH.tok⟩ hS hG
theorem FenI.new {n : Nat} (hn : n ≤ 32) : FenI (openS (Dev.new (2 + 2 * n)) 0 n) (Dev.new (2 + 2 * n)) n 0 := by
  have h := new_good (ps := List.replicate n 0) hn (by simp)
  exact .live h.live rfl h.gens
theorem ActB.ok.one [Env] {R : List Seg} {a : ActB} (h : a.ok R) : ∀ u ∈ a.cells, u.oneCell' = true := by
  intro u hu
  have hk : a.kv.oneCell' = true := by
    obtain ⟨b, c, e⟩ := h.keeps.lenVal
    rw [e]; rfl
  unfold ActB.cells at hu
  simp only [List.mem_append, List.mem_cons, List.not_mem_nil, or_false] at hu
  rcases hu with ((rfl | rfl) | hu) | (rfl | rfl)
  · rfl
  · rfl
  · exact msg_one _ u hu
  · rfl
  · exact hk
end Go.Sl
