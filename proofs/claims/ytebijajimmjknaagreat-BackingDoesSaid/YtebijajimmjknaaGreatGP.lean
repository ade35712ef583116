/- A part of the proof: contracts and plain lemmas, each without conditions beyond those that it names. -/
import Derived.Test.YtebijajimmjknaaGreatGJ
import Derived.Test.YtebijajimmjknaaGreatCelH
set_option linter.unusedVariables false
set_option linter.unusedSimpArgs false
set_option linter.constructorNameAsVariable false
namespace Go.Sl
set_option linter.unusedSimpArgs false
def StoM.raisedR (S : StoM) (E : RDev) (ep : Int) : Int × StoM × RDev :=
  if ep ≤ S.epoch then (0, S, E) else
  let p := S.tok.putR E (recB (tokR ep))
  (p.1, { S with tok := p.2.1, epoch := if p.1 = 0 then ep else S.epoch }, p.2.2)
def StoM.storeR (S : StoM) (E : RDev) (m : MsgM) : Int × StoM × RDev :=
  if inN S.bs.length m.block = false then (2, S, E) else if (m.data.length : Int) ≠ 8 then (3, S, E) else
  if m.epoch < (S.getB m.block).v0 ∨ (m.epoch = (S.getB m.block).v0 ∧ m.seq ≤ (S.getB m.block).v1) then (0, S, E) else
  let p := (S.cell m.block).putR E (recB (blkR m.epoch m.seq (tabUp S.tab m) m.data))
  (p.1, { S with cs := S.cs.set m.block.toNat p.2.1, bs := if p.1 = 0 then S.bs.set m.block.toNat ⟨m.epoch, m.seq, m.data⟩ else S.bs, tab := if p.1 = 0 then tabUp S.tab m else S.tab }, p.2.2)
def StoM.takeR (S : StoM) (E : RDev) (m : MsgM) : (MsgM × Bool) × StoM × RDev :=
  if (m.kind ≠ 10 ∧ m.kind ≠ 12) ∨ m.may = false then ((.zero, false), S, E) else
  let r := S.raisedR E m.epoch
  if m.epoch < r.2.1.epoch then ((outM13 m 24 [] [], true), r.2) else
  if r.1 ≠ 0 then (if r.1 = 30 then ((.zero, false), r.2) else ((outM13 m r.1 [] [], true), r.2)) else
  if m.kind = 10 then
    let q := r.2.1.storeR r.2.2 m
    if q.1 = 30 then ((.zero, false), q.2) else ((outM13 m q.1 [] [], true), q.2)
  else if 0 ≤ m.block ∧ inN S.bs.length m.block = false then ((outM13 m 2 [] [], true), r.2)
  else ((outM13 m 0 r.2.1.tab (r.2.1.getB m.block).data, true), r.2)
structure SameS (a : Int × StoM × Dev) (b : Int × StoM × RDev) : Prop where
  e : a.1 = b.1
  s : a.2.1 = b.2.1
  r : Rel a.2.2 b.2.2
theorem StoM.raisedR_rel {D : Dev} {E : RDev} (h : Rel D E) (S : StoM) (ep : Int) : SameS (S.raised D ep) (S.raisedR E ep) := by
  unfold StoM.raised StoM.raisedR
  by_cases c : ep ≤ S.epoch
  · rw [if_pos c, if_pos c]; exact ⟨rfl, rfl, h⟩
  rw [if_neg c, if_neg c]
  obtain ⟨h1, h2, h3⟩ := putR_rel (C := S.tok) h (recB (tokR ep))
  dsimp only
  exact ⟨h1, by rw [h1, h2], h3⟩
theorem StoM.storeR_rel {D : Dev} {E : RDev} (h : Rel D E) (S : StoM) (m : MsgM) : SameS (S.store D m) (S.storeR E m) := by
  unfold StoM.store StoM.storeR
  by_cases c1 : inN S.bs.length m.block = false
  · rw [if_pos c1, if_pos c1]; exact ⟨rfl, rfl, h⟩
  rw [if_neg c1, if_neg c1]
  by_cases c2 : (m.data.length : Int) ≠ 8
  · rw [if_pos c2, if_pos c2]; exact ⟨rfl, rfl, h⟩
  rw [if_neg c2, if_neg c2]
  by_cases c3 : m.epoch < (S.getB m.block).v0 ∨ (m.epoch = (S.getB m.block).v0 ∧ m.seq ≤ (S.getB m.block).v1)
  · rw [if_pos c3, if_pos c3]; exact ⟨rfl, rfl, h⟩
  rw [if_neg c3, if_neg c3]
  obtain ⟨h1, h2, h3⟩ := putR_rel (C := S.cell m.block) h (recB (blkR m.epoch m.seq (tabUp S.tab m) m.data))
  dsimp only
  exact ⟨h1, by rw [h1, h2], h3⟩
theorem StoM.takeR_rel {D : Dev} {E : RDev} (h : Rel D E) (S : StoM) (m : MsgM) : (S.take D m).1 = (S.takeR E m).1 ∧ (S.take D m).2.1 = (S.takeR E m).2.1 ∧ Rel (S.take D m).2.2 (S.takeR E m).2.2 := by
  unfold StoM.take StoM.takeR
  by_cases c1 : (m.kind ≠ 10 ∧ m.kind ≠ 12) ∨ m.may = false
  · rw [if_pos c1, if_pos c1]; exact ⟨rfl, rfl, h⟩
  rw [if_neg c1, if_neg c1]
  have hr := StoM.raisedR_rel h S m.epoch
  generalize S.raised D m.epoch = a at *
  generalize S.raisedR E m.epoch = b at *
  obtain ⟨e1, s1, d1⟩ := a
  obtain ⟨e2, s2, d2⟩ := b
  obtain ⟨h1, h2, h3⟩ := hr
  dsimp only at h1 h2 h3 ⊢
  subst h1; subst h2
  by_cases c2 : m.epoch < s1.epoch
  · rw [if_pos c2, if_pos c2]; exact ⟨rfl, rfl, h3⟩
  rw [if_neg c2, if_neg c2]
  by_cases c3 : e1 ≠ 0
  · rw [if_pos c3, if_pos c3]
    by_cases c4 : e1 = 30
    · rw [if_pos c4, if_pos c4]; exact ⟨rfl, rfl, h3⟩
    · rw [if_neg c4, if_neg c4]; exact ⟨rfl, rfl, h3⟩
  rw [if_neg c3, if_neg c3]
  by_cases c5 : m.kind = 10
  · rw [if_pos c5, if_pos c5]
    have hs := StoM.storeR_rel h3 s1 m
    rw [← hs.e]
    by_cases c6 : (s1.store d1 m).1 = 30
    · rw [if_pos c6, if_pos c6]; exact ⟨rfl, hs.s, hs.r⟩
    · rw [if_neg c6, if_neg c6]; exact ⟨rfl, hs.s, hs.r⟩
  rw [if_neg c5, if_neg c5]
  by_cases c7 : 0 ≤ m.block ∧ inN S.bs.length m.block = false
  · rw [if_pos c7, if_pos c7]; exact ⟨rfl, rfl, h3⟩
  · rw [if_neg c7, if_neg c7]; exact ⟨rfl, rfl, h3⟩
end Go.Sl
namespace Go.Sl
set_option linter.unusedSimpArgs false
def zipR (ps : List Nat) (bs : List BlkM) : List RowM := List.zipWith (fun p b => ⟨.pointer (some ⟨p, 0, none⟩), b⟩) ps bs
theorem zipR_len {ps : List Nat} {bs : List BlkM} (h : ps.length = bs.length) : (zipR ps bs).length = bs.length := by simp [zipR, h]
theorem zipR_get {ps : List Nat} {bs : List BlkM} {i p : Nat} {b : BlkM} (h1 : ps[i]? = some p) (h2 : bs[i]? = some b) : (zipR ps bs)[i]? = some ⟨.pointer (some ⟨p, 0, none⟩), b⟩ := by
  unfold zipR
  rw [List.getElem?_zipWith, h1, h2]
theorem zipR_set {ps : List Nat} {bs : List BlkM} {i p : Nat} {b : BlkM} (hp : ps[i]? = some p) (hi : i < bs.length) : (zipR ps bs).set i ⟨.pointer (some ⟨p, 0, none⟩), b⟩ = zipR ps (bs.set i b) := by
  obtain ⟨hip, _⟩ := List.getElem?_eq_some_iff.1 hp
  unfold zipR
  apply List.ext_getElem?
  intro j
  rw [List.getElem?_set]
  by_cases hj : i = j
  · subst hj
    rw [if_pos rfl, List.getElem?_zipWith, hp, List.getElem?_set_self hi, if_pos (by simp; omega)]
  · rw [if_neg hj, List.getElem?_zipWith, List.getElem?_zipWith, List.getElem?_set_ne hj]
theorem zipR_snoc {ps : List Nat} {bs : List BlkM} {p : Nat} {b : BlkM} (h : ps.length = bs.length) : zipR (ps ++ [p]) (bs ++ [b]) = zipR ps bs ++ [⟨.pointer (some ⟨p, 0, none⟩), b⟩] := by
  unfold zipR
  rw [List.zipWith_append h]; rfl
theorem rowsV_app (a b : List RowM) : rowsV (a ++ b) = rowsV a ++ rowsV b := by simp [rowsV]
theorem zip_at {rows : List RowM} {sp : List Value} {i r : Nat} {x : RowM} (h : rows[i]? = some x) (hr : r < 4) : (rowsV rows ++ sp)[i * 4 + r]? = x.cells[r]? := by
  have hi := (List.getElem?_eq_some_iff.1 h).1
  rw [List.getElem?_append_left (by rw [rowsV_len]; omega)]
  exact rowsV_get h hr
theorem zip_ver {rows : List RowM} {sp : List Value} {i : Nat} {x : RowM} (h : rows[i]? = some x) : ((rowsV rows ++ sp).drop (i * 4 + 1)).take 2 = [.int .i64 x.b.v0, .int .i64 x.b.v1] :=
  take_two (by rw [zip_at h (by decide)]; rfl) (by rw [Nat.add_assoc, zip_at h (by decide)]; rfl)
theorem zip_set {rows : List RowM} {sp : List Value} {i r : Nat} {x y : RowM} {u : Value} (h : rows[i]? = some x) (hr : r < 4) (hy : y.cells = x.cells.take r ++ [u] ++ x.cells.drop (r + 1)) : (rowsV rows ++ sp).set (i * 4 + r) u = rowsV (rows.set i y) ++ sp := by
  have hi := (List.getElem?_eq_some_iff.1 h).1
  rw [List.set_append_left _ _ (by rw [rowsV_len]; omega), rowsV_set h hr hy]
theorem zip_setN {rows : List RowM} {sp : List Value} {i r : Nat} {x y : RowM} {us : List Value} (h : rows[i]? = some x) (hr : r + us.length ≤ 4) (hy : y.cells = x.cells.take r ++ us ++ x.cells.drop (r + us.length)) :
    (rowsV rows ++ sp).take (i * 4 + r) ++ us ++ (rowsV rows ++ sp).drop (i * 4 + r + us.length) = rowsV (rows.set i y) ++ sp := by
  have hi := (List.getElem?_eq_some_iff.1 h).1
  have hl := rowsV_len rows
  rw [← rowsV_setN h hr hy, List.take_append_of_le_length (by omega), List.drop_append_of_le_length (by omega)]
  simp only [List.append_assoc]
def tabAt (t : List Int) (m : MsgM) (k : Nat) : Int := if m.client = k ∧ max (t.getD k 0) ((msgT m).getD k 0) < m.n then m.n else max (t.getD k 0) ((msgT m).getD k 0)
theorem tabUp_at {t : List Int} (ht : t.length = 4) {m : MsgM} (hc : -1 ≤ m.client ∧ m.client ≤ 3) {k : Nat} (hk : k < 4) : (tabUp t m).getD k 0 = tabAt t m k := by
  have hl := maxT_len ht (msgT_len m)
  unfold tabUp tabAt
  rw [← maxT_getD ht (msgT_len m) hk]
  by_cases h0 : 0 ≤ m.client
  · rw [if_pos h0]
    by_cases hj : m.client.toNat = k
    · subst hj
      rw [List.getD_eq_getElem?_getD, List.getElem?_set_self (by omega), Option.getD_some]
      split <;> omega
    · rw [List.getD_eq_getElem?_getD, List.getElem?_set_ne hj, ← List.getD_eq_getElem?_getD, if_neg (by omega)]
  · rw [if_neg h0, if_neg (by omega)]
def tabUpTo (t : List Int) (m : MsgM) (k : Nat) : List Int := (tabUp t m).take k ++ t.drop k
theorem tabUpTo_zero (t : List Int) (m : MsgM) : tabUpTo t m 0 = t := by simp [tabUpTo]
theorem tabUpTo_all {t : List Int} (ht : t.length = 4) (m : MsgM) : tabUpTo t m 4 = tabUp t m := by
  unfold tabUpTo
  rw [List.take_of_length_le (by rw [tabUp_len ht]; omega), List.drop_of_length_le (by omega), List.append_nil]
theorem tabUpTo_len {t : List Int} (ht : t.length = 4) (m : MsgM) {k : Nat} (hk : k ≤ 4) : (tabUpTo t m k).length = 4 := by
  unfold tabUpTo
  rw [List.length_append, List.length_take, tabUp_len ht, List.length_drop]; omega
theorem tabUpTo_get {t : List Int} (ht : t.length = 4) (m : MsgM) {k : Nat} (hk : k < 4) : (tabUpTo t m k)[k]? = some (t.getD k 0) := by
  unfold tabUpTo
  rw [List.getElem?_append_right (by rw [List.length_take, tabUp_len ht]; omega), List.length_take, tabUp_len ht, List.getElem?_drop]
  rw [show k + (k - min k 4) = k by omega]
  exact getd_get (by omega)
theorem tabUpTo_set {t : List Int} (ht : t.length = 4) {m : MsgM} (hc : -1 ≤ m.client ∧ m.client ≤ 3) {k : Nat} (hk : k < 4) : (tabUpTo t m k).set k (tabAt t m k) = tabUpTo t m (k + 1) := by
  have hu := tabUp_len ht m
  have hg : (tabUp t m)[k]? = some (tabAt t m k) := by rw [← tabUp_at ht hc hk]; exact getd_get (by omega)
  apply List.ext_getElem?
  intro j
  unfold tabUpTo
  rw [List.getElem?_set]
  by_cases hj : k = j
  · subst hj
    rw [if_pos rfl, if_pos (by simp; omega), List.getElem?_append_left (by simp; omega), List.getElem?_take, if_pos (by omega), hg]
  · rw [if_neg hj]
    rcases Nat.lt_or_ge j k with h | h
    · rw [List.getElem?_append_left (by simp; omega), List.getElem?_append_left (by simp; omega), List.getElem?_take, List.getElem?_take, if_pos h, if_pos (by omega)]
    · rw [List.getElem?_append_right (by simp; omega), List.getElem?_append_right (by simp; omega), List.getElem?_drop, List.getElem?_drop]
      simp only [List.length_take, hu]
      congr 1; omega
theorem maxTo_keep {t l : List Int} (ht : t.length = 4) (hl : l.length = 4) {k : Nat} (hk : k < 4) (h : l.getD k 0 ≤ t.getD k 0) : maxTo t l (k + 1) = maxTo t l k := by
  rw [← maxTo_set ht hl hk, show max (t.getD k 0) (l.getD k 0) = t.getD k 0 by omega]
  have hg := maxTo_get ht hl hk
  obtain ⟨h1, h2⟩ := List.getElem?_eq_some_iff.1 hg
  rw [← h2, List.set_getElem_self]
def numsOk (t : Bytes) (kd n tx : Int) : Bool := (readB t kd n tx).2 && (decide (tx = 0) || decide ((((decM t).1.texts.getD 0 []).length : Int) = 8))
theorem numsOk_tok (t : Bytes) : numsOk t 31 1 0 = (readB t 31 1 0).2 := by simp [numsOk]
theorem numsOk_blk (t : Bytes) : numsOk t 30 6 1 = blkOk t := by simp [numsOk, blkOk]
end Go.Sl
namespace Go.Sl
set_option linter.unusedSimpArgs false
theorem StoM.raised_l {S : StoM} {D : Dev} (ep : Int) : (S.raised D ep).2.2.l.length = D.l.length := by
  unfold StoM.raised; split
  · rfl
  · exact put_l
theorem StoM.store_l {S : StoM} {D : Dev} (m : MsgM) : (S.store D m).2.2.l.length = D.l.length := by
  unfold StoM.store; split
  · rfl
  · split
    · rfl
    · split
      · rfl
      · exact put_l
theorem StoM.take_l {S : StoM} {D : Dev} (m : MsgM) : (S.take D m).2.2.l.length = D.l.length := by
  have h1 := StoM.raised_l (S := S) (D := D) m.epoch
  unfold StoM.take
  split
  · rfl
  · dsimp only
    split
    · exact h1
    · split
      · split <;> exact h1
      · split
        · split <;> exact (StoM.store_l m).trans h1
        · split <;> exact h1
theorem StoM.store_bs {S : StoM} {D : Dev} (m : MsgM) : (S.store D m).2.1.bs.length = S.bs.length := by
  unfold StoM.store; split
  · rfl
  · split
    · rfl
    · split
      · rfl
      · dsimp only; split <;> simp
theorem StoM.raised_bs {S : StoM} {D : Dev} (ep : Int) : (S.raised D ep).2.1.bs.length = S.bs.length := by
  unfold StoM.raised; split <;> rfl
theorem StoM.take_bs {S : StoM} {D : Dev} (m : MsgM) : (S.take D m).2.1.bs.length = S.bs.length := by
  have h1 := StoM.raised_bs (S := S) (D := D) m.epoch
  unfold StoM.take
  split
  · rfl
  · dsimp only
    split
    · exact h1
    · split
      · split <;> exact h1
      · split
        · split <;> exact (StoM.store_bs m).trans h1
        · split <;> exact h1
theorem openS_any {D : Dev} {f : Int} {n : Nat} {ps : List Nat} (hD : D.ok) (hd : D.dead = false) (hn : n ≤ 32) (h0 : 0 ≤ f) (hf : f + 2 + 2 * n ≤ D.l.length) (hp : ps.length = n) : (openS D f n).ok D ps := by
  have hc : ∀ z : Nat, z ≤ n → (cz D f z).ok D.l.length := fun z hz => (openC_ok (openE_ok (by omega) (by omega) (by omega) (by rw [hd]; decide))).1
  refine ⟨openS_wf hp hn, hc 0 (by omega), fun C hC => ?_, tokOf_in _, (tabTo_ok D f n).all, hD⟩
  obtain ⟨i, hi, rfl⟩ := List.mem_map.1 hC
  have := List.mem_range.1 hi
  exact hc (i + 1) (by omega)
theorem openS_n (D : Dev) (f : Int) (n : Nat) : (openS D f n).bs.length = n := by simp [openS]
/-- What stands about two stores. -/
structure StoK (S : StoM) (N : Nat) : Prop where
  lc : S.cs.length = S.bs.length
  n : S.bs.length ≤ 32
  tl : S.tab.length = 4
  tok : S.tok.ok N
  cs : ∀ C ∈ S.cs, C.ok N
  ep : inM63 S.epoch
  tab : ∀ x ∈ S.tab, inM63 x
theorem StoK.ok {S : StoM} {N : Nat} (h : StoK S N) {D : Dev} (hD : D.ok) (hl : D.l.length = N) {ps : List Nat} (hp : ps.length = S.bs.length) : S.ok D ps :=
  ⟨⟨hp, h.lc, h.n, h.tl⟩, by rw [hl]; exact h.tok, by rw [hl]; exact h.cs, h.ep, h.tab, hD⟩
theorem StoK.of {S : StoM} {N : Nat} {D : Dev} {ps : List Nat} (h : S.ok D ps) (hl : D.l.length = N) : StoK S N :=
  ⟨h.wf.lc, h.wf.n, h.wf.tab, by rw [← hl]; exact h.tok, by rw [← hl]; exact h.cs, h.ep, h.tab⟩
end Go.Sl
