/- A part of the proof: contracts and plain lemmas, each without conditions beyond those that it names. -/
import Derived.Test.YtnedokioglfipaaCodB
set_option linter.unusedVariables false
set_option linter.unusedSimpArgs false
set_option linter.constructorNameAsVariable false
namespace Go.Sl
set_option linter.unusedSimpArgs false
def strsV (ts : List Bytes) : List Value := ts.map fun t => .string ⟨t.toArray⟩
@[simp] theorem strsV_length (ts : List Bytes) : (strsV ts).length = ts.length := by simp [strsV]
theorem strsV_get {ts : List Bytes} {k : Nat} {t : Bytes} (h : ts[k]? = some t) : (strsV ts)[k]? = some (.string ⟨t.toArray⟩) := by simp [strsV, h]
theorem strsV_snoc (ts : List Bytes) (t : Bytes) : strsV ts ++ [.string ⟨t.toArray⟩] = strsV (ts ++ [t]) := by simp [strsV]
theorem intsV_snoc (ts : List Int) (t : Int) : intsV ts ++ [.int .i64 t] = intsV (ts ++ [t]) := by simp [intsV]
/-- The numbers' loop. -/
structure NumsI (r : Bytes) (m k : Nat) (ns : List Int) (b : Bytes) : Prop where
  le : k ≤ m
  len : ns.length = k
  eq : numsD m r = (numsD (m - k) b).map fun q => (ns ++ q.1, q.2)
theorem NumsI.zero (r : Bytes) (m : Nat) : NumsI r m 0 [] r := by
  refine ⟨Nat.zero_le _, rfl, ?_⟩
  rw [Nat.sub_zero]
  cases numsD m r <;> simp
theorem NumsI.step {r : Bytes} {m k : Nat} {ns : List Int} {b : Bytes} {q : Nat × Bytes} (h : NumsI r m k ns b) (hk : k < m) (hq : numD 0 b = some q) : NumsI r m (k + 1) (ns ++ [zag q.1]) q.2 := by
  refine ⟨hk, by simp [h.len], ?_⟩
  rw [h.eq, show m - k = (m - (k + 1)) + 1 by omega]
  simp only [numsD, hq]
  cases numsD (m - (k + 1)) q.2 <;> simp
theorem NumsI.bad {r : Bytes} {m k : Nat} {ns : List Int} {b : Bytes} (h : NumsI r m k ns b) (hk : k < m) (hq : numD 0 b = none) : numsD m r = none := by
  rw [h.eq, show m - k = (m - (k + 1)) + 1 by omega]
  simp only [numsD, hq]
  rfl
theorem NumsI.done {r : Bytes} {m : Nat} {ns : List Int} {b : Bytes} (h : NumsI r m m ns b) : numsD m r = some (ns, b) := by
  rw [h.eq, Nat.sub_self]
  simp [numsD]
structure TextsI (r : Bytes) (m k : Nat) (ts : List Bytes) (b : Bytes) : Prop where
  le : k ≤ m
  len : ts.length = k
  eq : textsD m r = (textsD (m - k) b).map fun q => (ts ++ q.1, q.2)
theorem TextsI.zero (r : Bytes) (m : Nat) : TextsI r m 0 [] r := by
  refine ⟨Nat.zero_le _, rfl, ?_⟩
  rw [Nat.sub_zero]
  cases textsD m r <;> simp
theorem TextsI.step {r : Bytes} {m k : Nat} {ts : List Bytes} {x : UInt8} {b : Bytes} (h : TextsI r m k ts (x :: b)) (hk : k < m) (h1 : ¬ 200 < x.toNat) (h2 : x.toNat ≤ b.length) : TextsI r m (k + 1) (ts ++ [b.take x.toNat]) (b.drop x.toNat) := by
  refine ⟨hk, by simp [h.len], ?_⟩
  rw [h.eq, show m - k = (m - (k + 1)) + 1 by omega]
  simp only [textsD, textD]
  rw [if_neg h1, if_neg (by omega)]
  dsimp only
  cases textsD (m - (k + 1)) (b.drop x.toNat) <;> simp
theorem TextsI.bad0 {r : Bytes} {m k : Nat} {ts : List Bytes} (h : TextsI r m k ts []) (hk : k < m) : textsD m r = none := by
  rw [h.eq, show m - k = (m - (k + 1)) + 1 by omega]
  simp [textsD, textD]
theorem TextsI.bad {r : Bytes} {m k : Nat} {ts : List Bytes} {x : UInt8} {b : Bytes} (h : TextsI r m k ts (x :: b)) (hk : k < m) (h1 : 200 < x.toNat ∨ b.length < x.toNat) : textsD m r = none := by
  rw [h.eq, show m - k = (m - (k + 1)) + 1 by omega]
  simp only [textsD, textD]
  by_cases h2 : 200 < x.toNat
  · rw [if_pos h2]; rfl
  · rw [if_neg h2, if_pos (by omega)]; rfl
theorem TextsI.done {r : Bytes} {m : Nat} {ts : List Bytes} {b : Bytes} (h : TextsI r m m ts b) : textsD m r = some (ts, b) := by
  rw [h.eq, Nat.sub_self]
  simp [textsD]
theorem recD_short {b : Bytes} (h : b.length < 2) : recD b = none := by
  match b, h with
  | [], _ => rfl
  | [x], _ => rfl
theorem recD_many {k h : UInt8} {r : Bytes} (ht : 4 < headT h.toNat) : recD (k :: h :: r) = none := by unfold recD; dsimp only; rw [if_pos ht]
theorem recD_nums {k h : UInt8} {r : Bytes} (ht : ¬ 4 < headT h.toNat) (hn : numsD (headN h.toNat) r = none) : recD (k :: h :: r) = none := by unfold recD; dsimp only; rw [if_neg ht, hn]
theorem recD_texts {k h : UInt8} {r b : Bytes} {ns : List Int} (ht : ¬ 4 < headT h.toNat) (hn : numsD (headN h.toNat) r = some (ns, b)) (hx : textsD (headT h.toNat) b = none) : recD (k :: h :: r) = none := by
  unfold recD; dsimp only; rw [if_neg ht, hn]; dsimp only; rw [hx]
theorem recD_more {k h : UInt8} {r b c : Bytes} {ns : List Int} {ts : List Bytes} (ht : ¬ 4 < headT h.toNat) (hn : numsD (headN h.toNat) r = some (ns, b)) (hx : textsD (headT h.toNat) b = some (ts, c)) (hc : c ≠ []) : recD (k :: h :: r) = none := by
  unfold recD; dsimp only; rw [if_neg ht, hn]; dsimp only; rw [hx]; dsimp only; rw [if_neg hc]
theorem recD_some {k h : UInt8} {r b : Bytes} {ns : List Int} {ts : List Bytes} (ht : ¬ 4 < headT h.toNat) (hn : numsD (headN h.toNat) r = some (ns, b)) (hx : textsD (headT h.toNat) b = some (ts, [])) : recD (k :: h :: r) = some ⟨k.toNat, ns, ts⟩ := by
  unfold recD; dsimp only; rw [if_neg ht, hn]; dsimp only; rw [hx]; dsimp only; rw [if_pos rfl]
theorem rd2 [Env] {R : List Seg} {v : Value} {k h : UInt8} {r : Bytes} (hb : RdY R v (k :: h :: r)) : RdV R (vSl v 0 2 1) 2 [.int .u8 k.toNat, .int .u8 h.toNat] := (hb.take (k := 2) (by simp)).rd
theorem rdr2 [Env] {R : List Seg} {v : Value} {k h : UInt8} {r : Bytes} (hb : RdY R v (k :: h :: r)) : RdY R (vSl v 2 (k :: h :: r).length 1) r := hb.drop (k := 2) (by simp)
theorem headN_le (h : UInt8) : headN h.toNat ≤ 16 := by unfold headN; split <;> omega
/-- What is decoded: the record and the error. -/
def decM (bs : Bytes) : RecM × Int := match recD bs with
  | some r => (r, 0)
  | none => (⟨0, [], []⟩, 4)
theorem decM_zero {b : Bytes} (h : (decM b).2 = 0) : recD b = some (decM b).1 := by
  unfold decM at h ⊢
  cases hr : recD b with
  | none => rw [hr] at h; cases h
  | some r => rfl
theorem decM_some {b : Bytes} {r : RecM} (h : recD b = some r) : decM b = (r, 0) := by unfold decM; rw [h]
theorem decM_none {b : Bytes} (h : recD b = none) : decM b = (⟨0, [], []⟩, 4) := by unfold decM; rw [h]
end Go.Sl
