/- A part of the proof: contracts and plain lemmas, each without conditions beyond those that it names. -/
import Derived.Test.YtnfbhgalkcmbdaaGreatGH
import Derived.Test.YtnfbhgalkcmbdaaGreatGG
import Derived.Test.YtnfbhgalkcmbdaaGreatGE
set_option linter.unusedVariables false
set_option linter.unusedSimpArgs false
set_option linter.constructorNameAsVariable false
namespace Go.Sl
set_option linter.unusedSimpArgs false
theorem str_get (bs : Bytes) (k : Nat) : (⟨bs.toArray⟩ : ByteArray)[k]? = bs[k]? := by
  by_cases h : k < bs.length
  · have h2 : k < (⟨bs.toArray⟩ : ByteArray).size := by simpa [ByteArray.size] using h
    rw [getElem?_pos (⟨bs.toArray⟩ : ByteArray) k h2, List.getElem?_eq_getElem h]
    rfl
  · have h2 : ¬ k < (⟨bs.toArray⟩ : ByteArray).size := by simpa [ByteArray.size] using h
    rw [getElem?_neg (⟨bs.toArray⟩ : ByteArray) k h2, List.getElem?_eq_none (by omega)]
section
variable {P : Program} {n : Nat} {l : List (Nat × Value)} {L : List Seg} {d : Option Tmp} {ty : TypeId} {pos : String} {af : Array Edge} {g : Option (Nat × Bool)}
theorem ev_ixB [Env] {t : TypeId} {x y : Operand} {k : IntKind} {i : Int} {bs : Bytes} {u : UInt8} (hx : ev l x = some (.string ⟨bs.toArray⟩)) (hy : ev l y = some (.int k i))
    (hu : P.underlying t = some .string) (h0 : 0 ≤ i) (h1 : bs[i.toNat]? = some u) : Ev P n ⟨d, .index t x y, ty, pos, af, g⟩ l L (.int .u8 u.toNat) :=
  ev_ixS hx hy hu h0 (by rw [str_get]; exact h1)
end
def u64 (n : Nat) : Value := .int .u64 n
/-- Bytes, the lowest first. -/
def loV : Bytes → Nat
  | [] => 0
  | x :: r => x.toNat + 256 * loV r
def loB : Nat → Nat → Bytes
  | 0, _ => []
  | k + 1, b => UInt8.ofNat (b % 256) :: loB k (b / 256)
def rowN (n : Nat) : Nat := (n + 7) / 8
def textR (n b : Nat) : Bytes := UInt8.ofNat n :: loB (rowN n) b
def loadR : Bytes → Option (Nat × Nat)
  | [] => none
  | x :: r => if 64 < x.toNat then none else if r.length ≠ rowN x.toNat then none else if x.toNat < 64 ∧ loV r / 2 ^ x.toNat ≠ 0 then none else some (x.toNat, loV r)
theorem loB_len : ∀ (k b : Nat), (loB k b).length = k
  | 0, _ => rfl
  | k + 1, b => by unfold loB; rw [List.length_cons, loB_len]
theorem loV_lt : ∀ (r : Bytes), loV r < 256 ^ r.length
  | [] => by decide
  | x :: r => by
    have h := loV_lt r
    have hx := x.toNat_lt
    unfold loV
    rw [List.length_cons, Nat.pow_succ]
    generalize 256 ^ r.length = z at *
    omega
theorem loV_loB : ∀ (k b : Nat), b < 256 ^ k → loV (loB k b) = b
  | 0, b, h => by
    have : b = 0 := by simp at h; exact h
    subst this; rfl
  | k + 1, b, h => by
    unfold loB loV
    rw [Nat.pow_succ] at h
    rw [loV_loB k (b / 256) (by omega)]
    have : (UInt8.ofNat (b % 256)).toNat = b % 256 := by rw [UInt8.toNat_ofNat']; omega
    rw [this]; omega
theorem pow256 (k : Nat) : 256 ^ k = 2 ^ (8 * k) := by rw [show (256 : Nat) = 2 ^ 8 by decide, ← Nat.pow_mul]
theorem pow_fit {n : Nat} : 2 ^ n ≤ 256 ^ rowN n := by
  rw [pow256]
  exact Nat.pow_le_pow_right (by omega) (by unfold rowN; omega)
theorem loadR_textR {n b : Nat} (hn : n ≤ 64) (hb : b < 2 ^ n) : loadR (textR n b) = some (n, b) := by
  have e : (UInt8.ofNat n).toNat = n := by rw [UInt8.toNat_ofNat']; omega
  have hv : loV (loB (rowN n) b) = b := loV_loB _ _ (Nat.lt_of_lt_of_le hb pow_fit)
  unfold textR loadR
  dsimp only
  rw [e, if_neg (by omega), if_neg (by rw [loB_len]; simp), hv, if_neg]
  rintro ⟨_, h⟩
  exact h (Nat.div_eq_of_lt hb)
theorem loadR_ok {t : Bytes} {n b : Nat} (h : loadR t = some (n, b)) : n ≤ 64 ∧ b < 2 ^ n := by
  cases t with
  | nil => cases h
  | cons x r =>
    replace h : (if 64 < x.toNat then none else if r.length ≠ rowN x.toNat then none else if x.toNat < 64 ∧ loV r / 2 ^ x.toNat ≠ 0 then none else some (x.toNat, loV r)) = some (n, b) := h
    by_cases h1 : 64 < x.toNat
    · rw [if_pos h1] at h; cases h
    · rw [if_neg h1] at h
      by_cases h2 : r.length ≠ rowN x.toNat
      · rw [if_pos h2] at h; cases h
      · rw [if_neg h2] at h
        by_cases h3 : x.toNat < 64 ∧ loV r / 2 ^ x.toNat ≠ 0
        · rw [if_pos h3] at h; cases h
        · rw [if_neg h3] at h
          simp only [Option.some.injEq, Prod.mk.injEq] at h
          obtain ⟨rfl, rfl⟩ := h
          refine ⟨by omega, ?_⟩
          by_cases hx : x.toNat < 64
          · have h4 : loV r / 2 ^ x.toNat = 0 := by
              refine Decidable.byContradiction fun h5 => h3 ⟨hx, h5⟩
            rcases Nat.div_eq_zero_iff.1 h4 with h5 | h5
            · have : 0 < 2 ^ x.toNat := Nat.two_pow_pos _
              omega
            · exact h5
          · have h64 : x.toNat = 64 := by omega
            have := loV_lt r
            have hl : r.length = 8 := by
              have : r.length = rowN x.toNat := by simpa using h2
              rw [this, h64]; rfl
            rw [hl] at this
            rw [h64]
            exact this
theorem textR_len (n b : Nat) : (textR n b).length = 1 + rowN n := by unfold textR; rw [List.length_cons, loB_len]; omega
/-- What is known in the loop of Load. -/
theorem loV_take {r : Bytes} {k : Nat} {x : UInt8} (h : r[k]? = some x) : loV (r.take (k + 1)) = loV (r.take k) + x.toNat * 2 ^ (8 * k) := by
  induction r generalizing k with
  | nil => simp at h
  | cons y r ih =>
    cases k with
    | zero => simp at h; subst h; simp [loV]
    | succ k =>
      simp only [List.take_succ_cons, loV]
      rw [ih (by simpa using h), show 8 * (k + 1) = 8 * k + 8 by omega, Nat.pow_add, show (2 : Nat) ^ 8 = 256 by decide, Nat.mul_add, ← Nat.add_assoc]
      congr 1
      rw [Nat.mul_left_comm, Nat.mul_comm 256]
theorem loV_take_lt (r : Bytes) (k : Nat) : loV (r.take k) < 2 ^ (8 * k) := by
  have := loV_lt (r.take k)
  rw [pow256] at this
  exact Nat.lt_of_lt_of_le this (Nat.pow_le_pow_right (by omega) (by simp; omega))
theorem loB_snoc : ∀ (k b : Nat), loB (k + 1) b = loB k b ++ [UInt8.ofNat (b / 2 ^ (8 * k) % 256)]
  | 0, b => by simp [loB]
  | k + 1, b => by
    have ih := loB_snoc k (b / 256)
    show UInt8.ofNat (b % 256) :: loB (k + 1) (b / 256) = _
    rw [ih]
    show _ = (UInt8.ofNat (b % 256) :: loB k (b / 256)) ++ _
    rw [List.cons_append, Nat.div_div_eq_div_mul, show 256 * 2 ^ (8 * k) = 2 ^ (8 * (k + 1)) by rw [show 8 * (k + 1) = 8 + 8 * k by omega, Nat.pow_add]]
def allTo (b k : Nat) : List Int := ((List.range k).filter b.testBit).map Int.ofNat
theorem allTo_succ (b k : Nat) : allTo b (k + 1) = if b.testBit k = true then allTo b k ++ [(k : Int)] else allTo b k := by
  unfold allTo
  rw [List.range_succ, List.filter_append]
  cases h : b.testBit k <;> simp [h]
theorem allTo_le (b : Nat) : ∀ k, (allTo b k).length ≤ k
  | 0 => by simp [allTo]
  | k + 1 => by
    have := allTo_le b k
    rw [allTo_succ]
    split
    · simp; omega
    · omega
def inR (n : Nat) (i : Int) : Bool := decide (0 ≤ i) && decide (i < n)
theorem inR_iff {n : Nat} {i : Int} : inR n i = true ↔ 0 ≤ i ∧ i < n := by unfold inR; simp
def hasR (n b : Nat) (i : Int) : Bool := inR n i && b.testBit i.toNat
def putR (b : Nat) (i : Int) : Nat := b ||| 2 ^ i.toNat
theorem testBit_mod (b i : Nat) : b.testBit i = decide (b / 2 ^ i % 2 = 1) := by
  rw [Nat.testBit_eq_decide_div_mod_eq]
theorem putR_lt {n b : Nat} {i : Int} (hb : b < 2 ^ n) (hi : inR n i = true) : putR b i < 2 ^ n := by
  obtain ⟨h0, h1⟩ := inR_iff.1 hi
  exact Nat.or_lt_two_pow hb (Nat.pow_lt_pow_right (by omega) (by omega))
theorem pow_le64 {n : Nat} (h : n ≤ 64) : 2 ^ n ≤ 18446744073709551616 := by
  have : 2 ^ n ≤ 2 ^ 64 := Nat.pow_le_pow_right (by omega) h
  exact this
theorem shl1 {i : Nat} (h : i < 64) : IntKind.u64.wrap ((1 : Int) * 2 ^ (min (i : Int).toNat IntKind.u64.bits)) = ((2 ^ i : Nat) : Int) := by
  have e : min (i : Int).toNat IntKind.u64.bits = i := by simp [IntKind.bits]; omega
  have h2 : 2 ^ i < 18446744073709551616 := by
    have : 2 ^ i < 2 ^ 64 := Nat.pow_lt_pow_right (by omega) h
    exact this
  rw [e, wu64, Int.one_mul]
  have e2 : ((2 : Int) ^ i) = ((2 ^ i : Nat) : Int) := by simp
  rw [e2]
  generalize 2 ^ i = z at *
  omega
theorem shr_u64 {b i : Nat} (h : i ≤ 64) : ((b : Nat) : Int).fdiv (2 ^ (min (i : Int).toNat IntKind.u64.bits)) = ((b / 2 ^ i : Nat) : Int) := by
  have e : min (i : Int).toNat IntKind.u64.bits = i := by simp [IntKind.bits]; omega
  rw [e, show ((2 : Int) ^ i) = ((2 ^ i : Nat) : Int) by simp]
  exact fdiv2
theorem count_zero {n b : Nat} (hb : b < 2 ^ n) : (allTo b n).length = 0 ↔ b = 0 := by
  constructor
  · intro h
    have hn : allTo b n = [] := List.length_eq_zero_iff.1 h
    unfold allTo at hn
    rw [List.map_eq_nil_iff] at hn
    apply Nat.eq_of_testBit_eq
    intro j
    rw [Nat.zero_testBit]
    by_cases hj : j < n
    · cases ht : b.testBit j with
      | false => rfl
      | true =>
        have : j ∈ (List.range n).filter b.testBit := List.mem_filter.2 ⟨List.mem_range.2 hj, ht⟩
        rw [hn] at this; cases this
    · exact Nat.testBit_lt_two_pow (Nat.lt_of_lt_of_le hb (Nat.pow_le_pow_right (by omega) (by omega)))
  · rintro rfl
    have : allTo 0 n = [] := by
      unfold allTo
      rw [List.map_eq_nil_iff, List.filter_eq_nil_iff]
      intro a _; simp
    rw [this]; rfl
def loadP (t : Bytes) : Nat × Nat × Int := match loadR t with
  | some q => (q.1, q.2, 0)
  | none => (0, 0, 4)
theorem loadP_nil : loadP [] = (0, 0, 4) := rfl
theorem loadR_cons (x : UInt8) (r : Bytes) : loadR (x :: r) = if 64 < x.toNat then none else if r.length ≠ rowN x.toNat then none else if x.toNat < 64 ∧ loV r / 2 ^ x.toNat ≠ 0 then none else some (x.toNat, loV r) := rfl
theorem loadP_big {x : UInt8} {r : Bytes} (h : 64 < x.toNat) : loadP (x :: r) = (0, 0, 4) := by unfold loadP; rw [loadR_cons, if_pos h]
theorem loadP_len {x : UInt8} {r : Bytes} (h : ¬ 64 < x.toNat) (h2 : r.length ≠ rowN x.toNat) : loadP (x :: r) = (0, 0, 4) := by unfold loadP; rw [loadR_cons, if_neg h, if_pos h2]
theorem loadP_odd {x : UInt8} {r : Bytes} (h : ¬ 64 < x.toNat) (h2 : r.length = rowN x.toNat) (h3 : x.toNat < 64 ∧ loV r / 2 ^ x.toNat ≠ 0) : loadP (x :: r) = (0, 0, 4) := by unfold loadP; rw [loadR_cons, if_neg h, if_neg (by simpa using h2), if_pos h3]
theorem loadP_ok {x : UInt8} {r : Bytes} (h : ¬ 64 < x.toNat) (h2 : r.length = rowN x.toNat) (h3 : ¬ (x.toNat < 64 ∧ loV r / 2 ^ x.toNat ≠ 0)) : loadP (x :: r) = (x.toNat, loV r, 0) := by unfold loadP; rw [loadR_cons, if_neg h, if_neg (by simpa using h2), if_neg h3]
theorem loadP_some {t : Bytes} {q : Nat × Nat} (h : loadR t = some q) : loadP t = (q.1, q.2, 0) := by unfold loadP; rw [h]
theorem loadP_wf (t : Bytes) : (loadP t).1 ≤ 64 ∧ (loadP t).2.1 < 2 ^ (loadP t).1 := by
  unfold loadP
  cases h : loadR t with
  | none => exact ⟨by decide, by decide⟩
  | some q => exact loadR_ok h
end Go.Sl
namespace Go.Sl
set_option linter.unusedSimpArgs false
def regs (n : Nat) : Nat := (n + 3) / 4
structure DrlM where
  c : CellM
  n : Nat
  bits : Nat
def rowOfT (n : Nat) (t : Bytes) : Nat := if (loadP t).2.2 = 0 ∧ (loadP t).1 = n then (loadP t).2.1 else 0
def drlE (D : Dev) (a b n : Int) : Int := if n < 1 ∨ 32 < n then 1 else openE D a b
def drlO (D : Dev) (a b : Int) (n : Nat) : DrlM := ⟨openC D a b, n, rowOfT (regs n) (openC D a b).text⟩
def DrlM.set (L : DrlM) (D : Dev) (b : Nat) : Int × DrlM × Dev :=
  ((L.c.put D (textR (regs L.n) b)).1, { L with c := (L.c.put D (textR (regs L.n) b)).2.1, bits := if (L.c.put D (textR (regs L.n) b)).1 = 0 then b else L.bits }, (L.c.put D (textR (regs L.n) b)).2.2)
def DrlM.has (L : DrlM) (i : Int) : Bool := inR L.n i && hasR (regs L.n) L.bits (i / 4)
def DrlM.mark (L : DrlM) (D : Dev) (i : Int) : Int × DrlM × Dev :=
  if inR L.n i = false then (2, L, D) else if L.has i = true then (0, L, D) else L.set D (putR L.bits (i / 4))
def DrlM.clear (L : DrlM) (D : Dev) : Int × DrlM × Dev := if L.bits = 0 then (0, L, D) else L.set D 0
structure DrlM.ok (L : DrlM) (D : Dev) : Prop where
  c : L.c.ok D.l.length
  n : 1 ≤ L.n ∧ L.n ≤ 32
  bits : L.bits < 2 ^ regs L.n
  d : D.ok
theorem regs_le {n : Nat} (h : 1 ≤ n ∧ n ≤ 32) : 1 ≤ regs n ∧ regs n ≤ 8 := by unfold regs; omega
theorem rowOfT_lt (n : Nat) (t : Bytes) : rowOfT n t < 2 ^ n := by
  have h := loadP_wf t
  unfold rowOfT
  split
  · rename_i e; rw [← e.2]; exact h.2
  · exact Nat.two_pow_pos _
theorem rowOfT_textR {n b : Nat} (hn : n ≤ 64) (hb : b < 2 ^ n) : rowOfT n (textR n b) = b := by
  have h := loadP_some (loadR_textR hn hb)
  unfold rowOfT
  rw [h, if_pos ⟨rfl, rfl⟩]
theorem inR_reg {n : Nat} {i : Int} (h : inR n i = true) : inR (regs n) (i / 4) = true := by
  obtain ⟨h0, h1⟩ := inR_iff.1 h
  exact inR_iff.2 ⟨by omega, by unfold regs; omega⟩
theorem drlO_ok {D : Dev} {a b : Int} {n : Nat} (hD : D.ok) (hn : 1 ≤ n ∧ n ≤ 32) (h : openE D a b = 0) : (drlO D a b n).ok D := ⟨(openC_ok h).1, hn, rowOfT_lt _ _, hD⟩
theorem drl_set_ok {L : DrlM} {D : Dev} (h : L.ok D) {b : Nat} (hb : b < 2 ^ regs L.n) : (L.set D b).2.1.ok (L.set D b).2.2 := by
  have hp := Go.Sl.put_ok h.c h.d (textR (regs L.n) b)
  unfold DrlM.set
  refine ⟨?_, h.n, ?_, hp.2⟩
  · dsimp only; rw [put_l]; exact hp.1
  · dsimp only; split
    · exact hb
    · exact h.bits
theorem drl_mark_ok {L : DrlM} {D : Dev} (h : L.ok D) (i : Int) : (L.mark D i).2.1.ok (L.mark D i).2.2 := by
  unfold DrlM.mark
  split
  · exact h
  · rename_i hi
    split
    · exact h
    · exact drl_set_ok h (putR_lt h.bits (inR_reg (by simpa using hi)))
theorem drl_clear_ok {L : DrlM} {D : Dev} (h : L.ok D) : (L.clear D).2.1.ok (L.clear D).2.2 := by
  unfold DrlM.clear
  split
  · exact h
  · exact drl_set_ok h (Nat.two_pow_pos _)
theorem textR_short {n b : Nat} (h : 1 ≤ n ∧ n ≤ 32) : (textR (regs n) b).length ≤ 100 := by rw [textR_len]; have := regs_le h; unfold rowN; omega
/-- The blocks of the marked regions. -/
def blksTo (L : DrlM) (k : Nat) : List Int := ((List.range k).filter fun i : Nat => L.has i).map Int.ofNat
def DrlM.blks (L : DrlM) : List Int := blksTo L L.n
theorem blksTo_succ (L : DrlM) (k : Nat) : blksTo L (k + 1) = if L.has k = true then blksTo L k ++ [(k : Int)] else blksTo L k := by
  unfold blksTo
  rw [List.range_succ, List.filter_append]
  cases h : L.has k <;> simp [h]
theorem blksTo_le (L : DrlM) : ∀ k, (blksTo L k).length ≤ k
  | 0 => by simp [blksTo]
  | k + 1 => by
    have := blksTo_le L k
    rw [blksTo_succ]
    split
    · simp; omega
    · omega
theorem put_up {D : Dev} {N : Nat} {a b : Int} {s : Bytes} (hU : Up D N) (hE : openE D a b = 0) (hs : s.length ≤ 100) (hg : (openC D a b).gen < 4611686018427387904) :
    ∃ D', (openC D a b).put D s = (0, (openC D a b).next s, D') ∧ Up D' N ∧ D'.es = [] ∧ openC D' a b = (openC D a b).next s ∧ ∀ j : Int, 0 ≤ j → j < N → j ≠ a → j ≠ b → D'.sec j = D.sec j := by
  have hC := (openC_ok hE).1
  rw [hU.len] at hC
  obtain ⟨D', h1, h2⟩ := put_good hU hC hs hg
  exact ⟨D', h1, h2.up, h2.es, open_next hU.len hE hs hg h2, fun j h0 hj ha hb => put_else h2 h0 hj ha hb⟩
structure DGood (a b : Int) (n : Nat) (D : Dev) (N k : Nat) : Prop where
  up : Up D N
  es : D.es = []
  e : openE D a b = 0
  n : 1 ≤ n ∧ n ≤ 32
  gen : (openC D a b).gen ≤ k
theorem DGood.ok {a b : Int} {n N k : Nat} {D : Dev} (h : DGood a b n D N k) : (drlO D a b n).ok D := drlO_ok h.up.ok h.n h.e
theorem DGood.up1 {a b : Int} {n N k : Nat} {D : Dev} (h : DGood a b n D N k) : DGood a b n D N (k + 1) := ⟨h.up, h.es, h.e, h.n, by have := h.gen; omega⟩
theorem up_openE {D D' : Dev} {N : Nat} {a b : Int} (h : Up D N) (h' : Up D' N) (he : openE D a b = 0) : openE D' a b = 0 := by
  unfold openE at he ⊢
  rw [h.len] at he
  rw [h'.len]
  by_cases c : a = b ∨ min a b < 0 ∨ (N : Int) ≤ max a b
  · rw [if_pos c] at he; cases he
  · rw [if_neg c, if_neg (by rw [h'.live]; decide)]
theorem DGood.set {a b : Int} {n N k : Nat} {D : Dev} (h : DGood a b n D N k) (hk : k < 4611686018427387904) {v : Nat} (hv : v < 2 ^ regs n) :
    ∃ D', (drlO D a b n).set D v = (0, drlO D' a b n, D') ∧ DGood a b n D' N (k + 1) ∧ (drlO D' a b n).bits = v ∧ ∀ j : Int, 0 ≤ j → j < N → j ≠ a → j ≠ b → D'.sec j = D.sec j := by
  have hg := h.gen
  have hr := regs_le h.n
  obtain ⟨D', h1, h2, h3, h4, h5⟩ := put_up (s := textR (regs n) v) h.up h.e (textR_short h.n) (by omega)
  have hb : (drlO D' a b n).bits = v := by
    show rowOfT (regs n) (openC D' a b).text = v
    rw [h4]
    exact rowOfT_textR (by omega) hv
  refine ⟨D', ?_, ⟨h2, h3, up_openE h.up h2 h.e, h.n, ?_⟩, hb, h5⟩
  · unfold DrlM.set
    have e : (drlO D a b n).c.put D (textR (regs (drlO D a b n).n) v) = (0, (openC D a b).next (textR (regs n) v), D') := h1
    rw [e]
    dsimp only
    have e2 : drlO D' a b n = ⟨openC D' a b, n, v⟩ := by rw [← hb]; rfl
    rw [e2, h4]
    rfl
  · rw [h4]; show (openC D a b).gen + 1 ≤ _; omega
theorem or_same {b i : Nat} (h : b.testBit i = true) : b ||| 2 ^ i = b := by
  apply Nat.eq_of_testBit_eq
  intro j
  rw [Nat.testBit_or, Nat.testBit_two_pow]
  by_cases e : i = j
  · subst e; rw [h]; rfl
  · simp [e]
theorem DGood.mark {a b : Int} {n N k : Nat} {D : Dev} (h : DGood a b n D N k) (hk : k < 4611686018427387904) (i : Int) :
    ∃ D', (drlO D a b n).mark D i = (if inR n i = true then 0 else 2, drlO D' a b n, D') ∧ DGood a b n D' N (k + 1) ∧ (drlO D' a b n).bits = (if inR n i = true then putR (drlO D a b n).bits (i / 4) else (drlO D a b n).bits) ∧ (∀ j : Int, 0 ≤ j → j < N → j ≠ a → j ≠ b → D'.sec j = D.sec j) := by
  unfold DrlM.mark
  by_cases hi : inR n i = true
  · have hi' : ¬ inR (drlO D a b n).n i = false := by rw [show (drlO D a b n).n = n from rfl, hi]; decide
    rw [if_neg hi', if_pos hi, if_pos hi]
    by_cases hh : (drlO D a b n).has i = true
    · rw [if_pos hh]
      refine ⟨D, rfl, h.up1, ?_, fun _ _ _ _ _ => rfl⟩
      unfold DrlM.has hasR at hh
      simp only [Bool.and_eq_true] at hh
      exact (or_same hh.2.2).symm
    · rw [if_neg hh]
      exact h.set hk (putR_lt h.ok.bits (inR_reg hi))
  · have hi' : inR (drlO D a b n).n i = false := by rw [show (drlO D a b n).n = n from rfl]; simpa using hi
    rw [if_pos hi', if_neg hi, if_neg hi]
    exact ⟨D, rfl, h.up1, rfl, fun _ _ _ _ _ => rfl⟩
theorem DGood.clear {a b : Int} {n N k : Nat} {D : Dev} (h : DGood a b n D N k) (hk : k < 4611686018427387904) :
    ∃ D', (drlO D a b n).clear D = (0, drlO D' a b n, D') ∧ DGood a b n D' N (k + 1) ∧ (drlO D' a b n).bits = 0 ∧ (∀ j : Int, 0 ≤ j → j < N → j ≠ a → j ≠ b → D'.sec j = D.sec j) := by
  unfold DrlM.clear
  by_cases hz : (drlO D a b n).bits = 0
  · rw [if_pos hz]; exact ⟨D, rfl, h.up1, hz, fun _ _ _ _ _ => rfl⟩
  · rw [if_neg hz]; exact h.set hk (Nat.two_pow_pos _)
theorem new_dgood {N n : Nat} {a b : Int} (hN : N ≤ 512) (hn : 1 ≤ n ∧ n ≤ 32) (hab : a ≠ b) (ha : 0 ≤ a ∧ a < N) (hb : 0 ≤ b ∧ b < N) : DGood a b n (Dev.new N) N 0 ∧ (drlO (Dev.new N) a b n).bits = 0 := by
  have hU := new_up hN
  have ho := open_new (n := N) ha.1 ha.2 hb.1 hb.2
  refine ⟨⟨hU, rfl, openE_up hU hab ha hb, hn, by rw [ho]; exact Int.le_refl _⟩, ?_⟩
  show rowOfT (regs n) (openC (Dev.new N) a b).text = 0
  rw [ho]
  unfold rowOfT
  rw [if_neg]
  rintro ⟨h1, _⟩
  cases h1
theorem zero_has {L : DrlM} (h : L.bits = 0) (i : Int) : L.has i = false := by unfold DrlM.has hasR; rw [h]; simp
theorem zero_blks {L : DrlM} (h : L.bits = 0) : L.blks = [] := by
  unfold DrlM.blks blksTo
  rw [List.map_eq_nil_iff, List.filter_eq_nil_iff]
  intro i _
  rw [zero_has h]; decide
theorem drl_same {L M : DrlM} (hn : L.n = M.n) (hb : L.bits = M.bits) : L.blks = M.blks ∧ (∀ i, L.has i = M.has i) ∧ textR (regs L.n) L.bits = textR (regs M.n) M.bits := by
  have hh : ∀ i, L.has i = M.has i := fun i => by unfold DrlM.has; rw [hn, hb]
  refine ⟨?_, hh, by rw [hn, hb]⟩
  unfold DrlM.blks blksTo
  rw [hn]
  congr 1
  exact List.filter_congr fun i _ => hh i
theorem DGood.crash {a b : Int} {n N k : Nat} {D : Dev} (h : DGood a b n D N k) (ks : Keeps) : DGood a b n (D.crash ks) N k ∧ drlO (D.crash ks) a b n = drlO D a b n := by
  have hU := crash_up h.up.ok ks
  rw [h.up.len] at hU
  have hs : ∀ j, (D.crash ks).sec j = D.sec j := fun j => sec_crash_nil h.es ks j
  have ho : openC (D.crash ks) a b = openC D a b := open_same (hs a) (hs b)
  exact ⟨⟨hU, rfl, up_openE h.up hU h.e, h.n, by rw [ho]; exact h.gen⟩, by unfold drlO; rw [ho]⟩
theorem DGood.fuse {a b : Int} {n N k : Nat} {D : Dev} (h : DGood a b n D N k) {x : Int} (hx : x ≤ 9223372036854775807) : (drlO D a b n).ok (D.setFuse x) := by
  have := h.ok
  exact ⟨this.c, this.n, this.bits, Dev.setFuse_ok h.up.ok hx⟩
end Go.Sl
