/- A part of the proof: contracts and plain lemmas, each without conditions beyond those that it names. -/
import Derived.Test.YtnedokioglfipaaBitL
import Derived.Test.YtnedokioglfipaaSecF
set_option linter.unusedVariables false
set_option linter.unusedSimpArgs false
set_option linter.constructorNameAsVariable false
namespace Go.Sl
set_option linter.unusedSimpArgs false
/-! the reader's loops, plain -/
theorem numD_bad {k : Nat} {x : UInt8} {r : Bytes} (h : (k = 9 ∧ 1 < x.toNat) ∨ (0 < k ∧ x.toNat = 0)) : numD k (x :: r) = none := by
  unfold numD; rw [if_pos h]
theorem numD_last {k : Nat} {x : UInt8} {r : Bytes} (h : ¬ ((k = 9 ∧ 1 < x.toNat) ∨ (0 < k ∧ x.toNat = 0))) (h2 : x.toNat < 128) : numD k (x :: r) = some (x.toNat, r) := by
  unfold numD; rw [if_neg h, if_pos h2]
theorem numD_more {k : Nat} {x : UInt8} {r : Bytes} (h : ¬ ((k = 9 ∧ 1 < x.toNat) ∨ (0 < k ∧ x.toNat = 0))) (h2 : ¬ x.toNat < 128) : numD k (x :: r) = (numD (k + 1) r).map fun q => (x.toNat - 128 + 128 * q.1, q.2) := by
  conv => lhs; unfold numD
  rw [if_neg h, if_neg h2]
  cases numD (k + 1) r <;> rfl
/-- What is known in the number's loop. -/
structure NumI (bs : Bytes) (k u : Nat) (r : Bytes) : Prop where
  k9 : k ≤ 9
  lt : u < 2 ^ (7 * k)
  eq : numD 0 bs = (numD k r).map fun q => (u + 2 ^ (7 * k) * q.1, q.2)
theorem NumI.zero (bs : Bytes) : NumI bs 0 0 bs := by
  refine ⟨by omega, by decide, ?_⟩
  cases h : numD 0 bs with
  | none => rfl
  | some q => simp
theorem pow7 {k : Nat} (h : k ≤ 9) : 2 ^ (7 * k) ≤ 9223372036854775808 := by
  have : 2 ^ (7 * k) ≤ 2 ^ 63 := Nat.pow_le_pow_right (by omega) (by omega)
  simpa using this
theorem pow7' {k : Nat} (h : k ≤ 8) : 2 ^ (7 * k) ≤ 72057594037927936 := by
  have : 2 ^ (7 * k) ≤ 2 ^ 56 := Nat.pow_le_pow_right (by omega) (by omega)
  simpa using this
theorem NumI.fit {bs : Bytes} {k u : Nat} {r : Bytes} {x : UInt8} (h : NumI bs k u (x :: r)) (hok : ¬ ((k = 9 ∧ 1 < x.toNat) ∨ (0 < k ∧ x.toNat = 0))) :
    x.toNat % 128 * 2 ^ (7 * k) < 18446744073709551616 ∧ u + x.toNat % 128 * 2 ^ (7 * k) < 18446744073709551616 := by
  have h1 := h.k9
  have h2 := h.lt
  have h3 := pow7 h1
  by_cases h9 : k = 9
  · subst h9
    have hx : x.toNat ≤ 1 := by omega
    have h4 : x.toNat % 128 ≤ 1 := by omega
    have h5 : x.toNat % 128 * 2 ^ (7 * 9) ≤ 1 * 2 ^ (7 * 9) := Nat.mul_le_mul_right _ h4
    omega
  · have h3 := pow7' (k := k) (by omega)
    have h5 : x.toNat % 128 * 2 ^ (7 * k) ≤ 127 * 2 ^ (7 * k) := Nat.mul_le_mul_right _ (by omega)
    omega
theorem NumI.next {bs : Bytes} {k u : Nat} {r : Bytes} {x : UInt8} (h : NumI bs k u (x :: r)) (hok : ¬ ((k = 9 ∧ 1 < x.toNat) ∨ (0 < k ∧ x.toNat = 0))) (hx : ¬ x.toNat < 128) :
    NumI bs (k + 1) (u + x.toNat % 128 * 2 ^ (7 * k)) r := by
  have h9 : k ≤ 8 := by have := h.k9; omega
  have e : 2 ^ (7 * (k + 1)) = 128 * 2 ^ (7 * k) := by rw [show 7 * (k + 1) = 7 * k + 7 by omega, Nat.pow_add]; omega
  have h2 := h.lt
  have hb := x.toNat_lt
  refine ⟨by omega, ?_, ?_⟩
  · rw [e]
    have h5 : x.toNat % 128 * 2 ^ (7 * k) ≤ 127 * 2 ^ (7 * k) := Nat.mul_le_mul_right _ (by omega)
    omega
  · rw [h.eq, numD_more hok hx, e]
    cases numD (k + 1) r with
    | none => rfl
    | some q =>
      simp only [Option.map_some, Option.some.injEq, Prod.mk.injEq, and_true]
      have : x.toNat % 128 = x.toNat - 128 := by omega
      rw [this, Nat.mul_add, Nat.mul_comm (x.toNat - 128), show 128 * 2 ^ (7 * k) * q.1 = 2 ^ (7 * k) * (128 * q.1) by rw [Nat.mul_comm 128, Nat.mul_assoc]]
      omega
theorem NumI.last {bs : Bytes} {k u : Nat} {r : Bytes} {x : UInt8} (h : NumI bs k u (x :: r)) (hok : ¬ ((k = 9 ∧ 1 < x.toNat) ∨ (0 < k ∧ x.toNat = 0))) (hx : x.toNat < 128) :
    numD 0 bs = some (u + x.toNat % 128 * 2 ^ (7 * k), r) := by
  rw [h.eq, numD_last hok hx]
  simp only [Option.map_some, Option.some.injEq, Prod.mk.injEq, and_true]
  rw [Nat.mod_eq_of_lt hx, Nat.mul_comm]
theorem NumI.bad {bs : Bytes} {k u : Nat} {r : Bytes} {x : UInt8} (h : NumI bs k u (x :: r)) (hx : (k = 9 ∧ 1 < x.toNat) ∨ (0 < k ∧ x.toNat = 0)) : numD 0 bs = none := by
  rw [h.eq, numD_bad hx]; rfl
theorem NumI.none {bs : Bytes} {k u : Nat} (h : NumI bs k u []) : numD 0 bs = none := by
  rw [h.eq]; cases k <;> rfl
theorem shl7 {k y : Nat} (hk : k ≤ 9) (h : y * 2 ^ (7 * k) < 18446744073709551616) : IntKind.u64.wrap (((y : Nat) : Int) * 2 ^ (min ((7 * k : Nat) : Int).toNat IntKind.u64.bits)) = ((y * 2 ^ (7 * k) : Nat) : Int) := by
  rw [wu64, Int.toNat_natCast, show min (7 * k) IntKind.u64.bits = 7 * k by show min _ 64 = _; omega]
  have e : ((y : Nat) : Int) * 2 ^ (7 * k) = ((y * 2 ^ (7 * k) : Nat) : Int) := by simp
  rw [e]
  omega
theorem rd1 [Env] {R : List Seg} {v : Value} {x : UInt8} {r : Bytes} (h : RdY R v (x :: r)) : RdV R (vSl v 0 1 1) 1 [.int .u8 x.toNat] := (h.take (k := 1) (by simp)).rd
theorem rdr1 [Env] {R : List Seg} {v : Value} {x : UInt8} {r : Bytes} (h : RdY R v (x :: r)) : RdY R (vSl v 1 (x :: r).length 1) r := h.drop (k := 1) (by simp)
end Go.Sl
