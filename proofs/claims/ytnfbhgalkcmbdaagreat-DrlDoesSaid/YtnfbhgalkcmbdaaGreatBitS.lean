/- A part of the proof: contracts and plain lemmas, each without conditions beyond those that it names. -/
import Derived.Test.YtnfbhgalkcmbdaaGreatGK
set_option linter.unusedVariables false
set_option linter.unusedSimpArgs false
set_option linter.constructorNameAsVariable false
namespace Go.Sl
set_option linter.unusedSimpArgs false
def marksV (b : Nat) : List Value := (List.range 64).map fun i => .bool (b.testBit i)
def rowC (n b : Nat) : List Value := .int .i64 n :: marksV b
theorem marksV_len (b : Nat) : (marksV b).length = 64 := by simp [marksV]
theorem rowC_len (n b : Nat) : (rowC n b).length = 65 := by simp [rowC, marksV_len]
theorem marksV_get {b k : Nat} (h : k < 64) : (marksV b)[k]? = some (.bool (b.testBit k)) := by simp [marksV, h]
theorem rowC_get {n b k : Nat} (h : k < 64) : (rowC n b)[k + 1]? = some (.bool (b.testBit k)) := by
  show (marksV b)[k]? = _
  exact marksV_get h
theorem rowC_one (n b : Nat) : ∀ u ∈ rowC n b, u.oneCell' = true := by
  intro u hu
  rcases List.mem_cons.1 hu with rfl | hu
  · rfl
  · unfold marksV at hu
    obtain ⟨i, _, rfl⟩ := List.mem_map.1 hu
    rfl
theorem rowC_set {n b k : Nat} (h : k < 64) : (rowC n b).set (k + 1) (.bool true) = rowC n (b ||| 2 ^ k) := by
  unfold rowC
  rw [List.set_cons_succ]
  congr 1
  apply List.ext_getElem?
  intro j
  rcases Nat.lt_or_ge j 64 with hj | hj
  · rw [marksV_get hj, Nat.testBit_or, Nat.testBit_two_pow, List.getElem?_set]
    by_cases e : k = j
    · subst e; rw [if_pos rfl, if_pos (by rw [marksV_len]; exact h)]; simp
    · rw [if_neg e, marksV_get hj]; simp [e]
  · rw [List.getElem?_eq_none (by rw [List.length_set, marksV_len]; exact hj), List.getElem?_eq_none (by rw [marksV_len]; exact hj)]
theorem rowC_putR {n b : Nat} {i : Int} (h0 : 0 ≤ i) (h1 : i < 64) : (rowC n b).set (i.toNat + 1) (.bool true) = rowC n (putR b i) := rowC_set (by omega)
theorem hasR_no {n b : Nat} {i : Int} (h : ¬ (0 ≤ i ∧ i < n)) : hasR n b i = false := by
  unfold hasR
  have : inR n i = false := by
    cases hi : inR n i with
    | false => rfl
    | true => exact absurd (inR_iff.1 hi) h
  rw [this]; rfl
theorem hasR_yes {n b : Nat} {i : Int} (h0 : 0 ≤ i) (h1 : i < n) : hasR n b i = b.testBit i.toNat := by
  unfold hasR
  rw [inR_iff.2 ⟨h0, h1⟩]; rfl
theorem bits_step (b j m : Nat) : b / 2 ^ j % 2 ^ (m + 1) = 2 * (b / 2 ^ (j + 1) % 2 ^ m) + (if b.testBit j = true then 1 else 0) := by
  have h1 : b / 2 ^ (j + 1) = b / 2 ^ j / 2 := by rw [Nat.pow_succ, Nat.div_div_eq_div_mul]
  have h2 : b.testBit j = decide (b / 2 ^ j % 2 = 1) := by rw [Nat.testBit_eq_decide_div_mod_eq]
  rw [h1, h2, Nat.pow_succ]
  generalize b / 2 ^ j = y
  generalize hz : 2 ^ m = z
  have hz0 : 0 < z := by rw [← hz]; exact Nat.two_pow_pos _
  have e : y % (z * 2) = 2 * (y / 2 % z) + y % 2 := by
    rw [Nat.mul_comm z 2, Nat.mod_mul]; omega
  rw [e]
  by_cases c : y % 2 = 1
  · rw [if_pos (by simpa using c)]; omega
  · rw [if_neg (by simpa using c)]; omega
theorem testBit_ge {b n j : Nat} (h : b < 2 ^ n) (hj : n ≤ j) : b.testBit j = false :=
  Nat.testBit_lt_two_pow (Nat.lt_of_lt_of_le h (Nat.pow_le_pow_right (by decide) hj))
theorem hasR_bit {n b : Nat} {j : Nat} (h : b < 2 ^ n) : hasR n b (j : Int) = b.testBit j := by
  rcases Nat.lt_or_ge j n with hj | hj
  · exact hasR_yes (by omega) (by omega)
  · rw [hasR_no (by omega), testBit_ge h hj]
theorem loV_byte {r : Bytes} {q : Nat} {y : UInt8} (h : r[q]? = some y) : loV r / 2 ^ (8 * q) % 256 = y.toNat := by
  induction r generalizing q with
  | nil => simp at h
  | cons x r ih =>
    have hx := x.toNat_lt
    cases q with
    | zero => simp at h; subst h; simp [loV]
    | succ q =>
      have := ih (by simpa using h)
      rw [← this, show loV (x :: r) = x.toNat + 256 * loV r from rfl]
      rw [show 8 * (q + 1) = 8 + 8 * q by omega, Nat.pow_add, ← Nat.div_div_eq_div_mul, show (x.toNat + 256 * loV r) / 2 ^ 8 = loV r by rw [show (2 : Nat) ^ 8 = 256 by decide]; omega]
theorem loV_bit {r : Bytes} {i : Nat} {y : UInt8} (h : r[i / 8]? = some y) : (loV r).testBit i = decide (y.toNat / 2 ^ (i % 8) % 2 = 1) := by
  have hb := loV_byte h
  rw [Nat.testBit_eq_decide_div_mod_eq, ← hb]
  congr 1
  have e : i = 8 * (i / 8) + i % 8 := by omega
  have e2 : loV r / 2 ^ i = loV r / 2 ^ (8 * (i / 8)) / 2 ^ (i % 8) := by rw [Nat.div_div_eq_div_mul, ← Nat.pow_add, ← e]
  rw [e2]
  generalize loV r / 2 ^ (8 * (i / 8)) = z
  have hm : i % 8 < 8 := Nat.mod_lt _ (by decide)
  have : z % 256 / 2 ^ (i % 8) % 2 = z / 2 ^ (i % 8) % 2 := by
    have hz := Nat.testBit_mod_two_pow z 8 (i % 8)
    rw [Nat.testBit_eq_decide_div_mod_eq, Nat.testBit_eq_decide_div_mod_eq, show (2 : Nat) ^ 8 = 256 by decide] at hz
    have h1 : decide (i % 8 < 8) = true := decide_eq_true hm
    rw [h1, Bool.true_and, decide_eq_decide] at hz
    have a1 : z % 256 / 2 ^ (i % 8) % 2 < 2 := Nat.mod_lt _ (by decide)
    have a2 : z / 2 ^ (i % 8) % 2 < 2 := Nat.mod_lt _ (by decide)
    omega
  rw [this]
theorem mod_bit (u i : Nat) : u % 2 ^ (i + 1) = if u.testBit i = true then u % 2 ^ i ||| 2 ^ i else u % 2 ^ i := by
  apply Nat.eq_of_testBit_eq
  intro j
  rw [Nat.testBit_mod_two_pow]
  split
  · rename_i hb
    rw [Nat.testBit_or, Nat.testBit_mod_two_pow, Nat.testBit_two_pow]
    by_cases e : i = j
    · subst e; simp [hb]
    · by_cases hj : j < i
      · simp [hj, e, show j < i + 1 by omega]
      · simp [hj, e, show ¬ j < i + 1 by omega]
  · rename_i hb
    rw [Nat.testBit_mod_two_pow]
    by_cases e : i = j
    · subst e; simp at hb; simp [hb]
    · by_cases hj : j < i
      · simp [hj, show j < i + 1 by omega]
      · simp [hj, show ¬ j < i + 1 by omega]
theorem lt_of_bits {u n m : Nat} (hm : u < 2 ^ m) (h : ∀ j, j < m → u.testBit j = true → j < n) : u < 2 ^ n := by
  apply Nat.lt_pow_two_of_testBit
  intro j hj
  rcases Nat.lt_or_ge j m with h1 | h1
  · cases hb : u.testBit j with
    | false => rfl
    | true => have := h j h1 hb; omega
  · exact testBit_ge hm h1
theorem div_of_bit {u n i : Nat} (hb : u.testBit i = true) (hn : n ≤ i) : u / 2 ^ n ≠ 0 := by
  intro e
  have hlt : u < 2 ^ n := by
    rcases Nat.div_eq_zero_iff.1 e with h | h
    · have := Nat.two_pow_pos n; omega
    · exact h
  rw [testBit_ge hlt hn] at hb; cases hb
theorem half8 {v : Nat} (h : v < 256) : IntKind.u8.wrap ((v : Int).tdiv 2) = ((v / 2 : Nat) : Int) := by
  rw [Int.tdiv_eq_ediv_of_nonneg (by omega), wu8]; omega
theorem div_next (w z : Nat) : w / 2 ^ z / 2 = w / 2 ^ (z + 1) := by rw [Nat.pow_succ, Nat.div_div_eq_div_mul]
theorem mod2 (v : Nat) : (v : Int).tmod 2 = ((v % 2 : Nat) : Int) := by rw [Int.tmod_eq_emod_of_nonneg (by omega)]; omega
theorem int1 {v : Nat} : (v : Int) = 1 ↔ v = 1 := by omega
end Go.Sl
