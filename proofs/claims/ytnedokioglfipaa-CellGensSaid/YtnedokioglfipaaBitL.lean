/- A part of the proof: contracts and plain lemmas, each without conditions beyond those that it names. -/
import Derived.Test.YtnedokioglfipaaSlV
set_option linter.unusedVariables false
set_option linter.unusedSimpArgs false
set_option linter.constructorNameAsVariable false
namespace Go.Sl
set_option linter.unusedSimpArgs false
/-! ### bits and numbers -/
theorem wrapU {k : IntKind} (hk : k.signed = false) (n : Int) : k.wrap n = n % 2 ^ k.bits := by unfold IntKind.wrap; simp [hk]
theorem wu8 (n : Int) : IntKind.u8.wrap n = n % 256 := by rw [wrapU rfl]; rfl
theorem wu32 (n : Int) : IntKind.u32.wrap n = n % 4294967296 := by rw [wrapU rfl]; rfl
theorem wu64 (n : Int) : IntKind.u64.wrap n = n % 18446744073709551616 := by rw [wrapU rfl]; rfl
theorem ofInt_nat {w p : Nat} : (BitVec.ofInt w (p : Int)) = BitVec.ofNat w p := by simp
theorem bAnd_u {k : IntKind} (hk : k.signed = false) {p q : Nat} (hp : p < 2 ^ k.bits) (hq : q < 2 ^ k.bits) : bAnd k p q = ((p &&& q : Nat) : Int) := by
  unfold bAnd
  rw [wrapU hk, ofInt_nat, ofInt_nat, BitVec.toNat_and, BitVec.toNat_ofNat, BitVec.toNat_ofNat, Nat.mod_eq_of_lt hp, Nat.mod_eq_of_lt hq]
  have : p &&& q < 2 ^ k.bits := Nat.and_lt_two_pow _ hq
  exact_mod_cast Nat.mod_eq_of_lt this
theorem bOr_u {k : IntKind} (hk : k.signed = false) {p q : Nat} (hp : p < 2 ^ k.bits) (hq : q < 2 ^ k.bits) : bOr k p q = ((p ||| q : Nat) : Int) := by
  unfold bOr
  rw [wrapU hk, ofInt_nat, ofInt_nat, BitVec.toNat_or, BitVec.toNat_ofNat, BitVec.toNat_ofNat, Nat.mod_eq_of_lt hp, Nat.mod_eq_of_lt hq]
  have : p ||| q < 2 ^ k.bits := Nat.or_lt_two_pow hp hq
  exact_mod_cast Nat.mod_eq_of_lt this
theorem bXor_u {k : IntKind} (hk : k.signed = false) {p q : Nat} (hp : p < 2 ^ k.bits) (hq : q < 2 ^ k.bits) : bXor k p q = ((p ^^^ q : Nat) : Int) := by
  unfold bXor
  rw [wrapU hk, ofInt_nat, ofInt_nat, BitVec.toNat_xor, BitVec.toNat_ofNat, BitVec.toNat_ofNat, Nat.mod_eq_of_lt hp, Nat.mod_eq_of_lt hq]
  have : p ^^^ q < 2 ^ k.bits := Nat.xor_lt_two_pow hp hq
  exact_mod_cast Nat.mod_eq_of_lt this
theorem and127 {x : Nat} (hx : x < 256) : bAnd .u8 x 127 = ((x % 128 : Nat) : Int) := by
  have := bAnd_u (k := .u8) rfl (p := x) (q := 127) hx (by decide)
  rw [show ((127 : Nat) : Int) = 127 from rfl] at this
  rw [this, show (127 : Nat) = 2 ^ 7 - 1 from rfl, Nat.and_two_pow_sub_one_eq_mod]
theorem or128 {x : Nat} (hx : x < 256) : bOr .u8 x 128 = ((x % 128 + 128 : Nat) : Int) := by
  have := bOr_u (k := .u8) rfl (p := x) (q := 128) hx (by decide)
  rw [show ((128 : Nat) : Int) = 128 from rfl] at this
  rw [this]
  have key : ∀ y : Nat, y < 128 → y ||| 128 = y + 128 := by
    intro z hz
    have := Nat.two_pow_add_eq_or_of_lt (i := 7) (b := z) (by omega) 1
    rw [Nat.or_comm, show (128 : Nat) = 2 ^ 7 * 1 from rfl, ← this, Nat.add_comm]
  congr 1
  by_cases h : x < 128
  · rw [key x h]; omega
  · have e : x = (x % 128) ||| 128 := by rw [key _ (by omega)]; omega
    conv => lhs; rw [e]
    rw [Nat.or_assoc, Nat.or_self, key _ (by omega)]
theorem and1_64 {u : Nat} (hu : u < 18446744073709551616) : bAnd .u64 u 1 = ((u % 2 : Nat) : Int) := by
  have := bAnd_u (k := .u64) rfl (p := u) (q := 1) hu (by decide)
  rw [show ((1 : Nat) : Int) = 1 from rfl] at this
  rw [this, Nat.and_one_is_mod]
theorem and1_32 {u : Nat} (hu : u < 4294967296) : bAnd .u32 u 1 = ((u % 2 : Nat) : Int) := by
  have := bAnd_u (k := .u32) rfl (p := u) (q := 1) hu (by decide)
  rw [show ((1 : Nat) : Int) = 1 from rfl] at this
  rw [this, Nat.and_one_is_mod]
theorem orShift {u x m : Nat} (hu : u < 2 ^ m) (hb : x * 2 ^ m < 18446744073709551616) (h64 : u < 18446744073709551616) : bOr .u64 u ((x * 2 ^ m : Nat) : Int) = ((u + x * 2 ^ m : Nat) : Int) := by
  rw [bOr_u rfl h64 hb]
  congr 1
  have := Nat.two_pow_add_eq_or_of_lt hu x
  rw [Nat.or_comm, Nat.mul_comm x, ← this, Nat.add_comm]
theorem xor_zero_i64 {p : Int} (h0 : -9223372036854775808 ≤ p) (h1 : p ≤ 9223372036854775807) : bXor .i64 p 0 = p := by
  unfold bXor
  rw [show IntKind.i64.bits = 64 from rfl, show BitVec.ofInt 64 0 = 0#64 from rfl, BitVec.xor_zero, BitVec.toNat_ofInt]
  have := @IntKind.wrap
  unfold IntKind.wrap
  simp [IntKind.bits, IntKind.signed]
  omega
theorem xor_ones_i64 {p : Int} (h0 : -9223372036854775808 ≤ p) (h1 : p ≤ 9223372036854775807) : bXor .i64 p (-1) = -p - 1 := by
  unfold bXor
  rw [show IntKind.i64.bits = 64 from rfl, show BitVec.ofInt 64 (-1) = BitVec.allOnes 64 from rfl, BitVec.xor_allOnes, BitVec.toNat_not, BitVec.toNat_ofInt]
  unfold IntKind.wrap
  simp [IntKind.bits, IntKind.signed]
  omega
theorem xor_ones_u64 {p : Nat} (h : p < 18446744073709551616) : bXor .u64 p 18446744073709551615 = ((18446744073709551615 - p : Nat) : Int) := by
  have := bXor_u (k := .u64) rfl (p := p) (q := 18446744073709551615) h (by decide)
  rw [show ((18446744073709551615 : Nat) : Int) = 18446744073709551615 from rfl] at this
  rw [this]
  congr 1
  have h2 : (BitVec.ofNat 64 p ^^^ BitVec.allOnes 64).toNat = (~~~ (BitVec.ofNat 64 p)).toNat := by rw [BitVec.xor_allOnes]
  rw [BitVec.toNat_xor, BitVec.toNat_not, BitVec.toNat_ofNat, BitVec.toNat_allOnes, Nat.mod_eq_of_lt (by simpa using h)] at h2
  simpa using h2
theorem xor_zero_u64 {p : Nat} (h : p < 18446744073709551616) : bXor .u64 p 0 = (p : Int) := by
  have := bXor_u (k := .u64) rfl (p := p) (q := 0) h (by decide)
  simpa using this
/-- What a number's bytes say: both ways. -/
theorem zag_bits {u : Nat} (hu : u < 18446744073709551616) : bXor .i64 (IntKind.i64.wrap ((u / 2 : Nat) : Int)) (IntKind.i64.wrap (-(IntKind.i64.wrap ((u % 2 : Nat) : Int)))) = zag u := by
  unfold zag
  have hw : IntKind.i64.wrap ((u / 2 : Nat) : Int) = ((u / 2 : Nat) : Int) := wr (by omega) (by omega)
  rw [hw]
  by_cases h : u % 2 = 0
  · rw [if_pos h, h, show IntKind.i64.wrap (-(IntKind.i64.wrap ((0 : Nat) : Int))) = 0 by decide]
    exact xor_zero_i64 (by omega) (by omega)
  · have h1 : u % 2 = 1 := by omega
    rw [if_neg h, h1, show IntKind.i64.wrap (-(IntKind.i64.wrap ((1 : Nat) : Int))) = -1 by decide]
    exact xor_ones_i64 (by omega) (by omega)
theorem zig_bits {n : Int} (h1 : -9223372036854775808 ≤ n) (h2 : n ≤ 9223372036854775807) :
    bXor .u64 (IntKind.u64.wrap (IntKind.u64.wrap n * 2)) (IntKind.u64.wrap (n.fdiv 9223372036854775808)) = (zig n : Int) := by
  unfold zig
  rw [wu64, wu64, wu64]
  have hf : n.fdiv 9223372036854775808 = n / 9223372036854775808 := Int.fdiv_eq_ediv_of_nonneg _ (by omega)
  rw [hf]
  by_cases h : 0 ≤ n
  · rw [if_pos h, show n / 9223372036854775808 = 0 by omega, show (0 : Int) % 18446744073709551616 = 0 from rfl]
    have e : n % 18446744073709551616 * 2 % 18446744073709551616 = (((2 * n).toNat : Nat) : Int) := by omega
    rw [e]
    exact xor_zero_u64 (by omega)
  · rw [if_neg h, show n / 9223372036854775808 = -1 by omega, show (-1 : Int) % 18446744073709551616 = 18446744073709551615 from rfl]
    have e : n % 18446744073709551616 * 2 % 18446744073709551616 = (((18446744073709551616 + 2 * n).toNat : Nat) : Int) := by omega
    rw [e, xor_ones_u64 (by omega)]
    omega
/-! ### sums -/
def crcBit (s : Nat) : Nat := if s % 2 = 1 then (s / 2) ^^^ 2197175160 else s / 2
theorem crcBit_lt {s : Nat} (h : s < 4294967296) : crcBit s < 4294967296 := by
  unfold crcBit
  split
  · exact Nat.xor_lt_two_pow (n := 32) (by omega) (by omega)
  · omega
def crcN : Nat → Nat → Nat
  | 0, s => s
  | k + 1, s => crcBit (crcN k s)
def crcOn (s : Nat) (b : UInt8) : Nat := crcN 8 (s ^^^ b.toNat)
theorem crcN_lt {s : Nat} (h : s < 4294967296) : ∀ k, crcN k s < 4294967296
  | 0 => h
  | k + 1 => crcBit_lt (crcN_lt h k)
theorem crcOn_lt {s : Nat} (b : UInt8) (h : s < 4294967296) : crcOn s b < 4294967296 :=
  crcN_lt (Nat.xor_lt_two_pow (n := 32) h (by have := b.toNat_lt; omega)) 8
def crcMore (s : Nat) (bs : Bytes) : Nat := 4294967295 - bs.foldl crcOn (4294967295 - s)
def sumM (bs : Bytes) : Nat := crcMore 0 bs
theorem crcFold_lt : ∀ {bs : Bytes} {s : Nat}, s < 4294967296 → bs.foldl crcOn s < 4294967296
  | [], _, h => h
  | b :: bs, _, h => crcFold_lt (bs := bs) (crcOn_lt b h)
theorem sumM_lt (bs : Bytes) : sumM bs < 4294967296 := by unfold sumM crcMore; omega
theorem cpl32 {s : Nat} (h : s < 4294967296) : bXor .u32 (if IntKind.u32.signed then -1 else IntKind.u32.max) s = ((4294967295 - s : Nat) : Int) := by
  have := bXor_u (k := .u32) rfl (p := 4294967295) (q := s) (by decide) h
  rw [show (if IntKind.u32.signed then -1 else IntKind.u32.max) = ((4294967295 : Nat) : Int) from rfl, this]
  congr 1
  have h2 : (BitVec.allOnes 32 ^^^ BitVec.ofNat 32 s).toNat = (~~~ (BitVec.ofNat 32 s)).toNat := by rw [BitVec.allOnes_xor]
  rw [BitVec.toNat_xor, BitVec.toNat_not, BitVec.toNat_ofNat, BitVec.toNat_allOnes, Nat.mod_eq_of_lt (by simpa using h)] at h2
  simpa using h2
theorem crcBit_bits {s : Nat} (h : s < 4294967296) : (if bAnd .u32 s 1 = 1 then bXor .u32 ((s / 2 : Nat) : Int) 2197175160 else ((s / 2 : Nat) : Int)) = (crcBit s : Int) := by
  rw [and1_32 h]
  unfold crcBit
  have := bXor_u (k := .u32) rfl (p := s / 2) (q := 2197175160) (by show _ < 4294967296; omega) (by decide)
  rw [show ((2197175160 : Nat) : Int) = 2197175160 from rfl] at this
  rw [this]
  by_cases h1 : s % 2 = 1
  · rw [if_pos h1, if_pos (by omega)]
  · rw [if_neg h1, if_neg (by omega)]
theorem fdiv2 {u k : Nat} : ((u : Int)).fdiv ((k : Nat) : Int) = ((u / k : Nat) : Int) := by
  rw [Int.fdiv_eq_ediv_of_nonneg _ (by omega)]; rfl
end Go.Sl
