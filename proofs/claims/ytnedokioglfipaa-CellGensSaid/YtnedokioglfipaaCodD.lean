/- A part of the proof: contracts and plain lemmas, each without conditions beyond those that it names. -/
import Derived.Test.YtnedokioglfipaaCodC
set_option linter.unusedVariables false
set_option linter.unusedSimpArgs false
set_option linter.constructorNameAsVariable false
namespace Go.Sl
set_option linter.unusedSimpArgs false
/-! encoding, plain -/
theorem numB_last {u : Nat} (h : u < 128) : numB u = [UInt8.ofNat u] := by unfold numB; rw [if_pos h]
theorem numB_more {u : Nat} (h : ¬ u < 128) : numB u = UInt8.ofNat (u % 128 + 128) :: numB (u / 128) := by
  conv => lhs; unfold numB
  rw [if_neg h]
theorem numB_len : ∀ (k u : Nat), u < 128 ^ k → 0 < k → (numB u).length ≤ k
  | 0, _, _, h => absurd h (by omega)
  | k + 1, u, hu, _ => by
    by_cases h : u < 128
    · rw [numB_last h]; simp
    · rw [numB_more h]
      have hk : 0 < k := by
        rcases Nat.eq_zero_or_pos k with h0 | h0
        · subst h0; simp at hu; omega
        · exact h0
      have := numB_len k (u / 128) (by rw [Nat.div_lt_iff_lt_mul (by omega)]; rwa [Nat.pow_succ] at hu) hk
      simp; omega
theorem numB_len10 {u : Nat} (h : u < 18446744073709551616) : (numB u).length ≤ 10 := numB_len 10 u (by have : (128 : Nat) ^ 10 = 1180591620717411303424 := by decide
                                                                                                        omega) (by omega)
def RecM.mayB (r : RecM) : Bool := decide (0 ≤ r.kind) && decide (r.kind ≤ 255) && decide ((r.nums.length : Int) ≤ 16) && decide ((r.texts.length : Int) ≤ 4) && !(r.texts.any fun t => decide (200 < (t.length : Int)))
def I64s (ns : List Int) : Prop := ∀ n ∈ ns, -9223372036854775808 ≤ n ∧ n ≤ 9223372036854775807
theorem may_of {r : RecM} (h : r.mayB = true) (hn : I64s r.nums) : r.may := by
  unfold RecM.mayB at h
  simp only [Bool.and_eq_true, decide_eq_true_eq, Bool.not_eq_true', List.any_eq_false] at h
  obtain ⟨⟨⟨⟨h1, h2⟩, h3⟩, h4⟩, h5⟩ := h
  refine ⟨h1, h2, by omega, by omega, fun t ht => ?_, hn⟩
  have := h5 t ht
  omega
theorem mayB_of {r : RecM} (h : r.may) : r.mayB = true := by
  unfold RecM.mayB
  simp only [Bool.and_eq_true, decide_eq_true_eq, Bool.not_eq_true', List.any_eq_false]
  refine ⟨⟨⟨⟨h.k0, h.k1⟩, by have := h.ns; omega⟩, by have := h.ts; omega⟩, fun t ht => ?_⟩
  have := h.len t ht
  omega
def encM (r : RecM) : Bytes × Int := if r.mayB then (recB r, 0) else ([], 4)
theorem headB_nat {n t : Nat} (hn : n ≤ 16) (ht : t ≤ 4) : (headB n t).toNat = if n = 16 then 240 + t else n + 16 * t := by
  unfold headB
  split
  · rw [UInt8.toNat_ofNat']; omega
  · rw [UInt8.toNat_ofNat']; omega
theorem numsB_snoc (ns : List Int) (n : Int) : numsB (ns ++ [n]) = numsB ns ++ numB (zig n) := by simp [numsB]
theorem textsB_snoc (ts : List Bytes) (t : Bytes) : textsB (ts ++ [t]) = textsB ts ++ (UInt8.ofNat t.length :: t) := by simp [textsB]
theorem numsB_len : ∀ {ns : List Int}, I64s ns → (numsB ns).length ≤ ns.length * 10
  | [], _ => by simp [numsB]
  | n :: ns, h => by
    have ih := numsB_len (ns := ns) (fun m hm => h m (by simp [hm]))
    have h1 := h n (by simp)
    have := numB_len10 (zig_lt h1.1 h1.2)
    simp only [numsB, List.flatMap_cons, List.length_append, List.length_cons] at ih ⊢
    omega
theorem textsB_len : ∀ {ts : List Bytes}, (∀ t ∈ ts, t.length ≤ 200) → (textsB ts).length ≤ ts.length * 201
  | [], _ => by simp [textsB]
  | t :: ts, h => by
    have ih := textsB_len (ts := ts) (fun m hm => h m (by simp [hm]))
    have h1 := h t (by simp)
    simp only [textsB, List.flatMap_cons, List.length_append, List.length_cons] at ih ⊢
    omega
theorem recB_len {r : RecM} (h : r.may) : (recB r).length ≤ 1000 := by
  have h1 := numsB_len h.num
  have h2 := textsB_len h.len
  have := h.ns
  have := h.ts
  simp only [recB, List.length_cons, List.length_append]
  omega
theorem take_snoc {α : Type} {l : List α} {k : Nat} {x : α} (h : l[k]? = some x) : l.take (k + 1) = l.take k ++ [x] := by
  rw [List.take_add_one, h]; rfl
theorem bytesV_snoc (a : Bytes) (k : Nat) (h : k < 256) : bytesV a ++ [.int .u8 k] = bytesV (a ++ [UInt8.ofNat k]) := by
  rw [bytesV_append]; congr 1
  simp [bytesV]; omega
theorem I64s.take {ns : List Int} (h : I64s ns) (k : Nat) : I64s (ns.take k) := fun n hn => h n (List.mem_of_mem_take hn)
/-! what is written so far -/
def encA (r : RecM) (k : Nat) : Bytes := UInt8.ofNat r.kind.toNat :: headB r.nums.length r.texts.length :: numsB (r.nums.take k)
def encB (r : RecM) (k : Nat) : Bytes := encA r r.nums.length ++ textsB (r.texts.take k)
theorem encA_succ {r : RecM} {k : Nat} {n : Int} (h : r.nums[k]? = some n) : encA r (k + 1) = encA r k ++ numB (zig n) := by
  unfold encA; rw [take_snoc h, numsB_snoc]; rfl
theorem encB_zero (r : RecM) : encB r 0 = encA r r.nums.length := by simp [encB, textsB]
theorem encB_succ {r : RecM} {k : Nat} {t : Bytes} (h : r.texts[k]? = some t) : encB r (k + 1) = encB r k ++ [UInt8.ofNat t.length] ++ t := by
  unfold encB; rw [take_snoc h, textsB_snoc]; simp
theorem encB_all (r : RecM) : encB r r.texts.length = recB r := by simp [encB, encA, recB]
theorem encA_len {r : RecM} (h : r.may) (k : Nat) : (encA r k).length ≤ 162 := by
  have h1 := numsB_len (I64s.take h.num k)
  have h2 := h.ns
  simp only [encA, List.length_cons]
  simp only [List.length_take] at h1
  omega
theorem encB_len {r : RecM} (h : r.may) (k : Nat) : (encB r k).length ≤ 1000 := by
  have h1 := encA_len h r.nums.length
  have h2 := textsB_len (ts := r.texts.take k) (fun t ht => h.len t (List.mem_of_mem_take ht))
  have h3 := h.ts
  simp only [encB, List.length_append]
  simp only [List.length_take] at h2
  omega
end Go.Sl
