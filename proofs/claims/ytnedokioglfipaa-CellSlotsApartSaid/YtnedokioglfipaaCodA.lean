/- A part of the proof: contracts and plain lemmas, each without conditions beyond those that it names. -/
import Derived.Test.YtnedokioglfipaaMSec
set_option linter.unusedVariables false
set_option linter.unusedSimpArgs false
set_option linter.constructorNameAsVariable false
namespace Go.Sl
set_option linter.unusedSimpArgs false
/-! the code of records, plain -/
def zig (n : Int) : Nat := if 0 ≤ n then (2 * n).toNat else (-2 * n - 1).toNat
def zag (u : Nat) : Int := if u % 2 = 0 then ((u / 2 : Nat) : Int) else -((u / 2 : Nat) : Int) - 1
theorem zag_zig (n : Int) : zag (zig n) = n := by
  unfold zag zig
  split <;> split <;> omega
theorem zig_zag (u : Nat) : zig (zag u) = u := by
  unfold zag zig
  split <;> split <;> omega
theorem zig_lt {n : Int} (h1 : -9223372036854775808 ≤ n) (h2 : n ≤ 9223372036854775807) : zig n < 18446744073709551616 := by
  unfold zig; split <;> omega
theorem zag_range {u : Nat} (h : u < 18446744073709551616) : -9223372036854775808 ≤ zag u ∧ zag u ≤ 9223372036854775807 := by
  unfold zag; split <;> omega
def numB (u : Nat) : Bytes := if u < 128 then [UInt8.ofNat u] else UInt8.ofNat (u % 128 + 128) :: numB (u / 128)
termination_by u
decreasing_by omega
def numD : Nat → Bytes → Option (Nat × Bytes)
  | _, [] => none
  | k, x :: r => if (k = 9 ∧ 1 < x.toNat) ∨ (0 < k ∧ x.toNat = 0) then none else if x.toNat < 128 then some (x.toNat, r) else
    match numD (k + 1) r with
    | none => none
    | some q => some (x.toNat - 128 + 128 * q.1, q.2)
theorem numD_numB (r : Bytes) : ∀ (u k : Nat), u < 2 ^ (64 - 7 * k) → k ≤ 9 → (0 < k → 0 < u) → numD k (numB u ++ r) = some (u, r) := by
  intro u
  induction u using Nat.strongRecOn with
  | _ u ih =>
    intro k hu hk h0
    unfold numB
    by_cases h : u < 128
    · rw [if_pos h]
      have hb : (UInt8.ofNat u).toNat = u := by rw [UInt8.toNat_ofNat']; omega
      have h9 : ¬ ((k = 9 ∧ 1 < u) ∨ (0 < k ∧ u = 0)) := by
        rintro (⟨rfl, h1⟩ | ⟨h1, h2⟩)
        · simp at hu; omega
        · have := h0 h1; omega
      simp only [List.cons_append, List.nil_append, numD, hb]
      rw [if_neg h9, if_pos h]
    · rw [if_neg h]
      have hb : (UInt8.ofNat (u % 128 + 128)).toNat = u % 128 + 128 := by rw [UInt8.toNat_ofNat']; omega
      have hk8 : k ≤ 8 := by
        rcases Nat.lt_or_ge k 9 with h1 | h1
        · omega
        · have : k = 9 := by omega
          subst this
          simp at hu; omega
      have h9 : ¬ ((k = 9 ∧ 1 < u % 128 + 128) ∨ (0 < k ∧ u % 128 + 128 = 0)) := by omega
      have hu' : u / 128 < 2 ^ (64 - 7 * (k + 1)) := by
        rw [Nat.div_lt_iff_lt_mul (by omega)]
        have e : 2 ^ (64 - 7 * (k + 1)) * 128 = 2 ^ (64 - 7 * (k + 1) + 7) := by rw [Nat.pow_add]
        rcases Nat.lt_or_ge k 9 with h1 | h1
        · rcases Nat.lt_or_ge (7 * (k + 1)) 65 with h2 | h2
          · rw [e, show 64 - 7 * (k + 1) + 7 = 64 - 7 * k by omega]; exact hu
          · omega
        · omega
      have := ih (u / 128) (by omega) (k + 1) hu' (by omega) (fun _ => by omega)
      simp only [List.cons_append, numD, hb]
      rw [if_neg h9, if_neg (by omega), this]
      simp only [Option.some.injEq, Prod.mk.injEq, and_true]
      omega
def numsD : Nat → Bytes → Option (List Int × Bytes)
  | 0, r => some ([], r)
  | n + 1, r => match numD 0 r with
    | none => none
    | some q => match numsD n q.2 with
      | none => none
      | some t => some (zag q.1 :: t.1, t.2)
def textD : Bytes → Option (Bytes × Bytes)
  | [] => none
  | x :: r => if 200 < x.toNat then none else if r.length < x.toNat then none else some (r.take x.toNat, r.drop x.toNat)
def textsD : Nat → Bytes → Option (List Bytes × Bytes)
  | 0, r => some ([], r)
  | n + 1, r => match textD r with
    | none => none
    | some q => match textsD n q.2 with
      | none => none
      | some t => some (q.1 :: t.1, t.2)
structure RecM where
  kind : Int
  nums : List Int
  texts : List Bytes
def headN (h : Nat) : Nat := if 240 ≤ h then 16 else h % 16
def headT (h : Nat) : Nat := if 240 ≤ h then h - 240 else h / 16
def recD : Bytes → Option RecM
  | k :: h :: r => if 4 < headT h.toNat then none else
    match numsD (headN h.toNat) r with
    | none => none
    | some q => match textsD (headT h.toNat) q.2 with
      | none => none
      | some t => if t.2 = [] then some ⟨k.toNat, q.1, t.1⟩ else none
  | _ => none
def headB (n t : Nat) : UInt8 := if n = 16 then UInt8.ofNat (240 + t) else UInt8.ofNat (n + 16 * t)
def numsB (ns : List Int) : Bytes := ns.flatMap fun n => numB (zig n)
def textsB (ts : List Bytes) : Bytes := ts.flatMap fun t => UInt8.ofNat t.length :: t
def recB (r : RecM) : Bytes := UInt8.ofNat r.kind.toNat :: headB r.nums.length r.texts.length :: (numsB r.nums ++ textsB r.texts)
/-- A record that may be. -/
structure RecM.may (r : RecM) : Prop where
  k0 : 0 ≤ r.kind
  k1 : r.kind ≤ 255
  ns : r.nums.length ≤ 16
  ts : r.texts.length ≤ 4
  len : ∀ t ∈ r.texts, t.length ≤ 200
  num : ∀ n ∈ r.nums, -9223372036854775808 ≤ n ∧ n ≤ 9223372036854775807
theorem numsD_numsB (r : Bytes) : ∀ (ns : List Int), (∀ n ∈ ns, -9223372036854775808 ≤ n ∧ n ≤ 9223372036854775807) → numsD ns.length (numsB ns ++ r) = some (ns, r)
  | [], _ => rfl
  | n :: ns, h => by
    have hn := h n (by simp)
    have h1 := numD_numB (numsB ns ++ r) (zig n) 0 (by have := zig_lt hn.1 hn.2; simpa using this) (by omega) (by omega)
    have h2 := numsD_numsB r ns (fun m hm => h m (by simp [hm]))
    simp only [numsB, List.flatMap_cons, List.length_cons, numsD, List.append_assoc] at h1 h2 ⊢
    rw [h1]
    simp only
    rw [h2]
    simp only [zag_zig]
theorem textsD_textsB (r : Bytes) : ∀ (ts : List Bytes), (∀ t ∈ ts, t.length ≤ 200) → textsD ts.length (textsB ts ++ r) = some (ts, r)
  | [], _ => rfl
  | t :: ts, h => by
    have ht := h t (by simp)
    have h2 := textsD_textsB r ts (fun m hm => h m (by simp [hm]))
    have hb : (UInt8.ofNat t.length).toNat = t.length := by rw [UInt8.toNat_ofNat']; omega
    simp only [textsB, List.flatMap_cons, List.length_cons, textsD, List.append_assoc, List.cons_append, textD, hb] at h2 ⊢
    rw [if_neg (by omega), if_neg (by simp)]
    simp only [List.take_left, List.drop_left]
    rw [h2]
theorem head_n {n t : Nat} (hn : n ≤ 16) (ht : t ≤ 4) : headN (headB n t).toNat = n ∧ headT (headB n t).toNat = t := by
  unfold headN headT headB
  by_cases h : n = 16
  · rw [if_pos h, UInt8.toNat_ofNat', show (240 + t) % 2 ^ 8 = 240 + t by omega]
    rw [if_pos (by omega), if_pos (by omega)]
    omega
  · rw [if_neg h, UInt8.toNat_ofNat', show (n + 16 * t) % 2 ^ 8 = n + 16 * t by omega]
    rw [if_neg (by omega), if_neg (by omega)]
    omega
theorem recD_recB {r : RecM} (h : r.may) : recD (recB r) = some r := by
  obtain ⟨h1, h2⟩ := head_n h.ns h.ts
  have hk : (UInt8.ofNat r.kind.toNat).toNat = r.kind.toNat := by rw [UInt8.toNat_ofNat']; have := h.k0; have := h.k1; omega
  have h3 := numsD_numsB (textsB r.texts) r.nums h.num
  have h4 := textsD_textsB [] r.texts h.len
  rw [List.append_nil] at h4
  unfold recB recD
  simp only [h1, h2, hk]
  rw [if_neg (by have := h.ts; omega), h3]
  simp only
  rw [h4]
  simp only [if_true]
  have : ((r.kind.toNat : Nat) : Int) = r.kind := by have := h.k0; omega
  rw [this]
theorem recB_inj {r s : RecM} (hr : r.may) (hs : s.may) (h : recB r = recB s) : r = s := by
  have := recD_recB hr
  rw [h, recD_recB hs] at this
  cases this; rfl
end Go.Sl
