/- A part of the proof: contracts and plain lemmas, each without conditions beyond those that it names. -/
import Derived.Test.YtnedokioglfipaaCodD
set_option linter.unusedVariables false
set_option linter.unusedSimpArgs false
set_option linter.constructorNameAsVariable false
namespace Go.Sl
set_option linter.unusedSimpArgs false
/-! a cell's slots, plain -/
def be4 (n : Nat) : Bytes := [UInt8.ofNat (n / 16777216 % 256), UInt8.ofNat (n / 65536 % 256), UInt8.ofNat (n / 256 % 256), UInt8.ofNat (n % 256)]
def ofBe4 : Bytes → Nat
  | a :: b :: c :: d :: _ => a.toNat * 16777216 + b.toNat * 65536 + c.toNat * 256 + d.toNat
  | _ => 0
theorem ofBe4_be4 {n : Nat} (h : n < 4294967296) (r : Bytes) : ofBe4 (be4 n ++ r) = n := by
  simp only [be4, List.cons_append, List.nil_append, ofBe4, UInt8.toNat_ofNat']
  omega
def be4V (n : Nat) : List Value := [.int .u8 ((n / 16777216 % 256 : Nat) : Int), .int .u8 ((n / 65536 % 256 : Nat) : Int), .int .u8 ((n / 256 % 256 : Nat) : Int), .int .u8 ((n % 256 : Nat) : Int)]
theorem be4V_eq (n : Nat) : be4V n = bytesV (be4 n) := by
  simp [be4V, be4, bytesV, UInt8.toNat_ofNat']
def framed (rec : Bytes) : Bytes := be4 (sumM (UInt8.ofNat rec.length :: rec)) ++ (UInt8.ofNat rec.length :: rec)
def slotR (gen : Int) (s : Bytes) : RecM := ⟨1, [gen], [s]⟩
def slotOk (gen : Int) (s : Bytes) : Bool := !(decide (gen < 1) || decide (4611686018427387904 < gen) || decide (100 < (s.length : Int)))
def slotM (gen : Int) (s : Bytes) : Bytes := if slotOk gen s then framed (recB (slotR gen s)) else []
theorem slotOk_iff {gen : Int} {s : Bytes} : slotOk gen s = true ↔ 1 ≤ gen ∧ gen ≤ 4611686018427387904 ∧ s.length ≤ 100 := by
  unfold slotOk; simp; omega
theorem slot_may {gen : Int} {s : Bytes} (h : slotOk gen s = true) : (slotR gen s).may := by
  obtain ⟨h1, h2, h3⟩ := slotOk_iff.1 h
  refine ⟨by simp [slotR], by simp [slotR], by simp [slotR], by simp [slotR], ?_, ?_⟩
  · intro t ht; simp [slotR] at ht; subst ht; omega
  · intro t ht; simp [slotR] at ht; subst ht; omega
theorem slotB_len {gen : Int} {s : Bytes} (h : slotOk gen s = true) : (recB (slotR gen s)).length ≤ 113 ∧ 4 ≤ (recB (slotR gen s)).length := by
  obtain ⟨h1, h2, h3⟩ := slotOk_iff.1 h
  have h4 := numB_len10 (zig_lt (n := gen) (by omega) (by omega))
  have h5 : 1 ≤ (numB (zig gen)).length := by
    by_cases h : zig gen < 128
    · rw [numB_last h]; simp
    · rw [numB_more h]; simp
  simp [recB, slotR, numsB, textsB]
  omega
theorem framed_len (r : Bytes) : (framed r).length = r.length + 5 := by simp [framed, be4]
theorem slotM_len {gen : Int} {s : Bytes} (h : slotOk gen s = true) : (slotM gen s).length ≤ 118 ∧ 9 ≤ (slotM gen s).length := by
  have := slotB_len h
  unfold slotM; rw [if_pos h, framed_len]; omega
theorem slotM_le (gen : Int) (s : Bytes) : (slotM gen s).length ≤ 118 := by
  by_cases h : slotOk gen s = true
  · exact (slotM_len h).1
  · unfold slotM; rw [if_neg h]; simp
/-- What a slot says. -/
def goodR (r : RecM) : Bool := decide (r.kind = 1) && decide (r.nums.length = 1) && decide (r.texts.length = 1) && slotOk (r.nums.headD 0) (r.texts.headD [])
def readM (b : Bytes) : Option (Int × Bytes) :=
  let n := (b[4]?.getD 0).toNat
  if b.length < n + 5 then none else
  if sumM ((b.drop 4).take (n + 1)) = ofBe4 b then
    match recD ((b.drop 5).take n) with
    | some r => if goodR r then some (r.nums.headD 0, r.texts.headD []) else none
    | none => none
  else none
theorem readM_framed {r : RecM} (hr : r.may) (hl : (recB r).length < 256) (x : Bytes) : readM (framed (recB r) ++ x) = if goodR r then some (r.nums.headD 0, r.texts.headD []) else none := by
  have e4 : (framed (recB r) ++ x)[4]? = some (UInt8.ofNat (recB r).length) := by simp [framed, be4]
  have en : (UInt8.ofNat (recB r).length).toNat = (recB r).length := by rw [UInt8.toNat_ofNat']; omega
  have d4 : (framed (recB r) ++ x).drop 4 = UInt8.ofNat (recB r).length :: (recB r ++ x) := by simp [framed, be4]
  have d5 : (framed (recB r) ++ x).drop 5 = recB r ++ x := by simp [framed, be4]
  unfold readM
  rw [e4, Option.getD_some, en]
  dsimp only
  rw [if_neg (by rw [List.length_append, framed_len]; omega), d4, d5]
  have t5 : (UInt8.ofNat (recB r).length :: (recB r ++ x)).take ((recB r).length + 1) = UInt8.ofNat (recB r).length :: recB r := by simp
  have t6 : (recB r ++ x).take (recB r).length = recB r := by simp
  rw [t5, t6]
  have es : ofBe4 (framed (recB r) ++ x) = sumM (UInt8.ofNat (recB r).length :: recB r) := by
    unfold framed; rw [List.append_assoc]; exact ofBe4_be4 (sumM_lt _) _
  rw [es, if_pos rfl, recD_recB hr]
theorem readM_slot {gen : Int} {s : Bytes} (h : slotOk gen s = true) (x : Bytes) : readM (slotM gen s ++ x) = some (gen, s) := by
  unfold slotM
  rw [if_pos h, readM_framed (slot_may h) (by have := (slotB_len h).1; omega)]
  rw [if_pos (by simp [goodR, slotR, h])]
  rfl
theorem readM_pad {gen : Int} {s : Bytes} (h : slotOk gen s = true) : readM (pad (slotM gen s)) = some (gen, s) := readM_slot h _
theorem readM_ok {b : Bytes} {g : Int} {t : Bytes} (h : readM b = some (g, t)) : slotOk g t = true := by
  unfold readM at h
  dsimp only at h
  split at h
  · cases h
  · split at h
    · split at h
      · rename_i r hr
        split at h
        · rename_i hg
          cases h
          unfold goodR at hg
          simp only [Bool.and_eq_true] at hg
          exact hg.2
        · cases h
      · cases h
    · cases h
theorem readM_zero : readM zsec = none := by
  unfold readM
  have e4 : zsec[4]? = some 0 := by decide
  rw [e4]
  dsimp only [Option.getD_some]
  have : (0 : UInt8).toNat = 0 := rfl
  rw [this, if_neg (by simp)]
  have : recD ((zsec.drop 5).take 0) = none := rfl
  rw [this]
  split <;> rfl
/-! a cell -/
structure CellM where
  a : Int
  b : Int
  now : Int
  gen : Int
  text : Bytes
def CellM.see (C : CellM) (i : Int) (r : Option (Int × Bytes)) : CellM := match r with
  | some q => if C.gen < q.1 then { C with now := i, gen := q.1, text := q.2 } else C
  | none => C
def CellM.init (a b : Int) : CellM := ⟨a, b, -1, 0, []⟩
def openC (D : Dev) (a b : Int) : CellM := ((CellM.init a b).see 0 (readM (D.sec a))).see 1 (readM (D.sec b))
def openE (D : Dev) (a b : Int) : Int := if a = b ∨ min a b < 0 ∨ (D.l.length : Int) ≤ max a b then 1 else if D.dead = true then 30 else 0
def CellM.other (C : CellM) : Int := if C.now = 0 then C.b else C.a
def CellM.put (C : CellM) (D : Dev) (s : Bytes) : Int × CellM × Dev :=
  if (100 : Int) < s.length then (3, C, D) else if C.gen = 4611686018427387904 then (23, C, D) else
  let w := D.write C.other (slotM (IntKind.i64.wrap (C.gen + 1)) s)
  if w.1 ≠ 0 then (w.1, C, w.2) else
  let b := w.2.barrier
  if b.1 ≠ 0 then (b.1, C, b.2) else
  (0, { C with now := if C.now = 0 then 1 else 0, gen := IntKind.i64.wrap (C.gen + 1), text := s }, b.2)
structure CellM.ok (C : CellM) (n : Nat) : Prop where
  a : 0 ≤ C.a ∧ C.a < n
  b : 0 ≤ C.b ∧ C.b < n
  ab : C.a ≠ C.b
  now : C.now = -1 ∨ C.now = 0 ∨ C.now = 1
  gen : 0 ≤ C.gen ∧ C.gen ≤ 4611686018427387904
  text : C.text.length ≤ 100
theorem CellM.see_ok {C : CellM} {n : Nat} (h : C.ok n) {i : Int} (hi : i = 0 ∨ i = 1) (b : Bytes) : (C.see i (readM b)).ok n := by
  unfold CellM.see
  cases hr : readM b with
  | none => exact h
  | some q =>
    dsimp only
    split
    · obtain ⟨h1, h2, h3⟩ := slotOk_iff.1 (readM_ok (g := q.1) (t := q.2) hr)
      exact ⟨h.a, h.b, h.ab, by dsimp only; omega, by dsimp only; omega, h3⟩
    · exact h
theorem openC_ok {D : Dev} {a b : Int} (h : openE D a b = 0) : (openC D a b).ok D.l.length ∧ D.dead = false := by
  unfold openE at h
  split at h
  · cases h
  · rename_i h1
    split at h
    · cases h
    · rename_i h2
      refine ⟨?_, by simpa using h2⟩
      have h0 : (CellM.init a b).ok D.l.length := ⟨by simp only [CellM.init]; omega, by simp only [CellM.init]; omega, by simp only [CellM.init]; omega, .inl rfl, by simp [CellM.init], by simp [CellM.init]⟩
      exact CellM.see_ok (CellM.see_ok h0 (.inl rfl) _) (.inr rfl) _
theorem put_ok {C : CellM} {D : Dev} (hC : C.ok D.l.length) (hD : D.ok) (s : Bytes) : (C.put D s).2.1.ok D.l.length ∧ (C.put D s).2.2.ok := by
  unfold CellM.put
  split
  · exact ⟨hC, hD⟩
  · rename_i h1
    split
    · exact ⟨hC, hD⟩
    · rename_i h2
      have hw := Dev.write_ok hD C.other (slotM (IntKind.i64.wrap (C.gen + 1)) s)
      have hb := Dev.barrier_ok hw
      have hg := hC.gen
      dsimp only
      split
      · exact ⟨hC, hw⟩
      · split
        · exact ⟨hC, hb⟩
        · refine ⟨⟨hC.a, hC.b, hC.ab, ?_, ?_, ?_⟩, hb⟩
          · dsimp only; split <;> omega
          · dsimp only; rw [wr (by omega) (by omega)]; omega
          · dsimp only; omega
end Go.Sl
