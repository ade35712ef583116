/- A part of the proof: contracts and plain lemmas, each without conditions beyond those that it names. -/
import Derived.Test.YtnedokioglfipaaCelA
set_option linter.unusedVariables false
set_option linter.unusedSimpArgs false
set_option linter.constructorNameAsVariable false
namespace Go.Sl
set_option linter.unusedSimpArgs false
def readT (b : Bytes) : Int × Bytes × Bool := match readM b with
  | some q => (q.1, q.2, true)
  | none => (0, [], false)
theorem readM_eq (b : Bytes) : readM b = if b.length < (b[4]?.getD 0).toNat + 5 then none else if sumM ((b.drop 4).take ((b[4]?.getD 0).toNat + 1)) = ofBe4 b ∧ (decM ((b.drop 5).take (b[4]?.getD 0).toNat)).2 = 0 ∧ goodR (decM ((b.drop 5).take (b[4]?.getD 0).toNat)).1 = true then
    some ((decM ((b.drop 5).take (b[4]?.getD 0).toNat)).1.nums.headD 0, (decM ((b.drop 5).take (b[4]?.getD 0).toNat)).1.texts.headD []) else none := by
  unfold readM
  dsimp only
  split
  · rfl
  · by_cases h : sumM ((b.drop 4).take ((b[4]?.getD 0).toNat + 1)) = ofBe4 b
    · rw [if_pos h]
      cases hr : recD ((b.drop 5).take (b[4]?.getD 0).toNat) with
      | none => rw [decM_none hr]; simp
      | some r =>
        rw [decM_some hr]
        by_cases hg : goodR r = true <;> simp [hg, h]
    · rw [if_neg h, if_neg (fun hh => h hh.1)]
theorem goodR_false {r : RecM} (h : r.kind ≠ 1 ∨ (r.nums.length : Int) ≠ 1 ∨ (r.texts.length : Int) ≠ 1 ∨ (100 : Int) < (r.texts.headD []).length ∨ r.nums.headD 0 < 1 ∨ 4611686018427387904 < r.nums.headD 0) : ¬ goodR r = true := by
  unfold goodR
  simp only [Bool.and_eq_true, decide_eq_true_eq, slotOk_iff]
  omega
theorem goodR_true {r : RecM} (h1 : r.kind = 1) (h2 : (r.nums.length : Int) = 1) (h3 : (r.texts.length : Int) = 1) (h4 : ¬ (100 : Int) < (r.texts.headD []).length) (h5 : ¬ r.nums.headD 0 < 1) (h6 : ¬ 4611686018427387904 < r.nums.headD 0) : goodR r = true := by
  unfold goodR
  simp only [Bool.and_eq_true, decide_eq_true_eq, slotOk_iff]
  omega
theorem readT_bad {b0 b1 b2 b3 b4 : UInt8} {r : Bytes} (h : (b0 :: b1 :: b2 :: b3 :: b4 :: r).length < b4.toNat + 5 ∨ ¬ sumM ((b4 :: r).take (b4.toNat + 1)) = ofBe4 (b0 :: b1 :: b2 :: b3 :: b4 :: r) ∨ ¬ (decM (r.take b4.toNat)).2 = 0 ∨ ¬ goodR (decM (r.take b4.toNat)).1 = true) :
    readT (b0 :: b1 :: b2 :: b3 :: b4 :: r) = (0, [], false) := by
  unfold readT
  rw [readM_eq]
  simp only [List.getElem?_cons_succ, List.getElem?_cons_zero, Option.getD_some, List.drop_succ_cons, List.drop_zero]
  by_cases h0 : (b0 :: b1 :: b2 :: b3 :: b4 :: r).length < b4.toNat + 5
  · rw [if_pos h0]
  · rw [if_neg h0, if_neg (fun ⟨p, q, s⟩ => by rcases h with h | h | h | h; exact h0 h; exact h p; exact h q; exact h s)]
theorem readT_good {b0 b1 b2 b3 b4 : UInt8} {r : Bytes} (h0 : ¬ (b0 :: b1 :: b2 :: b3 :: b4 :: r).length < b4.toNat + 5) (h1 : sumM ((b4 :: r).take (b4.toNat + 1)) = ofBe4 (b0 :: b1 :: b2 :: b3 :: b4 :: r)) (h2 : (decM (r.take b4.toNat)).2 = 0) (h3 : goodR (decM (r.take b4.toNat)).1 = true) :
    readT (b0 :: b1 :: b2 :: b3 :: b4 :: r) = ((decM (r.take b4.toNat)).1.nums.headD 0, (decM (r.take b4.toNat)).1.texts.headD [], true) := by
  unfold readT
  rw [readM_eq]
  simp only [List.getElem?_cons_succ, List.getElem?_cons_zero, Option.getD_some, List.drop_succ_cons, List.drop_zero]
  rw [if_neg h0, if_pos ⟨h1, h2, h3⟩]
theorem be32or {a b c d : Nat} (ha : a < 256) (hb : b < 256) (hc : c < 256) (hd : d < 256) :
    bOr .u32 (bOr .u32 (bOr .u32 (IntKind.u32.wrap (IntKind.u32.wrap (a : Int) * 2 ^ (min (24 : Int).toNat IntKind.u32.bits))) (IntKind.u32.wrap (IntKind.u32.wrap (b : Int) * 2 ^ (min (16 : Int).toNat IntKind.u32.bits)))) (IntKind.u32.wrap (IntKind.u32.wrap (c : Int) * 2 ^ (min (8 : Int).toNat IntKind.u32.bits)))) (IntKind.u32.wrap (d : Int)) =
    ((a * 16777216 + b * 65536 + c * 256 + d : Nat) : Int) := by
  rw [show IntKind.u32.wrap (IntKind.u32.wrap (a : Int) * 2 ^ (min (24 : Int).toNat IntKind.u32.bits)) = ((2 ^ 24 * a : Nat) : Int) by rw [wu32, wu32]; show ((a : Int) % 4294967296 * 16777216) % 4294967296 = _; omega,
    show IntKind.u32.wrap (IntKind.u32.wrap (b : Int) * 2 ^ (min (16 : Int).toNat IntKind.u32.bits)) = ((2 ^ 16 * b : Nat) : Int) by rw [wu32, wu32]; show ((b : Int) % 4294967296 * 65536) % 4294967296 = _; omega,
    show IntKind.u32.wrap (IntKind.u32.wrap (c : Int) * 2 ^ (min (8 : Int).toNat IntKind.u32.bits)) = ((2 ^ 8 * c : Nat) : Int) by rw [wu32, wu32]; show ((c : Int) % 4294967296 * 256) % 4294967296 = _; omega,
    show IntKind.u32.wrap (d : Int) = ((d : Nat) : Int) by rw [wu32]; omega]
  have e1 : (2 ^ 24 * a ||| 2 ^ 16 * b) = 2 ^ 24 * a + 2 ^ 16 * b := (Nat.two_pow_add_eq_or_of_lt (by omega) a).symm
  have e2 : (2 ^ 24 * a + 2 ^ 16 * b ||| 2 ^ 8 * c) = 2 ^ 24 * a + 2 ^ 16 * b + 2 ^ 8 * c := by
    have := (Nat.two_pow_add_eq_or_of_lt (i := 16) (b := 2 ^ 8 * c) (by omega) (2 ^ 8 * a + b)).symm
    rw [show 2 ^ 16 * (2 ^ 8 * a + b) = 2 ^ 24 * a + 2 ^ 16 * b by omega] at this
    exact this
  have e3 : (2 ^ 24 * a + 2 ^ 16 * b + 2 ^ 8 * c ||| d) = 2 ^ 24 * a + 2 ^ 16 * b + 2 ^ 8 * c + d := by
    have := (Nat.two_pow_add_eq_or_of_lt (i := 8) (b := d) (by omega) (2 ^ 16 * a + 2 ^ 8 * b + c)).symm
    rw [show 2 ^ 8 * (2 ^ 16 * a + 2 ^ 8 * b + c) = 2 ^ 24 * a + 2 ^ 16 * b + 2 ^ 8 * c by omega] at this
    exact this
  rw [bOr_u rfl (by show _ < 4294967296; omega) (by show _ < 4294967296; omega), e1, bOr_u rfl (by show _ < 4294967296; omega) (by show _ < 4294967296; omega), e2, bOr_u rfl (by show _ < 4294967296; omega) (by show _ < 4294967296; omega), e3]
  omega
theorem five {bs : Bytes} (h : 5 ≤ bs.length) : ∃ b0 b1 b2 b3 b4 r, bs = b0 :: b1 :: b2 :: b3 :: b4 :: r := by
  match bs, h with
  | b0 :: b1 :: b2 :: b3 :: b4 :: r, _ => exact ⟨b0, b1, b2, b3, b4, r, rfl⟩
theorem head_get {α : Type} {l : List α} {d : α} (h : (l.length : Int) = 1) : l[0]? = some (l.headD d) := by
  match l, h with
  | x :: _, _ => rfl
/-- Whether a slot can be read, in numbers. -/
def Unread (b0 b1 b2 b3 b4 : UInt8) (r : Bytes) (rc : RecM) (er : Int) : Prop :=
  r.length + 5 < b4.toNat + 5 ∨ ¬ sumM ((b4 :: r).take (b4.toNat + 1)) = ofBe4 (b0 :: b1 :: b2 :: b3 :: b4 :: r) ∨ ¬ er = 0 ∨ (rc.kind ≠ 1 ∨ (rc.nums.length : Int) ≠ 1 ∨ (rc.texts.length : Int) ≠ 1 ∨ (100 : Int) < (rc.texts.headD []).length ∨ rc.nums.headD 0 < 1 ∨ 4611686018427387904 < rc.nums.headD 0)
theorem readT_dich {b0 b1 b2 b3 b4 : UInt8} {r : Bytes} : (Unread b0 b1 b2 b3 b4 r (decM (r.take b4.toNat)).1 (decM (r.take b4.toNat)).2 → readT (b0 :: b1 :: b2 :: b3 :: b4 :: r) = (0, [], false)) ∧
    (¬ Unread b0 b1 b2 b3 b4 r (decM (r.take b4.toNat)).1 (decM (r.take b4.toNat)).2 → readT (b0 :: b1 :: b2 :: b3 :: b4 :: r) = ((decM (r.take b4.toNat)).1.nums.headD 0, (decM (r.take b4.toNat)).1.texts.headD [], true)) := by
  constructor
  · rintro (h | h | h | h)
    · exact readT_bad (.inl (by simp only [List.length_cons]; omega))
    · exact readT_bad (.inr (.inl h))
    · exact readT_bad (.inr (.inr (.inl h)))
    · exact readT_bad (.inr (.inr (.inr (goodR_false h))))
  · intro h
    unfold Unread at h
    refine readT_good (by simp only [List.length_cons]; omega) (by omega) (by omega) (goodR_true (by omega) (by omega) (by omega) (by omega) (by omega) (by omega))
/-! puts -/
theorem put_long {C : CellM} {D : Dev} {s : Bytes} (h : (100 : Int) < s.length) : C.put D s = (3, C, D) := by unfold CellM.put; rw [if_pos h]
theorem put_full {C : CellM} {D : Dev} {s : Bytes} (h : ¬ (100 : Int) < s.length) (h2 : C.gen = 4611686018427387904) : C.put D s = (23, C, D) := by unfold CellM.put; rw [if_neg h, if_pos h2]
theorem put_w {C : CellM} {D : Dev} {s : Bytes} {w : Int × Dev} (h : ¬ (100 : Int) < s.length) (h2 : ¬ C.gen = 4611686018427387904) (hw : D.write C.other (slotM (IntKind.i64.wrap (C.gen + 1)) s) = w) (h3 : ¬ w.1 = 0) : C.put D s = (w.1, C, w.2) := by
  unfold CellM.put; rw [if_neg h, if_neg h2, hw]; dsimp only; rw [if_pos h3]
theorem put_b {C : CellM} {D : Dev} {s : Bytes} {w b : Int × Dev} (h : ¬ (100 : Int) < s.length) (h2 : ¬ C.gen = 4611686018427387904) (hw : D.write C.other (slotM (IntKind.i64.wrap (C.gen + 1)) s) = w) (h3 : w.1 = 0) (hb : w.2.barrier = b) (h4 : ¬ b.1 = 0) : C.put D s = (b.1, C, b.2) := by
  unfold CellM.put; rw [if_neg h, if_neg h2, hw]; dsimp only; rw [if_neg (by simpa using h3), hb, if_pos h4]
theorem put_done {C : CellM} {D : Dev} {s : Bytes} {w b : Int × Dev} (h : ¬ (100 : Int) < s.length) (h2 : ¬ C.gen = 4611686018427387904) (hw : D.write C.other (slotM (IntKind.i64.wrap (C.gen + 1)) s) = w) (h3 : w.1 = 0) (hb : w.2.barrier = b) (h4 : b.1 = 0) :
    C.put D s = (0, { C with now := if C.now = 0 then 1 else 0, gen := IntKind.i64.wrap (C.gen + 1), text := s }, b.2) := by
  unfold CellM.put; rw [if_neg h, if_neg h2, hw]; dsimp only; rw [if_neg (by simpa using h3), hb, if_neg (by simpa using h4)]
theorem see_T (C : CellM) (i : Int) (b : Bytes) : C.see i (readM b) = if (readT b).2.2 = true ∧ C.gen < (readT b).1 then { C with now := i, gen := (readT b).1, text := (readT b).2.1 } else C := by
  unfold CellM.see readT
  cases readM b with
  | none => simp
  | some q => simp
def cellAt (a b : Int) (k : Nat) : Int := if k = 0 then a else b
def seeTo (D : Dev) (a b : Int) : Nat → CellM
  | 0 => CellM.init a b
  | k + 1 => (seeTo D a b k).see k (readM (D.sec (cellAt a b k)))
theorem seeTo_two (D : Dev) (a b : Int) : seeTo D a b 2 = openC D a b := rfl
theorem see_ab (C : CellM) (i : Int) (r : Option (Int × Bytes)) : (C.see i r).a = C.a ∧ (C.see i r).b = C.b := by
  unfold CellM.see; cases r with
  | none => exact ⟨rfl, rfl⟩
  | some q => dsimp only; split <;> exact ⟨rfl, rfl⟩
theorem seeTo_a (D : Dev) (a b : Int) : ∀ k, (seeTo D a b k).a = a ∧ (seeTo D a b k).b = b
  | 0 => ⟨rfl, rfl⟩
  | k + 1 => by
    have := seeTo_a D a b k
    unfold seeTo
    rw [(see_ab _ _ _).1, (see_ab _ _ _).2]
    exact this
theorem openE_ok {D : Dev} {a b : Int} (h1 : ¬ a = b) (h2 : ¬ min a b < 0) (h3 : ¬ (D.l.length : Int) ≤ max a b) (h4 : ¬ D.dead = true) : openE D a b = 0 := by
  unfold openE; rw [if_neg (by omega), if_neg h4]
theorem openE_arg {D : Dev} {a b : Int} (h : a = b ∨ min a b < 0 ∨ (D.l.length : Int) ≤ max a b) : openE D a b = 1 := by unfold openE; rw [if_pos h]
theorem openE_down {D : Dev} {a b : Int} (h1 : ¬ a = b) (h2 : ¬ min a b < 0) (h3 : ¬ (D.l.length : Int) ≤ max a b) (h4 : D.dead = true) : openE D a b = 30 := by
  unfold openE; rw [if_neg (by omega), if_pos h4]
end Go.Sl
