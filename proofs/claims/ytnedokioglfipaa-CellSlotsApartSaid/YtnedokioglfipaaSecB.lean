/- A part of the proof: contracts and plain lemmas, each without conditions beyond those that it names. -/
import Derived.Test.YtnedokioglfipaaSecA
set_option linter.unusedVariables false
set_option linter.unusedSimpArgs false
set_option linter.constructorNameAsVariable false
namespace Go.Sl
set_option linter.unusedSimpArgs false
/-! the fuse's law, plain -/
theorem bAnd15 (p : Int) : 0 ≤ bAnd .i64 p 15 ∧ bAnd .i64 p 15 < 16 := by
  have h : (BitVec.ofInt 64 p &&& BitVec.ofInt 64 15).toNat ≤ 15 := by
    rw [BitVec.toNat_and]
    exact Nat.le_trans Nat.and_le_right (by decide)
  unfold bAnd
  rw [show IntKind.i64.bits = 64 from rfl, wr (by omega) (by omega)]
  omega
/-- How a device is, when so many acts are left. -/
def Fz (D : Dev) (left : Int) : Prop := (0 ≤ left → D.dead = false ∧ D.fuse = left) ∧ (left < 0 → D.dead = true)
/-- What one act more does. -/
def Fstep (left r : Int) (D' : Dev) : Prop := (0 < left → r = 0) ∧ (left ≤ 0 → r = 30) ∧ D'.dead = decide (left ≤ 0) ∧ Fz D' (left - 1)
theorem act_f {D : Dev} {left : Int} (h : Fz D left) (hl : 0 ≤ left) (hs : left < 1000) : Fstep left D.act.1 D.act.2 := by
  obtain ⟨h1, h2⟩ := h.1 hl
  unfold Dev.act
  by_cases h0 : D.fuse = 0
  · rw [if_pos h0]
    have : left = 0 := by omega
    subst this
    exact ⟨by omega, by simp, by simp, by unfold Fz; simp⟩
  · rw [if_neg h0, if_pos (by omega)]
    refine ⟨by simp, by omega, ?_, ?_⟩
    · simp [h1]; omega
    · rw [wr (by omega) (by omega)]
      exact ⟨fun _ => ⟨h1, by simp [h2]⟩, by omega⟩
theorem write_f {D : Dev} {left i : Int} {bs : Bytes} (h : Fz D left) (hs : left < 1000) (hi : 0 ≤ i) (hi1 : i < D.l.length) (hb : bs.length ≤ 144) : Fstep left (D.write i bs).1 (D.write i bs).2 := by
  by_cases hl : 0 ≤ left
  · have ha := act_f h hl hs
    obtain ⟨h1, h2⟩ := h.1 hl
    have hh : D.has i = 0 := by unfold Dev.has; simp [h1]; omega
    unfold Dev.write
    rw [if_neg (by simpa using hh), if_neg (by omega)]
    split
    · exact ha
    · rename_i h3
      have h3' : D.act.1 = 0 := by simpa using h3
      exact ⟨fun _ => rfl, fun h4 => by have := ha.2.1 h4; omega, ha.2.2.1, ha.2.2.2⟩
  · have hd := h.2 (by omega)
    have hh : D.has i = 30 := by unfold Dev.has; simp [hd]
    unfold Dev.write
    rw [if_pos (by rw [hh]; decide), hh]
    exact ⟨by omega, fun _ => rfl, by simp [hd]; omega, ⟨by omega, fun _ => hd⟩⟩
theorem barrier_f {D : Dev} {left : Int} (h : Fz D left) (hs : left < 1000) : Fstep left D.barrier.1 D.barrier.2 := by
  by_cases hl : 0 ≤ left
  · have ha := act_f h hl hs
    obtain ⟨h1, h2⟩ := h.1 hl
    unfold Dev.barrier
    rw [if_neg (by simp [h1])]
    split
    · exact ha
    · rename_i h3
      have h3' : D.act.1 = 0 := by simpa using h3
      exact ⟨fun _ => rfl, fun h4 => by have := ha.2.1 h4; omega, ha.2.2.1, ha.2.2.2⟩
  · have hd := h.2 (by omega)
    unfold Dev.barrier
    rw [if_pos hd]
    exact ⟨by omega, fun _ => rfl, by simp [hd]; omega, ⟨by omega, fun _ => hd⟩⟩
theorem barrier_l {D : Dev} : D.barrier.2.l.length = D.l.length := by
  unfold Dev.barrier
  split
  · rfl
  · split
    · rw [act_l]
    · simp
theorem fuse_f {D : Dev} (h : D.dead = false) {n : Int} (hn : 0 ≤ n) : Fz (D.setFuse n) n :=
  ⟨fun _ => ⟨h, by simp [Dev.setFuse]; omega⟩, by omega⟩
end Go.Sl
