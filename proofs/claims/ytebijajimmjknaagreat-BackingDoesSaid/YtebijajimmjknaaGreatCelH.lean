/- A part of the proof: contracts and plain lemmas, each without conditions beyond those that it names. -/
import Derived.Test.YtebijajimmjknaaGreatGG
import Derived.Test.YtebijajimmjknaaGreatGE
set_option linter.unusedVariables false
set_option linter.unusedSimpArgs false
set_option linter.constructorNameAsVariable false
namespace Go.Sl
set_option linter.unusedSimpArgs false
def CellM.putR (C : CellM) (E : RDev) (s : Bytes) : Int × CellM × RDev :=
  if (100 : Int) < s.length then (3, C, E) else if C.gen = 4611686018427387904 then (23, C, E) else
  if (E.write C.other (slotM (IntKind.i64.wrap (C.gen + 1)) s)).1 ≠ 0 then ((E.write C.other (slotM (IntKind.i64.wrap (C.gen + 1)) s)).1, C, (E.write C.other (slotM (IntKind.i64.wrap (C.gen + 1)) s)).2) else
  if (E.write C.other (slotM (IntKind.i64.wrap (C.gen + 1)) s)).2.barrier.1 ≠ 0 then ((E.write C.other (slotM (IntKind.i64.wrap (C.gen + 1)) s)).2.barrier.1, C, (E.write C.other (slotM (IntKind.i64.wrap (C.gen + 1)) s)).2.barrier.2) else
  (0, { C with now := if C.now = 0 then 1 else 0, gen := IntKind.i64.wrap (C.gen + 1), text := s }, (E.write C.other (slotM (IntKind.i64.wrap (C.gen + 1)) s)).2.barrier.2)
theorem putR_rel {C : CellM} {D : Dev} {E : RDev} (h : Rel D E) (s : Bytes) : (C.put D s).1 = (C.putR E s).1 ∧ (C.put D s).2.1 = (C.putR E s).2.1 ∧ Rel (C.put D s).2.2 (C.putR E s).2.2 := by
  unfold CellM.putR
  by_cases c1 : (100 : Int) < s.length
  · rw [put_long c1, if_pos c1]; exact ⟨rfl, rfl, h⟩
  rw [if_neg c1]
  by_cases c2 : C.gen = 4611686018427387904
  · rw [put_full c1 c2, if_pos c2]; exact ⟨rfl, rfl, h⟩
  rw [if_neg c2]
  obtain ⟨w1, w2⟩ := h.write C.other (slotM (IntKind.i64.wrap (C.gen + 1)) s)
  by_cases c3 : (D.write C.other (slotM (IntKind.i64.wrap (C.gen + 1)) s)).1 = 0
  · rw [if_neg (by rw [← w1]; exact fun hc => hc c3)]
    obtain ⟨b1, b2⟩ := w2.barrier
    by_cases c4 : (D.write C.other (slotM (IntKind.i64.wrap (C.gen + 1)) s)).2.barrier.1 = 0
    · have hb : ¬ (E.write C.other (slotM (IntKind.i64.wrap (C.gen + 1)) s)).2.barrier.1 ≠ 0 := by rw [← b1]; exact fun hc => hc c4
      rw [put_done c1 c2 rfl c3 rfl c4, if_neg hb]
      exact ⟨rfl, rfl, b2⟩
    · rw [put_b c1 c2 rfl c3 rfl c4, if_pos (by rw [← b1]; exact c4)]
      exact ⟨b1, rfl, b2⟩
  · rw [put_w c1 c2 rfl c3, if_pos (by rw [← w1]; exact c3)]
    exact ⟨w1, rfl, w2⟩
def openER (E : RDev) (a b : Int) : Int := if a = b ∨ a < 0 ∨ b < 0 ∨ (E.l.length : Int) ≤ a ∨ (E.l.length : Int) ≤ b then 1 else if E.dead = true then 30 else 0
def openCR (E : RDev) (a b : Int) : CellM :=
  if (readT (E.sec a)).1 < (readT (E.sec b)).1 then ⟨a, b, 1, (readT (E.sec b)).1, (readT (E.sec b)).2.1⟩ else
  if 0 < (readT (E.sec a)).1 then ⟨a, b, 0, (readT (E.sec a)).1, (readT (E.sec a)).2.1⟩ else ⟨a, b, -1, 0, []⟩
theorem openER_rel {D : Dev} {E : RDev} (h : Rel D E) (a b : Int) : openE D a b = openER E a b := by
  unfold openE openER
  rw [h.len, h.dead]
  by_cases c : a = b ∨ min a b < 0 ∨ (D.l.length : Int) ≤ max a b
  · have c' : a = b ∨ a < 0 ∨ b < 0 ∨ (D.l.length : Int) ≤ a ∨ (D.l.length : Int) ≤ b := by omega
    rw [if_pos c, if_pos c']
  · have c' : ¬ (a = b ∨ a < 0 ∨ b < 0 ∨ (D.l.length : Int) ≤ a ∨ (D.l.length : Int) ≤ b) := by omega
    rw [if_neg c, if_neg c']
theorem readT_M (b : Bytes) : (∃ q, readM b = some q ∧ readT b = (q.1, q.2, true) ∧ 1 ≤ q.1) ∨ (readM b = none ∧ readT b = (0, [], false)) := by
  cases h : readM b with
  | none => exact .inr ⟨rfl, by unfold readT; rw [h]⟩
  | some q => exact .inl ⟨q, rfl, by unfold readT; rw [h], readM_pos q h⟩
theorem openCR_rel {D : Dev} {E : RDev} (h : Rel D E) {a b : Int} (ho : openE D a b = 0) : openC D a b = openCR E a b := by
  have hC := (openC_ok ho).1
  have e2 := openC_ab D a b
  have ha := hC.a
  have hb := hC.b
  rw [e2.1] at ha
  rw [e2.2] at hb
  show pickC a b (readM (D.sec a)) (readM (D.sec b)) = _
  rw [h.sec ha.1 ha.2, h.sec hb.1 hb.2]
  unfold openCR
  rcases readT_M (E.sec a) with ⟨p, p1, p2, p3⟩ | ⟨p1, p2⟩
  · rcases readT_M (E.sec b) with ⟨q, q1, q2, q3⟩ | ⟨q1, q2⟩
    · rw [p1, q1, p2, q2, pick_ss _ _ p3]
      dsimp only
      by_cases c : p.1 < q.1
      · rw [if_pos c, if_pos c]
      · rw [if_neg c, if_neg c, if_pos (by omega)]
    · rw [p1, q1, p2, q2, pick_sn _ _ p3]
      dsimp only
      rw [if_neg (by omega), if_pos (by omega)]
  · rcases readT_M (E.sec b) with ⟨q, q1, q2, q3⟩ | ⟨q1, q2⟩
    · rw [p1, q1, p2, q2, pick_ns _ _ q3]
      dsimp only
      rw [if_pos (by omega)]
    · rw [p1, q1, p2, q2, pick_nn]
      rfl
end Go.Sl
