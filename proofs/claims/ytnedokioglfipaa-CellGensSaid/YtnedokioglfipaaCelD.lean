/- A part of the proof: contracts and plain lemmas, each without conditions beyond those that it names. -/
import Derived.Test.YtnedokioglfipaaCelC
set_option linter.unusedVariables false
set_option linter.unusedSimpArgs false
set_option linter.constructorNameAsVariable false
namespace Go.Sl
set_option linter.unusedSimpArgs false
theorem slotM_ne {g : Int} {s : Bytes} (h : ¬ (slotM g s).length = 0) : slotOk g s = true := by
  by_cases hk : slotOk g s = true
  · exact hk
  · unfold slotM at h; rw [if_neg hk] at h; exact absurd rfl h
theorem slot_eq4 {g h : Int} {s t : Bytes} (h1 : slotOk g s = true) (h2 : slotOk h t = true) (e : (slotM g s).drop 4 = (slotM h t).drop 4) : g = h ∧ s = t := by
  unfold slotM at e
  rw [if_pos h1, if_pos h2] at e
  simp only [framed, be4, List.cons_append, List.nil_append, List.drop_succ_cons, List.drop_zero, List.cons.injEq] at e
  have := recB_inj (slot_may h1) (slot_may h2) e.2
  simp only [slotR, RecM.mk.injEq, List.cons.injEq, and_true, true_and] at this
  exact this
theorem slot_eqn {g h : Int} {s t : Bytes} (h1 : slotOk g s = true) (h2 : slotOk h t = true) (e : (slotM g s).take (min (slotM g s).length (slotM h t).length) = (slotM h t).take (min (slotM g s).length (slotM h t).length)) : g = h ∧ s = t := by
  obtain ⟨a1, a2⟩ := slotM_len h1
  obtain ⟨b1, b2⟩ := slotM_len h2
  have c1 := slotB_len h1
  have c2 := slotB_len h2
  have ea : slotM g s = framed (recB (slotR g s)) := by unfold slotM; rw [if_pos h1]
  have eb : slotM h t = framed (recB (slotR h t)) := by unfold slotM; rw [if_pos h2]
  have la : (slotM g s).length = (recB (slotR g s)).length + 5 := by rw [ea, framed_len]
  have lb : (slotM h t).length = (recB (slotR h t)).length + 5 := by rw [eb, framed_len]
  have h4 : (slotM g s)[4]? = (slotM h t)[4]? := by
    have := congrArg (fun l => l[4]?) e
    simp only [List.getElem?_take] at this
    rw [if_pos (by omega), if_pos (by omega)] at this
    exact this
  have ha4 : (slotM g s)[4]? = some (UInt8.ofNat (recB (slotR g s)).length) := by rw [ea]; simp [framed, be4]
  have hb4 : (slotM h t)[4]? = some (UInt8.ofNat (recB (slotR h t)).length) := by rw [eb]; simp [framed, be4]
  rw [ha4, hb4] at h4
  have hl := congrArg UInt8.toNat (Option.some.inj h4)
  rw [UInt8.toNat_ofNat', UInt8.toNat_ofNat'] at hl
  have hlen : (slotM g s).length = (slotM h t).length := by omega
  rw [hlen, Nat.min_self, List.take_of_length_le (by omega), List.take_of_length_le (by omega)] at e
  exact slot_eq4 h1 h2 (by rw [e])
theorem slots_cases {g h : Int} {s t : Bytes} (h1 : slotOk g s = true) (h2 : slotOk h t = true) :
    (decide (g = h) = true ∧ decide (s = t) = true ∧ decide ((slotM g s).drop 4 = (slotM h t).drop 4) = true ∧ decide ((slotM g s).take (min (slotM g s).length (slotM h t).length) ≠ (slotM h t).take (min (slotM g s).length (slotM h t).length)) = false) ∨
    (decide (g = h) = false ∧ True ∧ decide ((slotM g s).drop 4 = (slotM h t).drop 4) = false ∧ decide ((slotM g s).take (min (slotM g s).length (slotM h t).length) ≠ (slotM h t).take (min (slotM g s).length (slotM h t).length)) = true) ∨
    (decide (g = h) = true ∧ decide (s = t) = false ∧ decide ((slotM g s).drop 4 = (slotM h t).drop 4) = false ∧ decide ((slotM g s).take (min (slotM g s).length (slotM h t).length) ≠ (slotM h t).take (min (slotM g s).length (slotM h t).length)) = true) := by
  by_cases hg : g = h
  · by_cases hs : s = t
    · subst hg; subst hs
      exact .inl ⟨by simp, by simp, by simp, by simp⟩
    · exact .inr (.inr ⟨by simp [hg], by simp [hs], by simpa using fun e => hs (slot_eq4 h1 h2 e).2, by simpa using fun e => hs (slot_eqn h1 h2 e).2⟩)
  · exact .inr (.inl ⟨by simp [hg], trivial, by simpa using fun e => hg (slot_eq4 h1 h2 e).1, by simpa using fun e => hg (slot_eqn h1 h2 e).1⟩)
end Go.Sl
