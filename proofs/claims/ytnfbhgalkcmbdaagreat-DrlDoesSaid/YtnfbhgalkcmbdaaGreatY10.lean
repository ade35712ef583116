/- A part of the proof: contracts and plain lemmas, each without conditions beyond those that it names. -/
import Derived.Test.YtnfbhgalkcmbdaaGreatY9
set_option linter.unusedVariables false
set_option linter.unusedSimpArgs false
set_option linter.constructorNameAsVariable false
namespace Go.Proofs
open Go Go.Sl
namespace W
set_option linter.unusedVariables false
/-- The two lists, where there are such. -/
abbrev Two := Option ((Nat × Nat) × (Nat × Nat) × DrlM)
def twoV1 : Two → Value
  | none => nilP
  | some x => ptr x.1.1
def twoV2 : Two → Value
  | none => nilP
  | some x => ptr x.2.1.1
theorem rl_ok {L : DrlM} {D : Dev} {E : RDev} (h : L.ok D) (hr : Rel D E) : RLok L E := ⟨h.n, h.bits, h.c.gen, h.c.now, hr.rok, hr.wok⟩
theorem rsec_144 {D : Dev} {E : RDev} (h : Rel D E) : ∀ i : Int, 0 ≤ i → i < E.l.length → (E.sec i).length = 144 := fun i h0 h1 => by rw [← h.sec h0 (by rw [← h.len]; exact h1)]; exact sec_length h.ok _
theorem rtext {D : Dev} {E : RDev} (h : Rel D E) (a b : Int) : openER E a b = 0 → (openCR E a b).text.length ≤ 1000 := fun ho => by
  have ho2 : openE D a b = 0 := by rw [openER_rel h]; exact ho
  rw [← openCR_rel h ho2]
  have := (openC_ok ho2).1.text
  omega
end W
end Go.Proofs
