/- A part of the proof: contracts and plain lemmas, each without conditions beyond those that it names. -/
import Derived.Test.YtnfbhgalkcmbdaaGreatGK
import Derived.Test.YtnfbhgalkcmbdaaGreatCelH
import Derived.Test.YtnfbhgalkcmbdaaGreatBitS
set_option linter.unusedVariables false
set_option linter.unusedSimpArgs false
set_option linter.constructorNameAsVariable false
namespace Go.Sl
set_option linter.unusedSimpArgs false
def DrlM.setR (L : DrlM) (E : RDev) (b : Nat) : Int × DrlM × RDev :=
  ((L.c.putR E (textR (regs L.n) b)).1, { L with c := (L.c.putR E (textR (regs L.n) b)).2.1, bits := if (L.c.putR E (textR (regs L.n) b)).1 = 0 then b else L.bits }, (L.c.putR E (textR (regs L.n) b)).2.2)
def DrlM.markR (L : DrlM) (E : RDev) (i : Int) : Int × DrlM × RDev := if inR L.n i = false then (2, L, E) else if L.has i = true then (0, L, E) else L.setR E (putR L.bits (i / 4))
def DrlM.clearR (L : DrlM) (E : RDev) : Int × DrlM × RDev := if L.bits = 0 then (0, L, E) else L.setR E 0
theorem setR_rel {L : DrlM} {D : Dev} {E : RDev} (h : Rel D E) (b : Nat) : (L.set D b).1 = (L.setR E b).1 ∧ (L.set D b).2.1 = (L.setR E b).2.1 ∧ Rel (L.set D b).2.2 (L.setR E b).2.2 := by
  obtain ⟨h1, h2, h3⟩ := putR_rel (C := L.c) h (textR (regs L.n) b)
  unfold DrlM.set DrlM.setR
  refine ⟨h1, ?_, h3⟩
  dsimp only
  rw [h1, h2]
theorem markR_rel {L : DrlM} {D : Dev} {E : RDev} (h : Rel D E) (i : Int) : (L.mark D i).1 = (L.markR E i).1 ∧ (L.mark D i).2.1 = (L.markR E i).2.1 ∧ Rel (L.mark D i).2.2 (L.markR E i).2.2 := by
  unfold DrlM.mark DrlM.markR
  split
  · exact ⟨rfl, rfl, h⟩
  · split
    · exact ⟨rfl, rfl, h⟩
    · exact setR_rel h _
theorem clearR_rel {L : DrlM} {D : Dev} {E : RDev} (h : Rel D E) : (L.clear D).1 = (L.clearR E).1 ∧ (L.clear D).2.1 = (L.clearR E).2.1 ∧ Rel (L.clear D).2.2 (L.clearR E).2.2 := by
  unfold DrlM.clear DrlM.clearR
  split
  · exact ⟨rfl, rfl, h⟩
  · exact setR_rel h _
def drlER (E : RDev) (a b nb : Int) : Int := if nb < 1 ∨ 32 < nb then 1 else openER E a b
def drlOR (E : RDev) (a b : Int) (n : Nat) : DrlM := ⟨openCR E a b, n, rowOfT (regs n) (openCR E a b).text⟩
theorem drlER_rel {D : Dev} {E : RDev} (h : Rel D E) (a b nb : Int) : drlE D a b nb = drlER E a b nb := by
  unfold drlE drlER
  rw [openER_rel h]
theorem drlOR_rel {D : Dev} {E : RDev} (h : Rel D E) {a b nb : Int} (ho : drlE D a b nb = 0) (n : Nat) : drlO D a b n = drlOR E a b n := by
  have : openE D a b = 0 := by
    unfold drlE at ho
    split at ho
    · cases ho
    · exact ho
  unfold drlO drlOR
  rw [openCR_rel h this]
theorem Rel.wok {E : RDev} {D : Dev} (h : Rel D E) (i : Int) (bs : Bytes) : (E.write i bs).2.ok := (h.write i bs).2.rok
end Go.Sl
