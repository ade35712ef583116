/- A part of the proof: contracts and plain lemmas, each without conditions beyond those that it names. -/
import Derived.Test.YtnfbhgalkcmbdaaGreatY10
set_option linter.unusedVariables false
set_option linter.unusedSimpArgs false
set_option linter.constructorNameAsVariable false
namespace Go.Proofs
open Go Go.Sl
namespace W
set_option linter.unusedVariables false
def twoA : Two → Seg
  | none => []
  | some x => drlP x.1.1 x.1.2 x.2.2
def twoB (q : Q3) : Two → Seg
  | none => []
  | some x => celP x.1.2 q x.2.2.c
def twoC : Two → Seg
  | none => []
  | some x => rdrlP x.2.1.1 x.2.1.2 x.2.2
def twoD (p : Nat) : Two → Seg
  | none => []
  | some x => rcelP x.2.1.2 p x.2.2.c
structure DdM where
  D : Dev
  E : RDev
  t : Two
structure DdM.ok (x : DdM) (N : Nat) : Prop where
  r : Rel x.D x.E
  len : x.D.l.length = N
  t : ∀ z, x.t = some z → z.2.2.c.ok N ∧ (1 ≤ z.2.2.n ∧ z.2.2.n ≤ 32) ∧ z.2.2.bits < 2 ^ regs z.2.2.n
theorem DdM.ok.l {D : Dev} {E : RDev} {N : Nat} {z : (Nat × Nat) × (Nat × Nat) × DrlM} (h : DdM.ok ⟨D, E, some z⟩ N) : z.2.2.ok D := by
  obtain ⟨h1, h2, h3⟩ := h.t z rfl
  exact ⟨by rw [h.len]; exact h1, h2, h3, h.r.ok⟩
theorem secNewZ [Env] {R : List Seg} {n : Int} (hn : 0 ≤ n ∧ n ≤ 512) : Con Tryz.prog 5 [i64 n] [] R (fun v L' => ∃ q, v = dp q ∧ L' = [dev q (Dev.new n.toNat)]) := by
  have h := secNew (R := R) (n := n.toNat) (by omega)
  rw [show ((n.toNat : Nat) : Int) = n by omega] at h
  exact h
theorem rdNewZ [Env] {R : List Seg} {n : Int} (hn : 0 ≤ n ∧ n ≤ 512) : Con Tryz.prog 6 [i64 n] [] R (fun v L' => ∃ p la, v = ptr p ∧ L' = [rdev p la (RDev.new n.toNat)]) := by
  have h := rdNew (R := R) (n := n.toNat) (by omega)
  rw [show ((n.toNat : Nat) : Int) = n by omega] at h
  exact h
theorem DdM.ok.two {D : Dev} {E : RDev} {N : Nat} {a b nb : Int} (h : Rel D E) (hl : D.l.length = N) (ho : drlE D a b nb = 0) (l c l2 c2 : Nat) : DdM.ok ⟨D, E, some ((l, c), (l2, c2), drlO D a b nb.toNat)⟩ N := by
  have hn : 1 ≤ nb.toNat ∧ nb.toNat ≤ 32 := by
    unfold drlE at ho
    split at ho
    · cases ho
    · omega
  have he : openE D a b = 0 := by
    unfold drlE at ho
    split at ho
    · cases ho
    · exact ho
  have hk := drlO_ok h.ok hn he
  exact ⟨h, hl, fun z hz => by cases hz; exact ⟨by rw [← hl]; exact hk.c, hk.n, hk.bits⟩⟩
theorem DdM.ok.none' {D : Dev} {E : RDev} {N : Nat} (h : Rel D E) (hl : D.l.length = N) : DdM.ok ⟨D, E, none⟩ N := ⟨h, hl, fun z hz => by cases hz⟩
theorem qOpenBad [Env] {R : List Seg} {p la : Nat} {D : Dev} {E : RDev} {a b nb : Int} (h : Rel D E) (ho : drlE D a b nb ≠ 0) : Con Tryz.prog 8 [ptr p, i64 a, i64 b, i64 nb] [rdev p la E] R (Is (.tuple #[nilP, i64 (drlE D a b nb)]) [rdev p la E]) := by
  refine (qOpen h.rok (rsec_144 h) (rtext h a b)).mono ?_
  rintro v L (⟨h1, rfl, rfl⟩ | ⟨h1, _⟩)
  · exact ⟨by rw [drlER_rel h], rfl⟩
  · exact absurd (by rw [drlER_rel h]; exact h1) ho
theorem qOpenOk [Env] {R : List Seg} {p la : Nat} {D : Dev} {E : RDev} {a b nb : Int} (h : Rel D E) (ho : drlE D a b nb = 0) : Con Tryz.prog 8 [ptr p, i64 a, i64 b, i64 nb] [rdev p la E] R (fun u L' => ∃ l c, u = .tuple #[ptr l, i64 0] ∧ L' = [rdrlP l c (drlO D a b nb.toNat), rcelP c p (openC D a b), rdev p la E]) := by
  refine (qOpen h.rok (rsec_144 h) (rtext h a b)).mono ?_
  rintro v L (⟨h1, _⟩ | ⟨_, l, c, rfl, rfl⟩)
  · exact absurd (by rw [← drlER_rel h]; exact ho) h1
  · have h3 : drlO D a b nb.toNat = drlOR E a b nb.toNat := drlOR_rel h ho _
    have h4 : openC D a b = openCR E a b := congrArg DrlM.c h3
    rw [h3, h4]
    exact ⟨l, c, rfl, rfl⟩
end W
end Go.Proofs
