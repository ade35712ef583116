/- A part of the proof: contracts and plain lemmas, each without conditions beyond those that it names. -/
import Derived.Test.YtebijajimmjknaaGreatGL
import Derived.Test.YtebijajimmjknaaGreatGH
set_option linter.unusedVariables false
set_option linter.unusedSimpArgs false
set_option linter.constructorNameAsVariable false
namespace Go.Proofs
open Go Go.Sl
namespace W
set_option linter.unusedVariables false
theorem secReadU [Env] {R : List Seg} {q : Q3} {D : Dev} {i : Int} (hD : D.ok) : Con Tryz.prog 26 [dp q, i64 i] [dev q D] R
   (fun v L' => ∃ s, v = .tuple #[svVal s (D.rdB i).length, i64 (D.has i)] ∧ svOk s (D.rdB i).length 1 (bytesV (D.rdB i)) ∧ L' = [svSeg s 5 (bytesV (D.rdB i)), dev q D]) := by
 refine (secRead hD).via (List.Perm.refl _) ?_
 unfold Dev.rdB
 rintro v L (⟨h1, rfl, rfl⟩ | ⟨h1, s, rfl, h2, rfl⟩)
 · exact ⟨_, ⟨none, by rw [if_neg h1]; rfl, by rw [if_neg h1]; exact ⟨rfl, rfl⟩, rfl⟩, by simp [svSeg]⟩
 · refine ⟨_, ⟨s, by rw [if_pos h1, sec_length hD, h1], ?_, rfl⟩, by rw [if_pos h1]⟩
   rw [if_pos h1, sec_length hD]; exact h2
theorem rdReadU [Env] {R : List Seg} {p la : Nat} {D : RDev} {i : Int} (hD : D.ok) (hl : D.has i = 0 → (D.sec i).length = 144) : Con Tryz.prog 27 [ptr p, i64 i] [rdev p la D] R
   (fun v L' => ∃ s, v = .tuple #[svVal s (D.rdB i).length, i64 (D.has i)] ∧ svOk s (D.rdB i).length 1 (bytesV (D.rdB i)) ∧ L' = [svSeg s 5 (bytesV (D.rdB i)), rdev p la D]) := by
 refine (rdRead hD).via (List.Perm.refl _) ?_
 unfold RDev.rdB
 rintro v L (⟨h1, rfl, rfl⟩ | ⟨h1, s, rfl, h2, rfl⟩)
 · exact ⟨_, ⟨none, by rw [if_neg h1]; rfl, by rw [if_neg h1]; exact ⟨rfl, rfl⟩, rfl⟩, by simp [svSeg]⟩
 · refine ⟨_, ⟨s, by rw [if_pos h1, hl h1, h1], ?_, rfl⟩, by rw [if_pos h1]⟩
   rw [if_pos h1, hl h1]; exact h2
theorem rsec_144 {D : Dev} {E : RDev} (h : Rel D E) : ∀ i : Int, 0 ≤ i → i < E.l.length → (E.sec i).length = 144 := fun i h0 h1 => by rw [← h.sec h0 (by rw [← h.len]; exact h1)]; exact sec_length h.ok _
theorem secNewZ [Env] {R : List Seg} {n : Int} (hn : 0 ≤ n ∧ n ≤ 512) : Con Tryz.prog 6 [i64 n] [] R (fun v L' => ∃ q, v = dp q ∧ L' = [dev q (Dev.new n.toNat)]) := by
 have h := secNew (R := R) (n := n.toNat) (by omega)
 rw [show ((n.toNat : Nat) : Int) = n by omega] at h
 exact h
theorem rdNewZ [Env] {R : List Seg} {n : Int} (hn : 0 ≤ n ∧ n ≤ 512) : Con Tryz.prog 7 [i64 n] [] R (fun v L' => ∃ p la, v = ptr p ∧ L' = [rdev p la (RDev.new n.toNat)]) := by
 have h := rdNew (R := R) (n := n.toNat) (by omega)
 rw [show ((n.toNat : Nat) : Int) = n by omega] at h
 exact h
/-- The two witnesses, where there are such. -/
abbrev TwW := Option ((Nat × Nat) × (Nat × Nat × Nat) × WitM)
structure WdM where
 D : Dev
 E : RDev
 t : TwW
structure WdM.ok (x : WdM) (N : Nat) : Prop where
 r : Rel x.D x.E
 len : x.D.l.length = N
 t : ∀ z, x.t = some z → z.2.2.c.ok N ∧ z.2.2.f.ok ∧ (0 ≤ z.2.2.left ∧ z.2.2.left ≤ 9223372036854775807) ∧ (1 ≤ z.2.2.wait ∧ z.2.2.wait ≤ 1099511627776)
theorem WdM.ok.l {D : Dev} {E : RDev} {N : Nat} {z : (Nat × Nat) × (Nat × Nat × Nat) × WitM} (h : WdM.ok ⟨D, E, some z⟩ N) : z.2.2.ok D := by
 obtain ⟨h1, h2, h3, h4⟩ := h.t z rfl
 exact ⟨by rw [h.len]; exact h1, h2, h3, h4, h.r.ok⟩
theorem WdM.ok.of {D : Dev} {E : RDev} {N : Nat} {z : (Nat × Nat) × (Nat × Nat × Nat) × WitM} (hr : Rel D E) (hl : D.l.length = N) (h : z.2.2.ok D) : WdM.ok ⟨D, E, some z⟩ N :=
 ⟨hr, hl, fun y hy => by cases hy; exact ⟨by rw [← hl]; exact h.c, h.f, h.left, h.wait⟩⟩
theorem WdM.ok.dev {D D' : Dev} {E E' : RDev} {N : Nat} {t : TwW} (h : WdM.ok ⟨D, E, t⟩ N) (hr : Rel D' E') (hl : D'.l.length = N) : WdM.ok ⟨D', E', t⟩ N := ⟨hr, hl, h.t⟩
theorem WdM.ok.none' {D : Dev} {E : RDev} {N : Nat} (h : Rel D E) (hl : D.l.length = N) : WdM.ok ⟨D, E, none⟩ N := ⟨h, hl, fun z hz => by cases hz⟩
end W
end Go.Proofs
