/- A part of the proof: contracts and plain lemmas, each without conditions beyond those that it names. -/
import Derived.Test.YtnfbhgalkcmbdaaL6
import Derived.Test.YtnfbhgalkcmbdaaGM
set_option linter.unusedVariables false
set_option linter.unusedSimpArgs false
set_option linter.constructorNameAsVariable false
namespace Go.Proofs
open Go Go.Sl
namespace W
set_option linter.unusedVariables false
/-! a log in one piece -/
def logG (p c : Nat) (q : Q3) (sl : Sv) (L : LogM) : Seg := logP p c q sl L ++ itS sl L ++ celP c q L.c
theorem pG0 {p c : Nat} {q : Q3} {sl : Sv} {L : LogM} {R : List Seg} : ([logG p c q sl L] ++ R).flatten.Perm ([logP p c q sl L] ++ (itS sl L :: celP c q L.c :: R)).flatten := by simp [logG]
theorem pG1 {p c : Nat} {q : Q3} {sl : Sv} {L : LogM} {R : List Seg} : ([logG p c q sl L] ++ R).flatten.Perm ([logP p c q sl L, itS sl L] ++ (celP c q L.c :: R)).flatten := by simp [logG]
theorem pG2 {p c : Nat} {q : Q3} {sl : Sv} {L : LogM} {d : Seg} {R : List Seg} : ([logG p c q sl L, d] ++ R).flatten.Perm ([logP p c q sl L, itS sl L, celP c q L.c, d] ++ R).flatten := by simp [logG]
theorem pG3 {p c : Nat} {q : Q3} {sl : Sv} {L : LogM} {d : Seg} {R : List Seg} : ([logG p c q sl L, d] ++ R).flatten.Perm ([logP p c q sl L, itS sl L, d] ++ (celP c q L.c :: R)).flatten := by
  simp only [logG, List.cons_append, List.nil_append, List.flatten_cons, List.append_assoc]
  exact .append_left _ (.append_left _ (List.perm_append_comm_assoc _ _ _))
theorem pG4 {p c : Nat} {q : Q3} {sl : Sv} {L : LogM} {d : Seg} {R : List Seg} : ([logG p c q sl L, d] ++ R).flatten.Perm ([logP p c q sl L, d] ++ (itS sl L :: celP c q L.c :: R)).flatten := by
  simp only [logG, List.cons_append, List.nil_append, List.flatten_cons, List.append_assoc]
  exact .append_left _ ((List.Perm.append_left _ (List.perm_append_comm_assoc _ _ _)).trans (List.perm_append_comm_assoc _ _ _))
theorem bHead [Env] {R : List Seg} {p c : Nat} {q : Q3} {sl : Sv} {L : LogM} : Con Try.prog 29 [ptr p] [logG p c q sl L] R (Is (i64 L.head) [logG p c q sl L]) := by
  refine lHead.via pG0 ?_
  rintro v L' ⟨rfl, rfl⟩
  exact ⟨_, ⟨rfl, rfl⟩, pG0.symm⟩
theorem bTime [Env] {R : List Seg} {p c : Nat} {q : Q3} {sl : Sv} {L : LogM} : Con Try.prog 33 [ptr p] [logG p c q sl L] R (Is (i64 L.time) [logG p c q sl L]) := by
  refine lTime.via pG0 ?_
  rintro v L' ⟨rfl, rfl⟩
  exact ⟨_, ⟨rfl, rfl⟩, pG0.symm⟩
theorem bTail [Env] {R : List Seg} {p c : Nat} {q : Q3} {sl : Sv} {L : LogM} (hs : itOk sl L) (h1 : 0 ≤ L.head) (h2 : L.tail ≤ 4611686018427388416) (hl : L.l.length ≤ 512) : Con Try.prog 39 [ptr p] [logG p c q sl L] R (Is (i64 L.tail) [logG p c q sl L]) := by
  refine (lTail hs h1 h2 hl).via pG0 ?_
  rintro v L' ⟨rfl, rfl⟩
  exact ⟨_, ⟨rfl, rfl⟩, pG0.symm⟩
theorem bFree [Env] {R : List Seg} {p c : Nat} {q : Q3} {sl : Sv} {L : LogM} (hs : itOk sl L) (h1 : L.n ≤ 512) (hl : L.l.length ≤ 512) : Con Try.prog 32 [ptr p] [logG p c q sl L] R (Is (i64 ((L.n : Int) - L.l.length)) [logG p c q sl L]) := by
  refine (lFree hs h1 hl).via pG0 ?_
  rintro v L' ⟨rfl, rfl⟩
  exact ⟨_, ⟨rfl, rfl⟩, pG0.symm⟩
theorem bRecords [Env] {R : List Seg} {p c : Nat} {q : Q3} {sl : Sv} {L : LogM} (hs : itOk sl L) (hl : L.l.length ≤ 512) :
    Con Try.prog 31 [ptr p] [logG p c q sl L] R (KSv 9 (L.l.map (·.1)).length 1 (strsV (L.l.map (·.1))) [logG p c q sl L]) := by
  refine (lRecords hs hl).via pG1 ?_
  rintro v L' ⟨s, rfl, h2, rfl⟩
  refine ⟨_, ⟨s, rfl, h2, rfl⟩, ?_⟩
  simp [logG]
theorem bSync [Env] {R : List Seg} {p c : Nat} {q : Q3} {sl : Sv} {L : LogM} {D : Dev} (hD : D.ok) : Con Try.prog 35 [ptr p] [logG p c q sl L, dev q D] R (Is (i64 D.barrier.1) [logG p c q sl L, dev q D.barrier.2]) := by
  refine (lSync hD).via pG4 ?_
  rintro v L' ⟨rfl, rfl⟩
  exact ⟨_, ⟨rfl, rfl⟩, pG4.symm⟩
theorem append_c (L : LogM) (D : Dev) (s : Bytes) : (L.append D s).2.1.c = L.c := by
  unfold LogM.append
  split
  · rfl
  · split
    · rfl
    · split
      · rfl
      · dsimp only; split <;> rfl
theorem bAppend [Env] {R : List Seg} {p c : Nat} {q : Q3} {sl : Sv} {L : LogM} {D : Dev} {s : Bytes} (hL : L.ok D) (hs : itOk sl L) :
    Con Try.prog 27 [ptr p, str s] [logG p c q sl L, dev q D] R (fun u L' => ∃ sl', u = i64 (L.append D s).1 ∧ itOk sl' (L.append D s).2.1 ∧ L' = [logG p c q sl' (L.append D s).2.1, dev q (L.append D s).2.2]) := by
  refine (lAppend hL hs).via pG3 ?_
  rintro v L' ⟨sl', rfl, h2, rfl⟩
  refine ⟨_, ⟨sl', rfl, h2, rfl⟩, ?_⟩
  rw [← append_c L D s]
  exact pG3.symm
theorem bTrim [Env] {R : List Seg} {p c : Nat} {q : Q3} {sl : Sv} {L : LogM} {D : Dev} {k : Int} (hL : L.ok D) (hs : itOk sl L) :
    Con Try.prog 28 [ptr p, i64 k] [logG p c q sl L, dev q D] R (fun u L' => ∃ sl', u = i64 (L.trim D k).1 ∧ itOk sl' (L.trim D k).2.1 ∧ L' = [logG p c q sl' (L.trim D k).2.1, dev q (L.trim D k).2.2]) := by
  refine (lTrim hL hs).via pG2 ?_
  rintro v L' ⟨sl', rfl, h2, rfl⟩
  exact ⟨_, ⟨sl', rfl, h2, rfl⟩, pG2.symm⟩
/-! on a device whose power is there -/
abbrev logD (first : Int) (n : Nat) (a b : Int) (D : Dev) (h t le : Int) (l : List (Bytes × Int)) : LogM := ⟨first, n, openC D a b, h, t, le, l⟩
theorem gOpen [Env] {R : List Seg} {q : Q3} {first : Int} {n : Nat} {a b nb : Int} {D : Dev} {N k : Nat} {h t le : Int} {l : List (Bytes × Int)} (g : LDev first n a b D N k h t le l) (hk : k < 4611686018427387000) (hn : nb = n) :
    Con Try.prog 26 [dp q, i64 first, i64 nb, i64 a, i64 b] [dev q D] R (fun u L' => ∃ D' p c sl, u = .tuple #[ptr p, i64 0] ∧ LDev first n a b D' N (k + 1) h (t + 1) le l ∧ (∀ j : Int, 0 ≤ j → j < N → j ≠ a → j ≠ b → D'.sec j = D.sec j) ∧
      itOk sl (logD first n a b D' h (t + 1) le l) ∧ L' = [logG p c q sl (logD first n a b D' h (t + 1) le l), dev q D']) := by
  subst hn
  obtain ⟨D', e1, e2, e3⟩ := g.opened hk
  have hC := (openC_ok g.e).1
  have e4 := openC_ab D a b
  have ha := hC.a
  have hb := hC.b
  rw [e4.1] at ha
  rw [e4.2] at hb
  have h512 := g.up.ok.n
  have hop := lOpen (R := R) (q := q) (first := first) (n := n) (a := a) (b := b) g.up.ok (by omega) (by omega)
  rw [e1] at hop
  refine hop.via (.refl _) ?_
  rintro v L (⟨h1, _⟩ | ⟨_, p, c, sl, rfl, h2, rfl⟩)
  · exact absurd rfl h1
  · exact ⟨_, ⟨D', p, c, sl, rfl, e2, e3, h2, rfl⟩, pG2.symm⟩
theorem bOpenBad [Env] {R : List Seg} {q : Q3} {D : Dev} {first n a b : Int} (hD : D.ok) (h : logArg D first n a b) (ha : a ≤ 9223372036854775807) (hb : b ≤ 9223372036854775807) : Con Try.prog 26 [dp q, i64 first, i64 n, i64 a, i64 b] [dev q D] R (Is (.tuple #[nilP, i64 1]) [dev q D]) := by
  have hop := lOpen (R := R) (q := q) (first := first) (n := n) (a := a) (b := b) hD ha hb
  have e : logOpen D first n a b = (1, log0 D first n.toNat a b, D) := by unfold logOpen; rw [if_pos h]
  rw [e] at hop
  refine hop.mono ?_
  rintro v L (⟨h1, rfl, rfl⟩ | ⟨h1, _⟩)
  · exact ⟨rfl, rfl⟩
  · cases h1
theorem gAppend [Env] {R : List Seg} {p c : Nat} {q : Q3} {sl : Sv} {first : Int} {n : Nat} {a b : Int} {D : Dev} {N k : Nat} {h t le : Int} {l : List (Bytes × Int)} {s : Bytes} (g : LDev first n a b D N k h t le l) (hk : k < 4611686018427387000) (hs : itOk sl (logD first n a b D h t le l)) :
    Con Try.prog 27 [ptr p, str s] [logG p c q sl (logD first n a b D h t le l), dev q D] R (fun u L' => ∃ sl' D' l', u = i64 (if 110 < (s.length : Int) then 3 else if n = l.length then 12 else 0) ∧ LDev first n a b D' N (k + 1) h t le l' ∧
      l' = (if s.length ≤ 110 ∧ l.length < n then l ++ [(s, t)] else l) ∧ (∀ j : Int, j ≠ first + (h + l.length) % n → D'.sec j = D.sec j) ∧ (¬ (s.length ≤ 110 ∧ l.length < n) → D' = D) ∧ itOk sl' (logD first n a b D' h t le l') ∧ L' = [logG p c q sl' (logD first n a b D' h t le l'), dev q D']) := by
  obtain ⟨D', l', e1, e2, e3, e4, e5⟩ := g.append hk s
  refine (bAppend (g.ok0 hk) hs).mono ?_
  rintro v L ⟨sl', rfl, h2, rfl⟩
  rw [e1] at h2 ⊢
  exact ⟨sl', D', l', rfl, e2, e3, e4, e5, h2, rfl⟩
theorem gTrim [Env] {R : List Seg} {p c : Nat} {q : Q3} {sl : Sv} {first : Int} {n : Nat} {a b : Int} {D : Dev} {N k : Nat} {h t le : Int} {l : List (Bytes × Int)} {m : Int} (g : LDev first n a b D N k h t le l) (hk : k < 4611686018427387000) (hs : itOk sl (logD first n a b D h t le l)) :
    Con Try.prog 28 [ptr p, i64 m] [logG p c q sl (logD first n a b D h t le l), dev q D] R (fun u L' => ∃ sl' D' h' le' l', u = i64 (if h ≤ m ∧ m ≤ h + l.length then 0 else 1) ∧ LDev first n a b D' N (k + 1) h' t le' l' ∧
      h' = (if h ≤ m ∧ m ≤ h + l.length then m else h) ∧ l' = (if h ≤ m ∧ m ≤ h + l.length then l.drop (m - h).toNat else l) ∧ (∀ j : Int, 0 ≤ j → j < N → j ≠ a → j ≠ b → D'.sec j = D.sec j) ∧ itOk sl' (logD first n a b D' h' t le' l') ∧ L' = [logG p c q sl' (logD first n a b D' h' t le' l'), dev q D']) := by
  refine (bTrim (g.ok0 hk) hs).mono ?_
  rintro v L ⟨sl', rfl, h2, rfl⟩
  by_cases hm : h ≤ m ∧ m ≤ h + l.length
  · obtain ⟨D', le', e1, e2, e3⟩ := g.trim hk hm
    rw [e1] at h2 ⊢
    exact ⟨sl', D', m, le', _, by rw [if_pos hm], e2, by rw [if_pos hm], by rw [if_pos hm], e3, h2, rfl⟩
  · rw [LDev.trim_no hm] at h2 ⊢
    exact ⟨sl', D, h, le, l, by rw [if_neg hm], g.up1, by rw [if_neg hm], by rw [if_neg hm], fun _ _ _ _ _ => rfl, h2, rfl⟩
theorem gSync [Env] {R : List Seg} {p c : Nat} {q : Q3} {sl : Sv} {first : Int} {n : Nat} {a b : Int} {D : Dev} {N k : Nat} {h t le : Int} {l : List (Bytes × Int)} (g : LDev first n a b D N k h t le l) (hs : itOk sl (logD first n a b D h t le l)) :
    Con Try.prog 35 [ptr p] [logG p c q sl (logD first n a b D h t le l), dev q D] R (fun u L' => ∃ D', u = i64 0 ∧ LDev first n a b D' N k h t le l ∧ D'.es = [] ∧ (∀ j : Int, 0 ≤ j → j < N → D'.sec j = D.sec j) ∧ itOk sl (logD first n a b D' h t le l) ∧ L' = [logG p c q sl (logD first n a b D' h t le l), dev q D']) := by
  obtain ⟨e1, e2, e3⟩ := g.sync
  refine (bSync g.up.ok).mono ?_
  rintro v L ⟨rfl, rfl⟩
  rw [e1]
  refine ⟨D.barrier.2, rfl, e2, by rw [g.up.barrier], fun j h0 h1 => g.up.sec_barrier h0 h1, hs, ?_⟩
  unfold logD
  rw [e3]
end W
end Go.Proofs
