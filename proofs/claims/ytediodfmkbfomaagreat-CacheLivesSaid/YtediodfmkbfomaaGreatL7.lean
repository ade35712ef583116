/- A part of the proof: contracts and plain lemmas, each without conditions beyond those that it names. -/
import Derived.Test.YtediodfmkbfomaaGreatL6
import Derived.Test.YtediodfmkbfomaaGreatGM
set_option linter.unusedVariables false
set_option linter.unusedSimpArgs false
set_option linter.constructorNameAsVariable false
namespace Go.Proofs
open Go Go.Sl
namespace W
set_option linter.unusedVariables false
def logG (p c : Nat) (q : Q3) (sl : Sv) (L : LogM) : Seg := logP p c q sl L ++ itS sl L ++ celP c q L.c
theorem pG0 {p c : Nat} {q : Q3} {sl : Sv} {L : LogM} {R : List Seg} : ([logG p c q sl L] ++ R).flatten.Perm ([logP p c q sl L] ++ (itS sl L :: celP c q L.c :: R)).flatten := by simp [logG]
theorem pG1 {p c : Nat} {q : Q3} {sl : Sv} {L : LogM} {R : List Seg} : ([logG p c q sl L] ++ R).flatten.Perm ([logP p c q sl L, itS sl L] ++ (celP c q L.c :: R)).flatten := by simp [logG]
theorem pG2 {p c : Nat} {q : Q3} {sl : Sv} {L : LogM} {d : Seg} {R : List Seg} : ([logG p c q sl L, d] ++ R).flatten.Perm ([logP p c q sl L, itS sl L, celP c q L.c, d] ++ R).flatten := by simp [logG]
theorem pG3 {p c : Nat} {q : Q3} {sl : Sv} {L : LogM} {d : Seg} {R : List Seg} : ([logG p c q sl L, d] ++ R).flatten.Perm ([logP p c q sl L, itS sl L, d] ++ (celP c q L.c :: R)).flatten := by
  simp only [logG, List.cons_append, List.nil_append, List.flatten_cons, List.append_assoc]
  exact .append_left _ (.append_left _ (List.perm_append_comm_assoc _ _ _))
theorem pG4 {p c : Nat} {q : Q3} {sl : Sv} {L : LogM} {d : Seg} {R : List Seg} : ([logG p c q sl L, d] ++ R).flatten.Perm ([logP p c q sl L, d] ++ (itS sl L :: celP c q L.c :: R)).flatten := by
  simp only [logG, List.cons_append, List.nil_append, List.flatten_cons, List.append_assoc]
  exact .append_left _ ((List.Perm.append_left _ (List.perm_append_comm_assoc _ _ _)).trans (List.perm_append_comm_assoc _ _ _))
theorem bHead [Env] {R : List Seg} {p c : Nat} {q : Q3} {sl : Sv} {L : LogM} : Con Tryz.prog 50 [ptr p] [logG p c q sl L] R (Is (i64 L.head) [logG p c q sl L]) := by
  refine lHead.via pG0 ?_
  rintro v L' ⟨rfl, rfl⟩
  exact ⟨_, ⟨rfl, rfl⟩, pG0.symm⟩
theorem bTail [Env] {R : List Seg} {p c : Nat} {q : Q3} {sl : Sv} {L : LogM} (hs : itOk sl L) (h1 : 0 ≤ L.head) (h2 : L.tail ≤ 4611686018427388416) (hl : L.l.length ≤ 512) : Con Tryz.prog 56 [ptr p] [logG p c q sl L] R (Is (i64 L.tail) [logG p c q sl L]) := by
  refine (lTail hs h1 h2 hl).via pG0 ?_
  rintro v L' ⟨rfl, rfl⟩
  exact ⟨_, ⟨rfl, rfl⟩, pG0.symm⟩
theorem bFree [Env] {R : List Seg} {p c : Nat} {q : Q3} {sl : Sv} {L : LogM} (hs : itOk sl L) (h1 : L.n ≤ 512) (hl : L.l.length ≤ 512) : Con Tryz.prog 71 [ptr p] [logG p c q sl L] R (Is (i64 ((L.n : Int) - L.l.length)) [logG p c q sl L]) := by
  refine (lFree hs h1 hl).via pG0 ?_
  rintro v L' ⟨rfl, rfl⟩
  exact ⟨_, ⟨rfl, rfl⟩, pG0.symm⟩
theorem bRecords [Env] {R : List Seg} {p c : Nat} {q : Q3} {sl : Sv} {L : LogM} (hs : itOk sl L) (hl : L.l.length ≤ 512) :
    Con Tryz.prog 47 [ptr p] [logG p c q sl L] R (KSv 9 (L.l.map (·.1)).length 1 (strsV (L.l.map (·.1))) [logG p c q sl L]) := by
  refine (lRecords hs hl).via pG1 ?_
  rintro v L' ⟨s, rfl, h2, rfl⟩
  refine ⟨_, ⟨s, rfl, h2, rfl⟩, ?_⟩
  simp [logG]
theorem bSync [Env] {R : List Seg} {p c : Nat} {q : Q3} {sl : Sv} {L : LogM} {D : Dev} (hD : D.ok) : Con Tryz.prog 54 [ptr p] [logG p c q sl L, dev q D] R (Is (i64 D.barrier.1) [logG p c q sl L, dev q D.barrier.2]) := by
  refine (lSync hD).via pG4 ?_
  rintro v L' ⟨rfl, rfl⟩
  exact ⟨_, ⟨rfl, rfl⟩, pG4.symm⟩
theorem append_c (L : LogM) (D : Dev) (s : Bytes) : (L.append D s).2.1.c = L.c := by
  unfold LogM.append
  split
  · rfl
  · split
    · rfl
    · split
      · rfl
      · dsimp only; split <;> rfl
theorem bAppend [Env] {R : List Seg} {p c : Nat} {q : Q3} {sl : Sv} {L : LogM} {D : Dev} {s : Bytes} (hL : L.ok D) (hs : itOk sl L) :
    Con Tryz.prog 57 [ptr p, str s] [logG p c q sl L, dev q D] R (fun u L' => ∃ sl', u = i64 (L.append D s).1 ∧ itOk sl' (L.append D s).2.1 ∧ L' = [logG p c q sl' (L.append D s).2.1, dev q (L.append D s).2.2]) := by
  refine (lAppend hL hs).via pG3 ?_
  rintro v L' ⟨sl', rfl, h2, rfl⟩
  refine ⟨_, ⟨sl', rfl, h2, rfl⟩, ?_⟩
  rw [← append_c L D s]
  exact pG3.symm
theorem bTrim [Env] {R : List Seg} {p c : Nat} {q : Q3} {sl : Sv} {L : LogM} {D : Dev} {k : Int} (hL : L.ok D) (hs : itOk sl L) :
    Con Tryz.prog 73 [ptr p, i64 k] [logG p c q sl L, dev q D] R (fun u L' => ∃ sl', u = i64 (L.trim D k).1 ∧ itOk sl' (L.trim D k).2.1 ∧ L' = [logG p c q sl' (L.trim D k).2.1, dev q (L.trim D k).2.2]) := by
  refine (lTrim hL hs).via pG2 ?_
  rintro v L' ⟨sl', rfl, h2, rfl⟩
  exact ⟨_, ⟨sl', rfl, h2, rfl⟩, pG2.symm⟩
end W
end Go.Proofs
