/- A part of the proof: contracts and plain lemmas, each without conditions beyond those that it names. -/
import Derived.Test.YtediodfmkbfomaaGreatL6
import Derived.Test.YtediodfmkbfomaaGreatGM
import Derived.Test.YtediodfmkbfomaaGreatGC
import Derived.Test.YtediodfmkbfomaaGreatGH
set_option linter.unusedVariables false
set_option linter.unusedSimpArgs false
set_option linter.constructorNameAsVariable false
namespace Go.Proofs
open Go Go.Sl
namespace W
set_option linter.unusedVariables false
def logG (p c : Nat) (q : Q3) (sl : Sv) (L : LogM) : Seg := logP p c q sl L ++ itS sl L ++ celP c q L.c
theorem pG0 {p c : Nat} {q : Q3} {sl : Sv} {L : LogM} {R : List Seg} : ([logG p c q sl L] ++ R).flatten.Perm ([logP p c q sl L] ++ (itS sl L :: celP c q L.c :: R)).flatten := by simp [logG]
theorem pG1 {p c : Nat} {q : Q3} {sl : Sv} {L : LogM} {R : List Seg} : ([logG p c q sl L] ++ R).flatten.Perm ([logP p c q sl L, itS sl L] ++ (celP c q L.c :: R)).flatten := by simp [logG]
theorem pG2 {p c : Nat} {q : Q3} {sl : Sv} {L : LogM} {d : Seg} {R : List Seg} : ([logG p c q sl L, d] ++ R).flatten.Perm ([logP p c q sl L, itS sl L, celP c q L.c, d] ++ R).flatten := by simp [logG]
theorem pG3 {p c : Nat} {q : Q3} {sl : Sv} {L : LogM} {d : Seg} {R : List Seg} : ([logG p c q sl L, d] ++ R).flatten.Perm ([logP p c q sl L, itS sl L, d] ++ (celP c q L.c :: R)).flatten := by
 simp only [logG, List.cons_append, List.nil_append, List.flatten_cons, List.append_assoc]
 exact .append_left _ (.append_left _ (List.perm_append_comm_assoc _ _ _))
theorem pG4 {p c : Nat} {q : Q3} {sl : Sv} {L : LogM} {d : Seg} {R : List Seg} : ([logG p c q sl L, d] ++ R).flatten.Perm ([logP p c q sl L, d] ++ (itS sl L :: celP c q L.c :: R)).flatten := by
 simp only [logG, List.cons_append, List.nil_append, List.flatten_cons, List.append_assoc]
 exact .append_left _ ((List.Perm.append_left _ (List.perm_append_comm_assoc _ _ _)).trans (List.perm_append_comm_assoc _ _ _))
theorem bHead [Env] {R : List Seg} {p c : Nat} {q : Q3} {sl : Sv} {L : LogM} : Con Tryz.prog 50 [ptr p] [logG p c q sl L] R (Is (i64 L.head) [logG p c q sl L]) := by
 refine lHead.via pG0 ?_
 rintro v L' ⟨rfl, rfl⟩
 exact ⟨_, ⟨rfl, rfl⟩, pG0.symm⟩
theorem bTail [Env] {R : List Seg} {p c : Nat} {q : Q3} {sl : Sv} {L : LogM} (hs : itOk sl L) (h1 : 0 ≤ L.head) (h2 : L.tail ≤ 4611686018427388416) (hl : L.l.length ≤ 512) : Con Tryz.prog 56 [ptr p] [logG p c q sl L] R (Is (i64 L.tail) [logG p c q sl L]) := by
 refine (lTail hs h1 h2 hl).via pG0 ?_
 rintro v L' ⟨rfl, rfl⟩
 exact ⟨_, ⟨rfl, rfl⟩, pG0.symm⟩
theorem bFree [Env] {R : List Seg} {p c : Nat} {q : Q3} {sl : Sv} {L : LogM} (hs : itOk sl L) (h1 : L.n ≤ 512) (hl : L.l.length ≤ 512) : Con Tryz.prog 71 [ptr p] [logG p c q sl L] R (Is (i64 ((L.n : Int) - L.l.length)) [logG p c q sl L]) := by
 refine (lFree hs h1 hl).via pG0 ?_
 rintro v L' ⟨rfl, rfl⟩
 exact ⟨_, ⟨rfl, rfl⟩, pG0.symm⟩
theorem bRecords [Env] {R : List Seg} {p c : Nat} {q : Q3} {sl : Sv} {L : LogM} (hs : itOk sl L) (hl : L.l.length ≤ 512) :
   Con Tryz.prog 47 [ptr p] [logG p c q sl L] R (KSv 9 (L.l.map (·.1)).length 1 (strsV (L.l.map (·.1))) [logG p c q sl L]) := by
 refine (lRecords hs hl).via pG1 ?_
 rintro v L' ⟨s, rfl, h2, rfl⟩
 refine ⟨_, ⟨s, rfl, h2, rfl⟩, ?_⟩
 simp [logG]
theorem bSync [Env] {R : List Seg} {p c : Nat} {q : Q3} {sl : Sv} {L : LogM} {D : Dev} (hD : D.ok) : Con Tryz.prog 54 [ptr p] [logG p c q sl L, dev q D] R (Is (i64 D.barrier.1) [logG p c q sl L, dev q D.barrier.2]) := by
 refine (lSync hD).via pG4 ?_
 rintro v L' ⟨rfl, rfl⟩
 exact ⟨_, ⟨rfl, rfl⟩, pG4.symm⟩
theorem append_c (L : LogM) (D : Dev) (s : Bytes) : (L.append D s).2.1.c = L.c := by
 unfold LogM.append
 split
 · rfl
 · split
   · rfl
   · split
     · rfl
     · dsimp only; split <;> rfl
theorem bAppend [Env] {R : List Seg} {p c : Nat} {q : Q3} {sl : Sv} {L : LogM} {D : Dev} {s : Bytes} (hL : L.ok D) (hs : itOk sl L) :
   Con Tryz.prog 57 [ptr p, str s] [logG p c q sl L, dev q D] R (fun u L' => ∃ sl', u = i64 (L.append D s).1 ∧ itOk sl' (L.append D s).2.1 ∧ L' = [logG p c q sl' (L.append D s).2.1, dev q (L.append D s).2.2]) := by
 refine (lAppend hL hs).via pG3 ?_
 rintro v L' ⟨sl', rfl, h2, rfl⟩
 refine ⟨_, ⟨sl', rfl, h2, rfl⟩, ?_⟩
 rw [← append_c L D s]
 exact pG3.symm
theorem bTrim [Env] {R : List Seg} {p c : Nat} {q : Q3} {sl : Sv} {L : LogM} {D : Dev} {k : Int} (hL : L.ok D) (hs : itOk sl L) :
   Con Tryz.prog 73 [ptr p, i64 k] [logG p c q sl L, dev q D] R (fun u L' => ∃ sl', u = i64 (L.trim D k).1 ∧ itOk sl' (L.trim D k).2.1 ∧ L' = [logG p c q sl' (L.trim D k).2.1, dev q (L.trim D k).2.2]) := by
 refine (lTrim hL hs).via pG2 ?_
 rintro v L' ⟨sl', rfl, h2, rfl⟩
 exact ⟨_, ⟨sl', rfl, h2, rfl⟩, pG2.symm⟩
end W
end Go.Proofs
namespace Go.Sl
set_option linter.unusedSimpArgs false
variable {P : Program} {n : Nat} {l : List (Nat × Value)} {L : List Seg} {d : Option Tmp} {ty : TypeId} {pos : String} {af : Array Edge} {g : Option (Nat × Bool)}
theorem ev_assertY [Env] {x : Operand} {T xT : TypeId} {v : Value} {ds : TypeDesc} (hx : ev l x = some (.iface T v)) (hu : P.underlying T = some ds) (hni : ∀ q, ds ≠ .interface q) :
    Ev P n ⟨d, .typeAssert x xT T true, ty, pos, af, g⟩ l L (.tuple #[v, .bool true]) := by
  intro a w hf _
  cases ds <;> simp_all [execOp, Instr.typeAssert, hf.ev hx, run_underlying hu]
theorem ev_assertN [Env] {x : Operand} {T U xT : TypeId} {v z : Value} {ds : TypeDesc} (hx : ev l x = some (.iface U v)) (hu : P.underlying T = some ds) (hni : ∀ q, ds ≠ .interface q) (hne : ¬ U = T) (hz : ∀ w, (zeroValue T).run P w = .ok z w) :
    Ev P n ⟨d, .typeAssert x xT T true, ty, pos, af, g⟩ l L (.tuple #[z, .bool false]) := by
  intro a w hf _
  cases ds <;> simp_all [execOp, Instr.typeAssert, hf.ev hx, run_underlying hu]
def isIf : Value → Bool
  | .nilIface => false
  | _ => true
theorem ev_neqIn [Env] {x : Operand} {t t' : TypeId} {v : Value} {ms : Array (String × TypeId)} (hx : ev l x = some v) (hu : P.underlying t = some (.interface ms)) (hv : v = .nilIface ∨ ∃ T u, v = .iface T u) :
    Ev P n ⟨d, .binOp .neq t x (.const .nilIface) t', ty, pos, af, g⟩ l L (.bool (isIf v)) := by
  intro a w hf _
  have hm : P.underlying t = some (.interface (P.methodsAt t)) := by rw [hu]; simp [Program.methodsAt, hu]
  rcases hv with rfl | ⟨T, u, rfl⟩
  · have h := run_neq_nil_nil (P := P) (w := w) t hm
    have e : a.eval x = .nilIface := hf.ev hx
    simp only [execOp, Sem.run_bind, e]
    simp [Act.eval, eqGuard_nil_constR, h, isIf]
  · have h := run_neq_held_nil (P := P) (w := w) t T u hm
    have e : a.eval x = .iface T u := hf.ev hx
    simp only [execOp, Sem.run_bind, e]
    simp [Act.eval, eqGuard, h, isIf]
end Go.Sl
namespace Go.Sl
theorem jget [Env] {P : Program} {n : Nat} {c : Operand} {A B : Code} {Q : Exit → Act → World → Prop} {K : Act → World → Prop} {I : Prop} {F : List (Nat × Value)} {M : List Seg}
    (_ : ∀ l L, Sc P n (.cond c A B) Q l L → Sk n K l L) (h : I → Sc P n B Q F M) : I → Sc P n B Q F M := h
end Go.Sl
namespace Go.Sl
theorem ac_copyV [Env] {P : Program} {n : Nat} {l : List (Nat × Value)} {L : List Seg} {d : Option Tmp} {ty : TypeId} {pos : String} {af : Array Edge} {g : Option (Nat × Bool)}
    {x z : Operand} {dT sT e : TypeId} {b o dl dc m : Nat} {vs vs' us : List Value} {T : TypeId} {v : Value} {L' : List Seg}
    (hx : ev l x = some (.slice (some ⟨b, o, none⟩) dl dc)) (hz : ev l z = some v) (hu : P.underlying dT = some (.slice e)) (hs : ∀ w, (sizeOf e).run P w = .ok 1 w)
    (hsrc : Src P L 1 v m us) (h1 : ∀ u ∈ us, u.oneCell' = true) (hm : m ≤ dl) (r : Rp L (sc b vs T) (sc b vs' T) L') (ho : o + m ≤ vs.length) (hv : vs.take o ++ us ++ vs.drop (o + m) = vs') :
    Ac P n ⟨d, .call { callee := .builtin .copy, args := #[x, z], argTypes := #[dT, sT] }, ty, pos, af, g⟩ l L (fun v L'' => v = .int .i64 m ∧ L'' = L') := by
  have hl : us.length = m := by have := hsrc.1; omega
  have ht : us.take m = us := List.take_of_length_le (by omega)
  exact ac_copy hx hz hu hs hsrc h1 (show m = min m dl by omega) r ho (by rw [ht]; exact hv) (fun w hw => by rw [ht]; exact (hsrc.2 w hw).2)
end Go.Sl
