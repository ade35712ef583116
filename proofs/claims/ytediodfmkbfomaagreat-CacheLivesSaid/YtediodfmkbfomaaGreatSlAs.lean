/- A part of the proof: contracts and plain lemmas, each without conditions beyond those that it names. -/
import Derived.Test.YtediodfmkbfomaaGreatGC
import Derived.Test.YtediodfmkbfomaaGreatGH
set_option linter.unusedVariables false
set_option linter.unusedSimpArgs false
set_option linter.constructorNameAsVariable false
namespace Go.Sl
set_option linter.unusedSimpArgs false
variable {P : Program} {n : Nat} {l : List (Nat × Value)} {L : List Seg} {d : Option Tmp} {ty : TypeId} {pos : String} {af : Array Edge} {g : Option (Nat × Bool)}
theorem ev_assertY [Env] {x : Operand} {T xT : TypeId} {v : Value} {ds : TypeDesc} (hx : ev l x = some (.iface T v)) (hu : P.underlying T = some ds) (hni : ∀ q, ds ≠ .interface q) :
    Ev P n ⟨d, .typeAssert x xT T true, ty, pos, af, g⟩ l L (.tuple #[v, .bool true]) := by
  intro a w hf _
  cases ds <;> simp_all [execOp, Instr.typeAssert, hf.ev hx, run_underlying hu]
theorem ev_assertN [Env] {x : Operand} {T U xT : TypeId} {v z : Value} {ds : TypeDesc} (hx : ev l x = some (.iface U v)) (hu : P.underlying T = some ds) (hni : ∀ q, ds ≠ .interface q) (hne : ¬ U = T) (hz : ∀ w, (zeroValue T).run P w = .ok z w) :
    Ev P n ⟨d, .typeAssert x xT T true, ty, pos, af, g⟩ l L (.tuple #[z, .bool false]) := by
  intro a w hf _
  cases ds <;> simp_all [execOp, Instr.typeAssert, hf.ev hx, run_underlying hu]
def isIf : Value → Bool
  | .nilIface => false
  | _ => true
theorem ev_neqIn [Env] {x : Operand} {t t' : TypeId} {v : Value} {ms : Array (String × TypeId)} (hx : ev l x = some v) (hu : P.underlying t = some (.interface ms)) (hv : v = .nilIface ∨ ∃ T u, v = .iface T u) :
    Ev P n ⟨d, .binOp .neq t x (.const .nilIface) t', ty, pos, af, g⟩ l L (.bool (isIf v)) := by
  intro a w hf _
  have hm : P.underlying t = some (.interface (P.methodsAt t)) := by rw [hu]; simp [Program.methodsAt, hu]
  rcases hv with rfl | ⟨T, u, rfl⟩
  · have h := run_neq_nil_nil (P := P) (w := w) t hm
    have e : a.eval x = .nilIface := hf.ev hx
    simp only [execOp, Sem.run_bind, e]
    simp [Act.eval, eqGuard_nil_constR, h, isIf]
  · have h := run_neq_held_nil (P := P) (w := w) t T u hm
    have e : a.eval x = .iface T u := hf.ev hx
    simp only [execOp, Sem.run_bind, e]
    simp [Act.eval, eqGuard, h, isIf]
end Go.Sl
namespace Go.Sl
theorem jget [Env] {P : Program} {n : Nat} {c : Operand} {A B : Code} {Q : Exit → Act → World → Prop} {K : Act → World → Prop} {I : Prop} {F : List (Nat × Value)} {M : List Seg}
    (_ : ∀ l L, Sc P n (.cond c A B) Q l L → Sk n K l L) (h : I → Sc P n B Q F M) : I → Sc P n B Q F M := h
end Go.Sl
namespace Go.Sl
theorem ac_copyV [Env] {P : Program} {n : Nat} {l : List (Nat × Value)} {L : List Seg} {d : Option Tmp} {ty : TypeId} {pos : String} {af : Array Edge} {g : Option (Nat × Bool)}
    {x z : Operand} {dT sT e : TypeId} {b o dl dc m : Nat} {vs vs' us : List Value} {T : TypeId} {v : Value} {L' : List Seg}
    (hx : ev l x = some (.slice (some ⟨b, o, none⟩) dl dc)) (hz : ev l z = some v) (hu : P.underlying dT = some (.slice e)) (hs : ∀ w, (sizeOf e).run P w = .ok 1 w)
    (hsrc : Src P L 1 v m us) (h1 : ∀ u ∈ us, u.oneCell' = true) (hm : m ≤ dl) (r : Rp L (sc b vs T) (sc b vs' T) L') (ho : o + m ≤ vs.length) (hv : vs.take o ++ us ++ vs.drop (o + m) = vs') :
    Ac P n ⟨d, .call { callee := .builtin .copy, args := #[x, z], argTypes := #[dT, sT] }, ty, pos, af, g⟩ l L (fun v L'' => v = .int .i64 m ∧ L'' = L') := by
  have hl : us.length = m := by have := hsrc.1; omega
  have ht : us.take m = us := List.take_of_length_le (by omega)
  exact ac_copy hx hz hu hs hsrc h1 (show m = min m dl by omega) r ho (by rw [ht]; exact hv) (fun w hw => by rw [ht]; exact (hsrc.2 w hw).2)
end Go.Sl
