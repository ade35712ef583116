/- A part of the proof: contracts and plain lemmas, each without conditions beyond those that it names. -/
import Derived.Test.YtediodfmkbfomaaGreatC15
import Derived.Test.YtediodfmkbfomaaGreatCacN
set_option linter.unusedVariables false
set_option linter.unusedSimpArgs false
set_option linter.constructorNameAsVariable false
namespace Go.Proofs
open Go Go.Sl
namespace W
set_option linter.unusedVariables false
theorem told_one' (s : Sv) (m : Nat) (a b c d e f : Int) : ∀ u ∈ [svVal s m, i64 a, i64 b, i64 c, i64 d, i64 e, i64 f], u.oneCell' = true := by
  intro u hu
  simp only [List.mem_cons, List.not_mem_nil, or_false] at hu
  rcases hu with rfl | rfl | rfl | rfl | rfl | rfl | rfl
  · exact svVal_one _ _
  all_goals rfl
abbrev toldM (s : Sv) (C : CaM) : List Value := [svVal s C.all.length, i64 C.k.e, i64 C.k.s, i64 C.k.t.a, i64 C.k.t.b, i64 C.k.t.c, i64 C.k.t.d]
end W
end Go.Proofs
