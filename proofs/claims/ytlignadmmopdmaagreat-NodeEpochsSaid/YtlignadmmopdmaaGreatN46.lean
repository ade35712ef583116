/- A part of the proof. -/
import Derived.Test.YtlignadmmopdmaaGreatUn
import Derived.Test.YtlignadmmopdmaaGreatN45
set_option linter.unusedVariables false
set_option linter.unusedSimpArgs false
set_option linter.constructorNameAsVariable false
namespace Go.Proofs
open Go Go.Sl
namespace W
set_option maxHeartbeats 4000000
theorem H7 [Env]{R:List ax}{x:hG}(h:iE x=none):bC Tryz.prog 13 [.agg x.cells.toArray] [] R (fun u L'=> ∃dv,u= .tuple #[dv,jx]∧L'=[]):=by
 refine PO.mono ?_;rintro v L' (⟨-,h2⟩|⟨n,F,V,h2,-⟩)
 · exact h2
 rw[h]at h2;cases h2
theorem H8 [Env]{R:List ax}{x:hG}{n:aa}(h:iE x=some n):bC Tryz.prog 13 [.agg x.cells.toArray] [] R (fun u L'=> ∃F V,ct V n∧u= .tuple #[dp F.q,ptr F.p]∧L'=ao F V n):=by
 refine PO.mono ?_;rintro v L' (⟨h2,-⟩|⟨n',F,V,h2,h3⟩)
 · rw[h]at h2;cases h2
 rw[h]at h2;cases h2;exact⟨F,V,h3⟩
end W
end Go.Proofs