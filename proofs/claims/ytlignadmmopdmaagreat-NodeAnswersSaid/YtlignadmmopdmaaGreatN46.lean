/- A part of the proof. -/
import Derived.Test.YtlignadmmopdmaaGreatUn
import Derived.Test.YtlignadmmopdmaaGreatN45
set_option linter.unusedVariables false
set_option linter.unusedSimpArgs false
set_option linter.constructorNameAsVariable false
namespace Go.Proofs
open Go Go.Sl
namespace W
set_option maxHeartbeats 4000000
theorem nBeginNone [Env]{R:List Seg}{x:ShapeM}(h:beginN x=none):Con Tryz.prog 13 [.agg x.cells.toArray] [] R (fun u L'=> ∃dv,u= .tuple #[dv,nilP]∧L'=[]):=by
 refine nBegin.mono ?_;rintro v L' (⟨-,h2⟩|⟨n,F,V,h2,-⟩)
 · exact h2
 rw[h]at h2;cases h2
theorem nBeginSome [Env]{R:List Seg}{x:ShapeM}{n:NodM}(h:beginN x=some n):Con Tryz.prog 13 [.agg x.cells.toArray] [] R (fun u L'=> ∃F V,NVok V n∧u= .tuple #[dp F.q,ptr F.p]∧L'=nodL F V n):=by
 refine nBegin.mono ?_;rintro v L' (⟨h2,-⟩|⟨n',F,V,h2,h3⟩)
 · rw[h]at h2;cases h2
 rw[h]at h2;cases h2;exact⟨F,V,h3⟩
theorem told_len{n:NodM}{K:Nat}(h:n.ok K)(a:ActN):(n.told a).length≤K+140:=by
 unfold NodM.told;split
 · exact(h.step a).out
 exact Nat.zero_le _
end W
end Go.Proofs