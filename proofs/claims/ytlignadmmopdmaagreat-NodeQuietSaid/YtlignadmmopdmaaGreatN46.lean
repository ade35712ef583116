/- A part of the proof. -/
import Derived.Test.YtlignadmmopdmaaGreatUn
import Derived.Test.YtlignadmmopdmaaGreatN45
set_option linter.unusedVariables false
set_option linter.unusedSimpArgs false
set_option linter.constructorNameAsVariable false
namespace Go.Proofs
open Go Go.Sl
namespace W
set_option maxHeartbeats 4000000
theorem told_len{n:NodM}{K:Nat}(h:n.ok K)(a:ActN):(n.told a).length≤K+140:=by
 unfold NodM.told
 split
 · exact(h.step a).out
 exact Nat.zero_le _
end W
end Go.Proofs
