/- A part of the proof. -/
import Derived.Test.YtlignadmmopdmaaGreatNodT
import Derived.Test.YtlignadmmopdmaaGreatNodP
set_option linter.unusedVariables false
set_option linter.unusedSimpArgs false
set_option linter.constructorNameAsVariable false
namespace Go.Sl
namespace aa
variable {n : aa} {K : Nat}
end aa
end Go.Sl