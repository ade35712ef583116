/- A part of the proof. -/
import Derived.Test.YtlignadmmopdmaaGreatN43
import Derived.Test.YtlignadmmopdmaaGreatGF
set_option linter.unusedVariables false
set_option linter.unusedSimpArgs false
set_option linter.constructorNameAsVariable false
namespace Go.Sl
/-- What no act changes: its number, its device's, and whether it has lost all. -/
def NodM.who(n:NodM):Int × Int × Bool:=(n.id,n.serial,n.lost)
namespace NodM
variable {n : NodM}
end NodM
theorem boot_who(n:NodM)(e:Int):(n.boot e).2.who=n.who:=by
 unfold NodM.boot;dsimp only;split
 · rfl
 split<;>rfl
end Go.Sl