/- A part of the proof. -/
import Derived.Test.YtlignadmmopdmaaGreatN43
import Derived.Test.YtlignadmmopdmaaGreatGF
set_option linter.unusedVariables false
set_option linter.unusedSimpArgs false
set_option linter.constructorNameAsVariable false
namespace Go.Sl
theorem decMsg_enc{m:MsgM}(h:m.may=true):decMsg (encMsg m)=(m,0):=by
 have h1:decM (encMsg m)=(msgR m,0):=by unfold encMsg;rw[if_pos h];exact decM_some (recD_recB (msgR_may h))
 rw[decMsg_is (s:=encMsg m) h1,if_pos h]
/-- What no act changes: its number, its device's, and whether it has lost all. -/
def NodM.who(n:NodM):Int × Int × Bool:=(n.id,n.serial,n.lost)
namespace NodM
variable {n : NodM}
end NodM
theorem boot_who(n:NodM)(e:Int):(n.boot e).2.who=n.who:=by
 unfold NodM.boot;dsimp only;split
 · rfl
 split<;>rfl
end Go.Sl