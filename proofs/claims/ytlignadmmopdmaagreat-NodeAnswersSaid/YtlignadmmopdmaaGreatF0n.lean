/- What the rows of package node need: what their arguments' readings give. -/
import Derived.Test.YtlignadmmopdmaaGreatN43
import Derived.Test.YtlignadmmopdmaaGreatGL
import Derived.Test.YtlignadmmopdmaaGreatRows
import Derived.WalkKit
import Derived.OpenShut
set_option linter.unusedVariables false
set_option linter.unusedSimpArgs false
set_option linter.constructorNameAsVariable false
namespace Go.Proofs.YtlignadmmopdmaaGreat
open _root_.Go.Proofs.Tryz
open Go Go.Sl Go.ChangeShapes Go.WideShapes Go.ChangeAt Go.RowKit
theorem own:ownKnob Tryz.prog.godebug=none:=by kernel_rfl
theorem laidOut:laidOutB Tryz.prog=true:=by kernel_rfl
theorem shape_of{H:Type}{enc:TypeId × Value→H}{W:World}{base:Nat}{spare:Nat→Bool}{held:Bool}{v:Value}{d:DataW H}{p:List MemPlace}(hv: ∃cs,v= .agg cs)
   (h:DataW.Trod enc Tryz.prog W base spare held 23 v d p): ∃x:ShapeM,v= .agg x.cells.toArray:=by
 obtain⟨cs,rfl⟩:=hv;obtain⟨fuel,hf⟩:=h;obtain⟨x,h1⟩:=open_shape underlying23 (by kernel_rfl) (by kernel_rfl) underlying3 underlying2 underlying3 underlying3 underlying2 underlying2 hf;refine⟨x,?_⟩;simp[Value.cells]at h1;rw[show cs=x.cells.toArray by rw[←h1]]
set_option maxRecDepth 100000 in
theorem msg_of0{H:Type}{enc:TypeId × Value→H}{W:World}{base:Nat}{spare:Nat→Bool}{held:Bool}{n:Nat}{cs:List Value}{y:DataW H × List MemPlace}
   (h:DataW.trod enc Tryz.prog W base spare held n 34 cs=some y): ∃m:MsgM,cs=m.cells:=
 open_msg underlying34 (by kernel_rfl) (by kernel_rfl) underlying3 underlying2 underlying2 underlying2 underlying3 underlying3 underlying31 underlying32 underlying2 (by kernel_rfl) underlying9 underlying9 h
set_option maxRecDepth 100000 in
theorem actn_of{H:Type}{enc:TypeId × Value→H}{W:World}{base:Nat}{spare:Nat→Bool}{held:Bool}{n:Nat}{cs:List Value}{y:DataW H × List MemPlace}
   (h:DataW.trod enc Tryz.prog W base spare held n 37 cs=some y): ∃a:ActN,cs=a.cells∧@ActN.ok (envAt W) [baseSeg W] a:=
 open_actn underlying37 (by kernel_rfl) (by kernel_rfl) underlying3 underlying3 underlying3 underlying3 (fun _ _ _ h=>msg_of0 h) underlying9
   underlying35 underlying81 (by kernel_rfl) (by kernel_rfl) underlying3 underlying3 h
theorem actns_of{H:Type}{enc:TypeId × Value→H}{W:World}{base:Nat}{spare:Nat→Bool}{held:Bool}{v:Value}{d:DataW H}{p:List MemPlace}(hv: ∃a len cap,v= .slice a len cap)
   (h:DataW.Trod enc Tryz.prog W base spare held 24 v d p): ∃acts:List ActN,@RdV (envAt W) [baseSeg W] v acts.length (actnsV acts)∧(∀a∈acts,@ActN.ok (envAt W) [baseSeg W] a)∧acts.length≤maxLen:=by
 obtain⟨a,len,cap,rfl⟩:=hv;obtain⟨fuel,hf⟩:=h;obtain⟨v,l,h1,h2,h3,h4⟩:=open_sl (f:=ActN.cells) (ok:=@ActN.ok (envAt W) [baseSeg W]) underlying24 (show Tryz.prog.cellsOf 37=19 by kernel_rfl) (by omega) (fun _=>rfl) (fun n cs' y hy=>actn_of hy) hf;simp[Value.cells]at h1;subst h1;exact⟨l,h2,h3,h4⟩
end Go.Proofs.YtlignadmmopdmaaGreat