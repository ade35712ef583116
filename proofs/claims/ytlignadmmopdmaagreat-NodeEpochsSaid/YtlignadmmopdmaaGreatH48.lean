/- A part of the proof. -/
import Derived.Test.YtlignadmmopdmaaGreatN45
import Derived.Test.YtlignadmmopdmaaGreatGL
import Derived.Test.YtlignadmmopdmaaGreatRows
import Derived.WalkKit
import Derived.OpenShut
import Derived.Test.YtlignadmmopdmaaGreatN53
set_option linter.unusedVariables false
set_option linter.unusedSimpArgs false
set_option linter.constructorNameAsVariable false
namespace Go.Proofs.YtlignadmmopdmaaGreat
open _root_.Go.Proofs.Tryz
open Go Go.Sl Go.ChangeShapes Go.WideShapes Go.ChangeAt Go.RowKit
theorem own:ownKnob Tryz.prog.godebug=none:=by kernel_rfl
theorem laidOut:laidOutB Tryz.prog=true:=by kernel_rfl
theorem RD{H:Type}{enc:TypeId × Value→H}{W:World}{base:Nat}{spare:Nat→Bool}{held:Bool}{v:Value}{d:DataW H}{p:List MemPlace}(hv: ∃cs,v= .agg cs)
   (h:DataW.Trod enc Tryz.prog W base spare held 23 v d p): ∃x:hG,v= .agg x.cells.toArray:=by
 obtain⟨cs,rfl⟩:=hv;obtain⟨fuel,hf⟩:=h;obtain⟨x,h1⟩:=IC underlying23 (by kernel_rfl) (by kernel_rfl) underlying3 underlying2 underlying3 underlying3 underlying2 underlying2 hf;refine⟨x,?_⟩;simp[Value.cells]at h1;rw[show cs=x.cells.toArray by rw[←h1]]
set_option maxRecDepth 100000 in
theorem UG{H:Type}{enc:TypeId × Value→H}{W:World}{base:Nat}{spare:Nat→Bool}{held:Bool}{n:Nat}{cs:List Value}{y:DataW H × List MemPlace}
   (h:DataW.trod enc Tryz.prog W base spare held n 34 cs=some y): ∃m:aM,cs=m.cells:=
 Q6 underlying34 (by kernel_rfl) (by kernel_rfl) underlying3 underlying2 underlying2 underlying2 underlying3 underlying3 underlying31 underlying32 underlying2 (by kernel_rfl) underlying9 underlying9 h
set_option maxRecDepth 100000 in
theorem SY{H:Type}{enc:TypeId × Value→H}{W:World}{base:Nat}{spare:Nat→Bool}{held:Bool}{n:Nat}{cs:List Value}{y:DataW H × List MemPlace}
   (h:DataW.trod enc Tryz.prog W base spare held n 37 cs=some y): ∃a:gu,cs=a.cells∧@gu.ok (lN W) [gd W] a:=
 Mk underlying37 (by kernel_rfl) (by kernel_rfl) underlying3 underlying3 underlying3 underlying3 (fun _ _ _ h=>UG h) underlying9
   underlying35 underlying81 (by kernel_rfl) (by kernel_rfl) underlying3 underlying3 h
theorem Ns{H:Type}{enc:TypeId × Value→H}{W:World}{base:Nat}{spare:Nat→Bool}{held:Bool}{v:Value}{d:DataW H}{p:List MemPlace}(hv: ∃a len cap,v= .slice a len cap)
   (h:DataW.Trod enc Tryz.prog W base spare held 24 v d p): ∃xd:List gu,@cE (lN W) [gd W] v xd.length (Gu xd)∧(∀a∈xd,@gu.ok (lN W) [gd W] a)∧xd.length≤maxLen:=by
 obtain⟨a,len,cap,rfl⟩:=hv;obtain⟨fuel,hf⟩:=h;obtain⟨v,l,h1,h2,h3,h4⟩:=Kb (f:=gu.cells) (ok:=@gu.ok (lN W) [gd W]) underlying24 (show Tryz.prog.cellsOf 37=19 by kernel_rfl) (by omega) (fun _=>rfl) (fun n cs' y hy=>SY hy) hf;simp[Value.cells]at h1;subst h1;exact⟨l,h2,h3,h4⟩
end Go.Proofs.YtlignadmmopdmaaGreat
namespace Go.Proofs.YtlignadmmopdmaaGreat
open _root_.Go.Proofs.Tryz
open Go Go.Sl Go.ChangeShapes Go.WideShapes Go.ChangeAt Go.RowKit
namespace nodepochs
set_option maxRecDepth 100000 in
theorem contract(H:Type)(enc:TypeId × Value→H)(W:World)(base:Nat)(args:Array Value)(ds gs:List (DataW H))(before:List MemPlace)
   (Pf: ∀(j:Nat) t v,Tryz.f10.params[j]? =some t→args[j]? =some v→Value.okWide Tryz.prog W .any base t v)
   (hW:DataW.Whole enc Tryz.prog Tryz.f10.params.toList Rows.nodeEpochsSpec.vars false W args.toList ds gs before):
   Calls Tryz.prog 10 args W fun e W'=> ∃v,e= .returned v∧Rows.nodeEpochsSpec.post enc Tryz.prog Tryz.f10 false true false false W args v W':=by
 have hW':=hW;obtain⟨p,q,hA0,hV,rfl,hfz,oJ⟩:=hW;have hA:DataW.TrodAll enc Tryz.prog W 0 (fun _=>true) true Tryz.f10.params.toList args.toList ds p:=hA0;rw[Tryz.params10]at hA Pf;obtain⟨v0,vs0,d0,ds0,p0,q0,atL,rfl,rfl,h0,r0⟩:=trodAll_cons hA;obtain⟨v1,vs1,d1,ds1,p1,q1,rfl,rfl,rfl,h1,r1⟩:=trodAll_cons r0;obtain⟨rfl,rfl,rfl⟩:=trodAll_nil r1;obtain rfl:args= #[v0,v1]:=by cases args;simp_all
 obtain⟨rfl,rfl⟩:=trodVars_none hV;obtain⟨y0,rfl⟩:=RD ((okWide_struct underlying23 (Pf 0 _ v0 rfl rfl)).imp fun _ h=>h.1) h0;obtain⟨a1,g1,k1,l1⟩:=Ns (okWide_slice underlying24 (Pf 1 _ v1 rfl rfl)) h1
 letI:Env:=lN W
 refine(Go.Proofs.W.HY g1 k1 l1 W (OT W)).mono ?_;rintro e W' ⟨v,L',rfl,⟨rfl,rfl⟩,hh⟩;exact⟨_,rfl,Ra laidOut hW' rfl hh (by kernel_rfl) underlying4 (of_decide_eq_true (by kernel_rfl)) rfl⟩
set_option maxRecDepth 100000 in
theorem lifted(os:Os)(started:os.Started)(H:Type)(enc:TypeId × Value→H):
   ReturnsInHanded {} Tryz.checked os 10 .any (Rows.nodeEpochsSpec.pre6 enc Tryz.prog Tryz.f10 Rows.nodeEpochsRow.domain false) (Rows.nodeEpochsSpec.post enc Tryz.prog Tryz.f10 false true false false):=by
 refine returnsInHanded_of_change (C:=Tryz.checked) own started (by kernel_rfl) func10
   (ChangeSpec.witness6 (enc:=enc) (C:=Tryz.checked) false ⟨#[],#[.agg #[.int .i64 0,.int .i64 0,.int .i64 0,.int .i64 0,.int .i64 0,.int .i64 0],.slice none 0 0],[]⟩ 8 (by kernel_rfl) (by kernel_rfl) (by kernel_rfl) (by kernel_rfl)) ?_
 intro W base args ds gs before Pf hW _ _;exact contract H enc W base args ds gs before Pf hW
theorem proved:Rows.NodeEpochsSaid:=
 OpenClaim.holds_of_wide 10 Tryz.f10 rfl rfl rfl rfl rfl rfl rfl ⟨rfl,rfl,rfl,rfl,rfl⟩ rfl rfl rfl rfl rfl (by kernel_rfl) func10 (by kernel_rfl)
   (of_decide_eq_true (by kernel_rfl)) (by unfold Func.isWrapper;(rw[if_neg (by decide+kernel)];exact⟨rfl,rfl⟩))
   (fun os started H enc _=>lifted os started H enc)
end nodepochs
end Go.Proofs.YtlignadmmopdmaaGreat