/- A client is answered once at most each time that it calls: for every shape and all acts that the statement lets in. There is no condition. -/
import Derived.Test.YtlignadmmopdmaaGreatN51
import Derived.Test.YtlignadmmopdmaaGreatF0n
set_option linter.unusedVariables false
set_option linter.unusedSimpArgs false
set_option linter.constructorNameAsVariable false
namespace Go.Proofs.YtlignadmmopdmaaGreat
open _root_.Go.Proofs.Tryz
open Go Go.Sl Go.ChangeShapes Go.WideShapes Go.ChangeAt Go.RowKit
namespace nodanswers
set_option maxRecDepth 100000 in
theorem contract(H:Type)(enc:TypeId × Value→H)(W:World)(base:Nat)(args:Array Value)(ds gs:List (DataW H))(before:List MemPlace)
   (hval: ∀(j:Nat) t v,Tryz.f3.params[j]? =some t→args[j]? =some v→Value.okWide Tryz.prog W .any base t v)
   (hW:DataW.Whole enc Tryz.prog Tryz.f3.params.toList Rows.nodeAnswersSpec.vars false W args.toList ds gs before):
   Calls Tryz.prog 3 args W fun e W'=> ∃v,e= .returned v∧Rows.nodeAnswersSpec.post enc Tryz.prog Tryz.f3 false true false false W args v W':=by
 have hW':=hW;obtain⟨p,q,hA0,hV,rfl,hfz,hnd⟩:=hW;have hA:DataW.TrodAll enc Tryz.prog W 0 (fun _=>true) true Tryz.f3.params.toList args.toList ds p:=hA0;rw[Tryz.params3]at hA hval;obtain⟨v0,vs0,d0,ds0,p0,q0,hargs,rfl,rfl,h0,r0⟩:=trodAll_cons hA;obtain⟨v1,vs1,d1,ds1,p1,q1,rfl,rfl,rfl,h1,r1⟩:=trodAll_cons r0;obtain⟨rfl,rfl,rfl⟩:=trodAll_nil r1;obtain rfl:args= #[v0,v1]:=by cases args;simp_all
 obtain⟨rfl,rfl⟩:=trodVars_none hV;obtain⟨y0,rfl⟩:=shape_of ((okWide_struct underlying23 (hval 0 _ v0 rfl rfl)).imp fun _ h=>h.1) h0;obtain⟨a1,g1,k1,l1⟩:=actns_of (okWide_slice underlying24 (hval 1 _ v1 rfl rfl)) h1
 letI:Env:=envAt W
 refine(Go.Proofs.W.lawNAnswers g1 k1 l1 W (has_base W)).mono ?_;rintro e W' ⟨v,L',rfl,⟨rfl,rfl⟩,hh⟩;exact⟨_,rfl,post_law laidOut hW' rfl hh (by kernel_rfl) underlying4 (of_decide_eq_true (by kernel_rfl)) rfl⟩
set_option maxRecDepth 100000 in
theorem lifted(os:Os)(started:os.Started)(H:Type)(enc:TypeId × Value→H):
   ReturnsInHanded {} Tryz.checked os 3 .any (Rows.nodeAnswersSpec.pre6 enc Tryz.prog Tryz.f3 Rows.nodeAnswersRow.domain false) (Rows.nodeAnswersSpec.post enc Tryz.prog Tryz.f3 false true false false):=by
 refine returnsInHanded_of_change (C:=Tryz.checked) own started (by kernel_rfl) func3
   (ChangeSpec.witness6 (enc:=enc) (C:=Tryz.checked) false ⟨#[],#[.agg #[.int .i64 0,.int .i64 0,.int .i64 0,.int .i64 0,.int .i64 0,.int .i64 0],.slice none 0 0],[]⟩ 8 (by kernel_rfl) (by kernel_rfl) (by kernel_rfl) (by kernel_rfl)) ?_
 intro W base args ds gs before hval hW _ _;exact contract H enc W base args ds gs before hval hW
theorem proved:Rows.NodeAnswersSaid:=
 OpenClaim.holds_of_wide 3 Tryz.f3 rfl rfl rfl rfl rfl rfl rfl ⟨rfl,rfl,rfl,rfl,rfl⟩ rfl rfl rfl rfl rfl (by kernel_rfl) func3 (by kernel_rfl)
   (of_decide_eq_true (by kernel_rfl)) (by unfold Func.isWrapper;(rw[if_neg (by decide+kernel)];exact⟨rfl,rfl⟩))
   (fun os started H enc _=>lifted os started H enc)
end nodanswers
end Go.Proofs.YtlignadmmopdmaaGreat