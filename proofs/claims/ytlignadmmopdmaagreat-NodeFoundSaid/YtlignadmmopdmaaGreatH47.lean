/- A node whose device has lost all goes on when the witness has answered just that, with the number of its device; then all is marked, and its epoch is the witness', behind a crash, too: for every node, serials, epoch and number of blocks that the statement lets in. There is no condition. -/
import Derived.Test.YtlignadmmopdmaaGreatN52
import Derived.Test.YtlignadmmopdmaaGreatF0n
set_option linter.unusedVariables false
set_option linter.unusedSimpArgs false
set_option linter.constructorNameAsVariable false
namespace Go.Proofs.YtlignadmmopdmaaGreat
open _root_.Go.Proofs.Tryz
open Go Go.Sl Go.ChangeShapes Go.WideShapes Go.ChangeAt Go.RowKit
namespace nodfound
set_option maxRecDepth 100000 in
theorem contract(H:Type)(enc:TypeId × Value→H)(W:World)(base:Nat)(args:Array Value)(ds gs:List (DataW H))(before:List MemPlace)
   (hval: ∀(j:Nat) t v,Tryz.f9.params[j]? =some t→args[j]? =some v→Value.okWide Tryz.prog W .any base t v)
   (hW:DataW.Whole enc Tryz.prog Tryz.f9.params.toList Rows.nodeFoundSpec.vars false W args.toList ds gs before):
   Calls Tryz.prog 9 args W fun e W'=> ∃v,e= .returned v∧Rows.nodeFoundSpec.post enc Tryz.prog Tryz.f9 false true false false W args v W':=by
 have hW':=hW;obtain⟨p,q,hA0,hV,rfl,hfz,hnd⟩:=hW;have hA:DataW.TrodAll enc Tryz.prog W 0 (fun _=>true) true Tryz.f9.params.toList args.toList ds p:=hA0;rw[Tryz.params9]at hA hval;obtain⟨v0,vs0,d0,ds0,p0,q0,hargs,rfl,rfl,h0,r0⟩:=trodAll_cons hA;obtain⟨v1,vs1,d1,ds1,p1,q1,rfl,rfl,rfl,h1,r1⟩:=trodAll_cons r0;obtain⟨v2,vs2,d2,ds2,p2,q2,rfl,rfl,rfl,h2,r2⟩:=trodAll_cons r1;obtain⟨v3,vs3,d3,ds3,p3,q3,rfl,rfl,rfl,h3,r3⟩:=trodAll_cons r2;obtain⟨v4,vs4,d4,ds4,p4,q4,rfl,rfl,rfl,h4,r4⟩:=trodAll_cons r3;obtain⟨rfl,rfl,rfl⟩:=trodAll_nil r4;obtain rfl:args= #[v0,v1,v2,v3,v4]:=by cases args;simp_all
 obtain⟨rfl,rfl⟩:=trodVars_none hV;obtain⟨x0,rfl,-,-,w0⟩:=open_int underlying5 (hval 0 _ v0 rfl rfl) h0;simp[Lit.wf,IntKind.min,IntKind.max,IntKind.signed,IntKind.bits]at w0;obtain⟨x1,rfl,-,-,w1⟩:=open_int underlying2 (hval 1 _ v1 rfl rfl) h1;simp[Lit.wf,IntKind.min,IntKind.max,IntKind.signed,IntKind.bits]at w1;obtain⟨x2,rfl,-,-,w2⟩:=open_int underlying2 (hval 2 _ v2 rfl rfl) h2;simp[Lit.wf,IntKind.min,IntKind.max,IntKind.signed,IntKind.bits]at w2;obtain⟨x3,rfl,-,-,w3⟩:=open_int underlying2 (hval 3 _ v3 rfl rfl) h3;simp[Lit.wf,IntKind.min,IntKind.max,IntKind.signed,IntKind.bits]at w3;obtain⟨x4,rfl,-,-,w4⟩:=open_int underlying5 (hval 4 _ v4 rfl rfl) h4;simp[Lit.wf,IntKind.min,IntKind.max,IntKind.signed,IntKind.bits]at w4
 letI:Env:=envAt W
 refine(Go.Proofs.W.lawNFound (by omega) (by omega) W (has_base W)).mono ?_;rintro e W' ⟨v,L',rfl,⟨rfl,rfl⟩,hh⟩;exact⟨_,rfl,post_law laidOut hW' rfl hh (by kernel_rfl) underlying4 (of_decide_eq_true (by kernel_rfl)) rfl⟩
set_option maxRecDepth 100000 in
theorem lifted(os:Os)(started:os.Started)(H:Type)(enc:TypeId × Value→H):
   ReturnsInHanded {} Tryz.checked os 9 .any (Rows.nodeFoundSpec.pre6 enc Tryz.prog Tryz.f9 Rows.nodeFoundRow.domain false) (Rows.nodeFoundSpec.post enc Tryz.prog Tryz.f9 false true false false):=by
 refine returnsInHanded_of_change (C:=Tryz.checked) own started (by kernel_rfl) func9
   (ChangeSpec.witness6 (enc:=enc) (C:=Tryz.checked) false ⟨#[],#[.int .u8 0,.int .i64 0,.int .i64 0,.int .i64 0,.int .u8 0],[]⟩ 8 (by kernel_rfl) (by kernel_rfl) (by kernel_rfl) (by kernel_rfl)) ?_
 intro W base args ds gs before hval hW _ _;exact contract H enc W base args ds gs before hval hW
theorem proved:Rows.NodeFoundSaid:=
 OpenClaim.holds_of_wide 9 Tryz.f9 rfl rfl rfl rfl rfl rfl rfl ⟨rfl,rfl,rfl,rfl,rfl⟩ rfl rfl rfl rfl rfl (by kernel_rfl) func9 (by kernel_rfl)
   (of_decide_eq_true (by kernel_rfl)) (by unfold Func.isWrapper;(rw[if_neg (by decide+kernel)];exact⟨rfl,rfl⟩))
   (fun os started H enc _=>lifted os started H enc)
end nodfound
end Go.Proofs.YtlignadmmopdmaaGreat