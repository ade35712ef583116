/- A part of the proof. -/
import Derived.Test.YtlignadmmopdmaaGreatUn
import Derived.Test.YtlignadmmopdmaaGreatL5
import Derived.Test.YtlignadmmopdmaaGreatL2
import Derived.Test.YtlignadmmopdmaaGreatGC
import Derived.Test.YtlignadmmopdmaaGreatGL
set_option linter.unusedVariables false
set_option linter.unusedSimpArgs false
set_option linter.constructorNameAsVariable false
namespace Go.Proofs
open _root_.Go.Proofs.Tryz
open Go Go.Sl
namespace W
def Xl(r:Int × aU × az)(q:Q3)(u:Value)(L':List ax):Prop:=
 (r.1≠0∧u= .tuple #[jx,i64 r.1]∧L'=[dev q r.2.2])∨(r.1=0∧ ∃l c sl,u= .tuple #[ptr l,i64 0]∧g6 sl r.2.1∧L'=[eI l c q sl r.2.1,nK sl r.2.1,dh c q r.2.1.c,dev q r.2.2])
theorem WO [Env]{R:List ax}{q:Q3}{D:az}{first n a b:Int}(hD:D.ok)(ha:a≤9223372036854775807)(hb:b≤9223372036854775807):
   bC Tryz.prog 81 [dp q,i64 first,i64 n,i64 a,i64 b] [dev q D] R (Xl (bh D first n a b) q):=by
 have atQ:=hD.n;refine ag func81 ntmps81 rfl rfl ?_;refine vk 2 ?_;refine iS ?_;intro K2 gM;refine cy 1 ?_
 skip
 ·refine y (eM rfl rfl underlying26) rfl ?_;refine yr 5 ?_;refine cv 26 rfl (fun Ha=>?_) (fun Ha=>?_)
  ·refine yn 17 ?_;refine pg rfl ?_;refine DN ?_;have gj:bh D first n a b=(1,kC D first n.toNat a b,D):=by unfold bh;rw[if_pos (by unfold eO;omega)]
   refine yn 2 ?_;refine qE (np ?_);refine bm results81 rfl rfl (L1:=[dev q D]++R) ae ?_;exact⟨_,.inl ⟨by rw[gj];show(1:Int)≠0;decide,by rw[gj],by rw[gj]⟩,rfl⟩
  refine yr 4 ?_;refine cv 30 rfl (fun Tx=>?_) (fun Tx=>?_)
  ·refine yn 13 ?_;refine pg rfl ?_;refine DN ?_;have gj:bh D first n a b=(1,kC D first n.toNat a b,D):=by unfold bh;rw[if_pos (by unfold eO;omega)]
   refine yn 2 ?_;refine qE (np ?_);refine bm results81 rfl rfl (L1:=[dev q D]++R) ae ?_;exact⟨_,.inl ⟨by rw[gj];show(1:Int)≠0;decide,by rw[gj],by rw[gj]⟩,rfl⟩
  refine yr 2 ?_;refine bV ?_;refine aA (oy) rfl call46 aZ rfl ?_;rintro v L' ⟨rfl,rfl⟩;refine yr 3 ?_;refine cv 36 rfl (fun Eh=>?_) (fun Eh=>?_)
  ·refine yn 7 ?_;refine pg rfl ?_;refine DN ?_;have gj:bh D first n a b=(1,kC D first n.toNat a b,D):=by unfold bh;rw[if_pos (by unfold eO;omega)]
   refine yn 2 ?_;refine qE (np ?_);refine bm results81 rfl rfl (L1:=[dev q D]++R) ae ?_;exact⟨_,.inl ⟨by rw[gj];show(1:Int)≠0;decide,by rw[gj],by rw[gj]⟩,rfl⟩
  refine yr 2 ?_;refine bV ?_;refine aA (oy) rfl call46 aZ rfl ?_;rintro v L' ⟨rfl,rfl⟩;refine yr 2 ?_;rw[wr (by omega) (by omega)];refine yn 2 ?_;refine cc rfl (fun De=>?_) (fun De=>?_)
  ·refine DN ?_;have gj:bh D first n a b=(1,kC D first n.toNat a b,D):=by unfold bh;rw[if_pos (by unfold eO;omega)]
   refine yn 2 ?_;refine qE (np ?_);refine bm results81 rfl rfl (L1:=[dev q D]++R) ae ?_;exact⟨_,.inl ⟨by rw[gj];show(1:Int)≠0;decide,by rw[gj],by rw[gj]⟩,rfl⟩
  obtain⟨N,rfl⟩: ∃N:Nat,n=N:=⟨n.toNat,by omega⟩;refine dE (eB (gM _ _ ?_));clear gM;refine iS ?_;intro K8 qN;refine cy 2 ?_;refine ya (aE rfl underlying73 sizeOf3 zeroValue3 rfl rfl rfl rfl ⟨⟨_,_,rfl,(by rfl),(by decide)⟩,⟨⟨_,_,rfl,(by rfl),(by decide)⟩,trivial⟩⟩ (by dsimp[bt,aX,aY,bS]<;>rfl)) rfl ?_;rintro v L' ⟨qC,rfl,rfl⟩;refine y (pq rfl underlying73) rfl ?_;refine yn 1 ?_
  have fQ: ∀x:Nat,((x≤2∧(1≤x→ ¬eN first N a)∧(2≤x→ ¬eN first N b))∧(x=2))→Sk 175 K8 ([(48,i64 x),(47,i64 2),(46,.slice (some ⟨qC,0,none⟩) 2 2),(0,dp q),(1,i64 first),(2,i64 N),(3,i64 a),(4,i64 b)]) ([sc qC (aW [a,b]) 3,dev q D]++R):=by
   rintro k ⟨bJ,eK⟩;refine qN _ _ ?_;obtain⟨hk,hka,hkb⟩:=bJ;have jt:cE [sc qC (aW [a,b]) 3] (.slice (some ⟨qC,0,none⟩) 2 2) 2 (aW [a,b]):=eh .z rfl rfl;subst eK;have hra:=hka (by decide);have T9:=hkb (by decide);clear hka hkb hk;have rq: ¬eO D first N a b:=by unfold eO;rintro(h|h|h|h|h|h);all_goals first|omega|exact hra h|exact T9 h
   refine cy 3 ?_;refine aA (Jh hD) rfl call43 aZ rfl ?_;rintro v L' gj;rcases gj with⟨tX,rfl,rfl⟩|⟨tX,MT,rfl,rfl⟩
   ·refine yn 5 ?_;refine iS ?_;intro VX wh;refine cy 2 ?_
    try rw[show(!decide (cg D a b=0))=true by simp[tX]]
    refine Nd ?_;refine pg rfl ?_;refine DN ?_;have gj:bh D first N a b=(cg D a b,kC D first (N:Int).toNat a b,D):=by unfold bh;rw[if_neg rq,if_pos tX]
    refine yn 3 ?_;refine qE (np ?_);refine bm results81 rfl rfl (L1:=[dev q D]++R) ae ?_;exact⟨_,.inl ⟨by rw[gj];exact tX,by rw[gj],by rw[gj]⟩,rfl⟩
   refine yn 5 ?_;refine iS ?_;intro K14 Ej;refine cy 2 ?_
   try rw[show(!decide (cg D a b=0))=true by simp[tX]]
   refine Nd ?_;refine kN rfl ?_;refine dE (eB (Ej _ _ ?_));clear Ej;refine cy 4 ?_;refine y (cA ([dp q,i64 first,i64 N,ptr MT,i64 1,i64 0,i64 0,fp])) rfl ?_;refine ya (a7 (vs:=[dp q,i64 first,i64 N,ptr MT,i64 1,i64 0,i64 0,fp]) rfl rfl) rfl ?_;rintro v L' ⟨b78,rfl,rfl⟩;refine yn 1 ?_;refine iS ?_;intro K17 ON
   have iB: ∀x:Unit,(True)→Sk 175 K17 ([(0,dp q),(14,ptr MT),(16,ptr b78)]) ([sc b78 [dp q,i64 first,i64 N,ptr MT,i64 (dH (aF D a b).text).1,i64 (dH (aF D a b).text).2.1,i64 (dH (aF D a b).text).2.2,fp] 208,dh MT q (aF D a b),dev q D]++R):=by
    rintro x Jv;refine ON _ _ ?_;obtain⟨Wr,Ws,hd3⟩:=AM (aF D a b).text;obtain⟨ho,Zf⟩: ∃z,dH (aF D a b).text=z:=⟨_,rfl⟩;rw[Zf]at Wr Ws hd3 ⊢;have Lv:kC D first (N:Int).toNat a b=⟨first,N,aF D a b,ho.1,ho.2.1+1,ho.2.2,fI D first N ho.2.1 N ho.1 ho.2.2⟩:=by unfold kC;rw[Zf];rfl
    refine iS ?_;intro K18 afK;refine vk 5 ?_;refine cc rfl (fun h86=>?_) (fun h86=>?_)
    ·have gj:bh D first N a b=(22,kC D first (N:Int).toNat a b,D):=by unfold bh;rw[if_neg rq,if_neg (by rw[tX];decide),Zf,if_pos h86]
     refine vk 2 ?_;refine qE (np ?_);refine bm results81 rfl rfl (L1:=[dev q D]++R) ae ?_;exact⟨_,.inl ⟨by rw[gj];show(22:Int)≠0;decide,by rw[gj],by rw[gj]⟩,rfl⟩
    have qH:=JU hD rq tX (by rw[Zf];exact h86);rw[show kC D first N a b=kC D first (N:Int).toNat a b from rfl,Lv]at qH;obtain⟨w,hw⟩: ∃w,(aF D a b).put D (bL (fE ho.1 (ho.2.1+1) ho.2.2))=w:=⟨_,rfl⟩;have jP:aU.put ⟨first,N,aF D a b,ho.1,ho.2.1+1,ho.2.2,fI D first N ho.2.1 N ho.1 ho.2.2⟩ D ho.1 ho.2.2=(w.1,⟨first,N,w.2.1,ho.1,ho.2.1+1,ho.2.2,fI D first N ho.2.1 N ho.1 ho.2.2⟩,w.2.2):=by unfold aU.put;dsimp only;rw[hw]
    have gj:bh D first N a b=(w.1,⟨first,N,w.2.1,ho.1,ho.2.1+1,ho.2.2,fI D first N ho.2.1 N ho.1 ho.2.2⟩,w.2.2):=by unfold bh;rw[if_neg rq,if_neg (by rw[tX];decide),if_neg (by rw[Zf];exact h86),Lv];exact jP
    refine dE (eB (afK _ _ ?_));clear afK;refine DN ?_;refine VU (L':=[eI b78 MT q none ⟨first,N,aF D a b,ho.1,ho.2.1,ho.2.2,[]⟩,nK none ⟨first,N,aF D a b,ho.1,ho.2.1,ho.2.2,[]⟩,dh MT q (aF D a b),dev q D]++R) (by simp[eI,nK,aD,aG]) ?_;refine yr 1 ?_;refine aA (ahs ?asN ?asO ?asP ?asQ ?asR ?asS ?asT) rfl call137 aZ rfl ?_
    case asN=>exact hD
    case asO=>exact(eW tX).2
    case asP=>exact⟨rfl,rfl⟩
    case asQ=>rfl
    case asR=>(show 2≤N;omega)
    case asS=>exact⟨by dsimp only;omega,by dsimp only;omega⟩
    case asT=>exact Wr
    rintro v L' ⟨Kl,atT,rfl,afS,QT,rfl⟩;subst afS;unfold eI;dsimp only at QT ⊢;refine Nd ?_;refine cy 5 ?_;rw[wr (by omega) (by omega)];refine yr 2 ?_;refine Xf (an rfl rfl (by rfl) sizeOf2 bc rfl rfl) ?_;rintro v L' ⟨rfl,rfl⟩;refine Nd ?_;refine iS ?_;intro K23 OP;refine iS ?_;intro K24 Em;refine aS 9 (od [] 9 0) ([sc b78 _ 208]++R) Tryz.mixed (by kernel_rfl) ae ?_;refine hy 9 ?_;refine wv ?_;refine aA (ahq (L:=⟨first,N,aF D a b,ho.1,ho.2.1+1,ho.2.2,fI D first N ho.2.1 N ho.1 ho.2.2⟩) (sl:=Kl) qH ⟨by omega,by omega⟩ hd3) rfl call138 aZ rfl ?_;rintro v L' ⟨rfl,rfl⟩;rw[jP];refine yr 1 ?_;refine xZ (eB (Em _ _ ?_));clear Em;refine vk 2 ?_;refine cc rfl (fun zL=>?_) (fun zL=>?_)
    ·refine vk 3 ?_;refine qE (np ?_);refine bm results81 rfl rfl (L1:=[dev q w.2.2]++R) ae ?_;exact⟨_,.inl ⟨by rw[gj];assumption,by rw[gj],by rw[gj]⟩,rfl⟩
    refine dE (eB (OP _ _ ?_));clear OP;refine vk 3 ?_;refine qE ?_;refine bm results81 rfl rfl (L1:=[eI b78 MT q Kl ⟨first,N,w.2.1,ho.1,ho.2.1+1,ho.2.2,fI D first N ho.2.1 N ho.1 ho.2.2⟩,nK Kl ⟨first,N,w.2.1,ho.1,ho.2.1+1,ho.2.2,fI D first N ho.2.1 N ho.1 ho.2.2⟩,dh MT q w.2.1,dev q w.2.2]++R) ae ?_;exact⟨_,.inr ⟨by rw[gj];simp_all,b78,MT,Kl,rfl,by rw[gj];exact QT,by rw[gj]⟩,rfl⟩
   clear ON;refine cy 1 ?_;refine aA (XR) rfl call48 aZ rfl ?_;rintro v L' ⟨rfl,rfl⟩;refine ya (ku rfl underlying9 underlying55 underlying5) rfl ?_;rintro v L' ⟨b82,c82,auq,atY,rfl,ao4,rfl⟩;refine aA (pZ (bs:=(aF D a b).text) ?afW) rfl call47 aZ rfl ?_
   case afW=>exact yO aL ao4
   rintro v L' ⟨Vx,as9,rfl,Ag,rfl⟩;obtain⟨de,sQ⟩: ∃z,bX (aF D a b).text=z:=⟨_,rfl⟩;obtain⟨rc,er⟩:=de;have dO:=Hx sQ;have hgd:=Ey sQ;rw[sQ]at Ag ⊢;dsimp only at Ag ⊢;have qQ:=Ag.n;have k3:=Ag.t;unfold tD;have g9:cE [aD Vx 2 (aW rc.aH)] (aG Vx rc.aH.length) rc.aH.length (aW rc.aH):=bG .z qQ;refine yr 3 ?_;refine ya (aB zeroValue88 rfl) rfl ?_;rintro v L' ⟨b17,rfl,rfl⟩;refine Xf (ai rfl rfl (by(simp only[List.forall_mem_cons,List.not_mem_nil,false_implies,implies_true,bN,and_true,true_and,and_self];first|done|simp[Value.oneCell'])) sizeOf88 bc (by rfl) (by rfl)) ?_;rintro v L' ⟨rfl,rfl⟩;refine yn 1 ?_;refine cy 3 ?_;refine cv 88 rfl (fun aoc=>?_) (fun aoc=>?_)
   ·refine yr 5 ?_;refine cv 93 rfl (fun Yq=>?_) (fun Yq=>?_)
    ·refine yr 2 ?_;refine bV ?_;refine y (bH rfl underlying57 (by assumption)) rfl ?_;refine yr 3 ?_;refine cv 99 rfl (fun Hd=>?_) (fun Hd=>?_)
     ·refine yr 2 ?_;refine bV ?_;refine y (bH rfl underlying86 (by assumption)) rfl ?_;refine yr 3 ?_;refine cv 105 rfl (fun Ot=>?_) (fun Ot=>?_)
      ·refine yr 2 ?_;refine bV ?_;refine y (aK g9 rfl rfl underlying57 sizeOf2 (by omega) (by omega)) rfl ?_;refine bV ?_;refine y (au 0 g9 ae rfl isAgg2 rfl (dk (gK (d:=0) (by omega)))) rfl ?_;refine bV ?_;refine aA (s3) rfl call136 aZ rfl ?_;rintro v L' ⟨rfl,rfl⟩;refine yr 2 ?_;refine cv 112 rfl (fun Yw=>?_) (fun Yw=>?_)
       ·refine yr 2 ?_;refine bV ?_;refine y (aK g9 rfl rfl underlying57 sizeOf2 (by omega) (by omega)) rfl ?_;refine bV ?_;refine y (au 1 g9 ae rfl isAgg2 (by simp) (dk (gK (d:=0) (by omega)))) rfl ?_;refine bV ?_;refine aA (s3) rfl call136 aZ rfl ?_;rintro v L' ⟨rfl,rfl⟩;refine yr 2 ?_;refine cv 119 rfl (fun Hf=>?_) (fun Hf=>?_)
        ·refine yr 2 ?_;refine bV ?_;refine y (aK g9 rfl rfl underlying57 sizeOf2 (by omega) (by omega)) rfl ?_;refine bV ?_;refine y (au 2 g9 ae rfl isAgg2 (by simp) (dk (gK (d:=0) (by omega)))) rfl ?_;refine bV ?_;refine aA (s3) rfl call136 aZ rfl ?_;rintro v L' ⟨rfl,rfl⟩;refine yn 1 ?_;refine cc rfl (fun Lb=>?_) (fun Lb=>?_)
         ·have Zf:=hgd (by assumption) (by assumption) (by assumption) (by assumption) (by assumption) (by assumption) Lb;refine aS 23 (od [17,20] 23 0) ([sc b17 [i64 rc.kind,aG Vx rc.aH.length,aG as9 rc.texts.length] 88,aD Vx 2 (aW rc.aH)]++R) Tryz.mixed (by kernel_rfl) ae ?_;refine hy 5 ?_;refine hr rfl (aK g9 rfl rfl underlying57 sizeOf2 (by omega) (by omega)) rfl ?_;refine hr rfl (au 0 g9 ae rfl isAgg2 rfl (dk (gK (d:=0) (by omega)))) rfl ?_;refine hy 2 ?_;refine hr rfl (aK g9 rfl rfl underlying57 sizeOf2 (by omega) (by omega)) rfl ?_;refine hr rfl (au 1 g9 ae rfl isAgg2 (by simp) (dk (gK (d:=0) (by omega)))) rfl ?_;refine hy 2 ?_;refine hr rfl (aK g9 rfl rfl underlying57 sizeOf2 (by omega) (by omega)) rfl ?_;refine hr rfl (au 2 g9 ae rfl isAgg2 (by simp) (dk (gK (d:=0) (by omega)))) rfl ?_;refine hy 2 ?_;refine Eo rfl (an rfl rfl (by rfl) sizeOf2 bc rfl rfl) ?_;rintro v L' ⟨rfl,rfl⟩;refine⟨ae,?_⟩;refine hy 2 ?_;refine Eo rfl (an rfl rfl (by rfl) sizeOf2 bc rfl rfl) ?_;rintro v L' ⟨rfl,rfl⟩;refine⟨ae,?_⟩;refine hy 2 ?_;refine wv ?_;refine Xf (an rfl rfl (by rfl) sizeOf2 bc rfl rfl) ?_;rintro v L' ⟨rfl,rfl⟩;refine xZ (eB ?_);rw[Zf]at iB;exact aV aq ae (iB () trivial)
         refine dE (eB ?_);rw[dO (.inr (.inr (.inr (.inr (.inr (.inr (by assumption)))))))]at iB;exact aV aq ae (iB () trivial)
        refine yn 6 ?_;refine kN rfl ?_;refine dE (eB ?_);rw[dO (.inr (.inr (.inr (.inr (.inr (.inl (by assumption)))))))]at iB;exact aV aq ae (iB () trivial)
       refine yn 13 ?_;refine kN rfl ?_;refine dE (eB ?_);rw[dO (.inr (.inr (.inr (.inr (.inl (by assumption))))))]at iB;exact aV aq ae (iB () trivial)
      refine yn 20 ?_;refine kN rfl ?_;refine dE (eB ?_);rw[dO (.inr (.inr (.inr (.inl (by assumption)))))]at iB;exact aV aq ae (iB () trivial)
     refine yn 26 ?_;refine kN rfl ?_;refine dE (eB ?_);rw[dO (.inr (.inr (.inl (by assumption))))]at iB;exact aV aq ae (iB () trivial)
    refine yn 32 ?_;refine kN rfl ?_;refine dE (eB ?_);rw[dO (.inr (.inl (by assumption)))]at iB;exact aV aq ae (iB () trivial)
   refine yn 37 ?_;refine kN rfl ?_;refine dE (eB ?_);rw[dO (.inl (by assumption))]at iB;exact aV aq ae (iB () trivial)
  clear qN;refine jZ ?_;refine Ax (A:=Nat) (fun x=>[(48,i64 x),(47,i64 2),(46,.slice (some ⟨qC,0,none⟩) 2 2),(0,dp q),(1,i64 first),(2,i64 N),(3,i64 a),(4,i64 b)]) (fun x=>[sc qC (aW [a,b]) 3,dev q D]++R) (fun x=>x≤2∧(1≤x→ ¬eN first N a)∧(2≤x→ ¬eN first N b)) (fun x=>2-x) (0) ?_ aq ae ?_
  · exact⟨Nat.zero_le _,fun h=>absurd h (by decide),fun h=>absurd h (by decide)⟩
  rintro k bJ kt cI;have cC:=bJ;obtain⟨hk,hka,hkb⟩:=bJ;have jt:cE [sc qC (aW [a,b]) 3] (.slice (some ⟨qC,0,none⟩) 2 2) 2 (aW [a,b]):=eh .z rfl rfl;refine vk 1 ?_;refine iS ?_;intro K31 afO;refine cc rfl (fun aoB=>?_) (fun aoB=>?_)
  ·obtain⟨z,hz⟩: ∃z,([a,b]:List Int)[k]? =some z:=by
     rcases Nat.lt_or_ge k 1 with h|h
     · exact⟨a,by rw[show k=0 by omega];rfl⟩
     exact⟨b,by rw[show k=1 by omega];rfl⟩
   have Cl:z≤9223372036854775807:=by
     have:=List.mem_of_getElem? hz;simp at this;omega
   have hzk:(k=0→z=a)∧(k=1→z=b):=⟨fun h=>by subst h;simp at hz;exact hz.symm,fun h=>by subst h;simp at hz;exact hz.symm⟩;refine dE (eB (afO _ _ ?_));clear afO;refine iS ?_;intro K32 TK;refine jZ ?_;refine DN ?_;refine y (aK jt rfl rfl underlying73 sizeOf3 (by omega) (by omega)) rfl ?_;refine y (au k jt ae rfl isAgg3 (by simp) (dk hz)) rfl ?_;refine yn 1 ?_;refine cy 4 ?_;refine cv 55 rfl (fun Hj=>?_) (fun Hj=>?_)
   ·refine yr 3 ?_;rw[wr (by omega) (by omega)];refine yn 3 ?_;refine cc rfl (fun aoD=>?_) (fun aoD=>?_)
    ·refine DN ?_
     have gj:bh D first N a b=(1,kC D first (N:Int).toNat a b,D):=by
       have hir:eN first N z:=⟨by omega,by omega⟩
       have:eN first N a∨eN first N b:=by
         rcases Nat.lt_or_ge k 1 with h|h
         · exact .inl (hzk.1 (by omega)▸hir)
         exact .inr (hzk.2 (by omega)▸hir)
       unfold bh;rw[if_pos (by unfold eO;rcases this with h|h;exact .inr (.inr (.inr (.inr (.inl h))));exact .inr (.inr (.inr (.inr (.inr h)))))]
     refine yn 2 ?_;refine qE (Pt (np (np (Pt (np ?_)))));refine bm results81 rfl rfl (L1:=[dev q D]++R) ae ?_;exact⟨_,.inl ⟨by rw[gj];show(1:Int)≠0;decide,by rw[gj],by rw[gj]⟩,rfl⟩
    refine dE (Na (eB (TK _ _ ?_)));clear TK;refine cr 1 ?_;rw[show IntKind.i64.wrap ((k:Int)+1)=((k+1:Nat):Int)by rw[wr (by omega) (by omega)];rfl];refine yr 1 ?_;refine nJ (eB ?_);exact cI (k+1) (⟨by omega,fun _ h=>by rcases Nat.lt_or_ge k 1 with h1|h1;exact absurd (hzk.1 (by omega)▸h) (by unfold eN;omega);exact hka h1 h,fun h2 h=>absurd (hzk.2 (by omega)▸h) (by unfold eN;omega)⟩) (by omega) _ _ aq ae
   refine yn 6 ?_;refine kN rfl ?_;refine dE (Na (eB (TK _ _ ?_)));clear TK;refine cr 1 ?_;rw[show IntKind.i64.wrap ((k:Int)+1)=((k+1:Nat):Int)by rw[wr (by omega) (by omega)];rfl];refine yr 1 ?_;refine nJ (eB ?_);exact cI (k+1) (⟨by omega,fun _ h=>by rcases Nat.lt_or_ge k 1 with h1|h1;exact absurd (hzk.1 (by omega)▸h) (by unfold eN;omega);exact hka h1 h,fun h2 h=>absurd (hzk.2 (by omega)▸h) (by unfold eN;omega)⟩) (by omega) _ _ aq ae
  refine vg (nZ (nZ (WK (eB ?_))));exact aV aq ae (fQ k ⟨cC,by omega⟩)
def fX(p c:Nat)(q:Q3)(sl:Sv)(L:aU):ax:=eI p c q sl L++nK sl L++dh c q L.c
theorem pG0{p c:Nat}{q:Q3}{sl:Sv}{L:aU}{R:List ax}:([fX p c q sl L]++R).flatten.Perm ([eI p c q sl L]++(nK sl L::dh c q L.c::R)).flatten:=by simp[fX]
theorem pG1{p c:Nat}{q:Q3}{sl:Sv}{L:aU}{R:List ax}:([fX p c q sl L]++R).flatten.Perm ([eI p c q sl L,nK sl L]++(dh c q L.c::R)).flatten:=by simp[fX]
theorem pG2{p c:Nat}{q:Q3}{sl:Sv}{L:aU}{d:ax}{R:List ax}:([fX p c q sl L,d]++R).flatten.Perm ([eI p c q sl L,nK sl L,dh c q L.c,d]++R).flatten:=by simp[fX]
theorem pG3{p c:Nat}{q:Q3}{sl:Sv}{L:aU}{d:ax}{R:List ax}:([fX p c q sl L,d]++R).flatten.Perm ([eI p c q sl L,nK sl L,d]++(dh c q L.c::R)).flatten:=by
 simp only[fX,List.cons_append,List.nil_append,List.flatten_cons,List.append_assoc];exact .append_left _ (.append_left _ (List.perm_append_comm_assoc _ _ _))
theorem pG4{p c:Nat}{q:Q3}{sl:Sv}{L:aU}{d:ax}{R:List ax}:([fX p c q sl L,d]++R).flatten.Perm ([eI p c q sl L,d]++(nK sl L::dh c q L.c::R)).flatten:=by
 simp only[fX,List.cons_append,List.nil_append,List.flatten_cons,List.append_assoc];exact .append_left _ ((List.Perm.append_left _ (List.perm_append_comm_assoc _ _ _)).trans (List.perm_append_comm_assoc _ _ _))
theorem Nz [Env]{R:List ax}{p c:Nat}{q:Q3}{sl:Sv}{L:aU}:bC Tryz.prog 85 [ptr p] [fX p c q sl L] R (Is (i64 L.head) [fX p c q sl L]):=by
 refine ahp.via pG0 ?_;rintro v L' ⟨rfl,rfl⟩;exact⟨_,⟨rfl,rfl⟩,pG0.symm⟩
theorem adU [Env]{R:List ax}{p c:Nat}{q:Q3}{sl:Sv}{L:aU}(hs:g6 sl L)(h1:0≤L.head)(h2:L.tail≤4611686018427388416)(hl:L.l.length≤512):bC Tryz.prog 189 [ptr p] [fX p c q sl L] R (Is (i64 L.tail) [fX p c q sl L]):=by
 refine(pK hs h1 h2 hl).via pG0 ?_;rintro v L' ⟨rfl,rfl⟩;exact⟨_,⟨rfl,rfl⟩,pG0.symm⟩
theorem V6 [Env]{R:List ax}{p c:Nat}{q:Q3}{sl:Sv}{L:aU}(hs:g6 sl L)(h1:L.n≤512)(hl:L.l.length≤512):bC Tryz.prog 224 [ptr p] [fX p c q sl L] R (Is (i64 ((L.n:Int)-L.l.length)) [fX p c q sl L]):=by
 refine(WN hs h1 hl).via pG0 ?_;rintro v L' ⟨rfl,rfl⟩;exact⟨_,⟨rfl,rfl⟩,pG0.symm⟩
theorem NA [Env]{R:List ax}{p c:Nat}{q:Q3}{sl:Sv}{L:aU}(hs:g6 sl L)(hl:L.l.length≤512):
   bC Tryz.prog 82 [ptr p] [fX p c q sl L] R (zx 9 (L.l.map (·.1)).length 1 (cn (L.l.map (·.1))) [fX p c q sl L]):=by
 refine(Px hs hl).via pG1 ?_;rintro v L' ⟨s,rfl,h2,rfl⟩;refine⟨_,⟨s,rfl,h2,rfl⟩,?_⟩;simp[fX]
theorem adT [Env]{R:List ax}{p c:Nat}{q:Q3}{sl:Sv}{L:aU}{D:az}(hD:D.ok):bC Tryz.prog 207 [ptr p] [fX p c q sl L,dev q D] R (Is (i64 D.aJ.1) [fX p c q sl L,dev q D.aJ.2]):=by
 refine(WQ hD).via pG4 ?_;rintro v L' ⟨rfl,rfl⟩;exact⟨_,⟨rfl,rfl⟩,pG4.symm⟩
theorem Nw(L:aU)(D:az)(s:Bytes):(L.append D s).2.1.c=L.c:=by
 unfold aU.append;split
 · rfl
 split
 · rfl
 split
 · rfl
 dsimp only;split<;>rfl
theorem S2 [Env]{R:List ax}{p c:Nat}{q:Q3}{sl:Sv}{L:aU}{D:az}{s:Bytes}(hL:L.ok D)(hs:g6 sl L):
   bC Tryz.prog 221 [ptr p,str s] [fX p c q sl L,dev q D] R (fun u L'=> ∃wZ,u=i64 (L.append D s).1∧g6 wZ (L.append D s).2.1∧L'=[fX p c q wZ (L.append D s).2.1,dev q (L.append D s).2.2]):=by
 refine(Us hL hs).via pG3 ?_;rintro v L' ⟨wZ,rfl,h2,rfl⟩;refine⟨_,⟨wZ,rfl,h2,rfl⟩,?_⟩;rw[←Nw L D s];exact pG3.symm
theorem adV [Env]{R:List ax}{p c:Nat}{q:Q3}{sl:Sv}{L:aU}{D:az}{k:Int}(hL:L.ok D)(hs:g6 sl L):
   bC Tryz.prog 226 [ptr p,i64 k] [fX p c q sl L,dev q D] R (fun u L'=> ∃wZ,u=i64 (L.trim D k).1∧g6 wZ (L.trim D k).2.1∧L'=[fX p c q wZ (L.trim D k).2.1,dev q (L.trim D k).2.2]):=by
 refine(aht hL hs).via pG2 ?_;rintro v L' ⟨wZ,rfl,h2,rfl⟩;exact⟨_,⟨wZ,rfl,h2,rfl⟩,pG2.symm⟩
end W
end Go.Proofs
namespace Go.Sl
variable {P : Program} {n : Nat} {l : List (Nat × Value)} {L : List ax} {d : Option Tmp} {ty : TypeId} {pos : String} {af : Array Edge} {g : Option (Nat × Bool)}
theorem jk [Env]{x:Operand}{T xT:TypeId}{v:Value}{ds:TypeDesc}(hx:ev l x=some (.iface T v))(hu:P.underlying T=some ds)(tY: ∀q,ds≠ .interface q):
  Ev P n ⟨d,.typeAssert x xT T true,ty,pos,af,g⟩ l L (.tuple #[v,.bool true]):=by
 intro a w hf _;cases ds<;>simp_all [execOp,Instr.typeAssert,hf.ev hx,run_underlying hu]
theorem ff [Env]{x:Operand}{T U xT:TypeId}{v z:Value}{ds:TypeDesc}(hx:ev l x=some (.iface U v))(hu:P.underlying T=some ds)(tY: ∀q,ds≠ .interface q)(xY: ¬U=T)(hz: ∀w,(zeroValue T).run P w= .ok z w):
  Ev P n ⟨d,.typeAssert x xT T true,ty,pos,af,g⟩ l L (.tuple #[z,.bool false]):=by
 intro a w hf _;cases ds<;>simp_all [execOp,Instr.typeAssert,hf.ev hx,run_underlying hu]
def isIf:Value→Bool
 | .nilIface=>false
 |_=>true
theorem DZ [Env]{x:Operand}{t t':TypeId}{v:Value}{ms:Array (String × TypeId)}(hx:ev l x=some v)(hu:P.underlying t=some (.interface ms))(hv:v= .nilIface∨ ∃T u,v= .iface T u):
  Ev P n ⟨d,.binOp .neq t x (.const .nilIface) t',ty,pos,af,g⟩ l L (.bool (isIf v)):=by
 intro a w hf _;have hm:P.underlying t=some (.interface (P.methodsAt t)):=by rw[hu];simp[Program.methodsAt,hu]
 rcases hv with rfl|⟨T,u,rfl⟩
 ·have h:=run_neq_nil_nil (P:=P) (w:=w) t hm;have e:a.eval x= .nilIface:=hf.ev hx;simp only[execOp,Sem.run_bind,e];simp[Act.eval,eqGuard_nil_constR,h,isIf]
 ·have h:=run_neq_held_nil (P:=P) (w:=w) t T u hm;have e:a.eval x= .iface T u:=hf.ev hx;simp only[execOp,Sem.run_bind,e];simp[Act.eval,eqGuard,h,isIf]
end Go.Sl
namespace Go.Sl
theorem Z3 [Env]{P:Program}{n:Nat}{c:Operand}{A B:Code}{Q:Exit→Act→World→Prop}{K:Act→World→Prop}{I:Prop}{F:List (Nat × Value)}{M:List ax}
 (_: ∀l L,Sc P n (.cond c A B) Q l L→Sk n K l L) (h:I→Sc P n B Q F M):I→Sc P n B Q F M:=h
end Go.Sl
namespace Go.Sl
theorem r8 [Env]{P:Program}{n:Nat}{l:List (Nat × Value)}{L:List ax}{d:Option Tmp}{ty:TypeId}{pos:String}{af:Array Edge}{g:Option (Nat × Bool)}
  {x z:Operand} {dT sT e:TypeId} {b o dl dc m:Nat} {vs vs' us:List Value} {T:TypeId} {v:Value} {L':List ax}
  (hx:ev l x=some (.slice (some ⟨b,o,none⟩) dl dc)) (hz:ev l z=some v) (hu:P.underlying dT=some (.slice e)) (hs: ∀w,(sizeOf e).run P w= .ok 1 w)
  (zZ:Src P L 1 v m us) (h1: ∀u∈us,u.oneCell'=true) (hm:m≤dl) (r:Rp L (sc b vs T) (sc b vs' T) L') (ho:o+m≤vs.length) (hv:vs.take o++us++vs.drop (o+m)=vs'):
  Ac P n ⟨d,.call {callee:= .builtin .copy,args:= #[x,z],argTypes:= #[dT,sT]},ty,pos,af,g⟩ l L (fun v Nk=>v= .int .i64 m∧Nk=L'):=by
 have hl:us.length=m:=by have:=zZ.1;omega
 have ht:us.take m=us:=List.take_of_length_le (by omega);exact SW hx hz hu hs zZ h1 (show m=min m dl by omega) r ho (by rw[ht];exact hv) (fun w hw=>by rw[ht];exact(zZ.2 w hw).2)
end Go.Sl