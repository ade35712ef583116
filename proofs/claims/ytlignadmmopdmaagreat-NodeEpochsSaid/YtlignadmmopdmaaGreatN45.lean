/- A part of the proof. -/
import Derived.Test.YtlignadmmopdmaaGreatUn
import Derived.Test.YtlignadmmopdmaaGreatT16
import Derived.Test.YtlignadmmopdmaaGreatNodP
import Derived.Test.YtlignadmmopdmaaGreatGR
set_option linter.unusedVariables false
set_option linter.unusedSimpArgs false
set_option linter.constructorNameAsVariable false
namespace Go.Proofs
open _root_.Go.Proofs.Tryz
open Go Go.Sl
namespace W
set_option maxHeartbeats 4000000
theorem Qk{m:aM}(h:aI m.block (-1) 31=false):m.may=false:=Bool.eq_false_iff.2 fun h2=>U6 h (yB.1 h2).block
theorem U3{m:aM}(h:aI m.eU (-1) 3=false):m.may=false:=Bool.eq_false_iff.2 fun h2=>U6 h (yB.1 h2).eU
theorem aaG{m:aM}(h:aI m.e 0 31=false):m.may=false:=Bool.eq_false_iff.2 fun h2=>U6 h (yB.1 h2).e
theorem kf [Env]{R:List ax}{n lo hi:Int}:bC Tryz.prog 39 [i64 n,i64 lo,i64 hi] [] R (Is (.bool (aI n lo hi)) []):=by
 refine ag func39 ntmps39 rfl rfl ?_;refine gc 9 ?_;refine cv 10 rfl (fun h6=>?_) (fun h6=>?_)
 ·refine gy 8 ?_;refine aj results39 rfl (L1:=R) ae ?_;exact⟨_,⟨by(simp[aI];omega),rfl⟩,by rfl⟩
 refine gy 8 ?_;refine aj results39 rfl (L1:=R) ae ?_;exact⟨_,⟨by(simp[aI];omega),rfl⟩,by rfl⟩
theorem Sg [Env]{R:List ax}{m:aM}:bC Tryz.prog 40 [.agg m.cells.toArray] [] R (Is (.bool m.may) []):=by
 refine ag func40 ntmps40 rfl rfl ?_;refine gc 1 ?_;refine ya (a7 (vs:=m.cells) rfl rfl) rfl ?_;rintro v L' ⟨b1,rfl,rfl⟩;refine gy 3 ?_;refine bq ?_;intro K2 gM;refine gc 4 ?_
 have fQ: ∀x:Nat,((x≤4∧yA m x)∧(x=4))→Sk 79 K2 ([(3,i64 x),(1,ptr b1)]) ([sc b1 m.cells 34]++R):=by
  rintro k ⟨bJ,eK⟩;refine gM _ _ ?_;obtain⟨hk,cq⟩:=bJ;subst eK;have nk:=Mb cq;refine gc 5 ?_;refine cv 17 rfl (fun AH=>?_) (fun AH=>?_)
  ·refine gy 5 ?_;refine cv 22 rfl (fun Gb=>?_) (fun Gb=>?_)
   ·refine gy 2 ?_;refine bV ?_;refine bK (kf) call39 ?_;refine gy 2 ?_;refine cv 27 rfl (fun OC=>?_) (fun OC=>?_)
    ·refine gy 2 ?_;refine bV ?_;refine bK (kf) call39 ?_;refine gy 2 ?_;refine cv 32 rfl (fun Dd=>?_) (fun Dd=>?_)
     ·refine gy 2 ?_;refine bV ?_;refine bK (kf) call39 ?_;refine gy 2 ?_;refine cv 37 rfl (fun De=>?_) (fun De=>?_)
      ·refine gy 5 ?_;refine cv 42 rfl (fun Ld=>?_) (fun Ld=>?_)
       ·refine gy 5 ?_;refine cv 47 rfl (fun Jt=>?_) (fun Jt=>?_)
        ·refine gy 5 ?_;refine cv 52 rfl (fun Hl=>?_) (fun Hl=>?_)
         ·refine gy 5 ?_;refine cv 57 rfl (fun Df=>?_) (fun Df=>?_)
          ·refine gy 5 ?_;refine cv 62 rfl (fun YT=>?_) (fun YT=>?_)
           ·refine gy 5 ?_;refine cv 67 rfl (fun Gf=>?_) (fun Gf=>?_)
            ·refine gy 2 ?_;refine bV ?_;refine y (cP rfl underlying9) rfl ?_;refine gy 3 ?_;refine cv 73 rfl (fun AI=>?_) (fun AI=>?_)
             ·refine gy 2 ?_;refine bV ?_;refine y (cP rfl underlying9) rfl ?_;refine gy 6 ?_;refine aj results40 rfl (L1:=R) ae ?_;exact⟨_,⟨by(rw[nk];(try simp only[aI,Bool.and_eq_true,Bool.and_eq_false_iff,decide_eq_true_eq,decide_eq_false_iff_not]at*);congr 1;first|(symm;rw[decide_eq_false_iff_not];omega)|(rw[decide_eq_decide];omega)),rfl⟩,by rfl⟩
             refine gy 9 ?_;refine aj results40 rfl (L1:=R) ae ?_;exact⟨_,⟨by(rw[nk];(try simp only[aI,Bool.and_eq_true,Bool.and_eq_false_iff,decide_eq_true_eq,decide_eq_false_iff_not]at*);congr 1;first|(symm;rw[decide_eq_false_iff_not];omega)|(rw[decide_eq_decide];omega)),rfl⟩,by rfl⟩
            refine gy 15 ?_;refine aj results40 rfl (L1:=R) ae ?_;exact⟨_,⟨by(rw[nk];(try simp only[aI,Bool.and_eq_true,Bool.and_eq_false_iff,decide_eq_true_eq,decide_eq_false_iff_not]at*);congr 1;first|(symm;rw[decide_eq_false_iff_not];omega)|(rw[decide_eq_decide];omega)),rfl⟩,by rfl⟩
           refine gy 20 ?_;refine aj results40 rfl (L1:=R) ae ?_;exact⟨_,⟨by(rw[nk];(try simp only[aI,Bool.and_eq_true,Bool.and_eq_false_iff,decide_eq_true_eq,decide_eq_false_iff_not]at*);congr 1;first|(symm;rw[decide_eq_false_iff_not];omega)|(rw[decide_eq_decide];omega)),rfl⟩,by rfl⟩
          refine gy 25 ?_;refine aj results40 rfl (L1:=R) ae ?_;exact⟨_,⟨by(rw[nk];(try simp only[aI,Bool.and_eq_true,Bool.and_eq_false_iff,decide_eq_true_eq,decide_eq_false_iff_not]at*);congr 1;first|(symm;rw[decide_eq_false_iff_not];omega)|(rw[decide_eq_decide];omega)),rfl⟩,by rfl⟩
         refine gy 30 ?_;refine aj results40 rfl (L1:=R) ae ?_;exact⟨_,⟨by(rw[nk];(try simp only[aI,Bool.and_eq_true,Bool.and_eq_false_iff,decide_eq_true_eq,decide_eq_false_iff_not]at*);congr 1;first|(symm;rw[decide_eq_false_iff_not];omega)|(rw[decide_eq_decide];omega)),rfl⟩,by rfl⟩
        refine gy 35 ?_;refine aj results40 rfl (L1:=R) ae ?_;exact⟨_,⟨by(rw[nk];(try simp only[aI,Bool.and_eq_true,Bool.and_eq_false_iff,decide_eq_true_eq,decide_eq_false_iff_not]at*);congr 1;first|(symm;rw[decide_eq_false_iff_not];omega)|(rw[decide_eq_decide];omega)),rfl⟩,by rfl⟩
       refine gy 40 ?_;refine aj results40 rfl (L1:=R) ae ?_;exact⟨_,⟨by(rw[nk];(try simp only[aI,Bool.and_eq_true,Bool.and_eq_false_iff,decide_eq_true_eq,decide_eq_false_iff_not]at*);congr 1;first|(symm;rw[decide_eq_false_iff_not];omega)|(rw[decide_eq_decide];omega)),rfl⟩,by rfl⟩
      refine gy 45 ?_;refine aj results40 rfl (L1:=R) ae ?_;exact⟨_,⟨by(rw[nk];(try simp only[aI,Bool.and_eq_true,Bool.and_eq_false_iff,decide_eq_true_eq,decide_eq_false_iff_not]at*);congr 1;first|(symm;rw[decide_eq_false_iff_not];omega)|(rw[decide_eq_decide];omega)),rfl⟩,by rfl⟩
     refine gy 50 ?_;refine aj results40 rfl (L1:=R) ae ?_;exact⟨_,⟨by(rw[nk];(try simp only[aI,Bool.and_eq_true,Bool.and_eq_false_iff,decide_eq_true_eq,decide_eq_false_iff_not]at*);congr 1;first|(symm;rw[decide_eq_false_iff_not];omega)|(rw[decide_eq_decide];omega)),rfl⟩,by rfl⟩
    refine gy 55 ?_;refine aj results40 rfl (L1:=R) ae ?_;exact⟨_,⟨by(rw[nk];(try simp only[aI,Bool.and_eq_true,Bool.and_eq_false_iff,decide_eq_true_eq,decide_eq_false_iff_not]at*);congr 1;first|(symm;rw[decide_eq_false_iff_not];omega)|(rw[decide_eq_decide];omega)),rfl⟩,by rfl⟩
   refine gy 60 ?_;refine aj results40 rfl (L1:=R) ae ?_;exact⟨_,⟨by(rw[nk];(try simp only[aI,Bool.and_eq_true,Bool.and_eq_false_iff,decide_eq_true_eq,decide_eq_false_iff_not]at*);congr 1;first|(symm;rw[decide_eq_false_iff_not];omega)|(rw[decide_eq_decide];omega)),rfl⟩,by rfl⟩
  refine gy 65 ?_;refine aj results40 rfl (L1:=R) ae ?_;exact⟨_,⟨by(rw[nk];(try simp only[aI,Bool.and_eq_true,Bool.and_eq_false_iff,decide_eq_true_eq,decide_eq_false_iff_not]at*);congr 1;first|(symm;rw[decide_eq_false_iff_not];omega)|(rw[decide_eq_decide];omega)),rfl⟩,by rfl⟩
 clear gM;refine gc 1 ?_;refine bO (A:=Nat) (fun x=>[(3,i64 x),(1,ptr b1)]) (fun x=>[sc b1 m.cells 34]++R) (fun x=>x≤4∧yA m x) (fun x=>4-x) (0) ?_ aq ae ?_
 · exact⟨Nat.zero_le _,Ih m⟩
 rintro k bJ kt cI;have cC:=bJ;obtain⟨hk,cq⟩:=bJ;refine gc 6 ?_;refine cc rfl (fun aoE=>?_) (fun aoE=>?_)
 ·refine gc 7 ?_;refine y (dR rfl rfl underlying32 sizeOf2 (by omega) (by omega)) rfl ?_;refine y (bR rfl isAgg2 aL (U4 m (by omega))) rfl ?_;refine bK (kf) call39 ?_;refine gy 3 ?_;refine cc rfl (fun aoG=>?_) (fun aoG=>?_)
  ·refine gc 1 ?_;have eF:m.may=false:=Qj (k:=k) (by omega) (U6 (by assumption));refine gy 9 ?_;refine aj results40 rfl (L1:=R) ae ?_;exact⟨_,⟨by rw[eF],rfl⟩,by rfl⟩
  refine gc 4 ?_;have eV:yA m (k+1):=Ig cq (ca.1 (by assumption));refine gy 2 ?_;rw[show IntKind.i64.wrap ((k:Int)+1)=((k+1:Nat):Int)by rw[wr (by omega) (by omega)];rfl];refine gy 3 ?_;exact cI (k+1) (⟨by omega,eV⟩) (by omega) _ _ aq ae
 refine gc 5 ?_;exact aV aq ae (fQ k ⟨cC,by omega⟩)
theorem Bz [Env]{R:List ax}{m:aM}:bC Tryz.prog 26 [.agg m.cells.toArray] [] R (Is (.tuple #[str (dF m),i64 (if m.may=true then 0 else 4)]) []):=by
 refine ag func26 ntmps26 rfl rfl ?_;refine gc 1 ?_;refine ya (a7 (vs:=m.cells) rfl rfl) rfl ?_;rintro v L' ⟨b1,rfl,rfl⟩;refine gy 6 ?_;refine y (ak rfl isAgg34 sizeOf34 aL (by rfl)) rfl ?_;refine bK (Sg (m:=m)) call40 ?_;refine gy 3 ?_;refine cc rfl (fun OB=>?_) (fun OB=>?_)
 ·have eF:m.may=false:=by simpa using OB
  refine gc 7 ?_;refine bm results26 rfl rfl (L1:=R) ae ?_;exact⟨_,⟨by(rw[uy eF,eF];rfl),rfl⟩,by rfl⟩
 have dj:m.may=true:=by simpa using OB
 have iW:=xC dj;refine gc 16 ?_;refine y (dR rfl rfl underlying32 sizeOf2 (by omega) (by omega)) rfl ?_;refine gy 2 ?_;refine y (dR rfl rfl underlying32 sizeOf2 (by omega) (by omega)) rfl ?_;refine gy 2 ?_;refine y (dR rfl rfl underlying32 sizeOf2 (by omega) (by omega)) rfl ?_;refine gy 2 ?_;refine y (dR rfl rfl underlying32 sizeOf2 (by omega) (by omega)) rfl ?_;refine gy 1 ?_;refine ya (aE (vs:=[i64 m.ah,i64 m.seq,i64 m.n,i64 m.block,i64 m.eU,i64 m.e,i64 m.t0,i64 m.t1,i64 m.t2,i64 m.t3]) rfl underlying57 sizeOf2 zeroValue2 rfl rfl rfl rfl ⟨⟨_,_,rfl,(by rfl),(by decide)⟩,⟨⟨_,_,rfl,(by rfl),(by decide)⟩,⟨⟨_,_,rfl,(by rfl),(by decide)⟩,⟨⟨_,_,rfl,(by rfl),(by decide)⟩,⟨⟨_,_,rfl,(by rfl),(by decide)⟩,⟨⟨_,_,rfl,(by rfl),(by decide)⟩,⟨⟨_,_,rfl,(by rfl),(by decide)⟩,⟨⟨_,_,rfl,(by rfl),(by decide)⟩,⟨⟨_,_,rfl,(by rfl),(by decide)⟩,⟨⟨_,_,rfl,(by rfl),(by decide)⟩,trivial⟩⟩⟩⟩⟩⟩⟩⟩⟩⟩ (by kernel_rfl)) rfl ?_;rintro v L' ⟨b34,rfl,rfl⟩;refine gy 11 ?_;refine ya (aE rfl underlying86 sizeOf9 zeroValue9 rfl rfl rfl rfl ⟨⟨_,_,rfl,(by rfl),(by decide)⟩,⟨⟨_,_,rfl,(by rfl),(by decide)⟩,trivial⟩⟩ (by dsimp[bt,aX,aY,bS]<;>rfl)) rfl ?_;rintro v L' ⟨b43,rfl,rfl⟩;refine y (bU rfl) rfl ?_;refine aA (Vm (r:=H5 m) ?ags ?agO ?al6) rfl call55 aZ rfl ?_
 case ags=>exact eh aL rfl rfl
 case agO=>exact eh aL rfl rfl
 case al6=>exact(s6 dj).num
 rintro v L' ⟨s45,rfl,oq,rfl⟩;rw[iW]at oq ⊢;dsimp only at oq ⊢;generalize dF m=rb at*;refine gy 9 ?_;refine y (jq (pT (L:=[aD s45 5 (av rb)]) .z oq).rd.bytes ae rfl underlying55 underlying9 underlying5) rfl ?_;refine gy 6 ?_;refine bm results26 rfl rfl (L1:=R) ae ?_;exact⟨_,⟨by rw[if_pos dj],rfl⟩,by rfl⟩
theorem By [Env]{R:List ax}{s:Bytes}(hs:s.length≤1000):bC Tryz.prog 15 [str s] [] R (Is (.tuple #[.agg (bF s).1.cells.toArray,i64 (bF s).2]) []):=by
 refine ag func15 ntmps15 rfl rfl ?_;refine gc 1 ?_;refine ya (aB zeroValue34 rfl) rfl ?_;rintro v L' ⟨b2,rfl,rfl⟩;refine gy 5 ?_;refine ya (ku rfl underlying9 underlying55 underlying5) rfl ?_;rintro v L' ⟨Nx,c10,as5,an6,rfl,Y8,rfl⟩;refine aA (Vl (bs:=s) ?af0 ?aak) rfl call38 aZ rfl ?_
 case af0=>exact yO aL Y8
 case aak=>omega
 rintro v L' ⟨IS,RN,rfl,CE,rfl⟩;obtain⟨de,sQ⟩: ∃z,bX s=z:=⟨_,rfl⟩;have Di:=sy s;obtain⟨rc,er⟩:=de;rw[sQ]at CE Di ⊢;dsimp only at CE Di ⊢;have qQ:=CE.n;have k3:=CE.t;unfold tD;have g9:cE [aD IS 2 (aW rc.aH)] (aG IS rc.aH.length) rc.aH.length (aW rc.aH):=bG .z qQ;have Pd:cE [aD RN 9 (cn rc.texts)] (aG RN rc.texts.length) rc.texts.length (cn rc.texts):=bG .z k3;refine gy 3 ?_;refine ya (aB zeroValue88 rfl) rfl ?_;rintro v L' ⟨b4,rfl,rfl⟩;refine bA (ai rfl rfl (by(simp only[List.forall_mem_cons,List.not_mem_nil,false_implies,implies_true,bN,and_true,true_and,and_self];first|done|simp[Value.oneCell'])) sizeOf88 bc (by rfl) (by rfl)) ?_;refine gy 8 ?_;refine cv 16 rfl (fun aoM=>?_) (fun aoM=>?_)
 ·refine gy 15 ?_;have dO:bF s=(.zero,4):=j3 (by unfold Dk;rw[sQ];dsimp only;omega);refine y (bU rfl) rfl ?_;refine bA (aP rfl rfl (fV .zero) sizeOf34 bc rfl (by simp[aM.cells]) rfl) ?_;refine gy 5 ?_;refine cx results15 rfl rfl isAgg34 sizeOf34 aL (rfl) (L1:=R) ae ?_;exact⟨_,⟨by(rw[dO];rfl),rfl⟩,by rfl⟩
 refine gy 2 ?_;refine bV ?_;refine y (bH rfl underlying57 (by assumption)) rfl ?_;refine gy 3 ?_;refine cv 22 rfl (fun aoO=>?_) (fun aoO=>?_)
 ·refine gy 9 ?_;have dO:bF s=(.zero,4):=j3 (by unfold Dk;rw[sQ];dsimp only;omega);refine y (bU rfl) rfl ?_;refine bA (aP rfl rfl (fV .zero) sizeOf34 bc rfl (by simp[aM.cells]) rfl) ?_;refine gy 5 ?_;refine cx results15 rfl rfl isAgg34 sizeOf34 aL (rfl) (L1:=R) ae ?_;exact⟨_,⟨by(rw[dO];rfl),rfl⟩,by rfl⟩
 refine gy 2 ?_;refine bV ?_;refine y (bH rfl underlying86 (by assumption)) rfl ?_;refine gy 4 ?_;refine cc rfl (fun aoQ=>?_) (fun aoQ=>?_)
 ·refine gc 1 ?_;have dO:bF s=(.zero,4):=j3 (by unfold Dk;rw[sQ];dsimp only;omega);refine y (bU rfl) rfl ?_;refine bA (aP rfl rfl (fV .zero) sizeOf34 bc rfl (by simp[aM.cells]) rfl) ?_;refine gy 5 ?_;refine cx results15 rfl rfl isAgg34 sizeOf34 aL (rfl) (L1:=R) ae ?_;exact⟨_,⟨by(rw[dO];rfl),rfl⟩,by rfl⟩
 refine gc 3 ?_;obtain⟨k,ns,ts⟩:=rc;dsimp only at*;obtain⟨n0,n1,n2,n3,n4,n5,n6,n7,n8,n9,rfl⟩:=WR (l:=ns) (by omega);obtain⟨x0,x1,rfl⟩:=ahv (l:=ts) (by omega);have her:er=0:=by omega
 subst her;have Ew:=Ay sQ;refine gy 8 ?_;refine y (aK (by assumption) rfl rfl underlying57 sizeOf2 (by omega) (by omega)) rfl ?_;refine y (au 3 g9 ae rfl isAgg2 (by rfl) rfl) rfl ?_;refine bK (kf) call39 ?_;refine gy 2 ?_;refine cv 36 rfl (fun afy=>?_) (fun afy=>?_)
 ·have T2:(⟨k,n0,n1,n2,n3,n4,n5,n6,n7,n8,n9,x0,x1⟩:aM).may=false:=Qk (by simpa using afy);refine gy 17 ?_;refine y (bU rfl) rfl ?_;refine bA (aP rfl rfl (fV .zero) sizeOf34 bc rfl (by simp[aM.cells]) rfl) ?_;refine gy 5 ?_;refine cx results15 rfl rfl isAgg34 sizeOf34 aL (rfl) (L1:=R) ae ?_;exact⟨_,⟨by(rw[Ew,if_neg (by rw[T2];exact Bool.false_ne_true)];rfl),rfl⟩,by rfl⟩
 refine gy 1 ?_;refine bV ?_;refine y (aK (by assumption) rfl rfl underlying57 sizeOf2 (by omega) (by omega)) rfl ?_;refine bV ?_;refine y (au 4 g9 ae rfl isAgg2 (by rfl) rfl) rfl ?_;refine bV ?_;refine bK (kf) call39 ?_;refine gy 3 ?_;refine cv 43 rfl (fun afz=>?_) (fun afz=>?_)
 ·have T2:(⟨k,n0,n1,n2,n3,n4,n5,n6,n7,n8,n9,x0,x1⟩:aM).may=false:=U3 (by simpa using afz);refine gy 10 ?_;refine y (bU rfl) rfl ?_;refine bA (aP rfl rfl (fV .zero) sizeOf34 bc rfl (by simp[aM.cells]) rfl) ?_;refine gy 5 ?_;refine cx results15 rfl rfl isAgg34 sizeOf34 aL (rfl) (L1:=R) ae ?_;exact⟨_,⟨by(rw[Ew,if_neg (by rw[T2];exact Bool.false_ne_true)];rfl),rfl⟩,by rfl⟩
 refine gy 1 ?_;refine bV ?_;refine y (aK (by assumption) rfl rfl underlying57 sizeOf2 (by omega) (by omega)) rfl ?_;refine bV ?_;refine y (au 5 g9 ae rfl isAgg2 (by rfl) rfl) rfl ?_;refine bV ?_;refine bK (kf) call39 ?_;refine gy 4 ?_;refine cc rfl (fun afA=>?_) (fun afA=>?_)
 ·have T2:(⟨k,n0,n1,n2,n3,n4,n5,n6,n7,n8,n9,x0,x1⟩:aM).may=false:=aaG (by simpa using afA);refine gc 1 ?_;refine y (bU rfl) rfl ?_;refine bA (aP rfl rfl (fV .zero) sizeOf34 bc rfl (by simp[aM.cells]) rfl) ?_;refine gy 5 ?_;refine cx results15 rfl rfl isAgg34 sizeOf34 aL (rfl) (L1:=R) ae ?_;exact⟨_,⟨by(rw[Ew,if_neg (by rw[T2];exact Bool.false_ne_true)];rfl),rfl⟩,by rfl⟩
 refine gc 3 ?_;refine aS 43 (od [42] 43 0) (_) Tryz.mixed (by kernel_rfl) .refl ?_;refine gh 3 ?_;refine hr rfl (aK (by assumption) rfl rfl underlying57 sizeOf2 (by omega) (by omega)) rfl ?_;refine hr rfl (au 0 g9 ae rfl isAgg2 (by rfl) rfl) rfl ?_;refine gh 1 ?_;refine hr rfl (aK (by assumption) rfl rfl underlying57 sizeOf2 (by omega) (by omega)) rfl ?_;refine hr rfl (au 1 g9 ae rfl isAgg2 (by rfl) rfl) rfl ?_;refine gh 1 ?_;refine hr rfl (aK (by assumption) rfl rfl underlying57 sizeOf2 (by omega) (by omega)) rfl ?_;refine hr rfl (au 2 g9 ae rfl isAgg2 (by rfl) rfl) rfl ?_;refine gh 1 ?_;refine hr rfl (aK (by assumption) rfl rfl underlying57 sizeOf2 (by omega) (by omega)) rfl ?_;refine hr rfl (au 3 g9 ae rfl isAgg2 (by rfl) rfl) rfl ?_;refine gh 1 ?_;refine hr rfl (aK (by assumption) rfl rfl underlying57 sizeOf2 (by omega) (by omega)) rfl ?_;refine hr rfl (au 4 g9 ae rfl isAgg2 (by rfl) rfl) rfl ?_;refine gh 1 ?_;refine hr rfl (aK (by assumption) rfl rfl underlying57 sizeOf2 (by omega) (by omega)) rfl ?_;refine hr rfl (au 5 g9 ae rfl isAgg2 (by rfl) rfl) rfl ?_;refine gh 1 ?_;refine hr rfl (aK (by assumption) rfl rfl underlying57 sizeOf2 (by omega) (by omega)) rfl ?_;refine hr rfl (au 6 g9 ae rfl isAgg2 (by rfl) rfl) rfl ?_;refine gh 1 ?_;refine hr rfl (aK (by assumption) rfl rfl underlying57 sizeOf2 (by omega) (by omega)) rfl ?_;refine hr rfl (au 7 g9 ae rfl isAgg2 (by rfl) rfl) rfl ?_;refine gh 1 ?_;refine hr rfl (aK (by assumption) rfl rfl underlying57 sizeOf2 (by omega) (by omega)) rfl ?_;refine hr rfl (au 8 g9 ae rfl isAgg2 (by rfl) rfl) rfl ?_;refine gh 1 ?_;refine hr rfl (aK (by assumption) rfl rfl underlying57 sizeOf2 (by omega) (by omega)) rfl ?_;refine hr rfl (au 9 g9 ae rfl isAgg2 (by rfl) rfl) rfl ?_;refine hr rfl (AD (vs:=[i64 n6,i64 n7,i64 n8,i64 n9]) (zs:=_) rfl underlying32 zeroValue32 rfl sizeOf2 ⟨⟨_,_,rfl,(by rfl),(by decide)⟩,⟨⟨_,_,rfl,(by rfl),(by decide)⟩,⟨⟨_,_,rfl,(by rfl),(by decide)⟩,⟨⟨_,_,rfl,(by rfl),(by decide)⟩,trivial⟩⟩⟩⟩ (by dsimp[bt,aX,aY]<;>rfl)) rfl ?_;refine gh 2 ?_;refine hr rfl (aK Pd rfl rfl underlying86 sizeOf9 (by simp) (by simp)) rfl ?_;refine hr rfl (au 0 Pd ae rfl isAgg9 (by simp) rfl) rfl ?_;refine gh 2 ?_;refine hr rfl (aK Pd rfl rfl underlying86 sizeOf9 (by simp) (by simp)) rfl ?_;refine hr rfl (au 1 Pd ae rfl isAgg9 (by simp) rfl) rfl ?_;refine hr rfl (cA (aM.cells ⟨k,n0,n1,n2,n3,n4,n5,n6,n7,n8,n9,x0,x1⟩)) rfl ?_;refine ha rfl (aB zeroValue34 rfl) rfl ?_;rintro v L' ⟨b7,rfl,rfl⟩;refine⟨ae,?_⟩;refine gh 1 ?_;refine bA (ai rfl rfl (fV _) sizeOf34 bc rfl rfl) ?_;refine gy 4 ?_;refine y (ak rfl isAgg34 sizeOf34 aL (by rfl)) rfl ?_;refine bK (Sg (m:=⟨k,n0,n1,n2,n3,n4,n5,n6,n7,n8,n9,x0,x1⟩)) call40 ?_;refine gy 3 ?_;refine cc rfl (fun aoR=>?_) (fun aoR=>?_)
 ·refine gc 1 ?_;refine y (bU rfl) rfl ?_;refine bA (aP rfl rfl (fV .zero) sizeOf34 bc rfl (by simp[aM.cells]) rfl) ?_;refine gy 5 ?_;refine cx results15 rfl rfl isAgg34 sizeOf34 aL (rfl) (L1:=R) ae ?_;exact⟨_,⟨by(rw[Ew,if_neg (by simp_all)];rfl),rfl⟩,by rfl⟩
 refine gc 3 ?_;refine y (ak rfl isAgg34 sizeOf34 aL (by rfl)) rfl ?_;refine bA (aP rfl rfl (fV ⟨k,n0,n1,n2,n3,n4,n5,n6,n7,n8,n9,x0,x1⟩) sizeOf34 bc rfl (by simp[aM.cells]) rfl) ?_;refine gy 4 ?_;refine cx results15 rfl rfl isAgg34 sizeOf34 aL (rfl) (L1:=R) ae ?_;exact⟨_,⟨by(rw[Ew,if_pos (by simp_all)];rfl),rfl⟩,by rfl⟩
end W
end Go.Proofs
namespace Go.Sl
open Go.ChangeShapes Go.WideShapes Go.ChangeAt Go.RowKit Go.Deep
structure gu where
 kind:Int
 n:Int
 fr:Int
 to:Int
 m:aM
 s:Bytes
 kv:Value
 ks:dq
def gu.cells(a:gu):List Value:=[.int .i64 a.kind,.int .i64 a.n,.int .i64 a.fr,.int .i64 a.to]++a.m.cells++[.string ⟨a.s.toArray⟩,a.kv]
structure gu.ok [Env](R:List ax)(a:gu):Prop where
 keeps:cE R a.kv a.ks.length (dS a.ks)
 n: -9223372036854775808≤a.n∧a.n≤9223372036854775807
theorem gu.ok.mono [Env]{R R':List ax}{a:gu}(h:a.ok R)(hg:Ge R' R):a.ok R':=⟨h.keeps.mono hg,h.n⟩
def Gu(l:List gu):List Value:=(l.map gu.cells).flatten
theorem Gv{l:List gu}{i:Nat}{a:gu}(h:l[i]? =some a):((Gu l).drop (i*19)).take 19=a.cells:=BU (f:=gu.cells) (k:=19) (fun _=>rfl) l i a h
section
variable {H : Type} {enc : TypeId × Value → H} {P : Program} {W : World} {base : Nat} {spare : Nat → Bool} {held : Bool}
theorem Mk{e n:Nat}{cs:List Value}{y:DataW H × List MemPlace}{f0 f1 f2 f2' f3 f4 f5 g0 g1:Field}{k:TypeId}(he:P.underlying e=some (.struct #[f0,f1,f2,f2',f3,f4,f5]))(TO:px P #[f0,f1,f2,f2',f3,f4,f5] [(0,1),(1,1),(2,1),(3,1),(4,13),(17,1),(18,1)]=true)(hC:P.cellsOf e=19)
  (h0:P.underlying f0.type=some (.int .i64)) (h1:P.underlying f1.type=some (.int .i64)) (h2:P.underlying f2.type=some (.int .i64)) (h2':P.underlying f2'.type=some (.int .i64))
  (h3: ∀n cs y,DataW.trod enc P W base spare held n f3.type cs=some y→ ∃m:aM,cs=m.cells) (h4:P.underlying f4.type=some .string)
  (h5:P.underlying f5.type=some (.slice k)) (hk:P.underlying k=some (.struct #[g0,g1])) (agA:oneCellFields P #[g0,g1]=true) (hCk:P.cellsOf k=2) (hg0:P.underlying g0.type=some (.int .i64)) (SA:P.underlying g1.type=some (.int .i64))
  (h:DataW.trod enc P W base spare held n e cs=some y): ∃a:gu,cs=a.cells∧@gu.ok (lN W) [gd W] a:=by
 obtain⟨xs,n',_,_,hl,yb,hf⟩:=DataW.trod_struct he h;rw[hC]at hl;have F:=yJ TO hf (by simpa using yb);obtain⟨_,q0⟩:=F 0 f0 0 1 rfl rfl;obtain⟨_,q1⟩:=F 1 f1 1 1 rfl rfl;obtain⟨_,q2⟩:=F 2 f2 2 1 rfl rfl;obtain⟨_,q2'⟩:=F 3 f2' 3 1 rfl rfl;obtain⟨_,q3⟩:=F 4 f3 4 13 rfl rfl;obtain⟨_,q4⟩:=F 5 f4 17 1 rfl rfl;obtain⟨_,q5⟩:=F 6 f5 18 1 rfl rfl;obtain⟨n0,e0,-⟩:=di h0 q0;obtain⟨n1,e1,b1⟩:=di h1 q1;obtain⟨n2,e2,-⟩:=di h2 q2;obtain⟨n2',e2',-⟩:=di h2' q2';obtain⟨m,e3⟩:=h3 _ _ _ q3;obtain⟨s4,e4⟩:=yK h4 q4;obtain⟨kv,ks,e5,hkk,_⟩:=IB h5 hk agA hCk hg0 SA q5;refine⟨⟨n0,n1,n2,n2',m,s4,kv,ks⟩,?_,@gu.ok.mk (lN W) _ _ hkk b1⟩
 match cs,hl with
 | [c0,c1,c2,c2',c3,c4,c5,c6,c7,c8,c9,c10,c11,c12,c13,c14,c15,c16,c17],_=>
  simp at e0 e1 e2 e2' e3 e4 e5;subst e0 e1 e2 e2' e4 e5;simp[gu.cells,←e3]
structure hG where
 id:Int
 serial:Int
 ek:Int
 blocks:Int
 lease:Int
 patience:Int
def hG.cells(x:hG):List Value:=[iV x.id,iV x.serial,iV x.ek,iV x.blocks,iV x.lease,iV x.patience]
theorem IC{e n:Nat}{cs:List Value}{y:DataW H × List MemPlace}{f0 f1 f2 f3 f4 f5:Field}(he:P.underlying e=some (.struct #[f0,f1,f2,f3,f4,f5]))(TO:px P #[f0,f1,f2,f3,f4,f5] [(0,1),(1,1),(2,1),(3,1),(4,1),(5,1)]=true)(hC:P.cellsOf e=6)
  (h0:P.underlying f0.type=some (.int .i64)) (h1:P.underlying f1.type=some (.int .i64)) (h2:P.underlying f2.type=some (.int .i64)) (h3:P.underlying f3.type=some (.int .i64)) (h4:P.underlying f4.type=some (.int .i64)) (h5:P.underlying f5.type=some (.int .i64))
  (h:DataW.trod enc P W base spare held n e cs=some y): ∃x:hG,cs=x.cells:=by
 obtain⟨xs,n',_,_,hl,yb,hf⟩:=DataW.trod_struct he h;rw[hC]at hl;have F:=yJ TO hf (by simpa using yb);obtain⟨_,q0⟩:=F 0 f0 0 1 rfl rfl;obtain⟨_,q1⟩:=F 1 f1 1 1 rfl rfl;obtain⟨_,q2⟩:=F 2 f2 2 1 rfl rfl;obtain⟨_,q3⟩:=F 3 f3 3 1 rfl rfl;obtain⟨_,q4⟩:=F 4 f4 4 1 rfl rfl;obtain⟨_,q5⟩:=F 5 f5 5 1 rfl rfl;obtain⟨n0,e0,-⟩:=di h0 q0;obtain⟨n1,e1,-⟩:=di h1 q1;obtain⟨n2,e2,-⟩:=di h2 q2;obtain⟨n3,e3,-⟩:=di h3 q3;obtain⟨n4,e4,-⟩:=di h4 q4;obtain⟨n5,e5,-⟩:=di h5 q5
 match cs,hl with
 | [c0,c1,c2,c3,c4,c5],_=>
  simp at e0 e1 e2 e3 e4 e5;subst e0 e1 e2 e3 e4 e5;exact⟨⟨n0,n1,n2,n3,n4,n5⟩,rfl⟩
end
end Go.Sl
namespace Go.Sl
def mM(a:gu):Bool:=decide ((1000:Int)<(a.s.length:Int))||decide ((600:Int)<(a.ks.length:Int))||decide ((1000:Int)<(a.m.data.length:Int))||decide ((1000:Int)<(a.m.row.length:Int))
def fh(a:gu):gI:=⟨a.fr,a.to,if a.s=[]then dF a.m else a.s⟩
theorem xB(m:aM):(dF m).length≤1000:=by
 by_cases h:m.may=true
 · unfold dF;rw[if_pos h];exact Ru (s6 h)
 · rw[uy (by simpa using h)];exact Nat.zero_le _
theorem ym{a:gu}(h:mM a=false):(fh a).body.length≤1000:=by
 unfold mM at h;simp only[Bool.or_eq_false_iff,decide_eq_false_iff_not]at h;unfold fh;dsimp only;split
 · exact xB _
 · omega
def aa.step(n:aa)(a:gu):aa:=if a.kind=0 then(n.take (fh a)).2 else if a.kind=1 then n.tick else n
def aa.told(n:aa)(a:gu):List gI:=if a.kind=0∨a.kind=1 then(n.step a).out else []
def aa.dA(n:aa)(x:Int):aa:={n with d:=n.d.gZ x}
theorem aa.ok.dA{n:aa}{K:Nat}(h:n.ok K){x:Int}(hx:x≤9223372036854775807):(n.dA x).ok K:=
 ⟨h.a,⟨h.p.f,h.p.dn,h.p.bl,⟨h.p.dr.c,h.p.dr.n,h.p.dr.bits,az.kd h.p.c.d hx⟩,h.p.c.at (az.kd h.p.c.d hx) rfl⟩,h.n,h.t,h.o,h.w,h.s,h.out⟩
theorem aa.ok.step{n:aa}{K:Nat}(h:n.ok K)(a:gu):(n.step a).ok (K+140):=by
 unfold aa.step;split
 · exact(h.take _).le (by omega)
 split
 · exact h.tick
 · exact h.le (by omega)
def iE(x:hG):Option aa:=
 if 40<x.ek∨x.ek<0 then none else
 if(cQ (az.new x.ek.toNat)).1≠0 then none else
 if(cO x.id x.serial (cQ (az.new x.ek.toNat)).2 x.blocks x.lease x.patience).1≠0 then none else
 some (cO x.id x.serial (cQ (az.new x.ek.toNat)).2 x.blocks x.lease x.patience).2
theorem og{D:az}(hD:D.ok):(cQ D).2.ok:=by
 unfold cQ;split
 ·exact hD
 ·rename_i h
  exact(Go.Sl.mO (eW (Classical.not_not.1 h)).1 hD _).2
theorem KB{x:hG}{n:aa}(h:iE x=some n):n.ok 0:=by
 unfold iE at h;split at h
 · cases h
 split at h
 · cases h
 split at h
 · cases h
 rename_i h1 h2 h3
 cases h;exact oh (og (az.yy (by omega))) (Classical.not_not.1 h3)
end Go.Sl
namespace Go.Proofs
open _root_.Go.Proofs.Tryz
open Go Go.Sl
namespace W
set_option maxHeartbeats 4000000
abbrev acV(x:gu):Value:= .agg x.cells.toArray
theorem Nr{x:gu}(h: ∃b c,x.kv= .slice b x.ks.length c): ∀u∈x.cells,u.oneCell'=true:=by
 obtain⟨b,c,h⟩:=h;intro u hu;simp only[gu.cells,aM.cells,List.cons_append,List.nil_append,List.mem_cons,List.not_mem_nil,or_false]at hu;rcases hu with rfl|rfl|rfl|rfl|rfl|rfl|rfl|rfl|rfl|rfl|rfl|rfl|rfl|rfl|rfl|rfl|rfl|rfl|rfl<;>first|rfl|(rw[h];rfl)
theorem aau [Env]{R:List ax}{x:gu}(hx:x.ok R):bC Tryz.prog 14 [acV x] [] R (Is (.bool (mM x)) []):=by
 have TZ:=hx.keeps.bo;refine ag func14 ntmps14 rfl rfl ?_;refine gc 1 ?_;refine ya (a7 (vs:=x.cells) rfl rfl) rfl ?_;rintro v L' ⟨b1,rfl,rfl⟩;refine gy 6 ?_;refine y (cP rfl underlying9) rfl ?_;refine gy 2 ?_;refine cv 7 rfl (fun h8=>?_) (fun h8=>?_)
 ·refine gy 23 ?_;refine aj results14 rfl (L1:=[]++R) ae ?_;refine⟨_,⟨?_,rfl⟩,rfl⟩;(unfold mM;simp_all)
 refine gy 2 ?_;refine bV ?_;refine y (bu rfl underlying35 TZ) rfl ?_;refine gy 3 ?_;refine cv 13 rfl (fun AH=>?_) (fun AH=>?_)
 ·refine gy 17 ?_;refine aj results14 rfl (L1:=[]++R) ae ?_;refine⟨_,⟨?_,rfl⟩,rfl⟩;(unfold mM;simp_all)
 refine gy 3 ?_;refine bV ?_;refine y (cP rfl underlying9) rfl ?_;refine gy 3 ?_;refine cv 20 rfl (fun OC=>?_) (fun OC=>?_)
 ·refine gy 10 ?_;refine aj results14 rfl (L1:=[]++R) ae ?_;refine⟨_,⟨?_,rfl⟩,rfl⟩;(unfold mM;simp_all)
 refine gy 3 ?_;refine bV ?_;refine y (cP rfl underlying9) rfl ?_;refine gy 6 ?_;refine aj results14 rfl (L1:=[]++R) ae ?_;refine⟨_,⟨?_,rfl⟩,rfl⟩;(unfold mM;simp_all;omega)
theorem Cy [Env]{R:List ax}{x:gu}:bC Tryz.prog 16 [acV x] [] R (Is (.agg (fh x).cells.toArray) []):=by
 refine ag func16 ntmps16 rfl rfl ?_;refine gc 1 ?_;refine ya (a7 (vs:=x.cells) rfl rfl) rfl ?_;rintro v L' ⟨b1,rfl,rfl⟩;refine ya (aB zeroValue42 rfl) rfl ?_;rintro v L' ⟨b2,rfl,rfl⟩;refine gy 11 ?_;refine y (Jn (p:=x.s) (q:=[]) rfl rfl) rfl ?_;refine gy 2 ?_;refine cc rfl (fun OG=>?_) (fun OG=>?_)
 ·have hle:fh x=⟨x.fr,x.to,dF x.m⟩:=by unfold fh;rw[if_pos (by simpa using OG)]
  refine gc 2 ?_;refine y (ay (u:=x.m.cells) rfl isAgg34 sizeOf34 aL rfl rfl) rfl ?_;refine bK (Bz (m:=x.m)) call26 ?_;refine gy 12 ?_;refine y (bU rfl) rfl ?_;refine bA (ai rfl rfl (by simp[Value.oneCell']) sizeOf42 bc (by rfl) (by rfl)) ?_;refine gy 3 ?_;refine yk results16 rfl isAgg42 sizeOf42 aL (rfl) (L1:=R) ae ?_;rw[hle];exact⟨_,⟨rfl,rfl⟩,rfl⟩
 have hle:fh x=⟨x.fr,x.to,x.s⟩:=by unfold fh;rw[if_neg (by simpa using OG)]
 refine gc 8 ?_;refine y (bU rfl) rfl ?_;refine bA (ai rfl rfl (by simp[Value.oneCell']) sizeOf42 bc (by rfl) (by rfl)) ?_;refine gy 3 ?_;refine yk results16 rfl isAgg42 sizeOf42 aL (rfl) (L1:=R) ae ?_;rw[hle];exact⟨_,⟨rfl,rfl⟩,rfl⟩
theorem UW [Env]{R:List ax}{z:Int}(hz:z≤512):bC Tryz.prog 18 [i64 z] [] R (fun u L'=>(z<0∧u=jx∧L'=[])∨(0≤z∧ ∃q,u=dp q∧L'=[dev q (az.new z.toNat)])):=by
 by_cases h:z<0
 · exact(Mt (.inl h)).mono fun v L' ⟨h1,h2⟩=> .inl ⟨h,h1,h2⟩
 obtain⟨n,rfl⟩: ∃n:Nat,z=n:=⟨z.toNat,by omega⟩;exact(Rw (n:=n) (by omega)).mono fun v L' ⟨q,h1,h2⟩=> .inr ⟨by omega,q,h1,by rw[h2,Int.toNat_natCast]⟩
def Xj(x:hG)(u:Value)(L':List ax):Prop:=
 (iE x=none∧ ∃dv,u= .tuple #[dv,jx]∧L'=[])∨(∃n F V,iE x=some n∧ct V n∧u= .tuple #[dp F.q,ptr F.p]∧L'=ao F V n)
theorem PO [Env]{R:List ax}{x:hG}:bC Tryz.prog 13 [.agg x.cells.toArray] [] R (Xj x):=by
 have hbg:iE x=if 40<x.ek∨x.ek<0 then none else if(cQ (az.new x.ek.toNat)).1≠0 then none else if(cO x.id x.serial (cQ (az.new x.ek.toNat)).2 x.blocks x.lease x.patience).1≠0 then none else some (cO x.id x.serial (cQ (az.new x.ek.toNat)).2 x.blocks x.lease x.patience).2:=rfl
 refine ag func13 ntmps13 rfl rfl ?_;refine gc 1 ?_;refine ya (a7 (vs:=x.cells) rfl rfl) rfl ?_;rintro v L' ⟨b1,rfl,rfl⟩;refine gy 11 ?_;refine cc rfl (fun h7=>?_) (fun h7=>?_)
 ·have Sx:iE x=none:=hbg.trans (if_pos (.inl h7));refine gc 7 ?_;refine bm results13 rfl rfl (L1:=R) ae ?_;exact⟨_,.inl ⟨Sx,_,rfl,rfl⟩,rfl⟩
 refine gc 5 ?_;refine aA (UW (by omega)) rfl call18 aZ rfl ?_;rintro v L' hnw;rcases hnw with⟨O9,rfl,rfl⟩|⟨O9,q12,rfl,rfl⟩
 ·refine gy 5 ?_;have Sx:iE x=none:=hbg.trans (if_pos (.inr O9));refine gy 1 ?_;refine y (eM rfl rfl underlying26) rfl ?_;refine gy 15 ?_;refine bm results13 rfl rfl (L1:=R) ae ?_;exact⟨_,.inl ⟨Sx,_,rfl,rfl⟩,rfl⟩
 refine gy 5 ?_
 (have hD:(az.new x.ek.toNat).ok:=az.yy (by omega);have Hr:=hbg.trans (if_neg (show¬(40<x.ek∨x.ek<0)by omega)))
 refine gy 1 ?_;refine y (eM rfl rfl underlying26) rfl ?_;refine gy 2 ?_;refine bV ?_;refine bK (J2 (D:=az.new x.ek.toNat) ?aeZ) call24 ?_
 case aeZ=>exact hD
 obtain⟨fm,hfm⟩: ∃z,cQ (az.new x.ek.toNat)=z:=⟨_,rfl⟩;have hDf:fm.2.ok:=hfm▸og hD;rw[hfm]at Hr ⊢;refine gy 4 ?_;refine cc rfl (fun TC=>?_) (fun TC=>?_)
 ·have Sx:iE x=none:=Hr.trans (if_pos TC);refine gc 7 ?_;refine bm results13 rfl rfl (L1:=R) ae ?_;exact⟨_,.inl ⟨Sx,_,rfl,rfl⟩,rfl⟩
 have B5:=Hr.trans (if_neg (by simpa using TC));refine gc 14 ?_;refine aA (E3 (D:=fm.2) (id:=x.id) (serial:=x.serial) (bl:=x.blocks) (lease:=x.lease) (patience:=x.patience) hDf) rfl call19 aZ rfl ?_;rintro v L' gj;obtain⟨r,ko⟩: ∃z,cO x.id x.serial fm.2 x.blocks x.lease x.patience=z:=⟨_,rfl⟩;rw[ko]at B5 gj;rcases gj with⟨xY,rfl,rfl⟩|⟨he,F,V,hFq,rfl,hV,rfl⟩
 ·refine gy 1 ?_;have Sx:iE x=none:=B5.trans (if_pos xY);refine gy 14 ?_;refine bm results13 rfl rfl (L1:=R) ae ?_;exact⟨_,.inl ⟨Sx,_,rfl,rfl⟩,rfl⟩
 refine gy 1 ?_
 (subst hFq;have Y6:=B5.trans (if_neg (by omega)))
 refine gy 14 ?_;refine bm results13 rfl rfl (L1:=ao F V r.2++R) ae ?_;exact⟨_,.inr ⟨r.2,F,V,Y6,hV,rfl,rfl⟩,rfl⟩
def adJ [Env](F:NF)(n:aa)(a:gu)(v:Value)(L':List ax):Prop:= ∃V',ct V' (n.step a)∧L'=ao F V' (n.step a)∧cE [gH V' (n.step a)] v (n.told a).length (fG (n.told a))
theorem WU [Env]{R:List ax}{F:NF}{V:NV}{n:aa}{a:gu}(hn:n.ok 950000)(hV:ct V n)(hl:mM a=false)(ha: ∃b c,a.kv= .slice b a.ks.length c):
   bC Tryz.prog 17 [ptr F.p,acV a] (ao F V n) R (adJ F n a):=by
 refine ag func17 ntmps17 rfl rfl ?_;refine gc 1 ?_;refine ya (a7 (vs:=a.cells) rfl rfl) rfl ?_;rintro v L' ⟨b3,rfl,rfl⟩;refine gy 15 ?_;refine cc rfl (fun Wk=>?_) (fun Wk=>?_)
 ·have gw:n.step a=(n.take (fh a)).2:=if_pos Wk;have hto:n.told a=(n.step a).out:=if_pos (.inl Wk);refine gc 2 ?_;refine y (ay (u:=a.cells) rfl isAgg37 sizeOf37 aL rfl rfl) rfl ?_;refine bK (Cy (x:=a)) call16 ?_;refine aA (ahZ (V:=V) (n:=n) (l:=fh a) hn hV (ym hl)) rfl call27 aZ rfl ?_;rintro v L' ⟨V1,rfl,dN,rfl⟩;refine gy 15 ?_;refine aj results17 rfl (L1:=ao F V1 (n.take (fh a)).2++R) ae ?_;refine⟨_,⟨V1,by rw[gw];exact dN,by rw[gw],?_⟩,rfl⟩;rw[hto,gw];exact bG .z dN.out
 have hk0: ¬a.kind=0:=Wk;refine gc 5 ?_;refine cc rfl (fun Gf=>?_) (fun Gf=>?_)
 ·have gw:n.step a=n.tick:=(if_neg hk0).trans (if_pos Gf);have hto:n.told a=(n.step a).out:=if_pos (.inr Gf);refine gc 2 ?_;refine aA (ah0 (V:=V) (n:=n) hn hV) rfl call34 aZ rfl ?_;rintro v L' ⟨V2,rfl,jC,rfl⟩;refine gy 6 ?_;refine aj results17 rfl (L1:=ao F V2 n.tick++R) ae ?_;refine⟨_,⟨V2,by rw[gw];exact jC,by rw[gw],?_⟩,rfl⟩;rw[hto,gw];exact bG .z jC.out
 have gw:n.step a=n:=(if_neg hk0).trans (if_neg Gf);have hto:n.told a=[]:=if_neg (by omega);refine gc 8 ?_;refine aj results17 rfl (L1:=ao F V n++R) ae ?_;refine⟨_,⟨V,by rw[gw];exact hV,by rw[gw],?_⟩,rfl⟩;rw[hto];exact CN
end W
end Go.Proofs
namespace Go.Sl
def U8:gI:=⟨0,0,[]⟩
def nwF:Int × az:=cQ (az.new 20)
def Qy:Int × aa:=cO 0 0 nwF.2 4 5 3
def Qx:aa:=Qy.2.tick
def vN:aM:=(bF (Qx.out.headD U8).body).1
def aqU:aM:=⟨2,1,3,vN.n,-1,0,0,0,0,0,0,[],[]⟩
def aqV:aM:=⟨13,1,0,0,-1,-1,0,0,0,0,0,[],[]⟩
def aqW:aM:=⟨6,1,1,0,-1,-1,0,0,0,0,0,[],[]⟩
def aqX:aM:=⟨14,0,2,1,3,-1,0,0,0,0,0,[97,98,99,100,101,102,103,104],[]⟩
def aqY:aM:=⟨6,1,2,0,-1,-1,0,0,0,0,0,[],[]⟩
def nw2:aa:=(Qx.take ⟨2,0,dF aqU⟩).2
def U5:aa:=(nw2.take ⟨3,0,dF aqV⟩).2
def nw4:aa:=(U5.take ⟨1,0,dF aqW⟩).2
def nw5:aa:=(nw4.take ⟨4,0,dF aqX⟩).2
def Iq:aa:=(nw5.take ⟨1,0,dF aqY⟩).2
structure SV:Prop where
 f:nwF.1=0
 o:Qy.1=0
 l:Qy.2.lost=false
 e:Qy.2.ah=0
 t1:Qx.out.map (·.to)=[2]
 a1:vN.kind=1
 a2:vN.seq=1
 t2:nw2.out.map (·.to)=[3]
 t3:U5.out.map (·.to)=[1]
 r3:U5.role=2
 t4:nw4.out.map (·.to)=[]
 t5:nw5.out.map (·.to)=[1]
 t6:Iq.out.map (·.to)=[4]
 r6:Iq.role=3
 e6:Iq.ah=1
 l6:Iq.left=5
 n6:Iq.c.all.length=1
 b6:Iq.dr.GK.length=0
 y1:(Qx.out.headD U8).body.length≤1000
theorem U7:SV:=by
 have h:nwF.1=0∧Qy.1=0∧Qy.2.lost=false∧Qy.2.ah=0∧Qx.out.map (·.to)=[2]∧vN.kind=1∧vN.seq=1∧nw2.out.map (·.to)=[3]∧U5.out.map (·.to)=[1]∧U5.role=2∧nw4.out.map (·.to)=[]∧nw5.out.map (·.to)=[1]∧Iq.out.map (·.to)=[4]∧Iq.role=3∧Iq.ah=1∧Iq.left=5∧Iq.c.all.length=1∧Iq.dr.GK.length=0∧(Qx.out.headD U8).body.length≤1000:=by decide+kernel
 obtain⟨a,b,c,d,e,f,g,i,j,k,l,m,n,o,p,q,r,s,t⟩:=h;exact⟨a,b,c,d,e,f,g,i,j,k,l,m,n,o,p,q,r,s,t⟩
theorem zf{l:List gI}{z:Int}(h:l.map (·.to)=[z]): ∃x,l=[x]∧x.to=z:=by
 match l,h with
 | [x],h=>exact⟨x,rfl,by simpa using h⟩
end Go.Sl
namespace Go.Proofs
open _root_.Go.Proofs.Tryz
open Go Go.Sl
namespace W
set_option maxHeartbeats 4000000
theorem P0 [Env]{R:List ax}{q:Q3}{D:az}{id serial bl lease patience:Int}(hD:D.ok)(h:gT id serial lease patience):
   bC Tryz.prog 19 [i64 id,i64 serial,dp q,i64 bl,i64 lease,i64 patience] [dev q D] R (Is (.tuple #[jx,i64 1]) [dev q D]):=by
 have e:cO id serial D bl lease patience=(1,oU D):=if_pos h;refine(E3 (id:=id) (serial:=serial) (bl:=bl) (lease:=lease) (patience:=patience) hD).mono ?_;rw[e];rintro v L' (⟨-,rfl,rfl⟩|⟨h1,-⟩)
 · exact⟨rfl,rfl⟩
 cases h1
theorem L6 [Env]{R:List ax}{q:Q3}{D:az}{id serial bl lease patience:Int}{r:Int × aa}(hD:D.ok)(hr:cO id serial D bl lease patience=r)(h:r.1=0):
   bC Tryz.prog 19 [i64 id,i64 serial,dp q,i64 bl,i64 lease,i64 patience] [dev q D] R (fun v L'=> ∃F V,F.q=q∧v= .tuple #[ptr F.p,i64 0]∧ct V r.2∧L'=ao F V r.2):=by
 refine(E3 (id:=id) (serial:=serial) (bl:=bl) (lease:=lease) (patience:=patience) hD).mono ?_;rw[hr];rintro v L' (⟨h1,-⟩|⟨-,h2⟩)
 · exact absurd h h1
 exact h2
theorem P3 [Env]{R:List ax}{F:NF}{V:NV}{n:aa}{fr:Int}{m:aM}{pb:Nat}(hn:n.ok 950000)(hV:ct V n):
   bC Tryz.prog 36 ([i64 fr,.agg m.cells.toArray]++[ptr pb]) (sc pb [ptr F.p] 27::Mc F V n) R (fun v L'=> ∃V',v=aG V'.out (n.take ⟨fr,0,dF m⟩).2.out.length∧ct V' (n.take ⟨fr,0,dF m⟩).2∧L'=sc pb [ptr F.p] 27::ao F V' (n.take ⟨fr,0,dF m⟩).2):=by
 refine ag func36 ntmps36 rfl rfl ?_;refine gc 1 ?_;refine ya (a7 (vs:=m.cells) rfl rfl) rfl ?_;rintro v L' ⟨b4,rfl,rfl⟩;refine gy 4 ?_;refine y (ak rfl isAgg34 sizeOf34 aL (by rfl)) rfl ?_;refine bK (Bz (m:=m)) call26 ?_;refine gy 11 ?_;refine y (cA (gI.cells ⟨fr,0,dF m⟩)) rfl ?_;refine aA (P8 (V:=V) (n:=n) (l:=⟨fr,0,dF m⟩) hn hV (xB m)) rfl call27 aZ rfl ?_;rintro v L' ⟨V1,rfl,dN,rfl⟩;refine gy 13 ?_;refine aj results36 rfl (L1:=sc pb [ptr F.p] 27::ao F V1 (n.take ⟨fr,0,dF m⟩).2++R) ae ?_;exact⟨_,⟨V1,rfl,dN,rfl⟩,rfl⟩
set_option maxRecDepth 20000 in
theorem S1 [Env]{R:List ax}:bC Tryz.prog 12 [] [] R (Is (.bool true) []):=by
 obtain⟨fF,fO,fl,fe,ft1,fa1,fa2,ft2,ft3,fr3,ft4,ft5,ft6,fr6,fe6,fl6,fn6,fb6,fy1⟩:=U7;have hF:(cQ (az.new 20)).2.ok:=og (az.yy (by decide));have ho:Qy.2.ok 0:=oh hF fO;have ho1:Qx.ok 140:=ho.tick;have ho2:nw2.ok 210:=ho1.take _;have ho3:U5.ok 280:=ho2.take _;have ho4:nw4.ok 350:=ho3.take _;have ho5:nw5.ok 420:=ho4.take _;have ho6:Iq.ok 490:=ho5.take _;have hfm:cQ (az.new 20)=nwF:=rfl;have gj:cO 0 0 nwF.2 4 5 3=Qy:=rfl;have e1:Qy.2.tick=Qx:=rfl;have e2:(Qx.take ⟨2,0,dF ⟨2,1,3,vN.n,-1,0,0,0,0,0,0,[],[]⟩⟩).2=nw2:=rfl;have e3:(nw2.take ⟨3,0,dF ⟨13,1,0,0,-1,-1,0,0,0,0,0,[],[]⟩⟩).2=U5:=rfl;have e4:(U5.take ⟨1,0,dF ⟨6,1,1,0,-1,-1,0,0,0,0,0,[],[]⟩⟩).2=nw4:=rfl;have e5:(nw4.take ⟨4,0,dF ⟨14,0,2,1,3,-1,0,0,0,0,0,[97,98,99,100,101,102,103,104],[]⟩⟩).2=nw5:=rfl;have e6:(nw5.take ⟨1,0,dF ⟨6,1,2,0,-1,-1,0,0,0,0,0,[],[]⟩⟩).2=Iq:=rfl;have ea:(bF (Qx.out.headD U8).body).1=vN:=rfl;rw[hfm]at hF;generalize nwF=wf at*;generalize Qy=wo at*;generalize Qx=n1 at*;generalize vN=ask at*;generalize nw2=n2 at*;generalize U5=n3 at*;generalize nw4=n4 at*;generalize nw5=n5 at*;generalize Iq=n6 at*;obtain⟨x1,SK,hz1⟩:=zf ft1;obtain⟨x2,hx2,hz2⟩:=zf ft2;obtain⟨x3,hx3,hz3⟩:=zf ft3;obtain⟨x5,hx5,hz5⟩:=zf ft5;obtain⟨x6,hx6,hz6⟩:=zf ft6;have hx4:n4.out=[]:=List.map_eq_nil_iff.1 ft4;rw[SK]at fy1 ea;have fy1:x1.body.length≤1000:=fy1;have ea:(bF x1.body).1=ask:=ea;refine ag func12 ntmps12 rfl rfl ?_;refine gc 5 ?_;refine aA (Rw (n:=20) (by omega)) rfl call18 aZ rfl ?_;rintro v L' ⟨q17,rfl,rfl⟩;refine gy 6 ?_
 skip
 ·refine y (eM rfl rfl underlying26) rfl ?_;refine gy 2 ?_;refine bV ?_;refine bK (J2 (D:=az.new 20) ?ae0) call24 ?_
  case ae0=>exact az.yy (by decide)
  rw[hfm];refine gy 4 ?_;refine cc rfl (fun Hk=>?_) (fun Hk=>?_)
  ·exfalso;exact absurd fF (by simpa using Hk)
  refine gc 4 ?_;refine aA (L6 (D:=wf.2) (id:=0) (serial:=0) (bl:=4) (lease:=5) (patience:=3) hF gj fO) rfl call19 aZ rfl ?_;rintro v L' ⟨F,jz,hFq,rfl,eY,rfl⟩;subst hFq;refine gy 3 ?_;refine ya (aB zeroValue27 rfl) rfl ?_;rintro v L' ⟨b2,rfl,rfl⟩;refine bA (an rfl rfl (by rfl) sizeOf27 bc rfl rfl) ?_;refine gy 5 ?_;refine bK (P0 (D:=wo.2.d) (id:=2) (serial:=0) (bl:=4) (lease:=5) (patience:=3) ho.p.c.d (by decide)) call19 ?_;refine gy 10 ?_
  skip
  ·refine y (eM rfl rfl underlying27) rfl ?_;refine gy 10 ?_;refine bV ?_;refine bK (E4 (V:=jz) (n:=wo.2) (K:=0) ?aix ?aqN ?ams) call20 ?_
   case aix=>exact ho
   case aqN=>decide
   case ams=>exact eY
   refine bV ?_;refine y (j4 1 rfl underlying52 rfl isAgg4 rfl) rfl ?_;rw[show wo.2.view.lost=false from fl];refine gy 3 ?_;refine bV ?_;refine bK (E4 (V:=jz) (n:=wo.2) (K:=0) ?Qq ?aqO ?R5) call20 ?_
   case Qq=>exact ho
   case aqO=>decide
   case R5=>exact eY
   refine bV ?_;refine y (j4 2 rfl underlying52 rfl isAgg2 rfl) rfl ?_;rw[show wo.2.view.ah=0 from fe];refine gy 8 ?_
   refine y (lE (vs:= #[ptr b2]) (fun a hf=>by
       have h1:a.eval (.tmp 2)=ptr b2:=hf.ev rfl;simp[h1])) rfl ?_
   refine gy 5 ?_;refine aA (Qa (V:=jz) (n:=wo.2) (ho.le (by decide)) eY) rfl call34 aZ rfl ?_;rintro v L' ⟨V58,rfl,ac0,rfl⟩;rw[e1]at ac0 ⊢;have ko:cE [gH V58 n1] (aG V58.out 1) 1 (fG [x1]):=by have h9:=bG (L:=[gH V58 n1]) .z ac0.out;rw[SK]at h9;exact h9
   rw[show n1.out.length=1 by rw[SK];rfl];refine gy 5 ?_
   skip
   ·refine gy 1 ?_;refine y (bu rfl underlying45 (cE.bo (by assumption))) rfl ?_;refine gy 3 ?_;refine bV ?_;refine y (aK ko rfl rfl underlying45 sizeOf42 (by decide) (by decide)) rfl ?_;refine gy 1 ?_;refine bV ?_;refine y (au 1 ko ae rfl isAgg3 (by rfl) rfl) rfl ?_;rw[hz1];refine gy 9 ?_;refine y (aK ko rfl rfl underlying45 sizeOf42 (by decide) (by decide)) rfl ?_;refine gy 1 ?_;refine y (au 2 ko ae rfl isAgg9 (by rfl) rfl) rfl ?_;refine bK (J1 ?aaF) call37 ?_
    case aaF=>exact fy1
    rw[ea];refine gy 3 ?_;refine ya (aB zeroValue34 rfl) rfl ?_;rintro v L' ⟨b8,rfl,rfl⟩;refine bA (ai rfl rfl (fV _) sizeOf34 bc rfl rfl) ?_;refine gy 7 ?_;refine y (cA (aM.cells ⟨2,1,3,ask.n,-1,0,0,0,0,0,0,[],[]⟩)) rfl ?_;refine lZ rfl (P3 (V:=V58) (n:=n1) (F:=F) (pb:=b2) (fr:=2) (m:=⟨2,1,3,ask.n,-1,0,0,0,0,0,0,[],[]⟩) (ho1.le (by decide)) ac0) rfl call36 aZ rfl ?_;rintro v L' ⟨Xo,rfl,R3,rfl⟩;rw[e2]at R3 ⊢;have tZ:cE [gH Xo n2] (aG Xo.out 1) 1 (fG [x2]):=by have h9:=bG (L:=[gH Xo n2]) .z R3.out;rw[hx2]at h9;exact h9
    rw[show n2.out.length=1 by rw[hx2];rfl];refine gy 5 ?_;refine y (cA (aM.cells ⟨13,1,0,0,-1,-1,0,0,0,0,0,[],[]⟩)) rfl ?_;refine lZ rfl (P3 (V:=Xo) (n:=n2) (F:=F) (pb:=b2) (fr:=3) (m:=⟨13,1,0,0,-1,-1,0,0,0,0,0,[],[]⟩) (ho2.le (by decide)) R3) rfl call36 aZ rfl ?_;rintro v L' ⟨V84,rfl,VR,rfl⟩;rw[e3]at VR ⊢;have hr3:cE [gH V84 n3] (aG V84.out 1) 1 (fG [x3]):=by have h9:=bG (L:=[gH V84 n3]) .z VR.out;rw[hx3]at h9;exact h9
    rw[show n3.out.length=1 by rw[hx3];rfl];refine gy 5 ?_;refine bK (E4 (V:=V84) (n:=n3) (K:=280) ?aaJ ?aih ?ac5) call20 ?_
    case aaJ=>exact ho3
    case aih=>decide
    case ac5=>exact VR
    refine y (j4 3 rfl underlying52 rfl isAgg3 rfl) rfl ?_;rw[show n3.view.role=2 from fr3];refine gy 5 ?_;refine y (cA (aM.cells ⟨6,1,1,0,-1,-1,0,0,0,0,0,[],[]⟩)) rfl ?_;refine lZ rfl (P3 (V:=V84) (n:=n3) (F:=F) (pb:=b2) (fr:=1) (m:=⟨6,1,1,0,-1,-1,0,0,0,0,0,[],[]⟩) (ho3.le (by decide)) VR) rfl call36 aZ rfl ?_;rintro v L' ⟨Xp,rfl,R4,rfl⟩;rw[e4]at R4 ⊢;have hr4:cE [gH Xp n4] (aG Xp.out 0) 0 (fG []):=by have h9:=bG (L:=[gH Xp n4]) .z R4.out;rw[hx4]at h9;exact h9
    rw[show n4.out.length=0 by rw[hx4];rfl];refine gy 5 ?_;refine y (cA (aM.cells ⟨14,0,2,1,3,-1,0,0,0,0,0,[97,98,99,100,101,102,103,104],[]⟩)) rfl ?_;refine lZ rfl (P3 (V:=Xp) (n:=n4) (F:=F) (pb:=b2) (fr:=4) (m:=⟨14,0,2,1,3,-1,0,0,0,0,0,[97,98,99,100,101,102,103,104],[]⟩) (ho4.le (by decide)) R4) rfl call36 aZ rfl ?_;rintro v L' ⟨V93,rfl,ac2,rfl⟩;rw[e5]at ac2 ⊢;have hr5:cE [gH V93 n5] (aG V93.out 1) 1 (fG [x5]):=by have h9:=bG (L:=[gH V93 n5]) .z ac2.out;rw[hx5]at h9;exact h9
    rw[show n5.out.length=1 by rw[hx5];rfl];refine gy 5 ?_;refine y (cA (aM.cells ⟨6,1,2,0,-1,-1,0,0,0,0,0,[],[]⟩)) rfl ?_;refine lZ rfl (P3 (V:=V93) (n:=n5) (F:=F) (pb:=b2) (fr:=1) (m:=⟨6,1,2,0,-1,-1,0,0,0,0,0,[],[]⟩) (ho5.le (by decide)) ac2) rfl call36 aZ rfl ?_;rintro v L' ⟨MR,rfl,I0,rfl⟩;rw[e6]at I0 ⊢;have hr6:cE [gH MR n6] (aG MR.out 1) 1 (fG [x6]):=by have h9:=bG (L:=[gH MR n6]) .z I0.out;rw[hx6]at h9;exact h9
    rw[show n6.out.length=1 by rw[hx6];rfl];refine gy 5 ?_;refine bK (E4 (V:=MR) (n:=n6) (K:=490) ?aaN ?aii ?ac9) call20 ?_
    case aaN=>exact ho6
    case aii=>decide
    case ac9=>exact I0
    refine ya (aB zeroValue52 rfl) rfl ?_;rintro v L' ⟨b16,rfl,rfl⟩;refine bA (ai rfl rfl (F0 _) sizeOf52 bc rfl rfl) ?_;refine gy 3 ?_
    skip
    ·refine gy 2 ?_;rw[fa1];refine gy 4 ?_;rw[fa2];refine gy 4 ?_;refine bV ?_;refine y (bu rfl underlying45 (cE.bo (by assumption))) rfl ?_;refine gy 4 ?_;refine bV ?_;refine y (aK tZ rfl rfl underlying45 sizeOf42 (by decide) (by decide)) rfl ?_;refine gy 1 ?_;refine bV ?_;refine y (au 1 tZ ae rfl isAgg3 (by rfl) rfl) rfl ?_;rw[hz2];refine gy 4 ?_;refine bV ?_;refine y (bu rfl underlying45 (cE.bo (by assumption))) rfl ?_;refine gy 4 ?_;refine bV ?_;refine y (aK hr3 rfl rfl underlying45 sizeOf42 (by decide) (by decide)) rfl ?_;refine gy 1 ?_;refine bV ?_;refine y (au 1 hr3 ae rfl isAgg3 (by rfl) rfl) rfl ?_;rw[hz3];refine gy 8 ?_;refine bV ?_;refine y (bu rfl underlying45 (cE.bo (by assumption))) rfl ?_;refine gy 4 ?_;refine bV ?_;refine y (bu rfl underlying45 (cE.bo (by assumption))) rfl ?_;refine gy 4 ?_;refine bV ?_;refine y (aK hr5 rfl rfl underlying45 sizeOf42 (by decide) (by decide)) rfl ?_;refine gy 1 ?_;refine bV ?_;refine y (au 1 hr5 ae rfl isAgg3 (by rfl) rfl) rfl ?_;rw[hz5];refine gy 4 ?_;refine bV ?_;refine y (bu rfl underlying45 (cE.bo (by assumption))) rfl ?_;refine gy 4 ?_;refine bV ?_;refine y (aK hr6 rfl rfl underlying45 sizeOf42 (by decide) (by decide)) rfl ?_;refine gy 1 ?_;refine bV ?_;refine y (au 1 hr6 ae rfl isAgg3 (by rfl) rfl) rfl ?_;rw[hz6];refine gy 5 ?_;rw[show n6.view.role=3 from fr6];refine gy 5 ?_;rw[show n6.view.ah=1 from fe6];refine gy 5 ?_;rw[show n6.view.left=5 from fl6];refine gy 4 ?_;refine bV ?_;refine aA (PU (V:=MR) (n:=n6) ?ael) rfl call25 aZ rfl ?_
     case ael=>have:=ho6.p.bl;have:=ho6.a.blocks;omega
     rintro v L' ⟨aun,rfl,QE,rfl⟩;rw[fn6]at QE ⊢;refine bV ?_;refine y (bH rfl underlying61 (by assumption)) rfl ?_;refine gy 4 ?_;refine bV ?_;refine aA (UU (V:=MR) (n:=n6) ?X9) rfl call32 aZ rfl ?_
     case X9=>exact ho6.p.dr
     rintro v L' ⟨auo,rfl,ai7,rfl⟩;rw[fb6]at ai7 ⊢;refine bV ?_;refine y (bH rfl underlying73 (by assumption)) rfl ?_;refine gy 6 ?_;refine aj results12 rfl (L1:=R) ae ?_;exact⟨_,⟨by rfl,rfl⟩,by rfl⟩
end W
end Go.Proofs