/- A part of the proof. -/
import Derived.Test.YtlignadmmopdmaaGreatUn
import Derived.Test.YtlignadmmopdmaaGreatL2
set_option linter.unusedVariables false
set_option linter.unusedSimpArgs false
set_option linter.constructorNameAsVariable false
namespace Go.Proofs
open _root_.Go.Proofs.Tryz
open Go Go.Sl
namespace W
theorem Uu [Env]{R:List ax}{a:Addr}{m c:Nat}{xs:List (Bytes × Int)}(hm:m=xs.length)(hb:cE R (.slice (some a) m c) m (dI xs))(hl:m≤512):
   bC Tryz.prog 239 [.slice (some a) m c] [] R (zx 211 m 2 (dI xs) []):=by
 have hlen:=rB xs;refine ag func239 ntmps239 rfl rfl ?_;refine gc 7 ?_;refine y (lO rfl rfl underlying206) rfl ?_;refine gy 2 ?_;refine cc rfl (fun h4=>?_) (fun h4=>?_)
 ·exact absurd h4 (by simp)
 refine gc 3 ?_;refine ya (jh underlying206 sizeOf211) rfl ?_;rintro v L' ⟨b5,rfl,rfl⟩;refine gy 1 ?_;refine ya (aO (k:=m) (us:=dI xs) (size:=2) rfl rfl (by repeat first|exact .z|apply Pk.s) underlying206 underlying206 (by intro q hq;cases hq) typeInfo211 rfl rfl rfl ?Gk ?as7 ?arJ ?ana) rfl ?_
 case Gk=>exact⟨Nat.le_refl _,by decide,rfl,rfl⟩
 case as7=>exact al0 (hb.mono ae) (by omega)
 case arJ=>exact rC _
 case ana=>show(_+_)*25≤_;omega
 rintro v L' ⟨s7,rfl,Gk,rfl⟩;rw[Nat.zero_add]at Gk;rw[Nat.zero_add];refine gy 4 ?_;refine aj results239 rfl (L1:=_) ae ?_;exact⟨_,⟨s7,rfl,Gk,rfl⟩,rfl⟩
theorem Ut [Env]{R:List ax}:
   bC Tryz.prog 239 [fp] [] R (zx 211 0 2 [] []):=by
 refine ag func239 ntmps239 rfl rfl ?_;refine gc 7 ?_;refine y (lO rfl rfl underlying206) rfl ?_;refine gy 2 ?_;refine cc rfl (fun AG=>?_) (fun AG=>?_)
 ·refine gc 6 ?_;refine aj results239 rfl (L1:=[aD none 211 []]++R) ae ?_;exact⟨_,⟨none,rfl,⟨rfl,rfl⟩,rfl⟩,rfl⟩
 cases AG
theorem Z9 [Env]{R:List ax}{v:Value}{xs:List (Bytes × Int)}(hb:cE R v xs.length (dI xs))(hl:xs.length≤512):
   bC Tryz.prog 239 [v] [] R (zx 211 xs.length 2 (dI xs) []):=by
 rcases hb with⟨rfl,h2,h3⟩|⟨a,c,rfl,h4⟩
 · rw[h2,h3];exact Ut
 exact Uu rfl (.inr ⟨a,c,rfl,h4⟩) hl
theorem Us [Env]{R:List ax}{l c:Nat}{q:Q3}{sl:Sv}{L:aU}{D:az}{s:Bytes}(hL:L.ok D)(hs:g6 sl L):
   bC Tryz.prog 221 [ptr l,str s] [eI l c q sl L,nK sl L,dev q D] R
     (fun u L'=> ∃wZ,u=i64 (L.append D s).1∧g6 wZ (L.append D s).2.1∧L'=[eI l c q wZ (L.append D s).2.1,nK wZ (L.append D s).2.1,dev q (L.append D s).2.2]):=by
 have M5:=aU.ah2 hL;have hf5:=aU.Og hL;have hl5:=AR hL;have htm:=hL.time;have Ze:=hL.head;have Gi:=hL.tail;have SH:L.tail=L.head+L.l.length:=rfl;have zB:=hL.n;have hff:=hL.first;refine ag func221 ntmps221 rfl rfl ?_;refine gc 8 ?_;refine y (cP rfl underlying9) rfl ?_;refine gy 4 ?_;refine cc rfl (fun Sr=>?_) (fun Sr=>?_)
 ·refine gc 1 ?_;have OS:L.append D s=(3,L,D):=by unfold aU.append;rw[if_pos (by omega)]
  refine gy 6 ?_;refine aj results221 rfl (L1:=[eI l c q _ _,nK _ _,dev q _]++R) ae ?_;rw[OS];exact⟨_,⟨sl,rfl,hs,rfl⟩,rfl⟩
 refine gc 2 ?_;refine bK (WN ?an7 ?anW ?anX) call224 ?_
 case an7=>exact hs
 case anW=>exact M5
 case anX=>exact hl5
 refine gy 4 ?_;refine cc rfl (fun TA=>?_) (fun TA=>?_)
 ·refine gc 1 ?_;have OS:L.append D s=(12,L,D):=by unfold aU.append;rw[if_neg (by omega),if_pos (by omega)]
  refine gy 6 ?_;refine aj results221 rfl (L1:=[eI l c q _ _,nK _ _,dev q _]++R) ae ?_;rw[OS];exact⟨_,⟨sl,rfl,hs,rfl⟩,rfl⟩
 refine gc 2 ?_;refine bK (pK ?asv ?ar6 ?ase ?asn) call189 ?_
 case asv=>exact hs
 case ar6=>omega
 case ase=>omega
 case asn=>omega
 refine gy 4 ?_;refine cc rfl (fun Su=>?_) (fun Su=>?_)
 ·refine gc 1 ?_;have OS:L.append D s=(23,L,D):=by unfold aU.append;rw[if_neg (by omega),if_neg (by omega),if_pos (by omega)]
  refine gy 6 ?_;refine aj results221 rfl (L1:=[eI l c q _ _,nK _ _,dev q _]++R) ae ?_;rw[OS];exact⟨_,⟨sl,rfl,hs,rfl⟩,rfl⟩
 have OS:L.append D s=((D.write (L.place L.tail) (sL L.tail L.time s)).1,(if(D.write (L.place L.tail) (sL L.tail L.time s)).1=0 then{L with l:=L.l++[(s,L.time)]}else L),(D.write (L.place L.tail) (sL L.tail L.time s)).2):=by unfold aU.append;rw[if_neg (by omega),if_neg (by omega),if_neg (by omega)]
 have dj:(lu L.tail L.time s).may:=yS ⟨by omega,by omega⟩ ⟨by omega,by omega⟩ (by omega);have SE:=yR (q:=L.tail) (t:=L.time) (s:=s) ⟨by omega,by omega⟩ ⟨by omega,by omega⟩ (by omega);obtain⟨w,hw⟩: ∃w,D.write (L.place L.tail) (sL L.tail L.time s)=w:=⟨_,rfl⟩;rw[hw]at OS;refine gc 3 ?_;refine bq ?_;intro K9 Wm
 have B3: ∀x:Unit,(True)→Sk 56 K9 ([(0,ptr l),(1,str s),(5,i64 w.1)]) ([eI l c q sl L,nK sl L,dev q w.2]++R):=by
  rintro x afG;refine Wm _ _ ?_;refine gc 6 ?_;refine cc rfl (fun OD=>?_) (fun OD=>?_)
  ·rw[if_pos OD]at OS;refine aS 15 (od [11,12] 15 0) ([eI l c q sl L]++R) Tryz.mixed (by kernel_rfl) ae ?_;refine gh 10 ?_;refine hr rfl (bU rfl) rfl ?_;refine ha rfl (aE rfl underlying206 sizeOf211 zeroValue211 rfl rfl rfl rfl ⟨⟨_,_,rfl,(by rfl),(by decide)⟩,trivial⟩ (by dsimp[bt,aX,aY,bS]<;>rfl)) rfl ?_;rintro v L' ⟨b51,rfl,rfl⟩;refine⟨ae,?_⟩;refine ha rfl (aO (s:=sl) (xs:=dI L.l) (m:=L.l.length) (k:=1) (us:=dI [(s,L.time)]) (size:=2) rfl rfl (by repeat first|exact .z|apply Pk.s) underlying206 underlying206 (by intro q hq;cases hq) typeInfo211 rfl rfl rfl ?arh ?alO ?aj6 ?ad6) rfl ?_
   case arh=>exact hs
   case alO=>exact cz aL rfl rfl
   case aj6=>exact rC _
   case ad6=>show(_+_)*25≤_;omega
   rintro v L' ⟨s52,rfl,ajm,rfl⟩;refine⟨ae,?_⟩;rw[←ye]at ajm ⊢;refine gh 3 ?_;refine bA (an rfl rfl (by exact bN _ _) sizeOf206 bc rfl rfl) ?_;refine gy 8 ?_;refine aj results221 rfl (L1:=[sc l _ 208,aD s52 _ _,dev q w.2]++R) ae ?_;rw[OS];exact⟨_,⟨s52,rfl,by unfold g6;rw[List.length_append];exact ajm,by unfold eI nK;rw[List.length_append];rfl⟩,rfl⟩
  rw[if_neg OD]at OS;refine gc 8 ?_;refine aj results221 rfl (L1:=[eI l c q sl L,nK sl L,dev q w.2]++R) ae ?_;rw[OS];exact⟨_,⟨sl,rfl,hs,rfl⟩,rfl⟩
 clear Wm;refine kO 19 (.op 0 0 (.op 1 0 (.op 2 0 (.op 3 1 (.op 4 0 (.op 5 0 (.op 8 0 (.op 10 0 (.op 11 0 (.op 12 0 (.op 13 1 (.op 15 0 (.fork 6 (.fork 7 (.fork 9 (.fork 14 (.op 16 2 (.op 17 0 (.op 18 2 (.nil)))) 16 (.op 14 2 (.op 17 0 (.op 18 2 (.nil))))) 16 (.op 9 2 (.op 14 2 (.op 17 0 (.op 18 2 (.nil)))))) 16 (.op 7 2 (.op 9 2 (.op 14 2 (.op 17 0 (.op 18 2 (.nil))))))) 16 (.op 6 2 (.op 7 2 (.op 9 2 (.op 14 2 (.op 17 0 (.op 18 2 (.nil)))))))))))))))))))) ([eI l c q sl L,nK sl L]++R) Tryz.mixed (by kernel_rfl) ae ?_;refine nz rfl (ba rfl) rfl ?_;refine nz rfl (fD rfl) rfl ?_;refine nz rfl (aT 0 rfl underlying208 rfl sizeOf26) rfl ?_;refine nr rfl (bR rfl isAgg26 aL rfl) rfl ?_;refine nz rfl (ba rfl) rfl ?_;refine nz rfl (ba rfl) rfl ?_;refine nz rfl (ba rfl) rfl ?_;refine nz rfl (ba rfl) rfl ?_;refine nz rfl (fD rfl) rfl ?_;refine nz rfl (aT 5 rfl underlying208 rfl sizeOf2) rfl ?_;refine nr rfl (bR rfl isAgg2 aL rfl) rfl ?_;refine nz rfl (ba rfl) rfl ?_;refine mu ?_ ?_
 ·refine fy rfl (pK ?asx ?ar8 ?asg ?asp) rfl call189 aZ rfl ?_
  case asx=>exact hs
  case ar8=>omega
  case asg=>omega
  case asp=>omega
  rintro v L' ⟨rfl,rfl⟩;refine⟨ae,?_⟩;refine mu ?_ ?_
  ·refine fy rfl (Cu ?arM ?arP ?arS ?arV ?arY ?ar1) rfl call188 aZ rfl ?_
   case arM=>omega
   case arP=>omega
   case arS=>exact zB
   case arV=>exact M5
   case arY=>exact hff.1
   case ar1=>exact hf5
   rintro v L' ⟨rfl,rfl⟩;refine⟨ae,?_⟩;refine mu ?_ ?_
   ·refine fy rfl (pK ?asy ?ar9 ?ash ?asq) rfl call189 aZ rfl ?_
    case asy=>exact hs
    case ar9=>omega
    case ash=>omega
    case asq=>omega
    rintro v L' ⟨rfl,rfl⟩;refine⟨ae,?_⟩;refine mu ?_ ?_
    ·refine na rfl (aE rfl underlying57 sizeOf2 zeroValue2 rfl rfl rfl rfl ⟨⟨_,_,rfl,(by rfl),(by decide)⟩,⟨⟨_,_,rfl,(by rfl),(by decide)⟩,trivial⟩⟩ (by dsimp[bt,aX,aY,bS]<;>rfl)) rfl ?_;rintro v L' ⟨MS,rfl,rfl⟩;refine⟨ae,?_⟩;refine na rfl (aE rfl underlying86 sizeOf9 zeroValue9 rfl rfl rfl rfl ⟨⟨_,_,rfl,(by rfl),(by decide)⟩,trivial⟩ (by dsimp[bt,aX,aY,bS]<;>rfl)) rfl ?_;rintro v L' ⟨b34,rfl,rfl⟩;refine⟨ae,?_⟩;refine nz rfl (bU rfl) rfl ?_;refine fy rfl (sZ (r:=lu L.tail L.time s) ?apC ?apV ?an2 ?anY) rfl call238 aZ rfl ?_
     case apC=>exact eh aL rfl rfl
     case apV=>exact eh aL rfl rfl
     case an2=>exact dj
     case anY=>omega
     rintro v L' ⟨CS,rfl,jQ,rfl⟩;refine⟨ae,?_⟩;rw[show dG (bL (lu L.tail L.time s))=sL L.tail L.time s from rfl]at jQ ⊢;refine ik ?_;refine bK (lW (bs:=sL L.tail L.time s) ?Mh ?asF) call21 ?_
     case Mh=>exact hL.d
     case asF=>exact rK aL jQ
     rw[hw];refine gy 3 ?_;exact aV aq ae (B3 () trivial)
    refine na rfl (aE rfl underlying86 sizeOf9 zeroValue9 rfl rfl rfl rfl ⟨⟨_,_,rfl,(by rfl),(by decide)⟩,trivial⟩ (by dsimp[bt,aX,aY,bS]<;>rfl)) rfl ?_;rintro v L' ⟨b34,rfl,rfl⟩;refine⟨ae,?_⟩;refine na rfl (aE rfl underlying57 sizeOf2 zeroValue2 rfl rfl rfl rfl ⟨⟨_,_,rfl,(by rfl),(by decide)⟩,⟨⟨_,_,rfl,(by rfl),(by decide)⟩,trivial⟩⟩ (by dsimp[bt,aX,aY,bS]<;>rfl)) rfl ?_;rintro v L' ⟨MS,rfl,rfl⟩;refine⟨ae,?_⟩;refine nz rfl (bU rfl) rfl ?_;refine fy rfl (sZ (r:=lu L.tail L.time s) ?apD ?apW ?an3 ?anZ) rfl call238 aZ rfl ?_
    case apD=>exact eh aL rfl rfl
    case apW=>exact eh aL rfl rfl
    case an3=>exact dj
    case anZ=>omega
    rintro v L' ⟨CS,rfl,jQ,rfl⟩;refine⟨ae,?_⟩;rw[show dG (bL (lu L.tail L.time s))=sL L.tail L.time s from rfl]at jQ ⊢;refine ik ?_;refine bK (lW (bs:=sL L.tail L.time s) ?aa5 ?asG) call21 ?_
    case aa5=>exact hL.d
    case asG=>exact rK aL jQ
    rw[hw];refine gy 3 ?_;exact aV aq ae (B3 () trivial)
   refine na rfl (aE rfl underlying86 sizeOf9 zeroValue9 rfl rfl rfl rfl ⟨⟨_,_,rfl,(by rfl),(by decide)⟩,trivial⟩ (by dsimp[bt,aX,aY,bS]<;>rfl)) rfl ?_;rintro v L' ⟨b34,rfl,rfl⟩;refine⟨ae,?_⟩;refine fy rfl (pK ?asz ?asa ?asi ?asr) rfl call189 aZ rfl ?_
   case asz=>exact hs
   case asa=>omega
   case asi=>omega
   case asr=>omega
   rintro v L' ⟨rfl,rfl⟩;refine⟨ae,?_⟩;refine na rfl (aE rfl underlying57 sizeOf2 zeroValue2 rfl rfl rfl rfl ⟨⟨_,_,rfl,(by rfl),(by decide)⟩,⟨⟨_,_,rfl,(by rfl),(by decide)⟩,trivial⟩⟩ (by dsimp[bt,aX,aY,bS]<;>rfl)) rfl ?_;rintro v L' ⟨MS,rfl,rfl⟩;refine⟨ae,?_⟩;refine nz rfl (bU rfl) rfl ?_;refine fy rfl (sZ (r:=lu L.tail L.time s) ?apE ?apX ?an4 ?an0) rfl call238 aZ rfl ?_
   case apE=>exact eh aL rfl rfl
   case apX=>exact eh aL rfl rfl
   case an4=>exact dj
   case an0=>omega
   rintro v L' ⟨CS,rfl,jQ,rfl⟩;refine⟨ae,?_⟩;rw[show dG (bL (lu L.tail L.time s))=sL L.tail L.time s from rfl]at jQ ⊢;refine ik ?_;refine bK (lW (bs:=sL L.tail L.time s) ?arj ?asH) call21 ?_
   case arj=>exact hL.d
   case asH=>exact rK aL jQ
   rw[hw];refine gy 3 ?_;exact aV aq ae (B3 () trivial)
  refine na rfl (aE rfl underlying86 sizeOf9 zeroValue9 rfl rfl rfl rfl ⟨⟨_,_,rfl,(by rfl),(by decide)⟩,trivial⟩ (by dsimp[bt,aX,aY,bS]<;>rfl)) rfl ?_;rintro v L' ⟨b34,rfl,rfl⟩;refine⟨ae,?_⟩;refine fy rfl (Cu ?arN ?arQ ?arT ?arW ?arZ ?ar2) rfl call188 aZ rfl ?_
  case arN=>omega
  case arQ=>omega
  case arT=>exact zB
  case arW=>exact M5
  case arZ=>exact hff.1
  case ar2=>exact hf5
  rintro v L' ⟨rfl,rfl⟩;refine⟨ae,?_⟩;refine fy rfl (pK ?asA ?asb ?asj ?ass) rfl call189 aZ rfl ?_
  case asA=>exact hs
  case asb=>omega
  case asj=>omega
  case ass=>omega
  rintro v L' ⟨rfl,rfl⟩;refine⟨ae,?_⟩;refine na rfl (aE rfl underlying57 sizeOf2 zeroValue2 rfl rfl rfl rfl ⟨⟨_,_,rfl,(by rfl),(by decide)⟩,⟨⟨_,_,rfl,(by rfl),(by decide)⟩,trivial⟩⟩ (by dsimp[bt,aX,aY,bS]<;>rfl)) rfl ?_;rintro v L' ⟨MS,rfl,rfl⟩;refine⟨ae,?_⟩;refine nz rfl (bU rfl) rfl ?_;refine fy rfl (sZ (r:=lu L.tail L.time s) ?apF ?apY ?an5 ?an1) rfl call238 aZ rfl ?_
  case apF=>exact eh aL rfl rfl
  case apY=>exact eh aL rfl rfl
  case an5=>exact dj
  case an1=>omega
  rintro v L' ⟨CS,rfl,jQ,rfl⟩;refine⟨ae,?_⟩;rw[show dG (bL (lu L.tail L.time s))=sL L.tail L.time s from rfl]at jQ ⊢;refine ik ?_;refine bK (lW (bs:=sL L.tail L.time s) ?aa7 ?asI) call21 ?_
  case aa7=>exact hL.d
  case asI=>exact rK aL jQ
  rw[hw];refine gy 3 ?_;exact aV aq ae (B3 () trivial)
 refine na rfl (aE rfl underlying86 sizeOf9 zeroValue9 rfl rfl rfl rfl ⟨⟨_,_,rfl,(by rfl),(by decide)⟩,trivial⟩ (by dsimp[bt,aX,aY,bS]<;>rfl)) rfl ?_;rintro v L' ⟨b34,rfl,rfl⟩;refine⟨ae,?_⟩;refine fy rfl (pK ?asB ?asc ?asl ?ast) rfl call189 aZ rfl ?_
 case asB=>exact hs
 case asc=>omega
 case asl=>omega
 case ast=>omega
 rintro v L' ⟨rfl,rfl⟩;refine⟨ae,?_⟩;refine fy rfl (Cu ?akE ?akF ?akG ?akH ?akI ?akJ) rfl call188 aZ rfl ?_
 case akE=>omega
 case akF=>omega
 case akG=>exact zB
 case akH=>exact M5
 case akI=>exact hff.1
 case akJ=>exact hf5
 rintro v L' ⟨rfl,rfl⟩;refine⟨ae,?_⟩;refine fy rfl (pK ?akN ?akK ?akL ?akM) rfl call189 aZ rfl ?_
 case akN=>exact hs
 case akK=>omega
 case akL=>omega
 case akM=>omega
 rintro v L' ⟨rfl,rfl⟩;refine⟨ae,?_⟩;refine na rfl (aE rfl underlying57 sizeOf2 zeroValue2 rfl rfl rfl rfl ⟨⟨_,_,rfl,(by rfl),(by decide)⟩,⟨⟨_,_,rfl,(by rfl),(by decide)⟩,trivial⟩⟩ (by dsimp[bt,aX,aY,bS]<;>rfl)) rfl ?_;rintro v L' ⟨MS,rfl,rfl⟩;refine⟨ae,?_⟩;refine nz rfl (bU rfl) rfl ?_;refine fy rfl (sZ (r:=lu L.tail L.time s) ?agr ?agN ?afh ?afg) rfl call238 aZ rfl ?_
 case agr=>exact eh aL rfl rfl
 case agN=>exact eh aL rfl rfl
 case afh=>exact dj
 case afg=>omega
 rintro v L' ⟨CS,rfl,jQ,rfl⟩;refine⟨ae,?_⟩;rw[show dG (bL (lu L.tail L.time s))=sL L.tail L.time s from rfl]at jQ ⊢;refine ik ?_;refine bK (lW (bs:=sL L.tail L.time s) ?aiQ ?akP) call21 ?_
 case aiQ=>exact hL.d
 case akP=>exact rK aL jQ
 rw[hw];refine gy 3 ?_;exact aV aq ae (B3 () trivial)
theorem aht [Env]{R:List ax}{l c:Nat}{q:Q3}{sl:Sv}{L:aU}{D:az}{k:Int}(hL:L.ok D)(hs:g6 sl L):
   bC Tryz.prog 226 [ptr l,i64 k] [eI l c q sl L,nK sl L,dh c q L.c,dev q D] R
     (fun u L'=> ∃wZ,u=i64 (L.trim D k).1∧g6 wZ (L.trim D k).2.1∧L'=[eI l c q wZ (L.trim D k).2.1,nK wZ (L.trim D k).2.1,dh c q (L.trim D k).2.1.c,dev q (L.trim D k).2.2]):=by
 have M5:=aU.ah2 hL;have hl5:=AR hL;have htm:=hL.time;have Ze:=hL.head;have Gi:=hL.tail;have SH:L.tail=L.head+L.l.length:=rfl;have jt:cE [nK sl L] (aG sl L.l.length) L.l.length (dI L.l):=bG .z hs;have hb:L.ok D.aJ.2:=aU.NB hL;refine ag func226 ntmps226 rfl rfl ?_;refine gc 6 ?_;refine aS 7 (od [6] 7 0) (_) Tryz.mixed (by kernel_rfl) .refl ?_;refine gh 6 ?_;refine bg rfl (pK ?qz8 ?qa8 ?qb8 ?qc8) rfl call189 aZ rfl ?_
 case qz8=>exact hs
 case qa8=>omega
 case qb8=>omega
 case qc8=>omega
 rintro v L' ⟨rfl,rfl⟩;refine⟨ae,?_⟩;refine gh 1 ?_;refine bK (s3) call136 ?_;refine gy 3 ?_;refine cc rfl (fun zK=>?_) (fun zK=>?_)
 ·have JF:L.trim D k=(1,L,D):=by unfold aU.trim;rw[if_pos (by simpa using zK)]
  refine gc 6 ?_;refine aj results226 rfl (L1:=[eI l c q _ _,nK _ _,dh c q _,dev q _]++R) ae ?_;rw[JF];exact⟨_,⟨sl,rfl,hs,rfl⟩,rfl⟩
 have Dj:aI k L.head L.tail=true:=by simpa using zK
 obtain⟨hk0,M1⟩:=ca.1 Dj;have Cd:=rE hL M1;refine gc 5 ?_;refine bK (WQ ?arb) call207 ?_
 case arb=>exact hL.d
 refine gy 8 ?_;refine cc rfl (fun Dc=>?_) (fun Dc=>?_)
 ·have JF:L.trim D k=(D.aJ.1,L,D.aJ.2):=by unfold aU.trim;rw[if_neg (by rw[Dj];decide),if_pos Dc]
  refine gc 7 ?_;refine aj results226 rfl (L1:=[eI l c q _ _,nK _ _,dh c q _,dev q _]++R) ae ?_;rw[JF];exact⟨_,⟨sl,rfl,hs,rfl⟩,rfl⟩
 obtain⟨w,hw⟩: ∃w,L.c.put D.aJ.2 (bL (fE k L.time (L.dP k)))=w:=⟨_,rfl⟩;have jP:L.put D.aJ.2 k (L.dP k)=(w.1,{L with c:=w.2.1},w.2.2):=by unfold aU.put;rw[hw]
 have JF:L.trim D k=(w.1,(if w.1=0 then({L with c:=w.2.1}:aU).cut k else{L with c:=w.2.1}),w.2.2):=by unfold aU.trim;rw[if_neg (by rw[Dj];decide),if_neg (by omega),jP]
 refine gc 10 ?_;refine bq ?_;intro VW oN
 have zR: ∀x:Unit,(True)→Sk 76 VW ([(0,ptr l),(1,i64 k),(6,i64 (L.dP k))]) ([eI l c q sl L,nK sl L,dh c q L.c,dev q D.aJ.2]++R):=by
  rintro x Lj;refine oN _ _ ?_;refine gc 4 ?_;refine bK (ahq ?ahK ?aqi ?aql) call138 ?_
  case ahK=>exact hb
  case aqi=>omega
  case aql=>exact Cd
  rw[jP];refine gy 9 ?_;refine cc rfl (fun OC=>?_) (fun OC=>?_)
  ·rw[if_pos OC]at JF;obtain⟨j,hj⟩: ∃j:Nat,k-L.head=j:=⟨(k-L.head).toNat,by omega⟩;have Ls:(L.l.drop j).length=L.l.length-j:=by simp
   have Y9:({L with c:=w.2.1}:aU).cut k={L with c:=w.2.1,l:=L.l.drop j,head:=k,least:=L.dP k}:=by
     unfold aU.cut aU.dP;dsimp only;rw[show(k-L.head).toNat=j by omega]
   have SF:=jt.sl (vX hs) (s:=2) (lo:=j) (hi:=L.l.length) (by omega) (Nat.le_refl _) (rB _);rw[pH,←Ls,←rB,List.take_length]at SF;refine gc 1 ?_;refine aS 15 (od [12] 15 0) (_) Tryz.mixed (by kernel_rfl) .refl ?_;refine gh 11 ?_;rw[wr (by omega) (by omega),hj];refine hr rfl (mi jt rfl rfl underlying206 sizeOf211 (by omega) (by omega)) rfl ?_;refine bg rfl (Z9 (xs:=L.l.drop j) ?anA ?anC) rfl call239 aZ rfl ?_
   case anA=>exact SF.mono ae
   case anC=>omega
   rintro v L' ⟨s64,rfl,CG,rfl⟩;refine⟨ae,?_⟩;refine gh 3 ?_;refine bA (an rfl rfl (by exact bN _ _) sizeOf206 bc rfl rfl) ?_;refine gy 9 ?_;refine bA (an rfl rfl (by rfl) sizeOf2 bc rfl rfl) ?_;refine gy 2 ?_;refine bA (an rfl rfl (by rfl) sizeOf2 bc rfl rfl) ?_;refine gy 8 ?_;refine aj results226 rfl (L1:=[sc l _ 208,aD s64 _ _,dh c q _,dev q w.2.2]++R) ae ?_;rw[JF,Y9];exact⟨_,⟨s64,rfl,CG,rfl⟩,rfl⟩
  rw[if_neg OC]at JF;refine gc 8 ?_;refine aj results226 rfl (L1:=[eI l c q sl L,nK sl L,dh c q _,dev q w.2.2]++R) ae ?_;rw[JF];exact⟨_,⟨sl,rfl,hs,rfl⟩,rfl⟩
 clear oN;refine gc 9 ?_;refine cc rfl (fun YR=>?_) (fun YR=>?_)
 ·obtain⟨j,hj⟩: ∃j:Nat,k-L.head- 1=j:=⟨(k-L.head- 1).toNat,by omega⟩;obtain⟨x,hx⟩: ∃y,L.l[j]? =some y:=⟨_,List.getElem?_eq_getElem (by omega)⟩
  have EF:L.dP k=x.2:=by
    unfold aU.dP;rw[if_pos (by omega),show(k-L.head- 1).toNat=j by omega,List.getD_eq_getElem?_getD,hx];rfl
  refine aS 14 (od [] 14 0) (_) Tryz.mixed (by kernel_rfl) .refl ?_;refine gh 10 ?_;rw[wr (by omega) (by omega)];refine gh 1 ?_;rw[wr (by omega) (by omega),hj];refine hr rfl (aK jt rfl rfl underlying206 sizeOf211 (by omega) (by omega)) rfl ?_;refine gh 1 ?_;refine hr rfl (au (j*2+1) jt ae rfl isAgg2 (by simp;omega) (ES hx)) rfl ?_;refine gh 2 ?_;rw[←EF];refine gy 2 ?_;exact aV aq ae (zR () trivial)
 have EF:L.dP k=L.least:=by unfold aU.dP;rw[if_neg (by omega)]
 rw[EF]at zR;refine gc 2 ?_;exact aV aq ae (zR () trivial)
theorem ahs [Env]{R:List ax}{l c:Nat}{q:Q3}{sl:Sv}{L:aU}{D:az}(hD:D.ok)(hd:D.dead=false)(hs:g6 sl L)(Lv:L.l=[])(zB:2≤L.n)(hff:0≤L.first∧L.first+L.n≤D.l.length)(Ze:1≤L.head∧L.head≤4611686018427387904):
   bC Tryz.prog 137 [ptr l] [eI l c q sl L,nK sl L,dev q D] R
     (fun u L'=> ∃wZ Z,u= .tuple #[]∧Z={L with l:=fI D L.first L.n L.time L.n L.head L.least}∧g6 wZ Z∧L'=[eI l c q wZ Z,nK wZ Z,dev q D]):=by
 have hD5:=hD.n;refine ag func137 ntmps137 rfl rfl ?_;refine X4 ?_;refine vk 5 ?_;refine iS ?_;intro K2 gM;refine XU (eB (gM _ _ ?_));clear gM;refine vk 5 ?_;refine jZ ?_;refine Ax (A:=Nat × Sv × aU × Int) (fun x=>[(15,i64 x.1),(14,i64 L.n),(2,i64 x.2.2.2),(0,ptr l)]) (fun x=>[eI l c q x.2.1 x.2.2.1,nK x.2.1 x.2.2.1,dev q D]++R) (fun x=>x.1≤L.n∧g6 x.2.1 x.2.2.1∧x.2.2.1={L with l:=x.2.2.1.l}∧x.2.2.1.l.length=x.1∧fI D L.first L.n L.time L.n L.head L.least=x.2.2.1.l++fI D L.first L.n L.time (L.n-x.1) (L.head+x.1) x.2.2.2) (fun x=>L.n-x.1) ((0,sl,L,L.least)) ?_ aq ae ?_
 · refine⟨Nat.zero_le _,hs,rfl,by rw[Lv];rfl,?_⟩;dsimp only;rw[Lv,List.nil_append,Nat.sub_zero];simp
 rintro⟨k,s,Z,lo⟩ bJ kt cI;obtain⟨hk,ok,hZ,hlen,JD⟩:=bJ;dsimp only at hk ok hZ hlen JD ⊢;refine vk 1 ?_;refine iS ?_;intro K5 B4;refine cc rfl (fun AG=>?_) (fun AG=>?_)
 ·have z1:Z.first=L.first:=by rw[hZ]
  have z2:Z.n=L.n:=by rw[hZ]
  have z3:Z.head=L.head:=by rw[hZ]
  have z4:Z.time=L.time:=by rw[hZ]
  have z5:Z.tail=L.head+k:=by unfold aU.tail;rw[z3,hlen]
  have Wx:k<L.n:=by omega
  have Gh:Z.place Z.tail=L.first+(L.head+k) % L.n:=by unfold aU.place;rw[z1,z2,z5]
  have hm:=Int.emod_nonneg (L.head+k) (show(L.n:Int)≠0 by omega);have hm2:=Int.emod_lt_of_pos (L.head+k) (show(0:Int)<L.n by omega);have hh0:D.has (Z.place Z.tail)=0:=by unfold az.has;rw[if_neg (by rw[hd];decide),if_neg (by omega)]
  have SG:(D.sec (Z.place Z.tail)).length=144:=jm hD _;obtain⟨f,hf⟩: ∃f,L.n-k=f+1:=⟨L.n-k- 1,by omega⟩;refine dE (eB (B4 _ _ ?_));clear B4;refine iS ?_;intro K6 ma;refine jZ ?_;refine iS ?_;intro K7 Jx;refine aS 13 (od [6,7,8] 13 0) (_) Tryz.mixed (by kernel_rfl) .refl ?_;refine hy 6 ?_;refine bg rfl (pK ?asu ?ar5 ?asd ?asm) rfl call189 aZ rfl ?_
  case asu=>exact ok
  case ar5=>omega
  case asd=>omega
  case asm=>omega
  rintro v L' ⟨rfl,rfl⟩;refine⟨ae,?_⟩;refine bg rfl (Cu ?arL ?arO ?arR ?arU ?arX ?ar0) rfl call188 aZ rfl ?_
  case arL=>omega
  case arO=>omega
  case arR=>omega
  case arU=>omega
  case arX=>omega
  case ar0=>omega
  rintro v L' ⟨rfl,rfl⟩;refine⟨ae,?_⟩;refine bg rfl (FI hD hh0) rfl call76 aZ rfl ?_;rintro v L' ⟨s26,rfl,Ad,rfl⟩;refine⟨ae,?_⟩;rw[Gh]at Ad SG ⊢;generalize Sx:D.sec (L.first+(L.head+(k:Int)) % L.n)=b at*;refine hy 4 ?_;refine wv ?_;refine yr 1 ?_;refine xZ (eB (Jx _ _ ?_));clear Jx;refine cy 1 ?_;refine aA (ahr (bs:=b) ?aoV ?Yk ?ahw) rfl call190 aZ rfl ?_
  case aoV=>exact pT aL Ad
  case Yk=>omega
  case ahw=>omega
  rintro v L' ⟨mP,RH,VB,rfl,Ae,agI,rfl⟩;have qQ:=Ae.n;have k3:=Ae.t;unfold tD;have SI:cE [aD VB 9 (cn mP.texts)] (aG VB mP.texts.length) mP.texts.length (cn mP.texts):=bG .z k3;have g9:cE [aD RH 2 (aW mP.aH)] (aG RH mP.aH.length) mP.aH.length (aW mP.aH):=bG .z qQ;refine yr 3 ?_;refine ya (aB zeroValue88 rfl) rfl ?_;rintro v L' ⟨b5,rfl,rfl⟩;refine bA (ai rfl rfl (by(simp only[List.forall_mem_cons,List.not_mem_nil,false_implies,implies_true,bN,and_true,true_and,and_self];first|done|simp[Value.oneCell'])) sizeOf88 bc (by rfl) (by rfl)) ?_;refine yn 1 ?_;refine iS ?_;intro K9 Wm;refine jZ ?_;refine iS ?_;intro VW oN;refine aS 21 (od [8] 21 0) (_) Tryz.mixed (by kernel_rfl) .refl ?_;refine hy 3 ?_;refine fZ 37 rfl (fun OE=>?_) (fun OE=>?_)
  ·have Ca:Z={L with l:=fI D L.first L.n L.time L.n L.head L.least}:=by
     rw[JD,Kh (by rw[Sx];exact IF (by simpa using OE)),List.append_nil];exact hZ
   refine hy 5 ?_;refine lF rfl rfl rfl rfl rfl ae ?_;refine hy 12 ?_;refine wv ?_;refine yr 4 ?_;refine xZ (eB (oN _ _ ?_));clear oN;refine pg rfl ?_;refine vg (Z7 rfl (nZ (Z7 rfl (nZ (nZ (WK (kg rfl ?_)))))));refine aN results137 (L1:=[eI l c q s Z,nK s Z,dev q D]++R) ae ?_;exact⟨_,⟨s,Z,rfl,Ca,ok,rfl⟩,rfl⟩
  have Zl:pP b=true:=by simpa using OE
  obtain⟨SA,hg2⟩:=QL Zl;have SE:=IG Zl;rw[agI Zl]at SA hg2 SE;rw[←Sx]at SE;have SJ:mP.aH[0]? =some (mP.aH.getD 0 0):=gK (by omega);have SK:mP.aH[1]? =some (mP.aH.getD 1 0):=gK (by omega);have hxt:mP.texts[0]? =some (mP.texts.getD 0 []):=gK (by omega);generalize mP.aH.getD 0 0=y0 at*;generalize mP.aH.getD 1 0=y1 at*;generalize mP.texts.getD 0 []=yt at*;refine hy 2 ?_;refine ko rfl rfl rfl (aK g9 rfl rfl underlying57 sizeOf2 (by omega) (by omega)) rfl ?_;refine ko rfl rfl rfl (au 0 g9 ae rfl isAgg2 rfl (dk SJ)) rfl ?_;refine hy 1 ?_;refine fk rfl rfl rfl (pK ?asw ?ar7 ?asf ?aso) rfl call189 aZ rfl ?_
  case asw=>exact ok
  case ar7=>omega
  case asf=>omega
  case aso=>omega
  rintro v L' ⟨rfl,rfl⟩;refine⟨ae,?_⟩;refine hy 3 ?_;refine fZ 46 rfl (fun TF=>?_) (fun TF=>?_)
  ·have Ca:Z={L with l:=fI D L.first L.n L.time L.n L.head L.least}:=by
     rw[JD,yY SE (by omega),List.append_nil];exact hZ
   refine hy 9 ?_;refine wv ?_;refine yr 4 ?_;refine xZ (eB (oN _ _ ?_));clear oN;refine pg rfl ?_;refine vg (Z7 rfl (nZ (Z7 rfl (nZ (nZ (WK (kg rfl ?_)))))));refine aN results137 (L1:=[eI l c q s Z,nK s Z,dev q D]++R) ae ?_;exact⟨_,⟨s,Z,rfl,Ca,ok,rfl⟩,rfl⟩
  refine hy 2 ?_;refine ko rfl rfl rfl (aK g9 rfl rfl underlying57 sizeOf2 (by omega) (by omega)) rfl ?_;refine ko rfl rfl rfl (au 1 g9 ae rfl isAgg2 (by simp) (dk SK)) rfl ?_;refine hy 5 ?_;refine wv ?_;refine bV ?_;refine bK (s3) call136 ?_;refine yr 3 ?_;refine xZ (eB (oN _ _ ?_));clear oN;refine cc rfl (fun Gd=>?_) (fun Gd=>?_)
  ·have Ca:Z={L with l:=fI D L.first L.n L.time L.n L.head L.least}:=by
     rw[JD,yY SE (by intro hc;have hwt:aI y1 lo Z.time=true:=ca.2 ⟨hc.2.1,by omega⟩;rw[hwt]at Gd;exact Bool.noConfusion Gd),List.append_nil];exact hZ
   refine vg (Z7 rfl (nZ (Z7 rfl (nZ (nZ (WK (kg rfl ?_)))))));refine aN results137 (L1:=[eI l c q s Z,nK s Z,dev q D]++R) ae ?_;exact⟨_,⟨s,Z,rfl,Ca,ok,rfl⟩,rfl⟩
  obtain⟨Ue,sS⟩:=ca.1 (show aI y1 lo Z.time=true by simpa using Gd);have ru:=Kg (time:=L.time) (f:=f) SE (by omega) Ue (by omega);rw[hf,ru]at JD;refine dE (Na (eB (Wm _ _ ?_)));clear Wm;refine cy 2 ?_;refine y (aK g9 rfl rfl underlying57 sizeOf2 (by omega) (by omega)) rfl ?_;refine y (au 1 g9 ae rfl isAgg2 (by simp) (dk SK)) rfl ?_;refine yn 1 ?_;refine aS 15 (od [11,12] 15 0) ([eI l c q s Z,aD VB 9 (cn mP.texts),sc b5 [i64 mP.kind,aG RH mP.aH.length,aG VB mP.texts.length] 88]++R) Tryz.mixed (by kernel_rfl) ae ?_;refine hy 7 ?_;refine hr rfl (aK SI rfl rfl underlying86 sizeOf9 (by omega) (by omega)) rfl ?_;refine hr rfl (au 0 SI ae rfl isAgg9 rfl (fR hxt)) rfl ?_;refine hy 1 ?_;refine hr rfl (bU rfl) rfl ?_;refine ha rfl (aE rfl underlying206 sizeOf211 zeroValue211 rfl rfl rfl rfl ⟨⟨_,_,rfl,(by rfl),(by decide)⟩,trivial⟩ (by dsimp[bt,aX,aY,bS]<;>rfl)) rfl ?_;rintro v L' ⟨b74,rfl,rfl⟩;refine⟨ae,?_⟩;refine ha rfl (aO (s:=s) (xs:=dI Z.l) (m:=Z.l.length) (k:=1) (us:=dI [(yt,y1)]) (size:=2) rfl rfl (by repeat first|exact .z|apply Pk.s) underlying206 underlying206 (by intro q hq;cases hq) typeInfo211 rfl rfl rfl ?gU ?alT ?akb ?aeb) rfl ?_
  case gU=>exact ok
  case alT=>exact cz aL rfl rfl
  case akb=>exact rC _
  case aeb=>show(_+_)*25≤_;omega
  rintro v L' ⟨s75,rfl,Mh,rfl⟩;refine⟨ae,?_⟩;rw[←ye,show Z.l.length+1=(Z.l++[(yt,y1)]).length by simp]at Mh ⊢;refine hy 2 ?_;refine wv ?_;refine bA (an rfl rfl (by exact bN _ _) sizeOf206 bc rfl rfl) ?_;refine xZ (Na (eB (ma _ _ ?_)));clear ma;refine cr 1 ?_;rw[show IntKind.i64.wrap ((k:Int)+1)=((k+1:Nat):Int)by rw[wr (by omega) (by omega)];rfl];refine yr 1 ?_;refine nJ (eB ?_);exact cI ((k+1,s75,{Z with l:=Z.l++[(yt,y1)]},y1)) (⟨by dsimp only;omega,Mh,by dsimp only;rw[hZ],by simp;omega,by dsimp only;rw[JD,List.append_assoc,List.singleton_append,show L.n-(k+1)=f by omega,show(L.head+((k+1:Nat):Int))=L.head+(k:Int)+1 by omega]⟩) (by dsimp only;omega) _ _ aq ae
 have Wx:k=L.n:=by omega
 subst Wx;have Ca:Z={L with l:=fI D L.first L.n L.time L.n L.head L.least}:=by rw[JD,Nat.sub_self];simp only[fI,List.append_nil];exact hZ
 refine vg (nZ (nZ (WK (kg rfl ?_))));refine aN results137 (L1:=[eI l c q s Z,nK s Z,dev q D]++R) ae ?_;exact⟨_,⟨s,Z,rfl,Ca,ok,rfl⟩,rfl⟩
end W
end Go.Proofs