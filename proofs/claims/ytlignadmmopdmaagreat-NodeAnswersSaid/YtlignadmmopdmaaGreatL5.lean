/- A part of the proof. -/
import Derived.Test.YtlignadmmopdmaaGreatUn
import Derived.Test.YtlignadmmopdmaaGreatL2
set_option linter.unusedVariables false
set_option linter.unusedSimpArgs false
set_option linter.constructorNameAsVariable false
namespace Go.Proofs
open _root_.Go.Proofs.Tryz
open Go Go.Sl
namespace W
theorem lClone1 [Env]{R:List Seg}{a:Addr}{m c:Nat}{xs:List (Bytes × Int)}(hm:m=xs.length)(hb:RdV R (.slice (some a) m c) m (itemsV xs))(hl:m≤512):
   Con Tryz.prog 239 [.slice (some a) m c] [] R (KSv 211 m 2 (itemsV xs) []):=by
 have hlen:=itemsV_len xs;refine con_enter func239 ntmps239 rfl rfl ?_;refine gc 7 ?_;refine y (ev_eqlLnil rfl rfl underlying206) rfl ?_;refine gy 2 ?_;refine cc rfl (fun h4=>?_) (fun h4=>?_)
 ·exact absurd h4 (by simp)
 refine gc 3 ?_;refine ya (ac_bslice0 underlying206 sizeOf211) rfl ?_;rintro v L' ⟨b5,rfl,rfl⟩;refine gy 1 ?_;refine ya (ac_append (k:=m) (us:=itemsV xs) (size:=2) rfl rfl (by repeat first|exact .z|apply Pk.s) underlying206 underlying206 (by intro q hq;cases hq) typeInfo211 rfl rfl rfl ?ok7 ?src7 ?one7 ?big7) rfl ?_
 case ok7=>exact⟨Nat.le_refl _,by decide,rfl,rfl⟩
 case src7=>exact srcV (hb.mono zge) (by omega)
 case one7=>exact itemsV_one _
 case big7=>show(_+_)*25≤_;omega
 rintro v L' ⟨s7,rfl,ok7,rfl⟩;rw[Nat.zero_add]at ok7;rw[Nat.zero_add];refine gy 4 ?_;refine kretv results239 rfl (L1:=_) zge ?_;exact⟨_,⟨s7,rfl,ok7,rfl⟩,rfl⟩
theorem lClone0 [Env]{R:List Seg}:
   Con Tryz.prog 239 [nilS] [] R (KSv 211 0 2 [] []):=by
 refine con_enter func239 ntmps239 rfl rfl ?_;refine gc 7 ?_;refine y (ev_eqlLnil rfl rfl underlying206) rfl ?_;refine gy 2 ?_;refine cc rfl (fun h12=>?_) (fun h12=>?_)
 ·refine gc 6 ?_;refine kretv results239 rfl (L1:=[svSeg none 211 []]++R) zge ?_;exact⟨_,⟨none,rfl,⟨rfl,rfl⟩,rfl⟩,rfl⟩
 cases h12
theorem lClone [Env]{R:List Seg}{v:Value}{xs:List (Bytes × Int)}(hb:RdV R v xs.length (itemsV xs))(hl:xs.length≤512):
   Con Tryz.prog 239 [v] [] R (KSv 211 xs.length 2 (itemsV xs) []):=by
 rcases hb with⟨rfl,h2,h3⟩|⟨a,c,rfl,h4⟩
 · rw[h2,h3];exact lClone0
 exact lClone1 rfl (.inr ⟨a,c,rfl,h4⟩) hl
theorem lAppend [Env]{R:List Seg}{l c:Nat}{q:Q3}{sl:Sv}{L:LogM}{D:Dev}{s:Bytes}(hL:L.ok D)(hs:itOk sl L):
   Con Tryz.prog 221 [ptr l,str s] [logP l c q sl L,itS sl L,dev q D] R
     (fun u L'=> ∃sl',u=i64 (L.append D s).1∧itOk sl' (L.append D s).2.1∧L'=[logP l c q sl' (L.append D s).2.1,itS sl' (L.append D s).2.1,dev q (L.append D s).2.2]):=by
 have hn5:=LogM.n_le hL;have hf5:=LogM.first_le hL;have hl5:=items_len hL;have htm:=hL.time;have hhd:=hL.head;have htl:=hL.tail;have htd:L.tail=L.head+L.l.length:=rfl;have hn2:=hL.n;have hff:=hL.first;refine con_enter func221 ntmps221 rfl rfl ?_;refine gc 8 ?_;refine y (ev_lenStr rfl underlying9) rfl ?_;refine gy 4 ?_;refine cc rfl (fun h19=>?_) (fun h19=>?_)
 ·refine gc 1 ?_;have hap:L.append D s=(3,L,D):=by unfold LogM.append;rw[if_pos (by omega)]
  refine gy 6 ?_;refine kretv results221 rfl (L1:=[logP l c q _ _,itS _ _,dev q _]++R) zge ?_;rw[hap];exact⟨_,⟨sl,rfl,hs,rfl⟩,rfl⟩
 refine gc 2 ?_;refine yci (lFree ?fz22 ?fa22 ?fb22) call224 ?_
 case fz22=>exact hs
 case fa22=>exact hn5
 case fb22=>exact hl5
 refine gy 4 ?_;refine cc rfl (fun h25=>?_) (fun h25=>?_)
 ·refine gc 1 ?_;have hap:L.append D s=(12,L,D):=by unfold LogM.append;rw[if_neg (by omega),if_pos (by omega)]
  refine gy 6 ?_;refine kretv results221 rfl (L1:=[logP l c q _ _,itS _ _,dev q _]++R) zge ?_;rw[hap];exact⟨_,⟨sl,rfl,hs,rfl⟩,rfl⟩
 refine gc 2 ?_;refine yci (lTail ?qz28 ?qa28 ?qb28 ?qc28) call189 ?_
 case qz28=>exact hs
 case qa28=>omega
 case qb28=>omega
 case qc28=>omega
 refine gy 4 ?_;refine cc rfl (fun h31=>?_) (fun h31=>?_)
 ·refine gc 1 ?_;have hap:L.append D s=(23,L,D):=by unfold LogM.append;rw[if_neg (by omega),if_neg (by omega),if_pos (by omega)]
  refine gy 6 ?_;refine kretv results221 rfl (L1:=[logP l c q _ _,itS _ _,dev q _]++R) zge ?_;rw[hap];exact⟨_,⟨sl,rfl,hs,rfl⟩,rfl⟩
 have hap:L.append D s=((D.write (L.place L.tail) (frL L.tail L.time s)).1,(if(D.write (L.place L.tail) (frL L.tail L.time s)).1=0 then{L with l:=L.l++[(s,L.time)]}else L),(D.write (L.place L.tail) (frL L.tail L.time s)).2):=by unfold LogM.append;rw[if_neg (by omega),if_neg (by omega),if_neg (by omega)]
 have hmay:(recL L.tail L.time s).may:=recL_may ⟨by omega,by omega⟩ ⟨by omega,by omega⟩ (by omega);have hrl:=recL_len (q:=L.tail) (t:=L.time) (s:=s) ⟨by omega,by omega⟩ ⟨by omega,by omega⟩ (by omega);obtain⟨w,hw⟩: ∃w,D.write (L.place L.tail) (frL L.tail L.time s)=w:=⟨_,rfl⟩;rw[hw]at hap;refine gc 3 ?_;refine cseqT ?_;intro K9 hK9
 have hJr8: ∀x:Unit,(True)→Sk 56 K9 ([(0,ptr l),(1,str s),(5,i64 w.1)]) ([logP l c q sl L,itS sl L,dev q w.2]++R):=by
  rintro x hIr8;refine hK9 _ _ ?_;refine gc 6 ?_;refine cc rfl (fun h35=>?_) (fun h35=>?_)
  ·rw[if_pos h35]at hap;refine cdraw 15 (od [11,12] 15 0) ([logP l c q sl L]++R) Tryz.mixed (by kernel_rfl) zge ?_;refine gh 10 ?_;refine hr rfl (ev_be rfl) rfl ?_;refine ha rfl (ac_bsliceR rfl underlying206 sizeOf211 zeroValue211 rfl rfl rfl rfl ⟨⟨_,_,rfl,(by rfl),(by decide)⟩,trivial⟩ (by dsimp[fillL,splice,vcells,reps]<;>rfl)) rfl ?_;rintro v L' ⟨b51,rfl,rfl⟩;refine⟨zge,?_⟩;refine ha rfl (ac_append (s:=sl) (xs:=itemsV L.l) (m:=L.l.length) (k:=1) (us:=itemsV [(s,L.time)]) (size:=2) rfl rfl (by repeat first|exact .z|apply Pk.s) underlying206 underlying206 (by intro q hq;cases hq) typeInfo211 rfl rfl rfl ?ok48 ?src48 ?one48 ?big48) rfl ?_
   case ok48=>exact hs
   case src48=>exact src_at zin rfl rfl
   case one48=>exact itemsV_one _
   case big48=>show(_+_)*25≤_;omega
   rintro v L' ⟨s52,rfl,ok52,rfl⟩;refine⟨zge,?_⟩;rw[←itemsV_app]at ok52 ⊢;refine gh 3 ?_;refine yst (ac_store rfl rfl (by exact svVal_one _ _) sizeOf206 zrp rfl rfl) ?_;refine gy 8 ?_;refine kretv results221 rfl (L1:=[sc l _ 208,svSeg s52 _ _,dev q w.2]++R) zge ?_;rw[hap];exact⟨_,⟨s52,rfl,by unfold itOk;rw[List.length_append];exact ok52,by unfold logP itS;rw[List.length_append];rfl⟩,rfl⟩
  rw[if_neg h35]at hap;refine gc 8 ?_;refine kretv results221 rfl (L1:=[logP l c q sl L,itS sl L,dev q w.2]++R) zge ?_;rw[hap];exact⟨_,⟨sl,rfl,hs,rfl⟩,rfl⟩
 clear hK9;refine cdrawN 19 (.op 0 0 (.op 1 0 (.op 2 0 (.op 3 1 (.op 4 0 (.op 5 0 (.op 8 0 (.op 10 0 (.op 11 0 (.op 12 0 (.op 13 1 (.op 15 0 (.fork 6 (.fork 7 (.fork 9 (.fork 14 (.op 16 2 (.op 17 0 (.op 18 2 (.nil)))) 16 (.op 14 2 (.op 17 0 (.op 18 2 (.nil))))) 16 (.op 9 2 (.op 14 2 (.op 17 0 (.op 18 2 (.nil)))))) 16 (.op 7 2 (.op 9 2 (.op 14 2 (.op 17 0 (.op 18 2 (.nil))))))) 16 (.op 6 2 (.op 7 2 (.op 9 2 (.op 14 2 (.op 17 0 (.op 18 2 (.nil)))))))))))))))))))) ([logP l c q sl L,itS sl L]++R) Tryz.mixed (by kernel_rfl) zge ?_;refine nz rfl (ev_move rfl) rfl ?_;refine nz rfl (ev_nil rfl) rfl ?_;refine nz rfl (ev_fieldAddr 0 rfl underlying208 rfl sizeOf26) rfl ?_;refine nr rfl (ev_load rfl isAgg26 zin rfl) rfl ?_;refine nz rfl (ev_move rfl) rfl ?_;refine nz rfl (ev_move rfl) rfl ?_;refine nz rfl (ev_move rfl) rfl ?_;refine nz rfl (ev_move rfl) rfl ?_;refine nz rfl (ev_nil rfl) rfl ?_;refine nz rfl (ev_fieldAddr 5 rfl underlying208 rfl sizeOf2) rfl ?_;refine nr rfl (ev_load rfl isAgg2 zin rfl) rfl ?_;refine nz rfl (ev_move rfl) rfl ?_;refine nfork ?_ ?_
 ·refine ncall rfl (lTail ?qz68 ?qa68 ?qb68 ?qc68) rfl call189 ztk rfl ?_
  case qz68=>exact hs
  case qa68=>omega
  case qb68=>omega
  case qc68=>omega
  rintro v L' ⟨rfl,rfl⟩;refine⟨zge,?_⟩;refine nfork ?_ ?_
  ·refine ncall rfl (lPlace ?pa69 ?pb69 ?pc69 ?pd69 ?pe69 ?pf69) rfl call188 ztk rfl ?_
   case pa69=>omega
   case pb69=>omega
   case pc69=>exact hn2
   case pd69=>exact hn5
   case pe69=>exact hff.1
   case pf69=>exact hf5
   rintro v L' ⟨rfl,rfl⟩;refine⟨zge,?_⟩;refine nfork ?_ ?_
   ·refine ncall rfl (lTail ?qz70 ?qa70 ?qb70 ?qc70) rfl call189 ztk rfl ?_
    case qz70=>exact hs
    case qa70=>omega
    case qb70=>omega
    case qc70=>omega
    rintro v L' ⟨rfl,rfl⟩;refine⟨zge,?_⟩;refine nfork ?_ ?_
    ·refine na rfl (ac_bsliceR rfl underlying57 sizeOf2 zeroValue2 rfl rfl rfl rfl ⟨⟨_,_,rfl,(by rfl),(by decide)⟩,⟨⟨_,_,rfl,(by rfl),(by decide)⟩,trivial⟩⟩ (by dsimp[fillL,splice,vcells,reps]<;>rfl)) rfl ?_;rintro v L' ⟨b32,rfl,rfl⟩;refine⟨zge,?_⟩;refine na rfl (ac_bsliceR rfl underlying86 sizeOf9 zeroValue9 rfl rfl rfl rfl ⟨⟨_,_,rfl,(by rfl),(by decide)⟩,trivial⟩ (by dsimp[fillL,splice,vcells,reps]<;>rfl)) rfl ?_;rintro v L' ⟨b34,rfl,rfl⟩;refine⟨zge,?_⟩;refine nz rfl (ev_be rfl) rfl ?_;refine ncall rfl (lFramed (r:=recL L.tail L.time s) ?hn74 ?ht74 ?fm74 ?fl74) rfl call238 ztk rfl ?_
     case hn74=>exact rdV_in zin rfl rfl
     case ht74=>exact rdV_in zin rfl rfl
     case fm74=>exact hmay
     case fl74=>omega
     rintro v L' ⟨s36,rfl,ok36,rfl⟩;refine⟨zge,?_⟩;rw[show framed (recB (recL L.tail L.time s))=frL L.tail L.time s from rfl]at ok36 ⊢;refine nnil ?_;refine yci (secWrite (bs:=frL L.tail L.time s) ?ok75 ?rd75) call21 ?_
     case ok75=>exact hL.d
     case rd75=>exact rdB_sv zin ok36
     rw[hw];refine gy 3 ?_;exact ksub zsub zge (hJr8 () trivial)
    refine na rfl (ac_bsliceR rfl underlying86 sizeOf9 zeroValue9 rfl rfl rfl rfl ⟨⟨_,_,rfl,(by rfl),(by decide)⟩,trivial⟩ (by dsimp[fillL,splice,vcells,reps]<;>rfl)) rfl ?_;rintro v L' ⟨b34,rfl,rfl⟩;refine⟨zge,?_⟩;refine na rfl (ac_bsliceR rfl underlying57 sizeOf2 zeroValue2 rfl rfl rfl rfl ⟨⟨_,_,rfl,(by rfl),(by decide)⟩,⟨⟨_,_,rfl,(by rfl),(by decide)⟩,trivial⟩⟩ (by dsimp[fillL,splice,vcells,reps]<;>rfl)) rfl ?_;rintro v L' ⟨b32,rfl,rfl⟩;refine⟨zge,?_⟩;refine nz rfl (ev_be rfl) rfl ?_;refine ncall rfl (lFramed (r:=recL L.tail L.time s) ?hn80 ?ht80 ?fm80 ?fl80) rfl call238 ztk rfl ?_
    case hn80=>exact rdV_in zin rfl rfl
    case ht80=>exact rdV_in zin rfl rfl
    case fm80=>exact hmay
    case fl80=>omega
    rintro v L' ⟨s36,rfl,ok36,rfl⟩;refine⟨zge,?_⟩;rw[show framed (recB (recL L.tail L.time s))=frL L.tail L.time s from rfl]at ok36 ⊢;refine nnil ?_;refine yci (secWrite (bs:=frL L.tail L.time s) ?ok81 ?rd81) call21 ?_
    case ok81=>exact hL.d
    case rd81=>exact rdB_sv zin ok36
    rw[hw];refine gy 3 ?_;exact ksub zsub zge (hJr8 () trivial)
   refine na rfl (ac_bsliceR rfl underlying86 sizeOf9 zeroValue9 rfl rfl rfl rfl ⟨⟨_,_,rfl,(by rfl),(by decide)⟩,trivial⟩ (by dsimp[fillL,splice,vcells,reps]<;>rfl)) rfl ?_;rintro v L' ⟨b34,rfl,rfl⟩;refine⟨zge,?_⟩;refine ncall rfl (lTail ?qz84 ?qa84 ?qb84 ?qc84) rfl call189 ztk rfl ?_
   case qz84=>exact hs
   case qa84=>omega
   case qb84=>omega
   case qc84=>omega
   rintro v L' ⟨rfl,rfl⟩;refine⟨zge,?_⟩;refine na rfl (ac_bsliceR rfl underlying57 sizeOf2 zeroValue2 rfl rfl rfl rfl ⟨⟨_,_,rfl,(by rfl),(by decide)⟩,⟨⟨_,_,rfl,(by rfl),(by decide)⟩,trivial⟩⟩ (by dsimp[fillL,splice,vcells,reps]<;>rfl)) rfl ?_;rintro v L' ⟨b32,rfl,rfl⟩;refine⟨zge,?_⟩;refine nz rfl (ev_be rfl) rfl ?_;refine ncall rfl (lFramed (r:=recL L.tail L.time s) ?hn87 ?ht87 ?fm87 ?fl87) rfl call238 ztk rfl ?_
   case hn87=>exact rdV_in zin rfl rfl
   case ht87=>exact rdV_in zin rfl rfl
   case fm87=>exact hmay
   case fl87=>omega
   rintro v L' ⟨s36,rfl,ok36,rfl⟩;refine⟨zge,?_⟩;rw[show framed (recB (recL L.tail L.time s))=frL L.tail L.time s from rfl]at ok36 ⊢;refine nnil ?_;refine yci (secWrite (bs:=frL L.tail L.time s) ?ok88 ?rd88) call21 ?_
   case ok88=>exact hL.d
   case rd88=>exact rdB_sv zin ok36
   rw[hw];refine gy 3 ?_;exact ksub zsub zge (hJr8 () trivial)
  refine na rfl (ac_bsliceR rfl underlying86 sizeOf9 zeroValue9 rfl rfl rfl rfl ⟨⟨_,_,rfl,(by rfl),(by decide)⟩,trivial⟩ (by dsimp[fillL,splice,vcells,reps]<;>rfl)) rfl ?_;rintro v L' ⟨b34,rfl,rfl⟩;refine⟨zge,?_⟩;refine ncall rfl (lPlace ?pa91 ?pb91 ?pc91 ?pd91 ?pe91 ?pf91) rfl call188 ztk rfl ?_
  case pa91=>omega
  case pb91=>omega
  case pc91=>exact hn2
  case pd91=>exact hn5
  case pe91=>exact hff.1
  case pf91=>exact hf5
  rintro v L' ⟨rfl,rfl⟩;refine⟨zge,?_⟩;refine ncall rfl (lTail ?qz92 ?qa92 ?qb92 ?qc92) rfl call189 ztk rfl ?_
  case qz92=>exact hs
  case qa92=>omega
  case qb92=>omega
  case qc92=>omega
  rintro v L' ⟨rfl,rfl⟩;refine⟨zge,?_⟩;refine na rfl (ac_bsliceR rfl underlying57 sizeOf2 zeroValue2 rfl rfl rfl rfl ⟨⟨_,_,rfl,(by rfl),(by decide)⟩,⟨⟨_,_,rfl,(by rfl),(by decide)⟩,trivial⟩⟩ (by dsimp[fillL,splice,vcells,reps]<;>rfl)) rfl ?_;rintro v L' ⟨b32,rfl,rfl⟩;refine⟨zge,?_⟩;refine nz rfl (ev_be rfl) rfl ?_;refine ncall rfl (lFramed (r:=recL L.tail L.time s) ?hn95 ?ht95 ?fm95 ?fl95) rfl call238 ztk rfl ?_
  case hn95=>exact rdV_in zin rfl rfl
  case ht95=>exact rdV_in zin rfl rfl
  case fm95=>exact hmay
  case fl95=>omega
  rintro v L' ⟨s36,rfl,ok36,rfl⟩;refine⟨zge,?_⟩;rw[show framed (recB (recL L.tail L.time s))=frL L.tail L.time s from rfl]at ok36 ⊢;refine nnil ?_;refine yci (secWrite (bs:=frL L.tail L.time s) ?ok96 ?rd96) call21 ?_
  case ok96=>exact hL.d
  case rd96=>exact rdB_sv zin ok36
  rw[hw];refine gy 3 ?_;exact ksub zsub zge (hJr8 () trivial)
 refine na rfl (ac_bsliceR rfl underlying86 sizeOf9 zeroValue9 rfl rfl rfl rfl ⟨⟨_,_,rfl,(by rfl),(by decide)⟩,trivial⟩ (by dsimp[fillL,splice,vcells,reps]<;>rfl)) rfl ?_;rintro v L' ⟨b34,rfl,rfl⟩;refine⟨zge,?_⟩;refine ncall rfl (lTail ?qz99 ?qa99 ?qb99 ?qc99) rfl call189 ztk rfl ?_
 case qz99=>exact hs
 case qa99=>omega
 case qb99=>omega
 case qc99=>omega
 rintro v L' ⟨rfl,rfl⟩;refine⟨zge,?_⟩;refine ncall rfl (lPlace ?pa100 ?pb100 ?pc100 ?pd100 ?pe100 ?pf100) rfl call188 ztk rfl ?_
 case pa100=>omega
 case pb100=>omega
 case pc100=>exact hn2
 case pd100=>exact hn5
 case pe100=>exact hff.1
 case pf100=>exact hf5
 rintro v L' ⟨rfl,rfl⟩;refine⟨zge,?_⟩;refine ncall rfl (lTail ?qz101 ?qa101 ?qb101 ?qc101) rfl call189 ztk rfl ?_
 case qz101=>exact hs
 case qa101=>omega
 case qb101=>omega
 case qc101=>omega
 rintro v L' ⟨rfl,rfl⟩;refine⟨zge,?_⟩;refine na rfl (ac_bsliceR rfl underlying57 sizeOf2 zeroValue2 rfl rfl rfl rfl ⟨⟨_,_,rfl,(by rfl),(by decide)⟩,⟨⟨_,_,rfl,(by rfl),(by decide)⟩,trivial⟩⟩ (by dsimp[fillL,splice,vcells,reps]<;>rfl)) rfl ?_;rintro v L' ⟨b32,rfl,rfl⟩;refine⟨zge,?_⟩;refine nz rfl (ev_be rfl) rfl ?_;refine ncall rfl (lFramed (r:=recL L.tail L.time s) ?hn104 ?ht104 ?fm104 ?fl104) rfl call238 ztk rfl ?_
 case hn104=>exact rdV_in zin rfl rfl
 case ht104=>exact rdV_in zin rfl rfl
 case fm104=>exact hmay
 case fl104=>omega
 rintro v L' ⟨s36,rfl,ok36,rfl⟩;refine⟨zge,?_⟩;rw[show framed (recB (recL L.tail L.time s))=frL L.tail L.time s from rfl]at ok36 ⊢;refine nnil ?_;refine yci (secWrite (bs:=frL L.tail L.time s) ?ok105 ?rd105) call21 ?_
 case ok105=>exact hL.d
 case rd105=>exact rdB_sv zin ok36
 rw[hw];refine gy 3 ?_;exact ksub zsub zge (hJr8 () trivial)
theorem lTrim [Env]{R:List Seg}{l c:Nat}{q:Q3}{sl:Sv}{L:LogM}{D:Dev}{k:Int}(hL:L.ok D)(hs:itOk sl L):
   Con Tryz.prog 226 [ptr l,i64 k] [logP l c q sl L,itS sl L,celP c q L.c,dev q D] R
     (fun u L'=> ∃sl',u=i64 (L.trim D k).1∧itOk sl' (L.trim D k).2.1∧L'=[logP l c q sl' (L.trim D k).2.1,itS sl' (L.trim D k).2.1,celP c q (L.trim D k).2.1.c,dev q (L.trim D k).2.2]):=by
 have hn5:=LogM.n_le hL;have hl5:=items_len hL;have htm:=hL.time;have hhd:=hL.head;have htl:=hL.tail;have htd:L.tail=L.head+L.l.length:=rfl;have hrd:RdV [itS sl L] (svVal sl L.l.length) L.l.length (itemsV L.l):=rdV_sv .z hs;have hb:L.ok D.barrier.2:=LogM.bar_ok hL;refine con_enter func226 ntmps226 rfl rfl ?_;refine gc 6 ?_;refine cdraw 7 (od [6] 7 0) (_) Tryz.mixed (by kernel_rfl) .refl ?_;refine gh 6 ?_;refine hcall rfl (lTail ?qz8 ?qa8 ?qb8 ?qc8) rfl call189 ztk rfl ?_
 case qz8=>exact hs
 case qa8=>omega
 case qb8=>omega
 case qc8=>omega
 rintro v L' ⟨rfl,rfl⟩;refine⟨zge,?_⟩;refine gh 1 ?_;refine yci (lWithin) call136 ?_;refine gy 3 ?_;refine cc rfl (fun h11=>?_) (fun h11=>?_)
 ·have htr:L.trim D k=(1,L,D):=by unfold LogM.trim;rw[if_pos (by simpa using h11)]
  refine gc 6 ?_;refine kretv results226 rfl (L1:=[logP l c q _ _,itS _ _,celP c q _,dev q _]++R) zge ?_;rw[htr];exact⟨_,⟨sl,rfl,hs,rfl⟩,rfl⟩
 have hwi:within3 k L.head L.tail=true:=by simpa using h11
 obtain⟨hk0,hk1⟩:=within3_iff.1 hwi;have hlo:=leastAt_ok hL hk1;refine gc 5 ?_;refine yci (lSync ?ok14) call207 ?_
 case ok14=>exact hL.d
 refine gy 8 ?_;refine cc rfl (fun h18=>?_) (fun h18=>?_)
 ·have htr:L.trim D k=(D.barrier.1,L,D.barrier.2):=by unfold LogM.trim;rw[if_neg (by rw[hwi];decide),if_pos h18]
  refine gc 7 ?_;refine kretv results226 rfl (L1:=[logP l c q _ _,itS _ _,celP c q _,dev q _]++R) zge ?_;rw[htr];exact⟨_,⟨sl,rfl,hs,rfl⟩,rfl⟩
 obtain⟨w,hw⟩: ∃w,L.c.put D.barrier.2 (recB (headR k L.time (L.leastAt k)))=w:=⟨_,rfl⟩;have hput:L.put D.barrier.2 k (L.leastAt k)=(w.1,{L with c:=w.2.1},w.2.2):=by unfold LogM.put;rw[hw]
 have htr:L.trim D k=(w.1,(if w.1=0 then({L with c:=w.2.1}:LogM).cut k else{L with c:=w.2.1}),w.2.2):=by unfold LogM.trim;rw[if_neg (by rw[hwi];decide),if_neg (by omega),hput]
 refine gc 10 ?_;refine cseqT ?_;intro K10 hK10
 have hJr9: ∀x:Unit,(True)→Sk 76 K10 ([(0,ptr l),(1,i64 k),(6,i64 (L.leastAt k))]) ([logP l c q sl L,itS sl L,celP c q L.c,dev q D.barrier.2]++R):=by
  rintro x hIr9;refine hK10 _ _ ?_;refine gc 4 ?_;refine yci (lPut ?lok29 ?lh29 ?ll29) call138 ?_
  case lok29=>exact hb
  case lh29=>omega
  case ll29=>exact hlo
  rw[hput];refine gy 9 ?_;refine cc rfl (fun h33=>?_) (fun h33=>?_)
  ·rw[if_pos h33]at htr;obtain⟨j,hj⟩: ∃j:Nat,k-L.head=j:=⟨(k-L.head).toNat,by omega⟩;have hdl:(L.l.drop j).length=L.l.length-j:=by simp
   have hcut:({L with c:=w.2.1}:LogM).cut k={L with c:=w.2.1,l:=L.l.drop j,head:=k,least:=L.leastAt k}:=by
     unfold LogM.cut LogM.leastAt;dsimp only;rw[show(k-L.head).toNat=j by omega]
   have hrs:=hrd.sl (svCap hs) (s:=2) (lo:=j) (hi:=L.l.length) (by omega) (Nat.le_refl _) (itemsV_len _);rw[itemsV_drop,←hdl,←itemsV_len,List.take_length]at hrs;refine gc 1 ?_;refine cdraw 15 (od [12] 15 0) (_) Tryz.mixed (by kernel_rfl) .refl ?_;refine gh 11 ?_;rw[wr (by omega) (by omega),hj];refine hr rfl (ev_slLV hrd rfl rfl underlying206 sizeOf211 (by omega) (by omega)) rfl ?_;refine hcall rfl (lClone (xs:=L.l.drop j) ?ci46 ?cj46) rfl call239 ztk rfl ?_
   case ci46=>exact hrs.mono zge
   case cj46=>omega
   rintro v L' ⟨s64,rfl,ok64,rfl⟩;refine⟨zge,?_⟩;refine gh 3 ?_;refine yst (ac_store rfl rfl (by exact svVal_one _ _) sizeOf206 zrp rfl rfl) ?_;refine gy 9 ?_;refine yst (ac_store rfl rfl (by rfl) sizeOf2 zrp rfl rfl) ?_;refine gy 2 ?_;refine yst (ac_store rfl rfl (by rfl) sizeOf2 zrp rfl rfl) ?_;refine gy 8 ?_;refine kretv results226 rfl (L1:=[sc l _ 208,svSeg s64 _ _,celP c q _,dev q w.2.2]++R) zge ?_;rw[htr,hcut];exact⟨_,⟨s64,rfl,ok64,rfl⟩,rfl⟩
  rw[if_neg h33]at htr;refine gc 8 ?_;refine kretv results226 rfl (L1:=[logP l c q sl L,itS sl L,celP c q _,dev q w.2.2]++R) zge ?_;rw[htr];exact⟨_,⟨sl,rfl,hs,rfl⟩,rfl⟩
 clear hK10;refine gc 9 ?_;refine cc rfl (fun h70=>?_) (fun h70=>?_)
 ·obtain⟨j,hj⟩: ∃j:Nat,k-L.head- 1=j:=⟨(k-L.head- 1).toNat,by omega⟩;obtain⟨x,hx⟩: ∃y,L.l[j]? =some y:=⟨_,List.getElem?_eq_getElem (by omega)⟩
  have hla:L.leastAt k=x.2:=by
    unfold LogM.leastAt;rw[if_pos (by omega),show(k-L.head- 1).toNat=j by omega,List.getD_eq_getElem?_getD,hx];rfl
  refine cdraw 14 (od [] 14 0) (_) Tryz.mixed (by kernel_rfl) .refl ?_;refine gh 10 ?_;rw[wr (by omega) (by omega)];refine gh 1 ?_;rw[wr (by omega) (by omega),hj];refine hr rfl (ev_ixV hrd rfl rfl underlying206 sizeOf211 (by omega) (by omega)) rfl ?_;refine gh 1 ?_;refine hr rfl (ev_loadV (j*2+1) hrd zge rfl isAgg2 (by simp;omega) (itemsV_get1 hx)) rfl ?_;refine gh 2 ?_;rw[←hla];refine gy 2 ?_;exact ksub zsub zge (hJr9 () trivial)
 have hla:L.leastAt k=L.least:=by unfold LogM.leastAt;rw[if_neg (by omega)]
 rw[hla]at hJr9;refine gc 2 ?_;exact ksub zsub zge (hJr9 () trivial)
theorem lScan [Env]{R:List Seg}{l c:Nat}{q:Q3}{sl:Sv}{L:LogM}{D:Dev}(hD:D.ok)(hd:D.dead=false)(hs:itOk sl L)(hl0:L.l=[])(hn2:2≤L.n)(hff:0≤L.first∧L.first+L.n≤D.l.length)(hhd:1≤L.head∧L.head≤4611686018427387904):
   Con Tryz.prog 137 [ptr l] [logP l c q sl L,itS sl L,dev q D] R
     (fun u L'=> ∃sl' Z,u= .tuple #[]∧Z={L with l:=scanL D L.first L.n L.time L.n L.head L.least}∧itOk sl' Z∧L'=[logP l c q sl' Z,itS sl' Z,dev q D]):=by
 have hD5:=hD.n;refine con_enter func137 ntmps137 rfl rfl ?_;refine cscope ?_;refine cyn 5 ?_;refine cseq ?_;intro K2 hK2;refine clabel (kthn (hK2 _ _ ?_));clear hK2;refine cyn 5 ?_;refine cblock ?_;refine cloop (A:=Nat × Sv × LogM × Int) (fun x=>[(15,i64 x.1),(14,i64 L.n),(2,i64 x.2.2.2),(0,ptr l)]) (fun x=>[logP l c q x.2.1 x.2.2.1,itS x.2.1 x.2.2.1,dev q D]++R) (fun x=>x.1≤L.n∧itOk x.2.1 x.2.2.1∧x.2.2.1={L with l:=x.2.2.1.l}∧x.2.2.1.l.length=x.1∧scanL D L.first L.n L.time L.n L.head L.least=x.2.2.1.l++scanL D L.first L.n L.time (L.n-x.1) (L.head+x.1) x.2.2.2) (fun x=>L.n-x.1) ((0,sl,L,L.least)) ?_ zsub zge ?_
 · refine⟨Nat.zero_le _,hs,rfl,by rw[hl0];rfl,?_⟩;dsimp only;rw[hl0,List.nil_append,Nat.sub_zero];simp
 rintro⟨k,s,Z,lo⟩ hI1 KL1 hL1;obtain⟨hk,ok,hZ,hlen,hsc⟩:=hI1;dsimp only at hk ok hZ hlen hsc ⊢;refine cyn 1 ?_;refine cseq ?_;intro K5 hK5;refine cc rfl (fun h12=>?_) (fun h12=>?_)
 ·have z1:Z.first=L.first:=by rw[hZ]
  have z2:Z.n=L.n:=by rw[hZ]
  have z3:Z.head=L.head:=by rw[hZ]
  have z4:Z.time=L.time:=by rw[hZ]
  have z5:Z.tail=L.head+k:=by unfold LogM.tail;rw[z3,hlen]
  have hkn:k<L.n:=by omega
  have hpl:Z.place Z.tail=L.first+(L.head+k) % L.n:=by unfold LogM.place;rw[z1,z2,z5]
  have hm:=Int.emod_nonneg (L.head+k) (show(L.n:Int)≠0 by omega);have hm2:=Int.emod_lt_of_pos (L.head+k) (show(0:Int)<L.n by omega);have hh0:D.has (Z.place Z.tail)=0:=by unfold Dev.has;rw[if_neg (by rw[hd];decide),if_neg (by omega)]
  have hsl:(D.sec (Z.place Z.tail)).length=144:=sec_length hD _;obtain⟨f,hf⟩: ∃f,L.n-k=f+1:=⟨L.n-k- 1,by omega⟩;refine cskip' (kthn (hK5 _ _ ?_));clear hK5;refine cseq ?_;intro K6 hK6;refine cblock ?_;refine cseq ?_;intro K7 hK7;refine cdraw 13 (od [6,7,8] 13 0) (_) Tryz.mixed (by kernel_rfl) .refl ?_;refine hy 6 ?_;refine hcall rfl (lTail ?qz19 ?qa19 ?qb19 ?qc19) rfl call189 ztk rfl ?_
  case qz19=>exact ok
  case qa19=>omega
  case qb19=>omega
  case qc19=>omega
  rintro v L' ⟨rfl,rfl⟩;refine⟨zge,?_⟩;refine hcall rfl (lPlace ?pa20 ?pb20 ?pc20 ?pd20 ?pe20 ?pf20) rfl call188 ztk rfl ?_
  case pa20=>omega
  case pb20=>omega
  case pc20=>omega
  case pd20=>omega
  case pe20=>omega
  case pf20=>omega
  rintro v L' ⟨rfl,rfl⟩;refine⟨zge,?_⟩;refine hcall rfl (secReadS hD hh0) rfl call76 ztk rfl ?_;rintro v L' ⟨s26,rfl,ok26,rfl⟩;refine⟨zge,?_⟩;rw[hpl]at ok26 hsl ⊢;generalize hb0:D.sec (L.first+(L.head+(k:Int)) % L.n)=b at*;refine hy 4 ?_;refine hnil ?_;refine yr 1 ?_;refine hnoP' (kthn (hK7 _ _ ?_));clear hK7;refine cy 1 ?_;refine ycall (lRead (bs:=b) ?hb28 ?five28 ?len28) rfl call190 ztk rfl ?_
  case hb28=>exact rdY_sv zin ok26
  case five28=>omega
  case len28=>omega
  rintro v L' ⟨rc31,sn31,st31,rfl,ok31,hrc31,rfl⟩;have okn:=ok31.n;have okt:=ok31.t;unfold recV;have hvt:RdV [svSeg st31 9 (strsV rc31.texts)] (svVal st31 rc31.texts.length) rc31.texts.length (strsV rc31.texts):=rdV_sv .z okt;have hvn:RdV [svSeg sn31 2 (intsV rc31.nums)] (svVal sn31 rc31.nums.length) rc31.nums.length (intsV rc31.nums):=rdV_sv .z okn;refine yr 3 ?_;refine ya (ac_alloc zeroValue88 rfl) rfl ?_;rintro v L' ⟨b5,rfl,rfl⟩;refine yst (ac_storeAll rfl rfl (by(simp only[List.forall_mem_cons,List.not_mem_nil,false_implies,implies_true,svVal_one,and_true,true_and,and_self];first|done|simp[Value.oneCell'])) sizeOf88 zrp (by rfl) (by rfl)) ?_;refine yn 1 ?_;refine cseq ?_;intro K9 hK9;refine cblock ?_;refine cseq ?_;intro K10 hK10;refine cdraw 21 (od [8] 21 0) (_) Tryz.mixed (by kernel_rfl) .refl ?_;refine hy 3 ?_;refine hsp 37 rfl (fun h38=>?_) (fun h38=>?_)
  ·have hfin:Z={L with l:=scanL D L.first L.n L.time L.n L.head L.least}:=by
     rw[hsc,scan_no (by rw[hb0];exact readL_none (by simpa using h38)),List.append_nil];exact hZ
   refine hy 5 ?_;refine ha0 rfl rfl rfl rfl rfl zge ?_;refine hy 12 ?_;refine hnil ?_;refine yr 4 ?_;refine hnoP' (kthn (hK10 _ _ ?_));clear hK10;refine ccond1 rfl ?_;refine cexit (kbp rfl (kthx (kbp rfl (kthx (kthx (kbx (kg rfl ?_)))))));refine kendv0 results137 (L1:=[logP l c q s Z,itS s Z,dev q D]++R) zge ?_;exact⟨_,⟨s,Z,rfl,hfin,ok,rfl⟩,rfl⟩
  have hkok:okL' b=true:=by simpa using h38
  obtain⟨hg1,hg2⟩:=okL_good hkok;have hrl:=readL_some hkok;rw[hrc31 hkok]at hg1 hg2 hrl;rw[←hb0]at hrl;have hx0:rc31.nums[0]? =some (rc31.nums.getD 0 0):=getd_get (by omega);have hx1:rc31.nums[1]? =some (rc31.nums.getD 1 0):=getd_get (by omega);have hxt:rc31.texts[0]? =some (rc31.texts.getD 0 []):=getd_get (by omega);generalize rc31.nums.getD 0 0=y0 at*;generalize rc31.nums.getD 1 0=y1 at*;generalize rc31.texts.getD 0 []=yt at*;refine hy 2 ?_;refine hr1 rfl rfl rfl (ev_ixV hvn rfl rfl underlying57 sizeOf2 (by omega) (by omega)) rfl ?_;refine hr1 rfl rfl rfl (ev_loadV 0 hvn zge rfl isAgg2 rfl (intsV_get hx0)) rfl ?_;refine hy 1 ?_;refine hcall1 rfl rfl rfl (lTail ?qz48 ?qa48 ?qb48 ?qc48) rfl call189 ztk rfl ?_
  case qz48=>exact ok
  case qa48=>omega
  case qb48=>omega
  case qc48=>omega
  rintro v L' ⟨rfl,rfl⟩;refine⟨zge,?_⟩;refine hy 3 ?_;refine hsp 46 rfl (fun h52=>?_) (fun h52=>?_)
  ·have hfin:Z={L with l:=scanL D L.first L.n L.time L.n L.head L.least}:=by
     rw[hsc,scan_bad hrl (by omega),List.append_nil];exact hZ
   refine hy 9 ?_;refine hnil ?_;refine yr 4 ?_;refine hnoP' (kthn (hK10 _ _ ?_));clear hK10;refine ccond1 rfl ?_;refine cexit (kbp rfl (kthx (kbp rfl (kthx (kthx (kbx (kg rfl ?_)))))));refine kendv0 results137 (L1:=[logP l c q s Z,itS s Z,dev q D]++R) zge ?_;exact⟨_,⟨s,Z,rfl,hfin,ok,rfl⟩,rfl⟩
  refine hy 2 ?_;refine hr1 rfl rfl rfl (ev_ixV hvn rfl rfl underlying57 sizeOf2 (by omega) (by omega)) rfl ?_;refine hr1 rfl rfl rfl (ev_loadV 1 hvn zge rfl isAgg2 (by simp) (intsV_get hx1)) rfl ?_;refine hy 5 ?_;refine hnil ?_;refine ygo ?_;refine yci (lWithin) call136 ?_;refine yr 3 ?_;refine hnoP' (kthn (hK10 _ _ ?_));clear hK10;refine cc rfl (fun h68=>?_) (fun h68=>?_)
  ·have hfin:Z={L with l:=scanL D L.first L.n L.time L.n L.head L.least}:=by
     rw[hsc,scan_bad hrl (by intro hc;have hwt:within3 y1 lo Z.time=true:=within3_iff.2 ⟨hc.2.1,by omega⟩;rw[hwt]at h68;exact Bool.noConfusion h68),List.append_nil];exact hZ
   refine cexit (kbp rfl (kthx (kbp rfl (kthx (kthx (kbx (kg rfl ?_)))))));refine kendv0 results137 (L1:=[logP l c q s Z,itS s Z,dev q D]++R) zge ?_;exact⟨_,⟨s,Z,rfl,hfin,ok,rfl⟩,rfl⟩
  obtain⟨hw1,hw2⟩:=within3_iff.1 (show within3 y1 lo Z.time=true by simpa using h68);have hgo:=scan_go (time:=L.time) (f:=f) hrl (by omega) hw1 (by omega);rw[hf,hgo]at hsc;refine cskip' (kbn (kthn (hK9 _ _ ?_)));clear hK9;refine cy 2 ?_;refine y (ev_ixV hvn rfl rfl underlying57 sizeOf2 (by omega) (by omega)) rfl ?_;refine y (ev_loadV 1 hvn zge rfl isAgg2 (by simp) (intsV_get hx1)) rfl ?_;refine yn 1 ?_;refine cdraw 15 (od [11,12] 15 0) ([logP l c q s Z,svSeg st31 9 (strsV rc31.texts),sc b5 [i64 rc31.kind,svVal sn31 rc31.nums.length,svVal st31 rc31.texts.length] 88]++R) Tryz.mixed (by kernel_rfl) zge ?_;refine hy 7 ?_;refine hr rfl (ev_ixV hvt rfl rfl underlying86 sizeOf9 (by omega) (by omega)) rfl ?_;refine hr rfl (ev_loadV 0 hvt zge rfl isAgg9 rfl (strsV_get hxt)) rfl ?_;refine hy 1 ?_;refine hr rfl (ev_be rfl) rfl ?_;refine ha rfl (ac_bsliceR rfl underlying206 sizeOf211 zeroValue211 rfl rfl rfl rfl ⟨⟨_,_,rfl,(by rfl),(by decide)⟩,trivial⟩ (by dsimp[fillL,splice,vcells,reps]<;>rfl)) rfl ?_;rintro v L' ⟨b74,rfl,rfl⟩;refine⟨zge,?_⟩;refine ha rfl (ac_append (s:=s) (xs:=itemsV Z.l) (m:=Z.l.length) (k:=1) (us:=itemsV [(yt,y1)]) (size:=2) rfl rfl (by repeat first|exact .z|apply Pk.s) underlying206 underlying206 (by intro q hq;cases hq) typeInfo211 rfl rfl rfl ?ok86 ?src86 ?one86 ?big86) rfl ?_
  case ok86=>exact ok
  case src86=>exact src_at zin rfl rfl
  case one86=>exact itemsV_one _
  case big86=>show(_+_)*25≤_;omega
  rintro v L' ⟨s75,rfl,ok75,rfl⟩;refine⟨zge,?_⟩;rw[←itemsV_app,show Z.l.length+1=(Z.l++[(yt,y1)]).length by simp]at ok75 ⊢;refine hy 2 ?_;refine hnil ?_;refine yst (ac_store rfl rfl (by exact svVal_one _ _) sizeOf206 zrp rfl rfl) ?_;refine hnoP' (kbn (kthn (hK6 _ _ ?_)));clear hK6;refine cr 1 ?_;rw[show IntKind.i64.wrap ((k:Int)+1)=((k+1:Nat):Int)by rw[wr (by omega) (by omega)];rfl];refine yr 1 ?_;refine ynil' (kthn ?_);exact hL1 ((k+1,s75,{Z with l:=Z.l++[(yt,y1)]},y1)) (⟨by dsimp only;omega,ok75,by dsimp only;rw[hZ],by simp;omega,by dsimp only;rw[hsc,List.append_assoc,List.singleton_append,show L.n-(k+1)=f by omega,show(L.head+((k+1:Nat):Int))=L.head+(k:Int)+1 by omega]⟩) (by dsimp only;omega) _ _ zsub zge
 have hkn:k=L.n:=by omega
 subst hkn;have hfin:Z={L with l:=scanL D L.first L.n L.time L.n L.head L.least}:=by rw[hsc,Nat.sub_self];simp only[scanL,List.append_nil];exact hZ
 refine cexit (kthx (kthx (kbx (kg rfl ?_))));refine kendv0 results137 (L1:=[logP l c q s Z,itS s Z,dev q D]++R) zge ?_;exact⟨_,⟨s,Z,rfl,hfin,ok,rfl⟩,rfl⟩
end W
end Go.Proofs