/- A part of the proof. -/
import Derived.Test.YtlignadmmopdmaaGreatUn
import Derived.Test.YtlignadmmopdmaaGreatT10
import Derived.Test.YtlignadmmopdmaaGreatGC
import Derived.Test.YtlignadmmopdmaaGreatGK
import Derived.Test.YtlignadmmopdmaaGreatGL
set_option linter.unusedVariables false
set_option linter.unusedSimpArgs false
set_option linter.constructorNameAsVariable false
namespace Go.Proofs
open _root_.Go.Proofs.Tryz
open Go Go.Sl
namespace W
abbrev rowV(n b:Nat):Value:= .agg #[i64 n,u64 b]
theorem u64_one(n:Nat)(b:Nat): ∀u∈[i64 (n:Int),u64 b],u.oneCell'=true:=by
 intro u hu;simp at hu;rcases hu with rfl|rfl<;>rfl
theorem xNew [Env]{R:List Seg}{n:Nat}(h:n≤64):Con Tryz.prog 78 [i64 n] [] R (Is (rowV n 0) []):=by
 refine con_enter func78 ntmps78 rfl rfl ?_;refine gc 1 ?_;refine ya (ac_alloc zeroValue140 rfl) rfl ?_;rintro v L' ⟨b2,rfl,rfl⟩;refine gy 7 ?_;refine ysp 5 rfl (fun h5=>?_) (fun h5=>?_)
 ·refine gy 7 ?_;exfalso;omega
 refine gy 5 ?_;refine cc rfl (fun h10=>?_) (fun h10=>?_)
 ·refine gc 1 ?_;exfalso;omega
 refine gc 4 ?_;refine y (ev_bd ([i64 n,u64 0])) rfl ?_;refine yst (ac_storeAll rfl rfl (u64_one _ _) sizeOf140 zrp (by rfl) (by rfl)) ?_;refine gy 3 ?_;refine kretc results78 rfl isAgg140 sizeOf140 zin (rfl) (L1:=[]++R) zge ?_;exact⟨_,⟨rfl,rfl⟩,rfl⟩
theorem xLen [Env]{R:List Seg}{n b:Nat}:Con Tryz.prog 80 [rowV n b] [] R (Is (i64 n) []):=by
 refine con_enter func80 ntmps80 rfl rfl ?_;refine gc 1 ?_;refine ya (ac_box (vs:=[i64 n,u64 b]) rfl rfl) rfl ?_;rintro v L' ⟨b1,rfl,rfl⟩;refine gy 10 ?_;refine kretv results80 rfl (L1:=R) zge ?_;exact⟨_,⟨by rfl,rfl⟩,by rfl⟩
theorem xIn [Env]{R:List Seg}{n b:Nat}{i:Int}:Con Tryz.prog 214 [rowV n b,i64 i] [] R (Is (.bool (inR n i)) []):=by
 refine con_enter func214 ntmps214 rfl rfl ?_;refine gc 1 ?_;refine ya (ac_box (vs:=[i64 n,u64 b]) rfl rfl) rfl ?_;rintro v L' ⟨b2,rfl,rfl⟩;refine gy 7 ?_;refine ysp 7 rfl (fun h24=>?_) (fun h24=>?_)
 ·refine gy 9 ?_;refine kretv results214 rfl (L1:=[]++R) zge ?_;exact⟨_,⟨by unfold inR;(rw[decide_eq_true (show 0≤i by omega)];rfl),rfl⟩,rfl⟩
 refine gy 9 ?_;refine kretv results214 rfl (L1:=[]++R) zge ?_;exact⟨_,⟨by unfold inR;(rw[decide_eq_false (show¬0≤i by omega)];rfl),rfl⟩,rfl⟩
theorem bit_and{b i:Nat}(hb:b<18446744073709551616):decide (bAnd .u64 ((b / 2^i:Nat):Int) 1=1)=b.testBit i:=by
 have:b / 2^i≤b:=Nat.div_le_self _ _;rw[and1_64 (by omega),testBit_mod];rw[decide_eq_decide];omega
theorem xHas [Env]{R:List Seg}{n b:Nat}{i:Int}(hn:n≤64)(hb:b<2^n):Con Tryz.prog 184 [rowV n b,i64 i] [] R (Is (.bool (hasR n b i)) []):=by
 have h64:=pow_le64 hn;refine con_enter func184 ntmps184 rfl rfl ?_;refine gc 1 ?_;refine ya (ac_box (vs:=[i64 n,u64 b]) rfl rfl) rfl ?_;rintro v L' ⟨b2,rfl,rfl⟩;refine gy 4 ?_;refine y (ev_loadN (u:=[i64 n,u64 b]) rfl isAgg140 sizeOf140 zin rfl rfl) rfl ?_;refine gy 1 ?_;refine yci (xIn) call214 ?_;refine gy 1 ?_;refine ysp 8 rfl (fun h39=>?_) (fun h39=>?_)
 ·obtain⟨hi0,hi1⟩:=inR_iff.1 h39;obtain⟨j,rfl⟩: ∃j:Nat,i=j:=⟨i.toNat,by omega⟩;have hh:hasR n b j=b.testBit j:=by unfold hasR;rw[h39,Bool.true_and,Int.toNat_natCast]
  refine gy 3 ?_;refine ygo ?_;refine y (ev_shr rfl rfl (by omega)) rfl ?_;rw[shr_u64 (by omega)];refine ygo ?_;refine y (ev_and rfl rfl) rfl ?_;refine gy 1 ?_;rw[bit_and (by omega)];refine gy 5 ?_;refine kretv results184 rfl (L1:=[]++R) zge ?_;exact⟨_,⟨by rw[hh],rfl⟩,rfl⟩
 have hh:hasR n b i=false:=by unfold hasR;rw[h39];rfl
 refine gy 11 ?_;refine kretv results184 rfl (L1:=[]++R) zge ?_;exact⟨_,⟨by rw[hh],rfl⟩,rfl⟩
theorem xPut [Env]{R:List Seg}{n b:Nat}{i:Int}(hn:n≤64)(hb:b<2^n):Con Tryz.prog 201 [rowV n b,i64 i] [] R (Is (if inR n i=true then .tuple #[rowV n (putR b i),i64 0]else .tuple #[rowV 0 0,i64 2]) []):=by
 have h64:=pow_le64 hn;refine con_enter func201 ntmps201 rfl rfl ?_;refine gc 1 ?_;refine ya (ac_box (vs:=[i64 n,u64 b]) rfl rfl) rfl ?_;rintro v L' ⟨b2,rfl,rfl⟩;refine ya (ac_alloc zeroValue140 rfl) rfl ?_;rintro v L' ⟨b4,rfl,rfl⟩;refine gy 5 ?_;refine y (ev_loadN (u:=[i64 n,u64 b]) rfl isAgg140 sizeOf140 zin rfl rfl) rfl ?_;refine gy 1 ?_;refine yci (xIn) call214 ?_;refine gy 3 ?_;refine cc rfl (fun h57=>?_) (fun h57=>?_)
 ·have hin:inR n i=false:=by simpa using h57
  refine gc 1 ?_;refine y (ev_bd ([i64 (0:Nat),u64 0])) rfl ?_;refine yst (ac_storeAll rfl rfl (u64_one _ _) sizeOf140 zrp (by rfl) (by rfl)) ?_;refine gy 5 ?_;refine kretct results201 rfl rfl isAgg140 sizeOf140 zin (rfl) (L1:=[]++R) zge ?_
  (rw[if_neg (by rw[hin];decide)];exact⟨_,⟨rfl,rfl⟩,rfl⟩)
 have hin:inR n i=true:=by simpa using h57
 obtain⟨hi0,hi1⟩:=inR_iff.1 hin;obtain⟨j,rfl⟩: ∃j:Nat,i=j:=⟨i.toNat,by omega⟩;have hj2:2^j<18446744073709551616:=by have:2^j<2^64:=Nat.pow_lt_pow_right (by omega) (by omega);exact this
 refine gc 3 ?_;refine cdraw 6 (od [] 6 0) (_) Tryz.mixed (by kernel_rfl) .refl ?_;refine gh 3 ?_;refine hr rfl (ev_shl rfl rfl (by omega)) rfl ?_;rw[shl1 (by omega)];refine hr rfl (ev_or rfl rfl) rfl ?_;rw[bOr_u rfl (show b<2^IntKind.u64.bits by show b<18446744073709551616;omega) (show 2^j<2^IntKind.u64.bits from hj2),show((b|||2^j:Nat):Int)=((putR b j:Nat):Int)by unfold putR;rw[Int.toNat_natCast]];refine gh 2 ?_;refine yst (ac_store rfl rfl (by rfl) sizeOf138 zrp rfl rfl) ?_;refine gy 3 ?_;refine y (ev_loadN (u:=[i64 n,u64 (putR b j)]) rfl isAgg140 sizeOf140 zin rfl rfl) rfl ?_;refine yst (ac_storeAll rfl rfl (u64_one _ _) sizeOf140 zrp (by rfl) (by rfl)) ?_;refine gy 4 ?_;refine kretct results201 rfl rfl isAgg140 sizeOf140 zin (rfl) (L1:=[]++R) zge ?_
 (rw[if_pos hin];exact⟨_,⟨rfl,rfl⟩,rfl⟩)
theorem xAll [Env]{R:List Seg}{n b:Nat}(hn:n≤64)(hb:b<2^n):Con Tryz.prog 223 [rowV n b] [] R (KSv 3 (allToB b n).length 1 (intsV (allToB b n)) []):=by
 refine con_enter func223 ntmps223 rfl rfl ?_;refine gc 1 ?_;refine ya (ac_box (vs:=[i64 n,u64 b]) rfl rfl) rfl ?_;rintro v L' ⟨b1,rfl,rfl⟩;refine gy 7 ?_;refine cseqT ?_;intro K3 hK3;refine gc 1 ?_;refine yreP (L':=[sc b1 [i64 n,u64 b] 140,svSeg none 3 (intsV (allToB b 0))]++R) (by simp[svSeg]) ?_;refine gy 5 ?_
 have hJ1: ∀x:Nat × Sv,((x.1≤n∧svOk x.2 (allToB b x.1).length 1 (intsV (allToB b x.1)))∧(x.1=n))→Sk 19 K3 ([(7,i64 x.1),(6,i64 n),(3,svVal x.2 (allToB b x.1).length),(1,ptr b1)]) ([sc b1 [i64 n,u64 b] 140,svSeg x.2 3 (intsV (allToB b x.1))]++R):=by
  rintro⟨k,s⟩ ⟨hI1,hX1⟩;refine hK3 _ _ ?_;obtain⟨hk,ok⟩:=hI1;dsimp only at hk ok ⊢;have hal:=allTo_le b k;dsimp only at hX1;have hx:=hX1.symm;subst hx;refine gc 6 ?_;refine kretv results223 rfl (L1:=[svSeg s 3 (intsV (allToB b _))]++R) zge ?_;exact⟨_,⟨s,rfl,ok,rfl⟩,rfl⟩
 clear hK3;refine gc 1 ?_;refine cloopT (A:=Nat × Sv) (fun x=>[(7,i64 x.1),(6,i64 n),(3,svVal x.2 (allToB b x.1).length),(1,ptr b1)]) (fun x=>[sc b1 [i64 n,u64 b] 140,svSeg x.2 3 (intsV (allToB b x.1))]++R) (fun x=>x.1≤n∧svOk x.2 (allToB b x.1).length 1 (intsV (allToB b x.1))) (fun x=>n-x.1) ((0,none)) ?_ zsub zge ?_
 · exact⟨Nat.zero_le _,rfl,rfl⟩
 rintro⟨k,s⟩ hI1 KL1 hL1;have hI1o:=hI1;obtain⟨hk,ok⟩:=hI1;dsimp only at hk ok ⊢;have hal:=allTo_le b k;refine gc 5 ?_;refine cc rfl (fun h80=>?_) (fun h80=>?_)
 ·refine gc 2 ?_;refine cseqT ?_;intro K8 hK8
  have hJr7: ∀x:Sv,(svOk x (allToB b (k+1)).length 1 (intsV (allToB b (k+1))))→Sk 19 K8 ([(7,i64 k),(6,i64 n),(3,svVal x (allToB b (k+1)).length),(1,ptr b1)]) ([sc b1 [i64 n,u64 b] 140,svSeg x 3 (intsV (allToB b (k+1)))]++R):=by
   rintro s2 hIr7;refine hK8 _ _ ?_;have hk7:k<n:=by omega
   refine gc 2 ?_;rw[show IntKind.i64.wrap ((k:Int)+1)=((k+1:Nat):Int)by rw[wr (by omega) (by omega)];rfl];refine gy 3 ?_;exact hL1 ((k+1,s2)) (⟨by dsimp only;omega,hIr7⟩) (by dsimp only;omega) _ _ zsub zge
  clear hK8;refine gc 7 ?_;refine y (ev_loadN (u:=[i64 n,u64 b]) rfl isAgg140 sizeOf140 zin rfl rfl) rfl ?_;refine gy 1 ?_;refine yci (xHas ?xn87 ?xb87) call184 ?_
  case xn87=>exact hn
  case xb87=>exact hb
  rw[show hasR n b k=b.testBit k by unfold hasR;rw[inR_iff.2 ⟨by omega,by omega⟩,Bool.true_and,Int.toNat_natCast]];refine gy 2 ?_;refine cc rfl (fun h88=>?_) (fun h88=>?_)
  ·have hsu:allToB b (k+1)=allToB b k++[(k:Int)]:=by rw[allToB_succ,if_pos h88]
   refine gc 3 ?_;refine ya (ac_bsliceR rfl underlying73 sizeOf3 zeroValue3 rfl rfl rfl rfl ⟨⟨_,_,rfl,(by rfl),(by decide)⟩,trivial⟩ (by dsimp[fillL,splice,vcells,reps]<;>rfl)) rfl ?_;rintro v L' ⟨b15,rfl,rfl⟩;refine ya (ac_append (s:=s) (xs:=intsV (allToB b k)) (m:=(allToB b k).length) (k:=1) (us:=[i64 k]) (size:=1) rfl rfl (by repeat first|exact .z|apply Pk.s) underlying73 underlying73 (by intro q hq;cases hq) typeInfo3 rfl rfl rfl ?ok92 ?src92 ?one92 ?big92) rfl ?_
   case ok92=>exact ok
   case src92=>exact src_at zin rfl rfl
   case one92=>intro u hu;simp at hu;subst hu;rfl
   case big92=>show(_+_)*9≤_;omega
   rintro v L' ⟨s16,rfl,ok16,rfl⟩;rw[show intsV (allToB b k)++[i64 (k:Int)]=intsV (allToB b (k+1))by rw[hsu];simp[intsV],show(allToB b k).length+1=(allToB b (k+1)).length by rw[hsu];simp]at ok16 ⊢;refine gy 4 ?_;exact ksub zsub zge (hJr7 _ (by assumption))
  have hsu:allToB b (k+1)=allToB b k:=by rw[allToB_succ,if_neg (by rw[h88];decide)]
  rw[←hsu]at ok ⊢;refine gc 3 ?_;exact ksub zsub zge (hJr7 _ (by assumption))
 refine gc 5 ?_;exact ksub zsub zge (hJ1 ⟨k,s⟩ ⟨hI1o,by omega⟩)
theorem xCount [Env]{R:List Seg}{n b:Nat}(hn:n≤64)(hb:b<2^n):Con Tryz.prog 208 [rowV n b] [] R (Is (i64 (allToB b n).length) []):=by
 refine con_enter func208 ntmps208 rfl rfl ?_;refine gc 1 ?_;refine ya (ac_box (vs:=[i64 n,u64 b]) rfl rfl) rfl ?_;rintro v L' ⟨b1,rfl,rfl⟩;refine gy 4 ?_;refine y (ev_loadN (u:=[i64 n,u64 b]) rfl isAgg140 sizeOf140 zin rfl rfl) rfl ?_;refine ycall (xAll ?xn97 ?xb97) rfl call223 ztk rfl ?_
 case xn97=>exact hn
 case xb97=>exact hb
 rintro v L' ⟨s4,rfl,ok4,rfl⟩;refine y (ev_lenSv rfl underlying73 (by assumption)) rfl ?_;refine gy 4 ?_;refine kretv results208 rfl (L1:=R) zge ?_;exact⟨_,⟨by rfl,rfl⟩,by rfl⟩
theorem xText [Env]{R:List Seg}{n b:Nat}(hn:n≤64)(hb:b<2^n):Con Tryz.prog 129 [rowV n b] [] R (Is (str (textR n b)) []):=by
 have h64:=pow_le64 hn;refine con_enter func129 ntmps129 rfl rfl ?_;refine gc 1 ?_;refine ya (ac_box (vs:=[i64 n,u64 b]) rfl rfl) rfl ?_;rintro v L' ⟨b1,rfl,rfl⟩;refine gy 6 ?_;refine y (ev_conv rfl underlying3 underlying5) rfl ?_;rw[wu8,show((n:Nat):Int) % 256=(((UInt8.ofNat n).toNat:Nat):Int)by rw[UInt8.toNat_ofNat'];omega];refine ya (ac_bsliceR rfl underlying55 sizeOf5 zeroValue5 rfl rfl rfl rfl ⟨⟨_,_,rfl,(by rfl),(by decide)⟩,trivial⟩ (by dsimp[fillL,splice,vcells,reps]<;>rfl)) rfl ?_;rintro v L' ⟨b8,rfl,rfl⟩;refine gy 3 ?_;refine cseqT ?_;intro K3 hK3;refine gc 4 ?_
 have hJ1: ∀x:Nat × Sv,((x.1≤rowN n∧svOk x.2 (1+x.1) 1 (bytesV (UInt8.ofNat n::loB x.1 b)))∧(x.1=rowN n))→Sk 25 K3 ([(4,i64 ((8*x.1:Nat):Int)),(3,svVal x.2 (1+x.1)),(1,ptr b1)]) ([sc b1 [i64 n,u64 b] 140,svSeg x.2 5 (bytesV (UInt8.ofNat n::loB x.1 b))]++R):=by
  rintro⟨k,s⟩ ⟨hI1,hX1⟩;refine hK3 _ _ ?_;obtain⟨hk,ok⟩:=hI1;dsimp only at hk ok ⊢;have hr8:rowN n≤8:=by unfold rowN;omega
  dsimp only at hX1;subst hX1;refine gc 1 ?_;have hte:textR n b=UInt8.ofNat n::loB (rowN n) b:=rfl;rw[←hte,show 1+rowN n=(textR n b).length by rw[textR_len]]at ok ⊢;refine gy 1 ?_;refine y (ev_toStrB (rdY_sv (L:=[svSeg s 5 (bytesV (textR n b))]) .z ok).rd.bytes zge rfl underlying55 underlying9 underlying5) rfl ?_;refine gy 4 ?_;refine kretv results129 rfl (L1:=R) zge ?_;exact⟨_,⟨by rfl,rfl⟩,by rfl⟩
 clear hK3;refine gc 1 ?_;refine cloopT (A:=Nat × Sv) (fun x=>[(4,i64 ((8*x.1:Nat):Int)),(3,svVal x.2 (1+x.1)),(1,ptr b1)]) (fun x=>[sc b1 [i64 n,u64 b] 140,svSeg x.2 5 (bytesV (UInt8.ofNat n::loB x.1 b))]++R) (fun x=>x.1≤rowN n∧svOk x.2 (1+x.1) 1 (bytesV (UInt8.ofNat n::loB x.1 b))) (fun x=>rowN n-x.1) ((0,some (b8,1,[]))) ?_ zsub zge ?_
 · exact⟨Nat.zero_le _,⟨Nat.le_refl _,by decide,rfl,rfl⟩⟩
 rintro⟨k,s⟩ hI1 KL1 hL1;have hI1o:=hI1;obtain⟨hk,ok⟩:=hI1;dsimp only at hk ok ⊢;have hr8:rowN n≤8:=by unfold rowN;omega
 refine gc 8 ?_;refine cc rfl (fun h16=>?_) (fun h16=>?_)
 ·refine gc 9 ?_;refine y (ev_shr rfl rfl (by omega)) rfl ?_;rw[shr_u64 (by omega)];refine y (ev_conv rfl underlying138 underlying5) rfl ?_;rw[wu8,show((b / 2^(8*k):Nat):Int) % 256=(((UInt8.ofNat (b / 2^(8*k) % 256)).toNat:Nat):Int)by rw[UInt8.toNat_ofNat'];omega];refine ya (ac_bsliceR rfl underlying55 sizeOf5 zeroValue5 rfl rfl rfl rfl ⟨⟨_,_,rfl,(by rfl),(by decide)⟩,trivial⟩ (by dsimp[fillL,splice,vcells,reps]<;>rfl)) rfl ?_;rintro v L' ⟨b21,rfl,rfl⟩;refine ya (ac_append (s:=s) (xs:=bytesV (UInt8.ofNat n::loB k b)) (m:=1+k) (k:=1) (us:=bytesV [UInt8.ofNat (b / 2^(8*k) % 256)]) (size:=1) rfl rfl (by repeat first|exact .z|apply Pk.s) underlying55 underlying55 (by intro q hq;cases hq) typeInfo5 rfl rfl rfl ?ok24 ?src24 ?one24 ?big24) rfl ?_
  case ok24=>exact ok
  case src24=>exact src_at zin rfl rfl
  case one24=>exact bytesV_one _
  case big24=>show(_+_)*2≤_;omega
  rintro v L' ⟨s22,rfl,ok22,rfl⟩;rw[←bytesV_append,List.cons_append,←loB_snoc,show 1+k+1=1+(k+1)by omega]at ok22 ⊢;refine gy 7 ?_;rw[wr (by omega) (by omega),show((8*k:Nat):Int)+8=((8*(k+1):Nat):Int)by omega];refine gy 3 ?_;exact hL1 ((k+1,s22)) (⟨by dsimp only;unfold rowN at*;omega,ok22⟩) (by dsimp only;unfold rowN at*;omega) _ _ zsub zge
 refine gc 5 ?_;exact ksub zsub zge (hJ1 ⟨k,s⟩ ⟨hI1o,by dsimp only;unfold rowN at*;omega⟩)
theorem xLoad [Env]{R:List Seg}{t:Bytes}(ht:t.length≤1000):Con Tryz.prog 79 [str t] [] R (Is (.tuple #[rowV (loadP t).1 (loadP t).2.1,i64 (loadP t).2.2]) []):=by
 refine con_enter func79 ntmps79 rfl rfl ?_;refine gc 1 ?_;refine ya (ac_alloc zeroValue140 rfl) rfl ?_;rintro v L' ⟨b2,rfl,rfl⟩;refine gy 6 ?_;refine y (ev_eqlL rfl rfl) rfl ?_;refine gy 1 ?_;refine ysp 8 rfl (fun h34=>?_) (fun h34=>?_)
 ·have hlp:loadP t=(0,0,4):=by have h0:t=[]:=(by simpa using h34);rw[h0];rfl
  refine gy 8 ?_;refine y (ev_bd ([i64 (0:Nat),u64 0])) rfl ?_;refine yst (ac_storeAll rfl rfl (u64_one _ _) sizeOf140 zrp (by rfl) (by rfl)) ?_;refine gy 5 ?_;refine kretct results79 rfl rfl isAgg140 sizeOf140 zin (rfl) (L1:=[]++R) zge ?_;rw[hlp];exact⟨_,⟨rfl,rfl⟩,rfl⟩
 obtain⟨x,r,rfl⟩: ∃x r,t=x::r:=by
   cases t with
   |nil=>simp at h34
   |cons x r=>exact⟨x,r,rfl⟩
 have hx8:=x.toNat_lt;refine gy 1 ?_;refine ygo ?_;refine y (ev_ixB (u:=x) rfl rfl underlying9 (by decide) rfl) rfl ?_;refine gy 4 ?_;refine cc rfl (fun h43=>?_) (fun h43=>?_)
 ·have hlp:loadP (x::r)=(0,0,4):=loadP_big (by omega);refine gc 1 ?_;refine y (ev_bd ([i64 (0:Nat),u64 0])) rfl ?_;refine yst (ac_storeAll rfl rfl (u64_one _ _) sizeOf140 zrp (by rfl) (by rfl)) ?_;refine gy 5 ?_;refine kretct results79 rfl rfl isAgg140 sizeOf140 zin (rfl) (L1:=[]++R) zge ?_;rw[hlp];exact⟨_,⟨rfl,rfl⟩,rfl⟩
 refine gc 4 ?_;refine y (ev_ixB (u:=x) rfl rfl underlying9 (by decide) rfl) rfl ?_;refine y (ev_conv rfl underlying5 underlying3) rfl ?_;rw[wr (by omega) (by omega)];refine yci (xNew (n:=x.toNat) ?xn50) call78 ?_
 case xn50=>omega
 refine ya (ac_alloc zeroValue140 rfl) rfl ?_;rintro v L' ⟨b4,rfl,rfl⟩;refine yst (ac_storeAll rfl rfl (u64_one _ _) sizeOf140 zrp (by rfl) (by rfl)) ?_;refine gy 5 ?_;refine y (ev_lenStr rfl underlying9) rfl ?_;refine gy 3 ?_;refine y (ev_quo rfl rfl (by decide)) rfl ?_;refine gy 1 ?_;rw[show IntKind.i64.wrap (1+IntKind.i64.wrap ((IntKind.i64.wrap (((x.toNat:Nat):Int)+7)).tdiv 8))=((1+rowN x.toNat:Nat):Int)by rw[wr (x:=((x.toNat:Nat):Int)+7) (by omega) (by omega),Int.tdiv_eq_ediv_of_nonneg (by omega),wr (x:=(((x.toNat:Nat):Int)+7) / 8) (by omega) (by omega),wr (by omega) (by omega)];unfold rowN;omega];refine gy 3 ?_;refine cc rfl (fun h61=>?_) (fun h61=>?_)
 ·have hlp:loadP (x::r)=(0,0,4):=loadP_len (by omega) (by simp only[List.length_cons]at h61;omega);refine gc 1 ?_;refine y (ev_bd ([i64 (0:Nat),u64 0])) rfl ?_;refine yst (ac_storeAll rfl rfl (u64_one _ _) sizeOf140 zrp (by rfl) (by rfl)) ?_;refine gy 5 ?_;refine kretct results79 rfl rfl isAgg140 sizeOf140 zin (rfl) (L1:=[]++R) zge ?_;rw[hlp];exact⟨_,⟨rfl,rfl⟩,rfl⟩
 have hrl:r.length=rowN x.toNat:=by simp only[List.length_cons]at h61;omega
 have hr8:rowN x.toNat≤8:=by unfold rowN;omega
 refine gc 2 ?_;refine cseqT ?_;intro K10 hK10;refine gc 2 ?_;refine y (ev_lenStr rfl underlying9) rfl ?_;refine gy 1 ?_;rw[show IntKind.i64.wrap ((((x::r).length:Nat):Int)- 1)=((r.length:Nat):Int)by rw[wr (by simp only[List.length_cons]at*;omega) (by simp only[List.length_cons]at*;omega)];simp only[List.length_cons];omega];refine gy 3 ?_
 have hJ1: ∀x_:Nat,((x_≤r.length)∧(x_=r.length))→Sk 59 K10 ([(30,i64 x_),(29,i64 r.length),(4,ptr b4),(2,ptr b2),(0,str (x::r))]) ([sc b4 [i64 x.toNat,u64 (loV (r.take x_))] 140,sc b2 [i64 (0:Nat),u64 0] 140]++R):=by
  rintro k ⟨hI1,hX1⟩;refine hK10 _ _ ?_;have hk:=hI1;rw[hX1,List.take_length];refine gc 2 ?_
  have hlv:loV r<18446744073709551616:=by
    have h1:=loV_lt r;rw[pow256]at h1;have:2^(8*r.length)≤2^64:=Nat.pow_le_pow_right (by omega) (by omega);exact Nat.lt_of_lt_of_le h1 this
  refine gy 4 ?_;refine ysp 49 rfl (fun h73=>?_) (fun h73=>?_)
  ·refine gy 4 ?_;refine ygo ?_;refine y (ev_shr rfl rfl (by omega)) rfl ?_;rw[shr_u64 (by omega)];refine gy 4 ?_;refine cc rfl (fun h81=>?_) (fun h81=>?_)
   ·refine gc 1 ?_;have hlp:loadP (x::r)=(0,0,4):=loadP_odd (by omega) hrl ⟨by omega,by omega⟩;refine y (ev_bd ([i64 (0:Nat),u64 0])) rfl ?_;refine yst (ac_storeAll rfl rfl (u64_one _ _) sizeOf140 zrp (by rfl) (by rfl)) ?_;refine gy 5 ?_;refine kretct results79 rfl rfl isAgg140 sizeOf140 zin (rfl) (L1:=[]++R) zge ?_;rw[hlp];exact⟨_,⟨rfl,rfl⟩,rfl⟩
   refine gc 3 ?_;have hlp:loadP (x::r)=(x.toNat,loV r,0):=loadP_ok (by omega) hrl (by omega);refine y (ev_loadN (u:=[i64 x.toNat,u64 (loV r)]) rfl isAgg140 sizeOf140 zin rfl rfl) rfl ?_;refine yst (ac_storeAll rfl rfl (u64_one _ _) sizeOf140 zrp (by rfl) (by rfl)) ?_;refine gy 4 ?_;refine kretct results79 rfl rfl isAgg140 sizeOf140 zin (rfl) (L1:=[]++R) zge ?_;rw[hlp];exact⟨_,⟨rfl,rfl⟩,rfl⟩
  refine gy 13 ?_;have hlp:loadP (x::r)=(x.toNat,loV r,0):=loadP_ok (by omega) hrl (by omega);refine y (ev_loadN (u:=[i64 x.toNat,u64 (loV r)]) rfl isAgg140 sizeOf140 zin rfl rfl) rfl ?_;refine yst (ac_storeAll rfl rfl (u64_one _ _) sizeOf140 zrp (by rfl) (by rfl)) ?_;refine gy 4 ?_;refine kretct results79 rfl rfl isAgg140 sizeOf140 zin (rfl) (L1:=[]++R) zge ?_;rw[hlp];exact⟨_,⟨rfl,rfl⟩,rfl⟩
 clear hK10;refine gc 1 ?_;refine cloopT (A:=Nat) (fun x_=>[(30,i64 x_),(29,i64 r.length),(4,ptr b4),(2,ptr b2),(0,str (x::r))]) (fun x_=>[sc b4 [i64 x.toNat,u64 (loV (r.take x_))] 140,sc b2 [i64 (0:Nat),u64 0] 140]++R) (fun x_=>x_≤r.length) (fun x_=>r.length-x_) (0) ?_ zsub zge ?_
 · exact Nat.zero_le _
 rintro k hI1 KL1 hL1;have hI1o:=hI1;have hk:=hI1;refine gc 5 ?_;refine cc rfl (fun h93=>?_) (fun h93=>?_)
 ·refine gc 9 ?_;refine cdraw 12 (od [] 12 0) (_) Tryz.mixed (by kernel_rfl) .refl ?_;obtain⟨y0,hy0⟩: ∃y,r[k]? =some y:=⟨_,List.getElem?_eq_getElem (by omega)⟩;have hy8:=y0.toNat_lt;have hlt:=loV_take_lt r k;have hlt2:=loV_take_lt r (k+1);have hk2:=loV_take hy0;have h264:2^(8*(k+1))≤18446744073709551616:=by have:2^(8*(k+1))≤2^64:=Nat.pow_le_pow_right (by omega) (by omega);exact this
  refine gh 5 ?_;rw[wr (by omega) (by omega),show((k:Nat):Int)+1=((k+1:Nat):Int)by omega];refine hr rfl (ev_ixB (u:=y0) rfl rfl underlying9 (by omega) (by rw[Int.toNat_natCast];exact hy0)) rfl ?_;refine hr rfl (ev_conv rfl underlying5 underlying138) rfl ?_;rw[wu64,show((y0.toNat:Nat):Int) % 18446744073709551616=((y0.toNat:Nat):Int)by omega];refine gh 1 ?_;refine hr rfl (ev_mul rfl rfl) rfl ?_;rw[wr (by omega) (by omega),show(8:Int)*(k:Int)=((8*k:Nat):Int)by omega];refine hr rfl (ev_shl rfl rfl (by omega)) rfl ?_;rw[show IntKind.u64.wrap (((y0.toNat:Nat):Int)*2^(min (((8*k:Nat):Int)).toNat IntKind.u64.bits))=((y0.toNat*2^(8*k):Nat):Int)by rw[show min (((8*k:Nat):Int)).toNat IntKind.u64.bits=8*k by simp[IntKind.bits];omega,wu64,show((y0.toNat:Nat):Int)*(2:Int)^(8*k)=((y0.toNat*2^(8*k):Nat):Int)by simp];generalize y0.toNat*2^(8*k)=z at*;omega];refine hr rfl (ev_or rfl rfl) rfl ?_;rw[orShift hlt (by omega) (by omega),←hk2];refine gh 2 ?_;refine yst (ac_store rfl rfl (by rfl) sizeOf138 zrp rfl rfl) ?_;refine gy 5 ?_;rw[show IntKind.i64.wrap ((k:Int)+1)=((k+1:Nat):Int)by rw[wr (by omega) (by omega)];rfl];refine gy 3 ?_;exact hL1 (k+1) (by omega) (by omega) _ _ zsub zge
 refine gc 5 ?_;exact ksub zsub zge (hJ1 k ⟨hI1o,by omega⟩)
def drlP(l c:Nat)(L:DrlM):Seg:=sc l [ptr c,i64 L.n,i64 (regs L.n),u64 L.bits] 143
theorem dIn [Env]{R:List Seg}{l c:Nat}{L:DrlM}{i:Int}:Con Tryz.prog 183 [ptr l,i64 i] [drlP l c L] R (Is (.bool (inR L.n i)) [drlP l c L]):=by
 unfold drlP;refine con_enter func183 ntmps183 rfl rfl ?_;refine gc 8 ?_;refine ysp 7 rfl (fun h5=>?_) (fun h5=>?_)
 ·refine gy 11 ?_;refine kretv results183 rfl (L1:=[sc l _ 143]++R) zge ?_;exact⟨_,⟨by unfold inR;(rw[decide_eq_true (show 0≤i by omega)];rfl),rfl⟩,rfl⟩
 refine gy 11 ?_;refine kretv results183 rfl (L1:=[sc l _ 143]++R) zge ?_;exact⟨_,⟨by unfold inR;(rw[decide_eq_false (show¬0≤i by omega)];rfl),rfl⟩,rfl⟩
theorem dHas [Env]{R:List Seg}{l c:Nat}{L:DrlM}{i:Int}(hn:1≤L.n∧L.n≤32)(hb:L.bits<2^regs L.n)(h1: -9223372036854775808≤i)(h2:i≤9223372036854775807):Con Tryz.prog 122 [ptr l,i64 i] [drlP l c L] R (Is (.bool (L.has i)) [drlP l c L]):=by
 have hreg:=regs_le hn;refine con_enter func122 ntmps122 rfl rfl ?_;refine gc 7 ?_;refine yci (dIn) call183 ?_;refine gy 1 ?_;refine ysp 8 rfl (fun h21=>?_) (fun h21=>?_)
 ·obtain⟨hi0,hi1⟩:=inR_iff.1 h21;have hh:L.has i=hasR (regs L.n) L.bits (i / 4):=by unfold DrlM.has;rw[h21,Bool.true_and]
  unfold drlP;refine gy 3 ?_;refine ygo ?_;refine y (ev_loadN (u:=[i64 (regs L.n),u64 L.bits]) rfl isAgg140 sizeOf140 zin rfl rfl) rfl ?_;refine gy 1 ?_;refine ygo ?_;refine y (ev_quo rfl rfl (by decide)) rfl ?_;rw[Int.tdiv_eq_ediv_of_nonneg hi0,wr (by omega) (by omega)];refine ygo ?_;refine yci (xHas ?xn28 ?xb28) call184 ?_
  case xn28=>omega
  case xb28=>exact hb
  refine gy 5 ?_;refine kretv results122 rfl (L1:=[drlP l c L]++R) zge ?_;exact⟨_,⟨by rw[hh],rfl⟩,rfl⟩
 have hh:L.has i=false:=by unfold DrlM.has;rw[h21];rfl
 refine gy 12 ?_;refine kretv results122 rfl (L1:=[drlP l c L]++R) zge ?_;exact⟨_,⟨by rw[hh],rfl⟩,rfl⟩
theorem dRow [Env]{R:List Seg}{l c:Nat}{L:DrlM}:Con Tryz.prog 128 [ptr l] [drlP l c L] R (Is (rowV (regs L.n) L.bits) [drlP l c L]):=by
 unfold drlP;refine con_enter func128 ntmps128 rfl rfl ?_;refine gc 1 ?_;refine ya (ac_alloc zeroValue140 rfl) rfl ?_;rintro v L' ⟨b2,rfl,rfl⟩;refine gy 6 ?_;refine y (ev_loadN (u:=[i64 (regs L.n),u64 L.bits]) rfl isAgg140 sizeOf140 zin rfl rfl) rfl ?_;refine yst (ac_storeAll rfl rfl (u64_one _ _) sizeOf140 zrp (by rfl) (by rfl)) ?_;refine gy 3 ?_;refine kretc results128 rfl isAgg140 sizeOf140 zin (rfl) (L1:=[sc l _ 143]++R) zge ?_;exact⟨_,⟨rfl,rfl⟩,rfl⟩
theorem dSet [Env]{R:List Seg}{l c:Nat}{q:Q3}{L:DrlM}{D:Dev}{n b:Nat}(hL:L.ok D)(hn:n=regs L.n)(hb:b<2^regs L.n):Con Tryz.prog 202 [ptr l,rowV n b] [drlP l c L,celP c q L.c,dev q D] R (Is (i64 (L.set D b).1) [drlP l c (L.set D b).2.1,celP c q (L.set D b).2.1.c,dev q (L.set D b).2.2]):=by
 subst hn;have hreg:=regs_le hL.n;have hset:L.set D b=((L.c.put D (textR (regs L.n) b)).1,{L with c:=(L.c.put D (textR (regs L.n) b)).2.1,bits:=if(L.c.put D (textR (regs L.n) b)).1=0 then b else L.bits},(L.c.put D (textR (regs L.n) b)).2.2):=rfl;refine con_enter func202 ntmps202 rfl rfl ?_;unfold drlP;refine gc 1 ?_;refine ya (ac_box (vs:=[i64 (regs L.n),u64 b]) rfl rfl) rfl ?_;rintro v L' ⟨b3,rfl,rfl⟩;refine gy 4 ?_;refine cdraw 6 (od [5] 6 0) ([sc l _ 143,sc b3 [i64 (regs L.n),u64 b] 140]++R) Tryz.mixed (by kernel_rfl) zge ?_;refine gh 4 ?_;refine hr rfl (ev_loadN (u:=[i64 (regs L.n),u64 b]) rfl isAgg140 sizeOf140 zin rfl rfl) rfl ?_;refine hcall rfl (xText ?xn46 ?xb46) rfl call129 ztk rfl ?_
 case xn46=>omega
 case xb46=>exact hb
 rintro v L' ⟨rfl,rfl⟩;refine⟨zge,?_⟩;refine gh 1 ?_;refine yci (cPut ?cok47 ?ok47) call57 ?_
 case cok47=>exact hL.c
 case ok47=>exact hL.d
 obtain⟨r,hr0⟩: ∃r,L.c.put D (textR (regs L.n) b)=r:=⟨_,rfl⟩;rw[hr0]at hset ⊢;refine gy 9 ?_;refine cc rfl (fun h51=>?_) (fun h51=>?_)
 ·rw[if_pos h51]at hset;refine gc 2 ?_;refine y (ev_loadN (u:=[i64 (regs L.n),u64 b]) rfl isAgg140 sizeOf140 zin rfl rfl) rfl ?_;refine gy 2 ?_;refine yst (ac_storeN rfl rfl (u64_one _ _) sizeOf140 zrp rfl (by simp) rfl) ?_;refine gy 8 ?_;refine kretv results202 rfl (L1:=[sc l _ 143,celP c q _,dev q _]++R) zge ?_;rw[hset];exact⟨_,⟨rfl,rfl⟩,rfl⟩
 rw[if_neg h51]at hset;refine gc 8 ?_;refine kretv results202 rfl (L1:=[sc l _ 143,celP c q _,dev q _]++R) zge ?_;rw[hset];exact⟨_,⟨rfl,rfl⟩,rfl⟩
theorem dMark [Env]{R:List Seg}{l c:Nat}{q:Q3}{L:DrlM}{D:Dev}{i:Int}(hL:L.ok D)(h1: -9223372036854775808≤i)(h2:i≤9223372036854775807):Con Tryz.prog 156 [ptr l,i64 i] [drlP l c L,celP c q L.c,dev q D] R (Is (i64 (L.mark D i).1) [drlP l c (L.mark D i).2.1,celP c q (L.mark D i).2.1.c,dev q (L.mark D i).2.2]):=by
 have hreg:=regs_le hL.n;refine con_enter func156 ntmps156 rfl rfl ?_;refine gc 9 ?_;refine yci (dIn) call183 ?_;refine gy 4 ?_;refine cc rfl (fun h67=>?_) (fun h67=>?_)
 ·have hin:inR L.n i=false:=by simpa using h67
  have hmk:L.mark D i=(2,L,D):=by unfold DrlM.mark;rw[if_pos hin]
  refine gc 7 ?_;refine kretv results156 rfl (L1:=[drlP l c _,celP c q _,dev q _]++R) zge ?_;rw[hmk];exact⟨_,⟨rfl,rfl⟩,rfl⟩
 have hin:inR L.n i=true:=by simpa using h67
 obtain⟨hi0,hi1⟩:=inR_iff.1 hin;refine gc 3 ?_;refine yci (dHas ?dn71 ?db71 ?di71 ?dj71) call122 ?_
 case dn71=>exact hL.n
 case db71=>exact hL.bits
 case di71=>omega
 case dj71=>omega
 refine gy 3 ?_;refine cc rfl (fun h73=>?_) (fun h73=>?_)
 ·have hmk:L.mark D i=(0,L,D):=by unfold DrlM.mark;rw[if_neg (by rw[hin];decide),if_pos h73]
  refine gc 7 ?_;refine kretv results156 rfl (L1:=[drlP l c _,celP c q _,dev q _]++R) zge ?_;rw[hmk];exact⟨_,⟨rfl,rfl⟩,rfl⟩
 have hmk:L.mark D i=L.set D (putR L.bits (i / 4)):=by unfold DrlM.mark;rw[if_neg (by rw[hin];decide),if_neg (by rw[h73];decide)]
 unfold drlP;refine gc 7 ?_;refine y (ev_loadN (u:=[i64 (regs L.n),u64 L.bits]) rfl isAgg140 sizeOf140 zin rfl rfl) rfl ?_;refine gy 1 ?_;refine y (ev_quo rfl rfl (by decide)) rfl ?_;rw[Int.tdiv_eq_ediv_of_nonneg hi0,wr (by omega) (by omega)];refine yci (xPut ?xn81 ?xb81) call201 ?_
 case xn81=>omega
 case xb81=>exact hL.bits
 rw[if_pos (inR_reg hin)];refine gy 3 ?_;refine ya (ac_alloc zeroValue140 rfl) rfl ?_;rintro v L' ⟨b5,rfl,rfl⟩;refine yst (ac_storeAll rfl rfl (u64_one _ _) sizeOf140 zrp (by rfl) (by rfl)) ?_;refine gy 5 ?_;refine y (ev_loadN (u:=[i64 (regs L.n),u64 (putR L.bits (i / 4))]) rfl isAgg140 sizeOf140 zin rfl rfl) rfl ?_;refine yci (dSet (L:=L) (n:=regs L.n) (b:=putR L.bits (i / 4)) hL rfl (putR_lt hL.bits (inR_reg hin))) call202 ?_;refine gy 4 ?_;refine kretv results156 rfl (L1:=[drlP l c _,celP c q _,dev q _]++R) zge ?_;rw[hmk];exact⟨_,⟨rfl,rfl⟩,rfl⟩
theorem dClear [Env]{R:List Seg}{l c:Nat}{q:Q3}{L:DrlM}{D:Dev}(hL:L.ok D):Con Tryz.prog 162 [ptr l] [drlP l c L,celP c q L.c,dev q D] R (Is (i64 (L.clear D).1) [drlP l c (L.clear D).2.1,celP c q (L.clear D).2.1.c,dev q (L.clear D).2.2]):=by
 have hreg:=regs_le hL.n;have hcz:=count_zero hL.bits;refine con_enter func162 ntmps162 rfl rfl ?_;unfold drlP;refine gc 9 ?_;refine y (ev_loadN (u:=[i64 (regs L.n),u64 L.bits]) rfl isAgg140 sizeOf140 zin rfl rfl) rfl ?_;refine yci (xCount ?xn97 ?xb97) call208 ?_
 case xn97=>omega
 case xb97=>exact hL.bits
 refine gy 3 ?_;refine cc rfl (fun h99=>?_) (fun h99=>?_)
 ·have hcl:L.clear D=(0,L,D):=by unfold DrlM.clear;rw[if_pos (hcz.1 (by omega))]
  refine gc 6 ?_;refine kretv results162 rfl (L1:=[drlP l c _,celP c q _,dev q _]++R) zge ?_;rw[hcl];exact⟨_,⟨rfl,rfl⟩,rfl⟩
 have hcl:L.clear D=L.set D 0:=by unfold DrlM.clear;rw[if_neg (fun e=>by have:=hcz.2 e;omega)]
 refine gc 7 ?_;refine y (ev_loadN (u:=[i64 (regs L.n),u64 L.bits]) rfl isAgg140 sizeOf140 zin rfl rfl) rfl ?_;refine yci (xLen) call80 ?_;refine yci (xNew (n:=regs L.n) ?xn107) call78 ?_
 case xn107=>omega
 refine yci (dSet (L:=L) (n:=regs L.n) (b:=0) hL rfl (Nat.two_pow_pos _)) call202 ?_;refine gy 4 ?_;refine kretv results162 rfl (L1:=[drlP l c _,celP c q _,dev q _]++R) zge ?_;rw[hcl];exact⟨_,⟨rfl,rfl⟩,rfl⟩
theorem dBlocks [Env]{R:List Seg}{l c:Nat}{L:DrlM}(hn:1≤L.n∧L.n≤32)(hb:L.bits<2^regs L.n):Con Tryz.prog 65 [ptr l] [drlP l c L] R (KSv 3 L.blks.length 1 (intsV L.blks) [drlP l c L]):=by
 refine con_enter func65 ntmps65 rfl rfl ?_;refine gc 8 ?_;refine cseqT ?_;intro K3 hK3;refine gc 1 ?_;unfold drlP;refine gy 5 ?_;refine yreP (L':=[drlP l c L,svSeg none 3 (intsV (blksTo L 0))]++R) (by simp[svSeg,drlP]) ?_;refine gy 2 ?_
 have hJ1: ∀x:Nat × Sv,((x.1≤L.n∧svOk x.2 (blksTo L x.1).length 1 (intsV (blksTo L x.1)))∧(x.1=L.n))→Sk 21 K3 ([(9,i64 x.1),(8,i64 L.n),(3,svVal x.2 (blksTo L x.1).length),(0,ptr l)]) ([drlP l c L,svSeg x.2 3 (intsV (blksTo L x.1))]++R):=by
  rintro⟨k,s⟩ ⟨hI1,hX1⟩;refine hK3 _ _ ?_;obtain⟨hk,ok⟩:=hI1;dsimp only at hk ok ⊢;have hal:=blksTo_le L k;dsimp only at hX1;subst hX1;refine gc 6 ?_;refine kretv results65 rfl (L1:=[svSeg s 3 (intsV (blksTo L _)),drlP l c L]++R) zge ?_;exact⟨_,⟨s,rfl,ok,rfl⟩,rfl⟩
 clear hK3;refine gc 1 ?_;refine cloopT (A:=Nat × Sv) (fun x=>[(9,i64 x.1),(8,i64 L.n),(3,svVal x.2 (blksTo L x.1).length),(0,ptr l)]) (fun x=>[drlP l c L,svSeg x.2 3 (intsV (blksTo L x.1))]++R) (fun x=>x.1≤L.n∧svOk x.2 (blksTo L x.1).length 1 (intsV (blksTo L x.1))) (fun x=>L.n-x.1) ((0,none)) ?_ zsub zge ?_
 · exact⟨Nat.zero_le _,rfl,rfl⟩
 rintro⟨k,s⟩ hI1 KL1 hL1;have hI1o:=hI1;obtain⟨hk,ok⟩:=hI1;dsimp only at hk ok ⊢;have hal:=blksTo_le L k;refine gc 5 ?_;refine cc rfl (fun h120=>?_) (fun h120=>?_)
 ·refine gc 2 ?_;refine cseqT ?_;intro K8 hK8
  have hJr7: ∀x:Sv,(svOk x (blksTo L (k+1)).length 1 (intsV (blksTo L (k+1))))→Sk 21 K8 ([(9,i64 k),(8,i64 L.n),(3,svVal x (blksTo L (k+1)).length),(0,ptr l)]) ([drlP l c L,svSeg x 3 (intsV (blksTo L (k+1)))]++R):=by
   rintro s2 hIr7;refine hK8 _ _ ?_;have hk7:k<L.n:=by omega
   refine gc 2 ?_;rw[show IntKind.i64.wrap ((k:Int)+1)=((k+1:Nat):Int)by rw[wr (by omega) (by omega)];rfl];refine gy 3 ?_;exact hL1 ((k+1,s2)) (⟨by dsimp only;omega,hIr7⟩) (by dsimp only;omega) _ _ zsub zge
  clear hK8;refine gc 9 ?_;refine yci (dHas ?dn127 ?db127 ?di127 ?dj127) call122 ?_
  case dn127=>exact hn
  case db127=>exact hb
  case di127=>omega
  case dj127=>omega
  refine gy 2 ?_;refine cc rfl (fun h128=>?_) (fun h128=>?_)
  ·have hsu:blksTo L (k+1)=blksTo L k++[(k:Int)]:=by rw[blksTo_succ,if_pos h128]
   refine gc 3 ?_;refine ya (ac_bsliceR rfl underlying73 sizeOf3 zeroValue3 rfl rfl rfl rfl ⟨⟨_,_,rfl,(by rfl),(by decide)⟩,trivial⟩ (by dsimp[fillL,splice,vcells,reps]<;>rfl)) rfl ?_;rintro v L' ⟨b17,rfl,rfl⟩;refine ya (ac_append (s:=s) (xs:=intsV (blksTo L k)) (m:=(blksTo L k).length) (k:=1) (us:=[i64 k]) (size:=1) rfl rfl (by repeat first|exact .z|apply Pk.s) underlying73 underlying73 (by intro q hq;cases hq) typeInfo3 rfl rfl rfl ?ok132 ?src132 ?one132 ?big132) rfl ?_
   case ok132=>exact ok
   case src132=>exact src_at zin rfl rfl
   case one132=>intro u hu;simp at hu;subst hu;rfl
   case big132=>show(_+_)*9≤_;omega
   rintro v L' ⟨s18,rfl,ok18,rfl⟩;rw[show intsV (blksTo L k)++[i64 (k:Int)]=intsV (blksTo L (k+1))by rw[hsu];simp[intsV],show(blksTo L k).length+1=(blksTo L (k+1)).length by rw[hsu];simp]at ok18 ⊢;refine gy 4 ?_;exact ksub zsub zge (hJr7 _ (by assumption))
  have hsu:blksTo L (k+1)=blksTo L k:=by rw[blksTo_succ,if_neg (by rw[h128];decide)]
  rw[←hsu]at ok ⊢;refine gc 3 ?_;exact ksub zsub zge (hJr7 _ (by assumption))
 refine gc 5 ?_;exact ksub zsub zge (hJ1 ⟨k,s⟩ ⟨hI1o,by omega⟩)
def KDOpen(D:Dev)(a b nb:Int)(q:Q3)(u:Value)(L':List Seg):Prop:=
 (drlE D a b nb≠0∧u= .tuple #[nilP,i64 (drlE D a b nb)]∧L'=[dev q D])∨(drlE D a b nb=0∧ ∃l c,u= .tuple #[ptr l,i64 0]∧L'=[drlP l c (drlO D a b nb.toNat),celP c q (openC D a b),dev q D])
theorem dOpen [Env]{R:List Seg}{q:Q3}{D:Dev}{a b nb:Int}(hD:D.ok):Con Tryz.prog 44 [dp q,i64 a,i64 b,i64 nb] [dev q D] R (KDOpen D a b nb q):=by
 refine con_enter func44 ntmps44 rfl rfl ?_;refine gc 10 ?_;refine ysp 17 rfl (fun h139=>?_) (fun h139=>?_)
 ·refine gy 7 ?_;have hwe:drlE D a b nb=1:=by unfold drlE;rw[if_pos (by omega)]
  refine gy 6 ?_;refine kretv2 results44 rfl rfl (L1:=[dev q D]++R) zge ?_;exact⟨_,.inl ⟨by rw[hwe];decide,by rw[hwe],rfl⟩,rfl⟩
 refine gy 5 ?_;refine cc rfl (fun h146=>?_) (fun h146=>?_)
 ·refine gc 1 ?_;have hwe:drlE D a b nb=1:=by unfold drlE;rw[if_pos (by omega)]
  refine gy 6 ?_;refine kretv2 results44 rfl rfl (L1:=[dev q D]++R) zge ?_;exact⟨_,.inl ⟨by rw[hwe];decide,by rw[hwe],rfl⟩,rfl⟩
 refine gc 3 ?_;have hwe:drlE D a b nb=openE D a b:=by unfold drlE;rw[if_neg (by omega)]
 obtain⟨n,rfl⟩: ∃n:Nat,nb=n:=⟨nb.toNat,by omega⟩;have hn:1≤n∧n≤32:=by omega
 have hreg:=regs_le hn;refine gy 3 ?_;refine ycall (cOpen hD) rfl call43 ztk rfl ?_;rintro v L' hop;rcases hop with⟨he0,rfl,rfl⟩|⟨he0,c21,rfl,rfl⟩
 ·refine gy 11 ?_
  try rw[show(!decide (openE D a b=0))=true by simp[he0]]
  refine gy 11 ?_;refine kretv2 results44 rfl rfl (L1:=[dev q D]++R) zge ?_;exact⟨_,.inl ⟨by rw[hwe];assumption,by rw[hwe],rfl⟩,rfl⟩
 refine gy 11 ?_
 try rw[show(!decide (openE D a b=0))=true by simp[he0]]
 refine gy 6 ?_;have hcl:=(openC_ok he0).1.text;refine gy 4 ?_;rw[wr (by omega) (by omega)];refine gy 1 ?_;rw[wr (by omega) (by omega)];refine y (ev_quo rfl rfl (by decide)) rfl ?_;rw[Int.tdiv_eq_ediv_of_nonneg (by omega),wr (by omega) (by omega),show((n:Int)+4- 1) / 4=((regs n:Nat):Int)by unfold regs;omega];refine yci (xNew (n:=regs n) ?xn176) call78 ?_
 case xn176=>omega
 refine y (ev_bd ([ptr c21,i64 n,i64 (regs n),u64 0])) rfl ?_;refine ya (ac_box (vs:=[ptr c21,i64 n,i64 (regs n),u64 0]) rfl rfl) rfl ?_;rintro v L' ⟨b39,rfl,rfl⟩;refine gy 9 ?_;refine yci (cGet) call48 ?_;refine yci (xLoad ?xt185) call79 ?_
 case xt185=>omega
 have hlw:=loadP_wf (openC D a b).text;have hro:rowOfT (regs n) (openC D a b).text=if(loadP (openC D a b).text).2.2=0∧(loadP (openC D a b).text).1=regs n then(loadP (openC D a b).text).2.1 else 0:=rfl
 generalize loadP (openC D a b).text=lp at*;obtain⟨n2,b2,e2⟩:=lp;dsimp only at hlw hro ⊢;refine gy 3 ?_;refine ya (ac_alloc zeroValue140 rfl) rfl ?_;rintro v L' ⟨b13,rfl,rfl⟩;refine yst (ac_storeAll rfl rfl (u64_one _ _) sizeOf140 zrp (by rfl) (by rfl)) ?_;refine gy 4 ?_;refine cdraw 9 [(0,true),(1,true),(2,true),(3,true),(5,true),(6,true),(7,true),(8,true),(4,false)] (_) Tryz.mixed (by kernel_rfl) .refl ?_;refine gh 3 ?_;refine hsp 51 rfl (fun h195=>?_) (fun h195=>?_)
 ·refine hr1 rfl rfl rfl (ev_loadN (u:=[i64 n2,u64 b2]) rfl isAgg140 sizeOf140 zin rfl rfl) rfl ?_;refine gh 3 ?_;refine hr1 rfl rfl rfl (ev_loadN (u:=[i64 (regs n),u64 0]) rfl isAgg140 sizeOf140 zin rfl rfl) rfl ?_;refine hcall1 rfl rfl rfl (xLen) rfl call80 ztk rfl ?_;rintro v L' ⟨rfl,rfl⟩;refine⟨zge,?_⟩;refine gh 1 ?_;refine ygo ?_;refine yci (xLen) call80 ?_;refine gy 4 ?_;refine cc rfl (fun h205=>?_) (fun h205=>?_)
  ·refine gc 1 ?_;obtain rfl:n2=regs n:=by omega
   rw[if_pos ⟨by omega,rfl⟩]at hro;refine gy 1 ?_;refine y (ev_loadN (u:=[i64 (regs n),u64 b2]) rfl isAgg140 sizeOf140 zin rfl rfl) rfl ?_;refine gy 2 ?_;refine yst (ac_storeN rfl rfl (u64_one _ _) sizeOf140 zrp rfl (by simp) rfl) ?_;refine gy 9 ?_;refine kretv2 results44 rfl rfl (L1:=[sc b39 _ 143,celP c21 q (openC D a b),dev q D]++R) zge ?_
   (try rw[if_neg (by omega)]at hro);exact⟨_,.inr ⟨by rw[hwe];exact he0,b39,c21,rfl,by unfold drlP drlO;rw[Int.toNat_natCast,hro];try rfl⟩,rfl⟩
  refine gc 9 ?_;refine kretv2 results44 rfl rfl (L1:=[sc b39 _ 143,celP c21 q (openC D a b),dev q D]++R) zge ?_
  (try rw[if_neg (by omega)]at hro);exact⟨_,.inr ⟨by rw[hwe];exact he0,b39,c21,rfl,by unfold drlP drlO;rw[Int.toNat_natCast,hro];try rfl⟩,rfl⟩
 refine gh 5 ?_;refine ha0 rfl rfl rfl rfl rfl zge ?_;refine gh 16 ?_;refine kretv2 results44 rfl rfl (L1:=[sc b39 _ 143,celP c21 q (openC D a b),dev q D]++R) zge ?_
 (try rw[if_neg (by omega)]at hro);exact⟨_,.inr ⟨by rw[hwe];exact he0,b39,c21,rfl,by unfold drlP drlO;rw[Int.toNat_natCast,hro];try rfl⟩,rfl⟩
end W
end Go.Proofs