/- A part of the proof. -/
import Derived.Test.YtlignadmmopdmaaGreatUn
import Derived.Test.YtlignadmmopdmaaGreatGI
import Derived.Test.YtlignadmmopdmaaGreatGC
import Derived.Test.YtlignadmmopdmaaGreatNodA
import Derived.Test.YtlignadmmopdmaaGreatGL
set_option linter.unusedVariables false
set_option linter.unusedSimpArgs false
set_option linter.constructorNameAsVariable false
namespace Go.Proofs
open _root_.Go.Proofs.Tryz
open Go Go.Sl
namespace W
abbrev uT(n b:Nat):Value:= .agg #[i64 n,u64 b]
theorem gf(n:Nat)(b:Nat): ∀u∈[i64 (n:Int),u64 b],u.oneCell'=true:=by
 intro u hu;simp at hu;rcases hu with rfl|rfl<;>rfl
theorem adw [Env]{R:List ax}{n:Nat}(h:n≤64):bC Tryz.prog 78 [i64 n] [] R (Is (uT n 0) []):=by
 refine ag func78 ntmps78 rfl rfl ?_;refine gc 1 ?_;refine ya (aB zeroValue140 rfl) rfl ?_;rintro v L' ⟨b2,rfl,rfl⟩;refine gy 7 ?_;refine cv 5 rfl (fun h5=>?_) (fun h5=>?_)
 ·refine gy 7 ?_;exfalso;omega
 refine gy 5 ?_;refine cc rfl (fun Ha=>?_) (fun Ha=>?_)
 ·refine gc 1 ?_;exfalso;omega
 refine gc 4 ?_;refine y (cA ([i64 n,u64 0])) rfl ?_;refine bA (ai rfl rfl (gf _ _) sizeOf140 bc (by rfl) (by rfl)) ?_;refine gy 3 ?_;refine yk results78 rfl isAgg140 sizeOf140 aL (rfl) (L1:=[]++R) ae ?_;exact⟨_,⟨rfl,rfl⟩,rfl⟩
theorem Si [Env]{R:List ax}{n b:Nat}:bC Tryz.prog 80 [uT n b] [] R (Is (i64 n) []):=by
 refine ag func80 ntmps80 rfl rfl ?_;refine gc 1 ?_;refine ya (a7 (vs:=[i64 n,u64 b]) rfl rfl) rfl ?_;rintro v L' ⟨b1,rfl,rfl⟩;refine gy 10 ?_;refine aj results80 rfl (L1:=R) ae ?_;exact⟨_,⟨by rfl,rfl⟩,by rfl⟩
theorem xIn [Env]{R:List ax}{n b:Nat}{i:Int}:bC Tryz.prog 214 [uT n b,i64 i] [] R (Is (.bool (zF n i)) []):=by
 refine ag func214 ntmps214 rfl rfl ?_;refine gc 1 ?_;refine ya (a7 (vs:=[i64 n,u64 b]) rfl rfl) rfl ?_;rintro v L' ⟨b2,rfl,rfl⟩;refine gy 7 ?_;refine cv 7 rfl (fun Tz=>?_) (fun Tz=>?_)
 ·refine gy 9 ?_;refine aj results214 rfl (L1:=[]++R) ae ?_;exact⟨_,⟨by unfold zF;(rw[decide_eq_true (show 0≤i by omega)];rfl),rfl⟩,rfl⟩
 refine gy 9 ?_;refine aj results214 rfl (L1:=[]++R) ae ?_;exact⟨_,⟨by unfold zF;(rw[decide_eq_false (show¬0≤i by omega)];rfl),rfl⟩,rfl⟩
theorem S6{b i:Nat}(hb:b<18446744073709551616):decide (qX .u64 ((b / 2^i:Nat):Int) 1=1)=b.testBit i:=by
 have:b / 2^i≤b:=Nat.div_le_self _ _;rw[se (by omega),FT];rw[decide_eq_decide];omega
theorem adv [Env]{R:List ax}{n b:Nat}{i:Int}(hn:n≤64)(hb:b<2^n):bC Tryz.prog 184 [uT n b,i64 i] [] R (Is (.bool (sN n b i)) []):=by
 have Lg:=yN hn;refine ag func184 ntmps184 rfl rfl ?_;refine gc 1 ?_;refine ya (a7 (vs:=[i64 n,u64 b]) rfl rfl) rfl ?_;rintro v L' ⟨b2,rfl,rfl⟩;refine gy 4 ?_;refine y (ay (u:=[i64 n,u64 b]) rfl isAgg140 sizeOf140 aL rfl rfl) rfl ?_;refine gy 1 ?_;refine bK (xIn) call214 ?_;refine gy 1 ?_;refine cv 8 rfl (fun Dd=>?_) (fun Dd=>?_)
 ·obtain⟨HA,oO⟩:=mq.1 Dd;obtain⟨j,rfl⟩: ∃j:Nat,i=j:=⟨i.toNat,by omega⟩;have hh:sN n b j=b.testBit j:=by unfold sN;rw[Dd,Bool.true_and,Int.toNat_natCast]
  refine gy 3 ?_;refine bV ?_;refine y (iI rfl rfl (by omega)) rfl ?_;rw[CZ (by omega)];refine bV ?_;refine y (kR rfl rfl) rfl ?_;refine gy 1 ?_;rw[S6 (by omega)];refine gy 5 ?_;refine aj results184 rfl (L1:=[]++R) ae ?_;exact⟨_,⟨by rw[hh],rfl⟩,rfl⟩
 have hh:sN n b i=false:=by unfold sN;rw[Dd];rfl
 refine gy 11 ?_;refine aj results184 rfl (L1:=[]++R) ae ?_;exact⟨_,⟨by rw[hh],rfl⟩,rfl⟩
theorem aty [Env]{R:List ax}{n b:Nat}{i:Int}(hn:n≤64)(hb:b<2^n):bC Tryz.prog 201 [uT n b,i64 i] [] R (Is (if zF n i=true then .tuple #[uT n (CL b i),i64 0]else .tuple #[uT 0 0,i64 2]) []):=by
 have Lg:=yN hn;refine ag func201 ntmps201 rfl rfl ?_;refine gc 1 ?_;refine ya (a7 (vs:=[i64 n,u64 b]) rfl rfl) rfl ?_;rintro v L' ⟨b2,rfl,rfl⟩;refine ya (aB zeroValue140 rfl) rfl ?_;rintro v L' ⟨b4,rfl,rfl⟩;refine gy 5 ?_;refine y (ay (u:=[i64 n,u64 b]) rfl isAgg140 sizeOf140 aL rfl rfl) rfl ?_;refine gy 1 ?_;refine bK (xIn) call214 ?_;refine gy 3 ?_;refine cc rfl (fun Jt=>?_) (fun Jt=>?_)
 ·have ee:zF n i=false:=by simpa using Jt
  refine gc 1 ?_;refine y (cA ([i64 (0:Nat),u64 0])) rfl ?_;refine bA (ai rfl rfl (gf _ _) sizeOf140 bc (by rfl) (by rfl)) ?_;refine gy 5 ?_;refine cx results201 rfl rfl isAgg140 sizeOf140 aL (rfl) (L1:=[]++R) ae ?_
  (rw[if_neg (by rw[ee];decide)];exact⟨_,⟨rfl,rfl⟩,rfl⟩)
 have ee:zF n i=true:=by simpa using Jt
 obtain⟨HA,oO⟩:=mq.1 ee;obtain⟨j,rfl⟩: ∃j:Nat,i=j:=⟨i.toNat,by omega⟩;have Zi:2^j<18446744073709551616:=by have:2^j<2^64:=Nat.pow_lt_pow_right (by omega) (by omega);exact this
 refine gc 3 ?_;refine aS 6 (od [] 6 0) (_) Tryz.mixed (by kernel_rfl) .refl ?_;refine gh 3 ?_;refine hr rfl (j5 rfl rfl (by omega)) rfl ?_;rw[asU (by omega)];refine hr rfl (m8 rfl rfl) rfl ?_;rw[Au rfl (show b<2^IntKind.u64.bits by show b<18446744073709551616;omega) (show 2^j<2^IntKind.u64.bits from Zi),show((b|||2^j:Nat):Int)=((CL b j:Nat):Int)by unfold CL;rw[Int.toNat_natCast]];refine gh 2 ?_;refine bA (an rfl rfl (by rfl) sizeOf138 bc rfl rfl) ?_;refine gy 3 ?_;refine y (ay (u:=[i64 n,u64 (CL b j)]) rfl isAgg140 sizeOf140 aL rfl rfl) rfl ?_;refine bA (ai rfl rfl (gf _ _) sizeOf140 bc (by rfl) (by rfl)) ?_;refine gy 4 ?_;refine cx results201 rfl rfl isAgg140 sizeOf140 aL (rfl) (L1:=[]++R) ae ?_
 (rw[if_pos ee];exact⟨_,⟨rfl,rfl⟩,rfl⟩)
theorem atx [Env]{R:List ax}{n b:Nat}(hn:n≤64)(hb:b<2^n):bC Tryz.prog 223 [uT n b] [] R (zx 3 (cN b n).length 1 (aW (cN b n)) []):=by
 refine ag func223 ntmps223 rfl rfl ?_;refine gc 1 ?_;refine ya (a7 (vs:=[i64 n,u64 b]) rfl rfl) rfl ?_;rintro v L' ⟨b1,rfl,rfl⟩;refine gy 7 ?_;refine bq ?_;intro K3 pD;refine gc 1 ?_;refine VU (L':=[sc b1 [i64 n,u64 b] 140,aD none 3 (aW (cN b 0))]++R) (by simp[aD]) ?_;refine gy 5 ?_
 have fQ: ∀x:Nat × Sv,((x.1≤n∧bW x.2 (cN b x.1).length 1 (aW (cN b x.1)))∧(x.1=n))→Sk 19 K3 ([(7,i64 x.1),(6,i64 n),(3,aG x.2 (cN b x.1).length),(1,ptr b1)]) ([sc b1 [i64 n,u64 b] 140,aD x.2 3 (aW (cN b x.1))]++R):=by
  rintro⟨k,s⟩ ⟨bJ,eK⟩;refine pD _ _ ?_;obtain⟨hk,ok⟩:=bJ;dsimp only at hk ok ⊢;have zT:=xi b k;dsimp only at eK;have hx:=eK.symm;subst hx;refine gc 6 ?_;refine aj results223 rfl (L1:=[aD s 3 (aW (cN b _))]++R) ae ?_;exact⟨_,⟨s,rfl,ok,rfl⟩,rfl⟩
 clear pD;refine gc 1 ?_;refine bO (A:=Nat × Sv) (fun x=>[(7,i64 x.1),(6,i64 n),(3,aG x.2 (cN b x.1).length),(1,ptr b1)]) (fun x=>[sc b1 [i64 n,u64 b] 140,aD x.2 3 (aW (cN b x.1))]++R) (fun x=>x.1≤n∧bW x.2 (cN b x.1).length 1 (aW (cN b x.1))) (fun x=>n-x.1) ((0,none)) ?_ aq ae ?_
 · exact⟨Nat.zero_le _,rfl,rfl⟩
 rintro⟨k,s⟩ bJ kt cI;have cC:=bJ;obtain⟨hk,ok⟩:=bJ;dsimp only at hk ok ⊢;have zT:=xi b k;refine gc 5 ?_;refine cc rfl (fun Dg=>?_) (fun Dg=>?_)
 ·refine gc 2 ?_;refine bq ?_;intro K8 qN
  have pC: ∀x:Sv,(bW x (cN b (k+1)).length 1 (aW (cN b (k+1))))→Sk 19 K8 ([(7,i64 k),(6,i64 n),(3,aG x (cN b (k+1)).length),(1,ptr b1)]) ([sc b1 [i64 n,u64 b] 140,aD x 3 (aW (cN b (k+1)))]++R):=by
   rintro s2 B1;refine qN _ _ ?_;have hk7:k<n:=by omega
   refine gc 2 ?_;rw[show IntKind.i64.wrap ((k:Int)+1)=((k+1:Nat):Int)by rw[wr (by omega) (by omega)];rfl];refine gy 3 ?_;exact cI ((k+1,s2)) (⟨by dsimp only;omega,B1⟩) (by dsimp only;omega) _ _ aq ae
  clear qN;refine gc 7 ?_;refine y (ay (u:=[i64 n,u64 b]) rfl isAgg140 sizeOf140 aL rfl rfl) rfl ?_;refine gy 1 ?_;refine bK (adv ?atJ ?atD) call184 ?_
  case atJ=>exact hn
  case atD=>exact hb
  rw[show sN n b k=b.testBit k by unfold sN;rw[mq.2 ⟨by omega,by omega⟩,Bool.true_and,Int.toNat_natCast]];refine gy 2 ?_;refine cc rfl (fun AI=>?_) (fun AI=>?_)
  ·have iP:cN b (k+1)=cN b k++[(k:Int)]:=by rw[o8,if_pos AI]
   refine gc 3 ?_;refine ya (aE rfl underlying73 sizeOf3 zeroValue3 rfl rfl rfl rfl ⟨⟨_,_,rfl,(by rfl),(by decide)⟩,trivial⟩ (by dsimp[bt,aX,aY,bS]<;>rfl)) rfl ?_;rintro v L' ⟨b15,rfl,rfl⟩;refine ya (aO (s:=s) (xs:=aW (cN b k)) (m:=(cN b k).length) (k:=1) (us:=[i64 k]) (size:=1) rfl rfl (by repeat first|exact .z|apply Pk.s) underlying73 underlying73 (by intro q hq;cases hq) typeInfo3 rfl rfl rfl ?aa6 ?alW ?ake ?aee) rfl ?_
   case aa6=>exact ok
   case alW=>exact cz aL rfl rfl
   case ake=>intro u hu;simp at hu;subst hu;rfl
   case aee=>show(_+_)*9≤_;omega
   rintro v L' ⟨s16,rfl,Ir,rfl⟩;rw[show aW (cN b k)++[i64 (k:Int)]=aW (cN b (k+1))by rw[iP];simp[aW],show(cN b k).length+1=(cN b (k+1)).length by rw[iP];simp]at Ir ⊢;refine gy 4 ?_;exact aV aq ae (pC _ (by assumption))
  have iP:cN b (k+1)=cN b k:=by rw[o8,if_neg (by rw[AI];decide)]
  rw[←iP]at ok ⊢;refine gc 3 ?_;exact aV aq ae (pC _ (by assumption))
 refine gc 5 ?_;exact aV aq ae (fQ ⟨k,s⟩ ⟨cC,by omega⟩)
theorem adu [Env]{R:List ax}{n b:Nat}(hn:n≤64)(hb:b<2^n):bC Tryz.prog 208 [uT n b] [] R (Is (i64 (cN b n).length) []):=by
 refine ag func208 ntmps208 rfl rfl ?_;refine gc 1 ?_;refine ya (a7 (vs:=[i64 n,u64 b]) rfl rfl) rfl ?_;rintro v L' ⟨b1,rfl,rfl⟩;refine gy 4 ?_;refine y (ay (u:=[i64 n,u64 b]) rfl isAgg140 sizeOf140 aL rfl rfl) rfl ?_;refine aA (atx ?ady ?adx) rfl call223 aZ rfl ?_
 case ady=>exact hn
 case adx=>exact hb
 rintro v L' ⟨s4,rfl,ok4,rfl⟩;refine y (bH rfl underlying73 (by assumption)) rfl ?_;refine gy 4 ?_;refine aj results208 rfl (L1:=R) ae ?_;exact⟨_,⟨by rfl,rfl⟩,by rfl⟩
theorem Xe [Env]{R:List ax}{n b:Nat}(hn:n≤64)(hb:b<2^n):bC Tryz.prog 129 [uT n b] [] R (Is (str (iC n b)) []):=by
 have Lg:=yN hn;refine ag func129 ntmps129 rfl rfl ?_;refine gc 1 ?_;refine ya (a7 (vs:=[i64 n,u64 b]) rfl rfl) rfl ?_;rintro v L' ⟨b1,rfl,rfl⟩;refine gy 6 ?_;refine y (aR rfl underlying3 underlying5) rfl ?_;rw[r4,show((n:Nat):Int) % 256=(((UInt8.ofNat n).toNat:Nat):Int)by rw[UInt8.toNat_ofNat'];omega];refine ya (aE rfl underlying55 sizeOf5 zeroValue5 rfl rfl rfl rfl ⟨⟨_,_,rfl,(by rfl),(by decide)⟩,trivial⟩ (by dsimp[bt,aX,aY,bS]<;>rfl)) rfl ?_;rintro v L' ⟨b8,rfl,rfl⟩;refine gy 3 ?_;refine bq ?_;intro K3 pD;refine gc 4 ?_
 have fQ: ∀x:Nat × Sv,((x.1≤jI n∧bW x.2 (1+x.1) 1 (av (UInt8.ofNat n::H0 x.1 b)))∧(x.1=jI n))→Sk 25 K3 ([(4,i64 ((8*x.1:Nat):Int)),(3,aG x.2 (1+x.1)),(1,ptr b1)]) ([sc b1 [i64 n,u64 b] 140,aD x.2 5 (av (UInt8.ofNat n::H0 x.1 b))]++R):=by
  rintro⟨k,s⟩ ⟨bJ,eK⟩;refine pD _ _ ?_;obtain⟨hk,ok⟩:=bJ;dsimp only at hk ok ⊢;have hr8:jI n≤8:=by unfold jI;omega
  dsimp only at eK;subst eK;refine gc 1 ?_;have hte:iC n b=UInt8.ofNat n::H0 (jI n) b:=rfl;rw[←hte,show 1+jI n=(iC n b).length by rw[Bp]]at ok ⊢;refine gy 1 ?_;refine y (jq (pT (L:=[aD s 5 (av (iC n b))]) .z ok).rd.bytes ae rfl underlying55 underlying9 underlying5) rfl ?_;refine gy 4 ?_;refine aj results129 rfl (L1:=R) ae ?_;exact⟨_,⟨by rfl,rfl⟩,by rfl⟩
 clear pD;refine gc 1 ?_;refine bO (A:=Nat × Sv) (fun x=>[(4,i64 ((8*x.1:Nat):Int)),(3,aG x.2 (1+x.1)),(1,ptr b1)]) (fun x=>[sc b1 [i64 n,u64 b] 140,aD x.2 5 (av (UInt8.ofNat n::H0 x.1 b))]++R) (fun x=>x.1≤jI n∧bW x.2 (1+x.1) 1 (av (UInt8.ofNat n::H0 x.1 b))) (fun x=>jI n-x.1) ((0,some (b8,1,[]))) ?_ aq ae ?_
 · exact⟨Nat.zero_le _,⟨Nat.le_refl _,by decide,rfl,rfl⟩⟩
 rintro⟨k,s⟩ bJ kt cI;have cC:=bJ;obtain⟨hk,ok⟩:=bJ;dsimp only at hk ok ⊢;have hr8:jI n≤8:=by unfold jI;omega
 refine gc 8 ?_;refine cc rfl (fun nf=>?_) (fun nf=>?_)
 ·refine gc 9 ?_;refine y (iI rfl rfl (by omega)) rfl ?_;rw[CZ (by omega)];refine y (aR rfl underlying138 underlying5) rfl ?_;rw[r4,show((b / 2^(8*k):Nat):Int) % 256=(((UInt8.ofNat (b / 2^(8*k) % 256)).toNat:Nat):Int)by rw[UInt8.toNat_ofNat'];omega];refine ya (aE rfl underlying55 sizeOf5 zeroValue5 rfl rfl rfl rfl ⟨⟨_,_,rfl,(by rfl),(by decide)⟩,trivial⟩ (by dsimp[bt,aX,aY,bS]<;>rfl)) rfl ?_;rintro v L' ⟨b21,rfl,rfl⟩;refine ya (aO (s:=s) (xs:=av (UInt8.ofNat n::H0 k b)) (m:=1+k) (k:=1) (us:=av [UInt8.ofNat (b / 2^(8*k) % 256)]) (size:=1) rfl rfl (by repeat first|exact .z|apply Pk.s) underlying55 underlying55 (by intro q hq;cases hq) typeInfo5 rfl rfl rfl ?yI ?alI ?aj0 ?ad0) rfl ?_
  case yI=>exact ok
  case alI=>exact cz aL rfl rfl
  case aj0=>exact cL _
  case ad0=>show(_+_)*2≤_;omega
  rintro v L' ⟨s22,rfl,ajc,rfl⟩;rw[←dD,List.cons_append,←EV,show 1+k+1=1+(k+1)by omega]at ajc ⊢;refine gy 7 ?_;rw[wr (by omega) (by omega),show((8*k:Nat):Int)+8=((8*(k+1):Nat):Int)by omega];refine gy 3 ?_;exact cI ((k+1,s22)) (⟨by dsimp only;unfold jI at*;omega,ajc⟩) (by dsimp only;unfold jI at*;omega) _ _ aq ae
 refine gc 5 ?_;exact aV aq ae (fQ ⟨k,s⟩ ⟨cC,by dsimp only;unfold jI at*;omega⟩)
theorem Xd [Env]{R:List ax}{t:Bytes}(ht:t.length≤1000):bC Tryz.prog 79 [str t] [] R (Is (.tuple #[uT (dJ t).1 (dJ t).2.1,i64 (dJ t).2.2]) []):=by
 refine ag func79 ntmps79 rfl rfl ?_;refine gc 1 ?_;refine ya (aB zeroValue140 rfl) rfl ?_;rintro v L' ⟨b2,rfl,rfl⟩;refine gy 6 ?_;refine y (Jn rfl rfl) rfl ?_;refine gy 1 ?_;refine cv 8 rfl (fun Eh=>?_) (fun Eh=>?_)
 ·have rv:dJ t=(0,0,4):=by have h0:t=[]:=(by simpa using Eh);rw[h0];rfl
  refine gy 8 ?_;refine y (cA ([i64 (0:Nat),u64 0])) rfl ?_;refine bA (ai rfl rfl (gf _ _) sizeOf140 bc (by rfl) (by rfl)) ?_;refine gy 5 ?_;refine cx results79 rfl rfl isAgg140 sizeOf140 aL (rfl) (L1:=[]++R) ae ?_;rw[rv];exact⟨_,⟨rfl,rfl⟩,rfl⟩
 obtain⟨x,r,rfl⟩: ∃x r,t=x::r:=by
   cases t with
   |nil=>simp at Eh
   |cons x r=>exact⟨x,r,rfl⟩
 have hx8:=x.toNat_lt;refine gy 1 ?_;refine bV ?_;refine y (G2 (u:=x) rfl rfl underlying9 (by decide) rfl) rfl ?_;refine gy 4 ?_;refine cc rfl (fun MV=>?_) (fun MV=>?_)
 ·have rv:dJ (x::r)=(0,0,4):=LQ (by omega);refine gc 1 ?_;refine y (cA ([i64 (0:Nat),u64 0])) rfl ?_;refine bA (ai rfl rfl (gf _ _) sizeOf140 bc (by rfl) (by rfl)) ?_;refine gy 5 ?_;refine cx results79 rfl rfl isAgg140 sizeOf140 aL (rfl) (L1:=[]++R) ae ?_;rw[rv];exact⟨_,⟨rfl,rfl⟩,rfl⟩
 refine gc 4 ?_;refine y (G2 (u:=x) rfl rfl underlying9 (by decide) rfl) rfl ?_;refine y (aR rfl underlying5 underlying3) rfl ?_;rw[wr (by omega) (by omega)];refine bK (adw (n:=x.toNat) ?atG) call78 ?_
 case atG=>omega
 refine ya (aB zeroValue140 rfl) rfl ?_;rintro v L' ⟨b4,rfl,rfl⟩;refine bA (ai rfl rfl (gf _ _) sizeOf140 bc (by rfl) (by rfl)) ?_;refine gy 5 ?_;refine y (cP rfl underlying9) rfl ?_;refine gy 3 ?_;refine y (ie rfl rfl (by decide)) rfl ?_;refine gy 1 ?_;rw[show IntKind.i64.wrap (1+IntKind.i64.wrap ((IntKind.i64.wrap (((x.toNat:Nat):Int)+7)).tdiv 8))=((1+jI x.toNat:Nat):Int)by rw[wr (x:=((x.toNat:Nat):Int)+7) (by omega) (by omega),Int.tdiv_eq_ediv_of_nonneg (by omega),wr (x:=(((x.toNat:Nat):Int)+7) / 8) (by omega) (by omega),wr (by omega) (by omega)];unfold jI;omega];refine gy 3 ?_;refine cc rfl (fun xP=>?_) (fun xP=>?_)
 ·have rv:dJ (x::r)=(0,0,4):=LS (by omega) (by simp only[List.length_cons]at xP;omega);refine gc 1 ?_;refine y (cA ([i64 (0:Nat),u64 0])) rfl ?_;refine bA (ai rfl rfl (gf _ _) sizeOf140 bc (by rfl) (by rfl)) ?_;refine gy 5 ?_;refine cx results79 rfl rfl isAgg140 sizeOf140 aL (rfl) (L1:=[]++R) ae ?_;rw[rv];exact⟨_,⟨rfl,rfl⟩,rfl⟩
 have SE:r.length=jI x.toNat:=by simp only[List.length_cons]at xP;omega
 have hr8:jI x.toNat≤8:=by unfold jI;omega
 refine gc 2 ?_;refine bq ?_;intro VW oN;refine gc 2 ?_;refine y (cP rfl underlying9) rfl ?_;refine gy 1 ?_;rw[show IntKind.i64.wrap ((((x::r).length:Nat):Int)- 1)=((r.length:Nat):Int)by rw[wr (by simp only[List.length_cons]at*;omega) (by simp only[List.length_cons]at*;omega)];simp only[List.length_cons];omega];refine gy 3 ?_
 have fQ: ∀x_:Nat,((x_≤r.length)∧(x_=r.length))→Sk 59 VW ([(30,i64 x_),(29,i64 r.length),(4,ptr b4),(2,ptr b2),(0,str (x::r))]) ([sc b4 [i64 x.toNat,u64 (vG (r.take x_))] 140,sc b2 [i64 (0:Nat),u64 0] 140]++R):=by
  rintro k ⟨bJ,eK⟩;refine oN _ _ ?_;have hk:=bJ;rw[eK,List.take_length];refine gc 2 ?_
  have hlv:vG r<18446744073709551616:=by
    have h1:=Cw r;rw[Rb]at h1;have:2^(8*r.length)≤2^64:=Nat.pow_le_pow_right (by omega) (by omega);exact Nat.lt_of_lt_of_le h1 this
  refine gy 4 ?_;refine cv 49 rfl (fun OI=>?_) (fun OI=>?_)
  ·refine gy 4 ?_;refine bV ?_;refine y (iI rfl rfl (by omega)) rfl ?_;rw[CZ (by omega)];refine gy 4 ?_;refine cc rfl (fun Gf=>?_) (fun Gf=>?_)
   ·refine gc 1 ?_;have rv:dJ (x::r)=(0,0,4):=LU (by omega) SE ⟨by omega,by omega⟩;refine y (cA ([i64 (0:Nat),u64 0])) rfl ?_;refine bA (ai rfl rfl (gf _ _) sizeOf140 bc (by rfl) (by rfl)) ?_;refine gy 5 ?_;refine cx results79 rfl rfl isAgg140 sizeOf140 aL (rfl) (L1:=[]++R) ae ?_;rw[rv];exact⟨_,⟨rfl,rfl⟩,rfl⟩
   refine gc 3 ?_;have rv:dJ (x::r)=(x.toNat,vG r,0):=EW (by omega) SE (by omega);refine y (ay (u:=[i64 x.toNat,u64 (vG r)]) rfl isAgg140 sizeOf140 aL rfl rfl) rfl ?_;refine bA (ai rfl rfl (gf _ _) sizeOf140 bc (by rfl) (by rfl)) ?_;refine gy 4 ?_;refine cx results79 rfl rfl isAgg140 sizeOf140 aL (rfl) (L1:=[]++R) ae ?_;rw[rv];exact⟨_,⟨rfl,rfl⟩,rfl⟩
  refine gy 13 ?_;have rv:dJ (x::r)=(x.toNat,vG r,0):=EW (by omega) SE (by omega);refine y (ay (u:=[i64 x.toNat,u64 (vG r)]) rfl isAgg140 sizeOf140 aL rfl rfl) rfl ?_;refine bA (ai rfl rfl (gf _ _) sizeOf140 bc (by rfl) (by rfl)) ?_;refine gy 4 ?_;refine cx results79 rfl rfl isAgg140 sizeOf140 aL (rfl) (L1:=[]++R) ae ?_;rw[rv];exact⟨_,⟨rfl,rfl⟩,rfl⟩
 clear oN;refine gc 1 ?_;refine bO (A:=Nat) (fun x_=>[(30,i64 x_),(29,i64 r.length),(4,ptr b4),(2,ptr b2),(0,str (x::r))]) (fun x_=>[sc b4 [i64 x.toNat,u64 (vG (r.take x_))] 140,sc b2 [i64 (0:Nat),u64 0] 140]++R) (fun x_=>x_≤r.length) (fun x_=>r.length-x_) (0) ?_ aq ae ?_
 · exact Nat.zero_le _
 rintro k bJ kt cI;have cC:=bJ;have hk:=bJ;refine gc 5 ?_;refine cc rfl (fun YW=>?_) (fun YW=>?_)
 ·refine gc 9 ?_;refine aS 12 (od [] 12 0) (_) Tryz.mixed (by kernel_rfl) .refl ?_;obtain⟨y0,Ck⟩: ∃y,r[k]? =some y:=⟨_,List.getElem?_eq_getElem (by omega)⟩;have hy8:=y0.toNat_lt;have EH:=vH r k;have auf:=vH r (k+1);have SD:=PD Ck;have YN:2^(8*(k+1))≤18446744073709551616:=by have:2^(8*(k+1))≤2^64:=Nat.pow_le_pow_right (by omega) (by omega);exact this
  refine gh 5 ?_;rw[wr (by omega) (by omega),show((k:Nat):Int)+1=((k+1:Nat):Int)by omega];refine hr rfl (G2 (u:=y0) rfl rfl underlying9 (by omega) (by rw[Int.toNat_natCast];exact Ck)) rfl ?_;refine hr rfl (aR rfl underlying5 underlying138) rfl ?_;rw[iN,show((y0.toNat:Nat):Int) % 18446744073709551616=((y0.toNat:Nat):Int)by omega];refine gh 1 ?_;refine hr rfl (gS rfl rfl) rfl ?_;rw[wr (by omega) (by omega),show(8:Int)*(k:Int)=((8*k:Nat):Int)by omega];refine hr rfl (j5 rfl rfl (by omega)) rfl ?_;rw[show IntKind.u64.wrap (((y0.toNat:Nat):Int)*2^(min (((8*k:Nat):Int)).toNat IntKind.u64.bits))=((y0.toNat*2^(8*k):Nat):Int)by rw[show min (((8*k:Nat):Int)).toNat IntKind.u64.bits=8*k by simp[IntKind.bits];omega,iN,show((y0.toNat:Nat):Int)*(2:Int)^(8*k)=((y0.toNat*2^(8*k):Nat):Int)by simp];generalize y0.toNat*2^(8*k)=z at*;omega];refine hr rfl (m8 rfl rfl) rfl ?_;rw[tp EH (by omega) (by omega),←SD];refine gh 2 ?_;refine bA (an rfl rfl (by rfl) sizeOf138 bc rfl rfl) ?_;refine gy 5 ?_;rw[show IntKind.i64.wrap ((k:Int)+1)=((k+1:Nat):Int)by rw[wr (by omega) (by omega)];rfl];refine gy 3 ?_;exact cI (k+1) (by omega) (by omega) _ _ aq ae
 refine gc 5 ?_;exact aV aq ae (fQ k ⟨cC,by omega⟩)
def fB(l c:Nat)(L:eX):ax:=sc l [ptr c,i64 L.n,i64 (ef L.n),u64 L.bits] 143
theorem dIn [Env]{R:List ax}{l c:Nat}{L:eX}{i:Int}:bC Tryz.prog 183 [ptr l,i64 i] [fB l c L] R (Is (.bool (zF L.n i)) [fB l c L]):=by
 unfold fB;refine ag func183 ntmps183 rfl rfl ?_;refine gc 8 ?_;refine cv 7 rfl (fun h5=>?_) (fun h5=>?_)
 ·refine gy 11 ?_;refine aj results183 rfl (L1:=[sc l _ 143]++R) ae ?_;exact⟨_,⟨by unfold zF;(rw[decide_eq_true (show 0≤i by omega)];rfl),rfl⟩,rfl⟩
 refine gy 11 ?_;refine aj results183 rfl (L1:=[sc l _ 143]++R) ae ?_;exact⟨_,⟨by unfold zF;(rw[decide_eq_false (show¬0≤i by omega)];rfl),rfl⟩,rfl⟩
theorem aeO [Env]{R:List ax}{l c:Nat}{L:eX}{i:Int}(hn:1≤L.n∧L.n≤32)(hb:L.bits<2^ef L.n)(h1: -9223372036854775808≤i)(h2:i≤9223372036854775807):bC Tryz.prog 122 [ptr l,i64 i] [fB l c L] R (Is (.bool (L.has i)) [fB l c L]):=by
 have Ub:=qy hn;refine ag func122 ntmps122 rfl rfl ?_;refine gc 7 ?_;refine bK (dIn) call183 ?_;refine gy 1 ?_;refine cv 8 rfl (fun AH=>?_) (fun AH=>?_)
 ·obtain⟨HA,oO⟩:=mq.1 AH;have hh:L.has i=sN (ef L.n) L.bits (i / 4):=by unfold eX.has;rw[AH,Bool.true_and]
  unfold fB;refine gy 3 ?_;refine bV ?_;refine y (ay (u:=[i64 (ef L.n),u64 L.bits]) rfl isAgg140 sizeOf140 aL rfl rfl) rfl ?_;refine gy 1 ?_;refine bV ?_;refine y (ie rfl rfl (by decide)) rfl ?_;rw[Int.tdiv_eq_ediv_of_nonneg HA,wr (by omega) (by omega)];refine bV ?_;refine bK (adv ?atE ?atz) call184 ?_
  case atE=>omega
  case atz=>exact hb
  refine gy 5 ?_;refine aj results122 rfl (L1:=[fB l c L]++R) ae ?_;exact⟨_,⟨by rw[hh],rfl⟩,rfl⟩
 have hh:L.has i=false:=by unfold eX.has;rw[AH];rfl
 refine gy 12 ?_;refine aj results122 rfl (L1:=[fB l c L]++R) ae ?_;exact⟨_,⟨by rw[hh],rfl⟩,rfl⟩
theorem aeQ [Env]{R:List ax}{l c:Nat}{L:eX}:bC Tryz.prog 128 [ptr l] [fB l c L] R (Is (uT (ef L.n) L.bits) [fB l c L]):=by
 unfold fB;refine ag func128 ntmps128 rfl rfl ?_;refine gc 1 ?_;refine ya (aB zeroValue140 rfl) rfl ?_;rintro v L' ⟨b2,rfl,rfl⟩;refine gy 6 ?_;refine y (ay (u:=[i64 (ef L.n),u64 L.bits]) rfl isAgg140 sizeOf140 aL rfl rfl) rfl ?_;refine bA (ai rfl rfl (gf _ _) sizeOf140 bc (by rfl) (by rfl)) ?_;refine gy 3 ?_;refine yk results128 rfl isAgg140 sizeOf140 aL (rfl) (L1:=[sc l _ 143]++R) ae ?_;exact⟨_,⟨rfl,rfl⟩,rfl⟩
theorem aeR [Env]{R:List ax}{l c:Nat}{q:Q3}{L:eX}{D:az}{n b:Nat}(hL:L.ok D)(hn:n=ef L.n)(hb:b<2^ef L.n):bC Tryz.prog 202 [ptr l,uT n b] [fB l c L,dh c q L.c,dev q D] R (Is (i64 (L.set D b).1) [fB l c (L.set D b).2.1,dh c q (L.set D b).2.1.c,dev q (L.set D b).2.2]):=by
 subst hn;have Ub:=qy hL.n;have oP:L.set D b=((L.c.put D (iC (ef L.n) b)).1,{L with c:=(L.c.put D (iC (ef L.n) b)).2.1,bits:=if(L.c.put D (iC (ef L.n) b)).1=0 then b else L.bits},(L.c.put D (iC (ef L.n) b)).2.2):=rfl;refine ag func202 ntmps202 rfl rfl ?_;unfold fB;refine gc 1 ?_;refine ya (a7 (vs:=[i64 (ef L.n),u64 b]) rfl rfl) rfl ?_;rintro v L' ⟨b3,rfl,rfl⟩;refine gy 4 ?_;refine aS 6 (od [5] 6 0) ([sc l _ 143,sc b3 [i64 (ef L.n),u64 b] 140]++R) Tryz.mixed (by kernel_rfl) ae ?_;refine gh 4 ?_;refine hr rfl (ay (u:=[i64 (ef L.n),u64 b]) rfl isAgg140 sizeOf140 aL rfl rfl) rfl ?_;refine bg rfl (Xe ?atF ?atA) rfl call129 aZ rfl ?_
 case atF=>omega
 case atA=>exact hb
 rintro v L' ⟨rfl,rfl⟩;refine⟨ae,?_⟩;refine gh 1 ?_;refine bK (NN ?aeD ?Af) call57 ?_
 case aeD=>exact hL.c
 case Af=>exact hL.d
 obtain⟨r,EK⟩: ∃r,L.c.put D (iC (ef L.n) b)=r:=⟨_,rfl⟩;rw[EK]at oP ⊢;refine gy 9 ?_;refine cc rfl (fun Ld=>?_) (fun Ld=>?_)
 ·rw[if_pos Ld]at oP;refine gc 2 ?_;refine y (ay (u:=[i64 (ef L.n),u64 b]) rfl isAgg140 sizeOf140 aL rfl rfl) rfl ?_;refine gy 2 ?_;refine bA (aP rfl rfl (gf _ _) sizeOf140 bc rfl (by simp) rfl) ?_;refine gy 8 ?_;refine aj results202 rfl (L1:=[sc l _ 143,dh c q _,dev q _]++R) ae ?_;rw[oP];exact⟨_,⟨rfl,rfl⟩,rfl⟩
 rw[if_neg Ld]at oP;refine gc 8 ?_;refine aj results202 rfl (L1:=[sc l _ 143,dh c q _,dev q _]++R) ae ?_;rw[oP];exact⟨_,⟨rfl,rfl⟩,rfl⟩
theorem NZ [Env]{R:List ax}{l c:Nat}{q:Q3}{L:eX}{D:az}{i:Int}(hL:L.ok D)(h1: -9223372036854775808≤i)(h2:i≤9223372036854775807):bC Tryz.prog 156 [ptr l,i64 i] [fB l c L,dh c q L.c,dev q D] R (Is (i64 (L.mark D i).1) [fB l c (L.mark D i).2.1,dh c q (L.mark D i).2.1.c,dev q (L.mark D i).2.2]):=by
 have Ub:=qy hL.n;refine ag func156 ntmps156 rfl rfl ?_;refine gc 9 ?_;refine bK (dIn) call183 ?_;refine gy 4 ?_;refine cc rfl (fun Wk=>?_) (fun Wk=>?_)
 ·have ee:zF L.n i=false:=by simpa using Wk
  have M3:L.mark D i=(2,L,D):=by unfold eX.mark;rw[if_pos ee]
  refine gc 7 ?_;refine aj results156 rfl (L1:=[fB l c _,dh c q _,dev q _]++R) ae ?_;rw[M3];exact⟨_,⟨rfl,rfl⟩,rfl⟩
 have ee:zF L.n i=true:=by simpa using Wk
 obtain⟨HA,oO⟩:=mq.1 ee;refine gc 3 ?_;refine bK (aeO ?anR ?anG ?anI ?anL) call122 ?_
 case anR=>exact hL.n
 case anG=>exact hL.bits
 case anI=>omega
 case anL=>omega
 refine gy 3 ?_;refine cc rfl (fun OI=>?_) (fun OI=>?_)
 ·have M3:L.mark D i=(0,L,D):=by unfold eX.mark;rw[if_neg (by rw[ee];decide),if_pos OI]
  refine gc 7 ?_;refine aj results156 rfl (L1:=[fB l c _,dh c q _,dev q _]++R) ae ?_;rw[M3];exact⟨_,⟨rfl,rfl⟩,rfl⟩
 have M3:L.mark D i=L.set D (CL L.bits (i / 4)):=by unfold eX.mark;rw[if_neg (by rw[ee];decide),if_neg (by rw[OI];decide)]
 unfold fB;refine gc 7 ?_;refine y (ay (u:=[i64 (ef L.n),u64 L.bits]) rfl isAgg140 sizeOf140 aL rfl rfl) rfl ?_;refine gy 1 ?_;refine y (ie rfl rfl (by decide)) rfl ?_;rw[Int.tdiv_eq_ediv_of_nonneg HA,wr (by omega) (by omega)];refine bK (aty ?atH ?atB) call201 ?_
 case atH=>omega
 case atB=>exact hL.bits
 rw[if_pos (JJ ee)];refine gy 3 ?_;refine ya (aB zeroValue140 rfl) rfl ?_;rintro v L' ⟨b5,rfl,rfl⟩;refine bA (ai rfl rfl (gf _ _) sizeOf140 bc (by rfl) (by rfl)) ?_;refine gy 5 ?_;refine y (ay (u:=[i64 (ef L.n),u64 (CL L.bits (i / 4))]) rfl isAgg140 sizeOf140 aL rfl rfl) rfl ?_;refine bK (aeR (L:=L) (n:=ef L.n) (b:=CL L.bits (i / 4)) hL rfl (Kf hL.bits (JJ ee))) call202 ?_;refine gy 4 ?_;refine aj results156 rfl (L1:=[fB l c _,dh c q _,dev q _]++R) ae ?_;rw[M3];exact⟨_,⟨rfl,rfl⟩,rfl⟩
theorem X5 [Env]{R:List ax}{l c:Nat}{q:Q3}{L:eX}{D:az}(hL:L.ok D):bC Tryz.prog 162 [ptr l] [fB l c L,dh c q L.c,dev q D] R (Is (i64 (L.clear D).1) [fB l c (L.clear D).2.1,dh c q (L.clear D).2.1.c,dev q (L.clear D).2.2]):=by
 have Ub:=qy hL.n;have hcz:=GU hL.bits;refine ag func162 ntmps162 rfl rfl ?_;unfold fB;refine gc 9 ?_;refine y (ay (u:=[i64 (ef L.n),u64 L.bits]) rfl isAgg140 sizeOf140 aL rfl rfl) rfl ?_;refine bK (adu ?ady ?adx) call208 ?_
 case ady=>omega
 case adx=>exact hL.bits
 refine gy 3 ?_;refine cc rfl (fun MY=>?_) (fun MY=>?_)
 ·have oY:L.clear D=(0,L,D):=by unfold eX.clear;rw[if_pos (hcz.1 (by omega))]
  refine gc 6 ?_;refine aj results162 rfl (L1:=[fB l c _,dh c q _,dev q _]++R) ae ?_;rw[oY];exact⟨_,⟨rfl,rfl⟩,rfl⟩
 have oY:L.clear D=L.set D 0:=by unfold eX.clear;rw[if_neg (fun e=>by have:=hcz.2 e;omega)]
 refine gc 7 ?_;refine y (ay (u:=[i64 (ef L.n),u64 L.bits]) rfl isAgg140 sizeOf140 aL rfl rfl) rfl ?_;refine bK (Si) call80 ?_;refine bK (adw (n:=ef L.n) ?amV) call78 ?_
 case amV=>omega
 refine bK (aeR (L:=L) (n:=ef L.n) (b:=0) hL rfl (Nat.two_pow_pos _)) call202 ?_;refine gy 4 ?_;refine aj results162 rfl (L1:=[fB l c _,dh c q _,dev q _]++R) ae ?_;rw[oY];exact⟨_,⟨rfl,rfl⟩,rfl⟩
theorem S9 [Env]{R:List ax}{l c:Nat}{L:eX}(hn:1≤L.n∧L.n≤32)(hb:L.bits<2^ef L.n):bC Tryz.prog 65 [ptr l] [fB l c L] R (zx 3 L.GK.length 1 (aW L.GK) [fB l c L]):=by
 refine ag func65 ntmps65 rfl rfl ?_;refine gc 8 ?_;refine bq ?_;intro K3 pD;refine gc 1 ?_;unfold fB;refine gy 5 ?_;refine VU (L':=[fB l c L,aD none 3 (aW (dQ L 0))]++R) (by simp[aD,fB]) ?_;refine gy 2 ?_
 have fQ: ∀x:Nat × Sv,((x.1≤L.n∧bW x.2 (dQ L x.1).length 1 (aW (dQ L x.1)))∧(x.1=L.n))→Sk 21 K3 ([(9,i64 x.1),(8,i64 L.n),(3,aG x.2 (dQ L x.1).length),(0,ptr l)]) ([fB l c L,aD x.2 3 (aW (dQ L x.1))]++R):=by
  rintro⟨k,s⟩ ⟨bJ,eK⟩;refine pD _ _ ?_;obtain⟨hk,ok⟩:=bJ;dsimp only at hk ok ⊢;have zT:=uo L k;dsimp only at eK;subst eK;refine gc 6 ?_;refine aj results65 rfl (L1:=[aD s 3 (aW (dQ L _)),fB l c L]++R) ae ?_;exact⟨_,⟨s,rfl,ok,rfl⟩,rfl⟩
 clear pD;refine gc 1 ?_;refine bO (A:=Nat × Sv) (fun x=>[(9,i64 x.1),(8,i64 L.n),(3,aG x.2 (dQ L x.1).length),(0,ptr l)]) (fun x=>[fB l c L,aD x.2 3 (aW (dQ L x.1))]++R) (fun x=>x.1≤L.n∧bW x.2 (dQ L x.1).length 1 (aW (dQ L x.1))) (fun x=>L.n-x.1) ((0,none)) ?_ aq ae ?_
 · exact⟨Nat.zero_le _,rfl,rfl⟩
 rintro⟨k,s⟩ bJ kt cI;have cC:=bJ;obtain⟨hk,ok⟩:=bJ;dsimp only at hk ok ⊢;have zT:=uo L k;refine gc 5 ?_;refine cc rfl (fun Hc=>?_) (fun Hc=>?_)
 ·refine gc 2 ?_;refine bq ?_;intro K8 qN
  have pC: ∀x:Sv,(bW x (dQ L (k+1)).length 1 (aW (dQ L (k+1))))→Sk 21 K8 ([(9,i64 k),(8,i64 L.n),(3,aG x (dQ L (k+1)).length),(0,ptr l)]) ([fB l c L,aD x 3 (aW (dQ L (k+1)))]++R):=by
   rintro s2 B1;refine qN _ _ ?_;have hk7:k<L.n:=by omega
   refine gc 2 ?_;rw[show IntKind.i64.wrap ((k:Int)+1)=((k+1:Nat):Int)by rw[wr (by omega) (by omega)];rfl];refine gy 3 ?_;exact cI ((k+1,s2)) (⟨by dsimp only;omega,B1⟩) (by dsimp only;omega) _ _ aq ae
  clear qN;refine gc 9 ?_;refine bK (aeO ?aeY ?aeS ?aeT ?aeV) call122 ?_
  case aeY=>exact hn
  case aeS=>exact hb
  case aeT=>omega
  case aeV=>omega
  refine gy 2 ?_;refine cc rfl (fun Ee=>?_) (fun Ee=>?_)
  ·have iP:dQ L (k+1)=dQ L k++[(k:Int)]:=by rw[pe,if_pos Ee]
   refine gc 3 ?_;refine ya (aE rfl underlying73 sizeOf3 zeroValue3 rfl rfl rfl rfl ⟨⟨_,_,rfl,(by rfl),(by decide)⟩,trivial⟩ (by dsimp[bt,aX,aY,bS]<;>rfl)) rfl ?_;rintro v L' ⟨b17,rfl,rfl⟩;refine ya (aO (s:=s) (xs:=aW (dQ L k)) (m:=(dQ L k).length) (k:=1) (us:=[i64 k]) (size:=1) rfl rfl (by repeat first|exact .z|apply Pk.s) underlying73 underlying73 (by intro q hq;cases hq) typeInfo3 rfl rfl rfl ?aiW ?acC ?abl ?Xy) rfl ?_
   case aiW=>exact ok
   case acC=>exact cz aL rfl rfl
   case abl=>intro u hu;simp at hu;subst hu;rfl
   case Xy=>show(_+_)*9≤_;omega
   rintro v L' ⟨s18,rfl,It,rfl⟩;rw[show aW (dQ L k)++[i64 (k:Int)]=aW (dQ L (k+1))by rw[iP];simp[aW],show(dQ L k).length+1=(dQ L (k+1)).length by rw[iP];simp]at It ⊢;refine gy 4 ?_;exact aV aq ae (pC _ (by assumption))
  have iP:dQ L (k+1)=dQ L k:=by rw[pe,if_neg (by rw[Ee];decide)]
  rw[←iP]at ok ⊢;refine gc 3 ?_;exact aV aq ae (pC _ (by assumption))
 refine gc 5 ?_;exact aV aq ae (fQ ⟨k,s⟩ ⟨cC,by omega⟩)
def Xk(D:az)(a b nb:Int)(q:Q3)(u:Value)(L':List ax):Prop:=
 (nS D a b nb≠0∧u= .tuple #[jx,i64 (nS D a b nb)]∧L'=[dev q D])∨(nS D a b nb=0∧ ∃l c,u= .tuple #[ptr l,i64 0]∧L'=[fB l c (mJ D a b nb.toNat),dh c q (aF D a b),dev q D])
theorem aeP [Env]{R:List ax}{q:Q3}{D:az}{a b nb:Int}(hD:D.ok):bC Tryz.prog 44 [dp q,i64 a,i64 b,i64 nb] [dev q D] R (Xk D a b nb q):=by
 refine ag func44 ntmps44 rfl rfl ?_;refine gc 10 ?_;refine cv 17 rfl (fun xO=>?_) (fun xO=>?_)
 ·refine gy 7 ?_;have Ch:nS D a b nb=1:=by unfold nS;rw[if_pos (by omega)]
  refine gy 6 ?_;refine bm results44 rfl rfl (L1:=[dev q D]++R) ae ?_;exact⟨_,.inl ⟨by rw[Ch];decide,by rw[Ch],rfl⟩,rfl⟩
 refine gy 5 ?_;refine cc rfl (fun Ys=>?_) (fun Ys=>?_)
 ·refine gc 1 ?_;have Ch:nS D a b nb=1:=by unfold nS;rw[if_pos (by omega)]
  refine gy 6 ?_;refine bm results44 rfl rfl (L1:=[dev q D]++R) ae ?_;exact⟨_,.inl ⟨by rw[Ch];decide,by rw[Ch],rfl⟩,rfl⟩
 refine gc 3 ?_;have Ch:nS D a b nb=cg D a b:=by unfold nS;rw[if_neg (by omega)]
 obtain⟨n,rfl⟩: ∃n:Nat,nb=n:=⟨nb.toNat,by omega⟩;have hn:1≤n∧n≤32:=by omega
 have Ub:=qy hn;refine gy 3 ?_;refine aA (Jh hD) rfl call43 aZ rfl ?_;rintro v L' gj;rcases gj with⟨tX,rfl,rfl⟩|⟨tX,V7,rfl,rfl⟩
 ·refine gy 11 ?_
  try rw[show(!decide (cg D a b=0))=true by simp[tX]]
  refine gy 11 ?_;refine bm results44 rfl rfl (L1:=[dev q D]++R) ae ?_;exact⟨_,.inl ⟨by rw[Ch];assumption,by rw[Ch],rfl⟩,rfl⟩
 refine gy 11 ?_
 try rw[show(!decide (cg D a b=0))=true by simp[tX]]
 refine gy 6 ?_;have oY:=(eW tX).1.text;refine gy 4 ?_;rw[wr (by omega) (by omega)];refine gy 1 ?_;rw[wr (by omega) (by omega)];refine y (ie rfl rfl (by decide)) rfl ?_;rw[Int.tdiv_eq_ediv_of_nonneg (by omega),wr (by omega) (by omega),show((n:Int)+4- 1) / 4=((ef n:Nat):Int)by unfold ef;omega];refine bK (adw (n:=ef n) ?amX) call78 ?_
 case amX=>omega
 refine y (cA ([ptr V7,i64 n,i64 (ef n),u64 0])) rfl ?_;refine ya (a7 (vs:=[ptr V7,i64 n,i64 (ef n),u64 0]) rfl rfl) rfl ?_;rintro v L' ⟨b39,rfl,rfl⟩;refine gy 9 ?_;refine bK (XR) call48 ?_;refine bK (Xd ?amY) call79 ?_
 case amY=>omega
 have hlw:=yp (aF D a b).text;have vC:CQ (ef n) (aF D a b).text=if(dJ (aF D a b).text).2.2=0∧(dJ (aF D a b).text).1=ef n then(dJ (aF D a b).text).2.1 else 0:=rfl
 generalize dJ (aF D a b).text=lp at*;obtain⟨n2,b2,e2⟩:=lp;dsimp only at hlw vC ⊢;refine gy 3 ?_;refine ya (aB zeroValue140 rfl) rfl ?_;rintro v L' ⟨b13,rfl,rfl⟩;refine bA (ai rfl rfl (gf _ _) sizeOf140 bc (by rfl) (by rfl)) ?_;refine gy 4 ?_;refine aS 9 [(0,true),(1,true),(2,true),(3,true),(5,true),(6,true),(7,true),(8,true),(4,false)] (_) Tryz.mixed (by kernel_rfl) .refl ?_;refine gh 3 ?_;refine fZ 51 rfl (fun aos=>?_) (fun aos=>?_)
 ·refine ko rfl rfl rfl (ay (u:=[i64 n2,u64 b2]) rfl isAgg140 sizeOf140 aL rfl rfl) rfl ?_;refine gh 3 ?_;refine ko rfl rfl rfl (ay (u:=[i64 (ef n),u64 0]) rfl isAgg140 sizeOf140 aL rfl rfl) rfl ?_;refine fk rfl rfl rfl (Si) rfl call80 aZ rfl ?_;rintro v L' ⟨rfl,rfl⟩;refine⟨ae,?_⟩;refine gh 1 ?_;refine bV ?_;refine bK (Si) call80 ?_;refine gy 4 ?_;refine cc rfl (fun aou=>?_) (fun aou=>?_)
  ·refine gc 1 ?_;obtain rfl:n2=ef n:=by omega
   rw[if_pos ⟨by omega,rfl⟩]at vC;refine gy 1 ?_;refine y (ay (u:=[i64 (ef n),u64 b2]) rfl isAgg140 sizeOf140 aL rfl rfl) rfl ?_;refine gy 2 ?_;refine bA (aP rfl rfl (gf _ _) sizeOf140 bc rfl (by simp) rfl) ?_;refine gy 9 ?_;refine bm results44 rfl rfl (L1:=[sc b39 _ 143,dh V7 q (aF D a b),dev q D]++R) ae ?_
   (try rw[if_neg (by omega)]at vC);exact⟨_,.inr ⟨by rw[Ch];exact tX,b39,V7,rfl,by unfold fB mJ;rw[Int.toNat_natCast,vC];try rfl⟩,rfl⟩
  refine gc 9 ?_;refine bm results44 rfl rfl (L1:=[sc b39 _ 143,dh V7 q (aF D a b),dev q D]++R) ae ?_
  (try rw[if_neg (by omega)]at vC);exact⟨_,.inr ⟨by rw[Ch];exact tX,b39,V7,rfl,by unfold fB mJ;rw[Int.toNat_natCast,vC];try rfl⟩,rfl⟩
 refine gh 5 ?_;refine lF rfl rfl rfl rfl rfl ae ?_;refine gh 16 ?_;refine bm results44 rfl rfl (L1:=[sc b39 _ 143,dh V7 q (aF D a b),dev q D]++R) ae ?_
 (try rw[if_neg (by omega)]at vC);exact⟨_,.inr ⟨by rw[Ch];exact tX,b39,V7,rfl,by unfold fB mJ;rw[Int.toNat_natCast,vC];try rfl⟩,rfl⟩
end W
end Go.Proofs