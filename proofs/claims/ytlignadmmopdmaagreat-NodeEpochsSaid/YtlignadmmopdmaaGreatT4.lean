/- A part of the proof. -/
import Derived.Test.YtlignadmmopdmaaGreatUn
import Derived.Test.YtlignadmmopdmaaGreatGE
import Derived.Test.YtlignadmmopdmaaGreatGF
set_option linter.unusedVariables false
set_option linter.unusedSimpArgs false
set_option linter.constructorNameAsVariable false
namespace Go.Proofs
open _root_.Go.Proofs.Tryz
open Go Go.Sl
namespace W
theorem cOn [Env]{R:List ax}{s:Nat}{b:UInt8}(hs:s<4294967296):bC Tryz.prog 218 [.int .u32 s,.int .u8 b.toNat] [] R (Is (.int .u32 (sx s b)) []):=by
 have hb:=b.toNat_lt;have hx:s^^^b.toNat<4294967296:=Nat.xor_lt_two_pow (n:=32) hs (by omega);refine ag func218 ntmps218 rfl rfl ?_;refine gc 7 ?_;refine y (aR rfl underlying5 underlying173) rfl ?_;refine y (rk rfl rfl) rfl ?_;rw[F4,show((b.toNat:Nat):Int) % 4294967296=((b.toNat:Nat):Int)by omega,xl rfl (show s<2^IntKind.u32.bits from hs) (show b.toNat<2^IntKind.u32.bits by show _<4294967296;omega)];refine gy 3 ?_;refine bq ?_;intro K3 pD;refine gc 4 ?_
 have fQ: ∀x:Nat,((x≤8)∧(x=8))→Sk 22 K3 ([(10,i64 x),(0,.int .u32 (GW x (s^^^b.toNat)))]) (R):=by
  rintro k ⟨bJ,eK⟩;refine pD _ _ ?_;have hk:=bJ;have hn:=wO hx k;subst eK;refine gc 6 ?_;refine aj results218 rfl (L1:=R) ae ?_;exact⟨_,⟨by rfl,rfl⟩,by rfl⟩
 clear pD;refine gc 1 ?_;refine bO (A:=Nat) (fun x=>[(10,i64 x),(0,.int .u32 (GW x (s^^^b.toNat)))]) (fun x=>R) (fun x=>x≤8) (fun x=>8-x) (0) ?_ aq ae ?_
 · exact Nat.zero_le _
 rintro k bJ kt cI;have cC:=bJ;have hk:=bJ;have hn:=wO hx k;refine gc 5 ?_;refine cc rfl (fun zK=>?_) (fun zK=>?_)
 ·refine gc 6 ?_;refine y (kR rfl rfl) rfl ?_;refine gy 5 ?_;refine y (iI rfl rfl (by decide)) rfl ?_;rw[show(GW k (s^^^b.toNat):Int).fdiv (2^(min (1:Int).toNat IntKind.u32.bits))=((GW k (s^^^b.toNat) / 2:Nat):Int)by exact m9 (k:=2)];have Wq:=DM hn;refine gy 8 ?_;refine cc rfl (fun h20=>?_) (fun h20=>?_)
  ·rw[if_pos h20]at Wq;refine gc 2 ?_;refine y (rk rfl rfl) rfl ?_;rw[Wq];refine gy 6 ?_;rw[show IntKind.i64.wrap ((k:Int)+1)=((k+1:Nat):Int)by rw[wr (by omega) (by omega)];rfl];refine gy 3 ?_;exact cI (k+1) ((show k+1≤8 by omega)) (by omega) _ _ aq ae
  rw[if_neg h20]at Wq;rw[Wq];refine gc 5 ?_;rw[show IntKind.i64.wrap ((k:Int)+1)=((k+1:Nat):Int)by rw[wr (by omega) (by omega)];rfl];refine gy 3 ?_;exact cI (k+1) ((show k+1≤8 by omega)) (by omega) _ _ aq ae
 refine gc 5 ?_;exact aV aq ae (fQ k ⟨cC,by omega⟩)
theorem aeq [Env]{R:List ax}{s:Nat}{v:Value}{bs:Bytes}(hb:cE R v bs.length (av bs))(hs:s<4294967296)(hl:bs.length<1000000):bC Tryz.prog 196 [.int .u32 s,v] [] R (Is (.int .u32 (BL s bs)) []):=by
 refine ag func196 ntmps196 rfl rfl ?_;refine gc 6 ?_;refine y (Oa rfl) rfl ?_;rw[Wa hs];refine gy 3 ?_;refine bq ?_;intro K3 pD;refine gc 2 ?_;refine y (bu rfl underlying55 (cE.bo (by assumption))) rfl ?_;refine gy 3 ?_
 have fQ: ∀x:Nat,((x≤bs.length)∧(x=bs.length))→Sk 22 K3 ([(12,i64 x),(11,i64 bs.length),(10,v),(5,.int .u32 (((bs.take x).foldl sx (4294967295-s):Nat)))]) (R):=by
  rintro k ⟨bJ,eK⟩;refine pD _ _ ?_;have hk:=bJ;subst eK;rw[List.take_length];refine gc 2 ?_;refine y (Oa rfl) rfl ?_;rw[Wa (rj (by omega))];refine gy 4 ?_;refine aj results196 rfl (L1:=R) ae ?_;exact⟨_,⟨by rfl,rfl⟩,by rfl⟩
 clear pD;refine gc 1 ?_;refine bO (A:=Nat) (fun x=>[(12,i64 x),(11,i64 bs.length),(10,v),(5,.int .u32 (((bs.take x).foldl sx (4294967295-s):Nat)))]) (fun x=>R) (fun x=>x≤bs.length) (fun x=>bs.length-x) (0) ?_ aq ae ?_
 · exact Nat.zero_le _
 rintro k bJ kt cI;have cC:=bJ;have hk:=bJ;refine gc 5 ?_;refine cc rfl (fun Dd=>?_) (fun Dd=>?_)
 ·refine gc 5 ?_;refine y (aK (by assumption) rfl rfl underlying55 sizeOf5 (by omega) (by omega)) rfl ?_;refine y (au k hb ae rfl isAgg5 (by simp) (lL (by omega))) rfl ?_;refine gy 6 ?_;refine bK (cOn ?aqq) call218 ?_
  case aqq=>exact rj (by omega)
  rw[show sx (List.foldl sx (4294967295-s) (bs.take k)) (bs[k]?.getD 0)=List.foldl sx (4294967295-s) (bs.take (k+1))by rw[List.take_add_one,List.foldl_append,List.getElem?_eq_getElem (by omega)];rfl];refine gy 6 ?_;rw[show IntKind.i64.wrap ((k:Int)+1)=((k+1:Nat):Int)by rw[wr (by omega) (by omega)];rfl];refine gy 3 ?_;exact cI (k+1) ((show k+1≤bs.length by omega)) (by omega) _ _ aq ae
 refine gc 5 ?_;exact aV aq ae (fQ k ⟨cC,by omega⟩)
theorem XS [Env]{R:List ax}{v:Value}{bs:Bytes}(hb:cE R v bs.length (av bs))(hl:bs.length<1000000):bC Tryz.prog 145 [v] [] R (Is (.int .u32 (lY bs)) []):=by
 refine ag func145 ntmps145 rfl rfl ?_;refine gc 6 ?_;refine bK (aeq (s:=0) (bs:=bs) ?ano ?aqs ?ahz) call196 ?_
 case ano=>exact hb.mono ae
 case aqs=>decide
 case ahz=>omega
 refine gy 4 ?_;refine aj results145 rfl (L1:=R) ae ?_;exact⟨_,⟨by rfl,rfl⟩,by rfl⟩
theorem NM [Env]{R:List ax}{v:Value}{bs:Bytes}{s:Nat}(hb:cE R v bs.length (av bs))(hl:bs.length<1000000):bC Tryz.prog 135 [v,.int .u32 s] [] R (Is (.bool (decide (lY bs=s))) []):=by
 refine ag func135 ntmps135 rfl rfl ?_;refine gc 6 ?_;refine bK (XS (bs:=bs) ?anp ?ahA) call145 ?_
 case anp=>exact hb.mono ae
 case ahA=>omega
 refine gy 6 ?_;refine aj results135 rfl (L1:=R) ae ?_;exact⟨_,⟨by(simp;omega),rfl⟩,by rfl⟩
theorem S8 [Env]{R R0:List ax}{p:Nat}{v:Value}{bs:Bytes}(hg:Ge R R0)(hb:oD R0 v bs):
   Gn Tryz.prog 143 [ptr p] [rL p v] R (fun u L'=> ∃q v',jy 0 bs=some q∧oD R0 v' q.2∧u=i64 (An q.1)∧L'=[rL p v']) S4 (fun L'=>jy 0 bs=none∧ ∃v',L'=[rL p v']):=by
 refine rf func143 ntmps143 rfl rfl ?_;refine vk 1 ?_;refine vk 1 ?_;refine vk 1 ?_;refine jZ ?_;refine Ax (A:=Nat × Nat × Value × Bytes) (fun x=>[(4,i64 ((7*x.1:Nat))),(3,.int .u64 (x.2.1:Nat)),(0,ptr p)]) (fun x=>[rL p x.2.2.1]++R) (fun x=>oD R0 x.2.2.1 x.2.2.2∧o4 bs x.1 x.2.1 x.2.2.2) (fun x=>10-x.1) ((0,0,v,bs)) ?_ aq ae ?_
 · exact⟨hb,.zero bs⟩
 rintro⟨k,u,v1,b1⟩ bJ kt cI;obtain⟨Hr,oO⟩:=bJ;dsimp only at Hr oO ⊢;have TX:=oO.k9;have hbR:=Hr.mono hg;refine iS ?_;intro K4 wj;refine jZ ?_;refine cy 1 ?_;refine I6 (Ji (bs:=b1) ?hb5 ?hz5) rfl call142 aZ rfl ?_ ?_
 case hb5=>exact hbR.mono ae
 case hz5=>decide
 ·rintro L' ⟨apn,rfl⟩;refine ln (wA (ln (ln (wA ?_))));refine z8 (L1:=[sc p _ 165]++R) ae ?_;obtain rfl:b1=[]:=List.eq_nil_of_length_eq_zero (by omega);exact⟨_,⟨oO.none,_,rfl⟩,rfl⟩
 rintro v L' ⟨Zp,rfl,rfl⟩;obtain⟨x,r,rfl⟩: ∃x r,b1=x::r:=by cases b1 with|nil=>exact absurd Zp (by decide)|cons x r=>exact⟨x,r,rfl⟩
 have LH:=rd1 hbR;have O6:=akU Hr;have yb:=x.toNat_lt;refine y (aK LH rfl rfl underlying55 sizeOf5 (by decide) (by decide)) rfl ?_;refine y (au 0 LH ae rfl isAgg5 rfl rfl) rfl ?_;refine yn 1 ?_;refine iS ?_;intro K6 ma;refine cy 3 ?_;refine cv 14 rfl (fun AG=>?_) (fun AG=>?_)
 ·refine yr 4 ?_;refine cv 18 rfl (fun h17=>?_) (fun h17=>?_)
  ·refine yr 3 ?_;refine adA rfl rfl rfl ?_;refine adA rfl rfl rfl ?_;refine yn 2 ?_;refine pg rfl ?_;refine uq ?_;refine y (bU rfl) rfl ?_;refine y (dW rfl (by kernel_rfl)) rfl ?_;refine rX rfl ?_;refine ln (wA (ln (ln (wA ?_))));refine z8 (L1:=[sc p _ 165]++R) ae ?_;exact⟨_,⟨oO.bad (by omega),_,rfl⟩,rfl⟩
  refine yr 3 ?_;refine cv 21 rfl (fun TA=>?_) (fun TA=>?_)
  ·refine yn 4 ?_;refine cc rfl (fun YO=>?_) (fun YO=>?_)
   ·refine uq ?_;refine y (bU rfl) rfl ?_;refine y (dW rfl (by kernel_rfl)) rfl ?_;refine rX rfl ?_;refine ln (wA (ln (ln (wA ?_))));refine z8 (L1:=[sc p _ 165]++R) ae ?_;exact⟨_,⟨oO.bad (by omega),_,rfl⟩,rfl⟩
   refine dE (eB (ma _ _ ?_));clear ma;refine DN ?_;have cq: ¬((k=9∧1<x.toNat)∨(0<k∧x.toNat=0)):=by omega
   obtain⟨uH,AN⟩:=oO.fit cq;refine yr 2 ?_;refine y (kR rfl rfl) rfl ?_;rw[BD yb];refine y (aR rfl underlying5 underlying138) rfl ?_;rw[iN,show((x.toNat % 128:Nat):Int) % 18446744073709551616=((x.toNat % 128:Nat):Int)by omega];refine yr 1 ?_;refine y (j5 rfl rfl (by omega)) rfl ?_;rw[Vt TX uH];refine y (m8 rfl rfl) rfl ?_;rw[tp oO.lt uH (by have:=oO.lt;have:=Rc TX;omega)];refine yn 1 ?_;refine vk 2 ?_;refine cc rfl (fun zz=>?_) (fun zz=>?_)
   ·refine cy 1 ?_;refine y (iI rfl rfl (by decide)) rfl ?_;rw[show(((u+x.toNat % 128*2^(7*k):Nat)):Int).fdiv (2^(min (1:Int).toNat IntKind.u64.bits))=(((u+x.toNat % 128*2^(7*k)) / 2:Nat):Int)by exact m9 (k:=2)];refine y (aR rfl underlying138 underlying2) rfl ?_;refine yr 1 ?_;refine y (kR rfl rfl) rfl ?_;rw[se AN];refine y (aR rfl underlying138 underlying2) rfl ?_;refine y (pr rfl) rfl ?_;refine y (rk rfl rfl) rfl ?_;rw[tW AN];refine yn 1 ?_;refine qE (Pt (np (np (Pt ?_))));refine Cr results143 rfl (L1:=[sc p _ 165]++R) ae ?_;exact⟨_,⟨_,_,oO.last cq (by omega),O6,rfl,rfl⟩,rfl⟩
   refine dE (Na (eB (wj _ _ ?_)));clear wj;refine cr 2 ?_;rw[show IntKind.i64.wrap (((7*k:Nat):Int)+7)=((7*(k+1):Nat):Int)by rw[wr (by omega) (by omega)];omega];refine yr 1 ?_;refine nJ (eB ?_);exact cI (k+1,u+x.toNat % 128*2^(7*k),_,r) ⟨O6,oO.next cq (by omega)⟩ (by dsimp only;omega) _ _ aq ae
  refine yn 4 ?_;refine kN rfl ?_;refine dE (eB (ma _ _ ?_));clear ma;refine DN ?_;have cq: ¬((k=9∧1<x.toNat)∨(0<k∧x.toNat=0)):=by omega
  obtain⟨uH,AN⟩:=oO.fit cq;refine yr 2 ?_;refine y (kR rfl rfl) rfl ?_;rw[BD yb];refine y (aR rfl underlying5 underlying138) rfl ?_;rw[iN,show((x.toNat % 128:Nat):Int) % 18446744073709551616=((x.toNat % 128:Nat):Int)by omega];refine yr 1 ?_;refine y (j5 rfl rfl (by omega)) rfl ?_;rw[Vt TX uH];refine y (m8 rfl rfl) rfl ?_;rw[tp oO.lt uH (by have:=oO.lt;have:=Rc TX;omega)];refine yn 1 ?_;refine vk 2 ?_;refine cc rfl (fun Df=>?_) (fun Df=>?_)
  ·refine cy 1 ?_;refine y (iI rfl rfl (by decide)) rfl ?_;rw[show(((u+x.toNat % 128*2^(7*k):Nat)):Int).fdiv (2^(min (1:Int).toNat IntKind.u64.bits))=(((u+x.toNat % 128*2^(7*k)) / 2:Nat):Int)by exact m9 (k:=2)];refine y (aR rfl underlying138 underlying2) rfl ?_;refine yr 1 ?_;refine y (kR rfl rfl) rfl ?_;rw[se AN];refine y (aR rfl underlying138 underlying2) rfl ?_;refine y (pr rfl) rfl ?_;refine y (rk rfl rfl) rfl ?_;rw[tW AN];refine yn 1 ?_;refine qE (Pt (np (np (Pt ?_))));exfalso;omega
  refine dE (Na (eB (wj _ _ ?_)));clear wj;refine cr 2 ?_;rw[show IntKind.i64.wrap (((7*k:Nat):Int)+7)=((7*(k+1):Nat):Int)by rw[wr (by omega) (by omega)];omega];refine yr 1 ?_;refine nJ (eB ?_);exact cI (k+1,u+x.toNat % 128*2^(7*k),_,r) ⟨O6,oO.next cq (by omega)⟩ (by dsimp only;omega) _ _ aq ae
 refine yr 7 ?_;refine cv 21 rfl (fun MX=>?_) (fun MX=>?_)
 ·refine yn 4 ?_;refine cc rfl (fun TJ=>?_) (fun TJ=>?_)
  ·refine uq ?_;refine y (bU rfl) rfl ?_;refine y (dW rfl (by kernel_rfl)) rfl ?_;refine rX rfl ?_;refine ln (wA (ln (ln (wA ?_))));refine z8 (L1:=[sc p _ 165]++R) ae ?_;exact⟨_,⟨oO.bad (by omega),_,rfl⟩,rfl⟩
  refine dE (eB (ma _ _ ?_));clear ma;refine DN ?_;have cq: ¬((k=9∧1<x.toNat)∨(0<k∧x.toNat=0)):=by omega
  obtain⟨uH,AN⟩:=oO.fit cq;refine yr 2 ?_;refine y (kR rfl rfl) rfl ?_;rw[BD yb];refine y (aR rfl underlying5 underlying138) rfl ?_;rw[iN,show((x.toNat % 128:Nat):Int) % 18446744073709551616=((x.toNat % 128:Nat):Int)by omega];refine yr 1 ?_;refine y (j5 rfl rfl (by omega)) rfl ?_;rw[Vt TX uH];refine y (m8 rfl rfl) rfl ?_;rw[tp oO.lt uH (by have:=oO.lt;have:=Rc TX;omega)];refine yn 1 ?_;refine vk 2 ?_;refine cc rfl (fun BY=>?_) (fun BY=>?_)
  ·refine cy 1 ?_;refine y (iI rfl rfl (by decide)) rfl ?_;rw[show(((u+x.toNat % 128*2^(7*k):Nat)):Int).fdiv (2^(min (1:Int).toNat IntKind.u64.bits))=(((u+x.toNat % 128*2^(7*k)) / 2:Nat):Int)by exact m9 (k:=2)];refine y (aR rfl underlying138 underlying2) rfl ?_;refine yr 1 ?_;refine y (kR rfl rfl) rfl ?_;rw[se AN];refine y (aR rfl underlying138 underlying2) rfl ?_;refine y (pr rfl) rfl ?_;refine y (rk rfl rfl) rfl ?_;rw[tW AN];refine yn 1 ?_;refine qE (Pt (np (np (Pt ?_))));refine Cr results143 rfl (L1:=[sc p _ 165]++R) ae ?_;exact⟨_,⟨_,_,oO.last cq (by omega),O6,rfl,rfl⟩,rfl⟩
  refine dE (Na (eB (wj _ _ ?_)));clear wj;refine cr 2 ?_;rw[show IntKind.i64.wrap (((7*k:Nat):Int)+7)=((7*(k+1):Nat):Int)by rw[wr (by omega) (by omega)];omega];refine yr 1 ?_;refine nJ (eB ?_);exact cI (k+1,u+x.toNat % 128*2^(7*k),_,r) ⟨O6,oO.next cq (by omega)⟩ (by dsimp only;omega) _ _ aq ae
 refine yn 4 ?_;refine kN rfl ?_;refine dE (eB (ma _ _ ?_));clear ma;refine DN ?_;have cq: ¬((k=9∧1<x.toNat)∨(0<k∧x.toNat=0)):=by omega
 obtain⟨uH,AN⟩:=oO.fit cq;refine yr 2 ?_;refine y (kR rfl rfl) rfl ?_;rw[BD yb];refine y (aR rfl underlying5 underlying138) rfl ?_;rw[iN,show((x.toNat % 128:Nat):Int) % 18446744073709551616=((x.toNat % 128:Nat):Int)by omega];refine yr 1 ?_;refine y (j5 rfl rfl (by omega)) rfl ?_;rw[Vt TX uH];refine y (m8 rfl rfl) rfl ?_;rw[tp oO.lt uH (by have:=oO.lt;have:=Rc TX;omega)];refine yn 1 ?_;refine vk 2 ?_;refine cc rfl (fun xN=>?_) (fun xN=>?_)
 ·refine cy 1 ?_;refine y (iI rfl rfl (by decide)) rfl ?_;rw[show(((u+x.toNat % 128*2^(7*k):Nat)):Int).fdiv (2^(min (1:Int).toNat IntKind.u64.bits))=(((u+x.toNat % 128*2^(7*k)) / 2:Nat):Int)by exact m9 (k:=2)];refine y (aR rfl underlying138 underlying2) rfl ?_;refine yr 1 ?_;refine y (kR rfl rfl) rfl ?_;rw[se AN];refine y (aR rfl underlying138 underlying2) rfl ?_;refine y (pr rfl) rfl ?_;refine y (rk rfl rfl) rfl ?_;rw[tW AN];refine yn 1 ?_;refine qE (Pt (np (np (Pt ?_))));refine Cr results143 rfl (L1:=[sc p _ 165]++R) ae ?_;exact⟨_,⟨_,_,oO.last cq (by omega),O6,rfl,rfl⟩,rfl⟩
 refine dE (Na (eB (wj _ _ ?_)));clear wj;refine cr 2 ?_;rw[show IntKind.i64.wrap (((7*k:Nat):Int)+7)=((7*(k+1):Nat):Int)by rw[wr (by omega) (by omega)];omega];refine yr 1 ?_;refine nJ (eB ?_);exact cI (k+1,u+x.toNat % 128*2^(7*k),_,r) ⟨O6,oO.next cq (by omega)⟩ (by dsimp only;omega) _ _ aq ae
abbrev fp:Value:= .slice none 0 0
def oV(b:Nat)(k:Int)(sn:Sv)(n:Nat)(st:Sv)(m:Nat):ax:=sc b [i64 k,aG sn n,aG st m] 88
def tD(r:RecM)(sn st:Sv):Value:= .agg #[i64 r.kind,aG sn r.aH.length,aG st r.texts.length]
structure I9(r:RecM)(sn st:Sv):Prop where
 n:bW sn r.aH.length 1 (aW r.aH)
 t:bW st r.texts.length 1 (cn r.texts)
abbrev jd(r:RecM)(sn st:Sv):List ax:=[aD sn 2 (aW r.aH),aD st 9 (cn r.texts)]
theorem anu [Env]{R:List ax}{p:Nat}{v:Value}{bs:Bytes}(hb:oD R v bs):
   Gn Tryz.prog 87 [ptr p] [rL p v] R (fun u L'=> ∃r sn st v',lU bs=some r∧u=tD r sn st∧I9 r sn st∧L'=rL p v'::jd r sn st) S4 (fun L'=>lU bs=none∧ ∃v',L'=[rL p v']):=by
 refine rf func87 ntmps87 rfl rfl ?_;refine DN ?_;refine ya (aB zeroValue88 rfl) rfl ?_;rintro v L' ⟨b2,rfl,rfl⟩;refine Nd ?_;refine cy 1 ?_;refine I6 (Ji (bs:=bs) ?Y6 ?hz3) rfl call142 aZ rfl ?_ ?_
 case Y6=>exact hb.mono ae
 case hz3=>decide
 ·rintro L' ⟨apn,rfl⟩;refine ln ?_;refine z8 (L1:=[sc p _ 165]++R) ae ?_;exact⟨_,⟨rO (by omega),_,rfl⟩,rfl⟩
 rintro v L' ⟨Zp,rfl,rfl⟩;obtain⟨k0,h0,r,rfl⟩: ∃k h r,bs=k::h::r:=by match bs,Zp with|k::h::r,_=>exact⟨k,h,r,rfl⟩
 have LH:=rd2 hb;have Hr:=asJ hb;have TZ:=k0.toNat_lt;have hhl:=h0.toNat_lt;refine yn 1 ?_;refine cy 1 ?_;refine y (aK LH rfl rfl underlying55 sizeOf5 (by decide) (by decide)) rfl ?_;refine y (au 0 LH ae rfl isAgg5 rfl rfl) rfl ?_;refine y (aR rfl underlying5 underlying3) rfl ?_;rw[wr (by omega) (by omega)];refine y (bU rfl) rfl ?_;refine ya (aB zeroValue88 rfl) rfl ?_;rintro v L' ⟨b4,rfl,rfl⟩;refine bA (ai rfl rfl (by simp[Value.oneCell']) sizeOf88 bc (by rfl) (by rfl)) ?_;refine Nd ?_;refine iS ?_;intro K4 wj;refine BJ 11 [(0,true),(1,true),(2,true),(3,true),(4,true),(5,true),(6,true),(7,true),(8,true),(9,true),(10,true)] (_) _ (fun c a w h1 h2=>⟨h1,h2⟩) Tryz.mixed (by kernel_rfl) .refl ?_;refine hy 1 ?_;refine hr rfl (aK LH rfl rfl underlying55 sizeOf5 (by decide) (by decide)) rfl ?_;refine hr rfl (au 1 LH ae rfl isAgg5 rfl rfl) rfl ?_;refine hr rfl (iH rfl rfl (by decide)) rfl ?_;rw[show((h0.toNat:Int)).tmod 16=((h0.toNat % 16:Nat):Int)from rfl];refine hr rfl (aR rfl underlying5 underlying3) rfl ?_;rw[wr (by omega) (by omega)];refine hy 1 ?_;refine hr rfl (aK LH rfl rfl underlying55 sizeOf5 (by decide) (by decide)) rfl ?_;refine hr rfl (au 1 LH ae rfl isAgg5 rfl rfl) rfl ?_;refine hr rfl (ie rfl rfl (by decide)) rfl ?_;rw[r4,show((h0.toNat:Int)).tdiv 16=((h0.toNat / 16:Nat):Int)from rfl,show((h0.toNat / 16:Nat):Int) % 256=((h0.toNat / 16:Nat):Int)by omega];refine hr rfl (aR rfl underlying5 underlying3) rfl ?_;rw[wr (by omega) (by omega)];refine hy 1 ?_;refine wv ?_;refine yr 1 ?_;refine hwP (eB (wj _ _ ?_));clear wj;refine iS ?_;intro K5 B4
 have zQ: ∀x:Nat × Nat,(x.1=kX h0.toNat∧x.2=js h0.toNat)→Sk 80 K5 ([(6,i64 x.2),(5,i64 x.1),(4,ptr b4),(2,ptr b2),(0,ptr p)]) ([rL p (qB v 2 (k0::h0::r).length 1),oV b4 k0.toNat none 0 none 0,sc b2 [i64 0,fp,fp] 88]++R):=by
  rintro⟨nm,tx⟩ Li;refine B4 _ _ ?_;obtain⟨T5,Pe⟩:=Li;dsimp only at T5 Pe ⊢;have Zt:=Ex h0;rw[←T5]at Zt;unfold oV;refine iS ?_;intro K6 ma;refine vk 2 ?_;refine cc rfl (fun Eg=>?_) (fun Eg=>?_)
  ·refine uq ?_;refine y (bU rfl) rfl ?_;refine y (dW rfl (by kernel_rfl)) rfl ?_;refine rX rfl ?_;refine ln ?_;refine z8 (L1:=[sc p _ 165]++R) ae ?_;exact⟨_,⟨Bf (by omega),_,rfl⟩,rfl⟩
  have LG: ¬4<js h0.toNat:=by omega
  refine dE (eB (ma _ _ ?_));clear ma;refine iS ?_;intro K8 qN;refine vk 2 ?_
  have fQ: ∀x:Nat × Sv × List Int × Value × Bytes,((bW x.2.1 x.1 1 (aW x.2.2.1)∧oD R x.2.2.2.1 x.2.2.2.2∧mU r nm x.1 x.2.2.1 x.2.2.2.2)∧(x.1=nm))→Sk 80 K8 ([(39,i64 x.1),(38,i64 nm),(6,i64 tx),(4,ptr b4),(2,ptr b2),(0,ptr p)]) ([rL p x.2.2.2.1,oV b4 k0.toNat x.2.1 x.1 none 0,aD x.2.1 2 (aW x.2.2.1),sc b2 [i64 0,fp,fp] 88]++R):=by
   rintro⟨k,sn,ns,v1,b1⟩ ⟨bJ,eK⟩;refine qN _ _ ?_;obtain⟨qQ,Hr,tY⟩:=bJ;dsimp only at qQ Hr tY ⊢;have Wx:=tY.le;unfold oV;dsimp only at eK;subst eK;have oJ:=tY.done;rw[T5]at oJ;refine iS ?_;intro VW oN;refine vk 2 ?_
   have B2: ∀x:Nat × Sv × List Bytes × Value × Bytes,((bW x.2.1 x.1 1 (cn x.2.2.1)∧oD R x.2.2.2.1 x.2.2.2.2∧jf b1 tx x.1 x.2.2.1 x.2.2.2.2)∧(x.1=tx))→Sk 80 VW ([(50,i64 x.1),(49,i64 tx),(4,ptr b4),(2,ptr b2),(0,ptr p)]) ([rL p x.2.2.2.1,oV b4 k0.toNat sn k x.2.1 x.1,aD x.2.1 9 (cn x.2.2.1),aD sn 2 (aW ns),sc b2 [i64 0,fp,fp] 88]++R):=by
    rintro⟨z,st,ts,vv,bb⟩ ⟨qc,Dh⟩;refine oN _ _ ?_;obtain⟨k3,B5,ry⟩:=qc;dsimp only at k3 B5 ry ⊢;have hkt:=ry.le;unfold oV;dsimp only at Dh;subst Dh;have SH:=ry.done;rw[Pe]at SH;have hv2:=B5.rd;refine iS ?_;intro K12 xQ;refine cy 4 ?_;refine y (bu rfl underlying55 (cE.bo (by assumption))) rfl ?_;refine yn 1 ?_;refine cc rfl (fun Lc=>?_) (fun Lc=>?_)
    ·refine uq ?_;refine y (bU rfl) rfl ?_;refine y (dW rfl (by kernel_rfl)) rfl ?_;refine rX rfl ?_;refine ln ?_;refine z8 (L1:=[sc p _ 165]++R) ae ?_;exact⟨_,⟨Bg LG oJ SH (by intro e;subst e;simp_all),_,rfl⟩,rfl⟩
    obtain rfl:bb=[]:=List.eq_nil_of_length_eq_zero (by omega);refine dE (eB (xQ _ _ ?_));clear xQ;refine DN ?_;refine y (ak rfl isAgg88 sizeOf88 aL (by rfl)) rfl ?_;refine bA (ai rfl rfl (by(simp only[List.forall_mem_cons,List.not_mem_nil,false_implies,implies_true,bN,and_true,true_and,and_self];first|done|simp[Value.oneCell'])) sizeOf88 bc (by rfl) (by rfl)) ?_;refine Nd ?_;refine qE ?_;refine Z8 (by simp) results87 rfl isAgg88 sizeOf88 aL rfl (L1:=[sc p _ 165,aD sn 2 (aW ns),aD st 9 (cn ts)]++R) ae ?_;exact⟨_,⟨⟨k0.toNat,ns,ts⟩,sn,st,_,Bi LG oJ SH,by unfold tD;rw[tY.len,ry.len],⟨by rw[tY.len];exact qQ,by rw[ry.len];exact k3⟩,rfl⟩,rfl⟩
   clear oN;refine jZ ?_;refine Ax (A:=Nat × Sv × List Bytes × Value × Bytes) (fun x=>[(50,i64 x.1),(49,i64 tx),(4,ptr b4),(2,ptr b2),(0,ptr p)]) (fun x=>[rL p x.2.2.2.1,oV b4 k0.toNat sn k x.2.1 x.1,aD x.2.1 9 (cn x.2.2.1),aD sn 2 (aW ns),sc b2 [i64 0,fp,fp] 88]++R) (fun x=>bW x.2.1 x.1 1 (cn x.2.2.1)∧oD R x.2.2.2.1 x.2.2.2.2∧jf b1 tx x.1 x.2.2.1 x.2.2.2.2) (fun x=>tx-x.1) ((0,none,[],v1,b1)) ?_ aq ae ?_
   · exact⟨⟨rfl,rfl⟩,Hr,.zero b1 tx⟩
   rintro⟨z,st,ts,vv,bb⟩ qc KL2 Lm;have uE:=qc;obtain⟨k3,B5,ry⟩:=qc;dsimp only at k3 B5 ry ⊢;have hkt:=ry.le;unfold oV;refine vk 1 ?_;refine iS ?_;intro K16 Ek;refine cc rfl (fun TE=>?_) (fun TE=>?_)
   ·refine dE (eB (Ek _ _ ?_));clear Ek;refine iS ?_;intro K17 ON;refine jZ ?_;refine cy 1 ?_;refine I6 (Ji (bs:=bb) ?aoY ?aqa) rfl call142 aZ rfl ?_ ?_
    case aoY=>exact B5.mono ae
    case aqa=>decide
    ·rintro L' ⟨atO,rfl⟩;refine ln (wA (ln (ln (wA (ln ?_)))));refine z8 (L1:=[sc p _ 165]++R) ae ?_;obtain rfl:bb=[]:=List.eq_nil_of_length_eq_zero (by omega);exact⟨_,⟨kc LG oJ (by rw[←Pe];exact ry.adW (by omega)),_,rfl⟩,rfl⟩
    rintro v L' ⟨agi,rfl,rfl⟩;obtain⟨x,rr,rfl⟩: ∃x r,bb=x::r:=by cases bb with|nil=>exact absurd agi (by decide)|cons x r=>exact⟨x,r,rfl⟩
    have agX:=rd1 B5;have Y6:=akU B5;have yb:=x.toNat_lt;refine y (aK agX rfl rfl underlying55 sizeOf5 (by decide) (by decide)) rfl ?_;refine y (au 0 agX ae rfl isAgg5 rfl rfl) rfl ?_;refine y (aR rfl underlying5 underlying3) rfl ?_;rw[wr (by omega) (by omega)];refine yn 1 ?_;refine iS ?_;intro K19 afL;refine vk 2 ?_;refine cc rfl (fun h56=>?_) (fun h56=>?_)
    ·refine uq ?_;refine y (bU rfl) rfl ?_;refine y (dW rfl (by kernel_rfl)) rfl ?_;refine rX rfl ?_;refine ln (wA (ln (ln (wA (ln ?_)))));refine z8 (L1:=[sc p _ 165]++R) ae ?_;exact⟨_,⟨kc LG oJ (by rw[←Pe];exact ry.bad (by omega) (by omega)),_,rfl⟩,rfl⟩
    refine dE (eB (afL _ _ ?_));clear afL;refine BJ 9 [(0,true),(1,true),(2,true),(3,true),(4,false),(5,true),(6,false),(7,false),(8,true)] ([sc b4 _ 88]++R) _ (fun c a w h1 h2=>⟨h1,h2⟩) Tryz.mixed (by kernel_rfl) ae ?_;refine hy 4 ?_;refine OV rfl (Ji (bs:=rr) ?ao0 ?aqb) rfl call142 aZ rfl ?_ ?_
    case ao0=>exact Y6.mono ae
    case aqb=>omega
    ·rintro L' ⟨atP,rfl⟩ w hh;exact .inr ⟨_,rfl,⟨by(exact kc LG oJ (by rw[←Pe];exact ry.bad (by omega) (by omega))),_,rfl⟩,(show Ge _ (_++R)from ae).has hh⟩
    rintro v L' ⟨atM,rfl,rfl⟩;refine⟨ae,?_⟩;have hle:x.toNat≤rr.length:=by omega
    have hb4:=Y6.take hle;have hb5:=Y6.drop hle;refine hr rfl (jq hb4.rd.bytes ae rfl underlying55 underlying9 underlying5) rfl ?_;refine ha rfl (aE rfl underlying86 sizeOf9 zeroValue9 rfl rfl rfl rfl ⟨⟨_,_,rfl,(by rfl),(by decide)⟩,trivial⟩ (by dsimp[bt,aX,aY,bS]<;>rfl)) rfl ?_;rintro v L' ⟨b67,rfl,rfl⟩;refine⟨ae,?_⟩;refine ha rfl (aO (s:=st) (xs:=cn ts) (m:=z) (k:=1) (us:=[.string ⟨(rr.take x.toNat).toArray⟩]) (size:=1) rfl rfl (by repeat first|exact .z|apply Pk.s) underlying86 underlying86 (by intro q hq;cases hq) typeInfo9 rfl rfl rfl ?aa3 ?RM ?QY ?NK) rfl ?_
    case aa3=>exact k3
    case RM=>exact cz aL rfl rfl
    case QY=>simp[Value.oneCell']
    case NK=>show(z+1)*17≤_;omega
    rintro v L' ⟨s68,rfl,ajo,rfl⟩;refine⟨ae,?_⟩;rw[zd]at ajo ⊢;refine hy 1 ?_;refine wv ?_;refine bA (an rfl rfl (by exact bN _ _) sizeOf86 bc rfl rfl) ?_;have Ud:=ry.step (by omega) (by omega) hle;refine hwP (Na (eB (ON _ _ ?_)));clear ON;refine cr 1 ?_;rw[show IntKind.i64.wrap ((z:Int)+1)=((z+1:Nat):Int)by rw[wr (by omega) (by omega)];rfl];refine yr 1 ?_;refine nJ (eB ?_);exact Lm (z+1,s68,ts++[rr.take x.toNat],_,rr.drop x.toNat) ⟨ajo,hb5,Ud⟩ (by dsimp only;omega) _ _ aq ae
   refine vg (nZ (nZ (WK (eB ?_))));exact aV aq ae (B2 ⟨z,st,ts,vv,bb⟩ ⟨uE,by dsimp only;omega⟩)
  clear qN;refine jZ ?_;refine Ax (A:=Nat × Sv × List Int × Value × Bytes) (fun x=>[(39,i64 x.1),(38,i64 nm),(6,i64 tx),(4,ptr b4),(2,ptr b2),(0,ptr p)]) (fun x=>[rL p x.2.2.2.1,oV b4 k0.toNat x.2.1 x.1 none 0,aD x.2.1 2 (aW x.2.2.1),sc b2 [i64 0,fp,fp] 88]++R) (fun x=>bW x.2.1 x.1 1 (aW x.2.2.1)∧oD R x.2.2.2.1 x.2.2.2.2∧mU r nm x.1 x.2.2.1 x.2.2.2.2) (fun x=>nm-x.1) ((0,none,[],qB v 2 (k0::h0::r).length 1,r)) ?_ aq ae ?_
  · exact⟨⟨rfl,rfl⟩,Hr,.zero r nm⟩
  rintro⟨k,sn,ns,v1,b1⟩ bJ kt cI;have cC:=bJ;obtain⟨qQ,Hr,tY⟩:=bJ;dsimp only at qQ Hr tY ⊢;have Wx:=tY.le;unfold oV;refine vk 1 ?_;refine iS ?_;intro K22 El;refine cc rfl (fun OI=>?_) (fun OI=>?_)
  ·refine dE (eB (El _ _ ?_));clear El;refine iS ?_;intro K23 OP;refine jZ ?_;refine BJ 7 [(0,true),(1,true),(2,true),(3,false),(4,false),(5,false),(6,true)] ([sc b4 _ 88]++R) _ (fun c a w h1 h2=>⟨h1,h2⟩) Tryz.mixed (by kernel_rfl) ae ?_;refine hy 3 ?_;refine OV rfl (S8 (bs:=b1) (R0:=R) ?apa ?ao1) rfl call143 aZ rfl ?_ ?_
   case apa=>exact ae
   case ao1=>exact Hr
   ·rintro L' ⟨agt,v44,rfl⟩ w hh;exact .inr ⟨_,rfl,⟨by(exact Bh LG (by rw[←T5];exact tY.bad (by omega) (by assumption))),_,rfl⟩,(show Ge _ (_++R)from ae).has hh⟩
   rintro v L' ⟨q44,v44,agt,aoW,rfl,rfl⟩;refine⟨ae,?_⟩;refine ha rfl (aE rfl underlying57 sizeOf2 zeroValue2 rfl rfl rfl rfl ⟨⟨_,_,rfl,(by rfl),(by decide)⟩,trivial⟩ (by dsimp[bt,aX,aY,bS]<;>rfl)) rfl ?_;rintro v L' ⟨b45,rfl,rfl⟩;refine⟨ae,?_⟩;refine ha rfl (aO (s:=sn) (xs:=aW ns) (m:=k) (k:=1) (us:=[i64 (An q44.1)]) (size:=1) rfl rfl (by repeat first|exact .z|apply Pk.s) underlying57 underlying57 (by intro q hq;cases hq) typeInfo2 rfl rfl rfl ?Vd ?alQ ?aj8 ?ad8) rfl ?_
   case Vd=>exact qQ
   case alQ=>exact cz aL rfl rfl
   case aj8=>simp[Value.oneCell']
   case ad8=>show(k+1)*9≤_;omega
   rintro v L' ⟨s46,rfl,Ff,rfl⟩;refine⟨ae,?_⟩;rw[yd]at Ff ⊢;refine hy 1 ?_;refine wv ?_;refine bA (an rfl rfl (by exact bN _ _) sizeOf57 bc rfl rfl) ?_;have T3:=tY.step (by omega) agt;refine hwP (Na (eB (OP _ _ ?_)));clear OP;refine cr 1 ?_;rw[show IntKind.i64.wrap ((k:Int)+1)=((k+1:Nat):Int)by rw[wr (by omega) (by omega)];rfl];refine yr 1 ?_;refine nJ (eB ?_);exact cI (k+1,s46,ns++[An q44.1],v44,q44.2) ⟨Ff,aoW,T3⟩ (by dsimp only;omega) _ _ aq ae
  refine vg (nZ (nZ (WK (eB ?_))));exact aV aq ae (fQ ⟨k,sn,ns,v1,b1⟩ ⟨cC,by dsimp only;omega⟩)
 clear B4;refine cy 1 ?_;refine y (aK LH rfl rfl underlying55 sizeOf5 (by decide) (by decide)) rfl ?_;refine y (au 1 LH ae rfl isAgg5 rfl rfl) rfl ?_;refine yn 1 ?_;refine cc rfl (fun AI=>?_) (fun AI=>?_)
 ·refine BJ 6 [(0,true),(1,true),(2,true),(3,true),(4,true),(5,true)] (_) _ (fun c a w h1 h2=>⟨h1,h2⟩) Tryz.mixed (by kernel_rfl) .refl ?_;refine hy 1 ?_;refine hr rfl (aK LH rfl rfl underlying55 sizeOf5 (by decide) (by decide)) rfl ?_;refine hr rfl (au 1 LH ae rfl isAgg5 rfl rfl) rfl ?_;refine hy 1 ?_;rw[r4,show((h0.toNat:Int)- 240) % 256=((h0.toNat- 240:Nat):Int)by omega];refine hr rfl (aR rfl underlying5 underlying3) rfl ?_;rw[wr (by omega) (by omega)];refine hy 1 ?_;rw[show Value.int .i64 16=i64 ((16:Nat):Int)from rfl];refine wv ?_;refine yr 1 ?_;refine hwP (eB ?_);exact aV aq ae (zQ (_,_) (⟨by dsimp only;unfold kX;rw[if_pos (by omega)],by dsimp only;unfold js;rw[if_pos (by omega)]⟩))
 refine dE (eB ?_);exact aV aq ae (zQ (_,_) (⟨by dsimp only;unfold kX;rw[if_neg (by omega)],by dsimp only;unfold js;rw[if_neg (by omega)]⟩))
end W
end Go.Proofs