/- A part of the proof. -/
import Derived.Test.YtlignadmmopdmaaGreatUn
import Derived.Test.YtlignadmmopdmaaGreatN22
import Derived.Test.YtlignadmmopdmaaGreatGC
set_option linter.unusedVariables false
set_option linter.unusedSimpArgs false
set_option linter.constructorNameAsVariable false
namespace Go.Proofs
open _root_.Go.Proofs.Tryz
open Go Go.Sl
namespace W
set_option maxHeartbeats 4000000
theorem PW [Env]{R:List ax}{F:NF}{V:NV}{n:aa}{m:aM}(hn:n.ok 970000)(hV:ct V n)(hm:m.ok):
   bC Tryz.prog 105 [ptr F.p,.agg m.cells.toArray] (ao F V n) R (KN F (n.granted m) (.tuple #[])):=by
 have xS:=hn.n.born;have hmn:=hm.n;have hck:=hn.n.clock;have hoa:=hn.eC (e:=m.ah) hm.ah;have hac:=aa.u5 n m.ah;refine ag func105 ntmps105 rfl rfl ?_;unfold ao bB;refine gc 1 ?_;refine ya (a7 (vs:=m.cells) rfl rfl) rfl ?_;rintro v L' ⟨b3,rfl,rfl⟩;refine gy 4 ?_;refine aS 11 (od [] 11 0) (_) Tryz.mixed (by kernel_rfl) .refl ?_;refine gh 4 ?_;refine fZ 8 rfl (fun h6=>?_) (fun h6=>?_)
 ·refine gh 14 ?_;refine aS 23 (od [] 23 0) (_) Tryz.mixed (by kernel_rfl) .refl ?_;refine gh 8 ?_;refine fZ 24 rfl (fun nf=>?_) (fun nf=>?_)
  ·refine gh 9 ?_;refine fZ 33 rfl (fun Eg=>?_) (fun Eg=>?_)
   ·refine gh 10 ?_;refine cc rfl (fun Eh=>?_) (fun Eh=>?_)
    ·refine gc 1 ?_;have vB:n.granted m=n.du:=by unfold aa.granted;rw[if_pos (by omega),if_pos (by omega)]
     refine gy 1 ?_;refine aA (ql (V:=V) (n:=n)) rfl call106 aZ rfl ?_;rintro v L' ⟨p42,rfl,rfl⟩;refine gy 4 ?_;refine bj results105 (L1:=ao F (V.bare p42) n.du++R) ae ?_;rw[vB];exact⟨_,⟨V.bare p42,rfl,⟨hV.out,⟨rfl,rfl⟩,⟨rfl,rfl⟩,hV.sl⟩,rfl⟩,rfl⟩
    have vB:n.granted m=n:=by unfold aa.granted;rw[if_pos (by omega),if_neg (by omega)]
    refine gc 4 ?_;refine bj results105 (L1:=ao F V n++R) ae ?_;rw[vB];exact⟨_,⟨V,rfl,hV,rfl⟩,rfl⟩
   have vB:n.granted m=n:=by unfold aa.granted;rw[if_pos (by omega),if_neg (by omega)]
   refine gh 15 ?_;refine bj results105 (L1:=ao F V n++R) ae ?_;rw[vB];exact⟨_,⟨V,rfl,hV,rfl⟩,rfl⟩
  have vB:n.granted m=n:=by unfold aa.granted;rw[if_pos (by omega),if_neg (by omega)]
  refine gh 24 ?_;refine bj results105 (L1:=ao F V n++R) ae ?_;rw[vB];exact⟨_,⟨V,rfl,hV,rfl⟩,rfl⟩
 refine gh 11 ?_;refine cc rfl (fun h49=>?_) (fun h49=>?_)
 ·refine gc 2 ?_;refine aS 23 (od [] 23 0) (_) Tryz.mixed (by kernel_rfl) .refl ?_;refine gh 8 ?_;refine fZ 24 rfl (fun Lf=>?_) (fun Lf=>?_)
  ·refine gh 9 ?_;refine fZ 33 rfl (fun Gd=>?_) (fun Gd=>?_)
   ·refine gh 10 ?_;refine cc rfl (fun Hm=>?_) (fun Hm=>?_)
    ·refine gc 1 ?_;have vB:n.granted m=n.du:=by unfold aa.granted;rw[if_pos (by omega),if_pos (by omega)]
     refine gy 1 ?_;refine aA (ql (V:=V) (n:=n)) rfl call106 aZ rfl ?_;rintro v L' ⟨p42,rfl,rfl⟩;refine gy 4 ?_;refine bj results105 (L1:=ao F (V.bare p42) n.du++R) ae ?_;rw[vB];exact⟨_,⟨V.bare p42,rfl,⟨hV.out,⟨rfl,rfl⟩,⟨rfl,rfl⟩,hV.sl⟩,rfl⟩,rfl⟩
    have vB:n.granted m=n:=by unfold aa.granted;rw[if_pos (by omega),if_neg (by omega)]
    refine gc 4 ?_;refine bj results105 (L1:=ao F V n++R) ae ?_;rw[vB];exact⟨_,⟨V,rfl,hV,rfl⟩,rfl⟩
   have vB:n.granted m=n:=by unfold aa.granted;rw[if_pos (by omega),if_neg (by omega)]
   refine gh 15 ?_;refine bj results105 (L1:=ao F V n++R) ae ?_;rw[vB];exact⟨_,⟨V,rfl,hV,rfl⟩,rfl⟩
  have vB:n.granted m=n:=by unfold aa.granted;rw[if_pos (by omega),if_neg (by omega)]
  refine gh 24 ?_;exfalso;omega
 refine gc 3 ?_;refine aS 8 (od [] 8 0) (_) Tryz.mixed (by kernel_rfl) .refl ?_;refine gh 6 ?_;refine hr rfl (gS rfl rfl) rfl ?_;rw[wr (by omega) (by omega)];refine gh 1 ?_;rw[wr (by omega) (by omega)];obtain⟨z,hz⟩: ∃z,m.n-n.born*4294967296=z:=⟨_,rfl⟩;rw[hz];have SA:n.granted m=n.gL m z:=by unfold aa.granted;rw[if_neg (by omega),hz]
 refine gh 11 ?_;refine bK (qm) call41 ?_;refine gy 3 ?_;refine cc rfl (fun MY=>?_) (fun MY=>?_)
 ·have vB:n.granted m=n:=by
    have h9: ¬(0≤z∧z≤n.clock):=fun hh=>by simp[aI,hh.1,hh.2]at MY
    rw[SA];unfold aa.gL;rw[if_pos (by omega)]
  refine gc 2 ?_;refine bj results105 (L1:=ao F V n++R) ae ?_;rw[vB];exact⟨_,⟨V,rfl,hV,rfl⟩,rfl⟩
 have Cl:=ca.1 (by simpa using MY:aI z 0 n.clock=true);refine gc 2 ?_;refine bq ?_;intro VX wh
 have ng: ∀x:NV × aa,(n.granted m=x.2.lS z∧x.2.ok 970001∧ct x.1 x.2∧x.2.clock=n.clock)→Sk 121 VX ([(0,ptr F.p),(3,ptr b3),(4,i64 z)]) (sc b3 m.cells 34::ao F x.1 x.2++R):=by
  rintro⟨V1,n1⟩ Ju;refine wh _ _ ?_;obtain⟨hgl,cD,dN,OU⟩:=Ju;dsimp only at hgl cD dN OU ⊢;unfold ao;have aub:=cD.a.lease;have aud:=cD.n.left;have hmx:(if n1.lease-(n1.clock-z)>n1.left then n1.lease-(n1.clock-z)else n1.left)=max n1.left (n1.lease-(n1.clock-z)):=by split<;>omega
  refine aS 19 [(0,true),(1,true),(2,true),(3,true),(4,true),(5,true),(7,true),(8,true),(9,true),(10,true),(11,true),(12,true),(13,true),(14,true),(15,true),(16,true),(17,true),(6,false),(18,true)] ([bB F V1 n1]++R) Tryz.mixed (by kernel_rfl) ae ?_;refine gh 16 ?_;rw[wr (by omega) (by omega)];refine gh 1 ?_;rw[wr (by omega) (by omega)];refine bg rfl (P6 (V:=V1) (n:=n1)) rfl call50 aZ rfl ?_;rintro v L' ⟨rfl,rfl⟩;refine⟨ae,?_⟩;refine hr rfl (mK rfl rfl) rfl ?_;rw[hmx];refine gh 1 ?_;refine bK (WV (V:=V1) (n:=n1)) call161 ?_;refine gy 1 ?_;refine aN results105 (L1:=ao F V1 (n1.lS z)++R) ae ?_;rw[hgl];exact⟨_,⟨V1,rfl,⟨dN.out,dN.sw,dN.si,dN.sl⟩,rfl⟩,rfl⟩
 clear wh;refine gc 2 ?_;refine aS 7 (od [] 7 0) (_) Tryz.mixed (by kernel_rfl) .refl ?_;refine gh 11 ?_;refine cc rfl (fun Ee=>?_) (fun Ee=>?_)
 ·refine gc 5 ?_;refine aA (PM (V:=V) (n:=n) ?Il ?I3 ?ah5) rfl call111 aZ rfl ?_
  case Il=>exact hn.le (by decide)
  case I3=>exact hV
  case ah5=>exact hm.ah
  rintro v L' ⟨V69,rfl,R2,rfl⟩;refine gy 3 ?_;refine cc rfl (fun zM=>?_) (fun zM=>?_)
  ·have vB:n.granted m=(n.eC m.ah).2:=by rw[SA];unfold aa.gL;rw[if_neg (by omega),if_pos (by omega)];exact if_neg (by simpa using zM)
   refine gc 4 ?_;refine bj results105 (L1:=ao F V69 (n.eC m.ah).2++R) ae ?_;rw[vB];exact⟨_,⟨V69,rfl,R2,rfl⟩,rfl⟩
  have vB:n.granted m=((n.eC m.ah).2.vn m.seq).lS z:=by rw[SA];unfold aa.gL;rw[if_neg (by omega),if_pos (by omega)];exact if_pos (by simpa using zM)
  unfold ao bB;refine gc 3 ?_;refine aS 14 (od [8,11] 14 0) ([sc b3 _ 34]++R) Tryz.mixed (by kernel_rfl) ae ?_;refine gh 8 ?_;refine Eo rfl (an rfl rfl (by rfl) sizeOf3 bc rfl rfl) ?_;rintro v L' ⟨rfl,rfl⟩;refine⟨ae,?_⟩;refine gh 2 ?_;refine Eo rfl (an rfl rfl (by rfl) sizeOf3 bc rfl rfl) ?_;rintro v L' ⟨rfl,rfl⟩;refine⟨ae,?_⟩;refine gh 3 ?_;refine bA (an rfl rfl (by rfl) sizeOf2 bc rfl rfl) ?_;refine gy 4 ?_;refine aA (E2 (V:=V69) (n:={(n.eC m.ah).2 with role:=1,mask:=m.seq,change:=0}) ?abP ?ajO) rfl call68 aZ rfl ?_
  case abP=>exact R2.out
  case ajO=>have:=hoa.out;show(n.eC m.ah).2.out.length≤1000000;omega
  rintro v L' ⟨o84,rfl,QR,rfl⟩;refine gy 3 ?_;exact aV aq ae (ng ({V69 with out:=o84},(n.eC m.ah).2.vn m.seq) ⟨vB,hoa.vn hm.seq,⟨QR,R2.sw,R2.si,R2.sl⟩,hac⟩)
 refine gc 1 ?_;refine aS 15 (od [] 15 0) (_) Tryz.mixed (by kernel_rfl) .refl ?_;refine gh 8 ?_;refine fZ 93 rfl (fun Yw=>?_) (fun Yw=>?_)
 ·have vB:n.granted m=n:=by rw[SA];unfold aa.gL;rw[if_neg (by omega),if_neg (by omega),if_pos (by omega)]
  refine gh 15 ?_;refine bj results105 (L1:=ao F V n++R) ae ?_;rw[vB];exact⟨_,⟨V,rfl,hV,rfl⟩,rfl⟩
 refine gh 11 ?_;refine cc rfl (fun Hg=>?_) (fun Hg=>?_)
 ·have vB:n.granted m=n:=by rw[SA];unfold aa.gL;rw[if_neg (by omega),if_neg (by omega),if_pos (by omega)]
  refine gc 3 ?_;refine bj results105 (L1:=ao F V n++R) ae ?_;rw[vB];exact⟨_,⟨V,rfl,hV,rfl⟩,rfl⟩
 refine gc 3 ?_;exact aV aq ae (ng (V,n) ⟨(by rw[SA];unfold aa.gL;rw[if_neg (by omega),if_neg (by omega),if_neg (by omega)]),hn.le (by decide),hV,rfl⟩)
theorem aas [Env]{R:List ax}{F:NF}{V:NV}{n:aa}{e:Int}(hn:n.ok 970000)(hV:ct V n)(he:gg e):
   bC Tryz.prog 104 [ptr F.p,i64 e] (ao F V n) R (KN F (n.found e) (.tuple #[])):=by
 have B7:=hn.a.blocks;obtain⟨N,hN⟩: ∃N:Nat,n.blocks=N:=⟨n.blocks.toNat,by omega⟩;have hNt:n.blocks.toNat=N:=by omega
 refine ag func104 ntmps104 rfl rfl ?_;unfold ao bB;refine bq ?_;intro K1 OM;refine gc 8 ?_
 have fQ: ∀x:Nat × aa,((x.1≤N∧fx aa.pB (List.range N) n x.1 x.2∧x.2.ok 970000∧ct V x.2)∧(x.1=N))→Sk 30 K1 ([(9,i64 x.1),(8,i64 n.blocks),(0,ptr F.p),(1,i64 e)]) (ao F V x.2++R):=by
  rintro⟨k,m⟩ ⟨bJ,eK⟩;refine OM _ _ ?_;obtain⟨hk,hE,hm,mm⟩:=bJ;dsimp only at hk hE hm mm ⊢;unfold ao bB;dsimp only at eK;rw[eK]at hE;have TU:n.found e=m.G6 (m.iF e):=by unfold aa.found;rw[hNt,fx.done (by rw[List.length_range];exact hE)];rfl
  refine gc 4 ?_;refine aA (WS (V:=V) (n:=m) ?Qs ?R7 ?ne9) rfl call49 aZ rfl ?_
  case Qs=>exact hm.le (by decide)
  case R7=>exact mm
  case ne9=>exact he
  rintro v L' ⟨Xn,rfl,Al,rfl⟩;refine bK (qP (V:=Xn) (n:=(m.iF e).2)) call121 ?_;refine gy 2 ?_;refine cc rfl (fun zK=>?_) (fun zK=>?_)
  ·have gw:n.found e={(m.iF e).2.err (m.iF e).1 with lost:=false}:=TU.trans (if_pos zK);unfold bB;refine gc 4 ?_;refine bA (an rfl rfl (by rfl) sizeOf4 bc rfl rfl) ?_;refine gy 1 ?_;refine aN results104 (L1:=ao F Xn {(m.iF e).2.err (m.iF e).1 with lost:=false}++R) ae ?_;rw[gw];exact⟨_,⟨Xn,rfl,⟨Al.out,Al.sw,Al.si,Al.sl⟩,rfl⟩,rfl⟩
  have gw:n.found e=(m.iF e).2.err (m.iF e).1:=TU.trans (if_neg zK);refine gc 1 ?_;refine aN results104 (L1:=ao F Xn ((m.iF e).2.err (m.iF e).1)++R) ae ?_;rw[gw];exact⟨_,⟨Xn,rfl,⟨Al.out,Al.sw,Al.si,Al.sl⟩,rfl⟩,rfl⟩
 clear OM;refine gc 1 ?_;refine bO (A:=Nat × aa) (fun x=>[(9,i64 x.1),(8,i64 n.blocks),(0,ptr F.p),(1,i64 e)]) (fun x=>ao F V x.2++R) (fun x=>x.1≤N∧fx aa.pB (List.range N) n x.1 x.2∧x.2.ok 970000∧ct V x.2) (fun x=>N-x.1) ((0,n)) ?_ aq ae ?_
 · exact⟨Nat.zero_le _,fx.zero,hn,hV⟩
 rintro⟨k,m⟩ bJ kt cI;have cC:=bJ;obtain⟨hk,hE,hm,mm⟩:=bJ;dsimp only at hk hE hm mm ⊢;unfold ao bB;refine gc 5 ?_;refine cc rfl (fun h17=>?_) (fun h17=>?_)
 ·refine gc 5 ?_;have hkk:(List.range N)[k]? =some k:=by rw[List.getElem?_range (by omega)]
  obtain⟨r,hR⟩: ∃z,m.dr.mark m.d (k:Int)=z:=⟨_,rfl⟩;have uH:aa.pB m k=(decide (r.1=0),(m.iG r).err r.1):=by unfold aa.pB;rw[hR];rfl
  have apJ:((m.iG r).err r.1).ok 970000:=by rw[←hR];exact hm.mark (k:Int)
  refine gy 11 ?_;refine bK (NZ (L:=m.dr) (D:=m.d) (i:=(k:Int)) ?anN ?anH ?anK) call156 ?_
  case anN=>exact hm.p.dr
  case anH=>omega
  case anK=>omega
  rw[hR];refine bK (qP (V:=V) (n:=m.iG r)) call121 ?_;refine gy 3 ?_;refine cc rfl (fun Ss=>?_) (fun Ss=>?_)
  ·have gw:n.found e=(m.iG r).err r.1:=by
     have hs:=hE.stop hkk (m':=(m.iG r).err r.1) (by rw[uH];simp_all);unfold aa.found;rw[hNt,hs];rfl
   refine gc 6 ?_;refine bj results104 (L1:=ao F V ((m.iG r).err r.1)++R) ae ?_;rw[gw];exact⟨_,⟨V,rfl,⟨mm.out,mm.sw,mm.si,mm.sl⟩,rfl⟩,rfl⟩
  have hs:=hE.step hkk (m':=(m.iG r).err r.1) (by rw[uH];simp_all);refine gc 5 ?_;rw[show IntKind.i64.wrap ((k:Int)+1)=((k+1:Nat):Int)by rw[wr (by omega) (by omega)];rfl];refine gy 3 ?_;exact cI ((k+1,(m.iG r).err r.1)) (⟨by omega,hs,apJ,⟨mm.out,mm.sw,mm.si,mm.sl⟩⟩) (by dsimp only;omega) _ _ aq ae
 refine gc 5 ?_;exact aV aq ae (fQ ⟨k,m⟩ ⟨cC,by dsimp only;omega⟩)
theorem aat [Env]{R:List ax}{F:NF}{V:NV}{n:aa}{m:aM}{fr:Int}(hn:n.ok 970000)(hV:ct V n)(hm:m.ok):
   bC Tryz.prog 61 [ptr F.p,i64 fr,.agg m.cells.toArray] (ao F V n) R (KN F (n.heard m) (.tuple #[])):=by
 refine ag func61 ntmps61 rfl rfl ?_;unfold ao bB;refine gc 1 ?_;refine ya (a7 (vs:=m.cells) rfl rfl) rfl ?_;rintro v L' ⟨b5,rfl,rfl⟩;refine gy 11 ?_;refine cc rfl (fun h7=>?_) (fun h7=>?_)
 ·refine gc 1 ?_;refine aS 16 (od [] 16 0) (_) Tryz.mixed (by kernel_rfl) .refl ?_;refine gh 4 ?_;refine fZ 14 rfl (fun AG=>?_) (fun AG=>?_)
  ·refine gh 5 ?_;refine fZ 19 rfl (fun Dc=>?_) (fun Dc=>?_)
   ·refine gh 11 ?_;refine cc rfl (fun Gb=>?_) (fun Gb=>?_)
    ·refine gc 4 ?_;refine aA (aas (V:=V) (n:=n) ?air ?amm ?aqA) rfl call104 aZ rfl ?_
     case air=>exact hn
     case amm=>exact hV
     case aqA=>exact hm.ah
     rintro v L' ⟨V31,rfl,ati,rfl⟩;refine gy 2 ?_;refine aN results61 (L1:=ao F V31 (n.found m.ah)++R) ae ?_;rw[show n.heard m=n.found m.ah from by unfold aa.heard;simp_all];exact⟨_,⟨V31,rfl,ati,rfl⟩,rfl⟩
    refine gc 2 ?_;refine aN results61 (L1:=ao F V n++R) ae ?_;rw[show n.heard m=n from by unfold aa.heard;simp_all];exact⟨_,⟨V,rfl,hV,rfl⟩,rfl⟩
   refine gh 14 ?_;refine aN results61 (L1:=ao F V n++R) ae ?_;rw[show n.heard m=n from by unfold aa.heard;simp_all];exact⟨_,⟨V,rfl,hV,rfl⟩,rfl⟩
  refine gh 19 ?_;refine aN results61 (L1:=ao F V n++R) ae ?_;rw[show n.heard m=n from by unfold aa.heard;simp_all];exact⟨_,⟨V,rfl,hV,rfl⟩,rfl⟩
 refine gc 7 ?_;refine cc rfl (fun Lc=>?_) (fun Lc=>?_)
 ·refine gc 2 ?_;refine y (ak rfl isAgg34 sizeOf34 aL (by rfl)) rfl ?_;refine aA (PW (V:=V) (n:=n) (m:=m) ?ait ?amo ?aqP) rfl call105 aZ rfl ?_
  case ait=>exact hn
  case amo=>exact hV
  case aqP=>exact hm
  rintro v L' ⟨V38,rfl,atl,rfl⟩;refine gy 2 ?_;refine aN results61 (L1:=ao F V38 (n.granted m)++R) ae ?_;rw[show n.heard m=n.granted m from by unfold aa.heard;simp_all];exact⟨_,⟨V38,rfl,atl,rfl⟩,rfl⟩
 refine gc 1 ?_;refine aS 20 (od [] 20 0) (_) Tryz.mixed (by kernel_rfl) .refl ?_;refine gh 4 ?_;refine fZ 43 rfl (fun OF=>?_) (fun OF=>?_)
 ·refine gh 23 ?_;refine aN results61 (L1:=ao F V n++R) ae ?_;rw[show n.heard m=n from by unfold aa.heard;simp_all];exact⟨_,⟨V,rfl,hV,rfl⟩,rfl⟩
 refine gh 8 ?_;refine fZ 51 rfl (fun xP=>?_) (fun xP=>?_)
 ·refine gh 15 ?_;refine aN results61 (L1:=ao F V n++R) ae ?_;rw[show n.heard m=n from by unfold aa.heard;simp_all];exact⟨_,⟨V,rfl,hV,rfl⟩,rfl⟩
 refine gh 12 ?_;refine cc rfl (fun OI=>?_) (fun OI=>?_)
 ·refine gc 2 ?_;refine aN results61 (L1:=ao F V n++R) ae ?_;rw[show n.heard m=n from by unfold aa.heard;simp_all];exact⟨_,⟨V,rfl,hV,rfl⟩,rfl⟩
 refine gc 7 ?_;refine cc rfl (fun h78=>?_) (fun h78=>?_)
 ·refine gc 2 ?_;refine aA (ql (V:=V) (n:=n)) rfl call106 aZ rfl ?_;rintro v L' ⟨p65,rfl,rfl⟩;refine gy 2 ?_;refine aN results61 (L1:=ao F (V.bare p65) n.du++R) ae ?_;rw[show n.heard m=n.du from by unfold aa.heard;simp_all;intro;omega];exact⟨_,⟨V.bare p65,rfl,⟨hV.out,⟨rfl,rfl⟩,⟨rfl,rfl⟩,hV.sl⟩,rfl⟩,rfl⟩
 refine gc 1 ?_;refine aS 20 (od [] 20 0) (_) Tryz.mixed (by kernel_rfl) .refl ?_;refine gh 4 ?_;refine fZ 70 rfl (fun Hn=>?_) (fun Hn=>?_)
 ·refine gh 8 ?_;refine fZ 78 rfl (fun h94=>?_) (fun h94=>?_)
  ·refine gh 12 ?_;refine cc rfl (fun rl=>?_) (fun rl=>?_)
   ·refine gc 4 ?_;refine aA (PR (V:=V) (n:=n) ?aaK ?ac6 ?aij) rfl call107 aZ rfl ?_
    case aaK=>exact hn
    case ac6=>exact hV
    case aij=>exact hm.seq
    rintro v L' ⟨Xp,rfl,R4,rfl⟩;refine gy 2 ?_;refine aN results61 (L1:=ao F Xp (n.changed m.seq)++R) ae ?_;rw[show n.heard m=n.changed m.seq from by unfold aa.heard;simp_all;intro;omega];exact⟨_,⟨Xp,rfl,R4,rfl⟩,rfl⟩
   refine gc 2 ?_;refine aN results61 (L1:=ao F V n++R) ae ?_;rw[show n.heard m=n from by unfold aa.heard;simp_all];exact⟨_,⟨V,rfl,hV,rfl⟩,rfl⟩
  refine gh 15 ?_;refine aN results61 (L1:=ao F V n++R) ae ?_;rw[show n.heard m=n from by unfold aa.heard;simp_all];exact⟨_,⟨V,rfl,hV,rfl⟩,rfl⟩
 refine gh 23 ?_;refine aN results61 (L1:=ao F V n++R) ae ?_;rw[show n.heard m=n from by unfold aa.heard;simp_all];exact⟨_,⟨V,rfl,hV,rfl⟩,rfl⟩
theorem P1 [Env]{R:List ax}{F:NF}{V:NV}{n:aa}{t:T4}(hn:n.ok 970000)(hV:ct V n):
   bC Tryz.prog 108 [ptr F.p,.agg (qL t).toArray] (ao F V n) R (KN F (n.recover t) (.tuple #[])):=by
 obtain⟨r,hR⟩: ∃z,n.c.note n.d 0 0 t.l=z:=⟨_,rfl⟩;have qd:jR n.c n.d r:=by rw[←hR];exact kb hn.p.c _ _ _
 refine ag func108 ntmps108 rfl rfl ?_;unfold ao bB;refine gc 1 ?_;refine ya (a7 (vs:=qL t) rfl rfl) rfl ?_;rintro v L' ⟨b3,rfl,rfl⟩;refine gy 2 ?_;refine bq ?_;intro K2 gM
 have zP: ∀x:NV × aa,(n.recover t=(aa.andThen x.2.qK.again fun n=>n.bP.dX)∧x.2.ok 970000∧ct x.1 x.2)→Sk 79 K2 ([(0,ptr F.p)]) (ao F x.1 x.2++R):=by
  rintro⟨V2,n2⟩ afE;refine gM _ _ ?_;obtain⟨j8,eV,jC⟩:=afE;dsimp only at j8 eV jC ⊢;unfold ao bB;have gb:n2.qK.ok 970000:=eV.y5 (.new _ _);have lf:=gb.again;refine gc 2 ?_;refine aA (A3) rfl call74 aZ rfl ?_;rintro v L' ⟨p34,rfl,rfl⟩;refine gy 3 ?_;refine bA (an rfl rfl (by rfl) sizeOf102 bc rfl rfl) ?_;refine gy 5 ?_;refine aA (PN (V:={V2 with ps:=p34,si:=none}) (n:=n2.qK) ?Qs ?R7) rfl call168 aZ rfl ?_
  case Qs=>exact gb.le (by decide)
  case R7=>exact⟨jC.out,jC.sw,⟨rfl,rfl⟩,jC.sl⟩
  rintro v L' ⟨Dt,rfl,oX,rfl⟩;obtain⟨n3,qG⟩: ∃z,n2.qK.again.2=z:=⟨_,rfl⟩;rw[qG]at lf oX ⊢;refine gy 3 ?_;refine cc rfl (fun zK=>?_) (fun zK=>?_)
  ·have Ua:n.recover t=n3:=by rw[j8];exact(if_neg (by simpa using zK)).trans qG
   refine gc 2 ?_;refine bj results108 (L1:=ao F Dt n3++R) ae ?_;rw[Ua];exact⟨_,⟨Dt,rfl,oX,rfl⟩,rfl⟩
  have Ua:n.recover t=n3.bP.dX:=by rw[j8,←qG];exact if_pos (by simpa using zK)
  have T6:n3.bP.ok 970032:=lf.bP;have Hp:ct Dt n3.bP:=⟨oX.out,oX.sw,oX.si,oX.sl⟩;refine gc 5 ?_;refine bK (P7 (V:=Dt) (n:=n3)) call169 ?_;unfold bB;refine gy 2 ?_;refine bA (aP (us:=qL n3.table) rfl rfl (by simp[Value.oneCell']) sizeOf32 bc rfl (by simp) rfl) ?_;refine gy 5 ?_;refine bK (oc (V:=Dt) (n:=n3.bP)) call118 ?_;refine gy 3 ?_;refine cc rfl (fun AH=>?_) (fun AH=>?_)
  ·have O8:n.recover t=aa.andThen n3.bP.note aa.Mq:=by rw[Ua];exact if_pos (by simpa using AH)
   refine gc 3 ?_;refine aA (PZ (V:=Dt) (n:=n3.bP) ?aiq ?aml) rfl call170 aZ rfl ?_
   case aiq=>exact T6.le (by decide)
   case aml=>exact Hp
   rintro v L' ⟨V50,rfl,MK,rfl⟩;refine gy 2 ?_;refine cc rfl (fun Tz=>?_) (fun Tz=>?_)
   ·have HG:n.recover t=n3.bP.note.2.Mq:=by rw[O8];exact if_pos Tz
    have Zy:=T6.note;unfold ao bB;refine gc 5 ?_;refine bA (an rfl rfl (by rfl) sizeOf3 bc rfl rfl) ?_;refine gy 3 ?_;obtain⟨l9,nj⟩:=ot {n3.bP.note.2 with role:=2};have apM:n.recover t=dK {n3.bP.note.2 with role:=2} l9:=HG.trans nj;refine gy 1 ?_;refine aA (J4 (V:=V50) (n:={n3.bP.note.2 with role:=2}) ?aqE ?Q0 ?abc ?als ?RH) rfl call125 aZ rfl ?_
    case aqE=>exact Zy.a.id
    case Q0=>exact MK.out
    case abc=>have:=Zy.out;show n3.bP.note.2.out.length≤999000;omega
    case als=>exact MK.si
    case RH=>have:=Zy.s.n;show n3.bP.note.2.s.l.length≤1000000;omega
    rintro v L' ⟨o56,rfl,W4,rfl⟩;rw[nj]at W4 ⊢;refine gy 4 ?_;refine bj results108 (L1:=ao F {V50 with out:=o56} (dK {n3.bP.note.2 with role:=2} l9)++R) ae ?_;rw[apM];exact⟨_,⟨{V50 with out:=o56},rfl,⟨W4,MK.sw,MK.si,MK.sl⟩,rfl⟩,rfl⟩
   have HG:n.recover t=n3.bP.note.2:=by rw[O8];exact if_neg (by rw[Tz];simp)
   refine gc 4 ?_;refine bj results108 (L1:=ao F V50 n3.bP.note.2++R) ae ?_;rw[HG];exact⟨_,⟨V50,rfl,MK,rfl⟩,rfl⟩
  have O8:n.recover t=aa.andThen n3.bP.sync aa.mf:=by rw[Ua];exact if_neg (by simpa using AH)
  unfold bB;refine gc 8 ?_;refine bK (AS (C:=n3.bP.c) (D:=n3.bP.d) ?ae1) call158 ?_
  case ae1=>exact T6.p.c.d
  refine bK (qP (V:=Dt) (n:=n3.bP.bf (n3.bP.c.sync n3.bP.d))) call121 ?_;refine gy 2 ?_;refine cc rfl (fun Dd=>?_) (fun Dd=>?_)
  ·have HG:n.recover t=n3.bP.sync.2.mf:=by rw[O8];exact if_pos (decide_eq_true Dd)
   unfold bB;refine gc 7 ?_;refine bK (nu ?alf ?RI) call51 ?_
   case alf=>exact T6.s.fit (by decide)
   case RI=>exact oX.si
   refine aA (A3) rfl call74 aZ rfl ?_;rintro v L' ⟨p71,rfl,rfl⟩;refine gy 3 ?_;refine bA (an rfl rfl (by rfl) sizeOf102 bc rfl rfl) ?_;refine gy 7 ?_;refine bA (an rfl rfl (by rfl) sizeOf3 bc rfl rfl) ?_;refine gy 1 ?_;refine aN results108 (L1:=ao F {Dt with ps:=p71,si:=none} n3.bP.sync.2.mf++R) ae ?_;rw[HG];exact⟨_,⟨{Dt with ps:=p71,si:=none},rfl,⟨oX.out,oX.sw,⟨rfl,rfl⟩,oX.sl⟩,rfl⟩,rfl⟩
  have HG:n.recover t=n3.bP.sync.2:=by rw[O8];exact if_neg (by show¬decide ((n3.bP.c.sync n3.bP.d).1=0)=true;rw[decide_eq_true_eq];exact Dd)
  refine gc 1 ?_;refine aN results108 (L1:=ao F Dt n3.bP.sync.2++R) ae ?_;rw[HG];exact⟨_,⟨Dt,rfl,⟨oX.out,oX.sw,oX.si,oX.sl⟩,rfl⟩,rfl⟩
 clear gM;refine gc 1 ?_;refine kO 25 (.op 0 0 (.op 1 1 (.op 2 2 (.op 3 0 (.op 4 0 (.op 5 0 (.op 6 0 (.op 7 0 (.op 9 0 (.op 10 0 (.op 8 2 (.op 11 2 (.op 12 2 (.op 13 0 (.op 14 0 (.op 15 0 (.op 16 0 (.op 17 0 (.op 18 0 (.op 20 0 (.fork 19 (.op 21 2 (.op 22 0 (.op 23 0 (.op 24 0 (.nil))))) 21 (.op 19 2 (.op 22 0 (.op 23 0 (.op 24 0 (.nil)))))))))))))))))))))))))) ([sc b3 (qL t) 32]++R) Tryz.mixed (by kernel_rfl) ae ?_;refine nz rfl (ba rfl) rfl ?_;refine nr rfl (ay (u:=qL t) rfl isAgg32 sizeOf32 aL rfl rfl) rfl ?_;refine fy rfl (WT (V:=V) (n:=n)) rfl call165 aZ rfl ?_;rintro v L' ⟨rfl,rfl⟩;refine⟨ae,?_⟩;refine nz rfl (ba rfl) rfl ?_;refine om 7 rfl (fun xP=>?_) (fun xP=>?_)
 ·(try simp only[sH]at xP)
  have hmo:n.gO t=n.iO r:=by unfold aa.gO;rw[if_pos xP,hR]
  unfold bB;refine oL rfl rfl rfl (ba rfl) rfl ?_;refine oL rfl rfl rfl (ba rfl) rfl ?_;refine oL rfl rfl rfl (fD rfl) rfl ?_;refine oL rfl rfl rfl (aT 7 rfl underlying106 rfl sizeOf98) rfl ?_;refine oL rfl rfl rfl (cA ([i64 0,i64 0])) rfl ?_;refine oL rfl rfl rfl (iJ rfl underlying32 sizeOf2) rfl ?_;refine na1 rfl rfl rfl (fi (bR rfl isAgg98 aL rfl)) rfl ?_;rintro v L' ⟨rfl,rfl⟩;refine⟨ae,?_⟩;refine pM rfl rfl rfl (JL (C:=n.c) (D:=n.d) (e:=0) (s:=0) (ns:=t.l) ?aeF ?ag7 ?ap5 ?api) rfl call166 aZ rfl ?_
  case aeF=>exact hn.p.c
  case ag7=>exact hV.sl
  case ap5=>exact eh aL rfl rfl
  case api=>show 4<1000000;decide
  rintro v L' ⟨ak4,rfl,aiZ,rfl⟩;refine⟨ae,?_⟩;rw[hR]at aiZ ⊢;refine pM rfl rfl rfl (qP (V:={V with sl:=ak4}) (n:=n.bf r)) rfl call121 aZ rfl ?_;rintro v L' ⟨rfl,rfl⟩;refine⟨ae,?_⟩;let V1:NV:={V with sl:=ak4};let n1:aa:=(n.bf r).err r.1;have cD:n1.ok 970000:=(hn.bf qd).err _;have dN:ct V1 n1:=⟨hV.out,hV.sw,hV.si,aiZ⟩;refine oL rfl rfl rfl (G4 rfl) rfl ?_;refine nz rfl (sE rfl rfl) rfl ?_;refine nz rfl (ba rfl) rfl ?_;refine om 19 rfl (fun YS=>?_) (fun YS=>?_)
  ·(try simp only[sH]at YS)
   have sR:n.recover t=n1:=by unfold aa.recover;rw[hmo];exact if_neg (by show¬decide (r.1=0)=true;simpa using YS)
   refine qo rfl rfl rfl rfl rfl ?_;refine qo rfl rfl rfl rfl rfl ?_;refine qo rfl rfl rfl rfl rfl ?_;refine qo rfl rfl rfl rfl rfl ?_;refine mu ?_ ?_
   ·unfold bB;refine SL rfl rfl rfl rfl rfl ae ?_;refine SL rfl rfl rfl rfl rfl ae ?_;refine qo rfl rfl rfl rfl rfl ?_;refine qo rfl rfl rfl rfl rfl ?_;refine aiH rfl rfl rfl rfl ?_;refine ik ?_;refine gy 9 ?_;refine bj results108 (L1:=ao F V1 n1++R) ae ?_;rw[sR];exact⟨_,⟨V1,rfl,dN,rfl⟩,rfl⟩
   refine SL rfl rfl rfl rfl rfl ae ?_;unfold bB;refine SL rfl rfl rfl rfl rfl ae ?_;refine qo rfl rfl rfl rfl rfl ?_;refine qo rfl rfl rfl rfl rfl ?_;refine aiH rfl rfl rfl rfl ?_;refine ik ?_;refine gy 9 ?_;refine bj results108 (L1:=ao F V1 n1++R) ae ?_;rw[sR];exact⟨_,⟨V1,rfl,dN,rfl⟩,rfl⟩
  try simp only[sH]at YS
  have sR:n.recover t=aa.andThen n1.cF fun n=>aa.andThen n.qK.again fun n=>n.bP.dX:=by unfold aa.recover;rw[hmo];exact if_pos (by show decide (r.1=0)=true;simpa using YS)
  refine oL rfl rfl rfl (ba rfl) rfl ?_;refine oL rfl rfl rfl (fD rfl) rfl ?_;refine oL rfl rfl rfl (aT 12 rfl underlying106 rfl sizeOf3) rfl ?_;refine oL rfl rfl rfl (ba rfl) rfl ?_;refine mu ?_ ?_
  ·unfold bB;refine na1 rfl rfl rfl (fi (bR rfl isAgg3 aL rfl)) rfl ?_;rintro v L' ⟨rfl,rfl⟩;refine⟨ae,?_⟩;refine pM rfl rfl rfl (Ib (V:=V1) (n:=n1) ?aaB) rfl call163 aZ rfl ?_
   case aaB=>exact cD.a.id
   rintro v L' ⟨rfl,rfl⟩;refine⟨ae,?_⟩;refine oL rfl rfl rfl (uC rfl rfl) rfl ?_;refine oL rfl rfl rfl (ba rfl) rfl ?_;refine om 27 rfl (fun Hn=>?_) (fun Hn=>?_)
   ·(try simp only[sH]at Hn)
    have tZ:n1.cF=n1.marks:=by unfold aa.cF;exact if_pos Hn
    refine oL rfl rfl rfl (ba rfl) rfl ?_;refine ik ?_;refine bV ?_;refine aA (yw (V:=V1) (n:=n1) ?Qr ?R6) rfl call167 aZ rfl ?_
    case Qr=>exact cD.le (by decide)
    case R6=>exact dN
    rintro v L' ⟨Gr,rfl,zo,rfl⟩;refine gy 5 ?_;refine cc rfl (fun TI=>?_) (fun TI=>?_)
    ·have j8:n.recover t=n1.marks.2:=by rw[sR,tZ];exact if_neg (by simpa using TI)
     refine gc 2 ?_;refine bj results108 (L1:=ao F Gr n1.marks.2++R) ae ?_;rw[j8];exact⟨_,⟨Gr,rfl,zo,rfl⟩,rfl⟩
    have j8:n.recover t=aa.andThen n1.marks.2.qK.again fun n=>n.bP.dX:=by rw[sR,tZ];exact if_pos (by simpa using TI)
    refine gc 2 ?_;exact aV aq ae (zP (Gr,n1.marks.2) ⟨j8,cD.marks,zo⟩)
   try simp only[sH]at Hn
   have tZ:n1.cF=(true,n1):=by unfold aa.cF;exact if_neg Hn
   have j8:n.recover t=aa.andThen n1.qK.again fun n=>n.bP.dX:=by rw[sR,tZ];rfl
   refine qo rfl rfl rfl rfl rfl ?_;refine ik ?_;refine gy 9 ?_;exact aV aq ae (zP (V1,n1) ⟨j8,cD,dN⟩)
  refine pM rfl rfl rfl (Ib (V:=V1) (n:=n1) ?aqL) rfl call163 aZ rfl ?_
  case aqL=>exact cD.a.id
  rintro v L' ⟨rfl,rfl⟩;refine⟨ae,?_⟩;unfold bB;refine na1 rfl rfl rfl (fi (bR rfl isAgg3 aL rfl)) rfl ?_;rintro v L' ⟨rfl,rfl⟩;refine⟨ae,?_⟩;refine oL rfl rfl rfl (uC rfl rfl) rfl ?_;refine oL rfl rfl rfl (ba rfl) rfl ?_;refine om 27 rfl (fun YY=>?_) (fun YY=>?_)
  ·(try simp only[sH]at YY)
   have tZ:n1.cF=n1.marks:=by unfold aa.cF;exact if_pos YY
   refine oL rfl rfl rfl (ba rfl) rfl ?_;refine ik ?_;refine bV ?_;refine aA (yw (V:=V1) (n:=n1) ?aaH ?ac3) rfl call167 aZ rfl ?_
   case aaH=>exact cD.le (by decide)
   case ac3=>exact dN
   rintro v L' ⟨Gr,rfl,zo,rfl⟩;refine gy 5 ?_;refine cc rfl (fun rl=>?_) (fun rl=>?_)
   ·have j8:n.recover t=n1.marks.2:=by rw[sR,tZ];exact if_neg (by simpa using rl)
    refine gc 2 ?_;refine bj results108 (L1:=ao F Gr n1.marks.2++R) ae ?_;rw[j8];exact⟨_,⟨Gr,rfl,zo,rfl⟩,rfl⟩
   have j8:n.recover t=aa.andThen n1.marks.2.qK.again fun n=>n.bP.dX:=by rw[sR,tZ];exact if_pos (by simpa using rl)
   refine gc 2 ?_;exact aV aq ae (zP (Gr,n1.marks.2) ⟨j8,cD.marks,zo⟩)
  try simp only[sH]at YY
  have tZ:n1.cF=(true,n1):=by unfold aa.cF;exact if_neg YY
  have j8:n.recover t=aa.andThen n1.qK.again fun n=>n.bP.dX:=by rw[sR,tZ];rfl
  refine qo rfl rfl rfl rfl rfl ?_;refine ik ?_;refine gy 9 ?_;exact aV aq ae (zP (V1,n1) ⟨j8,cD,dN⟩)
 try simp only[sH]at xP
 let V1:NV:=V;let n1:aa:=n;have cD:n1.ok 970000:=hn;have dN:ct V1 n1:=hV;have sR:n.recover t=aa.andThen n1.cF fun n=>aa.andThen n.qK.again fun n=>n.bP.dX:=by unfold aa.recover aa.gO;rw[if_neg (by rw[xP];simp)];rfl
 refine qo rfl rfl rfl rfl rfl ?_;refine qo rfl rfl rfl rfl rfl ?_;refine qo rfl rfl rfl rfl rfl ?_;refine qo rfl rfl rfl rfl rfl ?_;refine qo rfl rfl rfl rfl rfl ?_;refine qo rfl rfl rfl rfl rfl ?_;refine SL rfl rfl rfl rfl rfl ae ?_;refine SL rfl rfl rfl rfl rfl ae ?_;refine SL rfl rfl rfl rfl rfl ae ?_;refine qo rfl rfl rfl rfl rfl ?_;refine nz rfl (sD rfl rfl) rfl ?_;refine nz rfl (ba rfl) rfl ?_;refine oL rfl rfl rfl (ba rfl) rfl ?_;refine oL rfl rfl rfl (fD rfl) rfl ?_;refine oL rfl rfl rfl (aT 12 rfl underlying106 rfl sizeOf3) rfl ?_;refine oL rfl rfl rfl (ba rfl) rfl ?_;refine mu ?_ ?_
 ·unfold bB;refine na1 rfl rfl rfl (fi (bR rfl isAgg3 aL rfl)) rfl ?_;rintro v L' ⟨rfl,rfl⟩;refine⟨ae,?_⟩;refine pM rfl rfl rfl (Ib (V:=V1) (n:=n1) ?ah9) rfl call163 aZ rfl ?_
  case ah9=>exact cD.a.id
  rintro v L' ⟨rfl,rfl⟩;refine⟨ae,?_⟩;refine oL rfl rfl rfl (uC rfl rfl) rfl ?_;refine oL rfl rfl rfl (ba rfl) rfl ?_;refine om 27 rfl (fun rm=>?_) (fun rm=>?_)
  ·(try simp only[sH]at rm)
   have tZ:n1.cF=n1.marks:=by unfold aa.cF;exact if_pos rm
   refine oL rfl rfl rfl (ba rfl) rfl ?_;refine ik ?_;refine bV ?_;refine aA (yw (V:=V1) (n:=n1) ?aaM ?ac8) rfl call167 aZ rfl ?_
   case aaM=>exact cD.le (by decide)
   case ac8=>exact dN
   rintro v L' ⟨Gr,rfl,zo,rfl⟩;refine gy 5 ?_;refine cc rfl (fun Oj=>?_) (fun Oj=>?_)
   ·have j8:n.recover t=n1.marks.2:=by rw[sR,tZ];exact if_neg (by simpa using Oj)
    refine gc 2 ?_;refine bj results108 (L1:=ao F Gr n1.marks.2++R) ae ?_;rw[j8];exact⟨_,⟨Gr,rfl,zo,rfl⟩,rfl⟩
   have j8:n.recover t=aa.andThen n1.marks.2.qK.again fun n=>n.bP.dX:=by rw[sR,tZ];exact if_pos (by simpa using Oj)
   refine gc 2 ?_;exact aV aq ae (zP (Gr,n1.marks.2) ⟨j8,cD.marks,zo⟩)
  try simp only[sH]at rm
  have tZ:n1.cF=(true,n1):=by unfold aa.cF;exact if_neg rm
  have j8:n.recover t=aa.andThen n1.qK.again fun n=>n.bP.dX:=by rw[sR,tZ];rfl
  refine qo rfl rfl rfl rfl rfl ?_;refine ik ?_;refine gy 9 ?_;exact aV aq ae (zP (V1,n1) ⟨j8,cD,dN⟩)
 refine pM rfl rfl rfl (Ib (V:=V1) (n:=n1) ?aib) rfl call163 aZ rfl ?_
 case aib=>exact cD.a.id
 rintro v L' ⟨rfl,rfl⟩;refine⟨ae,?_⟩;unfold bB;refine na1 rfl rfl rfl (fi (bR rfl isAgg3 aL rfl)) rfl ?_;rintro v L' ⟨rfl,rfl⟩;refine⟨ae,?_⟩;refine oL rfl rfl rfl (uC rfl rfl) rfl ?_;refine oL rfl rfl rfl (ba rfl) rfl ?_;refine om 27 rfl (fun xM=>?_) (fun xM=>?_)
 ·(try simp only[sH]at xM)
  have tZ:n1.cF=n1.marks:=by unfold aa.cF;exact if_pos xM
  refine oL rfl rfl rfl (ba rfl) rfl ?_;refine ik ?_;refine bV ?_;refine aA (yw (V:=V1) (n:=n1) ?Il ?I3) rfl call167 aZ rfl ?_
  case Il=>exact cD.le (by decide)
  case I3=>exact dN
  rintro v L' ⟨Gr,rfl,zo,rfl⟩;refine gy 5 ?_;refine cc rfl (fun On=>?_) (fun On=>?_)
  ·have j8:n.recover t=n1.marks.2:=by rw[sR,tZ];exact if_neg (by simpa using On)
   refine gc 2 ?_;refine bj results108 (L1:=ao F Gr n1.marks.2++R) ae ?_;rw[j8];exact⟨_,⟨Gr,rfl,zo,rfl⟩,rfl⟩
  have j8:n.recover t=aa.andThen n1.marks.2.qK.again fun n=>n.bP.dX:=by rw[sR,tZ];exact if_pos (by simpa using On)
  refine gc 2 ?_;exact aV aq ae (zP (Gr,n1.marks.2) ⟨j8,cD.marks,zo⟩)
 try simp only[sH]at xM
 have tZ:n1.cF=(true,n1):=by unfold aa.cF;exact if_neg xM
 have j8:n.recover t=aa.andThen n1.qK.again fun n=>n.bP.dX:=by rw[sR,tZ];rfl
 refine qo rfl rfl rfl rfl rfl ?_;refine ik ?_;refine gy 9 ?_;exact aV aq ae (zP (V1,n1) ⟨j8,cD,dN⟩)
set_option maxHeartbeats 2000000
def kB(m:aM)(n:aa)(w:ar):aa:=if aa.eg m n w=true then n.given w m.data else n
def adE(F:NF)(V:NV)(m:aM)(n':aa)(p1 p2:Nat)(b:Bool)(u:Value)(L':List ax):Prop:=
 ∃s,u= .bool b∧bW s n'.out.length 3 (fG n'.out)∧L'=[sc p1 [ptr F.p] 27,sc p2 m.cells 34,bB F {V with out:=s} n',aD s 42 (fG n'.out)]
theorem PY [Env]{R:List ax}{F:NF}{V:NV}{n:aa}{w:ar}{m:aM}{p1 p2:Nat}(hc:0≤w.cl∧w.cl≤3)(ho:nE V n)(hl:n.out.length≤1000000):
   bC Tryz.prog 172 [I4 w,ptr p1,ptr p2] [sc p1 [ptr F.p] 27,sc p2 m.cells 34,bB F V n,gH V n] R (adE F V m (kB m n w) p1 p2 (aa.eg m n w)):=by
 refine ag func172 ntmps172 rfl rfl ?_;unfold bB;refine gc 1 ?_;refine ya (a7 (vs:=w.cells) rfl rfl) rfl ?_;rintro v L' ⟨b3,rfl,rfl⟩;refine gy 11 ?_;refine cv 12 rfl (fun Ha=>?_) (fun Ha=>?_)
 ·refine gy 5 ?_;refine cv 17 rfl (fun nf=>?_) (fun nf=>?_)
  ·refine gy 5 ?_;refine cv 22 rfl (fun Tx=>?_) (fun Tx=>?_)
   ·refine gy 7 ?_;refine cv 29 rfl (fun YO=>?_) (fun YO=>?_)
    ·refine gy 14 ?_;refine cc rfl (fun Dd=>?_) (fun Dd=>?_)
     ·refine gc 1 ?_;have rv:aa.eg m n w=true:=by unfold aa.eg;simp_all
      have Wy:kB m n w=n.given w m.data:=by unfold kB;rw[if_pos rv]
      refine gy 1 ?_;refine y (ay (u:=w.cells) rfl isAgg177 sizeOf177 aL rfl rfl) rfl ?_;refine gy 2 ?_;refine aA (Ia (V:=V) (n:=n) (w:=w) (data:=m.data) ?aq4 ?akp ?arw) rfl call154 aZ rfl ?_
      case aq4=>exact hc
      case akp=>exact ho
      case arw=>exact hl
      rintro v L' ⟨o41,rfl,ajx,rfl⟩;refine gy 3 ?_;have rv:=rv;refine gy 5 ?_;refine aj results172 rfl (L1:=[sc p1 _ _,sc p2 _ _,bB F _ _,aD o41 _ _]++R) ae ?_;rw[rv,Wy];refine⟨_,⟨o41,?_,ajx,rfl⟩,rfl⟩;simp_all
     refine gc 3 ?_
     (have rv:aa.eg m n w=false:=by unfold aa.eg;(simp_all;try (intros;omega)))
     refine gy 5 ?_;refine aj results172 rfl (L1:=[sc p1 _ _,sc p2 _ _,bB F V n,gH V n]++R) ae ?_;rw[rv,show kB m n w=n by unfold kB;rw[if_neg (by rw[rv];simp)]];refine⟨_,⟨V.out,?_,ho,rfl⟩,rfl⟩;simp_all
    refine gy 18 ?_
    (have rv:aa.eg m n w=false:=by unfold aa.eg;(simp_all;try (intros;omega)))
    refine gy 5 ?_;refine aj results172 rfl (L1:=[sc p1 _ _,sc p2 _ _,bB F V n,gH V n]++R) ae ?_;rw[rv,show kB m n w=n by unfold kB;rw[if_neg (by rw[rv];simp)]];refine⟨_,⟨V.out,?_,ho,rfl⟩,rfl⟩;rfl
   refine gy 25 ?_
   (have rv:aa.eg m n w=false:=by unfold aa.eg;(simp_all;try (intros;omega)))
   refine gy 5 ?_;refine aj results172 rfl (L1:=[sc p1 _ _,sc p2 _ _,bB F V n,gH V n]++R) ae ?_;rw[rv,show kB m n w=n by unfold kB;rw[if_neg (by rw[rv];simp)]];refine⟨_,⟨V.out,?_,ho,rfl⟩,rfl⟩;rfl
  refine gy 30 ?_
  (have rv:aa.eg m n w=false:=by unfold aa.eg;(simp_all;try (intros;omega)))
  refine gy 5 ?_;refine aj results172 rfl (L1:=[sc p1 _ _,sc p2 _ _,bB F V n,gH V n]++R) ae ?_;rw[rv,show kB m n w=n by unfold kB;rw[if_neg (by rw[rv];simp)]];refine⟨_,⟨V.out,?_,ho,rfl⟩,rfl⟩;rfl
 refine gy 35 ?_
 (have rv:aa.eg m n w=false:=by unfold aa.eg;(simp_all;try (intros;omega)))
 refine gy 5 ?_;refine aj results172 rfl (L1:=[sc p1 _ _,sc p2 _ _,bB F V n,gH V n]++R) ae ?_;rw[rv,show kB m n w=n by unfold kB;rw[if_neg (by rw[rv];simp)]];refine⟨_,⟨V.out,?_,ho,rfl⟩,rfl⟩;rfl
abbrev Xm:=Sv × List gI
abbrev ahJ(F:NF)(V:NV)(n:aa)(m:aM)(p1 p2:Nat)(z:Xm):List ax:=[sc p1 [ptr F.p] 27,sc p2 m.cells 34,bB F {V with out:=z.1} (dK n z.2),aD z.1 42 (fG z.2)]
theorem G7(n:aa)(l:List gI)(w:ar)(d:Bytes): ∃l2,(dK n l).given w d=dK n l2∧l2.length=l.length+1:=by
 unfold aa.given;split
 · exact⟨_,rfl,by show(l++[_]).length=_;simp⟩
 exact⟨_,rfl,by show(l++[_]).length=_;simp⟩
theorem H2(m:aM)(n:aa)(l:List gI)(w:ar): ∃l2,kB m (dK n l) w=dK n l2∧l2.length≤l.length+1:=by
 unfold kB;split
 · obtain⟨l2,h1,h2⟩:=G7 n l w m.data;exact⟨l2,h1,by omega⟩
 exact⟨l,rfl,by omega⟩
theorem PE [Env]{F:NF}{V:NV}{n:aa}{m:aM}{p1 p2:Nat}(hw: ∀w∈n.waits,0≤w.cl∧w.cl≤3)(hl:n.waits.length≤16):
   Nf 172 #[ptr p1,ptr p2] (ahJ F V n m p1 p2) (fun k z=>bW z.1 z.2.length 3 (fG z.2)∧z.2.length≤990000+k) (fun z w=>aa.eg m (dK n z.2) w) (fun z w z'=>dK n z'.2=kB m (dK n z.2) w) n.waits:=by
 intro R k z w ⟨h1,h2⟩ h3 h4;refine(PY (V:={V with out:=z.1}) (n:=dK n z.2) (m:=m) (p1:=p1) (p2:=p2) (hw w h4) h1 (by show z.2.length≤1000000;omega)).mono ?_;rintro u L' ⟨s,rfl,h5,rfl⟩;obtain⟨l2,e,h6⟩:=H2 m n z.2 w;rw[e]at h5 ⊢;exact⟨(s,l2),rfl,e.symm,⟨h5,by dsimp only;omega⟩,rfl⟩
theorem LV{n:aa}{m:aM}{z0 z1:Xm}{ks:List ar}(h0:z0.2=n.out)(h:mF (fun(z:Xm) w=>aa.eg m (dK n z.2) w) (fun z w z'=>dK n z'.2=kB m (dK n z.2) w) z0 n.waits ks z1):n.kU m={dK n z1.2 with waits:=ks}:=by
 have e:aa.hY (aa.eg m) (fun n w=>n.given w m.data) n.waits (dK n z0.2)=(ks,dK n z1.2):=h.hY (fun z=>dK n z.2) (fun _ _=>rfl) (fun z w z' hx=>hx);have h1:dK n z0.2=n:=by rw[h0];rfl
 rw[h1]at e;unfold aa.kU;rw[e]
theorem Cz [Env]{R:List ax}{F:NF}{V:NV}{n:aa}{m:aM}(hn:n.ok 980000)(hV:ct V n):
   bC Tryz.prog 109 [ptr F.p,.agg m.cells.toArray] (ao F V n) R (KN F (n.kU m) (.tuple #[])):=by
 have zE:=hn.w.n;have WA:=hn.out;have oY: ∀w∈n.waits,0≤w.cl∧w.cl≤3:=fun w hw=>(hn.w.all w hw).cl
 have wx:bW V.sw n.waits.length 7 (a6 n.waits):=hV.sw;refine ag func109 ntmps109 rfl rfl ?_;unfold ao bB;refine gc 1 ?_;refine ya (a7 rfl rfl) rfl ?_;rintro v L' ⟨b2,rfl,rfl⟩;refine ya (a7 (vs:=m.cells) rfl rfl) rfl ?_;rintro v L' ⟨b3,rfl,rfl⟩;refine gy 2 ?_;refine aS 11 [(0,true),(1,true),(2,true),(3,true),(4,true),(6,true),(5,false),(7,false),(8,true),(9,true),(10,true)] ([sc b2 [ptr F.p] 27]++R) Tryz.mixed (by kernel_rfl) ae ?_;refine gh 5 ?_
 refine hr rfl (lE (vs:= #[ptr b2,ptr b3]) (fun a hf=>by
     have h1:a.eval (.tmp 2)=ptr b2:=hf.ev rfl;have h2:a.eval (.tmp 3)=ptr b3:=hf.ev rfl;simp[h1,h2])) rfl ?_
 refine ha rfl (fi (bR rfl isAgg101 aL rfl)) rfl ?_;rintro v L' ⟨rfl,rfl⟩;refine⟨ae,?_⟩;refine bg rfl (E1 (ws:=n.waits) (z0:=(V.out,n.out)) (Ps:=ahJ F V n m b2 b3) (cs:= #[ptr b2,ptr b3]) wx (by omega) call172 (PE oY zE) ⟨hV.out,by dsimp only;omega⟩) rfl call171 aZ rfl ?_;rintro v L' ⟨⟨o1,l1⟩,ks,sw1,rfl,aba,hD,fQ,rfl⟩;refine⟨ae,?_⟩;refine gh 4 ?_;refine bA (an rfl rfl (by exact bN _ _) sizeOf101 bc rfl rfl) ?_;refine gy 1 ?_;refine aN results109 (L1:=ao F {V with out:=o1,sw:=sw1} {dK n l1 with waits:=ks}++R) ae ?_;rw[LV rfl hD];exact⟨_,⟨{V with out:=o1,sw:=sw1},rfl,⟨fQ.1,aba,hV.si,hV.sl⟩,rfl⟩,rfl⟩
end W
end Go.Proofs