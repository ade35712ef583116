/- A part of the proof. -/
import Derived.Test.YtlignadmmopdmaaGreatUn
import Derived.Test.YtlignadmmopdmaaGreatN22
import Derived.Test.YtlignadmmopdmaaGreatGC
set_option linter.unusedVariables false
set_option linter.unusedSimpArgs false
set_option linter.constructorNameAsVariable false
namespace Go.Proofs
open _root_.Go.Proofs.Tryz
open Go Go.Sl
namespace W
set_option maxHeartbeats 4000000
theorem nGranted [Env]{R:List Seg}{F:NF}{V:NV}{n:NodM}{m:MsgM}(hn:n.ok 970000)(hV:NVok V n)(hm:m.ok):
   Con Tryz.prog 105 [ptr F.p,.agg m.cells.toArray] (nodL F V n) R (KN F (n.granted m) (.tuple #[])):=by
 have hbo:=hn.n.born;have hmn:=hm.n;have hck:=hn.n.clock;have hoa:=hn.adopt (e:=m.epoch) hm.epoch;have hac:=NodM.adopt_clock n m.epoch;refine con_enter func105 ntmps105 rfl rfl ?_;unfold nodL ndC;refine gc 1 ?_;refine ya (ac_box (vs:=m.cells) rfl rfl) rfl ?_;rintro v L' ⟨b3,rfl,rfl⟩;refine gy 4 ?_;refine cdraw 11 (od [] 11 0) (_) Tryz.mixed (by kernel_rfl) .refl ?_;refine gh 4 ?_;refine hsp 8 rfl (fun h6=>?_) (fun h6=>?_)
 ·refine gh 14 ?_;refine cdraw 23 (od [] 23 0) (_) Tryz.mixed (by kernel_rfl) .refl ?_;refine gh 8 ?_;refine hsp 24 rfl (fun h16=>?_) (fun h16=>?_)
  ·refine gh 9 ?_;refine hsp 33 rfl (fun h26=>?_) (fun h26=>?_)
   ·refine gh 10 ?_;refine cc rfl (fun h34=>?_) (fun h34=>?_)
    ·refine gc 1 ?_;have hgr:n.granted m=n.demote:=by unfold NodM.granted;rw[if_pos (by omega),if_pos (by omega)]
     refine gy 1 ?_;refine ycall (nDemote (V:=V) (n:=n)) rfl call106 ztk rfl ?_;rintro v L' ⟨p42,rfl,rfl⟩;refine gy 4 ?_;refine kretv0 results105 (L1:=nodL F (V.bare p42) n.demote++R) zge ?_;rw[hgr];exact⟨_,⟨V.bare p42,rfl,⟨hV.out,⟨rfl,rfl⟩,⟨rfl,rfl⟩,hV.sl⟩,rfl⟩,rfl⟩
    have hgr:n.granted m=n:=by unfold NodM.granted;rw[if_pos (by omega),if_neg (by omega)]
    refine gc 4 ?_;refine kretv0 results105 (L1:=nodL F V n++R) zge ?_;rw[hgr];exact⟨_,⟨V,rfl,hV,rfl⟩,rfl⟩
   have hgr:n.granted m=n:=by unfold NodM.granted;rw[if_pos (by omega),if_neg (by omega)]
   refine gh 15 ?_;refine kretv0 results105 (L1:=nodL F V n++R) zge ?_;rw[hgr];exact⟨_,⟨V,rfl,hV,rfl⟩,rfl⟩
  have hgr:n.granted m=n:=by unfold NodM.granted;rw[if_pos (by omega),if_neg (by omega)]
  refine gh 24 ?_;refine kretv0 results105 (L1:=nodL F V n++R) zge ?_;rw[hgr];exact⟨_,⟨V,rfl,hV,rfl⟩,rfl⟩
 refine gh 11 ?_;refine cc rfl (fun h49=>?_) (fun h49=>?_)
 ·refine gc 2 ?_;refine cdraw 23 (od [] 23 0) (_) Tryz.mixed (by kernel_rfl) .refl ?_;refine gh 8 ?_;refine hsp 24 rfl (fun h58=>?_) (fun h58=>?_)
  ·refine gh 9 ?_;refine hsp 33 rfl (fun h68=>?_) (fun h68=>?_)
   ·refine gh 10 ?_;refine cc rfl (fun h76=>?_) (fun h76=>?_)
    ·refine gc 1 ?_;have hgr:n.granted m=n.demote:=by unfold NodM.granted;rw[if_pos (by omega),if_pos (by omega)]
     refine gy 1 ?_;refine ycall (nDemote (V:=V) (n:=n)) rfl call106 ztk rfl ?_;rintro v L' ⟨p42,rfl,rfl⟩;refine gy 4 ?_;refine kretv0 results105 (L1:=nodL F (V.bare p42) n.demote++R) zge ?_;rw[hgr];exact⟨_,⟨V.bare p42,rfl,⟨hV.out,⟨rfl,rfl⟩,⟨rfl,rfl⟩,hV.sl⟩,rfl⟩,rfl⟩
    have hgr:n.granted m=n:=by unfold NodM.granted;rw[if_pos (by omega),if_neg (by omega)]
    refine gc 4 ?_;refine kretv0 results105 (L1:=nodL F V n++R) zge ?_;rw[hgr];exact⟨_,⟨V,rfl,hV,rfl⟩,rfl⟩
   have hgr:n.granted m=n:=by unfold NodM.granted;rw[if_pos (by omega),if_neg (by omega)]
   refine gh 15 ?_;refine kretv0 results105 (L1:=nodL F V n++R) zge ?_;rw[hgr];exact⟨_,⟨V,rfl,hV,rfl⟩,rfl⟩
  have hgr:n.granted m=n:=by unfold NodM.granted;rw[if_pos (by omega),if_neg (by omega)]
  refine gh 24 ?_;exfalso;omega
 refine gc 3 ?_;refine cdraw 8 (od [] 8 0) (_) Tryz.mixed (by kernel_rfl) .refl ?_;refine gh 6 ?_;refine hr rfl (ev_mul rfl rfl) rfl ?_;rw[wr (by omega) (by omega)];refine gh 1 ?_;rw[wr (by omega) (by omega)];obtain⟨z,hz⟩: ∃z,m.n-n.born*4294967296=z:=⟨_,rfl⟩;rw[hz];have hg1:n.granted m=n.granted1 m z:=by unfold NodM.granted;rw[if_neg (by omega),hz]
 refine gh 11 ?_;refine yci (nWithin) call41 ?_;refine gy 3 ?_;refine cc rfl (fun h99=>?_) (fun h99=>?_)
 ·have hgr:n.granted m=n:=by
    have h9: ¬(0≤z∧z≤n.clock):=fun hh=>by simp[within3,hh.1,hh.2]at h99
    rw[hg1];unfold NodM.granted1;rw[if_pos (by omega)]
  refine gc 2 ?_;refine kretv0 results105 (L1:=nodL F V n++R) zge ?_;rw[hgr];exact⟨_,⟨V,rfl,hV,rfl⟩,rfl⟩
 have hzz:=within3_iff.1 (by simpa using h99:within3 z 0 n.clock=true);refine gc 2 ?_;refine cseqT ?_;intro K11 hK11
 have hJr11: ∀x:NV × NodM,(n.granted m=x.2.leaseT z∧x.2.ok 970001∧NVok x.1 x.2∧x.2.clock=n.clock)→Sk 121 K11 ([(0,ptr F.p),(3,ptr b3),(4,i64 z)]) (sc b3 m.cells 34::nodL F x.1 x.2++R):=by
  rintro⟨V1,n1⟩ hIr11;refine hK11 _ _ ?_;obtain⟨hgl,hok1,hV1,hc1⟩:=hIr11;dsimp only at hgl hok1 hV1 hc1 ⊢;unfold nodL;have hle1:=hok1.a.lease;have hlf1:=hok1.n.left;have hmx:(if n1.lease-(n1.clock-z)>n1.left then n1.lease-(n1.clock-z)else n1.left)=max n1.left (n1.lease-(n1.clock-z)):=by split<;>omega
  refine cdraw 19 [(0,true),(1,true),(2,true),(3,true),(4,true),(5,true),(7,true),(8,true),(9,true),(10,true),(11,true),(12,true),(13,true),(14,true),(15,true),(16,true),(17,true),(6,false),(18,true)] ([ndC F V1 n1]++R) Tryz.mixed (by kernel_rfl) zge ?_;refine gh 16 ?_;rw[wr (by omega) (by omega)];refine gh 1 ?_;rw[wr (by omega) (by omega)];refine hcall rfl (nTLeft (V:=V1) (n:=n1)) rfl call50 ztk rfl ?_;rintro v L' ⟨rfl,rfl⟩;refine⟨zge,?_⟩;refine hr rfl (ev_max rfl rfl) rfl ?_;rw[hmx];refine gh 1 ?_;refine yci (nTSet (V:=V1) (n:=n1)) call161 ?_;refine gy 1 ?_;refine kendv0 results105 (L1:=nodL F V1 (n1.leaseT z)++R) zge ?_;rw[hgl];exact⟨_,⟨V1,rfl,⟨hV1.out,hV1.sw,hV1.si,hV1.sl⟩,rfl⟩,rfl⟩
 clear hK11;refine gc 2 ?_;refine cdraw 7 (od [] 7 0) (_) Tryz.mixed (by kernel_rfl) .refl ?_;refine gh 11 ?_;refine cc rfl (fun h128=>?_) (fun h128=>?_)
 ·refine gc 5 ?_;refine ycall (nAdopt (V:=V) (n:=n) ?nok132 ?vok132 ?ne132) rfl call111 ztk rfl ?_
  case nok132=>exact hn.le (by decide)
  case vok132=>exact hV
  case ne132=>exact hm.epoch
  rintro v L' ⟨V69,rfl,vk69,rfl⟩;refine gy 3 ?_;refine cc rfl (fun h134=>?_) (fun h134=>?_)
  ·have hgr:n.granted m=(n.adopt m.epoch).2:=by rw[hg1];unfold NodM.granted1;rw[if_neg (by omega),if_pos (by omega)];exact if_neg (by simpa using h134)
   refine gc 4 ?_;refine kretv0 results105 (L1:=nodL F V69 (n.adopt m.epoch).2++R) zge ?_;rw[hgr];exact⟨_,⟨V69,rfl,vk69,rfl⟩,rfl⟩
  have hgr:n.granted m=((n.adopt m.epoch).2.fence m.seq).leaseT z:=by rw[hg1];unfold NodM.granted1;rw[if_neg (by omega),if_pos (by omega)];exact if_pos (by simpa using h134)
  unfold nodL ndC;refine gc 3 ?_;refine cdraw 14 (od [8,11] 14 0) ([sc b3 _ 34]++R) Tryz.mixed (by kernel_rfl) zge ?_;refine gh 8 ?_;refine haN rfl (ac_store rfl rfl (by rfl) sizeOf3 zrp rfl rfl) ?_;rintro v L' ⟨rfl,rfl⟩;refine⟨zge,?_⟩;refine gh 2 ?_;refine haN rfl (ac_store rfl rfl (by rfl) sizeOf3 zrp rfl rfl) ?_;rintro v L' ⟨rfl,rfl⟩;refine⟨zge,?_⟩;refine gh 3 ?_;refine yst (ac_store rfl rfl (by rfl) sizeOf2 zrp rfl rfl) ?_;refine gy 4 ?_;refine ycall (nLoad (V:=V69) (n:={(n.adopt m.epoch).2 with role:=1,mask:=m.seq,change:=0}) ?ook151 ?ol151) rfl call68 ztk rfl ?_
  case ook151=>exact vk69.out
  case ol151=>have:=hoa.out;show(n.adopt m.epoch).2.out.length≤1000000;omega
  rintro v L' ⟨o84,rfl,oko84,rfl⟩;refine gy 3 ?_;exact ksub zsub zge (hJr11 ({V69 with out:=o84},(n.adopt m.epoch).2.fence m.seq) ⟨hgr,hoa.fence hm.seq,⟨oko84,vk69.sw,vk69.si,vk69.sl⟩,hac⟩)
 refine gc 1 ?_;refine cdraw 15 (od [] 15 0) (_) Tryz.mixed (by kernel_rfl) .refl ?_;refine gh 8 ?_;refine hsp 93 rfl (fun h160=>?_) (fun h160=>?_)
 ·have hgr:n.granted m=n:=by rw[hg1];unfold NodM.granted1;rw[if_neg (by omega),if_neg (by omega),if_pos (by omega)]
  refine gh 15 ?_;refine kretv0 results105 (L1:=nodL F V n++R) zge ?_;rw[hgr];exact⟨_,⟨V,rfl,hV,rfl⟩,rfl⟩
 refine gh 11 ?_;refine cc rfl (fun h171=>?_) (fun h171=>?_)
 ·have hgr:n.granted m=n:=by rw[hg1];unfold NodM.granted1;rw[if_neg (by omega),if_neg (by omega),if_pos (by omega)]
  refine gc 3 ?_;refine kretv0 results105 (L1:=nodL F V n++R) zge ?_;rw[hgr];exact⟨_,⟨V,rfl,hV,rfl⟩,rfl⟩
 refine gc 3 ?_;exact ksub zsub zge (hJr11 (V,n) ⟨(by rw[hg1];unfold NodM.granted1;rw[if_neg (by omega),if_neg (by omega),if_neg (by omega)]),hn.le (by decide),hV,rfl⟩)
theorem nFound [Env]{R:List Seg}{F:NF}{V:NV}{n:NodM}{e:Int}(hn:n.ok 970000)(hV:NVok V n)(he:N62 e):
   Con Tryz.prog 104 [ptr F.p,i64 e] (nodL F V n) R (KN F (n.found e) (.tuple #[])):=by
 have hblk:=hn.a.blocks;obtain⟨N,hN⟩: ∃N:Nat,n.blocks=N:=⟨n.blocks.toNat,by omega⟩;have hNt:n.blocks.toNat=N:=by omega
 refine con_enter func104 ntmps104 rfl rfl ?_;unfold nodL ndC;refine cseqT ?_;intro K1 hK1;refine gc 8 ?_
 have hJ1: ∀x:Nat × NodM,((x.1≤N∧EachI NodM.found1 (List.range N) n x.1 x.2∧x.2.ok 970000∧NVok V x.2)∧(x.1=N))→Sk 30 K1 ([(9,i64 x.1),(8,i64 n.blocks),(0,ptr F.p),(1,i64 e)]) (nodL F V x.2++R):=by
  rintro⟨k,m⟩ ⟨hI1,hX1⟩;refine hK1 _ _ ?_;obtain⟨hk,hE,hm,hVm⟩:=hI1;dsimp only at hk hE hm hVm ⊢;unfold nodL ndC;dsimp only at hX1;rw[hX1]at hE;have hfo:n.found e=m.found2 (m.boot e):=by unfold NodM.found;rw[hNt,EachI.done (by rw[List.length_range];exact hE)];rfl
  refine gc 4 ?_;refine ycall (nBoot (V:=V) (n:=m) ?nok9 ?vok9 ?ne9) rfl call49 ztk rfl ?_
  case nok9=>exact hm.le (by decide)
  case vok9=>exact hVm
  case ne9=>exact he
  rintro v L' ⟨V25,rfl,vk25,rfl⟩;refine yci (nOk (V:=V25) (n:=(m.boot e).2)) call121 ?_;refine gy 2 ?_;refine cc rfl (fun h11=>?_) (fun h11=>?_)
  ·have hst:n.found e={(m.boot e).2.err (m.boot e).1 with lost:=false}:=hfo.trans (if_pos h11);unfold ndC;refine gc 4 ?_;refine yst (ac_store rfl rfl (by rfl) sizeOf4 zrp rfl rfl) ?_;refine gy 1 ?_;refine kendv0 results104 (L1:=nodL F V25 {(m.boot e).2.err (m.boot e).1 with lost:=false}++R) zge ?_;rw[hst];exact⟨_,⟨V25,rfl,⟨vk25.out,vk25.sw,vk25.si,vk25.sl⟩,rfl⟩,rfl⟩
  have hst:n.found e=(m.boot e).2.err (m.boot e).1:=hfo.trans (if_neg h11);refine gc 1 ?_;refine kendv0 results104 (L1:=nodL F V25 ((m.boot e).2.err (m.boot e).1)++R) zge ?_;rw[hst];exact⟨_,⟨V25,rfl,⟨vk25.out,vk25.sw,vk25.si,vk25.sl⟩,rfl⟩,rfl⟩
 clear hK1;refine gc 1 ?_;refine cloopT (A:=Nat × NodM) (fun x=>[(9,i64 x.1),(8,i64 n.blocks),(0,ptr F.p),(1,i64 e)]) (fun x=>nodL F V x.2++R) (fun x=>x.1≤N∧EachI NodM.found1 (List.range N) n x.1 x.2∧x.2.ok 970000∧NVok V x.2) (fun x=>N-x.1) ((0,n)) ?_ zsub zge ?_
 · exact⟨Nat.zero_le _,EachI.zero,hn,hV⟩
 rintro⟨k,m⟩ hI1 KL1 hL1;have hI1o:=hI1;obtain⟨hk,hE,hm,hVm⟩:=hI1;dsimp only at hk hE hm hVm ⊢;unfold nodL ndC;refine gc 5 ?_;refine cc rfl (fun h17=>?_) (fun h17=>?_)
 ·refine gc 5 ?_;have hkk:(List.range N)[k]? =some k:=by rw[List.getElem?_range (by omega)]
  obtain⟨r,hR⟩: ∃z,m.dr.mark m.d (k:Int)=z:=⟨_,rfl⟩;have hf1:NodM.found1 m k=(decide (r.1=0),(m.dDid r).err r.1):=by unfold NodM.found1;rw[hR];rfl
  have hokr:((m.dDid r).err r.1).ok 970000:=by rw[←hR];exact hm.mark (k:Int)
  refine gy 11 ?_;refine yci (dMark (L:=m.dr) (D:=m.d) (i:=(k:Int)) ?dl26 ?di26 ?dj26) call156 ?_
  case dl26=>exact hm.p.dr
  case di26=>omega
  case dj26=>omega
  rw[hR];refine yci (nOk (V:=V) (n:=m.dDid r)) call121 ?_;refine gy 3 ?_;refine cc rfl (fun h29=>?_) (fun h29=>?_)
  ·have hst:n.found e=(m.dDid r).err r.1:=by
     have hs:=hE.stop hkk (m':=(m.dDid r).err r.1) (by rw[hf1];simp_all);unfold NodM.found;rw[hNt,hs];rfl
   refine gc 6 ?_;refine kretv0 results104 (L1:=nodL F V ((m.dDid r).err r.1)++R) zge ?_;rw[hst];exact⟨_,⟨V,rfl,⟨hVm.out,hVm.sw,hVm.si,hVm.sl⟩,rfl⟩,rfl⟩
  have hs:=hE.step hkk (m':=(m.dDid r).err r.1) (by rw[hf1];simp_all);refine gc 5 ?_;rw[show IntKind.i64.wrap ((k:Int)+1)=((k+1:Nat):Int)by rw[wr (by omega) (by omega)];rfl];refine gy 3 ?_;exact hL1 ((k+1,(m.dDid r).err r.1)) (⟨by omega,hs,hokr,⟨hVm.out,hVm.sw,hVm.si,hVm.sl⟩⟩) (by dsimp only;omega) _ _ zsub zge
 refine gc 5 ?_;exact ksub zsub zge (hJ1 ⟨k,m⟩ ⟨hI1o,by dsimp only;omega⟩)
theorem nHeard [Env]{R:List Seg}{F:NF}{V:NV}{n:NodM}{m:MsgM}{fr:Int}(hn:n.ok 970000)(hV:NVok V n)(hm:m.ok):
   Con Tryz.prog 61 [ptr F.p,i64 fr,.agg m.cells.toArray] (nodL F V n) R (KN F (n.heard m) (.tuple #[])):=by
 refine con_enter func61 ntmps61 rfl rfl ?_;unfold nodL ndC;refine gc 1 ?_;refine ya (ac_box (vs:=m.cells) rfl rfl) rfl ?_;rintro v L' ⟨b5,rfl,rfl⟩;refine gy 11 ?_;refine cc rfl (fun h7=>?_) (fun h7=>?_)
 ·refine gc 1 ?_;refine cdraw 16 (od [] 16 0) (_) Tryz.mixed (by kernel_rfl) .refl ?_;refine gh 4 ?_;refine hsp 14 rfl (fun h12=>?_) (fun h12=>?_)
  ·refine gh 5 ?_;refine hsp 19 rfl (fun h18=>?_) (fun h18=>?_)
   ·refine gh 11 ?_;refine cc rfl (fun h27=>?_) (fun h27=>?_)
    ·refine gc 4 ?_;refine ycall (nFound (V:=V) (n:=n) ?nok31 ?vok31 ?ne31) rfl call104 ztk rfl ?_
     case nok31=>exact hn
     case vok31=>exact hV
     case ne31=>exact hm.epoch
     rintro v L' ⟨V31,rfl,vk31,rfl⟩;refine gy 2 ?_;refine kendv0 results61 (L1:=nodL F V31 (n.found m.epoch)++R) zge ?_;rw[show n.heard m=n.found m.epoch from by unfold NodM.heard;simp_all];exact⟨_,⟨V31,rfl,vk31,rfl⟩,rfl⟩
    refine gc 2 ?_;refine kendv0 results61 (L1:=nodL F V n++R) zge ?_;rw[show n.heard m=n from by unfold NodM.heard;simp_all];exact⟨_,⟨V,rfl,hV,rfl⟩,rfl⟩
   refine gh 14 ?_;refine kendv0 results61 (L1:=nodL F V n++R) zge ?_;rw[show n.heard m=n from by unfold NodM.heard;simp_all];exact⟨_,⟨V,rfl,hV,rfl⟩,rfl⟩
  refine gh 19 ?_;refine kendv0 results61 (L1:=nodL F V n++R) zge ?_;rw[show n.heard m=n from by unfold NodM.heard;simp_all];exact⟨_,⟨V,rfl,hV,rfl⟩,rfl⟩
 refine gc 7 ?_;refine cc rfl (fun h40=>?_) (fun h40=>?_)
 ·refine gc 2 ?_;refine y (ev_loadAll rfl isAgg34 sizeOf34 zin (by rfl)) rfl ?_;refine ycall (nGranted (V:=V) (n:=n) (m:=m) ?nok43 ?vok43 ?nm43) rfl call105 ztk rfl ?_
  case nok43=>exact hn
  case vok43=>exact hV
  case nm43=>exact hm
  rintro v L' ⟨V38,rfl,vk38,rfl⟩;refine gy 2 ?_;refine kendv0 results61 (L1:=nodL F V38 (n.granted m)++R) zge ?_;rw[show n.heard m=n.granted m from by unfold NodM.heard;simp_all];exact⟨_,⟨V38,rfl,vk38,rfl⟩,rfl⟩
 refine gc 1 ?_;refine cdraw 20 (od [] 20 0) (_) Tryz.mixed (by kernel_rfl) .refl ?_;refine gh 4 ?_;refine hsp 43 rfl (fun h48=>?_) (fun h48=>?_)
 ·refine gh 23 ?_;refine kendv0 results61 (L1:=nodL F V n++R) zge ?_;rw[show n.heard m=n from by unfold NodM.heard;simp_all];exact⟨_,⟨V,rfl,hV,rfl⟩,rfl⟩
 refine gh 8 ?_;refine hsp 51 rfl (fun h61=>?_) (fun h61=>?_)
 ·refine gh 15 ?_;refine kendv0 results61 (L1:=nodL F V n++R) zge ?_;rw[show n.heard m=n from by unfold NodM.heard;simp_all];exact⟨_,⟨V,rfl,hV,rfl⟩,rfl⟩
 refine gh 12 ?_;refine cc rfl (fun h73=>?_) (fun h73=>?_)
 ·refine gc 2 ?_;refine kendv0 results61 (L1:=nodL F V n++R) zge ?_;rw[show n.heard m=n from by unfold NodM.heard;simp_all];exact⟨_,⟨V,rfl,hV,rfl⟩,rfl⟩
 refine gc 7 ?_;refine cc rfl (fun h78=>?_) (fun h78=>?_)
 ·refine gc 2 ?_;refine ycall (nDemote (V:=V) (n:=n)) rfl call106 ztk rfl ?_;rintro v L' ⟨p65,rfl,rfl⟩;refine gy 2 ?_;refine kendv0 results61 (L1:=nodL F (V.bare p65) n.demote++R) zge ?_;rw[show n.heard m=n.demote from by unfold NodM.heard;simp_all;intro;omega];exact⟨_,⟨V.bare p65,rfl,⟨hV.out,⟨rfl,rfl⟩,⟨rfl,rfl⟩,hV.sl⟩,rfl⟩,rfl⟩
 refine gc 1 ?_;refine cdraw 20 (od [] 20 0) (_) Tryz.mixed (by kernel_rfl) .refl ?_;refine gh 4 ?_;refine hsp 70 rfl (fun h85=>?_) (fun h85=>?_)
 ·refine gh 8 ?_;refine hsp 78 rfl (fun h94=>?_) (fun h94=>?_)
  ·refine gh 12 ?_;refine cc rfl (fun h104=>?_) (fun h104=>?_)
   ·refine gc 4 ?_;refine ycall (nChanged (V:=V) (n:=n) ?nok108 ?vok108 ?nm108) rfl call107 ztk rfl ?_
    case nok108=>exact hn
    case vok108=>exact hV
    case nm108=>exact hm.seq
    rintro v L' ⟨V90,rfl,vk90,rfl⟩;refine gy 2 ?_;refine kendv0 results61 (L1:=nodL F V90 (n.changed m.seq)++R) zge ?_;rw[show n.heard m=n.changed m.seq from by unfold NodM.heard;simp_all;intro;omega];exact⟨_,⟨V90,rfl,vk90,rfl⟩,rfl⟩
   refine gc 2 ?_;refine kendv0 results61 (L1:=nodL F V n++R) zge ?_;rw[show n.heard m=n from by unfold NodM.heard;simp_all];exact⟨_,⟨V,rfl,hV,rfl⟩,rfl⟩
  refine gh 15 ?_;refine kendv0 results61 (L1:=nodL F V n++R) zge ?_;rw[show n.heard m=n from by unfold NodM.heard;simp_all];exact⟨_,⟨V,rfl,hV,rfl⟩,rfl⟩
 refine gh 23 ?_;refine kendv0 results61 (L1:=nodL F V n++R) zge ?_;rw[show n.heard m=n from by unfold NodM.heard;simp_all];exact⟨_,⟨V,rfl,hV,rfl⟩,rfl⟩
theorem nRecover [Env]{R:List Seg}{F:NF}{V:NV}{n:NodM}{t:T4}(hn:n.ok 970000)(hV:NVok V n):
   Con Tryz.prog 108 [ptr F.p,.agg (t4V t).toArray] (nodL F V n) R (KN F (n.recover t) (.tuple #[])):=by
 obtain⟨r,hR⟩: ∃z,n.c.note n.d 0 0 t.l=z:=⟨_,rfl⟩;have hcd:CDone n.c n.d r:=by rw[←hR];exact note_done hn.p.c _ _ _
 refine con_enter func108 ntmps108 rfl rfl ?_;unfold nodL ndC;refine gc 1 ?_;refine ya (ac_box (vs:=t4V t) rfl rfl) rfl ?_;rintro v L' ⟨b3,rfl,rfl⟩;refine gy 2 ?_;refine cseqT ?_;intro K2 hK2
 have hJr2: ∀x:NV × NodM,(n.recover t=(NodM.andThen x.2.recS.again fun n=>n.recDone.recover3)∧x.2.ok 970000∧NVok x.1 x.2)→Sk 79 K2 ([(0,ptr F.p)]) (nodL F x.1 x.2++R):=by
  rintro⟨V2,n2⟩ hIr2;refine hK2 _ _ ?_;obtain⟨hre2,hok2,hV2⟩:=hIr2;dsimp only at hre2 hok2 hV2 ⊢;unfold nodL ndC;have hok3:n2.recS.ok 970000:=hok2.setS (.new _ _);have hok4:=hok3.again;refine gc 2 ?_;refine ycall (nSNew) rfl call74 ztk rfl ?_;rintro v L' ⟨p34,rfl,rfl⟩;refine gy 3 ?_;refine yst (ac_store rfl rfl (by rfl) sizeOf102 zrp rfl rfl) ?_;refine gy 5 ?_;refine ycall (nAgain (V:={V2 with ps:=p34,si:=none}) (n:=n2.recS) ?nok9 ?vok9) rfl call168 ztk rfl ?_
  case nok9=>exact hok3.le (by decide)
  case vok9=>exact⟨hV2.out,hV2.sw,⟨rfl,rfl⟩,hV2.sl⟩
  rintro v L' ⟨V39,rfl,vk39,rfl⟩;obtain⟨n3,hn3⟩: ∃z,n2.recS.again.2=z:=⟨_,rfl⟩;rw[hn3]at hok4 vk39 ⊢;refine gy 3 ?_;refine cc rfl (fun h11=>?_) (fun h11=>?_)
  ·have hre3:n.recover t=n3:=by rw[hre2];exact(if_neg (by simpa using h11)).trans hn3
   refine gc 2 ?_;refine kretv0 results108 (L1:=nodL F V39 n3++R) zge ?_;rw[hre3];exact⟨_,⟨V39,rfl,vk39,rfl⟩,rfl⟩
  have hre3:n.recover t=n3.recDone.recover3:=by rw[hre2,←hn3];exact if_pos (by simpa using h11)
  have hok5:n3.recDone.ok 970032:=hok4.recDone;have hV5:NVok V39 n3.recDone:=⟨vk39.out,vk39.sw,vk39.si,vk39.sl⟩;refine gc 5 ?_;refine yci (nTable (V:=V39) (n:=n3)) call169 ?_;unfold ndC;refine gy 2 ?_;refine yst (ac_storeN (us:=t4V n3.table) rfl rfl (by simp[Value.oneCell']) sizeOf32 zrp rfl (by simp) rfl) ?_;refine gy 5 ?_;refine yci (nAlone (V:=V39) (n:=n3.recDone)) call118 ?_;refine gy 3 ?_;refine cc rfl (fun h21=>?_) (fun h21=>?_)
  ·have hre4:n.recover t=NodM.andThen n3.recDone.note NodM.recM:=by rw[hre3];exact if_pos (by simpa using h21)
   refine gc 3 ?_;refine ycall (nNote (V:=V39) (n:=n3.recDone) ?nok23 ?vok23) rfl call170 ztk rfl ?_
   case nok23=>exact hok5.le (by decide)
   case vok23=>exact hV5
   rintro v L' ⟨V50,rfl,vk50,rfl⟩;refine gy 2 ?_;refine cc rfl (fun h24=>?_) (fun h24=>?_)
   ·have hre5:n.recover t=n3.recDone.note.2.recM:=by rw[hre4];exact if_pos h24
    have hok6:=hok5.note;unfold nodL ndC;refine gc 5 ?_;refine yst (ac_store rfl rfl (by rfl) sizeOf3 zrp rfl rfl) ?_;refine gy 3 ?_;obtain⟨l9,hpu⟩:=puts_shape {n3.recDone.note.2 with role:=2};have hre6:n.recover t=wout {n3.recDone.note.2 with role:=2} l9:=hre5.trans hpu;refine gy 1 ?_;refine ycall (nPuts (V:=V50) (n:={n3.recDone.note.2 with role:=2}) ?ni31 ?ook31 ?ol31 ?sov31 ?sn31) rfl call125 ztk rfl ?_
    case ni31=>exact hok6.a.id
    case ook31=>exact vk50.out
    case ol31=>have:=hok6.out;show n3.recDone.note.2.out.length≤999000;omega
    case sov31=>exact vk50.si
    case sn31=>have:=hok6.s.n;show n3.recDone.note.2.s.l.length≤1000000;omega
    rintro v L' ⟨o56,rfl,oko56,rfl⟩;rw[hpu]at oko56 ⊢;refine gy 4 ?_;refine kretv0 results108 (L1:=nodL F {V50 with out:=o56} (wout {n3.recDone.note.2 with role:=2} l9)++R) zge ?_;rw[hre6];exact⟨_,⟨{V50 with out:=o56},rfl,⟨oko56,vk50.sw,vk50.si,vk50.sl⟩,rfl⟩,rfl⟩
   have hre5:n.recover t=n3.recDone.note.2:=by rw[hre4];exact if_neg (by rw[h24];simp)
   refine gc 4 ?_;refine kretv0 results108 (L1:=nodL F V50 n3.recDone.note.2++R) zge ?_;rw[hre5];exact⟨_,⟨V50,rfl,vk50,rfl⟩,rfl⟩
  have hre4:n.recover t=NodM.andThen n3.recDone.sync NodM.recA:=by rw[hre3];exact if_neg (by simpa using h21)
  unfold ndC;refine gc 8 ?_;refine yci (kSync (C:=n3.recDone.c) (D:=n3.recDone.d) ?dok37) call158 ?_
  case dok37=>exact hok5.p.c.d
  refine yci (nOk (V:=V39) (n:=n3.recDone.cDid (n3.recDone.c.sync n3.recDone.d))) call121 ?_;refine gy 2 ?_;refine cc rfl (fun h39=>?_) (fun h39=>?_)
  ·have hre5:n.recover t=n3.recDone.sync.2.recA:=by rw[hre4];exact if_pos (decide_eq_true h39)
   unfold ndC;refine gc 7 ?_;refine yci (nLast ?sok46 ?sov46) call51 ?_
   case sok46=>exact hok5.s.fit (by decide)
   case sov46=>exact vk39.si
   refine ycall (nSNew) rfl call74 ztk rfl ?_;rintro v L' ⟨p71,rfl,rfl⟩;refine gy 3 ?_;refine yst (ac_store rfl rfl (by rfl) sizeOf102 zrp rfl rfl) ?_;refine gy 7 ?_;refine yst (ac_store rfl rfl (by rfl) sizeOf3 zrp rfl rfl) ?_;refine gy 1 ?_;refine kendv0 results108 (L1:=nodL F {V39 with ps:=p71,si:=none} n3.recDone.sync.2.recA++R) zge ?_;rw[hre5];exact⟨_,⟨{V39 with ps:=p71,si:=none},rfl,⟨vk39.out,vk39.sw,⟨rfl,rfl⟩,vk39.sl⟩,rfl⟩,rfl⟩
  have hre5:n.recover t=n3.recDone.sync.2:=by rw[hre4];exact if_neg (by show¬decide ((n3.recDone.c.sync n3.recDone.d).1=0)=true;rw[decide_eq_true_eq];exact h39)
  refine gc 1 ?_;refine kendv0 results108 (L1:=nodL F V39 n3.recDone.sync.2++R) zge ?_;rw[hre5];exact⟨_,⟨V39,rfl,⟨vk39.out,vk39.sw,vk39.si,vk39.sl⟩,rfl⟩,rfl⟩
 clear hK2;refine gc 1 ?_;refine cdrawN 25 (.op 0 0 (.op 1 1 (.op 2 2 (.op 3 0 (.op 4 0 (.op 5 0 (.op 6 0 (.op 7 0 (.op 9 0 (.op 10 0 (.op 8 2 (.op 11 2 (.op 12 2 (.op 13 0 (.op 14 0 (.op 15 0 (.op 16 0 (.op 17 0 (.op 18 0 (.op 20 0 (.fork 19 (.op 21 2 (.op 22 0 (.op 23 0 (.op 24 0 (.nil))))) 21 (.op 19 2 (.op 22 0 (.op 23 0 (.op 24 0 (.nil)))))))))))))))))))))))))) ([sc b3 (t4V t) 32]++R) Tryz.mixed (by kernel_rfl) zge ?_;refine nz rfl (ev_move rfl) rfl ?_;refine nr rfl (ev_loadN (u:=t4V t) rfl isAgg32 sizeOf32 zin rfl rfl) rfl ?_;refine ncall rfl (nMore (V:=V) (n:=n)) rfl call165 ztk rfl ?_;rintro v L' ⟨rfl,rfl⟩;refine⟨zge,?_⟩;refine nz rfl (ev_move rfl) rfl ?_;refine nsplit 7 rfl (fun h61=>?_) (fun h61=>?_)
 ·(try simp only[sH]at h61)
  have hmo:n.recover1 t=n.cOk r:=by unfold NodM.recover1;rw[if_pos h61,hR]
  unfold ndC;refine nz1 rfl rfl rfl (ev_move rfl) rfl ?_;refine nz1 rfl rfl rfl (ev_move rfl) rfl ?_;refine nz1 rfl rfl rfl (ev_nil rfl) rfl ?_;refine nz1 rfl rfl rfl (ev_fieldAddr 7 rfl underlying106 rfl sizeOf98) rfl ?_;refine nz1 rfl rfl rfl (ev_bd ([i64 0,i64 0])) rfl ?_;refine nz1 rfl rfl rfl (ev_slA rfl underlying32 sizeOf2) rfl ?_;refine na1 rfl rfl rfl (ac_of_ev (ev_load rfl isAgg98 zin rfl)) rfl ?_;rintro v L' ⟨rfl,rfl⟩;refine⟨zge,?_⟩;refine ncall1 rfl rfl rfl (kNote (C:=n.c) (D:=n.d) (e:=0) (s:=0) (ns:=t.l) ?cok69 ?its69 ?hv69 ?hl69) rfl call166 ztk rfl ?_
  case cok69=>exact hn.p.c
  case its69=>exact hV.sl
  case hv69=>exact rdV_in zin rfl rfl
  case hl69=>show 4<1000000;decide
  rintro v L' ⟨sl15,rfl,ok15,rfl⟩;refine⟨zge,?_⟩;rw[hR]at ok15 ⊢;refine ncall1 rfl rfl rfl (nOk (V:={V with sl:=sl15}) (n:=n.cDid r)) rfl call121 ztk rfl ?_;rintro v L' ⟨rfl,rfl⟩;refine⟨zge,?_⟩;let V1:NV:={V with sl:=sl15};let n1:NodM:=(n.cDid r).err r.1;have hok1:n1.ok 970000:=(hn.cDid hcd).err _;have hV1:NVok V1 n1:=⟨hV.out,hV.sw,hV.si,ok15⟩;refine nz1 rfl rfl rfl (ev_not rfl) rfl ?_;refine nz rfl (ev_pick1 rfl rfl) rfl ?_;refine nz rfl (ev_move rfl) rfl ?_;refine nsplit 19 rfl (fun h74=>?_) (fun h74=>?_)
  ·(try simp only[sH]at h74)
   have hre:n.recover t=n1:=by unfold NodM.recover;rw[hmo];exact if_neg (by show¬decide (r.1=0)=true;simpa using h74)
   refine nz0 rfl rfl rfl rfl rfl ?_;refine nz0 rfl rfl rfl rfl rfl ?_;refine nz0 rfl rfl rfl rfl rfl ?_;refine nz0 rfl rfl rfl rfl rfl ?_;refine nfork ?_ ?_
   ·unfold ndC;refine na0 rfl rfl rfl rfl rfl zge ?_;refine na0 rfl rfl rfl rfl rfl zge ?_;refine nz0 rfl rfl rfl rfl rfl ?_;refine nz0 rfl rfl rfl rfl rfl ?_;refine nz0u rfl rfl rfl rfl ?_;refine nnil ?_;refine gy 9 ?_;refine kretv0 results108 (L1:=nodL F V1 n1++R) zge ?_;rw[hre];exact⟨_,⟨V1,rfl,hV1,rfl⟩,rfl⟩
   refine na0 rfl rfl rfl rfl rfl zge ?_;unfold ndC;refine na0 rfl rfl rfl rfl rfl zge ?_;refine nz0 rfl rfl rfl rfl rfl ?_;refine nz0 rfl rfl rfl rfl rfl ?_;refine nz0u rfl rfl rfl rfl ?_;refine nnil ?_;refine gy 9 ?_;refine kretv0 results108 (L1:=nodL F V1 n1++R) zge ?_;rw[hre];exact⟨_,⟨V1,rfl,hV1,rfl⟩,rfl⟩
  try simp only[sH]at h74
  have hre:n.recover t=NodM.andThen n1.recover2 fun n=>NodM.andThen n.recS.again fun n=>n.recDone.recover3:=by unfold NodM.recover;rw[hmo];exact if_pos (by show decide (r.1=0)=true;simpa using h74)
  refine nz1 rfl rfl rfl (ev_move rfl) rfl ?_;refine nz1 rfl rfl rfl (ev_nil rfl) rfl ?_;refine nz1 rfl rfl rfl (ev_fieldAddr 12 rfl underlying106 rfl sizeOf3) rfl ?_;refine nz1 rfl rfl rfl (ev_move rfl) rfl ?_;refine nfork ?_ ?_
  ·unfold ndC;refine na1 rfl rfl rfl (ac_of_ev (ev_load rfl isAgg3 zin rfl)) rfl ?_;rintro v L' ⟨rfl,rfl⟩;refine⟨zge,?_⟩;refine ncall1 rfl rfl rfl (nOwn (V:=V1) (n:=n1) ?ni82) rfl call163 ztk rfl ?_
   case ni82=>exact hok1.a.id
   rintro v L' ⟨rfl,rfl⟩;refine⟨zge,?_⟩;refine nz1 rfl rfl rfl (ev_eql rfl rfl) rfl ?_;refine nz1 rfl rfl rfl (ev_move rfl) rfl ?_;refine nsplit 27 rfl (fun h85=>?_) (fun h85=>?_)
   ·(try simp only[sH]at h85)
    have hr2:n1.recover2=n1.marks:=by unfold NodM.recover2;exact if_pos h85
    refine nz1 rfl rfl rfl (ev_move rfl) rfl ?_;refine nnil ?_;refine ygo ?_;refine ycall (nMarks (V:=V1) (n:=n1) ?nok87 ?vok87) rfl call167 ztk rfl ?_
    case nok87=>exact hok1.le (by decide)
    case vok87=>exact hV1
    rintro v L' ⟨V29,rfl,vk29,rfl⟩;refine gy 5 ?_;refine cc rfl (fun h91=>?_) (fun h91=>?_)
    ·have hre2:n.recover t=n1.marks.2:=by rw[hre,hr2];exact if_neg (by simpa using h91)
     refine gc 2 ?_;refine kretv0 results108 (L1:=nodL F V29 n1.marks.2++R) zge ?_;rw[hre2];exact⟨_,⟨V29,rfl,vk29,rfl⟩,rfl⟩
    have hre2:n.recover t=NodM.andThen n1.marks.2.recS.again fun n=>n.recDone.recover3:=by rw[hre,hr2];exact if_pos (by simpa using h91)
    refine gc 2 ?_;exact ksub zsub zge (hJr2 (V29,n1.marks.2) ⟨hre2,hok1.marks,vk29⟩)
   try simp only[sH]at h85
   have hr2:n1.recover2=(true,n1):=by unfold NodM.recover2;exact if_neg h85
   have hre2:n.recover t=NodM.andThen n1.recS.again fun n=>n.recDone.recover3:=by rw[hre,hr2];rfl
   refine nz0 rfl rfl rfl rfl rfl ?_;refine nnil ?_;refine gy 9 ?_;exact ksub zsub zge (hJr2 (V1,n1) ⟨hre2,hok1,hV1⟩)
  refine ncall1 rfl rfl rfl (nOwn (V:=V1) (n:=n1) ?ni94) rfl call163 ztk rfl ?_
  case ni94=>exact hok1.a.id
  rintro v L' ⟨rfl,rfl⟩;refine⟨zge,?_⟩;unfold ndC;refine na1 rfl rfl rfl (ac_of_ev (ev_load rfl isAgg3 zin rfl)) rfl ?_;rintro v L' ⟨rfl,rfl⟩;refine⟨zge,?_⟩;refine nz1 rfl rfl rfl (ev_eql rfl rfl) rfl ?_;refine nz1 rfl rfl rfl (ev_move rfl) rfl ?_;refine nsplit 27 rfl (fun h98=>?_) (fun h98=>?_)
  ·(try simp only[sH]at h98)
   have hr2:n1.recover2=n1.marks:=by unfold NodM.recover2;exact if_pos h98
   refine nz1 rfl rfl rfl (ev_move rfl) rfl ?_;refine nnil ?_;refine ygo ?_;refine ycall (nMarks (V:=V1) (n:=n1) ?nok100 ?vok100) rfl call167 ztk rfl ?_
   case nok100=>exact hok1.le (by decide)
   case vok100=>exact hV1
   rintro v L' ⟨V29,rfl,vk29,rfl⟩;refine gy 5 ?_;refine cc rfl (fun h104=>?_) (fun h104=>?_)
   ·have hre2:n.recover t=n1.marks.2:=by rw[hre,hr2];exact if_neg (by simpa using h104)
    refine gc 2 ?_;refine kretv0 results108 (L1:=nodL F V29 n1.marks.2++R) zge ?_;rw[hre2];exact⟨_,⟨V29,rfl,vk29,rfl⟩,rfl⟩
   have hre2:n.recover t=NodM.andThen n1.marks.2.recS.again fun n=>n.recDone.recover3:=by rw[hre,hr2];exact if_pos (by simpa using h104)
   refine gc 2 ?_;exact ksub zsub zge (hJr2 (V29,n1.marks.2) ⟨hre2,hok1.marks,vk29⟩)
  try simp only[sH]at h98
  have hr2:n1.recover2=(true,n1):=by unfold NodM.recover2;exact if_neg h98
  have hre2:n.recover t=NodM.andThen n1.recS.again fun n=>n.recDone.recover3:=by rw[hre,hr2];rfl
  refine nz0 rfl rfl rfl rfl rfl ?_;refine nnil ?_;refine gy 9 ?_;exact ksub zsub zge (hJr2 (V1,n1) ⟨hre2,hok1,hV1⟩)
 try simp only[sH]at h61
 let V1:NV:=V;let n1:NodM:=n;have hok1:n1.ok 970000:=hn;have hV1:NVok V1 n1:=hV;have hre:n.recover t=NodM.andThen n1.recover2 fun n=>NodM.andThen n.recS.again fun n=>n.recDone.recover3:=by unfold NodM.recover NodM.recover1;rw[if_neg (by rw[h61];simp)];rfl
 refine nz0 rfl rfl rfl rfl rfl ?_;refine nz0 rfl rfl rfl rfl rfl ?_;refine nz0 rfl rfl rfl rfl rfl ?_;refine nz0 rfl rfl rfl rfl rfl ?_;refine nz0 rfl rfl rfl rfl rfl ?_;refine nz0 rfl rfl rfl rfl rfl ?_;refine na0 rfl rfl rfl rfl rfl zge ?_;refine na0 rfl rfl rfl rfl rfl zge ?_;refine na0 rfl rfl rfl rfl rfl zge ?_;refine nz0 rfl rfl rfl rfl rfl ?_;refine nz rfl (ev_pick0 rfl rfl) rfl ?_;refine nz rfl (ev_move rfl) rfl ?_;refine nz1 rfl rfl rfl (ev_move rfl) rfl ?_;refine nz1 rfl rfl rfl (ev_nil rfl) rfl ?_;refine nz1 rfl rfl rfl (ev_fieldAddr 12 rfl underlying106 rfl sizeOf3) rfl ?_;refine nz1 rfl rfl rfl (ev_move rfl) rfl ?_;refine nfork ?_ ?_
 ·unfold ndC;refine na1 rfl rfl rfl (ac_of_ev (ev_load rfl isAgg3 zin rfl)) rfl ?_;rintro v L' ⟨rfl,rfl⟩;refine⟨zge,?_⟩;refine ncall1 rfl rfl rfl (nOwn (V:=V1) (n:=n1) ?ni114) rfl call163 ztk rfl ?_
  case ni114=>exact hok1.a.id
  rintro v L' ⟨rfl,rfl⟩;refine⟨zge,?_⟩;refine nz1 rfl rfl rfl (ev_eql rfl rfl) rfl ?_;refine nz1 rfl rfl rfl (ev_move rfl) rfl ?_;refine nsplit 27 rfl (fun h117=>?_) (fun h117=>?_)
  ·(try simp only[sH]at h117)
   have hr2:n1.recover2=n1.marks:=by unfold NodM.recover2;exact if_pos h117
   refine nz1 rfl rfl rfl (ev_move rfl) rfl ?_;refine nnil ?_;refine ygo ?_;refine ycall (nMarks (V:=V1) (n:=n1) ?nok119 ?vok119) rfl call167 ztk rfl ?_
   case nok119=>exact hok1.le (by decide)
   case vok119=>exact hV1
   rintro v L' ⟨V29,rfl,vk29,rfl⟩;refine gy 5 ?_;refine cc rfl (fun h123=>?_) (fun h123=>?_)
   ·have hre2:n.recover t=n1.marks.2:=by rw[hre,hr2];exact if_neg (by simpa using h123)
    refine gc 2 ?_;refine kretv0 results108 (L1:=nodL F V29 n1.marks.2++R) zge ?_;rw[hre2];exact⟨_,⟨V29,rfl,vk29,rfl⟩,rfl⟩
   have hre2:n.recover t=NodM.andThen n1.marks.2.recS.again fun n=>n.recDone.recover3:=by rw[hre,hr2];exact if_pos (by simpa using h123)
   refine gc 2 ?_;exact ksub zsub zge (hJr2 (V29,n1.marks.2) ⟨hre2,hok1.marks,vk29⟩)
  try simp only[sH]at h117
  have hr2:n1.recover2=(true,n1):=by unfold NodM.recover2;exact if_neg h117
  have hre2:n.recover t=NodM.andThen n1.recS.again fun n=>n.recDone.recover3:=by rw[hre,hr2];rfl
  refine nz0 rfl rfl rfl rfl rfl ?_;refine nnil ?_;refine gy 9 ?_;exact ksub zsub zge (hJr2 (V1,n1) ⟨hre2,hok1,hV1⟩)
 refine ncall1 rfl rfl rfl (nOwn (V:=V1) (n:=n1) ?ni126) rfl call163 ztk rfl ?_
 case ni126=>exact hok1.a.id
 rintro v L' ⟨rfl,rfl⟩;refine⟨zge,?_⟩;unfold ndC;refine na1 rfl rfl rfl (ac_of_ev (ev_load rfl isAgg3 zin rfl)) rfl ?_;rintro v L' ⟨rfl,rfl⟩;refine⟨zge,?_⟩;refine nz1 rfl rfl rfl (ev_eql rfl rfl) rfl ?_;refine nz1 rfl rfl rfl (ev_move rfl) rfl ?_;refine nsplit 27 rfl (fun h130=>?_) (fun h130=>?_)
 ·(try simp only[sH]at h130)
  have hr2:n1.recover2=n1.marks:=by unfold NodM.recover2;exact if_pos h130
  refine nz1 rfl rfl rfl (ev_move rfl) rfl ?_;refine nnil ?_;refine ygo ?_;refine ycall (nMarks (V:=V1) (n:=n1) ?nok132 ?vok132) rfl call167 ztk rfl ?_
  case nok132=>exact hok1.le (by decide)
  case vok132=>exact hV1
  rintro v L' ⟨V29,rfl,vk29,rfl⟩;refine gy 5 ?_;refine cc rfl (fun h136=>?_) (fun h136=>?_)
  ·have hre2:n.recover t=n1.marks.2:=by rw[hre,hr2];exact if_neg (by simpa using h136)
   refine gc 2 ?_;refine kretv0 results108 (L1:=nodL F V29 n1.marks.2++R) zge ?_;rw[hre2];exact⟨_,⟨V29,rfl,vk29,rfl⟩,rfl⟩
  have hre2:n.recover t=NodM.andThen n1.marks.2.recS.again fun n=>n.recDone.recover3:=by rw[hre,hr2];exact if_pos (by simpa using h136)
  refine gc 2 ?_;exact ksub zsub zge (hJr2 (V29,n1.marks.2) ⟨hre2,hok1.marks,vk29⟩)
 try simp only[sH]at h130
 have hr2:n1.recover2=(true,n1):=by unfold NodM.recover2;exact if_neg h130
 have hre2:n.recover t=NodM.andThen n1.recS.again fun n=>n.recDone.recover3:=by rw[hre,hr2];rfl
 refine nz0 rfl rfl rfl rfl rfl ?_;refine nnil ?_;refine gy 9 ?_;exact ksub zsub zge (hJr2 (V1,n1) ⟨hre2,hok1,hV1⟩)
set_option maxHeartbeats 2000000
def loalN(m:MsgM)(n:NodM)(w:WaitM):NodM:=if NodM.loadedP m n w=true then n.given w m.data else n
def KLoa1(F:NF)(V:NV)(m:MsgM)(n':NodM)(p1 p2:Nat)(b:Bool)(u:Value)(L':List Seg):Prop:=
 ∃s,u= .bool b∧svOk s n'.out.length 3 (letsV n'.out)∧L'=[sc p1 [ptr F.p] 27,sc p2 m.cells 34,ndC F {V with out:=s} n',svSeg s 42 (letsV n'.out)]
theorem nLoaded1 [Env]{R:List Seg}{F:NF}{V:NV}{n:NodM}{w:WaitM}{m:MsgM}{p1 p2:Nat}(hc:0≤w.cl∧w.cl≤3)(ho:outOk V n)(hl:n.out.length≤1000000):
   Con Tryz.prog 172 [waV w,ptr p1,ptr p2] [sc p1 [ptr F.p] 27,sc p2 m.cells 34,ndC F V n,outS V n] R (KLoa1 F V m (loalN m n w) p1 p2 (NodM.loadedP m n w)):=by
 refine con_enter func172 ntmps172 rfl rfl ?_;unfold ndC;refine gc 1 ?_;refine ya (ac_box (vs:=w.cells) rfl rfl) rfl ?_;rintro v L' ⟨b3,rfl,rfl⟩;refine gy 11 ?_;refine ysp 12 rfl (fun h10=>?_) (fun h10=>?_)
 ·refine gy 5 ?_;refine ysp 17 rfl (fun h16=>?_) (fun h16=>?_)
  ·refine gy 5 ?_;refine ysp 22 rfl (fun h22=>?_) (fun h22=>?_)
   ·refine gy 7 ?_;refine ysp 29 rfl (fun h30=>?_) (fun h30=>?_)
    ·refine gy 14 ?_;refine cc rfl (fun h39=>?_) (fun h39=>?_)
     ·refine gc 1 ?_;have hlp:NodM.loadedP m n w=true:=by unfold NodM.loadedP;simp_all
      have hln:loalN m n w=n.given w m.data:=by unfold loalN;rw[if_pos hlp]
      refine gy 1 ?_;refine y (ev_loadN (u:=w.cells) rfl isAgg177 sizeOf177 zin rfl rfl) rfl ?_;refine gy 2 ?_;refine ycall (nGiven (V:=V) (n:=n) (w:=w) (data:=m.data) ?oc44 ?ook44 ?ol44) rfl call154 ztk rfl ?_
      case oc44=>exact hc
      case ook44=>exact ho
      case ol44=>exact hl
      rintro v L' ⟨o41,rfl,oko41,rfl⟩;refine gy 3 ?_;have hlp:=hlp;refine gy 5 ?_;refine kretv results172 rfl (L1:=[sc p1 _ _,sc p2 _ _,ndC F _ _,svSeg o41 _ _]++R) zge ?_;rw[hlp,hln];refine⟨_,⟨o41,?_,oko41,rfl⟩,rfl⟩;simp_all
     refine gc 3 ?_
     (have hlp:NodM.loadedP m n w=false:=by unfold NodM.loadedP;(simp_all;try (intros;omega)))
     refine gy 5 ?_;refine kretv results172 rfl (L1:=[sc p1 _ _,sc p2 _ _,ndC F V n,outS V n]++R) zge ?_;rw[hlp,show loalN m n w=n by unfold loalN;rw[if_neg (by rw[hlp];simp)]];refine⟨_,⟨V.out,?_,ho,rfl⟩,rfl⟩;simp_all
    refine gy 18 ?_
    (have hlp:NodM.loadedP m n w=false:=by unfold NodM.loadedP;(simp_all;try (intros;omega)))
    refine gy 5 ?_;refine kretv results172 rfl (L1:=[sc p1 _ _,sc p2 _ _,ndC F V n,outS V n]++R) zge ?_;rw[hlp,show loalN m n w=n by unfold loalN;rw[if_neg (by rw[hlp];simp)]];refine⟨_,⟨V.out,?_,ho,rfl⟩,rfl⟩;rfl
   refine gy 25 ?_
   (have hlp:NodM.loadedP m n w=false:=by unfold NodM.loadedP;(simp_all;try (intros;omega)))
   refine gy 5 ?_;refine kretv results172 rfl (L1:=[sc p1 _ _,sc p2 _ _,ndC F V n,outS V n]++R) zge ?_;rw[hlp,show loalN m n w=n by unfold loalN;rw[if_neg (by rw[hlp];simp)]];refine⟨_,⟨V.out,?_,ho,rfl⟩,rfl⟩;rfl
  refine gy 30 ?_
  (have hlp:NodM.loadedP m n w=false:=by unfold NodM.loadedP;(simp_all;try (intros;omega)))
  refine gy 5 ?_;refine kretv results172 rfl (L1:=[sc p1 _ _,sc p2 _ _,ndC F V n,outS V n]++R) zge ?_;rw[hlp,show loalN m n w=n by unfold loalN;rw[if_neg (by rw[hlp];simp)]];refine⟨_,⟨V.out,?_,ho,rfl⟩,rfl⟩;rfl
 refine gy 35 ?_
 (have hlp:NodM.loadedP m n w=false:=by unfold NodM.loadedP;(simp_all;try (intros;omega)))
 refine gy 5 ?_;refine kretv results172 rfl (L1:=[sc p1 _ _,sc p2 _ _,ndC F V n,outS V n]++R) zge ?_;rw[hlp,show loalN m n w=n by unfold loalN;rw[if_neg (by rw[hlp];simp)]];refine⟨_,⟨V.out,?_,ho,rfl⟩,rfl⟩;rfl
abbrev LoaZ:=Sv × List LetM
abbrev loaP(F:NF)(V:NV)(n:NodM)(m:MsgM)(p1 p2:Nat)(z:LoaZ):List Seg:=[sc p1 [ptr F.p] 27,sc p2 m.cells 34,ndC F {V with out:=z.1} (wout n z.2),svSeg z.1 42 (letsV z.2)]
theorem given_wout(n:NodM)(l:List LetM)(w:WaitM)(d:Bytes): ∃l2,(wout n l).given w d=wout n l2∧l2.length=l.length+1:=by
 unfold NodM.given;split
 · exact⟨_,rfl,by show(l++[_]).length=_;simp⟩
 exact⟨_,rfl,by show(l++[_]).length=_;simp⟩
theorem loalN_wout(m:MsgM)(n:NodM)(l:List LetM)(w:WaitM): ∃l2,loalN m (wout n l) w=wout n l2∧l2.length≤l.length+1:=by
 unfold loalN;split
 · obtain⟨l2,h1,h2⟩:=given_wout n l w m.data;exact⟨l2,h1,by omega⟩
 exact⟨l,rfl,by omega⟩
theorem loa_dels [Env]{F:NF}{V:NV}{n:NodM}{m:MsgM}{p1 p2:Nat}(hw: ∀w∈n.waits,0≤w.cl∧w.cl≤3)(hl:n.waits.length≤16):
   DelCs 172 #[ptr p1,ptr p2] (loaP F V n m p1 p2) (fun k z=>svOk z.1 z.2.length 3 (letsV z.2)∧z.2.length≤990000+k) (fun z w=>NodM.loadedP m (wout n z.2) w) (fun z w z'=>wout n z'.2=loalN m (wout n z.2) w) n.waits:=by
 intro R k z w ⟨h1,h2⟩ h3 h4;refine(nLoaded1 (V:={V with out:=z.1}) (n:=wout n z.2) (m:=m) (p1:=p1) (p2:=p2) (hw w h4) h1 (by show z.2.length≤1000000;omega)).mono ?_;rintro u L' ⟨s,rfl,h5,rfl⟩;obtain⟨l2,e,h6⟩:=loalN_wout m n z.2 w;rw[e]at h5 ⊢;exact⟨(s,l2),rfl,e.symm,⟨h5,by dsimp only;omega⟩,rfl⟩
theorem loaded_eq{n:NodM}{m:MsgM}{z0 z1:LoaZ}{ks:List WaitM}(h0:z0.2=n.out)(h:DelR (fun(z:LoaZ) w=>NodM.loadedP m (wout n z.2) w) (fun z w z'=>wout n z'.2=loalN m (wout n z.2) w) z0 n.waits ks z1):n.loaded m={wout n z1.2 with waits:=ks}:=by
 have e:NodM.delW (NodM.loadedP m) (fun n w=>n.given w m.data) n.waits (wout n z0.2)=(ks,wout n z1.2):=h.delW (fun z=>wout n z.2) (fun _ _=>rfl) (fun z w z' hx=>hx);have h1:wout n z0.2=n:=by rw[h0];rfl
 rw[h1]at e;unfold NodM.loaded;rw[e]
theorem nLoaded [Env]{R:List Seg}{F:NF}{V:NV}{n:NodM}{m:MsgM}(hn:n.ok 980000)(hV:NVok V n):
   Con Tryz.prog 109 [ptr F.p,.agg m.cells.toArray] (nodL F V n) R (KN F (n.loaded m) (.tuple #[])):=by
 have hwn:=hn.w.n;have hon:=hn.out;have hcl: ∀w∈n.waits,0≤w.cl∧w.cl≤3:=fun w hw=>(hn.w.all w hw).cl
 have hsw:svOk V.sw n.waits.length 7 (waitsV n.waits):=hV.sw;refine con_enter func109 ntmps109 rfl rfl ?_;unfold nodL ndC;refine gc 1 ?_;refine ya (ac_box rfl rfl) rfl ?_;rintro v L' ⟨b2,rfl,rfl⟩;refine ya (ac_box (vs:=m.cells) rfl rfl) rfl ?_;rintro v L' ⟨b3,rfl,rfl⟩;refine gy 2 ?_;refine cdraw 11 [(0,true),(1,true),(2,true),(3,true),(4,true),(6,true),(5,false),(7,false),(8,true),(9,true),(10,true)] ([sc b2 [ptr F.p] 27]++R) Tryz.mixed (by kernel_rfl) zge ?_;refine gh 5 ?_
 refine hr rfl (ev_mkFunc (vs:= #[ptr b2,ptr b3]) (fun a hf=>by
     have h1:a.eval (.tmp 2)=ptr b2:=hf.ev rfl;have h2:a.eval (.tmp 3)=ptr b3:=hf.ev rfl;simp[h1,h2])) rfl ?_
 refine ha rfl (ac_of_ev (ev_load rfl isAgg101 zin rfl)) rfl ?_;rintro v L' ⟨rfl,rfl⟩;refine⟨zge,?_⟩;refine hcall rfl (nDeletes (ws:=n.waits) (z0:=(V.out,n.out)) (Ps:=loaP F V n m b2 b3) (cs:= #[ptr b2,ptr b3]) hsw (by omega) call172 (loa_dels hcl hwn) ⟨hV.out,by dsimp only;omega⟩) rfl call171 ztk rfl ?_;rintro v L' ⟨⟨o1,l1⟩,ks,sw1,rfl,oksw,hD,hJ1,rfl⟩;refine⟨zge,?_⟩;refine gh 4 ?_;refine yst (ac_store rfl rfl (by exact svVal_one _ _) sizeOf101 zrp rfl rfl) ?_;refine gy 1 ?_;refine kendv0 results109 (L1:=nodL F {V with out:=o1,sw:=sw1} {wout n l1 with waits:=ks}++R) zge ?_;rw[loaded_eq rfl hD];exact⟨_,⟨{V with out:=o1,sw:=sw1},rfl,⟨hJ1.1,oksw,hV.si,hV.sl⟩,rfl⟩,rfl⟩
end W
end Go.Proofs