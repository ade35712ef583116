/- A part of the proof. -/
import Derived.Test.YtlignadmmopdmaaGreatUn
import Derived.Test.YtlignadmmopdmaaGreatN31
set_option linter.unusedVariables false
set_option linter.unusedSimpArgs false
set_option linter.constructorNameAsVariable false
namespace Go.Proofs
open _root_.Go.Proofs.Tryz
open Go Go.Sl
namespace W
set_option maxHeartbeats 4000000
theorem nCalled1 [Env]{R:List Seg}{x w:WaitM}{p:Nat}{S:Seg}:Con Tryz.prog 96 [waV x,ptr p] [sc p w.cells 177] R (Is (.bool (decide (x.cl=w.cl)&&decide (x.n=w.n))) [sc p w.cells 177]):=by
 refine con_enter func96 ntmps96 rfl rfl ?_;refine gc 1 ?_;refine ya (ac_box (vs:=x.cells) rfl rfl) rfl ?_;rintro v L' ⟨b2,rfl,rfl⟩;refine gy 10 ?_;refine ysp 9 rfl (fun h9=>?_) (fun h9=>?_)
 ·refine gy 10 ?_;refine kretv results96 rfl (L1:=[sc p w.cells _]++R) zge ?_;exact⟨_,⟨by simp_all,rfl⟩,by rfl⟩
 refine gy 10 ?_;refine kretv results96 rfl (L1:=[sc p w.cells _]++R) zge ?_;exact⟨_,⟨by simp_all,rfl⟩,by rfl⟩
theorem cd_busy{n:NodM}{fr:Int}{m:MsgM}(h: ¬m.kind=14∨m.n<1∨(n.waits.any fun x=>decide (x.cl=(NodM.callW fr m).cl)&&decide (x.n=(NodM.callW fr m).n))=true):n.called fr m=n:=if_pos h
theorem cd_go{n:NodM}{fr:Int}{m:MsgM}(h1:m.kind=14)(h2: ¬m.n<1)(h3:(n.waits.any fun x=>decide (x.cl=(NodM.callW fr m).cl)&&decide (x.n=(NodM.callW fr m).n))=false):
   n.called fr m=match n.calledE (NodM.callW fr m) m with|none=>n|some e=>if e= -1 then n.twice (NodM.callW fr m)else n.called1 (NodM.callW fr m) e m.data:=by
 unfold NodM.called;refine if_neg ?_;rintro(h|h|h)
 · exact h h1
 · exact h2 h
 rw[h3]at h;cases h
theorem refused_pos(n:NodM)(m:MsgM):0≤n.refused m:=by unfold NodM.refused;(repeat' split)<;>decide
theorem ce_plain{n:NodM}{w:WaitM}{m:MsgM}(h: ¬(n.refused m=0∧(w.op=2∨w.op=3))):n.calledE w m=some (n.refused m):=by unfold NodM.calledE;dsimp only;rw[if_neg h]
theorem ce_w{n:NodM}{w:WaitM}{m:MsgM}(h:n.refused m=0∧(w.op=2∨w.op=3)):n.calledE w m=if m.n<numC n.c.k w.cl then none else if m.n=numC n.c.k w.cl then some (-1)else if(n.writing m.block).isSome=true then some 25 else some 0:=by unfold NodM.calledE;dsimp only;rw[if_pos h]
theorem nCalled [Env]{R:List Seg}{F:NF}{V:NV}{n:NodM}{m:MsgM}{fr:Int}(hn:n.ok 970000)(hV:NVok V n)(hm:m.ok)(hf:4≤fr∧fr≤7):
   Con Tryz.prog 60 [ptr F.p,i64 fr,.agg m.cells.toArray] (nodL F V n) R (KN F (n.called fr m) (.tuple #[])):=by
 have hmsq:=hm.seq;have hmn:=hm.n;have hmb:=hm.block;have hwn:=hn.w.n;have hon:=hn.out;have hmin:(if(4:Int)<m.seq then 4 else m.seq)=min m.seq 4:=by split<;>omega
 obtain⟨w,hw⟩: ∃z,NodM.callW fr m=z:=⟨_,rfl⟩;have hwe:w=⟨fr- 4,m.n,min m.seq 4,m.block,0,false,0⟩:=hw▸rfl;have hwcl:w.cl=fr- 4:=by rw[hwe]
 have hwop:w.op=min m.seq 4:=by rw[hwe]
 have hwnn:w.n=m.n:=by rw[hwe]
 obtain⟨wp,hwp⟩: ∃z,NodM.writingAt n.waits m.block=z:=⟨_,rfl⟩;have hrdw:RdV [waiS V n] (svVal V.sw n.waits.length) n.waits.length (waitsV n.waits):=rdV_sv .z hV.sw;have hrp:=refused_pos n m;refine con_enter func60 ntmps60 rfl rfl ?_;unfold nodL ndC;refine gc 1 ?_;refine ya (ac_box (vs:=m.cells) rfl rfl) rfl ?_;rintro v L' ⟨b5,rfl,rfl⟩;refine gy 5 ?_;rw[wr (by omega) (by omega)];refine gy 4 ?_;refine y (ev_min rfl rfl) rfl ?_;rw[hmin];refine gy 2 ?_;refine y (ev_bd (WaitM.cells ⟨fr- 4,m.n,min m.seq 4,m.block,0,false,0⟩)) rfl ?_;refine ya (ac_alloc zeroValue177 rfl) rfl ?_;rintro v L' ⟨b6,rfl,rfl⟩;refine yst (ac_storeAll rfl rfl (wait_one _) sizeOf177 zrp rfl rfl) ?_;rw[←hwe];refine gy 8 ?_;refine ysp 22 rfl (fun h36=>?_) (fun h36=>?_)
 ·have hcd:n.called fr m=n:=cd_busy (.inl (by simpa using h36));refine gy 18 ?_;refine kretv0 results60 (L1:=nodL F V n++R) zge ?_;rw[hcd];exact⟨_,⟨V,rfl,hV,rfl⟩,rfl⟩
 have hk14:m.kind=14:=by simpa using h36
 refine gy 5 ?_;refine ysp 27 rfl (fun h45=>?_) (fun h45=>?_)
 ·have hcd:n.called fr m=n:=cd_busy (.inr (.inl (by simpa using h45)));refine gy 13 ?_;refine kretv0 results60 (L1:=nodL F V n++R) zge ?_;rw[hcd];exact⟨_,⟨V,rfl,hV,rfl⟩,rfl⟩
 have hn1: ¬m.n<1:=by simpa using h45
 refine gy 5 ?_;refine ygo ?_
 refine y (ev_mkFunc (vs:= #[ptr b6]) (fun a hf=>by
     have h1:a.eval (.tmp 6)=ptr b6:=hf.ev rfl;simp[h1])) rfl ?_
 refine ygo ?_;refine yci (nContWs (ws:=n.waits) (Ps:=[sc b6 w.cells 177]) (cs:= #[ptr b6]) (p:=fun x=>decide (x.cl=w.cl)&&decide (x.n=w.n)) ?hrw53 (by omega) call96 (fun R x=>nCalled1 (S:=sc b6 w.cells 177))) call95 ?_
 case hrw53=>exact hrdw.mono zge
 refine gy 3 ?_;refine cc rfl (fun h55=>?_) (fun h55=>?_)
 ·have hcd:n.called fr m=n:=cd_busy (.inr (.inr (by rw[hw];exact h55)));refine gc 2 ?_;refine kretv0 results60 (L1:=nodL F V n++R) zge ?_;rw[hcd];exact⟨_,⟨V,rfl,hV,rfl⟩,rfl⟩
 have hgo:=cd_go hk14 hn1 (by rw[hw];simpa using h55);rw[hw]at hgo;refine gc 4 ?_;refine y (ev_loadAll rfl isAgg34 sizeOf34 zin (by rfl)) rfl ?_;refine yci (nRefused (V:=V) (n:=n) (m:=m)) call97 ?_;refine gy 3 ?_;refine cseqT ?_;intro K6 hK6
 have hJr11: ∀x:Int,(n.called fr m=n.called1 w x m.data∧(x=0→n.refused m=0))→Sk 151 K6 ([(0,ptr F.p),(5,ptr b5),(6,ptr b6),(7,i64 x)]) (sc b5 m.cells 34::sc b6 w.cells 177::nodL F V n++R):=by
  rintro e hIr11;refine hK6 _ _ ?_;obtain⟨hc1,he0⟩:=hIr11;unfold nodL ndC;refine cseqT ?_;intro K7 hK7
  have hJr14: ∀x:Int,((¬x=0→n.called fr m=n.answer w x [])∧(x=0→n.called fr m=n.called2 w m.data∧n.waits.length<16∧n.refused m=0))→Sk 151 K7 ([(0,ptr F.p),(5,ptr b5),(6,ptr b6),(7,i64 x)]) (sc b5 m.cells 34::sc b6 w.cells 177::nodL F V n++R):=by
   rintro e2 hIr14;refine hK7 _ _ ?_;obtain⟨hx1,hx2⟩:=hIr14;unfold nodL ndC;refine gc 7 ?_;refine cc rfl (fun h63=>?_) (fun h63=>?_)
   ·refine gc 1 ?_;have hcd:=hx1 (by assumption);refine gy 1 ?_;refine y (ev_loadAll rfl isAgg177 sizeOf177 zin (by rfl)) rfl ?_;refine gy 1 ?_;refine ycall (nAnswer (V:=V) (n:=n) (w:=w) (e:=e2) (data:=[]) ?oc67 ?ook67 ?ol67) rfl call101 ztk rfl ?_
    case oc67=>omega
    case ook67=>exact hV.out
    case ol67=>omega
    rintro v L' ⟨o99,rfl,oko99,rfl⟩;refine gy 2 ?_;refine kendv0 results60 (L1:=nodL F {V with out:=o99} (n.answer w e2 [])++R) zge ?_;rw[hcd];exact⟨_,⟨{V with out:=o99},rfl,⟨oko99,hV.sw,hV.si,hV.sl⟩,rfl⟩,rfl⟩
   refine gc 1 ?_;obtain⟨hc2,hl16,hr0⟩:=hx2 (by omega);obtain⟨hs1,hs4,hsd⟩:=NodM.refused_zero hr0;have hwok:w.ok 970000:=by rw[hwe];exact⟨by dsimp only;omega,by dsimp only;omega,by dsimp only;omega,hmb,NodM.n620,NodM.zk _⟩
   unfold NodM.called2 at hc2;refine gy 6 ?_;refine cc rfl (fun h72=>?_) (fun h72=>?_)
   ·rw[if_pos h72]at hc2;refine gc 1 ?_;refine cdraw 12 (od [7,8] 12 0) ([sc b6 _ 177,sc F.p _ 106]++R) Tryz.mixed (by kernel_rfl) zge ?_;refine gh 6 ?_;refine hr rfl (ev_loadAll rfl isAgg177 sizeOf177 zin (by rfl)) rfl ?_;refine ha rfl (ac_bsliceR rfl underlying101 sizeOf177 zeroValue177 rfl rfl rfl rfl ⟨⟨_,_,rfl,(by rfl),(by decide)⟩,trivial⟩ (by dsimp[fillL,splice,vcells,reps]<;>rfl)) rfl ?_;rintro v L' ⟨b111,rfl,rfl⟩;refine⟨zge,?_⟩;refine ha rfl (ac_append (s:=V.sw) (xs:=waitsV n.waits) (m:=n.waits.length) (k:=1) (us:=w.cells) (size:=7) rfl rfl (by repeat first|exact .z|apply Pk.s) underlying101 underlying101 (by intro q hq;cases hq) typeInfo177 rfl rfl rfl ?ok81 ?src81 ?one81 ?big81) rfl ?_
    case ok81=>exact hV.sw
    case src81=>exact src_at zin rfl rfl
    case one81=>exact wait_one _
    case big81=>show(_+_)*57≤_;omega
    rintro v L' ⟨s112,rfl,ok112,rfl⟩;refine⟨zge,?_⟩;rw[←waitsV_snoc,show n.waits.length+1=(n.waits++[w]).length by simp]at ok112 ⊢;refine gh 4 ?_;refine yst (ac_store rfl rfl (by exact svVal_one _ _) sizeOf101 zrp rfl rfl) ?_;refine gy 4 ?_;refine ycall (nReads (V:={V with sw:=s112}) (n:=n.addW w) ?nok87 ?vok87) rfl call102 ztk rfl ?_
    case nok87=>exact(hn.addW hwok hl16).le (by decide)
    case vok87=>exact⟨hV.out,ok112,hV.si,hV.sl⟩
    rintro v L' ⟨V117,rfl,vk117,rfl⟩;refine gy 2 ?_;refine kendv0 results60 (L1:=nodL F V117 (n.addW w).reads++R) zge ?_;rw[hc2];exact⟨_,⟨V117,rfl,vk117,rfl⟩,rfl⟩
   rw[if_neg h72]at hc2;refine gc 7 ?_;refine cc rfl (fun h92=>?_) (fun h92=>?_)
   ·rw[if_pos h92]at hc2;refine gc 6 ?_;refine yci (nLast ?sok98 ?sov98) call51 ?_
    case sok98=>exact hn.s.fit (by decide)
    case sov98=>exact hV.si
    refine gy 1 ?_;refine yst (ac_store rfl rfl (by rfl) sizeOf2 zrp rfl rfl) ?_;refine gy 3 ?_;refine cdraw 12 (od [7,8] 12 0) ([sc b6 _ 177,sc F.p _ 106]++R) Tryz.mixed (by kernel_rfl) zge ?_;let w4:WaitM:={w with seq:=n.s.last};have hac:=hn.s.acked;have hla:=hn.s.last;have hla2:n.s.last=n.s.acked+n.s.l.length:=rfl;unfold N62 at hac;have hw4:w4.ok 970000:=⟨hwok.cl,hwok.n,hwok.op,hwok.blk,⟨by show 0≤n.s.last;omega,hla⟩,hwok.load⟩;refine gh 6 ?_;refine hr rfl (ev_loadAll rfl isAgg177 sizeOf177 zin (by rfl)) rfl ?_;refine ha rfl (ac_bsliceR rfl underlying101 sizeOf177 zeroValue177 rfl rfl rfl rfl ⟨⟨_,_,rfl,(by rfl),(by decide)⟩,trivial⟩ (by dsimp[fillL,splice,vcells,reps]<;>rfl)) rfl ?_;rintro v L' ⟨b136,rfl,rfl⟩;refine⟨zge,?_⟩;refine ha rfl (ac_append (s:=V.sw) (xs:=waitsV n.waits) (m:=n.waits.length) (k:=1) (us:=w4.cells) (size:=7) rfl rfl (by repeat first|exact .z|apply Pk.s) underlying101 underlying101 (by intro q hq;cases hq) typeInfo177 rfl rfl rfl ?ok109 ?src109 ?one109 ?big109) rfl ?_
    case ok109=>exact hV.sw
    case src109=>exact src_at zin rfl rfl
    case one109=>exact wait_one _
    case big109=>show(_+_)*57≤_;omega
    rintro v L' ⟨s137,rfl,ok137,rfl⟩;refine⟨zge,?_⟩;rw[←waitsV_snoc,show n.waits.length+1=(n.waits++[w4]).length by simp]at ok137 ⊢;refine gh 4 ?_;refine yst (ac_store rfl rfl (by exact svVal_one _ _) sizeOf101 zrp rfl rfl) ?_;refine gy 4 ?_;refine ycall (nReads (V:={V with sw:=s137}) (n:=n.addW w4) ?nok115 ?vok115) rfl call102 ztk rfl ?_
    case nok115=>exact(hn.addW hw4 hl16).le (by decide)
    case vok115=>exact⟨hV.out,ok137,hV.si,hV.sl⟩
    rintro v L' ⟨V142,rfl,vk142,rfl⟩;refine gy 2 ?_;refine kendv0 results60 (L1:=nodL F V142 (n.addW w4).reads++R) zge ?_;rw[hc2];exact⟨_,⟨V142,rfl,vk142,rfl⟩,rfl⟩
   rw[if_neg h92]at hc2;refine gc 7 ?_;refine cc rfl (fun h120=>?_) (fun h120=>?_)
   ·rw[if_pos h120]at hc2;refine gc 2 ?_;refine yst (ac_store rfl rfl (by rfl) sizeOf3 zrp rfl rfl) ?_;refine gy 4 ?_;refine y (ev_loadAll rfl isAgg177 sizeOf177 zin (by rfl)) rfl ?_;refine ycall (nWrite (V:=V) (n:=n) (w:={w with op:=2}) (data:=noughts8) ?nok125 ?vok125 ?ww125 ?wl125 ?wd125) rfl call103 ztk rfl ?_
    case nok125=>exact hn
    case vok125=>exact hV
    case ww125=>exact⟨hwok.cl,hwok.n,(by decide:(0:Int)≤2∧(2:Int)≤4),hwok.blk,hwok.seq,hwok.load⟩
    case wl125=>exact hl16
    case wd125=>rfl
    rintro v L' ⟨V150,rfl,vk150,rfl⟩;refine gy 2 ?_;refine kendv0 results60 (L1:=nodL F V150 (n.write {w with op:=2} noughts8)++R) zge ?_;rw[hc2];exact⟨_,⟨V150,rfl,vk150,rfl⟩,rfl⟩
   rw[if_neg h120]at hc2;refine gc 2 ?_;refine y (ev_loadAll rfl isAgg177 sizeOf177 zin (by rfl)) rfl ?_;refine gy 2 ?_;refine ycall (nWrite (V:=V) (n:=n) (w:=w) (data:=m.data) ?nok130 ?vok130 ?ww130 ?wl130 ?wd130) rfl call103 ztk rfl ?_
   case nok130=>exact hn
   case vok130=>exact hV
   case ww130=>exact hwok
   case wl130=>exact hl16
   case wd130=>have h28:=hsd (by omega);omega
   rintro v L' ⟨V92,rfl,vk92,rfl⟩;refine gy 2 ?_;refine kendv0 results60 (L1:=nodL F V92 (n.write w m.data)++R) zge ?_;rw[hc2];exact⟨_,⟨V92,rfl,vk92,rfl⟩,rfl⟩
  clear hK7;refine gc 4 ?_;refine ysp 79 rfl (fun h134=>?_) (fun h134=>?_)
  ·refine gy 5 ?_;refine ygo ?_;refine y (ev_lenV rfl underlying101 (RdV.lenVal (by assumption))) rfl ?_;refine gy 4 ?_;refine cc rfl (fun h143=>?_) (fun h143=>?_)
   ·refine gc 4 ?_;exact ksub zsub zge (hJr14 25 ⟨fun _=>hc1.trans (if_pos ⟨by assumption,by omega⟩),fun h=>by cases h⟩)
   refine gc 2 ?_;exact ksub zsub zge (hJr14 e ⟨fun h=>hc1.trans ((if_neg (fun hh=>h hh.1)).trans (if_pos h)),fun h=>⟨hc1.trans ((if_neg (fun hh=>by omega)).trans (if_neg (fun hh=>hh h))),by omega,he0 h⟩⟩)
  refine gy 13 ?_;exact ksub zsub zge (hJr14 e ⟨fun h=>hc1.trans ((if_neg (fun hh=>h hh.1)).trans (if_pos h)),fun h=>⟨hc1.trans ((if_neg (fun hh=>by omega)).trans (if_neg (fun hh=>hh h))),by omega,he0 h⟩⟩)
 clear hK6;refine gc 4 ?_;refine ysp 41 rfl (fun h149=>?_) (fun h149=>?_)
 ·have hr0:n.refused m=0:=by simpa using h149
  refine gy 4 ?_;refine ysp 45 rfl (fun h154=>?_) (fun h154=>?_)
  ·refine gy 9 ?_;refine cdraw 6 (od [] 6 0) (_) Tryz.mixed (by kernel_rfl) .refl ?_;have hce:=ce_w (n:=n) (w:=w) (m:=m) ⟨hr0,by exact .inl (by assumption)⟩;refine gh 7 ?_;refine yci (kNumber (C:=n.c) (i:=w.cl)) call98 ?_;refine gy 12 ?_;refine cc rfl (fun h170=>?_) (fun h170=>?_)
   ·have hcd:n.called fr m=n:=by rw[hgo,hce,if_pos h170]
    refine gc 3 ?_;refine kretv0 results60 (L1:=nodL F V n++R) zge ?_;rw[hcd];exact⟨_,⟨V,rfl,hV,rfl⟩,rfl⟩
   rw[if_neg h170]at hce;refine gc 8 ?_;refine cc rfl (fun h176=>?_) (fun h176=>?_)
   ·have hcd:n.called fr m=n.twice w:=by rw[hgo,hce,if_pos h176];rfl
    refine gc 2 ?_;refine y (ev_loadAll rfl isAgg177 sizeOf177 zin (by rfl)) rfl ?_;refine ycall (nTwice (V:=V) (n:=n) (w:=w) ?nok179 ?vok179 ?tc179) rfl call99 ztk rfl ?_
    case nok179=>exact hn.le (by decide)
    case vok179=>exact hV
    case tc179=>omega
    rintro v L' ⟨V70,rfl,vk70,rfl⟩;refine gy 5 ?_;refine kretv0 results60 (L1:=nodL F V70 (n.twice w)++R) zge ?_;rw[hcd];exact⟨_,⟨V70,rfl,vk70,rfl⟩,rfl⟩
   rw[if_neg h176]at hce;refine gc 4 ?_;refine yci (nWriting (V:=V) (n:=n) ?wok183 ?wl183) call100 ?_
   case wok183=>exact hV.sw
   case wl183=>omega
   rw[wrP_eq hwp];rcases wp with _|i
   ·refine y (ev_neqPnil rfl rfl underlying183) rfl ?_
    (rw[writing_none hwp,if_neg (by simp)]at hce;have hce2:n.calledE w m=some 0:=hce)
    refine gy 7 ?_;exact ksub zsub zge (hJr11 (n.refused m) ⟨by rw[hr0,hgo,hce2];rfl,fun h=>h⟩)
   refine y (ev_neqPnil rfl rfl underlying183) rfl ?_
   (obtain⟨w9,hw9,-,-⟩:=writingAt_get hwp;rw[writing_some hwp hw9,if_pos (by rfl)]at hce;have hce2:n.calledE w m=some 25:=hce)
   refine gy 9 ?_;exact ksub zsub zge (hJr11 25 ⟨by rw[hgo,hce2];rfl,fun h=>by cases h⟩)
  refine gy 7 ?_;refine cc rfl (fun h194=>?_) (fun h194=>?_)
  ·refine gc 1 ?_;refine cdraw 6 (od [] 6 0) (_) Tryz.mixed (by kernel_rfl) .refl ?_;have hce:=ce_w (n:=n) (w:=w) (m:=m) ⟨hr0,by exact .inr (by assumption)⟩;refine gh 7 ?_;refine yci (kNumber (C:=n.c) (i:=w.cl)) call98 ?_;refine gy 12 ?_;refine cc rfl (fun h208=>?_) (fun h208=>?_)
   ·have hcd:n.called fr m=n:=by rw[hgo,hce,if_pos h208]
    refine gc 3 ?_;refine kretv0 results60 (L1:=nodL F V n++R) zge ?_;rw[hcd];exact⟨_,⟨V,rfl,hV,rfl⟩,rfl⟩
   rw[if_neg h208]at hce;refine gc 8 ?_;refine cc rfl (fun h214=>?_) (fun h214=>?_)
   ·have hcd:n.called fr m=n.twice w:=by rw[hgo,hce,if_pos h214];rfl
    refine gc 2 ?_;refine y (ev_loadAll rfl isAgg177 sizeOf177 zin (by rfl)) rfl ?_;refine ycall (nTwice (V:=V) (n:=n) (w:=w) ?nok217 ?vok217 ?tc217) rfl call99 ztk rfl ?_
    case nok217=>exact hn.le (by decide)
    case vok217=>exact hV
    case tc217=>omega
    rintro v L' ⟨V70,rfl,vk70,rfl⟩;refine gy 5 ?_;refine kretv0 results60 (L1:=nodL F V70 (n.twice w)++R) zge ?_;rw[hcd];exact⟨_,⟨V70,rfl,vk70,rfl⟩,rfl⟩
   rw[if_neg h214]at hce;refine gc 4 ?_;refine yci (nWriting (V:=V) (n:=n) ?wok221 ?wl221) call100 ?_
   case wok221=>exact hV.sw
   case wl221=>omega
   rw[wrP_eq hwp];rcases wp with _|i
   ·refine y (ev_neqPnil rfl rfl underlying183) rfl ?_
    (rw[writing_none hwp,if_neg (by simp)]at hce;have hce2:n.calledE w m=some 0:=hce)
    refine gy 7 ?_;exact ksub zsub zge (hJr11 (n.refused m) ⟨by rw[hr0,hgo,hce2];rfl,fun h=>h⟩)
   refine y (ev_neqPnil rfl rfl underlying183) rfl ?_
   (obtain⟨w9,hw9,-,-⟩:=writingAt_get hwp;rw[writing_some hwp hw9,if_pos (by rfl)]at hce;have hce2:n.calledE w m=some 25:=hce)
   refine gy 9 ?_;exact ksub zsub zge (hJr11 25 ⟨by rw[hgo,hce2];rfl,fun h=>by cases h⟩)
  have hce:n.calledE w m=some (n.refused m):=ce_plain (fun hh=>by rcases hh.2 with h9|h9<;>contradiction);refine gc 2 ?_;exact ksub zsub zge (hJr11 (n.refused m) ⟨by rw[hgo,hce];exact if_neg (by omega),fun h=>h⟩)
 have hce:n.calledE w m=some (n.refused m):=ce_plain (fun hh=>h149 hh.1);refine gy 14 ?_;exact ksub zsub zge (hJr11 (n.refused m) ⟨by rw[hgo,hce];exact if_neg (by omega),fun h=>h⟩)
end W
end Go.Proofs
namespace Go.Proofs
open _root_.Go.Proofs.Tryz
open Go Go.Sl
namespace W
set_option maxHeartbeats 4000000
def destN(n:NodM)(k:Nat):Int × NodM:=(List.range k).foldl NodM.destage1 (0,n)
theorem destN_succ(n:NodM)(k:Nat):destN n (k+1)=NodM.destage1 (destN n k) k:=by unfold destN;rw[List.range_succ,List.foldl_append];rfl
section
variable {m : NodM} {a : Int} {k : Nat} {x : EntM} {w : WaitM}
theorem de_none(h:aget m.c.en k=none):NodM.destage1 (a,m) k=(a,m):=by unfold NodM.destage1;rw[h]
theorem de_may(h:aget m.c.en k=some x)(hw:m.writing k=some w)(h2:m.mayW w=true):NodM.destage1 (a,m) k=(a,m.store x w.cl w.n):=by unfold NodM.destage1;rw[h];dsimp only;rw[hw];dsimp only;rw[if_pos h2]
theorem de_mayn(h:aget m.c.en k=some x)(hw:m.writing k=some w)(h2:m.mayW w=false):NodM.destage1 (a,m) k=(a,m):=by unfold NodM.destage1;rw[h];dsimp only;rw[hw];dsimp only;rw[if_neg (by rw[h2];simp)]
theorem de_dirty(h:aget m.c.en k=some x)(hw:m.writing k=none)(h2:x.dirty=true∧a<4):NodM.destage1 (a,m) k=(a+1,m.store x (-1) 0):=by unfold NodM.destage1;rw[h];dsimp only;rw[hw];dsimp only;rw[if_pos h2]
theorem de_clean(h:aget m.c.en k=some x)(hw:m.writing k=none)(h2: ¬(x.dirty=true∧a<4)):NodM.destage1 (a,m) k=(a,m):=by unfold NodM.destage1;rw[h];dsimp only;rw[hw];dsimp only;rw[if_neg h2]
end
theorem nDestage [Env]{R:List Seg}{F:NF}{V:NV}{n:NodM}(hn:n.ok 990000)(hV:NVok V n):
   Con Tryz.prog 130 [ptr F.p] (nodL F V n) R (KN F n.destage (.tuple #[])):=by
 have hblk:=hn.a.blocks;have hwn:=hn.w.n;have hon:=hn.out;obtain⟨N,hN⟩: ∃N:Nat,n.blocks=N:=⟨n.blocks.toNat,by omega⟩;have hNt:n.blocks.toNat=N:=by omega
 have hsw:svOk V.sw n.waits.length 7 (waitsV n.waits):=hV.sw;have hrd:RdV [waiS V n] (svVal V.sw n.waits.length) n.waits.length (waitsV n.waits):=rdV_sv .z hsw;have hso:sO (svVal V.sw n.waits.length)=0:=by cases V.sw<;>rfl
 refine con_enter func130 ntmps130 rfl rfl ?_;unfold nodL ndC;refine gc 13 ?_;refine cloopT (A:=Nat × Int × Sv × List LetM) (fun x=>[(11,i64 x.1),(10,i64 n.blocks),(2,i64 x.2.1),(0,ptr F.p)]) (fun x=>nodL F {V with out:=x.2.2.1} (wout n x.2.2.2)++R) (fun x=>x.1≤N∧destN n x.1=(x.2.1,wout n x.2.2.2)∧svOk x.2.2.1 x.2.2.2.length 3 (letsV x.2.2.2)∧x.2.2.2.length≤990000+x.1∧0≤x.2.1∧x.2.1≤x.1) (fun x=>N-x.1) ((0,0,V.out,n.out)) ?_ zsub zge ?_
 · exact⟨Nat.zero_le _,rfl,hV.out,by dsimp only;omega,Int.le_refl _,Int.le_refl _⟩
 rintro⟨k,a,o,l⟩ hI1 KL1 hL1;obtain⟨hk,hE,hol,hll,ha0,hak⟩:=hI1;dsimp only at hk hE hol hll ha0 hak ⊢;unfold nodL ndC;refine gc 5 ?_;refine cc rfl (fun h8=>?_) (fun h8=>?_)
 ·refine gc 5 ?_;obtain⟨ox,hox⟩: ∃z,aget (wout n l).c.en (k:Int)=z:=⟨_,rfl⟩;obtain⟨wp,hwp⟩: ∃z,NodM.writingAt (wout n l).waits (k:Int)=z:=⟨_,rfl⟩;have hsu:=destN_succ n k;rw[hE]at hsu;refine gy 10 ?_;refine yci (kGet (C:=n.c) (b:=(k:Int))) call153 ?_;rw[show aget n.c.en (k:Int)=ox from hox];refine gy 3 ?_;refine ya (ac_alloc zeroValue127 rfl) rfl ?_;rintro v L' ⟨b4,rfl,rfl⟩;refine yst (ac_storeN (vs':=EntM.cells (ox.getD .zero)) rfl rfl (entM_one _) sizeOf127 zrp rfl (by decide) rfl) ?_;refine gy 6 ?_;refine yci (nWriting (V:={V with out:=o}) (n:=wout n l) ?wok25 ?wl25) call100 ?_
  case wok25=>exact hsw
  case wl25=>show n.waits.length≤1000000;omega
  rw[wrP_eq hwp];refine gy 5 ?_;rcases ox with _|ex
  ·refine gy 12 ?_;rw[show IntKind.i64.wrap ((k:Int)+1)=((k+1:Nat):Int)by rw[wr (by omega) (by omega)];rfl];refine gy 3 ?_;exact hL1 (k+1,a,o,l) ⟨by dsimp only;omega,by rw[hsu,de_none hox],hol,by dsimp only;omega,ha0,by dsimp only;omega⟩ (by dsimp only;omega) _ _ zsub zge
  refine gy 8 ?_;rcases wp with _|i
  ·refine y (ev_neqPnil rfl rfl underlying183) rfl ?_;refine gy 8 ?_;refine ysp 51 rfl (fun h41=>?_) (fun h41=>?_)
   ·refine gy 6 ?_;refine cc rfl (fun h46=>?_) (fun h46=>?_)
    ·refine gc 2 ?_;refine y (ev_loadAll rfl isAgg127 sizeOf127 zin (by rfl)) rfl ?_;refine ycall (nStore (V:={V with out:=o}) (n:=wout n l) (x:=ex) (cl:= -1) (num:=0) ?ook49 ?ol49) rfl call152 ztk rfl ?_
     case ook49=>exact hol
     case ol49=>show l.length≤1000000;omega
     rintro v L' ⟨o57,rfl,oko57,rfl⟩;refine gy 5 ?_;rw[wr (by omega) (by omega)];refine gy 7 ?_;rw[show IntKind.i64.wrap ((k:Int)+1)=((k+1:Nat):Int)by rw[wr (by omega) (by omega)];rfl];refine gy 3 ?_;exact hL1 (k+1,a+1,o57,((wout n l).store ex (-1) 0).out) ⟨by dsimp only;omega,by rw[hsu,de_dirty hox (writing_none hwp) ⟨by assumption,by assumption⟩];rfl,oko57,by show(l++[_]).length≤_;simp;omega,by dsimp only;omega,by dsimp only;omega⟩ (by dsimp only;omega) _ _ zsub zge
    refine gc 6 ?_;rw[show IntKind.i64.wrap ((k:Int)+1)=((k+1:Nat):Int)by rw[wr (by omega) (by omega)];rfl];refine gy 3 ?_;exact hL1 (k+1,a,o,l) ⟨by dsimp only;omega,by rw[hsu,de_clean hox (writing_none hwp) (by(intro hh;simp_all))],hol,by dsimp only;omega,ha0,by dsimp only;omega⟩ (by dsimp only;omega) _ _ zsub zge
   refine gy 13 ?_;rw[show IntKind.i64.wrap ((k:Int)+1)=((k+1:Nat):Int)by rw[wr (by omega) (by omega)];rfl];refine gy 3 ?_;exact hL1 (k+1,a,o,l) ⟨by dsimp only;omega,by rw[hsu,de_clean hox (writing_none hwp) (by(intro hh;simp_all))],hol,by dsimp only;omega,ha0,by dsimp only;omega⟩ (by dsimp only;omega) _ _ zsub zge
  refine y (ev_neqPnil rfl rfl underlying183) rfl ?_;refine gy 5 ?_;obtain⟨w,hwi,-,-⟩:=writingAt_get hwp;have hwi':n.waits[i]? =some w:=hwi;have hwr:=writing_some hwp hwi;have hil:i<n.waits.length:=(List.getElem?_eq_some_iff.1 hwi').1;refine gy 3 ?_;refine y (ev_loadNV (us:=w.cells) (i*7) hrd zge rfl isAgg177 sizeOf177 (by rw[hso];omega) (flV_get wait7 hwi') rfl) rfl ?_;refine yci (nMay (V:={V with out:=o}) (n:=wout n l) (w:=w)) call151 ?_;refine gy 2 ?_;refine cc rfl (fun h68=>?_) (fun h68=>?_)
  ·refine cdraw 10 (od [] 10 0) (_) Tryz.mixed (by kernel_rfl) .refl ?_;refine gh 1 ?_;refine hr rfl (ev_loadAll rfl isAgg127 sizeOf127 zin (by rfl)) rfl ?_;refine gh 3 ?_;refine hr rfl (ev_loadV (i*7+0) hrd zge rfl isAgg3 (by rw[hso];omega) (flV_at wait7 hwi' rfl)) rfl ?_;refine gh 3 ?_;refine hr rfl (ev_loadV (i*7+1) hrd zge rfl isAgg2 (by rw[hso];omega) (flV_at wait7 hwi' rfl)) rfl ?_;refine gh 1 ?_;refine ycall (nStore (V:={V with out:=o}) (n:=wout n l) (x:=ex) ?ook79 ?ol79) rfl call152 ztk rfl ?_
   case ook79=>exact hol
   case ol79=>show l.length≤1000000;omega
   rintro v L' ⟨o47,rfl,oko47,rfl⟩;refine gy 6 ?_;rw[show IntKind.i64.wrap ((k:Int)+1)=((k+1:Nat):Int)by rw[wr (by omega) (by omega)];rfl];refine gy 3 ?_;exact hL1 (k+1,a,o47,((wout n l).store ex w.cl w.n).out) ⟨by dsimp only;omega,by rw[hsu,de_may hox hwr (by assumption)];rfl,oko47,by show(l++[_]).length≤_;simp;omega,ha0,by dsimp only;omega⟩ (by dsimp only;omega) _ _ zsub zge
  refine gc 6 ?_;rw[show IntKind.i64.wrap ((k:Int)+1)=((k+1:Nat):Int)by rw[wr (by omega) (by omega)];rfl];refine gy 3 ?_;exact hL1 (k+1,a,o,l) ⟨by dsimp only;omega,by rw[hsu,de_mayn hox hwr (by assumption)],hol,by dsimp only;omega,ha0,by dsimp only;omega⟩ (by dsimp only;omega) _ _ zsub zge
 have hke:k=N:=by omega
 have hma:n.destage=wout n l:=by unfold NodM.destage;rw[hNt,←hke];show(destN n k).2=_;rw[hE]
 refine gc 4 ?_;refine kendv0 results130 (L1:=nodL F {V with out:=o} (wout n l)++R) zge ?_;rw[hma];exact⟨_,⟨{V with out:=o},rfl,⟨hol,hV.sw,hV.si,hV.sl⟩,rfl⟩,rfl⟩
end W
end Go.Proofs
namespace Go.Proofs
open _root_.Go.Proofs.Tryz
open Go Go.Sl
namespace W
set_option maxHeartbeats 4000000
def tockN(n:NodM)(k:Nat):NodM:=(n.waits.take k).foldl NodM.tockL n
theorem tockN_succ{n:NodM}{k:Nat}{w:WaitM}(h:n.waits[k]? =some w):tockN n (k+1)=NodM.tockL (tockN n k) w:=by
 unfold tockN;rw[take_snoc h,List.foldl_append];rfl
theorem tockN_all(n:NodM):tockN n n.waits.length=n.tock5:=by unfold tockN NodM.tock5;rw[List.take_length]
theorem tockL_yes{n:NodM}{w:WaitM}(h1:w.op=1)(h2:0<w.load):NodM.tockL n w=n.load w.blk w.load:=if_pos ⟨h1,h2⟩
theorem tockL_no{n:NodM}{w:WaitM}(h: ¬(w.op=1∧0<w.load)):NodM.tockL n w=n:=if_neg h
theorem tk1_go{n:NodM}(h1:n.mirrored=true)(h2:(0:Int)<(n.s.l.length:Int)):n.tock1=NodM.puts {n with quiet:=n.quiet+1}:=if_pos ⟨h1,fun e=>by rw[e]at h2;exact absurd h2 (by decide)⟩
theorem tk1_a{n:NodM}(h:n.mirrored=false):n.tock1=n.quiet0:=if_neg (fun hh=>by rw[h]at hh;cases hh.1)
theorem tk1_b{n:NodM}(h: ¬(0:Int)<(n.s.l.length:Int)):n.tock1=n.quiet0:=if_neg (fun hh=>hh.2 (List.eq_nil_of_length_eq_zero (by omega)))
theorem nTock [Env]{R:List Seg}{F:NF}{V:NV}{n:NodM}(hn:n.ok 960000)(hV:NVok V n):
   Con Tryz.prog 69 [ptr F.p] (nodL F V n) R (KN F n.tock (.tuple #[])):=by
 have hqt:=hn.n.quiet;have hok1:=hn.tock1;have hok2:=hok1.tock2;have hok3:=hok2.tock3;have htt:n.tock=n.tock1.tock2.tock4:=rfl;refine con_enter func69 ntmps69 rfl rfl ?_;unfold nodL;refine cseqT ?_;intro K1 hK1
 have hJr4: ∀x:NV × NodM,(n.tock1=x.2∧NVok x.1 x.2)→Sk 130 K1 ([(0,ptr F.p)]) (nodL F x.1 x.2++R):=by
  rintro⟨V1,n1⟩ hIr4;refine hK1 _ _ ?_;obtain⟨hn1,hV1⟩:=hIr4;dsimp only at hn1 hV1 ⊢;rw[hn1]at hok1 hok2 hok3 htt;unfold nodL ndC;refine cseqT ?_;intro K2 hK2
  have hJr8: ∀x:NV × NodM,(n1.tock2=x.2∧NVok x.1 x.2)→Sk 130 K2 ([(0,ptr F.p)]) (nodL F x.1 x.2++R):=by
   rintro⟨V2,n2⟩ hIr8;refine hK2 _ _ ?_;obtain⟨hn2,hV2⟩:=hIr8;dsimp only at hn2 hV2 ⊢;rw[hn2]at hok2 hok3 htt;unfold nodL ndC;refine gc 10 ?_;refine cc rfl (fun h7=>?_) (fun h7=>?_)
   ·have hta:n.tock=n2:=htt.trans (if_pos h7);refine gc 2 ?_;refine kretv0 results69 (L1:=nodL F V2 n2++R) zge ?_;rw[hta];exact⟨_,⟨V2,rfl,hV2,rfl⟩,rfl⟩
   have hta:n.tock=n2.tock3.destage.tock5:=htt.trans (if_neg (by omega));refine gc 2 ?_;refine cseqT ?_;intro K5 hK5
   have hJr12: ∀x:NV × NodM,(n2.tock3=x.2∧NVok x.1 x.2)→Sk 130 K5 ([(0,ptr F.p)]) (nodL F x.1 x.2++R):=by
    rintro⟨V3,n3⟩ hIr12;refine hK5 _ _ ?_;obtain⟨hn3,hV3⟩:=hIr12;dsimp only at hn3 hV3 ⊢;rw[hn3]at hok3 hta;refine gc 2 ?_;refine ycall (nDestage (V:=V3) (n:=n3) ?nok9 ?vok9) rfl call130 ztk rfl ?_
    case nok9=>exact hok3.le (by decide)
    case vok9=>exact hV3
    rintro v L' ⟨V104,rfl,vk104,rfl⟩;obtain⟨n4,hn4⟩: ∃z,n3.destage=z:=⟨_,rfl⟩;rw[hn4]at vk104 hta ⊢;have hok4:n4.ok 970000:=(hn4▸hok3.destage).le (by decide);have hwn:=hok4.w.n;have hon:=hok4.out;have hrd:RdV [waiS V104 n4] (svVal V104.sw n4.waits.length) n4.waits.length (waitsV n4.waits):=rdV_sv .z vk104.sw;refine gy 3 ?_;unfold nodL ndC;refine gy 5 ?_;refine y (ev_lenV rfl underlying101 (RdV.lenVal (by assumption))) rfl ?_;refine gy 4 ?_;refine cloopT (A:=Nat × Sv × List LetM) (fun x=>[(111,i64 x.1),(110,i64 n4.waits.length),(109,svVal V104.sw n4.waits.length),(0,ptr F.p)]) (fun x=>nodL F {V104 with out:=x.2.1} (wout n4 x.2.2)++R) (fun x=>x.1≤n4.waits.length∧tockN n4 x.1=wout n4 x.2.2∧svOk x.2.1 x.2.2.length 3 (letsV x.2.2)∧x.2.2.length≤970000+x.1) (fun x=>n4.waits.length-x.1) ((0,V104.out,n4.out)) ?_ zsub zge ?_
    · exact⟨Nat.zero_le _,rfl,vk104.out,by dsimp only;omega⟩
    rintro⟨k,o,l⟩ hI1 KL1 hL1;obtain⟨hk,hE,hol,hll⟩:=hI1;dsimp only at hk hE hol hll ⊢;unfold nodL ndC;refine gc 5 ?_;refine cc rfl (fun h18=>?_) (fun h18=>?_)
    ·refine gc 5 ?_;obtain⟨w,hw⟩: ∃w,n4.waits[k]? =some w:=⟨_,List.getElem?_eq_getElem (by omega)⟩;have hsu:=tockN_succ hw;rw[hE]at hsu;refine y (ev_ixV hrd rfl rfl underlying101 sizeOf177 (by omega) (by omega)) rfl ?_;refine y (ev_loadNV (us:=w.cells) (k*7) hrd zge rfl isAgg177 sizeOf177 (by simp) (flV_get wait7 hw) rfl) rfl ?_;refine ya (ac_alloc zeroValue177 rfl) rfl ?_;rintro v L' ⟨b3,rfl,rfl⟩;refine yst (ac_storeN (vs':=w.cells) rfl rfl (wait_one w) sizeOf177 zrp rfl (by decide) rfl) ?_;refine gy 7 ?_;refine ysp 118 rfl (fun h27=>?_) (fun h27=>?_)
     ·refine gy 6 ?_;refine cc rfl (fun h32=>?_) (fun h32=>?_)
      ·have hs1:=hsu.trans (tockL_yes (by assumption) h32);refine gc 6 ?_;refine ycall (nLoad (V:={V104 with out:=o}) (n:=wout n4 l) ?ook38 ?ol38) rfl call68 ztk rfl ?_
       case ook38=>exact hol
       case ol38=>show l.length≤1000000;omega
       rintro v L' ⟨o128,rfl,oko128,rfl⟩;refine gy 5 ?_;rw[show IntKind.i64.wrap ((k:Int)+1)=((k+1:Nat):Int)by rw[wr (by omega) (by omega)];rfl];refine gy 3 ?_;exact hL1 (k+1,o128,((wout n4 l).load w.blk w.load).out) ⟨by dsimp only;omega,hs1,oko128,by show(l++[_]).length≤_;simp;omega⟩ (by dsimp only;omega) _ _ zsub zge
      have hs1:=hsu.trans (tockL_no (fun hh=>by omega));refine gc 5 ?_;rw[show IntKind.i64.wrap ((k:Int)+1)=((k+1:Nat):Int)by rw[wr (by omega) (by omega)];rfl];refine gy 3 ?_;exact hL1 (k+1,o,l) ⟨by dsimp only;omega,hs1,hol,by dsimp only;omega⟩ (by dsimp only;omega) _ _ zsub zge
     have hs1:=hsu.trans (tockL_no (fun hh=>h27 hh.1));refine gy 12 ?_;rw[show IntKind.i64.wrap ((k:Int)+1)=((k+1:Nat):Int)by rw[wr (by omega) (by omega)];rfl];refine gy 3 ?_;exact hL1 (k+1,o,l) ⟨by dsimp only;omega,hs1,hol,by dsimp only;omega⟩ (by dsimp only;omega) _ _ zsub zge
    have hke:k=n4.waits.length:=by omega
    have hma:n.tock=wout n4 l:=by rw[hta,←tockN_all,←hke];exact hE
    refine gc 4 ?_;refine kendv0 results69 (L1:=nodL F {V104 with out:=o} (wout n4 l)++R) zge ?_;rw[hma];exact⟨_,⟨{V104 with out:=o},rfl,⟨hol,vk104.sw,vk104.si,vk104.sl⟩,rfl⟩,rfl⟩
   clear hK5;refine gc 2 ?_;refine yci (nAlone (V:=V2) (n:=n2)) call118 ?_;unfold ndC;refine gy 1 ?_;refine ysp 66 rfl (fun h49=>?_) (fun h49=>?_)
   ·refine gy 9 ?_;refine cc rfl (fun h57=>?_) (fun h57=>?_)
    ·have ht3:n2.tock3=n2.askedQ.send n2.peer n2.beginM:=if_pos ⟨by assumption,h57⟩;refine gc 5 ?_;refine yst (ac_store rfl rfl (by rfl) sizeOf3 zrp rfl rfl) ?_;refine gy 2 ?_;refine cdraw 24 [(0,true),(1,true),(3,true),(4,true),(5,true),(6,true),(7,true),(8,true),(9,true),(10,true),(11,true),(13,true),(14,true),(15,true),(16,true),(17,true),(18,true),(19,true),(20,true),(2,false),(12,false),(21,false),(22,false),(23,true)] ([sc F.p _ 106]++R) Tryz.mixed (by kernel_rfl) zge ?_;refine gh 14 ?_;refine hr rfl (ev_loadN (u:=t4V n2.done) rfl isAgg32 sizeOf32 zin rfl rfl) rfl ?_;refine gh 4 ?_;refine hcall rfl (nPeer (V:=V2) (n:=n2.askedQ) ?ni82) rfl call63 ztk rfl ?_
     case ni82=>exact hok2.a.id
     rintro v L' ⟨rfl,rfl⟩;refine⟨zge,?_⟩;refine hcall rfl (nLast ?sok83 ?sov83) rfl call51 ztk rfl ?_
     case sok83=>exact hok2.s.fit (by decide)
     case sov83=>exact hV2.si
     rintro v L' ⟨rfl,rfl⟩;refine⟨zge,?_⟩;refine hcall rfl (dRow (L:=n2.dr)) rfl call128 ztk rfl ?_;rintro v L' ⟨rfl,rfl⟩;refine⟨zge,?_⟩;refine hcall rfl (xText ?xn85 ?xb85) rfl call129 ztk rfl ?_
     case xn85=>have:=hok2.p.dr.n;unfold regs;omega
     case xb85=>exact hok2.p.dr.bits
     rintro v L' ⟨rfl,rfl⟩;refine⟨zge,?_⟩;refine hr rfl (ev_bd (MsgM.cells n2.beginM)) rfl ?_;refine gh 1 ?_;refine ycall (nSend (V:=V2) (n:=n2.askedQ) (m:=n2.beginM) ?ook87 ?ol87) rfl call67 ztk rfl ?_
     case ook87=>exact hV2.out
     case ol87=>have:=hok2.out;show n2.out.length≤1000000;omega
     rintro v L' ⟨o102,rfl,oko102,rfl⟩;refine gy 2 ?_;exact ksub zsub zge (hJr12 ({V2 with out:=o102},n2.askedQ.send n2.peer n2.beginM) ⟨ht3,⟨oko102,hV2.sw,hV2.si,hV2.sl⟩⟩)
    have ht3:n2.tock3=n2:=if_neg (fun hh=>by omega);refine gc 2 ?_;exact ksub zsub zge (hJr12 (V2,n2) ⟨ht3,hV2⟩)
   have ht3:n2.tock3=n2:=if_neg (fun hh=>by rw[h49]at hh;cases hh.1);refine gy 12 ?_;exact ksub zsub zge (hJr12 (V2,n2) ⟨ht3,hV2⟩)
  clear hK2;refine gc 2 ?_;refine cdraw 10 (od [] 10 0) (_) Tryz.mixed (by kernel_rfl) .refl ?_;refine gh 14 ?_;refine cc rfl (fun h100=>?_) (fun h100=>?_)
  ·have ht2:n1.tock2=n1.tired:=if_pos h100;refine gc 2 ?_;refine ycall (nTired (V:=V1) (n:=n1) ?nok102 ?vok102) rfl call126 ztk rfl ?_
   case nok102=>exact hok1.le (by decide)
   case vok102=>exact hV1
   rintro v L' ⟨V43,rfl,vk43,rfl⟩;refine gy 3 ?_;exact ksub zsub zge (hJr8 (V43,n1.tired) ⟨ht2,vk43⟩)
  refine gc 10 ?_;refine cc rfl (fun h110=>?_) (fun h110=>?_)
  ·have ht2:n1.tock2=n1.changes n1.want:=(if_neg (by omega)).trans (if_pos h110);refine gc 1 ?_;obtain⟨c9,w9,l9,hch⟩:=changes_shape n1 n1.want;refine gy 6 ?_;refine ycall (nChanges (V:=V1) (n:=n1) (mk:=n1.want) ?cc117 ?ook117 ?ol117) rfl call127 ztk rfl ?_
   case cc117=>have:=hok1.n.change;omega
   case ook117=>exact hV1.out
   case ol117=>have:=hok1.out;omega
   rintro v L' ⟨o57,rfl,oko57,rfl⟩;rw[hch]at oko57 ⊢;refine gy 3 ?_;exact ksub zsub zge (hJr8 ({V1 with out:=o57},{n1 with change:=c9,want:=w9,out:=l9}) ⟨ht2.trans hch,⟨oko57,hV1.sw,hV1.si,hV1.sl⟩⟩)
  have ht2:n1.tock2=n1:=(if_neg (by omega)).trans (if_neg (by omega));refine gc 3 ?_;exact ksub zsub zge (hJr8 (V1,n1) ⟨ht2,hV1⟩)
 clear hK1;refine gc 2 ?_;refine yci (nMirrored (V:=V) (n:=n)) call114 ?_;unfold ndC;refine gy 1 ?_;refine ysp 6 rfl (fun h121=>?_) (fun h121=>?_)
 ·refine gy 5 ?_;refine ygo ?_;refine ycall (nLeft ?sov127 ?sn127) rfl call124 ztk rfl ?_
  case sov127=>exact hV.si
  case sn127=>have:=hn.s.n;omega
  rintro v L' ⟨s12,rfl,ok12,rfl⟩;refine ygo ?_;refine y (ev_lenSv rfl underlying168 (by assumption)) rfl ?_;refine gy 4 ?_;refine cc rfl (fun h131=>?_) (fun h131=>?_)
  ·have ht1:=tk1_go (n:=n) (by assumption) h131;refine gc 7 ?_;rw[wr (by omega) (by omega)];refine gy 3 ?_;refine yst (ac_store rfl rfl (by rfl) sizeOf2 zrp rfl rfl) ?_;refine gy 3 ?_;obtain⟨l9,hpu⟩:=puts_shape {n with quiet:=n.quiet+1};refine gy 1 ?_;refine ycall (nPuts (V:=V) (n:={n with quiet:=n.quiet+1}) ?ni143 ?ook143 ?ol143 ?sov143 ?sn143) rfl call125 ztk rfl ?_
   case ni143=>exact hn.a.id
   case ook143=>exact hV.out
   case ol143=>have:=hn.out;show n.out.length≤999000;omega
   case sov143=>exact hV.si
   case sn143=>have:=hn.s.n;show n.s.l.length≤1000000;omega
   rintro v L' ⟨o26,rfl,oko26,rfl⟩;rw[hpu]at oko26 ⊢;refine gy 2 ?_;exact ksub zsub zge (hJr4 ({V with out:=o26},wout {n with quiet:=n.quiet+1} l9) ⟨ht1.trans hpu,⟨oko26,hV.sw,hV.si,hV.sl⟩⟩)
  have ht1:n.tock1=n.quiet0:=tk1_b h131;refine gc 5 ?_;refine yst (ac_store rfl rfl (by rfl) sizeOf2 zrp rfl rfl) ?_;refine gy 2 ?_;exact ksub zsub zge (hJr4 (V,n.quiet0) ⟨ht1,⟨hV.out,hV.sw,hV.si,hV.sl⟩⟩)
 have ht1:n.tock1=n.quiet0:=tk1_a h121;refine gy 17 ?_;refine yst (ac_store rfl rfl (by rfl) sizeOf2 zrp rfl rfl) ?_;refine gy 2 ?_;exact ksub zsub zge (hJr4 (V,n.quiet0) ⟨ht1,⟨hV.out,hV.sw,hV.si,hV.sl⟩⟩)
theorem msgC_one(x:MsgM): ∀u∈x.cells,u.oneCell'=true:=by
 intro u hu;simp only[MsgM.cells,List.mem_cons,List.not_mem_nil,or_false]at hu;rcases hu with rfl|rfl|rfl|rfl|rfl|rfl|rfl|rfl|rfl|rfl|rfl|rfl|rfl<;>rfl
/-- What a node has sent, and how it stands. -/
def KTk(F:NF)(n':NodM)(v:Value)(L':List Seg):Prop:= ∃V',v=svVal V'.out n'.out.length∧NVok V' n'∧L'=nodL F V' n'
abbrev nodB(F:NF)(V:NV)(n:NodM):List Seg:=[ndC F V n,waiS V n,sndC V.ps V.si n.s,sndI V.si n.s,celP F.pf F.q n.f,drlP F.pl F.pc n.dr,celP F.pc F.q n.dr.c,caP F.A n.c,enS F.A n.c,puS F.A n.c,lgS F.A F.q V.sl n.c,dev F.q n.d]
theorem perm_two{a b:Seg}{r R:List Seg}:(a::b::r++R).flatten.Perm (a::r++b::R).flatten:=by
 simp only[List.cons_append,List.flatten_cons,List.flatten_append];exact List.Perm.append_left _ (List.perm_append_comm_assoc _ _ _)
theorem nodL_nodB{F:NF}{V:NV}{n:NodM}{R:List Seg}:(nodL F V n++R).flatten.Perm (nodB F V n++outS V n::R).flatten:=perm_two
theorem nTickB [Env]{R:List Seg}{F:NF}{V:NV}{n:NodM}(hn:n.ok 950000)(hV:NVok V n):
   Con Tryz.prog 34 [ptr F.p] (nodB F V n) R (KTk F n.tick):=by
 have hck:=hn.n.clock;have hlf:=hn.n.left;have hbo:=hn.n.born;have hok0:=hn.clear.tick0;have hV0:NVok {V with out:=none} n.clear.tick0:=⟨⟨rfl,rfl⟩,hV.sw,hV.si,hV.sl⟩;refine con_enter func34 ntmps34 rfl rfl ?_;unfold nodB ndC;refine gc 8 ?_;refine yst (ac_store rfl rfl (by rfl) sizeOf45 zrp rfl rfl) ?_;refine gy 10 ?_;refine cc rfl (fun h10=>?_) (fun h10=>?_)
 ·have htk:n.tick=n.clear:=if_pos h10;refine gc 6 ?_;refine kretv results34 rfl (L1:=[ndC F {V with out:=none} n.clear,svSeg none 42 [],waiS V n,sndC V.ps V.si n.s,sndI V.si n.s,celP F.pf F.q n.f,drlP F.pl F.pc n.dr,celP F.pc F.q n.dr.c,caP F.A n.c,enS F.A n.c,puS F.A n.c,lgS F.A F.q V.sl n.c,dev F.q n.d]++R) zge ?_;rw[htk];exact⟨_,⟨{V with out:=none},rfl,⟨⟨rfl,rfl⟩,hV.sw,hV.si,hV.sl⟩,rfl⟩,rfl⟩
 have htk:n.tick=n.clear.tick0.tick1:=if_neg (by rw[h10];simp);refine gc 8 ?_;rw[wr (by omega) (by omega)];refine gy 2 ?_;refine yst (ac_store rfl rfl (by rfl) sizeOf2 zrp rfl rfl) ?_;refine gy 2 ?_;refine cseqT ?_;intro K7 hK7
 have hJr6: ∀x:Unit,(True)→Sk 84 K7 ([(0,ptr F.p)]) ([ndC F {V with out:=none} n.clear.tick0,svSeg none 42 [],waiS V n,sndC V.ps V.si n.s,sndI V.si n.s,celP F.pf F.q n.f,drlP F.pl F.pc n.dr,celP F.pc F.q n.dr.c,caP F.A n.c,enS F.A n.c,puS F.A n.c,lgS F.A F.q V.sl n.c,dev F.q n.d]++R):=by
  rintro x hIr6;refine hK7 _ _ ?_;obtain⟨n0,hn0⟩: ∃z,n.clear.tick0=z:=⟨_,rfl⟩;rw[hn0]at hok0 hV0 htk;have ho0:n0.out=[]:=by rw[←hn0];rfl
  show Sk _ _ _ (nodL F {V with out:=none} n.clear.tick0++R);rw[hn0];have hck0:=hok0.n.clock;have hbo0:=hok0.n.born;unfold nodL ndC;refine gc 8 ?_;refine cc rfl (fun h24=>?_) (fun h24=>?_)
  ·have htk2:n.tick=n0.send 2 {NodM.msg0 with kind:=4,n:=n0.serial}:=htk.trans (if_pos h24);refine gc 6 ?_;refine y (ev_bd (MsgM.cells {NodM.msg0 with kind:=4,n:=n0.serial})) rfl ?_;refine ycall (nSend (V:={V with out:=none}) (n:=n0) (m:={NodM.msg0 with kind:=4,n:=n0.serial}) ?ook31 ?ol31) rfl call67 ztk rfl ?_
   case ook31=>exact hV0.out
   case ol31=>rw[ho0];exact Nat.zero_le _
   rintro v L' ⟨o32,rfl,oko32,rfl⟩;refine gy 3 ?_;unfold ndC;refine gy 9 ?_;refine kretv results34 rfl (L1:=nodL F {V with out:=o32} (n0.send 2 {NodM.msg0 with kind:=4,n:=n0.serial})++R) zge ?_;rw[htk2];exact⟨_,⟨{V with out:=o32},rfl,⟨oko32,hV0.sw,hV0.si,hV0.sl⟩,rfl⟩,rfl⟩
  have htk2:n.tick=(n0.send 2 n0.askM).tick2:=htk.trans (if_neg (by rw[h24];simp));refine gc 3 ?_;refine cdraw 16 (od [15] 16 0) ([sc F.p _ 106]++R) Tryz.mixed (by kernel_rfl) zge ?_;refine gh 8 ?_;refine hr rfl (ev_mul rfl rfl) rfl ?_;rw[wr (by omega) (by omega)];refine gh 5 ?_;rw[wr (by omega) (by omega)];refine hr rfl (ev_bd (MsgM.cells {NodM.msg0 with kind:=1,epoch:=n0.epoch,n:=n0.born*4294967296+n0.clock})) rfl ?_;refine ha rfl (ac_alloc zeroValue34 rfl) rfl ?_;rintro v L' ⟨b3,rfl,rfl⟩;refine⟨zge,?_⟩;refine gh 1 ?_;refine yst (ac_storeAll rfl rfl (msgC_one _) sizeOf34 zrp rfl rfl) ?_;refine gy 2 ?_;refine cseqT ?_;intro K13 hK13
  have hJr12: ∀x:Unit,(True)→Sk 84 K13 ([(0,ptr F.p),(3,ptr b3)]) (sc b3 n0.askM.cells 34::nodL F {V with out:=none} n0++R):=by
   rintro x hIr12;refine hK13 _ _ ?_;refine gc 2 ?_;refine y (ev_loadAll rfl isAgg34 sizeOf34 zin (by rfl)) rfl ?_;refine ycall (nSend (V:={V with out:=none}) (n:=n0) (m:=n0.askM) ?ook56 ?ol56) rfl call67 ztk rfl ?_
   case ook56=>exact hV0.out
   case ol56=>rw[ho0];exact Nat.zero_le _
   rintro v L' ⟨o61,rfl,oko61,rfl⟩;let n1:NodM:=n0.send 2 n0.askM;have hok1:n1.ok 950002:=hok0.send _ _;have hV1:NVok {V with out:=o61} n1:=⟨oko61,hV0.sw,hV0.si,hV0.sl⟩;unfold ndC;refine gy 2 ?_;refine cseqT ?_;intro K15 hK15
   have hJr17: ∀x:NV × NodM,(n.tick=x.2∧NVok x.1 x.2)→Sk 84 K15 ([(0,ptr F.p)]) (nodL F x.1 x.2++R):=by
    rintro⟨V9,n9⟩ hIr17;refine hK15 _ _ ?_;obtain⟨ht9,hV9⟩:=hIr17;dsimp only at ht9 hV9 ⊢;unfold nodL ndC;refine gc 9 ?_;refine kretv results34 rfl (L1:=nodL F V9 n9++R) zge ?_;rw[ht9];exact⟨_,⟨V9,rfl,hV9,rfl⟩,rfl⟩
   clear hK15;refine gc 11 ?_;refine cc rfl (fun h69=>?_) (fun h69=>?_)
   ·have htk3:n.tick=n1.load (-1) 0:=htk2.trans (if_pos h69);refine gc 2 ?_;refine ycall (nLoad (V:={V with out:=o61}) (n:=n1) (b:= -1) (num:=0) ?ook71 ?ol71) rfl call68 ztk rfl ?_
    case ook71=>exact hV1.out
    case ol71=>have:=hok1.out;omega
    rintro v L' ⟨o70,rfl,oko70,rfl⟩;refine gy 3 ?_;exact ksub zsub zge (hJr17 ({V with out:=o70},n1.load (-1) 0) ⟨htk3,⟨oko70,hV1.sw,hV1.si,hV1.sl⟩⟩)
   refine gc 10 ?_;refine cc rfl (fun h79=>?_) (fun h79=>?_)
   ·have htk3:n.tick=n1.tock:=htk2.trans ((if_neg (by assumption)).trans (if_pos h79));refine gc 2 ?_;refine ycall (nTock (V:={V with out:=o61}) (n:=n1) ?nok81 ?vok81) rfl call69 ztk rfl ?_
    case nok81=>exact hok1.le (by decide)
    case vok81=>exact hV1
    rintro v L' ⟨V79,rfl,vk79,rfl⟩;refine gy 3 ?_;exact ksub zsub zge (hJr17 (V79,n1.tock) ⟨htk3,vk79⟩)
   have htk3:n.tick=n1:=htk2.trans ((if_neg (by assumption)).trans (if_neg (by omega)));refine gc 3 ?_;exact ksub zsub zge (hJr17 ({V with out:=o61},n1) ⟨htk3,hV1⟩)
  clear hK13;refine gc 9 ?_;refine cc rfl (fun h88=>?_) (fun h88=>?_)
  ·have hak:n0.askM={NodM.msg0 with kind:=1,epoch:=n0.epoch,seq:=1,n:=n0.born*4294967296+n0.clock}:=by unfold NodM.askM;rw[if_pos (by exact h88)]
   refine gc 2 ?_;refine yst (ac_store rfl rfl (by rfl) sizeOf2 zrp rfl rfl) ?_;refine gy 2 ?_;rw[hak]at hJr12;exact ksub zsub zge (hJr12 () trivial)
  have hak:n0.askM={NodM.msg0 with kind:=1,epoch:=n0.epoch,n:=n0.born*4294967296+n0.clock}:=by unfold NodM.askM;rw[if_neg (by exact h88)];try rfl
  refine gc 2 ?_;rw[hak]at hJr12;exact ksub zsub zge (hJr12 () trivial)
 clear hK7;refine gc 4 ?_;refine yci (nTTick (V:={V with out:=none}) (n:={n.clear with clock:=n.clock+1}) ?tl94) call66 ?_
 case tl94=>exact hlf
 refine gy 2 ?_;exact ksub zsub zge (hJr6 () trivial)
theorem nTick [Env]{R:List Seg}{F:NF}{V:NV}{n:NodM}(hn:n.ok 950000)(hV:NVok V n):
   Con Tryz.prog 34 [ptr F.p] (nodL F V n) R (KTk F n.tick):=(nTickB hn hV).shed nodL_nodB
end W
end Go.Proofs