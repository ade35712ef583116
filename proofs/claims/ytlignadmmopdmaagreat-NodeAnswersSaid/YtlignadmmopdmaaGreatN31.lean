/- A part of the proof. -/
import Derived.Test.YtlignadmmopdmaaGreatUn
import Derived.Test.YtlignadmmopdmaaGreatN30
set_option linter.unusedVariables false
set_option linter.unusedSimpArgs false
set_option linter.constructorNameAsVariable false
namespace Go.Proofs
open _root_.Go.Proofs.Tryz
open Go Go.Sl
namespace W
set_option maxHeartbeats 4000000
theorem w2_full{n:NodM}{w:WaitM}{x:EntM}{r:Int × CaM × Dev}(hR:n.c.put n.d x=r)(h:r.1=12):n.write2 w x=(n.cDid r).answer w 12 []:=by unfold NodM.write2;rw[hR,if_pos h]
theorem w2_go{n:NodM}{w:WaitM}{x:EntM}{r:Int × CaM × Dev}(hR:n.c.put n.d x=r)(h: ¬r.1=12):n.write2 w x=NodM.andThen (n.cOk r) fun n=>NodM.andThen n.sync fun n=>n.write3 w x:=by unfold NodM.write2;rw[hR,if_neg h]
theorem nWrite [Env]{R:List Seg}{F:NF}{V:NV}{n:NodM}{w:WaitM}{data:Bytes}(hn:n.ok 970000)(hV:NVok V n)(hw:w.ok 970000)(hwl:n.waits.length<16)(hd:data.length=8):
   Con Tryz.prog 103 [ptr F.p,waV w,str data] (nodL F V n) R (KN F (n.write w data) (.tuple #[])):=by
 obtain⟨r1,hR1⟩: ∃z,n.dr.mark n.d w.blk=z:=⟨_,rfl⟩;have hokm:((n.dDid r1).err r1.1).ok 970000:=by rw[←hR1];exact hn.mark w.blk
 have hcl:=hw.cl;have hbk:=hw.blk;have hon:=hn.out;have hwn:=hw.n;have hblk:=hn.a.blocks;refine con_enter func103 ntmps103 rfl rfl ?_;unfold nodL ndC;refine gc 1 ?_;refine ya (ac_box (vs:=w.cells) rfl rfl) rfl ?_;rintro v L' ⟨b4,rfl,rfl⟩;refine gy 9 ?_;refine yci (nLast ?sok7 ?sov7) call51 ?_
 case sok7=>exact hn.s.fit (by decide)
 case sov7=>exact hV.si
 refine gy 3 ?_;refine cc rfl (fun h9=>?_) (fun h9=>?_)
 ·have hwr:n.write w data=n.answer w 23 []:=if_pos h9;refine gc 2 ?_;refine y (ev_loadAll rfl isAgg177 sizeOf177 zin (by rfl)) rfl ?_;refine ycall (nAnswer (V:=V) (n:=n) (w:=w) (e:=23) (data:=[]) ?oc12 ?ook12 ?ol12) rfl call101 ztk rfl ?_
  case oc12=>exact hcl
  case ook12=>exact hV.out
  case ol12=>omega
  rintro v L' ⟨o18,rfl,oko18,rfl⟩;refine gy 4 ?_;refine kretv0 results103 (L1:=nodL F {V with out:=o18} (n.answer w 23 [])++R) zge ?_;rw[hwr];exact⟨_,⟨{V with out:=o18},rfl,⟨oko18,hV.sw,hV.si,hV.sl⟩,rfl⟩,rfl⟩
 have hwr:n.write w data=NodM.andThen (n.write1 w) fun n=>n.write2 w (n.writeX w data):=if_neg (by omega)
 refine gc 2 ?_;refine cseqT ?_;intro K5 hK5
 have hJr4: ∀x:NodM,(n.write w data=x.write2 w (x.writeX w data)∧x.ok 970000∧NVok V x∧x.s.last<4611686018427387904∧x.waits.length<16)→Sk 136 K5 ([(0,ptr F.p),(2,str data),(4,ptr b4)]) (sc b4 w.cells 177::nodL F V x++R):=by
  rintro n1 hIr4;refine hK5 _ _ ?_;obtain⟨hwr2,hok1,hV1,hls1,hwl1⟩:=hIr4;unfold nodL ndC;have hac1:=hok1.s.acked;have hla1:n1.s.last=n1.s.acked+n1.s.l.length:=rfl;unfold N62 at hac1;obtain⟨r,hR⟩: ∃z,n1.c.put n1.d (n1.writeX w data)=z:=⟨_,rfl⟩;have hcd:CDone n1.c n1.d r:=by rw[←hR];exact put_done' hok1.p.c _
  refine gc 1 ?_;refine cdrawN 21 (.op 0 0 (.op 1 1 (.op 2 0 (.op 3 0 (.op 4 0 (.op 5 1 (.op 6 0 (.op 7 0 (.op 8 0 (.op 9 0 (.op 10 1 (.op 14 0 (.op 15 0 (.op 16 1 (.op 17 0 (.op 18 1 (.fork 11 (.op 12 0 (.op 13 0 (.op 19 0 (.op 20 2 (.nil))))) 20 (.op 11 2 (.op 12 0 (.op 13 0 (.op 19 0 (.nil)))))))))))))))))))))) ([sc b4 _ 177,sc F.p _ 106]++R) Tryz.mixed (by kernel_rfl) zge ?_;refine nz rfl (ev_fieldAddr 3 rfl underlying177 rfl sizeOf3) rfl ?_;refine nr rfl (ev_load rfl isAgg3 zin rfl) rfl ?_;refine nz rfl (ev_move rfl) rfl ?_;refine nz rfl (ev_nil rfl) rfl ?_;refine nz rfl (ev_fieldAddr 11 rfl underlying106 rfl sizeOf2) rfl ?_;refine nr rfl (ev_load rfl isAgg2 zin rfl) rfl ?_;refine nz rfl (ev_move rfl) rfl ?_;refine nz rfl (ev_nil rfl) rfl ?_;refine nz rfl (ev_fieldAddr 26 rfl underlying106 rfl sizeOf104) rfl ?_;refine nz rfl (ev_fieldAddr 5 rfl underlying104 rfl sizeOf102) rfl ?_;refine nr rfl (ev_load rfl isAgg102 zin rfl) rfl ?_;refine nz rfl (ev_move rfl) rfl ?_;refine nz rfl (ev_fieldAddr 0 rfl underlying177 rfl sizeOf3) rfl ?_;refine nr rfl (ev_load rfl isAgg3 zin rfl) rfl ?_;refine nz rfl (ev_fieldAddr 1 rfl underlying177 rfl sizeOf2) rfl ?_;refine nr rfl (ev_load rfl isAgg2 zin rfl) rfl ?_;refine nfork ?_ ?_
  ·refine ncall rfl (nLast ?sok29 ?sov29) rfl call51 ztk rfl ?_
   case sok29=>exact hok1.s.fit (by decide)
   case sov29=>exact hV1.si
   rintro v L' ⟨rfl,rfl⟩;refine⟨zge,?_⟩;refine nz rfl (ev_add rfl rfl) rfl ?_;rw[wr (by omega) (by omega)];refine nz rfl (ev_bd ([i64 n1.epoch,i64 (n1.s.last+1)])) rfl ?_;refine nz rfl (ev_bd (EntM.cells (n1.writeX w data))) rfl ?_;refine na rfl (ac_alloc zeroValue127 rfl) rfl ?_;rintro v L' ⟨b6,rfl,rfl⟩;refine⟨zge,?_⟩;refine nnil ?_;refine yst (ac_storeAll rfl rfl (entM_one _) sizeOf127 zrp rfl rfl) ?_;refine gy 3 ?_;refine cdraw 5 (od [] 5 0) (_) Tryz.mixed (by kernel_rfl) .refl ?_;refine gh 4 ?_;refine hr rfl (ev_loadAll rfl isAgg127 sizeOf127 zin (by rfl)) rfl ?_;refine gh 1 ?_;refine ycall (kPut (C:=n1.c) (D:=n1.d) (x:=n1.writeX w data) ?cok40 ?its40) rfl call157 ztk rfl ?_
   case cok40=>exact hok1.p.c
   case its40=>exact hV1.sl
   rintro v L' ⟨sl58,rfl,ok58,rfl⟩;rw[hR]at ok58 ⊢;refine gy 9 ?_;refine cc rfl (fun h44=>?_) (fun h44=>?_)
   ·have hwr3:n.write w data=(n1.cDid r).answer w 12 []:=hwr2.trans (w2_full hR h44);refine gc 1 ?_;have h12:r.1=12:=by assumption
    refine gy 1 ?_;refine y (ev_loadAll rfl isAgg177 sizeOf177 zin (by rfl)) rfl ?_;refine gy 1 ?_;rw[h12];refine ycall (nAnswer (V:={V with sl:=sl58}) (n:=n1.cDid r) (w:=w) (e:=12) (data:=[]) ?oc48 ?ook48 ?ol48) rfl call101 ztk rfl ?_
    case oc48=>exact hcl
    case ook48=>exact hV1.out
    case ol48=>have:=hok1.out;show n1.out.length≤1000000;omega
    rintro v L' ⟨o64,rfl,oko64,rfl⟩;refine gy 4 ?_;refine kretv0 results103 (L1:=nodL F {V with sl:=sl58,out:=o64} ((n1.cDid r).answer w 12 [])++R) zge ?_;rw[hwr3];exact⟨_,⟨{V with sl:=sl58,out:=o64},rfl,⟨oko64,hV1.sw,hV1.si,ok58⟩,rfl⟩,rfl⟩
   have hwr3:=hwr2.trans (w2_go (w:=w) hR h44);refine gc 2 ?_;refine cseqT ?_;intro K11 hK11
   have hJr9: ∀x:NodM,(n.write w data=x.write3 w (n1.writeX w data)∧x.ok 970000∧NVok {V with sl:=sl58} x∧x.waits.length<16)→Sk 136 K11 ([(0,ptr F.p),(2,str data),(4,ptr b4),(6,ptr b6)]) (sc b4 w.cells 177::sc b6 (EntM.cells (n1.writeX w data)) 127::nodL F {V with sl:=sl58} x++R):=by
    rintro n3 hIr9;refine hK11 _ _ ?_;obtain⟨hwr5,hok3,hV3,hwl3⟩:=hIr9;unfold nodL ndC;obtain⟨ad,hA⟩: ∃z,n3.s.add ⟨0,w.blk,data,w.cl,w.n⟩=z:=⟨_,rfl⟩;have hit:(⟨0,w.blk,data,w.cl,w.n⟩:ItemM).ok:=⟨NodM.n620,hw.blk,Nat.le_of_eq hd,⟨by show-1≤w.cl;omega,hcl.2⟩,⟨by show 0≤w.n;omega,hwn.2⟩⟩;have hq:N62 ad.1.1:=hA▸hok3.s.add_seq _;let w2:WaitM:={w with seq:=ad.1.1};have hok4:({n3 with s:=ad.2,waits:=n3.waits++[w2]}:NodM).ok 970001:=NodM.ok.addW (n:={n3 with s:=ad.2}) ((hok3.le (show 970000≤970001 by decide)).setS (show NokS 970001 ad.2 by rw[←hA];exact hok3.s.add hit)) (w:=w2) ⟨hw.cl,hw.n,hw.op,hw.blk,hq,by have:=hw.load;show 0≤w.load∧w.load≤((970001:Nat):Int);omega⟩ hwl3
    have hwr6:n.write w data=(NodM.writeP {n3 with s:=ad.2,waits:=n3.waits++[w2]} ⟨ad.1.1,w.blk,data,w.cl,w.n⟩).twice2 w2 (n1.writeX w data):=by
      rw[hwr5];unfold NodM.write3 NodM.writeS;show(NodM.writeP {n3 with s:=(n3.s.add ⟨0,w.blk,data,w.cl,w.n⟩).2,waits:=n3.waits++[{w with seq:=(n3.s.add ⟨0,w.blk,data,w.cl,w.n⟩).1.1}]} ⟨(n3.s.add ⟨0,w.blk,data,w.cl,w.n⟩).1.1,w.blk,data,w.cl,w.n⟩).twice2 {w with seq:=(n3.s.add ⟨0,w.blk,data,w.cl,w.n⟩).1.1} (n1.writeX w data)=_;rw[hA]
    refine gc 8 ?_;refine y (ev_bd (ItemM.cells ⟨0,w.blk,data,w.cl,w.n⟩)) rfl ?_;refine ya (ac_alloc zeroValue228 rfl) rfl ?_;rintro v L' ⟨b8,rfl,rfl⟩;refine yst (ac_storeAll rfl rfl (item_one _) sizeOf228 zrp rfl rfl) ?_;refine gy 3 ?_;refine cdrawN 12 (.op 0 0 (.op 1 0 (.op 2 0 (.op 3 0 (.op 4 1 (.op 5 1 (.op 6 2 (.op 7 0 (.op 8 0 (.op 9 0 (.op 10 0 (.op 11 3 (.nil))))))))))))) ([sc b8 _ 228,sc F.p _ 106]++R) Tryz.mixed (by kernel_rfl) zge ?_;refine nz rfl (ev_move rfl) rfl ?_;refine nz rfl (ev_nil rfl) rfl ?_;refine nz rfl (ev_fieldAddr 26 rfl underlying106 rfl sizeOf104) rfl ?_;refine nz rfl (ev_fieldAddr 5 rfl underlying104 rfl sizeOf102) rfl ?_;refine nr rfl (ev_load rfl isAgg102 zin rfl) rfl ?_;refine nr rfl (ev_loadAll rfl isAgg228 sizeOf228 zin (by rfl)) rfl ?_;refine ncall rfl (nAdd (S:=n3.s) (x:=⟨0,w.blk,data,w.cl,w.n⟩) ?sok65 ?sov65) rfl call159 ztk rfl ?_
    case sok65=>exact hok3.s.fit (by decide)
    case sov65=>exact hV3.si
    rintro v L' ⟨s94,rfl,ok94,rfl⟩;refine⟨zge,?_⟩;rw[hA]at ok94 ⊢;refine nz rfl (ev_move rfl) rfl ?_;refine nz rfl (ev_extract rfl rfl) rfl ?_;refine nz rfl (ev_extract rfl rfl) rfl ?_;refine nz rfl (ev_fieldAddr 0 rfl underlying228 rfl sizeOf2) rfl ?_;refine naNC (R) rfl (ac_store rfl rfl (by rfl) sizeOf2 zrp rfl rfl) ?_;rintro v L' ⟨rfl,rfl⟩;refine⟨zge,?_⟩;refine nnil ?_;refine gy 6 ?_;refine yst (ac_store rfl rfl (by rfl) sizeOf2 zrp rfl rfl) ?_;refine gy 3 ?_;refine cdraw 12 (od [7,8] 12 0) ([sc b4 _ 177,sc F.p _ 106]++R) Tryz.mixed (by kernel_rfl) zge ?_;refine gh 6 ?_;refine hr rfl (ev_loadAll rfl isAgg177 sizeOf177 zin (by rfl)) rfl ?_;refine ha rfl (ac_bsliceR rfl underlying101 sizeOf177 zeroValue177 rfl rfl rfl rfl ⟨⟨_,_,rfl,(by rfl),(by decide)⟩,trivial⟩ (by dsimp[fillL,splice,vcells,reps]<;>rfl)) rfl ?_;rintro v L' ⟨b108,rfl,rfl⟩;refine⟨zge,?_⟩;refine ha rfl (ac_append (s:=V.sw) (xs:=waitsV n3.waits) (m:=n3.waits.length) (k:=1) (us:=w2.cells) (size:=7) rfl rfl (by repeat first|exact .z|apply Pk.s) underlying101 underlying101 (by intro q hq;cases hq) typeInfo177 rfl rfl rfl ?ok83 ?src83 ?one83 ?big83) rfl ?_
    case ok83=>exact hV3.sw
    case src83=>exact src_at zin rfl rfl
    case one83=>exact wait_one _
    case big83=>show(_+_)*57≤_;omega
    rintro v L' ⟨s109,rfl,ok109,rfl⟩;refine⟨zge,?_⟩;rw[←waitsV_snoc,show n3.waits.length+1=(n3.waits++[w2]).length by simp]at ok109 ⊢;refine gh 4 ?_;refine yst (ac_store rfl rfl (by exact svVal_one _ _) sizeOf101 zrp rfl rfl) ?_;refine gy 2 ?_;refine cseqT ?_;intro K16 hK16
    have hJr16: ∀x:NV × NodM,(n.write w data=x.2.twice2 w2 (n1.writeX w data)∧x.2.out.length≤1000000∧NVok x.1 x.2)→Sk 136 K16 ([(0,ptr F.p),(4,ptr b4),(6,ptr b6)]) (sc b4 w2.cells 177::sc b6 (EntM.cells (n1.writeX w data)) 127::nodL F x.1 x.2++R):=by
     rintro⟨V5,n5⟩ hIr16;refine hK16 _ _ ?_;obtain⟨hwr7,hol5,hV5⟩:=hIr16;dsimp only at hwr7 hol5 hV5 ⊢;unfold nodL;refine gc 2 ?_;refine y (ev_loadAll rfl isAgg177 sizeOf177 zin (by rfl)) rfl ?_;refine yci (nMay (V:=V5) (n:=n5) (w:=w2)) call151 ?_;refine gy 2 ?_;refine cc rfl (fun h91=>?_) (fun h91=>?_)
     ·have hwr8:n.write w data=n5.store (n1.writeX w data) w.cl w.n:=hwr7.trans (if_pos h91);refine gc 2 ?_;refine y (ev_loadAll rfl isAgg127 sizeOf127 zin (by rfl)) rfl ?_;refine gy 4 ?_;refine ycall (nStore (V:=V5) (n:=n5) (x:=n1.writeX w data) ?ook98 ?ol98) rfl call152 ztk rfl ?_
      case ook98=>exact hV5.out
      case ol98=>exact hol5
      rintro v L' ⟨o135,rfl,oko135,rfl⟩;refine gy 1 ?_;refine kendv0 results103 (L1:=nodL F {V5 with out:=o135} (n5.store (n1.writeX w data) w.cl w.n)++R) zge ?_;rw[hwr8];exact⟨_,⟨{V5 with out:=o135},rfl,⟨oko135,hV5.sw,hV5.si,hV5.sl⟩,rfl⟩,rfl⟩
     have hwr8:n.write w data=n5:=hwr7.trans (if_neg (by rw[h91];simp));refine gc 1 ?_;refine kendv0 results103 (L1:=nodL F V5 n5++R) zge ?_;rw[hwr8];exact⟨_,⟨V5,rfl,hV5,rfl⟩,rfl⟩
    clear hK16;refine gc 2 ?_;refine yci (nMirrored (V:=⟨V.out,s109,V.ps,s94,sl58⟩) (n:={n3 with s:=ad.2,waits:=n3.waits++[w2]})) call114 ?_;refine gy 2 ?_;refine cc rfl (fun h101=>?_) (fun h101=>?_)
    ·have hwp:NodM.writeP {n3 with s:=ad.2,waits:=n3.waits++[w2]} ⟨ad.1.1,w.blk,data,w.cl,w.n⟩=NodM.put {n3 with s:=ad.2,waits:=n3.waits++[w2]} ⟨ad.1.1,w.blk,data,w.cl,w.n⟩:=if_pos h101;refine gc 2 ?_;refine y (ev_loadAll rfl isAgg228 sizeOf228 zin (by rfl)) rfl ?_;refine ycall (nPut (V:=⟨V.out,s109,V.ps,s94,sl58⟩) (n:={n3 with s:=ad.2,waits:=n3.waits++[w2]}) (x:=⟨ad.1.1,w.blk,data,w.cl,w.n⟩) ?ni104 ?ook104 ?ol104) rfl call160 ztk rfl ?_
     case ni104=>exact hok3.a.id
     case ook104=>exact hV3.out
     case ol104=>have:=hok3.out;show n3.out.length≤1000000;omega
     rintro v L' ⟨o117,rfl,oko117,rfl⟩;refine gy 2 ?_;exact ksub zsub zge (hJr16 (⟨o117,s109,V.ps,s94,sl58⟩,NodM.put {n3 with s:=ad.2,waits:=n3.waits++[w2]} ⟨ad.1.1,w.blk,data,w.cl,w.n⟩) ⟨by rw[hwr6,hwp],by have:=(hok4.put ⟨ad.1.1,w.blk,data,w.cl,w.n⟩).out;dsimp only;omega,⟨oko117,ok109,ok94,hV3.sl⟩⟩)
    have hwp:NodM.writeP {n3 with s:=ad.2,waits:=n3.waits++[w2]} ⟨ad.1.1,w.blk,data,w.cl,w.n⟩={n3 with s:=(ad.2.ack ad.1.1).2,waits:=n3.waits++[w2]}:=if_neg (by rw[h101];simp);unfold ndC;refine cdraw 7 (od [] 7 0) (_) Tryz.mixed (by kernel_rfl) .refl ?_;refine gh 8 ?_;refine ycall (nAck (S:=ad.2) (q:=ad.1.1) ?sok112 ?sov112) rfl call115 ztk rfl ?_
    case sok112=>exact hok4.s.fit (by decide)
    case sov112=>exact ok94
    rintro v L' ⟨s125,rfl,ok125,rfl⟩;refine gy 2 ?_;exact ksub zsub zge (hJr16 (⟨V.out,s109,V.ps,s125,sl58⟩,{n3 with s:=(ad.2.ack ad.1.1).2,waits:=n3.waits++[w2]}) ⟨by rw[hwr6,hwp],by have:=hok3.out;show n3.out.length≤1000000;omega,⟨hV3.out,ok109,ok125,hV3.sl⟩⟩)
   clear hK11;refine gc 3 ?_;refine yci (nOk (V:={V with sl:=sl58}) (n:=n1.cDid r)) call121 ?_;refine gy 2 ?_;refine ysp 69 rfl (fun h118=>?_) (fun h118=>?_)
   ·have hwr4:n.write w data=(n1.cDid r).err r.1:=hwr3.trans (if_neg (by show¬decide (r.1=0)=true;simpa using h118));refine gy 14 ?_;refine kretv0 results103 (L1:=nodL F {V with sl:=sl58} ((n1.cDid r).err r.1)++R) zge ?_;rw[hwr4];exact⟨_,⟨{V with sl:=sl58},rfl,⟨hV1.out,hV1.sw,hV1.si,ok58⟩,rfl⟩,rfl⟩
   have hwr4:=hwr3.trans (if_pos (by show decide (r.1=0)=true;simpa using h118));unfold ndC;refine gy 5 ?_;refine ygo ?_;refine yci (kSync (C:=r.2.1) (D:=r.2.2) ?dok125) call158 ?_
   case dok125=>exact hcd.ok.d
   refine ygo ?_;refine yci (nOk (V:={V with sl:=sl58}) (n:=NodM.cDid ((n1.cDid r).err r.1) (r.2.1.sync r.2.2))) call121 ?_;refine gy 4 ?_;refine cc rfl (fun h129=>?_) (fun h129=>?_)
   ·have hwr5:n.write w data=NodM.err (NodM.cDid ((n1.cDid r).err r.1) (r.2.1.sync r.2.2)) (r.2.1.sync r.2.2).1:=hwr4.trans (if_neg (by show¬decide ((r.2.1.sync r.2.2).1=0)=true;rw[decide_eq_true_eq];exact h129));refine gc 2 ?_;refine kretv0 results103 (L1:=nodL F {V with sl:=sl58} (NodM.err (NodM.cDid ((n1.cDid r).err r.1) (r.2.1.sync r.2.2)) (r.2.1.sync r.2.2).1)++R) zge ?_;rw[hwr5];exact⟨_,⟨{V with sl:=sl58},rfl,⟨hV1.out,hV1.sw,hV1.si,ok58⟩,rfl⟩,rfl⟩
   have hwr5:n.write w data=NodM.write3 (NodM.err (NodM.cDid ((n1.cDid r).err r.1) (r.2.1.sync r.2.2)) (r.2.1.sync r.2.2).1) w (n1.writeX w data):=hwr4.trans (if_pos (by show decide ((r.2.1.sync r.2.2).1=0)=true;rw[decide_eq_true_eq];exact h129));refine gc 2 ?_;exact ksub zsub zge (hJr9 _ ⟨hwr5,(((hok1.cDid hcd).err r.1).cOk (sync_done hcd.ok)),⟨hV1.out,hV1.sw,hV1.si,ok58⟩,hwl1⟩)
  refine na rfl (ac_alloc zeroValue127 rfl) rfl ?_;rintro v L' ⟨b6,rfl,rfl⟩;refine⟨zge,?_⟩;refine ncall rfl (nLast ?sok131 ?sov131) rfl call51 ztk rfl ?_
  case sok131=>exact hok1.s.fit (by decide)
  case sov131=>exact hV1.si
  rintro v L' ⟨rfl,rfl⟩;refine⟨zge,?_⟩;refine nz rfl (ev_add rfl rfl) rfl ?_;rw[wr (by omega) (by omega)];refine nz rfl (ev_bd ([i64 n1.epoch,i64 (n1.s.last+1)])) rfl ?_;refine nz rfl (ev_bd (EntM.cells (n1.writeX w data))) rfl ?_;refine nnil ?_;refine yst (ac_storeAll rfl rfl (entM_one _) sizeOf127 zrp rfl rfl) ?_;refine gy 3 ?_;refine cdraw 5 (od [] 5 0) (_) Tryz.mixed (by kernel_rfl) .refl ?_;refine gh 4 ?_;refine hr rfl (ev_loadAll rfl isAgg127 sizeOf127 zin (by rfl)) rfl ?_;refine gh 1 ?_;refine ycall (kPut (C:=n1.c) (D:=n1.d) (x:=n1.writeX w data) ?cok141 ?its141) rfl call157 ztk rfl ?_
  case cok141=>exact hok1.p.c
  case its141=>exact hV1.sl
  rintro v L' ⟨sl58,rfl,ok58,rfl⟩;rw[hR]at ok58 ⊢;refine gy 9 ?_;refine cc rfl (fun h145=>?_) (fun h145=>?_)
  ·have hwr3:n.write w data=(n1.cDid r).answer w 12 []:=hwr2.trans (w2_full hR h145);refine gc 1 ?_;have h12:r.1=12:=by assumption
   refine gy 1 ?_;refine y (ev_loadAll rfl isAgg177 sizeOf177 zin (by rfl)) rfl ?_;refine gy 1 ?_;rw[h12];refine ycall (nAnswer (V:={V with sl:=sl58}) (n:=n1.cDid r) (w:=w) (e:=12) (data:=[]) ?oc149 ?ook149 ?ol149) rfl call101 ztk rfl ?_
   case oc149=>exact hcl
   case ook149=>exact hV1.out
   case ol149=>have:=hok1.out;show n1.out.length≤1000000;omega
   rintro v L' ⟨o64,rfl,oko64,rfl⟩;refine gy 4 ?_;refine kretv0 results103 (L1:=nodL F {V with sl:=sl58,out:=o64} ((n1.cDid r).answer w 12 [])++R) zge ?_;rw[hwr3];exact⟨_,⟨{V with sl:=sl58,out:=o64},rfl,⟨oko64,hV1.sw,hV1.si,ok58⟩,rfl⟩,rfl⟩
  have hwr3:=hwr2.trans (w2_go (w:=w) hR h145);refine gc 2 ?_;refine cseqT ?_;intro K24 hK24
  have hJr9: ∀x:NodM,(n.write w data=x.write3 w (n1.writeX w data)∧x.ok 970000∧NVok {V with sl:=sl58} x∧x.waits.length<16)→Sk 136 K24 ([(0,ptr F.p),(2,str data),(4,ptr b4),(6,ptr b6)]) (sc b4 w.cells 177::sc b6 (EntM.cells (n1.writeX w data)) 127::nodL F {V with sl:=sl58} x++R):=by
   rintro n3 hIr9;refine hK24 _ _ ?_;obtain⟨hwr5,hok3,hV3,hwl3⟩:=hIr9;unfold nodL ndC;obtain⟨ad,hA⟩: ∃z,n3.s.add ⟨0,w.blk,data,w.cl,w.n⟩=z:=⟨_,rfl⟩;have hit:(⟨0,w.blk,data,w.cl,w.n⟩:ItemM).ok:=⟨NodM.n620,hw.blk,Nat.le_of_eq hd,⟨by show-1≤w.cl;omega,hcl.2⟩,⟨by show 0≤w.n;omega,hwn.2⟩⟩;have hq:N62 ad.1.1:=hA▸hok3.s.add_seq _;let w2:WaitM:={w with seq:=ad.1.1};have hok4:({n3 with s:=ad.2,waits:=n3.waits++[w2]}:NodM).ok 970001:=NodM.ok.addW (n:={n3 with s:=ad.2}) ((hok3.le (show 970000≤970001 by decide)).setS (show NokS 970001 ad.2 by rw[←hA];exact hok3.s.add hit)) (w:=w2) ⟨hw.cl,hw.n,hw.op,hw.blk,hq,by have:=hw.load;show 0≤w.load∧w.load≤((970001:Nat):Int);omega⟩ hwl3
   have hwr6:n.write w data=(NodM.writeP {n3 with s:=ad.2,waits:=n3.waits++[w2]} ⟨ad.1.1,w.blk,data,w.cl,w.n⟩).twice2 w2 (n1.writeX w data):=by
     rw[hwr5];unfold NodM.write3 NodM.writeS;show(NodM.writeP {n3 with s:=(n3.s.add ⟨0,w.blk,data,w.cl,w.n⟩).2,waits:=n3.waits++[{w with seq:=(n3.s.add ⟨0,w.blk,data,w.cl,w.n⟩).1.1}]} ⟨(n3.s.add ⟨0,w.blk,data,w.cl,w.n⟩).1.1,w.blk,data,w.cl,w.n⟩).twice2 {w with seq:=(n3.s.add ⟨0,w.blk,data,w.cl,w.n⟩).1.1} (n1.writeX w data)=_;rw[hA]
   refine gc 8 ?_;refine y (ev_bd (ItemM.cells ⟨0,w.blk,data,w.cl,w.n⟩)) rfl ?_;refine ya (ac_alloc zeroValue228 rfl) rfl ?_;rintro v L' ⟨b8,rfl,rfl⟩;refine yst (ac_storeAll rfl rfl (item_one _) sizeOf228 zrp rfl rfl) ?_;refine gy 3 ?_;refine cdrawN 12 (.op 0 0 (.op 1 0 (.op 2 0 (.op 3 0 (.op 4 1 (.op 5 1 (.op 6 2 (.op 7 0 (.op 8 0 (.op 9 0 (.op 10 0 (.op 11 3 (.nil))))))))))))) ([sc b8 _ 228,sc F.p _ 106]++R) Tryz.mixed (by kernel_rfl) zge ?_;refine nz rfl (ev_move rfl) rfl ?_;refine nz rfl (ev_nil rfl) rfl ?_;refine nz rfl (ev_fieldAddr 26 rfl underlying106 rfl sizeOf104) rfl ?_;refine nz rfl (ev_fieldAddr 5 rfl underlying104 rfl sizeOf102) rfl ?_;refine nr rfl (ev_load rfl isAgg102 zin rfl) rfl ?_;refine nr rfl (ev_loadAll rfl isAgg228 sizeOf228 zin (by rfl)) rfl ?_;refine ncall rfl (nAdd (S:=n3.s) (x:=⟨0,w.blk,data,w.cl,w.n⟩) ?sok166 ?sov166) rfl call159 ztk rfl ?_
   case sok166=>exact hok3.s.fit (by decide)
   case sov166=>exact hV3.si
   rintro v L' ⟨s94,rfl,ok94,rfl⟩;refine⟨zge,?_⟩;rw[hA]at ok94 ⊢;refine nz rfl (ev_move rfl) rfl ?_;refine nz rfl (ev_extract rfl rfl) rfl ?_;refine nz rfl (ev_extract rfl rfl) rfl ?_;refine nz rfl (ev_fieldAddr 0 rfl underlying228 rfl sizeOf2) rfl ?_;refine naNC (R) rfl (ac_store rfl rfl (by rfl) sizeOf2 zrp rfl rfl) ?_;rintro v L' ⟨rfl,rfl⟩;refine⟨zge,?_⟩;refine nnil ?_;refine gy 6 ?_;refine yst (ac_store rfl rfl (by rfl) sizeOf2 zrp rfl rfl) ?_;refine gy 3 ?_;refine cdraw 12 (od [7,8] 12 0) ([sc b4 _ 177,sc F.p _ 106]++R) Tryz.mixed (by kernel_rfl) zge ?_;refine gh 6 ?_;refine hr rfl (ev_loadAll rfl isAgg177 sizeOf177 zin (by rfl)) rfl ?_;refine ha rfl (ac_bsliceR rfl underlying101 sizeOf177 zeroValue177 rfl rfl rfl rfl ⟨⟨_,_,rfl,(by rfl),(by decide)⟩,trivial⟩ (by dsimp[fillL,splice,vcells,reps]<;>rfl)) rfl ?_;rintro v L' ⟨b108,rfl,rfl⟩;refine⟨zge,?_⟩;refine ha rfl (ac_append (s:=V.sw) (xs:=waitsV n3.waits) (m:=n3.waits.length) (k:=1) (us:=w2.cells) (size:=7) rfl rfl (by repeat first|exact .z|apply Pk.s) underlying101 underlying101 (by intro q hq;cases hq) typeInfo177 rfl rfl rfl ?ok184 ?src184 ?one184 ?big184) rfl ?_
   case ok184=>exact hV3.sw
   case src184=>exact src_at zin rfl rfl
   case one184=>exact wait_one _
   case big184=>show(_+_)*57≤_;omega
   rintro v L' ⟨s109,rfl,ok109,rfl⟩;refine⟨zge,?_⟩;rw[←waitsV_snoc,show n3.waits.length+1=(n3.waits++[w2]).length by simp]at ok109 ⊢;refine gh 4 ?_;refine yst (ac_store rfl rfl (by exact svVal_one _ _) sizeOf101 zrp rfl rfl) ?_;refine gy 2 ?_;refine cseqT ?_;intro K29 hK29
   have hJr16: ∀x:NV × NodM,(n.write w data=x.2.twice2 w2 (n1.writeX w data)∧x.2.out.length≤1000000∧NVok x.1 x.2)→Sk 136 K29 ([(0,ptr F.p),(4,ptr b4),(6,ptr b6)]) (sc b4 w2.cells 177::sc b6 (EntM.cells (n1.writeX w data)) 127::nodL F x.1 x.2++R):=by
    rintro⟨V5,n5⟩ hIr16;refine hK29 _ _ ?_;obtain⟨hwr7,hol5,hV5⟩:=hIr16;dsimp only at hwr7 hol5 hV5 ⊢;unfold nodL;refine gc 2 ?_;refine y (ev_loadAll rfl isAgg177 sizeOf177 zin (by rfl)) rfl ?_;refine yci (nMay (V:=V5) (n:=n5) (w:=w2)) call151 ?_;refine gy 2 ?_;refine cc rfl (fun h192=>?_) (fun h192=>?_)
    ·have hwr8:n.write w data=n5.store (n1.writeX w data) w.cl w.n:=hwr7.trans (if_pos h192);refine gc 2 ?_;refine y (ev_loadAll rfl isAgg127 sizeOf127 zin (by rfl)) rfl ?_;refine gy 4 ?_;refine ycall (nStore (V:=V5) (n:=n5) (x:=n1.writeX w data) ?ook199 ?ol199) rfl call152 ztk rfl ?_
     case ook199=>exact hV5.out
     case ol199=>exact hol5
     rintro v L' ⟨o135,rfl,oko135,rfl⟩;refine gy 1 ?_;refine kendv0 results103 (L1:=nodL F {V5 with out:=o135} (n5.store (n1.writeX w data) w.cl w.n)++R) zge ?_;rw[hwr8];exact⟨_,⟨{V5 with out:=o135},rfl,⟨oko135,hV5.sw,hV5.si,hV5.sl⟩,rfl⟩,rfl⟩
    have hwr8:n.write w data=n5:=hwr7.trans (if_neg (by rw[h192];simp));refine gc 1 ?_;refine kendv0 results103 (L1:=nodL F V5 n5++R) zge ?_;rw[hwr8];exact⟨_,⟨V5,rfl,hV5,rfl⟩,rfl⟩
   clear hK29;refine gc 2 ?_;refine yci (nMirrored (V:=⟨V.out,s109,V.ps,s94,sl58⟩) (n:={n3 with s:=ad.2,waits:=n3.waits++[w2]})) call114 ?_;refine gy 2 ?_;refine cc rfl (fun h202=>?_) (fun h202=>?_)
   ·have hwp:NodM.writeP {n3 with s:=ad.2,waits:=n3.waits++[w2]} ⟨ad.1.1,w.blk,data,w.cl,w.n⟩=NodM.put {n3 with s:=ad.2,waits:=n3.waits++[w2]} ⟨ad.1.1,w.blk,data,w.cl,w.n⟩:=if_pos h202;refine gc 2 ?_;refine y (ev_loadAll rfl isAgg228 sizeOf228 zin (by rfl)) rfl ?_;refine ycall (nPut (V:=⟨V.out,s109,V.ps,s94,sl58⟩) (n:={n3 with s:=ad.2,waits:=n3.waits++[w2]}) (x:=⟨ad.1.1,w.blk,data,w.cl,w.n⟩) ?ni205 ?ook205 ?ol205) rfl call160 ztk rfl ?_
    case ni205=>exact hok3.a.id
    case ook205=>exact hV3.out
    case ol205=>have:=hok3.out;show n3.out.length≤1000000;omega
    rintro v L' ⟨o117,rfl,oko117,rfl⟩;refine gy 2 ?_;exact ksub zsub zge (hJr16 (⟨o117,s109,V.ps,s94,sl58⟩,NodM.put {n3 with s:=ad.2,waits:=n3.waits++[w2]} ⟨ad.1.1,w.blk,data,w.cl,w.n⟩) ⟨by rw[hwr6,hwp],by have:=(hok4.put ⟨ad.1.1,w.blk,data,w.cl,w.n⟩).out;dsimp only;omega,⟨oko117,ok109,ok94,hV3.sl⟩⟩)
   have hwp:NodM.writeP {n3 with s:=ad.2,waits:=n3.waits++[w2]} ⟨ad.1.1,w.blk,data,w.cl,w.n⟩={n3 with s:=(ad.2.ack ad.1.1).2,waits:=n3.waits++[w2]}:=if_neg (by rw[h202];simp);unfold ndC;refine cdraw 7 (od [] 7 0) (_) Tryz.mixed (by kernel_rfl) .refl ?_;refine gh 8 ?_;refine ycall (nAck (S:=ad.2) (q:=ad.1.1) ?sok213 ?sov213) rfl call115 ztk rfl ?_
   case sok213=>exact hok4.s.fit (by decide)
   case sov213=>exact ok94
   rintro v L' ⟨s125,rfl,ok125,rfl⟩;refine gy 2 ?_;exact ksub zsub zge (hJr16 (⟨V.out,s109,V.ps,s125,sl58⟩,{n3 with s:=(ad.2.ack ad.1.1).2,waits:=n3.waits++[w2]}) ⟨by rw[hwr6,hwp],by have:=hok3.out;show n3.out.length≤1000000;omega,⟨hV3.out,ok109,ok125,hV3.sl⟩⟩)
  clear hK24;refine gc 3 ?_;refine yci (nOk (V:={V with sl:=sl58}) (n:=n1.cDid r)) call121 ?_;refine gy 2 ?_;refine ysp 69 rfl (fun h219=>?_) (fun h219=>?_)
  ·have hwr4:n.write w data=(n1.cDid r).err r.1:=hwr3.trans (if_neg (by show¬decide (r.1=0)=true;simpa using h219));refine gy 14 ?_;refine kretv0 results103 (L1:=nodL F {V with sl:=sl58} ((n1.cDid r).err r.1)++R) zge ?_;rw[hwr4];exact⟨_,⟨{V with sl:=sl58},rfl,⟨hV1.out,hV1.sw,hV1.si,ok58⟩,rfl⟩,rfl⟩
  have hwr4:=hwr3.trans (if_pos (by show decide (r.1=0)=true;simpa using h219));unfold ndC;refine gy 5 ?_;refine ygo ?_;refine yci (kSync (C:=r.2.1) (D:=r.2.2) ?dok226) call158 ?_
  case dok226=>exact hcd.ok.d
  refine ygo ?_;refine yci (nOk (V:={V with sl:=sl58}) (n:=NodM.cDid ((n1.cDid r).err r.1) (r.2.1.sync r.2.2))) call121 ?_;refine gy 4 ?_;refine cc rfl (fun h230=>?_) (fun h230=>?_)
  ·have hwr5:n.write w data=NodM.err (NodM.cDid ((n1.cDid r).err r.1) (r.2.1.sync r.2.2)) (r.2.1.sync r.2.2).1:=hwr4.trans (if_neg (by show¬decide ((r.2.1.sync r.2.2).1=0)=true;rw[decide_eq_true_eq];exact h230));refine gc 2 ?_;refine kretv0 results103 (L1:=nodL F {V with sl:=sl58} (NodM.err (NodM.cDid ((n1.cDid r).err r.1) (r.2.1.sync r.2.2)) (r.2.1.sync r.2.2).1)++R) zge ?_;rw[hwr5];exact⟨_,⟨{V with sl:=sl58},rfl,⟨hV1.out,hV1.sw,hV1.si,ok58⟩,rfl⟩,rfl⟩
  have hwr5:n.write w data=NodM.write3 (NodM.err (NodM.cDid ((n1.cDid r).err r.1) (r.2.1.sync r.2.2)) (r.2.1.sync r.2.2).1) w (n1.writeX w data):=hwr4.trans (if_pos (by show decide ((r.2.1.sync r.2.2).1=0)=true;rw[decide_eq_true_eq];exact h230));refine gc 2 ?_;exact ksub zsub zge (hJr9 _ ⟨hwr5,(((hok1.cDid hcd).err r.1).cOk (sync_done hcd.ok)),⟨hV1.out,hV1.sw,hV1.si,ok58⟩,hwl1⟩)
 clear hK5;refine gc 1 ?_;refine cdraw 11 (od [1,10] 11 0) ([sc b4 _ 177,sc F.p _ 106]++R) Tryz.mixed (by kernel_rfl) zge ?_;refine gh 1 ?_;refine hcall rfl (nAlone (V:=V) (n:=n)) rfl call118 ztk rfl ?_;rintro v L' ⟨rfl,rfl⟩;refine⟨zge,?_⟩;refine gh 1 ?_;refine hsp 21 rfl (fun h234=>?_) (fun h234=>?_)
 ·have hw1:n.write1 w=n.dOk r1:=by unfold NodM.write1;rw[if_pos h234,hR1]
  unfold ndC;refine gh 7 ?_;refine hcall1 rfl rfl rfl (dMark (L:=n.dr) (D:=n.d) (i:=w.blk) ?dl242 ?di242 ?dj242) rfl call156 ztk rfl ?_
  case dl242=>exact hn.p.dr
  case di242=>omega
  case dj242=>omega
  rintro v L' ⟨rfl,rfl⟩;refine⟨zge,?_⟩;rw[hR1];refine gh 1 ?_;refine ygo ?_;refine yci (nOk (V:=V) (n:=n.dDid r1)) call121 ?_;refine gy 4 ?_;refine cc rfl (fun h246=>?_) (fun h246=>?_)
  ·have hwr2:n.write w data=(n.dDid r1).err r1.1:=by rw[hwr,hw1];exact if_neg (by show¬decide (r1.1=0)=true;simpa using h246)
   refine gc 2 ?_;refine kretv0 results103 (L1:=nodL F V ((n.dDid r1).err r1.1)++R) zge ?_;rw[hwr2];exact⟨_,⟨V,rfl,⟨hV.out,hV.sw,hV.si,hV.sl⟩,rfl⟩,rfl⟩
  have hwr2:n.write w data=NodM.write2 ((n.dDid r1).err r1.1) w (NodM.writeX ((n.dDid r1).err r1.1) w data):=by rw[hwr,hw1];exact if_pos (by show decide (r1.1=0)=true;simpa using h246)
  refine gc 2 ?_;exact ksub zsub zge (hJr4 ((n.dDid r1).err r1.1) ⟨hwr2,hokm,⟨hV.out,hV.sw,hV.si,hV.sl⟩,(by show n.s.last<_;omega),hwl⟩)
 have hw1:n.write1 w=(true,n):=by unfold NodM.write1;rw[if_neg (by rw[h234];simp)]
 have hwr2:n.write w data=n.write2 w (n.writeX w data):=by rw[hwr,hw1];rfl
 refine gh 7 ?_;refine ha0 rfl rfl rfl rfl rfl zge ?_;refine gh 9 ?_;exact ksub zsub zge (hJr4 n ⟨hwr2,hn,hV,(by omega),hwl⟩)
end W
end Go.Proofs