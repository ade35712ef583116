/- A part of the proof. -/
import Derived.Test.YtlignadmmopdmaaGreatUn
import Derived.Test.YtlignadmmopdmaaGreatN35
set_option linter.unusedVariables false
set_option linter.unusedSimpArgs false
set_option linter.constructorNameAsVariable false
namespace Go.Proofs
open _root_.Go.Proofs.Tryz
open Go Go.Sl
namespace W
set_option maxHeartbeats 4000000
theorem l3_bad{n:NodM}{m:MsgM}{r:Int × CaM × Dev}(hR:n.c.put n.d (NodM.layX m)=r)(h:r.1=12∨r.1=2∨r.1=3∨r.1=1):n.lay3 m=(false,n.cDid r):=by unfold NodM.lay3;rw[hR,if_pos h]
theorem l3_ok{n:NodM}{m:MsgM}{r:Int × CaM × Dev}(hR:n.c.put n.d (NodM.layX m)=r)(h: ¬(r.1=12∨r.1=2∨r.1=3∨r.1=1)):n.lay3 m=n.cOk r:=by unfold NodM.lay3;rw[hR,if_neg h]
def lay5(n:NodM)(m:MsgM):Bool × NodM:=if m.block<0 then n.cOk (n.c.note n.d m.epoch m.seq (NodM.tOf m).l)else NodM.andB (n.lay2 m) fun n=>n.lay3 m
theorem nLay [Env]{R:List Seg}{F:NF}{V:NV}{n:NodM}{m:MsgM}(hn:n.ok 970000)(hV:NVok V n):
   Con Tryz.prog 175 [ptr F.p,.agg m.cells.toArray,.agg #[i64 m.epoch,i64 m.seq]] (nodL F V n) R (KN F (n.lay m).2 (.bool (n.lay m).1)):=by
 obtain⟨r1,hR1⟩: ∃z,n.c.reset n.d n.c.k.e n.c.k.s (NodM.tOf m).l=z:=⟨_,rfl⟩;have hcd1:CDone n.c n.d r1:=by rw[←hR1];exact reset_done hn.p.c _ _ _
 have hla:n.lay m=NodM.andB (n.lay1 m) fun n=>lay5 n m:=rfl
 refine con_enter func175 ntmps175 rfl rfl ?_;unfold nodL ndC;refine gc 1 ?_;refine ya (ac_box (vs:=m.cells) rfl rfl) rfl ?_;rintro v L' ⟨b4,rfl,rfl⟩;refine ya (ac_box (vs:=[i64 m.epoch,i64 m.seq]) rfl rfl) rfl ?_;rintro v L' ⟨b5,rfl,rfl⟩;refine gy 3 ?_;refine cseqT ?_;intro K2 hK2
 have hJr3: ∀x:NV × NodM,(n.lay m=lay5 x.2 m∧x.2.ok 970000∧NVok x.1 x.2)→Sk 94 K2 ([(0,ptr F.p),(4,ptr b4),(5,ptr b5)]) (sc b4 m.cells 34::sc b5 [i64 m.epoch,i64 m.seq] 84::nodL F x.1 x.2++R):=by
  rintro⟨V1,n1⟩ hIr3;refine hK2 _ _ ?_;obtain⟨hla3,hok1,hV1⟩:=hIr3;dsimp only at hla3 hok1 hV1 ⊢;unfold nodL ndC;unfold lay5 at hla3;obtain⟨r2,hR2⟩: ∃z,n1.c.note n1.d m.epoch m.seq (NodM.tOf m).l=z:=⟨_,rfl⟩;obtain⟨r3,hR3⟩: ∃z,n1.c.note n1.d 0 0 (NodM.tOf m).l=z:=⟨_,rfl⟩;have hcd3:CDone n1.c n1.d r3:=by rw[←hR3];exact note_done hok1.p.c _ _ _
  refine gc 7 ?_;refine cc rfl (fun h7=>?_) (fun h7=>?_)
  ·rw[if_pos h7,hR2]at hla3;refine gc 1 ?_;refine cdraw 9 (od [8] 9 0) ([sc b4 _ 34,sc b5 _ 84,sc F.p _ 106]++R) Tryz.mixed (by kernel_rfl) zge ?_;refine gh 5 ?_;refine hr rfl (ev_loadN (u:=[i64 m.epoch,i64 m.seq]) rfl isAgg84 sizeOf84 zin rfl rfl) rfl ?_;refine gh 1 ?_;refine hr rfl (ev_slA rfl underlying32 sizeOf2) rfl ?_;refine hcall rfl (kNote (C:=n1.c) (D:=n1.d) (e:=m.epoch) (s:=m.seq) (ns:=(NodM.tOf m).l) ?cok16 ?its16 ?hv16 ?hl16) rfl call166 ztk rfl ?_
   case cok16=>exact hok1.p.c
   case its16=>exact hV1.sl
   case hv16=>exact rdV_in zin rfl rfl
   case hl16=>show 4<1000000;decide
   rintro v L' ⟨sl51,rfl,ok51,rfl⟩;refine⟨zge,?_⟩;rw[hR2]at ok51 ⊢;refine gh 1 ?_;refine yci (nOk (V:={V1 with sl:=sl51}) (n:=n1.cDid r2)) call121 ?_;refine gy 5 ?_;refine kretv results175 rfl (L1:=nodL F {V1 with sl:=sl51} ((n1.cDid r2).err r2.1)++R) zge ?_;rw[hla3];exact⟨_,⟨{V1 with sl:=sl51},rfl,⟨hV1.out,hV1.sw,hV1.si,ok51⟩,rfl⟩,rfl⟩
  rw[if_neg (by omega)]at hla3;refine gc 2 ?_;refine cseqT ?_;intro K6 hK6
  have hJr7: ∀x:NV × NodM,(n.lay m=x.2.lay3 m∧x.2.ok 970000∧NVok x.1 x.2)→Sk 94 K6 ([(0,ptr F.p),(4,ptr b4),(5,ptr b5)]) (sc b4 m.cells 34::sc b5 [i64 m.epoch,i64 m.seq] 84::nodL F x.1 x.2++R):=by
   rintro⟨V2,n2⟩ hIr7;refine hK6 _ _ ?_;obtain⟨hla4,hok2,hV2⟩:=hIr7;dsimp only at hla4 hok2 hV2 ⊢;unfold nodL ndC;obtain⟨r,hR⟩: ∃z,n2.c.put n2.d (NodM.layX m)=z:=⟨_,rfl⟩;refine gc 1 ?_;refine cdraw 14 (od [] 14 0) (_) Tryz.mixed (by kernel_rfl) .refl ?_;refine gh 6 ?_;refine hr rfl (ev_loadN (u:=[i64 m.epoch,i64 m.seq]) rfl isAgg84 sizeOf84 zin rfl rfl) rfl ?_;refine gh 6 ?_;refine hr rfl (ev_bd (EntM.cells (NodM.layX m))) rfl ?_;refine gh 1 ?_;refine ycall (kPut (C:=n2.c) (D:=n2.d) (x:=NodM.layX m) ?cok33 ?its33) rfl call157 ztk rfl ?_
   case cok33=>exact hok2.p.c
   case its33=>exact hV2.sl
   rintro v L' ⟨sl84,rfl,ok84,rfl⟩;rw[hR]at ok84 ⊢;refine gy 14 ?_;refine cc rfl (fun h38=>?_) (fun h38=>?_)
   ·refine gc 2 ?_;refine cc rfl (fun h39=>?_) (fun h39=>?_)
    ·refine gc 1 ?_;have hla5:n.lay m=(false,n2.cDid r):=hla4.trans (l3_bad hR (by omega));refine gy 5 ?_;refine kretv results175 rfl (L1:=nodL F {V2 with sl:=sl84} (n2.cDid r)++R) zge ?_;rw[hla5];exact⟨_,⟨{V2 with sl:=sl84},rfl,⟨hV2.out,hV2.sw,hV2.si,ok84⟩,rfl⟩,rfl⟩
    refine gc 1 ?_;have hla5:n.lay m=n2.cOk r:=hla4.trans (l3_ok hR (by omega));refine gy 2 ?_;refine yci (nOk (V:={V2 with sl:=sl84}) (n:=n2.cDid r)) call121 ?_;refine gy 5 ?_;exfalso;omega
   refine gc 5 ?_;refine cc rfl (fun h47=>?_) (fun h47=>?_)
   ·refine gc 2 ?_;refine cc rfl (fun h48=>?_) (fun h48=>?_)
    ·refine gc 1 ?_;have hla5:n.lay m=(false,n2.cDid r):=hla4.trans (l3_bad hR (by omega));refine gy 5 ?_;refine kretv results175 rfl (L1:=nodL F {V2 with sl:=sl84} (n2.cDid r)++R) zge ?_;rw[hla5];exact⟨_,⟨{V2 with sl:=sl84},rfl,⟨hV2.out,hV2.sw,hV2.si,ok84⟩,rfl⟩,rfl⟩
    refine gc 1 ?_;have hla5:n.lay m=n2.cOk r:=hla4.trans (l3_ok hR (by omega));refine gy 2 ?_;refine yci (nOk (V:={V2 with sl:=sl84}) (n:=n2.cDid r)) call121 ?_;refine gy 5 ?_;exfalso;omega
   refine gc 5 ?_;refine cc rfl (fun h56=>?_) (fun h56=>?_)
   ·refine gc 2 ?_;refine cc rfl (fun h57=>?_) (fun h57=>?_)
    ·refine gc 1 ?_;have hla5:n.lay m=(false,n2.cDid r):=hla4.trans (l3_bad hR (by omega));refine gy 5 ?_;refine kretv results175 rfl (L1:=nodL F {V2 with sl:=sl84} (n2.cDid r)++R) zge ?_;rw[hla5];exact⟨_,⟨{V2 with sl:=sl84},rfl,⟨hV2.out,hV2.sw,hV2.si,ok84⟩,rfl⟩,rfl⟩
    refine gc 1 ?_;have hla5:n.lay m=n2.cOk r:=hla4.trans (l3_ok hR (by omega));refine gy 2 ?_;refine yci (nOk (V:={V2 with sl:=sl84}) (n:=n2.cDid r)) call121 ?_;refine gy 5 ?_;exfalso;omega
   refine gc 5 ?_;refine cc rfl (fun h65=>?_) (fun h65=>?_)
   ·refine gc 1 ?_;have hla5:n.lay m=(false,n2.cDid r):=hla4.trans (l3_bad hR (by omega));refine gy 5 ?_;refine kretv results175 rfl (L1:=nodL F {V2 with sl:=sl84} (n2.cDid r)++R) zge ?_;rw[hla5];exact⟨_,⟨{V2 with sl:=sl84},rfl,⟨hV2.out,hV2.sw,hV2.si,ok84⟩,rfl⟩,rfl⟩
   refine gc 1 ?_;have hla5:n.lay m=n2.cOk r:=hla4.trans (l3_ok hR (by omega));refine gy 2 ?_;refine yci (nOk (V:={V2 with sl:=sl84}) (n:=n2.cDid r)) call121 ?_;refine gy 5 ?_;refine kretv results175 rfl (L1:=nodL F {V2 with sl:=sl84} ((n2.cDid r).err r.1)++R) zge ?_;rw[hla5];exact⟨_,⟨{V2 with sl:=sl84},rfl,⟨hV2.out,hV2.sw,hV2.si,ok84⟩,rfl⟩,rfl⟩
  clear hK6;refine gc 1 ?_;refine cdraw 14 (od [3,13] 14 0) ([sc b4 _ 34,sc F.p _ 106]++R) Tryz.mixed (by kernel_rfl) zge ?_;refine gh 2 ?_;refine hr rfl (ev_loadN (u:=t4V (NodM.tOf m)) rfl isAgg32 sizeOf32 zin rfl rfl) rfl ?_;refine hcall rfl (nMore (V:=V1) (n:=n1) (t:=NodM.tOf m)) rfl call165 ztk rfl ?_;rintro v L' ⟨rfl,rfl⟩;refine⟨zge,?_⟩;unfold ndC;refine gh 1 ?_;refine hsp 57 rfl (fun h76=>?_) (fun h76=>?_)
  ·have hl2:n1.lay2 m=n1.cOk r3:=by unfold NodM.lay2;rw[if_pos h76,hR3]
   refine gh 5 ?_;refine hr1 rfl rfl rfl (ev_bd ([i64 0,i64 0])) rfl ?_;refine gh 1 ?_;refine hr1 rfl rfl rfl (ev_slA rfl underlying32 sizeOf2) rfl ?_;refine hcall1 rfl rfl rfl (kNote (C:=n1.c) (D:=n1.d) (e:=0) (s:=0) (ns:=(NodM.tOf m).l) ?cok85 ?its85 ?hv85 ?hl85) rfl call166 ztk rfl ?_
   case cok85=>exact hok1.p.c
   case its85=>exact hV1.sl
   case hv85=>exact rdV_in zin rfl rfl
   case hl85=>show 4<1000000;decide
   rintro v L' ⟨sl66,rfl,ok66,rfl⟩;refine⟨zge,?_⟩;rw[hR3]at ok66 ⊢;refine gh 1 ?_;refine ygo ?_;refine yci (nOk (V:={V1 with sl:=sl66}) (n:=n1.cDid r3)) call121 ?_;refine gy 4 ?_;refine cc rfl (fun h89=>?_) (fun h89=>?_)
   ·have hla4:n.lay m=(false,(n1.cDid r3).err r3.1):=by rw[hla3,hl2];unfold NodM.andB NodM.cOk;rw[show decide (r3.1=0)=false by simpa using h89];rfl
    refine gc 6 ?_;refine kretv results175 rfl (L1:=nodL F {V1 with sl:=sl66} ((n1.cDid r3).err r3.1)++R) zge ?_;rw[hla4];exact⟨_,⟨{V1 with sl:=sl66},rfl,⟨hV1.out,hV1.sw,hV1.si,ok66⟩,rfl⟩,rfl⟩
   have hla4:n.lay m=NodM.lay3 ((n1.cDid r3).err r3.1) m:=by rw[hla3,hl2];exact if_pos (by show decide (r3.1=0)=true;simpa using h89)
   refine gc 2 ?_;exact ksub zsub zge (hJr7 ({V1 with sl:=sl66},(n1.cDid r3).err r3.1) ⟨hla4,(hok1.cDid hcd3).err _,⟨hV1.out,hV1.sw,hV1.si,ok66⟩⟩)
  have hl2:n1.lay2 m=(true,n1):=if_neg (by rw[h76];simp);refine gh 8 ?_;refine ha0 rfl rfl rfl rfl rfl zge ?_;refine gh 9 ?_;exact ksub zsub zge (hJr7 (V1,n1) ⟨by rw[hla3,hl2];rfl,hok1,hV1⟩)
 clear hK2;refine gc 1 ?_;refine cdraw 29 [(0,true),(1,true),(2,true),(3,true),(4,true),(5,true),(6,false),(7,true),(8,true),(9,true),(10,true),(11,true),(12,true),(13,false),(14,true),(15,true),(16,true),(17,true),(18,true),(19,true),(20,true),(21,true),(22,true),(23,true),(24,true),(26,true),(27,true),(25,false),(28,false)] ([sc b4 _ 34,sc F.p _ 106]++R) Tryz.mixed (by kernel_rfl) zge ?_;refine gh 6 ?_;refine hcall rfl (kLast (C:=n.c)) rfl call174 ztk rfl ?_;rintro v L' ⟨rfl,rfl⟩;refine⟨zge,?_⟩;refine hr rfl (ev_field1 0 rfl underlying84 rfl isAgg2 rfl) rfl ?_;refine gh 2 ?_;refine hsp 17 rfl (fun h102=>?_) (fun h102=>?_)
 ·have hke:n.c.k.e<m.epoch:=by simpa using h102
  refine gh 2 ?_;refine hr1 rfl rfl rfl (ev_loadN (u:=t4V (NodM.tOf m)) rfl isAgg32 sizeOf32 zin rfl rfl) rfl ?_;refine hcall1 rfl rfl rfl (nLess (V:=V) (n:=n) (t:=NodM.tOf m)) rfl call210 ztk rfl ?_;rintro v L' ⟨rfl,rfl⟩;refine⟨zge,?_⟩;unfold ndC;refine gh 2 ?_;refine hsp 23 rfl (fun h109=>?_) (fun h109=>?_)
  ·have hl1:n.lay1 m=n.cOk r1:=by unfold NodM.lay1;rw[if_pos ⟨hke,h109⟩,hR1]
   refine gh 10 ?_;refine hr1 rfl rfl rfl (ev_slA rfl underlying32 sizeOf2) rfl ?_;refine hcall1 rfl rfl rfl (kLast (C:=n.c)) rfl call174 ztk rfl ?_;rintro v L' ⟨rfl,rfl⟩;refine⟨zge,?_⟩;refine hcall1 rfl rfl rfl (kReset (C:=n.c) (D:=n.d) (e:=n.c.k.e) (s:=n.c.k.s) (ns:=(NodM.tOf m).l) ?cok122 ?its122 ?hv122 ?hl122) rfl call211 ztk rfl ?_
   case cok122=>exact hn.p.c
   case its122=>exact hV.sl
   case hv122=>exact rdV_in zin rfl rfl
   case hl122=>show 4<1000000;decide
   rintro v L' ⟨sl36,rfl,ok36,rfl⟩;refine⟨zge,?_⟩;rw[hR1]at ok36 ⊢;refine gh 1 ?_;refine ygo ?_;refine yci (nOk (V:={V with sl:=sl36}) (n:=n.cDid r1)) call121 ?_;refine gy 4 ?_;refine cc rfl (fun h126=>?_) (fun h126=>?_)
   ·have hla2:n.lay m=(false,(n.cDid r1).err r1.1):=by rw[hla,hl1];unfold NodM.andB NodM.cOk;rw[show decide (r1.1=0)=false by simpa using h126];rfl
    refine gc 6 ?_;refine kretv results175 rfl (L1:=nodL F {V with sl:=sl36} ((n.cDid r1).err r1.1)++R) zge ?_;rw[hla2];exact⟨_,⟨{V with sl:=sl36},rfl,⟨hV.out,hV.sw,hV.si,ok36⟩,rfl⟩,rfl⟩
   have hla2:n.lay m=lay5 ((n.cDid r1).err r1.1) m:=by rw[hla,hl1];exact if_pos (by show decide (r1.1=0)=true;simpa using h126)
   refine gc 2 ?_;exact ksub zsub zge (hJr3 ({V with sl:=sl36},(n.cDid r1).err r1.1) ⟨hla2,(hn.cDid hcd1).err _,⟨hV.out,hV.sw,hV.si,ok36⟩⟩)
  have hl1:n.lay1 m=(true,n):=if_neg (fun hh=>by have h8:=hh.2;rw[h109]at h8;cases h8);refine gh 11 ?_;refine ha0 rfl rfl rfl rfl rfl zge ?_;refine ha0 rfl rfl rfl rfl rfl zge ?_;refine gh 9 ?_;exact ksub zsub zge (hJr3 (V,n) ⟨by rw[hla,hl1];rfl,hn,hV⟩)
 have hl1:n.lay1 m=(true,n):=if_neg (fun hh=>by have:=hh.1;have h9:=h102;simp at h9;omega);refine gh 3 ?_;refine ha0 rfl rfl rfl rfl rfl zge ?_;refine gh 13 ?_;refine ha0 rfl rfl rfl rfl rfl zge ?_;refine ha0 rfl rfl rfl rfl rfl zge ?_;refine gh 9 ?_;exact ksub zsub zge (hJr3 (V,n) ⟨by rw[hla,hl1];rfl,hn,hV⟩)
theorem nTaken [Env]{R:List Seg}{F:NF}{V:NV}{n:NodM}{m:MsgM}(hn:n.ok 970000)(hV:NVok V n)(hm:m.ok):
   Con Tryz.prog 112 [ptr F.p,.agg m.cells.toArray] (nodL F V n) R (KN F (n.taken m) (.tuple #[])):=by
 have hks:=hn.p.c.k.s;have hsq:=hm.seq;unfold N62 at hks;obtain⟨q,hq⟩: ∃z,nextM n.c.k.e n.c.k.s m.epoch m.seq=z:=⟨_,rfl⟩;have hta:n.taken m=if q=0 then n else if q=1 then NodM.andThen (NodM.andB (n.lay m) NodM.sync) fun n=>n.hadM m else n.hadM m:=by unfold NodM.taken;rw[hq]
 refine con_enter func112 ntmps112 rfl rfl ?_;unfold nodL ndC;refine gc 1 ?_;refine ya (ac_box (vs:=m.cells) rfl rfl) rfl ?_;rintro v L' ⟨b3,rfl,rfl⟩;refine gy 7 ?_;refine y (ev_bd ([i64 m.epoch,i64 m.seq])) rfl ?_;refine ya (ac_alloc zeroValue84 rfl) rfl ?_;rintro v L' ⟨b4,rfl,rfl⟩;refine yst (ac_storeAll rfl rfl (by simp[Value.oneCell']) sizeOf84 zrp (by rfl) (by rfl)) ?_;refine gy 2 ?_;refine cseqT ?_;intro K3 hK3
 have hJr6: ∀x:NV × NodM,(n.taken m=x.2.hadM m∧x.2.ok 970000∧NVok x.1 x.2)→Sk 52 K3 ([(0,ptr F.p),(3,ptr b3)]) (sc b3 m.cells 34::nodL F x.1 x.2++R):=by
  rintro⟨V2,n2⟩ hIr6;refine hK3 _ _ ?_;obtain⟨hta4,hok2,hV2⟩:=hIr6;dsimp only at hta4 hok2 hV2 ⊢;unfold nodL ndC;refine cdraw 12 [(0,true),(1,true),(3,true),(4,true),(5,true),(6,true),(7,true),(8,true),(2,false),(9,false),(10,true),(11,true)] ([sc b3 _ 34,sc F.p _ 106]++R) Tryz.mixed (by kernel_rfl) zge ?_;refine gh 8 ?_;refine hcall rfl (nPeer (V:=V2) (n:=n2) ?ni17) rfl call63 ztk rfl ?_
  case ni17=>exact hok2.a.id
  rintro v L' ⟨rfl,rfl⟩;refine⟨zge,?_⟩;refine hcall rfl (kLast (C:=n2.c)) rfl call174 ztk rfl ?_;rintro v L' ⟨rfl,rfl⟩;refine⟨zge,?_⟩;refine hr rfl (ev_field1 1 rfl underlying84 rfl isAgg2 rfl) rfl ?_;refine hr rfl (ev_bd (MsgM.cells {NodM.msg0 with kind:=6,epoch:=m.epoch,seq:=n2.c.k.s})) rfl ?_;refine gh 1 ?_;refine ycall (nSend (V:=V2) (n:=n2) (m:={NodM.msg0 with kind:=6,epoch:=m.epoch,seq:=n2.c.k.s}) ?ook21 ?ol21) rfl call67 ztk rfl ?_
  case ook21=>exact hV2.out
  case ol21=>have:=hok2.out;omega
  rintro v L' ⟨o51,rfl,oko51,rfl⟩;refine gy 1 ?_;refine kendv0 results112 (L1:=nodL F {V2 with out:=o51} (n2.hadM m)++R) zge ?_;rw[hta4];exact⟨_,⟨{V2 with out:=o51},rfl,⟨oko51,hV2.sw,hV2.si,hV2.sl⟩,rfl⟩,rfl⟩
 clear hK3;refine gc 1 ?_;refine cdraw 9 [(0,true),(1,true),(2,true),(3,true),(5,true),(6,true),(7,true),(8,true),(4,false)] ([sc b3 _ 34,sc F.p _ 106]++R) Tryz.mixed (by kernel_rfl) zge ?_;refine gh 8 ?_;refine hcall rfl (kLast (C:=n.c)) rfl call174 ztk rfl ?_;rintro v L' ⟨rfl,rfl⟩;refine⟨zge,?_⟩;refine gh 1 ?_;refine yci (nNext (le:=n.c.k.e) (ls:=n.c.k.s) ?na31 ?nb31) call173 ?_
 case na31=>omega
 case nb31=>exact hsq
 rw[hq];refine gy 8 ?_;refine cc rfl (fun h34=>?_) (fun h34=>?_)
 ·rw[if_pos h34]at hta;refine gc 3 ?_;refine kretv0 results112 (L1:=nodL F V n++R) zge ?_;rw[hta];exact⟨_,⟨V,rfl,hV,rfl⟩,rfl⟩
 rw[if_neg h34]at hta;refine gc 5 ?_;refine cc rfl (fun h37=>?_) (fun h37=>?_)
 ·rw[if_pos h37]at hta;refine gc 2 ?_;refine y (ev_loadAll rfl isAgg34 sizeOf34 zin (by rfl)) rfl ?_;refine y (ev_loadN (u:=[i64 m.epoch,i64 m.seq]) rfl isAgg84 sizeOf84 zin rfl rfl) rfl ?_;refine ycall (nLay (V:=V) (n:=n) (m:=m) ?nok41 ?vok41) rfl call175 ztk rfl ?_
  case nok41=>exact hn
  case vok41=>exact hV
  rintro v L' ⟨V27,rfl,vk27,rfl⟩;obtain⟨n1,hn1⟩: ∃z,(n.lay m).2=z:=⟨_,rfl⟩;have hok1:n1.ok 970000:=hn1▸hn.lay m;rw[hn1]at vk27 ⊢;unfold nodL ndC;refine gy 2 ?_;refine ysp 29 rfl (fun h44=>?_) (fun h44=>?_)
  ·have hta2:n.taken m=n1:=by rw[hta,show NodM.andB (n.lay m) NodM.sync=n.lay m from if_neg (by rw[h44];exact Bool.false_ne_true)];exact(if_neg (by rw[h44];exact Bool.false_ne_true)).trans hn1
   refine gy 15 ?_;refine kretv0 results112 (L1:=nodL F V27 n1++R) zge ?_;rw[hta2];exact⟨_,⟨V27,rfl,vk27,rfl⟩,rfl⟩
  have hta2:n.taken m=NodM.andThen n1.sync fun n=>n.hadM m:=by rw[hta];unfold NodM.andB;rw[if_pos h44,hn1]
  refine gy 5 ?_;refine ygo ?_;refine yci (kSync (C:=n1.c) (D:=n1.d) ?dok51) call158 ?_
  case dok51=>exact hok1.p.c.d
  refine ygo ?_;refine yci (nOk (V:=V27) (n:=n1.cDid (n1.c.sync n1.d))) call121 ?_;refine gy 4 ?_;refine cc rfl (fun h55=>?_) (fun h55=>?_)
  ·have hta3:n.taken m=n1.sync.2:=hta2.trans (if_neg (by show¬decide ((n1.c.sync n1.d).1=0)=true;rw[decide_eq_true_eq];exact h55));refine gc 3 ?_;refine kretv0 results112 (L1:=nodL F V27 n1.sync.2++R) zge ?_;rw[hta3];exact⟨_,⟨V27,rfl,⟨vk27.out,vk27.sw,vk27.si,vk27.sl⟩,rfl⟩,rfl⟩
  have hta3:n.taken m=n1.sync.2.hadM m:=hta2.trans (if_pos (by show decide ((n1.c.sync n1.d).1=0)=true;rw[decide_eq_true_eq];exact h55));refine gc 3 ?_;exact ksub zsub zge (hJr6 (V27,n1.sync.2) ⟨hta3,hok1.sync,⟨vk27.out,vk27.sw,vk27.si,vk27.sl⟩⟩)
 rw[if_neg h37]at hta;refine gc 3 ?_;exact ksub zsub zge (hJr6 (V,n) ⟨hta,hn,hV⟩)
theorem cl1_no{rb:Nat × Nat}{n:NodM}{x:EntM}(h:(x.dirty||hasR rb.1 rb.2 (x.blk.tdiv 4))=false):NodM.cleared1 rb n x=(true,n):=if_neg (by rw[h];simp)
theorem cl1_go{rb:Nat × Nat}{n:NodM}{x:EntM}(h:(x.dirty||hasR rb.1 rb.2 (x.blk.tdiv 4))=true):NodM.cleared1 rb n x=n.cOk (n.c.drop n.d x.blk):=if_pos h
theorem nCleared [Env]{R:List Seg}{F:NF}{V:NV}{n:NodM}{m:MsgM}(hn:n.ok 970000)(hV:NVok V n)(hrow:m.row.length≤1000):
   Con Tryz.prog 176 [ptr F.p,.agg m.cells.toArray,.agg #[i64 m.epoch,i64 m.seq]] (nodL F V n) R (KN F (n.cleared m).2 (.bool (n.cleared m).1)):=by
 have hbl:=hn.p.bl;have hblk:=hn.a.blocks;have hall:=NodM.all_ok hn;have hlen:=NodM.all_len hn;obtain⟨hw1,hw2⟩:=loadP_wf m.row;obtain⟨e,he⟩: ∃z,(loadP m.row).2.2=z:=⟨_,rfl⟩;obtain⟨rn,hrn⟩: ∃z,(loadP m.row).1=z:=⟨_,rfl⟩;obtain⟨rb,hrb⟩: ∃z,(loadP m.row).2.1=z:=⟨_,rfl⟩;rw[hrn,hrb]at hw2;rw[hrn]at hw1;have hcl:n.cleared m=if¬e=0∨ ¬rn=regs n.dr.n then(false,n)else NodM.andB (NodM.eachB (NodM.cleared1 (rn,rb)) n.c.all n) fun n=>NodM.andB (n.cOk (n.c.reset n.d m.epoch m.seq (NodM.tOf m).l)) NodM.sync:=by unfold NodM.cleared;rw[he,hrn,hrb]
 refine con_enter func176 ntmps176 rfl rfl ?_;unfold nodL ndC;refine gc 1 ?_;refine ya (ac_box (vs:=m.cells) rfl rfl) rfl ?_;rintro v L' ⟨b4,rfl,rfl⟩;refine ya (ac_box (vs:=[i64 m.epoch,i64 m.seq]) rfl rfl) rfl ?_;rintro v L' ⟨b5,rfl,rfl⟩;refine gy 6 ?_;refine yci (xLoad ?xt61) call79 ?_
 case xt61=>exact hrow
 rw[he,hrn,hrb];refine gy 3 ?_;refine ya (ac_alloc zeroValue140 rfl) rfl ?_;rintro v L' ⟨b7,rfl,rfl⟩;refine yst (ac_storeAll rfl rfl (u64_one _ _) sizeOf140 zrp (by rfl) (by rfl)) ?_;refine gy 5 ?_;refine cdraw 10 [(0,true),(1,true),(2,true),(3,true),(5,true),(6,true),(7,true),(8,true),(4,false),(9,false)] ([sc b7 _ 140,sc F.p _ 106]++R) Tryz.mixed (by kernel_rfl) zge ?_;refine gh 3 ?_;refine hsp 19 rfl (fun h71=>?_) (fun h71=>?_)
 ·have hcl2:n.cleared m=(false,n):=hcl.trans (if_pos (.inl (by simpa using h71)));refine gh 5 ?_;refine ha0 rfl rfl rfl rfl rfl zge ?_;refine ha0 rfl rfl rfl rfl rfl zge ?_;refine gh 13 ?_;refine kretv results176 rfl (L1:=nodL F V n++R) zge ?_;rw[hcl2];exact⟨_,⟨V,rfl,hV,rfl⟩,rfl⟩
 have he0:e=0:=by simpa using h71
 refine hr1 rfl rfl rfl (ev_loadN (u:=[i64 rn,u64 rb]) rfl isAgg140 sizeOf140 zin rfl rfl) rfl ?_;refine gh 4 ?_;refine hcall1 rfl rfl rfl (xLen (n:=rn) (b:=rb)) rfl call80 ztk rfl ?_;rintro v L' ⟨rfl,rfl⟩;refine⟨zge,?_⟩;refine hcall1 rfl rfl rfl (dRow (L:=n.dr)) rfl call128 ztk rfl ?_;rintro v L' ⟨rfl,rfl⟩;refine⟨zge,?_⟩;refine gh 1 ?_;refine ygo ?_;refine yci (xLen (n:=regs n.dr.n) (b:=n.dr.bits)) call80 ?_;refine gy 4 ?_;refine cc rfl (fun h84=>?_) (fun h84=>?_)
 ·have hcl2:n.cleared m=(false,n):=hcl.trans (if_pos (.inr (by omega)));refine gc 6 ?_;refine kretv results176 rfl (L1:=nodL F V n++R) zge ?_;rw[hcl2];exact⟨_,⟨V,rfl,hV,rfl⟩,rfl⟩
 have hcl2:=hcl.trans (if_neg (by omega));refine gc 2 ?_;refine cseqT ?_;intro K7 hK7;refine gc 5 ?_;refine ycall (kAll ?bl90) rfl call59 ztk rfl ?_
 case bl90=>omega
 rintro v L' ⟨s34,rfl,ok34,rfl⟩;have hrd:RdV [svSeg s34 127 (entsV n.c.all)] (svVal s34 n.c.all.length) n.c.all.length (entsV n.c.all):=rdV_sv .z ok34;refine y (ev_lenSv rfl underlying61 (by assumption)) rfl ?_;refine gy 3 ?_
 have hJ1: ∀x:Nat × Sv × NodM,((x.1≤n.c.all.length∧EachI (NodM.cleared1 (rn,rb)) n.c.all n x.1 x.2.2∧x.2.2.ok 970000∧NVok {V with sl:=x.2.1} x.2.2)∧(x.1=n.c.all.length))→Sk 81 K7 ([(36,i64 x.1),(35,i64 n.c.all.length),(34,svVal s34 n.c.all.length),(0,ptr F.p),(4,ptr b4),(5,ptr b5),(7,ptr b7)]) (svSeg s34 127 (entsV n.c.all)::sc b4 m.cells 34::sc b5 [i64 m.epoch,i64 m.seq] 84::sc b7 [i64 rn,u64 rb] 140::nodL F {V with sl:=x.2.1} x.2.2++R):=by
  rintro⟨k,sl,n1⟩ ⟨hI1,hX1⟩;refine hK7 _ _ ?_;obtain⟨hk,hE,hok1,hV1⟩:=hI1;dsimp only at hk hE hok1 hV1 ⊢;unfold nodL ndC;dsimp only at hX1;rw[hX1]at hE;rw[hE.done]at hcl2;obtain⟨r,hR⟩: ∃z,n1.c.reset n1.d m.epoch m.seq (NodM.tOf m).l=z:=⟨_,rfl⟩;have hcd:CDone n1.c n1.d r:=by rw[←hR];exact reset_done hok1.p.c _ _ _
  have hcl3:n.cleared m=NodM.andB (n1.cOk r) NodM.sync:=by rw[hcl2];unfold NodM.andB;dsimp only;rw[if_pos rfl,hR]
  refine gc 1 ?_;refine cdrawN 17 (.op 0 0 (.op 1 0 (.op 2 0 (.op 3 0 (.op 5 1 (.op 6 0 (.op 7 0 (.op 4 2 (.op 8 2 (.op 9 2 (.op 10 0 (.op 11 0 (.op 12 0 (.op 13 0 (.op 14 0 (.op 15 2 (.op 16 2 (.nil)))))))))))))))))) ([sc b4 _ 34,sc b5 _ 84]++R) Tryz.mixed (by kernel_rfl) zge ?_;refine nz rfl (ev_move rfl) rfl ?_;refine nz rfl (ev_move rfl) rfl ?_;refine nz rfl (ev_nil rfl) rfl ?_;refine nz rfl (ev_fieldAddr 7 rfl underlying106 rfl sizeOf98) rfl ?_;refine nr rfl (ev_loadN (u:=[i64 m.epoch,i64 m.seq]) rfl isAgg84 sizeOf84 zin rfl rfl) rfl ?_;refine nz rfl (ev_fieldAddr 7 rfl underlying34 rfl sizeOf32) rfl ?_;refine nz rfl (ev_slA rfl underlying32 sizeOf2) rfl ?_;refine na rfl (ac_of_ev (ev_load rfl isAgg98 zin rfl)) rfl ?_;rintro v L' ⟨rfl,rfl⟩;refine⟨zge,?_⟩;refine ncall rfl (kReset (C:=n1.c) (D:=n1.d) (e:=m.epoch) (s:=m.seq) (ns:=(NodM.tOf m).l) ?cok101 ?its101 ?hv101 ?hl101) rfl call211 ztk rfl ?_
  case cok101=>exact hok1.p.c
  case its101=>exact hV1.sl
  case hv101=>exact rdV_in zin rfl rfl
  case hl101=>show 4<1000000;decide
  rintro v L' ⟨sl70,rfl,ok70,rfl⟩;refine⟨zge,?_⟩;rw[hR]at ok70 ⊢;refine ncall rfl (nOk (V:={V with sl:=sl70}) (n:=n1.cDid r)) rfl call121 ztk rfl ?_;rintro v L' ⟨rfl,rfl⟩;refine⟨zge,?_⟩;refine nz rfl (ev_move rfl) rfl ?_;refine nsplit 72 rfl (fun h104=>?_) (fun h104=>?_)
  ·(try simp only[sH]at h104)
   have hcl4:n.cleared m=NodM.sync ((n1.cDid r).err r.1):=by rw[hcl3];exact if_pos (by show decide (r.1=0)=true;simpa using h104)
   unfold ndC;refine nz1 rfl rfl rfl (ev_move rfl) rfl ?_;refine nz1 rfl rfl rfl (ev_move rfl) rfl ?_;refine nz1 rfl rfl rfl (ev_nil rfl) rfl ?_;refine nz1 rfl rfl rfl (ev_fieldAddr 7 rfl underlying106 rfl sizeOf98) rfl ?_;refine na1 rfl rfl rfl (ac_of_ev (ev_load rfl isAgg98 zin rfl)) rfl ?_;rintro v L' ⟨rfl,rfl⟩;refine⟨zge,?_⟩;refine ncall1 rfl rfl rfl (kSync (C:=r.2.1) (D:=r.2.2) ?dok110) rfl call158 ztk rfl ?_
   case dok110=>exact hcd.ok.d
   rintro v L' ⟨rfl,rfl⟩;refine⟨zge,?_⟩;refine nnil ?_;refine ygo ?_;refine yci (nOk (V:={V with sl:=sl70}) (n:=NodM.cDid ((n1.cDid r).err r.1) (r.2.1.sync r.2.2))) call121 ?_;refine gy 5 ?_;refine kretv results176 rfl (L1:=nodL F {V with sl:=sl70} (NodM.sync ((n1.cDid r).err r.1)).2++R) zge ?_;rw[hcl4];exact⟨_,⟨{V with sl:=sl70},rfl,⟨hV1.out,hV1.sw,hV1.si,ok70⟩,rfl⟩,rfl⟩
  try simp only[sH]at h104
  have hcl4:n.cleared m=(false,(n1.cDid r).err r.1):=by rw[hcl3];unfold NodM.andB NodM.cOk;rw[show decide (r.1=0)=false by simpa using h104];rfl
  refine nz0 rfl rfl rfl rfl rfl ?_;refine nz0 rfl rfl rfl rfl rfl ?_;refine nz0 rfl rfl rfl rfl rfl ?_;refine nz0 rfl rfl rfl rfl rfl ?_;refine na0 rfl rfl rfl rfl rfl zge ?_;refine na0 rfl rfl rfl rfl rfl zge ?_;refine nnil ?_;refine gy 6 ?_;refine kretv results176 rfl (L1:=nodL F {V with sl:=sl70} ((n1.cDid r).err r.1)++R) zge ?_;rw[hcl4];exact⟨_,⟨{V with sl:=sl70},rfl,⟨hV1.out,hV1.sw,hV1.si,ok70⟩,rfl⟩,rfl⟩
 clear hK7;refine gc 1 ?_;refine cloopT (A:=Nat × Sv × NodM) (fun x=>[(36,i64 x.1),(35,i64 n.c.all.length),(34,svVal s34 n.c.all.length),(0,ptr F.p),(4,ptr b4),(5,ptr b5),(7,ptr b7)]) (fun x=>svSeg s34 127 (entsV n.c.all)::sc b4 m.cells 34::sc b5 [i64 m.epoch,i64 m.seq] 84::sc b7 [i64 rn,u64 rb] 140::nodL F {V with sl:=x.2.1} x.2.2++R) (fun x=>x.1≤n.c.all.length∧EachI (NodM.cleared1 (rn,rb)) n.c.all n x.1 x.2.2∧x.2.2.ok 970000∧NVok {V with sl:=x.2.1} x.2.2) (fun x=>n.c.all.length-x.1) ((0,V.sl,n)) ?_ zsub zge ?_
 · exact⟨Nat.zero_le _,EachI.zero,hn,hV⟩
 rintro⟨k,sl,n1⟩ hI1 KL1 hL1;have hI1o:=hI1;obtain⟨hk,hE,hok1,hV1⟩:=hI1;dsimp only at hk hE hok1 hV1 ⊢;unfold nodL ndC;refine gc 5 ?_;refine cc rfl (fun h117=>?_) (fun h117=>?_)
 ·refine gc 5 ?_;obtain⟨x,hx⟩: ∃x,n.c.all[k]? =some x:=⟨_,List.getElem?_eq_getElem (by omega)⟩;have hxo:=(hall x (List.mem_of_getElem? hx)).blk;obtain⟨r,hR⟩: ∃z,n1.c.drop n1.d x.blk=z:=⟨_,rfl⟩;have hcd:CDone n1.c n1.d r:=by rw[←hR];exact drop_done hok1.p.c _
  have hqd:x.blk.tdiv 4=x.blk / 4:=Int.tdiv_eq_ediv_of_nonneg hxo.1;refine y (ev_ixV hrd rfl rfl underlying61 sizeOf127 (by omega) (by omega)) rfl ?_;refine y (ev_loadNV (us:=x.cells) (k*7) hrd zge rfl isAgg127 sizeOf127 (by simp) (entsV_get hx) rfl) rfl ?_;refine ya (ac_alloc zeroValue127 rfl) rfl ?_;rintro v L' ⟨b10,rfl,rfl⟩;refine yst (ac_storeN (vs':=x.cells) rfl rfl (entM_one x) sizeOf127 zrp rfl (by decide) rfl) ?_;refine gy 3 ?_;refine cdraw 18 (od [7,17] 18 0) ([sc b10 _ 127,sc b7 _ 140,sc F.p _ 106]++R) Tryz.mixed (by kernel_rfl) zge ?_;refine gh 3 ?_;refine hsp 42 rfl (fun h125=>?_) (fun h125=>?_)
  ·have hgo:NodM.cleared1 (rn,rb) n1 x=n1.cOk r:=by rw[cl1_go (by rw[h125];rfl),hR]
   refine gh 4 ?_;refine ha0 rfl rfl rfl rfl rfl zge ?_;refine gh 9 ?_;refine hcall1 rfl rfl rfl (kDrop (C:=n1.c) (D:=n1.d) (b:=x.blk) ?cok135 ?its135) rfl call212 ztk rfl ?_
   case cok135=>exact hok1.p.c
   case its135=>exact hV1.sl
   rintro v L' ⟨sl57,rfl,ok57,rfl⟩;refine⟨zge,?_⟩;rw[hR]at ok57 ⊢;refine gh 1 ?_;refine ygo ?_;refine yci (nOk (V:={V with sl:=sl57}) (n:=n1.cDid r)) call121 ?_;refine gy 4 ?_;refine cc rfl (fun h139=>?_) (fun h139=>?_)
   ·have hst:=hE.stop hx (m':=(n1.cDid r).err r.1) (by rw[hgo];unfold NodM.cOk;rw[show decide (r.1=0)=false by simpa using h139]);have hcl3:n.cleared m=(false,(n1.cDid r).err r.1):=by rw[hcl2,hst];rfl
    refine gc 10 ?_;refine kretv results176 rfl (L1:=nodL F {V with sl:=sl57} ((n1.cDid r).err r.1)++R) zge ?_;rw[hcl3];exact⟨_,⟨{V with sl:=sl57},rfl,⟨hV1.out,hV1.sw,hV1.si,ok57⟩,rfl⟩,rfl⟩
   have hsp:=hE.step hx (m':=(n1.cDid r).err r.1) (by rw[hgo];unfold NodM.cOk;rw[show decide (r.1=0)=true by simpa using h139]);refine gc 5 ?_;rw[show IntKind.i64.wrap ((k:Int)+1)=((k+1:Nat):Int)by rw[wr (by omega) (by omega)];rfl];refine gy 3 ?_;exact hL1 (k+1,sl57,(n1.cDid r).err r.1) ⟨by dsimp only;omega,hsp,(hok1.cDid hcd).err _,⟨hV1.out,hV1.sw,hV1.si,ok57⟩⟩ (by dsimp only;omega) _ _ zsub zge
  have hdf:x.dirty=false:=by simpa using h125
  refine hr1 rfl rfl rfl (ev_loadN (u:=[i64 rn,u64 rb]) rfl isAgg140 sizeOf140 zin rfl rfl) rfl ?_;refine gh 2 ?_;refine hr1 rfl rfl rfl (ev_quo rfl rfl (by decide)) rfl ?_;rw[hqd,wr (by omega) (by omega)];refine hcall1 rfl rfl rfl (xHas (n:=rn) (b:=rb) (i:=x.blk / 4) ?xn147 ?xb147) rfl call184 ztk rfl ?_
  case xn147=>exact hw1
  case xb147=>exact hw2
  rintro v L' ⟨rfl,rfl⟩;refine⟨zge,?_⟩;refine gh 2 ?_;refine hsp 49 rfl (fun h150=>?_) (fun h150=>?_)
  ·have hgo:NodM.cleared1 (rn,rb) n1 x=n1.cOk r:=by rw[cl1_go (by rw[hqd];show(x.dirty||hasR rn rb (x.blk / 4))=true;rw[h150,Bool.or_true]),hR]
   refine gh 7 ?_;refine hcall1 rfl rfl rfl (kDrop (C:=n1.c) (D:=n1.d) (b:=x.blk) ?cok158 ?its158) rfl call212 ztk rfl ?_
   case cok158=>exact hok1.p.c
   case its158=>exact hV1.sl
   rintro v L' ⟨sl57,rfl,ok57,rfl⟩;refine⟨zge,?_⟩;rw[hR]at ok57 ⊢;refine gh 1 ?_;refine ygo ?_;refine yci (nOk (V:={V with sl:=sl57}) (n:=n1.cDid r)) call121 ?_;refine gy 4 ?_;refine cc rfl (fun h162=>?_) (fun h162=>?_)
   ·have hst:=hE.stop hx (m':=(n1.cDid r).err r.1) (by rw[hgo];unfold NodM.cOk;rw[show decide (r.1=0)=false by simpa using h162]);have hcl3:n.cleared m=(false,(n1.cDid r).err r.1):=by rw[hcl2,hst];rfl
    refine gc 10 ?_;refine kretv results176 rfl (L1:=nodL F {V with sl:=sl57} ((n1.cDid r).err r.1)++R) zge ?_;rw[hcl3];exact⟨_,⟨{V with sl:=sl57},rfl,⟨hV1.out,hV1.sw,hV1.si,ok57⟩,rfl⟩,rfl⟩
   have hsp:=hE.step hx (m':=(n1.cDid r).err r.1) (by rw[hgo];unfold NodM.cOk;rw[show decide (r.1=0)=true by simpa using h162]);refine gc 5 ?_;rw[show IntKind.i64.wrap ((k:Int)+1)=((k+1:Nat):Int)by rw[wr (by omega) (by omega)];rfl];refine gy 3 ?_;exact hL1 (k+1,sl57,(n1.cDid r).err r.1) ⟨by dsimp only;omega,hsp,(hok1.cDid hcd).err _,⟨hV1.out,hV1.sw,hV1.si,ok57⟩⟩ (by dsimp only;omega) _ _ zsub zge
  have hno:NodM.cleared1 (rn,rb) n1 x=(true,n1):=cl1_no (by rw[hqd];show(x.dirty||hasR rn rb (x.blk / 4))=false;rw[hdf,h150];rfl);refine gh 7 ?_;refine ha0 rfl rfl rfl rfl rfl zge ?_;refine gh 12 ?_;rw[show IntKind.i64.wrap ((k:Int)+1)=((k+1:Nat):Int)by rw[wr (by omega) (by omega)];rfl];refine gy 3 ?_;exact hL1 (k+1,sl,n1) ⟨by dsimp only;omega,hE.step hx hno,hok1,hV1⟩ (by dsimp only;omega) _ _ zsub zge
 refine gc 5 ?_;exact ksub zsub zge (hJ1 ⟨k,sl,n1⟩ ⟨hI1o,by dsimp only;omega⟩)
end W
end Go.Proofs