/- A part of the proof. -/
import Derived.Test.YtlignadmmopdmaaGreatUn
import Derived.Test.YtlignadmmopdmaaGreatN37
import Derived.Test.YtlignadmmopdmaaGreatN18
set_option linter.unusedVariables false
set_option linter.unusedSimpArgs false
set_option linter.constructorNameAsVariable false
namespace Go.Proofs
open _root_.Go.Proofs.Tryz
open Go Go.Sl
namespace W
set_option maxHeartbeats 4000000
theorem nBegun [Env]{R:List Seg}{F:NF}{V:NV}{n:NodM}{m:MsgM}(hn:n.ok 970000)(hV:NVok V n)(hrow:m.row.length≤1000):
   Con Tryz.prog 113 [ptr F.p,.agg m.cells.toArray] (nodL F V n) R (KN F (n.begun m) (.tuple #[])):=by
 refine con_enter func113 ntmps113 rfl rfl ?_;unfold nodL ndC;refine gc 1 ?_;refine ya (ac_box (vs:=m.cells) rfl rfl) rfl ?_;rintro v L' ⟨b3,rfl,rfl⟩;refine gy 7 ?_;refine y (ev_bd ([i64 m.epoch,i64 m.seq])) rfl ?_;refine ya (ac_alloc zeroValue84 rfl) rfl ?_;rintro v L' ⟨b4,rfl,rfl⟩;refine yst (ac_storeAll rfl rfl (by simp[Value.oneCell']) sizeOf84 zrp (by rfl) (by rfl)) ?_;refine gy 7 ?_;refine yci (kLast (C:=n.c)) call174 ?_;refine ya (ac_alloc zeroValue84 rfl) rfl ?_;rintro v L' ⟨b5,rfl,rfl⟩;refine yst (ac_storeAll rfl rfl (by simp[Value.oneCell']) sizeOf84 zrp (by rfl) (by rfl)) ?_;refine gy 10 ?_;refine ysp 21 rfl (fun h22=>?_) (fun h22=>?_)
 ·have hbe:n.begun m=n:=if_pos (.inl (by omega));refine gy 18 ?_;refine kretv0 results113 (L1:=nodL F V n++R) zge ?_;rw[hbe];exact⟨_,⟨V,rfl,hV,rfl⟩,rfl⟩
 refine gy 6 ?_;refine ysp 27 rfl (fun h30=>?_) (fun h30=>?_)
 ·refine gy 9 ?_;refine cc rfl (fun h38=>?_) (fun h38=>?_)
  ·have hbe:n.begun m=n:=if_pos (.inr ⟨by omega,by omega⟩);refine gc 2 ?_;refine kretv0 results113 (L1:=nodL F V n++R) zge ?_;rw[hbe];exact⟨_,⟨V,rfl,hV,rfl⟩,rfl⟩
  refine gc 2 ?_;refine cseqT ?_;intro K6 hK6
  have hJr5: ∀x:NV × NodM,(n.begun m=x.2.readyM m∧x.2.ok 970000∧NVok x.1 x.2)→Sk 54 K6 ([(0,ptr F.p),(3,ptr b3)]) (sc b3 m.cells 34::nodL F x.1 x.2++R):=by
   rintro⟨V2,n2⟩ hIr5;refine hK6 _ _ ?_;obtain⟨hta4,hok2,hV2⟩:=hIr5;dsimp only at hta4 hok2 hV2 ⊢;unfold nodL ndC;refine cdraw 8 [(0,true),(1,true),(3,true),(4,true),(5,true),(6,true),(7,true),(2,false)] ([sc b3 _ 34,sc F.p _ 106]++R) Tryz.mixed (by kernel_rfl) zge ?_;refine gh 6 ?_;refine hr rfl (ev_bd (MsgM.cells {NodM.msg0 with kind:=8,epoch:=m.epoch,seq:=m.seq})) rfl ?_;refine hcall rfl (nPeer (V:=V2) (n:=n2) ?ni46) rfl call63 ztk rfl ?_
   case ni46=>exact hok2.a.id
   rintro v L' ⟨rfl,rfl⟩;refine⟨zge,?_⟩;refine gh 1 ?_;refine ycall (nSend (V:=V2) (n:=n2) (m:={NodM.msg0 with kind:=8,epoch:=m.epoch,seq:=m.seq}) ?ook47 ?ol47) rfl call67 ztk rfl ?_
   case ook47=>exact hV2.out
   case ol47=>have:=hok2.out;omega
   rintro v L' ⟨o53,rfl,oko53,rfl⟩;refine gy 1 ?_;refine kendv0 results113 (L1:=nodL F {V2 with out:=o53} (n2.readyM m)++R) zge ?_;rw[hta4];exact⟨_,⟨{V2 with out:=o53},rfl,⟨oko53,hV2.sw,hV2.si,hV2.sl⟩,rfl⟩,rfl⟩
  clear hK6;refine gc 1 ?_;have hbe:n.begun m=if n.c.k.e=m.epoch∧n.c.k.s=m.seq then n.readyM m else NodM.andThen (n.cleared m) fun n=>n.readyM m:=if_neg (by omega)
  refine y (ev_loadN (u:=[i64 n.c.k.e,i64 n.c.k.s]) rfl isAgg84 sizeOf84 zin rfl rfl) rfl ?_;refine y (ev_loadN (u:=[i64 m.epoch,i64 m.seq]) rfl isAgg84 sizeOf84 zin rfl rfl) rfl ?_;refine y (ev_neqF (p:=n.c.k.e=m.epoch∧n.c.k.s=m.seq) (xs:=[i64 n.c.k.e,i64 n.c.k.s]) (ys:=[i64 m.epoch,i64 m.seq]) rfl rfl (by kernel_rfl) (by simp)) rfl ?_;refine gy 1 ?_;refine ysp 38 rfl (fun h52=>?_) (fun h52=>?_)
  ·have hbe2:=hbe.trans (if_neg (by simpa using h52));refine gy 1 ?_;refine ygo ?_;refine y (ev_loadAll rfl isAgg34 sizeOf34 zin (by rfl)) rfl ?_;refine ygo ?_;refine y (ev_loadN (u:=[i64 m.epoch,i64 m.seq]) rfl isAgg84 sizeOf84 zin rfl rfl) rfl ?_;refine ygo ?_;refine ycall (nCleared (V:=V) (n:=n) (m:=m) ?nok56 ?vok56 ?nr56) rfl call176 ztk rfl ?_
   case nok56=>exact hn
   case vok56=>exact hV
   case nr56=>exact hrow
   rintro v L' ⟨V42,rfl,vk42,rfl⟩;refine gy 4 ?_;refine cc rfl (fun h59=>?_) (fun h59=>?_)
   ·have hbe3:n.begun m=(n.cleared m).2:=hbe2.trans (if_neg (by simpa using h59));refine gc 2 ?_;refine kretv0 results113 (L1:=nodL F V42 (n.cleared m).2++R) zge ?_;rw[hbe3];exact⟨_,⟨V42,rfl,vk42,rfl⟩,rfl⟩
   have hbe3:n.begun m=(n.cleared m).2.readyM m:=hbe2.trans (if_pos (by simpa using h59));refine gc 2 ?_;exact ksub zsub zge (hJr5 (V42,(n.cleared m).2) ⟨hbe3,hn.cleared m,vk42⟩)
  have hbe2:n.begun m=n.readyM m:=hbe.trans (if_pos (by simpa using h52));refine gy 11 ?_;exact ksub zsub zge (hJr5 (V,n) ⟨hbe2,hn,hV⟩)
 refine gy 12 ?_;refine cseqT ?_;intro K8 hK8
 have hJr5: ∀x:NV × NodM,(n.begun m=x.2.readyM m∧x.2.ok 970000∧NVok x.1 x.2)→Sk 54 K8 ([(0,ptr F.p),(3,ptr b3)]) (sc b3 m.cells 34::nodL F x.1 x.2++R):=by
  rintro⟨V2,n2⟩ hIr5;refine hK8 _ _ ?_;obtain⟨hta4,hok2,hV2⟩:=hIr5;dsimp only at hta4 hok2 hV2 ⊢;unfold nodL ndC;refine cdraw 8 [(0,true),(1,true),(3,true),(4,true),(5,true),(6,true),(7,true),(2,false)] ([sc b3 _ 34,sc F.p _ 106]++R) Tryz.mixed (by kernel_rfl) zge ?_;refine gh 6 ?_;refine hr rfl (ev_bd (MsgM.cells {NodM.msg0 with kind:=8,epoch:=m.epoch,seq:=m.seq})) rfl ?_;refine hcall rfl (nPeer (V:=V2) (n:=n2) ?ni70) rfl call63 ztk rfl ?_
  case ni70=>exact hok2.a.id
  rintro v L' ⟨rfl,rfl⟩;refine⟨zge,?_⟩;refine gh 1 ?_;refine ycall (nSend (V:=V2) (n:=n2) (m:={NodM.msg0 with kind:=8,epoch:=m.epoch,seq:=m.seq}) ?ook71 ?ol71) rfl call67 ztk rfl ?_
  case ook71=>exact hV2.out
  case ol71=>have:=hok2.out;omega
  rintro v L' ⟨o53,rfl,oko53,rfl⟩;refine gy 1 ?_;refine kendv0 results113 (L1:=nodL F {V2 with out:=o53} (n2.readyM m)++R) zge ?_;rw[hta4];exact⟨_,⟨{V2 with out:=o53},rfl,⟨oko53,hV2.sw,hV2.si,hV2.sl⟩,rfl⟩,rfl⟩
 clear hK8;refine gc 1 ?_;have hbe:n.begun m=if n.c.k.e=m.epoch∧n.c.k.s=m.seq then n.readyM m else NodM.andThen (n.cleared m) fun n=>n.readyM m:=if_neg (by omega)
 refine y (ev_loadN (u:=[i64 n.c.k.e,i64 n.c.k.s]) rfl isAgg84 sizeOf84 zin rfl rfl) rfl ?_;refine y (ev_loadN (u:=[i64 m.epoch,i64 m.seq]) rfl isAgg84 sizeOf84 zin rfl rfl) rfl ?_;refine y (ev_neqF (p:=n.c.k.e=m.epoch∧n.c.k.s=m.seq) (xs:=[i64 n.c.k.e,i64 n.c.k.s]) (ys:=[i64 m.epoch,i64 m.seq]) rfl rfl (by kernel_rfl) (by simp)) rfl ?_;refine gy 1 ?_;refine ysp 38 rfl (fun h76=>?_) (fun h76=>?_)
 ·have hbe2:=hbe.trans (if_neg (by simpa using h76));refine gy 1 ?_;refine ygo ?_;refine y (ev_loadAll rfl isAgg34 sizeOf34 zin (by rfl)) rfl ?_;refine ygo ?_;refine y (ev_loadN (u:=[i64 m.epoch,i64 m.seq]) rfl isAgg84 sizeOf84 zin rfl rfl) rfl ?_;refine ygo ?_;refine ycall (nCleared (V:=V) (n:=n) (m:=m) ?nok80 ?vok80 ?nr80) rfl call176 ztk rfl ?_
  case nok80=>exact hn
  case vok80=>exact hV
  case nr80=>exact hrow
  rintro v L' ⟨V42,rfl,vk42,rfl⟩;refine gy 4 ?_;refine cc rfl (fun h83=>?_) (fun h83=>?_)
  ·have hbe3:n.begun m=(n.cleared m).2:=hbe2.trans (if_neg (by simpa using h83));refine gc 2 ?_;refine kretv0 results113 (L1:=nodL F V42 (n.cleared m).2++R) zge ?_;rw[hbe3];exact⟨_,⟨V42,rfl,vk42,rfl⟩,rfl⟩
  have hbe3:n.begun m=(n.cleared m).2.readyM m:=hbe2.trans (if_pos (by simpa using h83));refine gc 2 ?_;exact ksub zsub zge (hJr5 (V42,(n.cleared m).2) ⟨hbe3,hn.cleared m,vk42⟩)
 have hbe2:n.begun m=n.readyM m:=hbe.trans (if_pos (by simpa using h76));refine gy 11 ?_;exact ksub zsub zge (hJr5 (V,n) ⟨hbe2,hn,hV⟩)
theorem ack_no{S:SndM}{q:Int}(h:(S.ack q).1=false):(S.ack q).2=S:=by
 unfold SndM.ack at h ⊢;split
 · rfl
 rename_i hc;rw[if_neg hc]at h;cases h
theorem nMet [Env]{R:List Seg}{F:NF}{V:NV}{n:NodM}{m:MsgM}{fr:Int}(hn:n.ok 970000)(hV:NVok V n)(hm:m.ok)(hrow:m.row.length≤1000):
   Con Tryz.prog 64 [ptr F.p,i64 fr,.agg m.cells.toArray] (nodL F V n) R (KN F (n.met m) (.tuple #[])):=by
 have hme0:n.met m=if m.kind=5∨m.kind=7 then(if m.epoch<n.epoch then n else NodM.andThen (n.adopt m.epoch) fun n=>n.met1 m)else if m.kind=6 then n.metH m else if m.kind=8 then n.metR m else if m.kind=9 then n.metC m else n:=rfl
 have hoa:=hn.adopt (e:=m.epoch) hm.epoch;obtain⟨r,hR⟩: ∃z,n.c.clean n.d m.block m.epoch m.seq=z:=⟨_,rfl⟩;refine con_enter func64 ntmps64 rfl rfl ?_;unfold nodL ndC;refine gc 1 ?_;refine ya (ac_box (vs:=m.cells) rfl rfl) rfl ?_;rintro v L' ⟨b5,rfl,rfl⟩;refine gy 8 ?_;refine cseqT ?_;intro K3 hK3
 have hJr4: ∀x:Bool,(x=true↔(m.kind=5∨m.kind=7))→Sk 163 K3 ([(0,ptr F.p),(5,ptr b5),(8,i64 m.kind),(9,.bool x)]) (sc b5 m.cells 34::nodL F V n++R):=by
  rintro x9 hIr4;refine hK3 _ _ ?_;unfold nodL ndC;refine cc rfl (fun h88=>?_) (fun h88=>?_)
  ·(have hx9:=hIr4.1 h88;rw[if_pos hx9]at hme0)
   refine gc 2 ?_;refine cdrawN 19 (.op 0 0 (.op 1 1 (.op 2 0 (.op 3 0 (.op 4 0 (.op 5 2 (.op 6 0 (.op 7 0 (.op 8 0 (.op 9 0 (.op 10 1 (.op 11 2 (.op 12 0 (.op 13 0 (.op 14 0 (.op 15 0 (.op 16 0 (.op 17 0 (.op 18 0 (.nil)))))))))))))))))))) ([sc b5 _ 34]++R) Tryz.mixed (by kernel_rfl) zge ?_;refine nz rfl (ev_fieldAddr 1 rfl underlying34 rfl sizeOf2) rfl ?_;refine nr rfl (ev_load rfl isAgg2 zin rfl) rfl ?_;refine nz rfl (ev_move rfl) rfl ?_;refine nz rfl (ev_nil rfl) rfl ?_;refine nz rfl (ev_fieldAddr 11 rfl underlying106 rfl sizeOf2) rfl ?_;refine na rfl (ac_of_ev (ev_load rfl isAgg2 zin rfl)) rfl ?_;rintro v L' ⟨rfl,rfl⟩;refine⟨zge,?_⟩;refine nz rfl (ev_lss rfl rfl) rfl ?_;refine nz rfl (ev_move rfl) rfl ?_;refine nsplit 19 rfl (fun h97=>?_) (fun h97=>?_)
   ·(try simp only[sH]at h97)
    have hme:n.met m=n:=hme0.trans (if_pos (by omega));refine nz0 rfl rfl rfl rfl rfl ?_;refine nz0 rfl rfl rfl rfl rfl ?_;refine nr0 rfl rfl rfl rfl rfl ?_;refine na0 rfl rfl rfl rfl rfl zge ?_;refine nz0 rfl rfl rfl rfl rfl ?_;refine nz rfl (ev_pick1 rfl rfl) rfl ?_;refine nz rfl (ev_move rfl) rfl ?_;refine nz0 rfl rfl rfl rfl rfl ?_;refine nz0 rfl rfl rfl rfl rfl ?_;refine nz0 rfl rfl rfl rfl rfl ?_;refine nz0 rfl rfl rfl rfl rfl ?_;refine nnil ?_;refine gy 9 ?_;refine kretv0 results64 (L1:=nodL F V n++R) zge ?_;rw[hme];exact⟨_,⟨V,rfl,hV,rfl⟩,rfl⟩
   try simp only[sH]at h97
   have hme1:=hme0.trans (if_neg (by omega));refine nz1 rfl rfl rfl (ev_move rfl) rfl ?_;refine nz1 rfl rfl rfl (ev_fieldAddr 1 rfl underlying34 rfl sizeOf2) rfl ?_;refine nr1 rfl rfl rfl (ev_load rfl isAgg2 zin rfl) rfl ?_;refine ncall1 rfl rfl rfl (nAdopt (V:=V) (n:=n) ?nok104 ?vok104 ?ne104) rfl call111 ztk rfl ?_
   case nok104=>exact hn.le (by decide)
   case vok104=>exact hV
   case ne104=>exact hm.epoch
   rintro v L' ⟨V23,rfl,vk23,rfl⟩;refine⟨zge,?_⟩;obtain⟨n1,hn1⟩: ∃z,(n.adopt m.epoch).2=z:=⟨_,rfl⟩;rw[hn1]at hoa vk23 ⊢;unfold nodL ndC;refine nz1 rfl rfl rfl (ev_not rfl) rfl ?_;refine nz rfl (ev_pick0 rfl rfl) rfl ?_;refine nz rfl (ev_move rfl) rfl ?_;refine nsplit 26 rfl (fun h108=>?_) (fun h108=>?_)
   ·(try simp only[sH]at h108)
    have hme:n.met m=n1:=by rw[hme1];exact(if_neg (by simpa using h108)).trans hn1
    refine nz0 rfl rfl rfl rfl rfl ?_;refine nz0 rfl rfl rfl rfl rfl ?_;refine nz0 rfl rfl rfl rfl rfl ?_;refine nz0 rfl rfl rfl rfl rfl ?_;refine nnil ?_;refine gy 9 ?_;refine kretv0 results64 (L1:=nodL F V23 n1++R) zge ?_;rw[hme];exact⟨_,⟨V23,rfl,vk23,rfl⟩,rfl⟩
   try simp only[sH]at h108
   have hme2:n.met m=n1.met1 m:=by rw[hme1,←hn1];exact if_pos (by simpa using h108)
   refine nz1 rfl rfl rfl (ev_move rfl) rfl ?_;refine nz1 rfl rfl rfl (ev_nil rfl) rfl ?_;refine nz1 rfl rfl rfl (ev_fieldAddr 26 rfl underlying106 rfl sizeOf104) rfl ?_;refine nz1 rfl rfl rfl (ev_fieldAddr 0 rfl underlying104 rfl sizeOf3) rfl ?_;refine nnil ?_;refine gy 5 ?_;refine cc rfl (fun h117=>?_) (fun h117=>?_)
   ·have hme:n.met m=n1:=hme2.trans (if_pos (by omega));refine gc 3 ?_;refine kretv0 results64 (L1:=nodL F V23 n1++R) zge ?_;rw[hme];exact⟨_,⟨V23,rfl,vk23,rfl⟩,rfl⟩
   have hme3:n.met m=if m.kind=5 then n1.taken m else n1.begun m:=hme2.trans (if_neg (by omega))
   refine gc 8 ?_;refine cc rfl (fun h121=>?_) (fun h121=>?_)
   ·have hme4:n.met m=n1.taken m:=hme3.trans (if_pos h121);refine gc 2 ?_;refine y (ev_loadAll rfl isAgg34 sizeOf34 zin (by rfl)) rfl ?_;refine ycall (nTaken (V:=V23) (n:=n1) (m:=m) ?nok124 ?vok124 ?nm124) rfl call112 ztk rfl ?_
    case nok124=>exact hoa
    case vok124=>exact vk23
    case nm124=>exact hm
    rintro v L' ⟨V39,rfl,vk39,rfl⟩;refine gy 2 ?_;refine kendv0 results64 (L1:=nodL F V39 (n1.taken m)++R) zge ?_;rw[hme4];exact⟨_,⟨V39,rfl,vk39,rfl⟩,rfl⟩
   have hme4:n.met m=n1.begun m:=hme3.trans (if_neg h121);refine gc 2 ?_;refine y (ev_loadAll rfl isAgg34 sizeOf34 zin (by rfl)) rfl ?_;refine ycall (nBegun (V:=V23) (n:=n1) (m:=m) ?nok127 ?vok127 ?nr127) rfl call113 ztk rfl ?_
   case nok127=>exact hoa
   case vok127=>exact vk23
   case nr127=>exact hrow
   rintro v L' ⟨V42,rfl,vk42,rfl⟩;refine gy 2 ?_;refine kendv0 results64 (L1:=nodL F V42 (n1.begun m)++R) zge ?_;rw[hme4];exact⟨_,⟨V42,rfl,vk42,rfl⟩,rfl⟩
  (have hx9: ¬(m.kind=5∨m.kind=7):=fun h=>absurd (hIr4.2 h) (by rw[h88];exact Bool.false_ne_true);rw[if_neg hx9]at hme0)
  refine gc 5 ?_;refine cc rfl (fun h130=>?_) (fun h130=>?_)
  ·have hh6:=hme0.trans (if_pos h130);refine gc 1 ?_;refine cdraw 27 (od [17] 27 0) ([sc b5 _ 34,sc F.p _ 106]++R) Tryz.mixed (by kernel_rfl) zge ?_;refine gh 7 ?_;refine hsp 51 rfl (fun h138=>?_) (fun h138=>?_)
   ·refine gh 9 ?_;refine hsp 60 rfl (fun h148=>?_) (fun h148=>?_)
    ·refine gh 1 ?_;refine hcall1 rfl rfl rfl (nMirrored (V:=V) (n:=n)) rfl call114 ztk rfl ?_;rintro v L' ⟨rfl,rfl⟩;refine⟨zge,?_⟩;unfold ndC;refine gh 2 ?_;refine hsp 64 rfl (fun h153=>?_) (fun h153=>?_)
     ·refine gh 8 ?_;refine ygo ?_;refine ycall (nAck (S:=n.s) (q:=m.seq) ?sok161 ?sov161) rfl call115 ztk rfl ?_
      case sok161=>exact hn.s.fit (by decide)
      case sov161=>exact hV.si
      rintro v L' ⟨s72,rfl,ok72,rfl⟩;refine gy 3 ?_;refine cc rfl (fun h163=>?_) (fun h163=>?_)
      ·have hme4:n.met m=(n.metA m.seq).stores.settle:=hh6.trans (if_pos ⟨by assumption,by omega,by assumption,by assumption⟩);refine gc 5 ?_;refine yst (ac_store rfl rfl (by rfl) sizeOf2 zrp rfl rfl) ?_;refine gy 4 ?_;refine ycall (nStores (V:={V with si:=s72}) (n:=n.metA m.seq) ?nok170 ?vok170) rfl call116 ztk rfl ?_
       case nok170=>exact(hn.metA m.seq).le (by decide)
       case vok170=>exact⟨hV.out,hV.sw,ok72,hV.sl⟩
       rintro v L' ⟨V79,rfl,vk79,rfl⟩;refine gy 4 ?_;refine ycall (nSettle (V:=V79) (n:=(n.metA m.seq).stores) ?nok172 ?vok172) rfl call117 ztk rfl ?_
       case nok172=>exact(hn.metA m.seq).stores.le (by decide)
       case vok172=>exact vk79
       rintro v L' ⟨V81,rfl,vk81,rfl⟩;refine gy 2 ?_;refine kendv0 results64 (L1:=nodL F V81 (n.metA m.seq).stores.settle++R) zge ?_;rw[hme4];exact⟨_,⟨V81,rfl,vk81,rfl⟩,rfl⟩
      have hme:n.met m=n:=hh6.trans (if_neg (fun hh=>by have:=hh.2.2.2;simp_all));rw[ack_no h163]at ok72 ⊢;refine gc 2 ?_;refine kendv0 results64 (L1:=nodL F {V with si:=s72} n++R) zge ?_;rw[hme];exact⟨_,⟨{V with si:=s72},rfl,⟨hV.out,hV.sw,ok72,hV.sl⟩,rfl⟩,rfl⟩
     have hme:n.met m=n:=hh6.trans (if_neg (fun hh=>by have:=hh.2.2.1;simp_all));refine gh 15 ?_;refine kendv0 results64 (L1:=nodL F V n++R) zge ?_;rw[hme];exact⟨_,⟨V,rfl,hV,rfl⟩,rfl⟩
    have hme:n.met m=n:=hh6.trans (if_neg (fun hh=>by omega));refine gh 1 ?_;refine ha0 rfl rfl rfl rfl rfl zge ?_;refine gh 17 ?_;refine kendv0 results64 (L1:=nodL F V n++R) zge ?_;rw[hme];exact⟨_,⟨V,rfl,hV,rfl⟩,rfl⟩
   have hme:n.met m=n:=hh6.trans (if_neg (fun hh=>by omega));refine gh 10 ?_;refine ha0 rfl rfl rfl rfl rfl zge ?_;refine gh 17 ?_;refine kendv0 results64 (L1:=nodL F V n++R) zge ?_;rw[hme];exact⟨_,⟨V,rfl,hV,rfl⟩,rfl⟩
  have hh6:=hme0.trans (if_neg h130);refine gc 5 ?_;refine cc rfl (fun h184=>?_) (fun h184=>?_)
  ·have hh8:=hh6.trans (if_pos h184);refine gc 1 ?_;refine cdraw 37 (od [8,35] 37 0) ([sc b5 _ 34,sc F.p _ 106]++R) Tryz.mixed (by kernel_rfl) zge ?_;refine gh 7 ?_;refine hsp 90 rfl (fun h192=>?_) (fun h192=>?_)
   ·refine gh 1 ?_;refine hcall1 rfl rfl rfl (nAlone (V:=V) (n:=n)) rfl call118 ztk rfl ?_;rintro v L' ⟨rfl,rfl⟩;refine⟨zge,?_⟩;unfold ndC;refine gh 2 ?_;refine hsp 94 rfl (fun h197=>?_) (fun h197=>?_)
    ·refine gh 8 ?_;refine hsp 102 rfl (fun h206=>?_) (fun h206=>?_)
     ·refine gh 9 ?_;refine hsp 111 rfl (fun h216=>?_) (fun h216=>?_)
      ·refine gh 7 ?_;refine hcall1 rfl rfl rfl (nLast ?sok224 ?sov224) rfl call51 ztk rfl ?_
       case sok224=>exact hn.s.fit (by decide)
       case sov224=>exact hV.si
       rintro v L' ⟨rfl,rfl⟩;refine⟨zge,?_⟩;refine gh 5 ?_;refine cc rfl (fun h227=>?_) (fun h227=>?_)
       ·have hme4:n.met m=n.ready:=hh8.trans (if_pos ⟨by omega,by assumption,by omega,by omega,by omega⟩);refine gc 2 ?_;refine ycall (nReady (V:=V) (n:=n) ?nok229 ?vok229) rfl call119 ztk rfl ?_
        case nok229=>exact hn
        case vok229=>exact hV
        rintro v L' ⟨V123,rfl,vk123,rfl⟩;refine gy 2 ?_;refine kendv0 results64 (L1:=nodL F V123 n.ready++R) zge ?_;rw[hme4];exact⟨_,⟨V123,rfl,vk123,rfl⟩,rfl⟩
       have hme:n.met m=n:=hh8.trans (if_neg (fun hh=>by omega));refine gc 2 ?_;refine kendv0 results64 (L1:=nodL F V n++R) zge ?_;rw[hme];exact⟨_,⟨V,rfl,hV,rfl⟩,rfl⟩
      have hme:n.met m=n:=hh8.trans (if_neg (fun hh=>by omega));refine gh 7 ?_;refine ha0 rfl rfl rfl rfl rfl zge ?_;refine gh 8 ?_;refine kendv0 results64 (L1:=nodL F V n++R) zge ?_;rw[hme];exact⟨_,⟨V,rfl,hV,rfl⟩,rfl⟩
     have hme:n.met m=n:=hh8.trans (if_neg (fun hh=>by omega));refine gh 16 ?_;refine ha0 rfl rfl rfl rfl rfl zge ?_;refine gh 8 ?_;refine kendv0 results64 (L1:=nodL F V n++R) zge ?_;rw[hme];exact⟨_,⟨V,rfl,hV,rfl⟩,rfl⟩
    have hme:n.met m=n:=hh8.trans (if_neg (fun hh=>by have:=hh.2.1;simp_all));refine gh 24 ?_;refine ha0 rfl rfl rfl rfl rfl zge ?_;refine gh 8 ?_;refine kendv0 results64 (L1:=nodL F V n++R) zge ?_;rw[hme];exact⟨_,⟨V,rfl,hV,rfl⟩,rfl⟩
   have hme:n.met m=n:=hh8.trans (if_neg (fun hh=>by omega));refine gh 1 ?_;refine ha0 rfl rfl rfl rfl rfl zge ?_;refine gh 26 ?_;refine ha0 rfl rfl rfl rfl rfl zge ?_;refine gh 8 ?_;refine kendv0 results64 (L1:=nodL F V n++R) zge ?_;rw[hme];exact⟨_,⟨V,rfl,hV,rfl⟩,rfl⟩
  have hh8:=hh6.trans (if_neg h184);refine gc 5 ?_;refine cc rfl (fun h248=>?_) (fun h248=>?_)
  ·have hh9:=hh8.trans (if_pos h248);refine gc 1 ?_;refine cdraw 19 (od [] 19 0) ([sc b5 _ 34,sc F.p _ 106]++R) Tryz.mixed (by kernel_rfl) zge ?_;refine gh 7 ?_;refine hsp 132 rfl (fun h256=>?_) (fun h256=>?_)
   ·refine gh 9 ?_;refine hsp 141 rfl (fun h266=>?_) (fun h266=>?_)
    ·refine gh 7 ?_;refine cc rfl (fun h271=>?_) (fun h271=>?_)
     ·have hh10:=hh9.trans (if_pos ⟨by omega,by omega,by omega⟩);rw[hR]at hh10;refine gc 1 ?_;refine cdraw 11 (od [] 11 0) ([sc b5 _ 34,sc F.p _ 106]++R) Tryz.mixed (by kernel_rfl) zge ?_;refine gh 10 ?_;refine hr rfl (ev_bd ([i64 m.epoch,i64 m.seq])) rfl ?_;refine gh 1 ?_;refine ycall (kClean (C:=n.c) (D:=n.d) (b:=m.block) (e:=m.epoch) (s:=m.seq) ?cok283 ?its283) rfl call120 ztk rfl ?_
      case cok283=>exact hn.p.c
      case its283=>exact hV.sl
      rintro v L' ⟨sl157,rfl,ok157,rfl⟩;rw[hR]at ok157 ⊢;refine gy 8 ?_;refine cc rfl (fun h287=>?_) (fun h287=>?_)
      ·have hme5:n.met m=(n.cDid r).err r.1:=hh10.trans (if_neg h287);refine gc 3 ?_;refine yci (nOk (V:={V with sl:=sl157}) (n:=n.cDid r)) call121 ?_;refine gy 2 ?_;refine kendv0 results64 (L1:=nodL F {V with sl:=sl157} ((n.cDid r).err r.1)++R) zge ?_;rw[hme5];exact⟨_,⟨{V with sl:=sl157},rfl,⟨hV.out,hV.sw,hV.si,ok157⟩,rfl⟩,rfl⟩
      have hme5:n.met m=n.cDid r:=hh10.trans (if_pos (by omega));refine gc 2 ?_;refine kendv0 results64 (L1:=nodL F {V with sl:=sl157} (n.cDid r)++R) zge ?_;rw[hme5];exact⟨_,⟨{V with sl:=sl157},rfl,⟨hV.out,hV.sw,hV.si,ok157⟩,rfl⟩,rfl⟩
     have hme:n.met m=n:=hh9.trans (if_neg (fun hh=>by omega));refine gc 2 ?_;refine kendv0 results64 (L1:=nodL F V n++R) zge ?_;rw[hme];exact⟨_,⟨V,rfl,hV,rfl⟩,rfl⟩
    have hme:n.met m=n:=hh9.trans (if_neg (fun hh=>by omega));refine gh 10 ?_;refine kendv0 results64 (L1:=nodL F V n++R) zge ?_;rw[hme];exact⟨_,⟨V,rfl,hV,rfl⟩,rfl⟩
   have hme:n.met m=n:=hh9.trans (if_neg (fun hh=>by omega));refine gh 19 ?_;refine kendv0 results64 (L1:=nodL F V n++R) zge ?_;rw[hme];exact⟨_,⟨V,rfl,hV,rfl⟩,rfl⟩
  have hme:n.met m=n:=hh8.trans (if_neg h248);refine gc 2 ?_;refine kendv0 results64 (L1:=nodL F V n++R) zge ?_;rw[hme];exact⟨_,⟨V,rfl,hV,rfl⟩,rfl⟩
 clear hK3;refine gc 5 ?_;refine cc rfl (fun h297=>?_) (fun h297=>?_)
 ·have hA5:m.kind=5:=by simpa using h297
  refine gc 2 ?_;exact ksub zsub zge (hJr4 (decide (m.kind=5)) (by rw[decide_eq_true hA5];exact⟨fun _=> .inl hA5,fun _=>rfl⟩))
 skip
 refine gc 5 ?_;exact ksub zsub zge (hJr4 (decide (m.kind=7)) (by rw[decide_eq_true_eq];exact⟨.inr,fun h=>by omega⟩))
def KTake(F:NF)(r:Int × NodM)(v:Value)(L':List Seg):Prop:= ∃V',v= .tuple #[svVal V'.out r.2.out.length,i64 r.1]∧NVok V' r.2∧L'=nodL F V' r.2
theorem nTakeB [Env]{R:List Seg}{F:NF}{V:NV}{n:NodM}{l:LetM}(hn:n.ok 950000)(hV:NVok V n)(hb:l.body.length≤1000):
   Con Tryz.prog 27 [ptr F.p,.agg l.cells.toArray] (nodB F V n) R (KTake F (n.take l)):=by
 have hok0:=hn.clear;have hV0:NVok {V with out:=none} n.clear:=⟨⟨rfl,rfl⟩,hV.sw,hV.si,hV.sl⟩;have htk0:n.take l=n.clear.take1 l:=rfl;obtain⟨m,hm⟩: ∃z,(decMsg l.body).1=z:=⟨_,rfl⟩;obtain⟨e,he⟩: ∃z,(decMsg l.body).2=z:=⟨_,rfl⟩;refine con_enter func27 ntmps27 rfl rfl ?_;unfold nodB ndC;refine gc 1 ?_;refine ya (ac_box (vs:=l.cells) rfl rfl) rfl ?_;rintro v L' ⟨b3,rfl,rfl⟩;refine gy 4 ?_;refine cseqT ?_;intro K2 hK2
 have hJr2: ∀x:Unit,(True)→Sk 94 K2 ([(0,ptr F.p),(3,ptr b3)]) ([sc b3 l.cells 42,ndC F {V with out:=none} n.clear,svSeg none 42 [],waiS V n,sndC V.ps V.si n.s,sndI V.si n.s,celP F.pf F.q n.f,drlP F.pl F.pc n.dr,celP F.pc F.q n.dr.c,caP F.A n.c,enS F.A n.c,puS F.A n.c,lgS F.A F.q V.sl n.c,dev F.q n.d]++R):=by
  rintro x hIr2;refine hK2 _ _ ?_;obtain⟨n0,hn0⟩: ∃z,n.clear=z:=⟨_,rfl⟩;rw[hn0]at hok0 hV0 htk0;have ho0:n0.out=[]:=by rw[←hn0];rfl
  have hid:=hok0.a.id;show Sk _ _ _ (sc b3 l.cells 42::nodL F {V with out:=none} n.clear++R);rw[hn0];have hres: ∀q:Int,KTake F (q,n0) (.tuple #[nilS,i64 q]) (nodL F {V with out:=none} n0):=fun q=>⟨{V with out:=none},by show _=Value.tuple #[svVal none n0.out.length,i64 q];rw[ho0];rfl,hV0,rfl⟩
  unfold nodL ndC;refine gc 8 ?_;refine cc rfl (fun h8=>?_) (fun h8=>?_)
  ·have htk:n.take l=(30,n0):=htk0.trans (if_pos h8);refine gc 7 ?_;refine kretv2 results27 rfl rfl (L1:=nodL F {V with out:=none} n0++R) zge ?_;rw[htk];exact⟨_,hres _,rfl⟩
  have htk1:=htk0.trans (if_neg (by rw[h8];exact Bool.false_ne_true));refine gc 4 ?_;refine cdraw 25 (od [] 25 0) (_) Tryz.mixed (by kernel_rfl) .refl ?_;refine gh 8 ?_;refine hsp 23 rfl (fun h19=>?_) (fun h19=>?_)
  ·have htk:n.take l=(1,n0):=htk1.trans (if_pos (.inl (by simpa using h19)));refine gh 29 ?_;refine kretv2 results27 rfl rfl (L1:=nodL F {V with out:=none} n0++R) zge ?_;rw[htk];exact⟨_,hres _,rfl⟩
  refine gh 5 ?_;refine hsp 28 rfl (fun h32=>?_) (fun h32=>?_)
  ·have htk:n.take l=(1,n0):=htk1.trans (if_pos (.inr (.inl (by simpa using h32))));refine gh 24 ?_;refine kretv2 results27 rfl rfl (L1:=nodL F {V with out:=none} n0++R) zge ?_;rw[htk];exact⟨_,hres _,rfl⟩
  refine gh 5 ?_;refine hsp 33 rfl (fun h43=>?_) (fun h43=>?_)
  ·have htk:n.take l=(1,n0):=htk1.trans (if_pos (.inr (.inr (.inl (by simpa using h43)))));refine gh 19 ?_;refine kretv2 results27 rfl rfl (L1:=nodL F {V with out:=none} n0++R) zge ?_;rw[htk];exact⟨_,hres _,rfl⟩
  refine gh 11 ?_;refine cc rfl (fun h55=>?_) (fun h55=>?_)
  ·have htk:n.take l=(1,n0):=htk1.trans (if_pos (by omega));refine gc 7 ?_;refine kretv2 results27 rfl rfl (L1:=nodL F {V with out:=none} n0++R) zge ?_;rw[htk];exact⟨_,hres _,rfl⟩
  have htk2:=htk1.trans (if_neg (by omega));rw[hm,he]at htk2;refine gc 5 ?_;refine yci (nDecode ?nlen60) call37 ?_
  case nlen60=>exact hb
  rw[hm,he];refine gy 3 ?_;refine ya (ac_alloc zeroValue34 rfl) rfl ?_;rintro v L' ⟨b6,rfl,rfl⟩;refine yst (ac_storeAll rfl rfl (msgC_one _) sizeOf34 zrp rfl rfl) ?_;refine gy 9 ?_;refine cc rfl (fun h69=>?_) (fun h69=>?_)
  ·have htk:n.take l=(e,n0):=htk2.trans (if_pos (by simpa using h69));refine gc 8 ?_;refine kretv2 results27 rfl rfl (L1:=nodL F {V with out:=none} n0++R) zge ?_;rw[htk];exact⟨_,hres _,rfl⟩
  have he0:e=0:=by simpa using h69
  have htk3:=htk2.trans (if_neg (by omega));have hmok:m.ok:=hm▸NodM.decMsg_ok (he.trans he0);have hmrow:m.row.length≤1000:=by have:=may_row (Go.Sl.decMsg_ok (he.trans he0));rw[hm]at this;omega
  refine gc 4 ?_;refine y (ev_mkFuncF rfl) rfl ?_;refine gy 12 ?_;refine cc rfl (fun h80=>?_) (fun h80=>?_)
  ·have h2:l.frm=2:=by simpa using h80
   have htk4:=htk3.trans (if_neg (fun hh=>hh.1 h2));refine gc 2 ?_;refine y (ev_mkFuncF rfl) rfl ?_;refine gy 8 ?_;refine y (ev_loadAll rfl isAgg34 sizeOf34 zin (by rfl)) rfl ?_;refine ycallFf rfl (nHeard (V:={V with out:=none}) (n:=n0) (m:=m) (fr:=l.frm) (hok0.le (by decide)) hV0 hmok) rfl call61 ztk rfl ?_;rintro v L' ⟨V1,rfl,vk1,rfl⟩;have hhe:n0.hear l.frm m=n0.heard m:=if_pos h2;obtain⟨n1,hn1⟩: ∃z,n0.heard m=z:=⟨_,rfl⟩;rw[hn1]at hhe vk1 ⊢;rw[hhe]at htk4;refine gy 4 ?_;unfold nodL ndC outS;refine gy 6 ?_;refine cc rfl (fun h93=>?_) (fun h93=>?_)
   ·have htk5:n.take l=(0,n1.clear):=htk4.trans (by rw[show n1.hush=n1.clear from if_pos h93]);refine gc 4 ?_;refine yst (ac_store rfl rfl (by rfl) sizeOf45 zrp rfl rfl) ?_;refine gy 12 ?_;refine kretv2 results27 rfl rfl (L1:=[ndC F {V1 with out:=none} n1.clear,svSeg none 42 [],waiS V1 n1,sndC V1.ps V1.si n1.s,sndI V1.si n1.s,celP F.pf F.q n1.f,drlP F.pl F.pc n1.dr,celP F.pc F.q n1.dr.c,caP F.A n1.c,enS F.A n1.c,puS F.A n1.c,lgS F.A F.q V1.sl n1.c,dev F.q n1.d]++R) zge ?_;rw[htk5];exact⟨_,⟨{V1 with out:=none},rfl,⟨⟨rfl,rfl⟩,vk1.sw,vk1.si,vk1.sl⟩,rfl⟩,rfl⟩
   have htk5:n.take l=(0,n1):=htk4.trans (by rw[show n1.hush=n1 from if_neg (by rw[h93];exact Bool.false_ne_true)]);refine gc 12 ?_;refine kretv2 results27 rfl rfl (L1:=nodL F V1 n1++R) zge ?_;rw[htk5];exact⟨_,⟨V1,rfl,vk1,rfl⟩,rfl⟩
  have h2: ¬l.frm=2:=by simpa using h80
  refine gc 8 ?_;refine cc rfl (fun h115=>?_) (fun h115=>?_)
  ·have htk:n.take l=(0,n0):=htk3.trans (if_pos ⟨h2,h115⟩);refine gc 8 ?_;refine kretv2 results27 rfl rfl (L1:=nodL F {V with out:=none} n0++R) zge ?_;rw[htk];exact⟨_,hres _,rfl⟩
  have htk4:=htk3.trans (if_neg (fun hh=>by have:=hh.2;rw[h115]at this;cases this));refine gc 7 ?_;refine cc rfl (fun h122=>?_) (fun h122=>?_)
  ·have h3:l.frm=3:=by simpa using h122
   refine gc 2 ?_;refine y (ev_mkFuncF rfl) rfl ?_;refine gy 8 ?_;refine y (ev_loadAll rfl isAgg34 sizeOf34 zin (by rfl)) rfl ?_;refine ycallFf rfl (nBacked (V:={V with out:=none}) (n:=n0) (m:=m) (fr:=l.frm) (hok0.le (by decide)) hV0) rfl call62 ztk rfl ?_;rintro v L' ⟨V1,rfl,vk1,rfl⟩;have hhe:n0.hear l.frm m=n0.backed m:=(if_neg h2).trans (if_pos h3);obtain⟨n1,hn1⟩: ∃z,n0.backed m=z:=⟨_,rfl⟩;rw[hn1]at hhe vk1 ⊢;rw[hhe]at htk4;refine gy 4 ?_;unfold nodL ndC outS;refine gy 6 ?_;refine cc rfl (fun h135=>?_) (fun h135=>?_)
   ·have htk5:n.take l=(0,n1.clear):=htk4.trans (by rw[show n1.hush=n1.clear from if_pos h135]);refine gc 4 ?_;refine yst (ac_store rfl rfl (by rfl) sizeOf45 zrp rfl rfl) ?_;refine gy 12 ?_;refine kretv2 results27 rfl rfl (L1:=[ndC F {V1 with out:=none} n1.clear,svSeg none 42 [],waiS V1 n1,sndC V1.ps V1.si n1.s,sndI V1.si n1.s,celP F.pf F.q n1.f,drlP F.pl F.pc n1.dr,celP F.pc F.q n1.dr.c,caP F.A n1.c,enS F.A n1.c,puS F.A n1.c,lgS F.A F.q V1.sl n1.c,dev F.q n1.d]++R) zge ?_;rw[htk5];exact⟨_,⟨{V1 with out:=none},rfl,⟨⟨rfl,rfl⟩,vk1.sw,vk1.si,vk1.sl⟩,rfl⟩,rfl⟩
   have htk5:n.take l=(0,n1):=htk4.trans (by rw[show n1.hush=n1 from if_neg (by rw[h135];exact Bool.false_ne_true)]);refine gc 12 ?_;refine kretv2 results27 rfl rfl (L1:=nodL F V1 n1++R) zge ?_;rw[htk5];exact⟨_,⟨V1,rfl,vk1,rfl⟩,rfl⟩
  have h3: ¬l.frm=3:=by simpa using h122
  refine gc 1 ?_;refine cdraw 5 (od [3] 5 0) (_) Tryz.mixed (by kernel_rfl) .refl ?_;refine gh 3 ?_;refine hcall rfl (nPeer (V:={V with out:=none}) (n:=n0) ?ni155) rfl call63 ztk rfl ?_
  case ni155=>exact hid
  rintro v L' ⟨rfl,rfl⟩;refine⟨zge,?_⟩;refine gh 5 ?_;refine cc rfl (fun h158=>?_) (fun h158=>?_)
  ·have h4:l.frm=n0.peer:=by simpa using h158
   refine gc 2 ?_;refine y (ev_mkFuncF rfl) rfl ?_;refine gy 8 ?_;refine y (ev_loadAll rfl isAgg34 sizeOf34 zin (by rfl)) rfl ?_;refine ycallFf rfl (nMet (V:={V with out:=none}) (n:=n0) (m:=m) (fr:=l.frm) (hok0.le (by decide)) hV0 hmok hmrow) rfl call64 ztk rfl ?_;rintro v L' ⟨V1,rfl,vk1,rfl⟩;have hhe:n0.hear l.frm m=n0.met m:=(if_neg h2).trans ((if_neg h3).trans (if_pos h4));obtain⟨n1,hn1⟩: ∃z,n0.met m=z:=⟨_,rfl⟩;rw[hn1]at hhe vk1 ⊢;rw[hhe]at htk4;refine gy 4 ?_;unfold nodL ndC outS;refine gy 6 ?_;refine cc rfl (fun h171=>?_) (fun h171=>?_)
   ·have htk5:n.take l=(0,n1.clear):=htk4.trans (by rw[show n1.hush=n1.clear from if_pos h171]);refine gc 4 ?_;refine yst (ac_store rfl rfl (by rfl) sizeOf45 zrp rfl rfl) ?_;refine gy 12 ?_;refine kretv2 results27 rfl rfl (L1:=[ndC F {V1 with out:=none} n1.clear,svSeg none 42 [],waiS V1 n1,sndC V1.ps V1.si n1.s,sndI V1.si n1.s,celP F.pf F.q n1.f,drlP F.pl F.pc n1.dr,celP F.pc F.q n1.dr.c,caP F.A n1.c,enS F.A n1.c,puS F.A n1.c,lgS F.A F.q V1.sl n1.c,dev F.q n1.d]++R) zge ?_;rw[htk5];exact⟨_,⟨{V1 with out:=none},rfl,⟨⟨rfl,rfl⟩,vk1.sw,vk1.si,vk1.sl⟩,rfl⟩,rfl⟩
   have htk5:n.take l=(0,n1):=htk4.trans (by rw[show n1.hush=n1 from if_neg (by rw[h171];exact Bool.false_ne_true)]);refine gc 12 ?_;refine kretv2 results27 rfl rfl (L1:=nodL F V1 n1++R) zge ?_;rw[htk5];exact⟨_,⟨V1,rfl,vk1,rfl⟩,rfl⟩
  have h4: ¬l.frm=n0.peer:=by simpa using h158
  have h49: ¬l.frm=1-n0.id:=h4;refine gc 7 ?_;refine y (ev_loadAll rfl isAgg34 sizeOf34 zin (by rfl)) rfl ?_;refine ycallFf rfl (nCalled (V:={V with out:=none}) (n:=n0) (m:=m) (fr:=l.frm) (hok0.le (by decide)) hV0 hmok (by omega)) rfl call60 ztk rfl ?_;rintro v L' ⟨V1,rfl,vk1,rfl⟩;have hhe:n0.hear l.frm m=n0.called l.frm m:=(if_neg h2).trans ((if_neg h3).trans (if_neg h4));obtain⟨n1,hn1⟩: ∃z,n0.called l.frm m=z:=⟨_,rfl⟩;rw[hn1]at hhe vk1 ⊢;rw[hhe]at htk4;refine gy 4 ?_;unfold nodL ndC outS;refine gy 6 ?_;refine cc rfl (fun h197=>?_) (fun h197=>?_)
  ·have htk5:n.take l=(0,n1.clear):=htk4.trans (by rw[show n1.hush=n1.clear from if_pos h197]);refine gc 4 ?_;refine yst (ac_store rfl rfl (by rfl) sizeOf45 zrp rfl rfl) ?_;refine gy 12 ?_;refine kretv2 results27 rfl rfl (L1:=[ndC F {V1 with out:=none} n1.clear,svSeg none 42 [],waiS V1 n1,sndC V1.ps V1.si n1.s,sndI V1.si n1.s,celP F.pf F.q n1.f,drlP F.pl F.pc n1.dr,celP F.pc F.q n1.dr.c,caP F.A n1.c,enS F.A n1.c,puS F.A n1.c,lgS F.A F.q V1.sl n1.c,dev F.q n1.d]++R) zge ?_;rw[htk5];exact⟨_,⟨{V1 with out:=none},rfl,⟨⟨rfl,rfl⟩,vk1.sw,vk1.si,vk1.sl⟩,rfl⟩,rfl⟩
  have htk5:n.take l=(0,n1):=htk4.trans (by rw[show n1.hush=n1 from if_neg (by rw[h197];exact Bool.false_ne_true)]);refine gc 12 ?_;refine kretv2 results27 rfl rfl (L1:=nodL F V1 n1++R) zge ?_;rw[htk5];exact⟨_,⟨V1,rfl,vk1,rfl⟩,rfl⟩
 clear hK2;refine gc 4 ?_;refine yst (ac_store rfl rfl (by rfl) sizeOf45 zrp rfl rfl) ?_;refine gy 2 ?_;exact ksub zsub zge (hJr2 () trivial)
theorem nTake [Env]{R:List Seg}{F:NF}{V:NV}{n:NodM}{l:LetM}(hn:n.ok 950000)(hV:NVok V n)(hb:l.body.length≤1000):
   Con Tryz.prog 27 [ptr F.p,.agg l.cells.toArray] (nodL F V n) R (KTake F (n.take l)):=(nTakeB hn hV hb).shed nodL_nodB
end W
end Go.Proofs
namespace Go.Sl
theorem logOpen_l{D:Dev}{first n a b:Int}:(logOpen D first n a b).2.2.l.length=D.l.length:=by
 unfold logOpen;split
 ·rfl
 ·split
  ·rfl
  ·split
   · rfl
   · unfold LogM.put;dsimp only;rw[put_l]
theorem caOpen_l{D:Dev}{first n a b bl:Int}:(caOpen D first n a b bl).2.2.l.length=D.l.length:=by
 unfold caOpen;split
 ·rfl
 ·split
  · exact logOpen_l
  · split<;>exact logOpen_l
theorem logOpen_d{D:Dev}{first n a b:Int}(hD:D.ok):(logOpen D first n a b).2.2.ok:=by
 unfold logOpen;split
 ·exact hD
 ·split
  ·exact hD
  ·rename_i ha he
   split
   ·exact hD
   ·rename_i ht
    unfold LogM.put;dsimp only;exact(Go.Sl.put_ok (openC_ok (Classical.not_not.1 he)).1 hD _).2
theorem caOpen_d{D:Dev}{first n a b bl:Int}(hD:D.ok):(caOpen D first n a b bl).2.2.ok:=by
 unfold caOpen;split
 ·exact hD
 ·split
  · exact logOpen_d hD
  · split<;>exact logOpen_d hD
theorem caLoad_bl{bl:Nat}: ∀(l:List (Bytes × Int)) (i:Int) (C C':CaM),caLoad bl l i C=some C'→C'.bl=C.bl
 | [],_,C,C',h=>by cases h;rfl
 |x::l,i,C,C',h=>by
  unfold caLoad at h;split at h
  ·cases h
  ·rename_i r _
   exact(caLoad_bl l _ _ _ h).trans (CaM.does_l C r i).2.1
theorem caOpen_bl{D:Dev}{first n a b bl:Int}(h:(caOpen D first n a b bl).1=0):(caOpen D first n a b bl).2.1.bl=bl.toNat:=by
 unfold caOpen at h ⊢;split
 ·rfl
 ·rename_i h1
  rw[if_neg h1]at h;split
  ·rfl
  ·split
   ·rfl
   ·rename_i C hC
    exact caLoad_bl _ _ _ _ hC
def fact(s:Bytes):Option Int:=if(decM s).2=0∧(decM s).1.kind=50∧(decM s).1.nums.length=1∧(decM s).1.texts.length=0∧0≤(decM s).1.nums.getD 0 0∧(decM s).1.nums.getD 0 0≤4611686018427387904 then some ((decM s).1.nums.getD 0 0)else none
def nodNew(id serial lease patience bl:Int)(f:CellM)(dr:DrlM)(c:CaM)(d:Dev):NodM:=
 {id:=id,serial:=serial,lease:=lease,patience:=patience,blocks:=bl,f:=f,dr:=dr,c:=c,left:=0,down:=false,lost:=false,epoch:=0,mask:=0,clock:=0,born:=0,change:=0,done:=⟨0,0,0,0⟩,noted:=⟨0,0,0,0⟩,loads:=0,out:=[],role:=0,want:=0,resync:=0,quiet:=0,waits:=[],s:=SndM.new 0,d:=d}
def nod0(D:Dev):NodM:=nodNew 0 0 0 0 0 (openC D 0 1) (drlO D 2 3 0) (caInit (log0 D 6 0 4 5) 0) D
def nodArg(id serial lease patience:Int):Prop:=id<0∨1<id∨(serial<0∨4611686018427387904<serial)∨(lease<1∨1048576<lease)∨(patience<1∨1048576<patience)
instance (id serial lease patience:Int):Decidable (nodArg id serial lease patience):=by unfold nodArg;infer_instance
/-- What the facts say of a node whose parts are opened. -/
def nodFact(n:NodM):Int × NodM:=match fact n.f.text with
 |none=>(0,{n with lost:=true})
 |some e=>NodM.boot {n with epoch:=e} e
def nodOpen(id serial:Int)(D:Dev)(bl lease patience:Int):Int × NodM:=
 if nodArg id serial lease patience then(1,nod0 D)else
 if openE D 0 1≠0 then(openE D 0 1,nod0 D)else
 if drlE D 2 3 bl≠0 then(drlE D 2 3 bl,nod0 D)else
 if(caOpen D 6 ((D.l.length:Int)- 6) 4 5 bl).1≠0 then((caOpen D 6 ((D.l.length:Int)- 6) 4 5 bl).1,nod0 (caOpen D 6 ((D.l.length:Int)- 6) 4 5 bl).2.2)else
 nodFact (nodNew id serial lease patience bl (openC D 0 1) (drlO D 2 3 bl.toNat) (caOpen D 6 ((D.l.length:Int)- 6) 4 5 bl).2.1 (caOpen D 6 ((D.l.length:Int)- 6) 4 5 bl).2.2)
/-- A device's facts are put. -/
def nodFormat(D:Dev):Int × Dev:=if openE D 0 1≠0 then(openE D 0 1,D)else(((openC D 0 1).put D (factB 0)).1,((openC D 0 1).put D (factB 0)).2.2)
theorem fact_in{s:Bytes}{e:Int}(h:fact s=some e):N62 e:=by
 unfold fact at h;split at h
 · rename_i hc;cases h;exact⟨hc.2.2.2.2.1,hc.2.2.2.2.2⟩
 · cases h
theorem nodNew_ok{id serial lease patience bl:Int}{f:CellM}{dr:DrlM}{c:CaM}{d:Dev}(ha: ¬nodArg id serial lease patience)(hb:1≤bl∧bl≤32)(hp:NokP bl f dr c d):(nodNew id serial lease patience bl f dr c d).ok 0:=by
 unfold nodArg at ha;have n0:N62 0:=NodM.n620
 exact⟨⟨by show id=0∨id=1;omega,⟨by show 0≤serial;omega,by show serial≤_;omega⟩,by show 1≤lease∧lease≤1048576;omega,by show 1≤patience∧patience≤1048576;omega,hb⟩,hp,
  ⟨NodM.zl,n0,n0,NodM.zk 0,by show(0:Int)≤0∧(0:Int)≤536870912;omega,NodM.zk 0,NodM.zk 0,NodM.z03,NodM.z03,NodM.z02,NodM.zk 0⟩,⟨n0,n0,n0,n0⟩,⟨n0,n0,n0,n0⟩,⟨Nat.zero_le _,fun w hw=>by cases hw⟩,.new _ _,Nat.zero_le _⟩
theorem nodFact_ok{n:NodM}{K:Nat}(h:n.ok K):(nodFact n).2.ok K:=by
 unfold nodFact;split
 ·exact⟨h.a,h.p,h.n,h.t,h.o,h.w,h.s,h.out⟩
 ·rename_i e he
  have h1:=fact_in he;exact NodM.ok.boot (n:={n with epoch:=e}) ⟨h.a,h.p,⟨h.n.left,h1,h.n.mask,h.n.clock,h.n.born,h.n.change,h.n.loads,h.n.role,h.n.want,h.n.resync,h.n.quiet⟩,h.t,h.o,h.w,h.s,h.out⟩ h1
/-- A node's parts, opened. -/
theorem parts_ok{D:Dev}{bl:Int}(hD:D.ok)(h1:openE D 0 1=0)(h2:drlE D 2 3 bl=0)(h3:(caOpen D 6 ((D.l.length:Int)- 6) 4 5 bl).1=0):
  NokP bl (openC D 0 1) (drlO D 2 3 bl.toNat) (caOpen D 6 ((D.l.length:Int)- 6) 4 5 bl).2.1 (caOpen D 6 ((D.l.length:Int)- 6) 4 5 bl).2.2∧1≤bl∧bl≤32:=by
 have hb:1≤bl∧bl≤32∧openE D 2 3=0:=by
  unfold drlE at h2;split at h2
  · cases h2
  · exact⟨by omega,by omega,h2⟩
 have hl:=caOpen_l (D:=D) (first:=6) (n:=(D.l.length:Int)- 6) (a:=4) (b:=5) (bl:=bl);have hd:=drlO_ok (n:=bl.toNat) hD (by omega) hb.2.2;refine⟨⟨by rw[hl];exact(openC_ok h1).1,?_,?_,⟨by rw[hl];exact hd.c,hd.n,hd.bits,caOpen_d hD⟩,caOpen_ok hD h3⟩,hb.1,hb.2.1⟩
 ·show((bl.toNat:Nat):Int)=bl;omega
 ·rw[caOpen_bl h3];omega
theorem nodOpen_ok{id serial:Int}{D:Dev}{bl lease patience:Int}(hD:D.ok)(h:(nodOpen id serial D bl lease patience).1=0):(nodOpen id serial D bl lease patience).2.ok 0:=by
 unfold nodOpen at h ⊢;split
 · rename_i ha;rw[if_pos ha]at h;cases h
 rename_i ha
 rw[if_neg ha]at h;split
 · rename_i h1;rw[if_pos h1]at h;exact absurd h h1
 rename_i h1
 rw[if_neg h1]at h;split
 · rename_i h2;rw[if_pos h2]at h;exact absurd h h2
 rename_i h2
 rw[if_neg h2]at h;split
 · rename_i h3;rw[if_pos h3]at h;exact absurd h h3
 rename_i h3
 obtain⟨hp,hb⟩:=parts_ok hD (Classical.not_not.1 h1) (Classical.not_not.1 h2) (Classical.not_not.1 h3);exact nodFact_ok (nodNew_ok ha hb hp)
structure ViewM where
 down:Bool
 lost:Bool
 epoch:Int
 role:Int
 mask:Int
 want:Int
 resync:Int
 waits:Int
 left:Int
 seq:Int
 acked:Int
 deriving DecidableEq
def ViewM.cells(v:ViewM):List Value:=[.bool v.down,.bool v.lost,iV v.epoch,iV v.role,iV v.mask,iV v.want,iV v.resync,iV v.waits,iV v.left,iV v.seq,iV v.acked]
def NodM.view(n:NodM):ViewM:=⟨n.down,n.lost,n.epoch,n.role,n.mask,n.want,n.resync,n.waits.length,n.left,n.s.last,n.s.acked⟩
theorem view_one(v:ViewM): ∀u∈v.cells,u.oneCell'=true:=by
 intro u hu;simp only[ViewM.cells,List.mem_cons,List.not_mem_nil,or_false]at hu;rcases hu with rfl|rfl|rfl|rfl|rfl|rfl|rfl|rfl|rfl|rfl|rfl<;>rfl
end Go.Sl