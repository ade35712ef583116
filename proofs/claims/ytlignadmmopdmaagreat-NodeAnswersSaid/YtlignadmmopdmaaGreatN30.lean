/- A part of the proof. -/
import Derived.Test.YtlignadmmopdmaaGreatUn
import Derived.Test.YtlignadmmopdmaaGreatN27
set_option linter.unusedVariables false
set_option linter.unusedSimpArgs false
set_option linter.constructorNameAsVariable false
namespace Go.Proofs
open _root_.Go.Proofs.Tryz
open Go Go.Sl
namespace W
set_option maxHeartbeats 4000000
theorem st2_none{n:NodM}{m:MsgM}(h:aget n.c.en m.block=none):n.stored2 m=n:=by unfold NodM.stored2;rw[h]
theorem st2_not{n:NodM}{m:MsgM}(h: ∀x,aget n.c.en m.block=some x→(n.down=true∨(n.writing m.block).isSome=true∨ ¬(x.ve=m.epoch∧x.vs=m.seq)∨x.dirty=false)):n.stored2 m=n:=by
 unfold NodM.stored2;split
 · rfl
 rename_i x hx
 rw[if_pos (h x hx)]
theorem st2_go{n:NodM}{m:MsgM}{x:EntM}{r:Int × CaM × Dev}(ha:aget n.c.en m.block=some x)(h1: ¬n.down=true)(h2:n.writing m.block=none)(h3:x.ve=m.epoch∧x.vs=m.seq)(h4:x.dirty=true)(hR:n.c.clean n.d m.block m.epoch m.seq=r):
   n.stored2 m=NodM.andThen (n.cOk r) fun n=>(n.cleanM m).reads:=by
 unfold NodM.stored2;rw[ha];dsimp only;rw[if_neg (by rw[h2,h4];simp_all),hR]
theorem st1_none{n:NodM}{m:MsgM}(h:NodM.writingAt n.waits m.block=none):n.stored1 m=n:=by unfold NodM.stored1;rw[writing_none h]
theorem st1_no{n:NodM}{m:MsgM}{i:Nat}{w:WaitM}(h:NodM.writingAt n.waits m.block=some i)(hw:n.waits[i]? =some w)(hs: ¬w.seq=m.seq):n.stored1 m=n:=by unfold NodM.stored1;rw[writing_some h hw];exact if_neg hs
theorem st1_yes{n:NodM}{m:MsgM}{i:Nat}{w:WaitM}(h:NodM.writingAt n.waits m.block=some i)(hw:n.waits[i]? =some w)(hs:w.seq=m.seq):n.stored1 m={n with waits:=n.waits.set i {w with stored:=true}}:=by
 unfold NodM.stored1;rw[writing_some h hw];show(if w.seq=m.seq then _ else _)=_;rw[if_pos hs,modW_some h,modify_set hw]
theorem nStored [Env]{R:List Seg}{F:NF}{V:NV}{n:NodM}{m:MsgM}(hn:n.ok 970000)(hV:NVok V n):
   Con Tryz.prog 110 [ptr F.p,.agg m.cells.toArray] (nodL F V n) R (KN F (n.stored m) (.tuple #[])):=by
 obtain⟨vo,vw,vp,vi,vl⟩:=V;have hwn:=hn.w.n;have hsw:svOk vw n.waits.length 7 (waitsV n.waits):=hV.sw;have hrd:RdV [waiS ⟨vo,vw,vp,vi,vl⟩ n] (svVal vw n.waits.length) n.waits.length (waitsV n.waits):=rdV_sv .z hsw;have hso:sO (svVal vw n.waits.length)=0:=by cases vw<;>rfl
 obtain⟨wp,hwp⟩: ∃z,NodM.writingAt n.waits m.block=z:=⟨_,rfl⟩;obtain⟨n1,hn1⟩: ∃z,n.stored1 m=z:=⟨_,rfl⟩;have hok1:n1.ok 970000:=hn1▸hn.stored1 m;refine con_enter func110 ntmps110 rfl rfl ?_;unfold nodL ndC;refine gc 1 ?_;refine ya (ac_box (vs:=m.cells) rfl rfl) rfl ?_;rintro v L' ⟨b3,rfl,rfl⟩;refine gy 2 ?_;refine cseqT ?_;intro K2 hK2
 have hJr4: ∀x:NV,(NVok x n1)→Sk 97 K2 ([(0,ptr F.p),(3,ptr b3)]) (sc b3 m.cells 34::nodL F x n1++R):=by
  rintro V1 hIr4;refine hK2 _ _ ?_;have hV1:=hIr4;refine gc 2 ?_;refine ycall (nSettle (V:=V1) (n:=n1) ?nok3 ?vok3) rfl call117 ztk rfl ?_
  case nok3=>exact hok1.le (by decide)
  case vok3=>exact hV1
  rintro v L' ⟨V27,rfl,vk27,rfl⟩;obtain⟨n2,hn2⟩: ∃z,n1.settle=z:=⟨_,rfl⟩;rw[hn2]at vk27 ⊢;have hok2:n2.ok 970050:=hn2▸hok1.settle;have hst:n.stored m=n2.stored2 m:=by unfold NodM.stored;rw[hn1,hn2]
  have hw2:=hok2.w.n;obtain⟨ox,hox⟩: ∃z,aget n2.c.en m.block=z:=⟨_,rfl⟩;obtain⟨wp2,hwp2⟩: ∃z,NodM.writingAt n2.waits m.block=z:=⟨_,rfl⟩;obtain⟨r,hR⟩: ∃z,n2.c.clean n2.d m.block m.epoch m.seq=z:=⟨_,rfl⟩;have hcd:CDone n2.c n2.d r:=by rw[←hR];exact clean_done hok2.p.c _ _ _
  unfold nodL ndC;refine gy 7 ?_;refine y (ev_bd ([i64 m.epoch,i64 m.seq])) rfl ?_;refine ya (ac_alloc zeroValue84 rfl) rfl ?_;rintro v L' ⟨b5,rfl,rfl⟩;refine yst (ac_storeAll rfl rfl (by simp[Value.oneCell']) sizeOf84 zrp (by rfl) (by rfl)) ?_;refine gy 3 ?_;refine cdrawN 12 (.op 0 0 (.op 1 0 (.op 2 0 (.op 3 1 (.op 4 0 (.op 5 1 (.fork 6 (.op 7 0 (.op 8 0 (.op 9 0 (.op 10 2 (.op 11 2 (.nil)))))) 10 (.op 6 2 (.op 7 0 (.op 8 0 (.op 9 0 (.op 11 2 (.nil))))))))))))) ([sc b3 _ 34,sc F.p _ 106,caP F.A n2.c,enS F.A n2.c]++R) Tryz.mixed (by kernel_rfl) zge ?_;refine nz rfl (ev_move rfl) rfl ?_;refine nz rfl (ev_nil rfl) rfl ?_;refine nz rfl (ev_fieldAddr 7 rfl underlying106 rfl sizeOf98) rfl ?_;refine nr rfl (ev_load rfl isAgg98 zin rfl) rfl ?_;refine nz rfl (ev_fieldAddr 4 rfl underlying34 rfl sizeOf3) rfl ?_;refine nr rfl (ev_load rfl isAgg3 zin rfl) rfl ?_;refine nfork ?_ ?_
  ·refine ncall rfl (kGet) rfl call153 ztk rfl ?_;rintro v L' ⟨rfl,rfl⟩;refine⟨zge,?_⟩;rw[hox];refine nz rfl (ev_move rfl) rfl ?_;refine nz rfl (ev_extract rfl rfl) rfl ?_;refine nz rfl (ev_extract rfl rfl) rfl ?_;refine na rfl (ac_alloc zeroValue127 rfl) rfl ?_;rintro v L' ⟨b6,rfl,rfl⟩;refine⟨zge,?_⟩;refine naN rfl (ac_storeN (vs':=EntM.cells (ox.getD .zero)) rfl rfl (entM_one _) sizeOf127 zrp rfl (by decide) rfl) ?_;rintro v L' ⟨rfl,rfl⟩;refine⟨zge,?_⟩;refine nnil ?_;refine gy 5 ?_;refine cdraw 36 (od [8,35] 36 0) ([sc b3 _ 34,sc F.p _ 106,sc b5 _ _,sc b6 _ _]++R) Tryz.mixed (by kernel_rfl) zge ?_;refine gh 5 ?_;refine hsp 47 rfl (fun h29=>?_) (fun h29=>?_)
   ·have hq:n2.stored2 m=n2:=st2_not (fun x hx=> .inl h29);refine gh 3 ?_;refine ha0 rfl rfl rfl rfl rfl zge ?_;rcases wp2 with _|i2
    ·refine gh 1 ?_;have hw2n:=writing_none hwp2;refine gh 25 ?_;refine ha0 rfl rfl rfl rfl rfl zge ?_;refine gh 9 ?_;refine kretv0 results110 (L1:=nodL F V27 n2++R) zge ?_;rw[hst,hq];exact⟨_,⟨V27,rfl,vk27,rfl⟩,rfl⟩
    refine gh 1 ?_;have hq:=hq;refine gh 25 ?_;refine ha0 rfl rfl rfl rfl rfl zge ?_;refine gh 9 ?_;refine kretv0 results110 (L1:=nodL F V27 n2++R) zge ?_;rw[hst,hq];exact⟨_,⟨V27,rfl,vk27,rfl⟩,rfl⟩
   have hdn: ¬n2.down=true:=by rw[h29];simp
   refine gh 3 ?_;refine hcall1 rfl rfl rfl (nWriting (V:=V27) (n:=n2) ?wok51 ?wl51) rfl call100 ztk rfl ?_
   case wok51=>exact vk27.sw
   case wl51=>omega
   rintro v L' ⟨rfl,rfl⟩;refine⟨zge,?_⟩;rw[wrP_eq hwp2];rcases wp2 with _|i2
   ·refine hr1 rfl rfl rfl (ev_neqPnil rfl rfl underlying183) rfl ?_;have hw2n:=writing_none hwp2;refine gh 6 ?_;refine hsp 58 rfl (fun h59=>?_) (fun h59=>?_)
    ·have hq:n2.stored2 m=n2:=st2_none (by rcases ox with _|ex;exact hox;simp_all);refine gh 19 ?_;refine ha0 rfl rfl rfl rfl rfl zge ?_;refine gh 9 ?_;refine kretv0 results110 (L1:=nodL F V27 n2++R) zge ?_;rw[hst,hq];exact⟨_,⟨V27,rfl,vk27,rfl⟩,rfl⟩
    obtain⟨ex,rfl⟩: ∃z,ox=some z:=by
      rcases ox with _|ex
      · simp_all
      exact⟨ex,rfl⟩
    refine gh 1 ?_;refine hr1 rfl rfl rfl (ev_loadN (u:=[i64 ex.ve,i64 ex.vs]) rfl isAgg84 sizeOf84 zin rfl rfl) rfl ?_;refine hr1 rfl rfl rfl (ev_loadN (u:=[i64 m.epoch,i64 m.seq]) rfl isAgg84 sizeOf84 zin rfl rfl) rfl ?_;refine hr1 rfl rfl rfl (ev_neqF (p:=ex.ve=m.epoch∧ex.vs=m.seq) (xs:=[i64 ex.ve,i64 ex.vs]) (ys:=[i64 m.epoch,i64 m.seq]) rfl rfl (by kernel_rfl) (by simp)) rfl ?_;refine gh 2 ?_;refine hsp 64 rfl (fun h71=>?_) (fun h71=>?_)
    ·have hq:n2.stored2 m=n2:=st2_not (fun x hx=> .inr (.inr (.inl (by rw[hox]at hx;cases hx;simpa using h71))));refine gh 13 ?_;refine ha0 rfl rfl rfl rfl rfl zge ?_;refine gh 9 ?_;refine kretv0 results110 (L1:=nodL F V27 n2++R) zge ?_;rw[hst,hq];exact⟨_,⟨V27,rfl,vk27,rfl⟩,rfl⟩
    have hvv:ex.ve=m.epoch∧ex.vs=m.seq:=by simpa using h71
    refine gh 5 ?_;refine hsp 69 rfl (fun h80=>?_) (fun h80=>?_)
    ·have hq:n2.stored2 m=n2:=st2_not (fun x hx=> .inr (.inr (.inr (by rw[hox]at hx;cases hx;simpa using h80))));refine gh 8 ?_;refine ha0 rfl rfl rfl rfl rfl zge ?_;refine gh 9 ?_;refine kretv0 results110 (L1:=nodL F V27 n2++R) zge ?_;rw[hst,hq];exact⟨_,⟨V27,rfl,vk27,rfl⟩,rfl⟩
    have hdy:ex.dirty=true:=by simpa using h80
    have hgo:=st2_go hox hdn hw2n hvv hdy hR;refine gh 7 ?_;refine hr1 rfl rfl rfl (ev_loadAll rfl isAgg84 sizeOf84 zin (by rfl)) rfl ?_;refine hcall1 rfl rfl rfl (kClean (C:=n2.c) (D:=n2.d) (b:=m.block) (e:=m.epoch) (s:=m.seq) ?cok90 ?its90) rfl call120 ztk rfl ?_
    case cok90=>exact hok2.p.c
    case its90=>exact vk27.sl
    rintro v L' ⟨sl78,rfl,ok78,rfl⟩;refine⟨zge,?_⟩;rw[hR]at ok78 ⊢;refine gh 1 ?_;refine ygo ?_;refine yci (nOk (V:={V27 with sl:=sl78}) (n:=n2.cDid r)) call121 ?_;refine gy 4 ?_;refine cc rfl (fun h94=>?_) (fun h94=>?_)
    ·have hq:n2.stored2 m=(n2.cDid r).err r.1:=hgo.trans (if_neg (by show¬decide (r.1=0)=true;simpa using h94));refine gc 2 ?_;refine kretv0 results110 (L1:=nodL F {V27 with sl:=sl78} ((n2.cDid r).err r.1)++R) zge ?_;rw[hst,hq];exact⟨_,⟨{V27 with sl:=sl78},rfl,⟨vk27.out,vk27.sw,vk27.si,ok78⟩,rfl⟩,rfl⟩
    have hgo2:n2.stored2 m=(((n2.cDid r).err r.1).cleanM m).reads:=hgo.trans (if_pos (by show decide (r.1=0)=true;simpa using h94));obtain⟨n3,hn3⟩: ∃z,(n2.cDid r).err r.1=z:=⟨_,rfl⟩;have hok3:n3.ok 970050:=hn3▸(hok2.cDid hcd).err _;have hV3:NVok {V27 with sl:=sl78} n3:=by rw[←hn3];exact⟨vk27.out,vk27.sw,vk27.si,ok78⟩
    rw[hn3]at hgo2;obtain⟨n4,hn4⟩: ∃z,n3.cleanM m=z:=⟨_,rfl⟩;have hok4:n4.ok 970051:=hn4▸hok3.cleanM m;rw[hn4]at hgo2;refine gc 2 ?_;refine cseqT ?_;intro K8 hK8
    have hJr10: ∀x:NV,(NVok x n4)→Sk 97 K8 ([(0,ptr F.p)]) (nodL F x n4++R):=by
     rintro V4 hIr10;refine hK8 _ _ ?_;have hV4:=hIr10;refine gc 2 ?_;refine ycall (nReads (V:=V4) (n:=n4) ?nok96 ?vok96) rfl call102 ztk rfl ?_
     case nok96=>exact hok4.le (by decide)
     case vok96=>exact hV4
     rintro v L' ⟨V96,rfl,vk96,rfl⟩;refine gy 1 ?_;refine kendv0 results110 (L1:=nodL F V96 n4.reads++R) zge ?_;rw[hst,hgo2];exact⟨_,⟨V96,rfl,vk96,rfl⟩,rfl⟩
    clear hK8;refine gc 2 ?_;refine yci (nMirrored (V:={V27 with sl:=sl78}) (n:=(n2.cDid r).err r.1)) call114 ?_;refine gy 2 ?_;refine cc rfl (fun h99=>?_) (fun h99=>?_)
    ·have hcm:n4=n3.send n3.peer {NodM.msg0 with kind:=9,epoch:=m.epoch,seq:=m.seq,block:=m.block}:=by rw[←hn4];unfold NodM.cleanM;rw[←hn3];exact if_pos h99
     refine cdraw 10 [(0,true),(1,true),(3,true),(4,true),(5,true),(6,true),(7,true),(8,true),(9,true),(2,false)] ([sc b3 _ 34,ndC F {V27 with sl:=sl78} ((n2.cDid r).err r.1)]++R) Tryz.mixed (by kernel_rfl) zge ?_;refine gh 8 ?_;refine hr rfl (ev_bd (MsgM.cells ⟨9,m.epoch,m.seq,0,m.block,-1,0,0,0,0,0,[],[]⟩)) rfl ?_;refine hcall rfl (nPeer (V:={V27 with sl:=sl78}) (n:=(n2.cDid r).err r.1) ?ni109) rfl call63 ztk rfl ?_
     case ni109=>exact hok2.a.id
     rintro v L' ⟨rfl,rfl⟩;refine⟨zge,?_⟩;refine gh 1 ?_;refine ycall (nSend (V:={V27 with sl:=sl78}) (n:=(n2.cDid r).err r.1) (m:=⟨9,m.epoch,m.seq,0,m.block,-1,0,0,0,0,0,[],[]⟩) ?ook110 ?ol110) rfl call67 ztk rfl ?_
     case ook110=>exact vk27.out
     case ol110=>have:=hok2.out;show n2.out.length≤1000000;omega
     rintro v L' ⟨o94,rfl,oko94,rfl⟩;refine gy 2 ?_;subst hcm;subst hn3;exact ksub zsub zge (hJr10 {V27 with sl:=sl78,out:=o94} ⟨oko94,vk27.sw,vk27.si,ok78⟩)
    have hcm:n4=n3:=by rw[←hn4];unfold NodM.cleanM;rw[←hn3];exact if_neg (by rw[h99];simp)
    refine gc 2 ?_;subst hcm;subst hn3;exact ksub zsub zge (hJr10 {V27 with sl:=sl78} hV3)
   refine hr1 rfl rfl rfl (ev_neqPnil rfl rfl underlying183) rfl ?_
   (have hq:n2.stored2 m=n2:=st2_not (fun x hx=> .inr (.inl (by obtain⟨w9,hw9,_⟩:=writingAt_get hwp2;rw[writing_some hwp2 hw9];rfl))))
   refine gh 25 ?_;refine ha0 rfl rfl rfl rfl rfl zge ?_;refine gh 9 ?_;refine kretv0 results110 (L1:=nodL F V27 n2++R) zge ?_;rw[hst,hq];exact⟨_,⟨V27,rfl,vk27,rfl⟩,rfl⟩
  refine na rfl (ac_alloc zeroValue127 rfl) rfl ?_;rintro v L' ⟨b6,rfl,rfl⟩;refine⟨zge,?_⟩;refine ncall rfl (kGet) rfl call153 ztk rfl ?_;rintro v L' ⟨rfl,rfl⟩;refine⟨zge,?_⟩;rw[hox];refine nz rfl (ev_move rfl) rfl ?_;refine nz rfl (ev_extract rfl rfl) rfl ?_;refine nz rfl (ev_extract rfl rfl) rfl ?_;refine naN rfl (ac_storeN (vs':=EntM.cells (ox.getD .zero)) rfl rfl (entM_one _) sizeOf127 zrp rfl (by decide) rfl) ?_;rintro v L' ⟨rfl,rfl⟩;refine⟨zge,?_⟩;refine nnil ?_;refine gy 5 ?_;refine cdraw 36 (od [8,35] 36 0) ([sc b3 _ 34,sc F.p _ 106,sc b5 _ _,sc b6 _ _]++R) Tryz.mixed (by kernel_rfl) zge ?_;refine gh 5 ?_;refine hsp 47 rfl (fun h133=>?_) (fun h133=>?_)
  ·have hq:n2.stored2 m=n2:=st2_not (fun x hx=> .inl h133);refine gh 3 ?_;refine ha0 rfl rfl rfl rfl rfl zge ?_;rcases wp2 with _|i2
   ·refine gh 1 ?_;have hw2n:=writing_none hwp2;refine gh 25 ?_;refine ha0 rfl rfl rfl rfl rfl zge ?_;refine gh 9 ?_;refine kretv0 results110 (L1:=nodL F V27 n2++R) zge ?_;rw[hst,hq];exact⟨_,⟨V27,rfl,vk27,rfl⟩,rfl⟩
   refine gh 1 ?_;have hq:=hq;refine gh 25 ?_;refine ha0 rfl rfl rfl rfl rfl zge ?_;refine gh 9 ?_;refine kretv0 results110 (L1:=nodL F V27 n2++R) zge ?_;rw[hst,hq];exact⟨_,⟨V27,rfl,vk27,rfl⟩,rfl⟩
  have hdn: ¬n2.down=true:=by rw[h133];simp
  refine gh 3 ?_;refine hcall1 rfl rfl rfl (nWriting (V:=V27) (n:=n2) ?wok155 ?wl155) rfl call100 ztk rfl ?_
  case wok155=>exact vk27.sw
  case wl155=>omega
  rintro v L' ⟨rfl,rfl⟩;refine⟨zge,?_⟩;rw[wrP_eq hwp2];rcases wp2 with _|i2
  ·refine hr1 rfl rfl rfl (ev_neqPnil rfl rfl underlying183) rfl ?_;have hw2n:=writing_none hwp2;refine gh 6 ?_;refine hsp 58 rfl (fun h163=>?_) (fun h163=>?_)
   ·have hq:n2.stored2 m=n2:=st2_none (by rcases ox with _|ex;exact hox;simp_all);refine gh 19 ?_;refine ha0 rfl rfl rfl rfl rfl zge ?_;refine gh 9 ?_;refine kretv0 results110 (L1:=nodL F V27 n2++R) zge ?_;rw[hst,hq];exact⟨_,⟨V27,rfl,vk27,rfl⟩,rfl⟩
   obtain⟨ex,rfl⟩: ∃z,ox=some z:=by
     rcases ox with _|ex
     · simp_all
     exact⟨ex,rfl⟩
   refine gh 1 ?_;refine hr1 rfl rfl rfl (ev_loadN (u:=[i64 ex.ve,i64 ex.vs]) rfl isAgg84 sizeOf84 zin rfl rfl) rfl ?_;refine hr1 rfl rfl rfl (ev_loadN (u:=[i64 m.epoch,i64 m.seq]) rfl isAgg84 sizeOf84 zin rfl rfl) rfl ?_;refine hr1 rfl rfl rfl (ev_neqF (p:=ex.ve=m.epoch∧ex.vs=m.seq) (xs:=[i64 ex.ve,i64 ex.vs]) (ys:=[i64 m.epoch,i64 m.seq]) rfl rfl (by kernel_rfl) (by simp)) rfl ?_;refine gh 2 ?_;refine hsp 64 rfl (fun h175=>?_) (fun h175=>?_)
   ·have hq:n2.stored2 m=n2:=st2_not (fun x hx=> .inr (.inr (.inl (by rw[hox]at hx;cases hx;simpa using h175))));refine gh 13 ?_;refine ha0 rfl rfl rfl rfl rfl zge ?_;refine gh 9 ?_;refine kretv0 results110 (L1:=nodL F V27 n2++R) zge ?_;rw[hst,hq];exact⟨_,⟨V27,rfl,vk27,rfl⟩,rfl⟩
   have hvv:ex.ve=m.epoch∧ex.vs=m.seq:=by simpa using h175
   refine gh 5 ?_;refine hsp 69 rfl (fun h184=>?_) (fun h184=>?_)
   ·have hq:n2.stored2 m=n2:=st2_not (fun x hx=> .inr (.inr (.inr (by rw[hox]at hx;cases hx;simpa using h184))));refine gh 8 ?_;refine ha0 rfl rfl rfl rfl rfl zge ?_;refine gh 9 ?_;refine kretv0 results110 (L1:=nodL F V27 n2++R) zge ?_;rw[hst,hq];exact⟨_,⟨V27,rfl,vk27,rfl⟩,rfl⟩
   have hdy:ex.dirty=true:=by simpa using h184
   have hgo:=st2_go hox hdn hw2n hvv hdy hR;refine gh 7 ?_;refine hr1 rfl rfl rfl (ev_loadAll rfl isAgg84 sizeOf84 zin (by rfl)) rfl ?_;refine hcall1 rfl rfl rfl (kClean (C:=n2.c) (D:=n2.d) (b:=m.block) (e:=m.epoch) (s:=m.seq) ?cok194 ?its194) rfl call120 ztk rfl ?_
   case cok194=>exact hok2.p.c
   case its194=>exact vk27.sl
   rintro v L' ⟨sl78,rfl,ok78,rfl⟩;refine⟨zge,?_⟩;rw[hR]at ok78 ⊢;refine gh 1 ?_;refine ygo ?_;refine yci (nOk (V:={V27 with sl:=sl78}) (n:=n2.cDid r)) call121 ?_;refine gy 4 ?_;refine cc rfl (fun h198=>?_) (fun h198=>?_)
   ·have hq:n2.stored2 m=(n2.cDid r).err r.1:=hgo.trans (if_neg (by show¬decide (r.1=0)=true;simpa using h198));refine gc 2 ?_;refine kretv0 results110 (L1:=nodL F {V27 with sl:=sl78} ((n2.cDid r).err r.1)++R) zge ?_;rw[hst,hq];exact⟨_,⟨{V27 with sl:=sl78},rfl,⟨vk27.out,vk27.sw,vk27.si,ok78⟩,rfl⟩,rfl⟩
   have hgo2:n2.stored2 m=(((n2.cDid r).err r.1).cleanM m).reads:=hgo.trans (if_pos (by show decide (r.1=0)=true;simpa using h198));obtain⟨n3,hn3⟩: ∃z,(n2.cDid r).err r.1=z:=⟨_,rfl⟩;have hok3:n3.ok 970050:=hn3▸(hok2.cDid hcd).err _;have hV3:NVok {V27 with sl:=sl78} n3:=by rw[←hn3];exact⟨vk27.out,vk27.sw,vk27.si,ok78⟩
   rw[hn3]at hgo2;obtain⟨n4,hn4⟩: ∃z,n3.cleanM m=z:=⟨_,rfl⟩;have hok4:n4.ok 970051:=hn4▸hok3.cleanM m;rw[hn4]at hgo2;refine gc 2 ?_;refine cseqT ?_;intro K12 hK12
   have hJr10: ∀x:NV,(NVok x n4)→Sk 97 K12 ([(0,ptr F.p)]) (nodL F x n4++R):=by
    rintro V4 hIr10;refine hK12 _ _ ?_;have hV4:=hIr10;refine gc 2 ?_;refine ycall (nReads (V:=V4) (n:=n4) ?nok200 ?vok200) rfl call102 ztk rfl ?_
    case nok200=>exact hok4.le (by decide)
    case vok200=>exact hV4
    rintro v L' ⟨V96,rfl,vk96,rfl⟩;refine gy 1 ?_;refine kendv0 results110 (L1:=nodL F V96 n4.reads++R) zge ?_;rw[hst,hgo2];exact⟨_,⟨V96,rfl,vk96,rfl⟩,rfl⟩
   clear hK12;refine gc 2 ?_;refine yci (nMirrored (V:={V27 with sl:=sl78}) (n:=(n2.cDid r).err r.1)) call114 ?_;refine gy 2 ?_;refine cc rfl (fun h203=>?_) (fun h203=>?_)
   ·have hcm:n4=n3.send n3.peer {NodM.msg0 with kind:=9,epoch:=m.epoch,seq:=m.seq,block:=m.block}:=by rw[←hn4];unfold NodM.cleanM;rw[←hn3];exact if_pos h203
    refine cdraw 10 [(0,true),(1,true),(3,true),(4,true),(5,true),(6,true),(7,true),(8,true),(9,true),(2,false)] ([sc b3 _ 34,ndC F {V27 with sl:=sl78} ((n2.cDid r).err r.1)]++R) Tryz.mixed (by kernel_rfl) zge ?_;refine gh 8 ?_;refine hr rfl (ev_bd (MsgM.cells ⟨9,m.epoch,m.seq,0,m.block,-1,0,0,0,0,0,[],[]⟩)) rfl ?_;refine hcall rfl (nPeer (V:={V27 with sl:=sl78}) (n:=(n2.cDid r).err r.1) ?ni213) rfl call63 ztk rfl ?_
    case ni213=>exact hok2.a.id
    rintro v L' ⟨rfl,rfl⟩;refine⟨zge,?_⟩;refine gh 1 ?_;refine ycall (nSend (V:={V27 with sl:=sl78}) (n:=(n2.cDid r).err r.1) (m:=⟨9,m.epoch,m.seq,0,m.block,-1,0,0,0,0,0,[],[]⟩) ?ook214 ?ol214) rfl call67 ztk rfl ?_
    case ook214=>exact vk27.out
    case ol214=>have:=hok2.out;show n2.out.length≤1000000;omega
    rintro v L' ⟨o94,rfl,oko94,rfl⟩;refine gy 2 ?_;subst hcm;subst hn3;exact ksub zsub zge (hJr10 {V27 with sl:=sl78,out:=o94} ⟨oko94,vk27.sw,vk27.si,ok78⟩)
   have hcm:n4=n3:=by rw[←hn4];unfold NodM.cleanM;rw[←hn3];exact if_neg (by rw[h203];simp)
   refine gc 2 ?_;subst hcm;subst hn3;exact ksub zsub zge (hJr10 {V27 with sl:=sl78} hV3)
  refine hr1 rfl rfl rfl (ev_neqPnil rfl rfl underlying183) rfl ?_
  (have hq:n2.stored2 m=n2:=st2_not (fun x hx=> .inr (.inl (by obtain⟨w9,hw9,_⟩:=writingAt_get hwp2;rw[writing_some hwp2 hw9];rfl))))
  refine gh 25 ?_;refine ha0 rfl rfl rfl rfl rfl zge ?_;refine gh 9 ?_;refine kretv0 results110 (L1:=nodL F V27 n2++R) zge ?_;rw[hst,hq];exact⟨_,⟨V27,rfl,vk27,rfl⟩,rfl⟩
 clear hK2;refine gc 4 ?_;refine yci (nWriting (V:=⟨vo,vw,vp,vi,vl⟩) (n:=n) ?wok228 ?wl228) call100 ?_
 case wok228=>exact hsw
 case wl228=>omega
 rw[wrP_eq hwp];refine gy 4 ?_;refine cdraw 10 (od [] 10 0) (_) Tryz.mixed (by kernel_rfl) .refl ?_;rcases wp with _|i
 ·refine gh 1 ?_;have hwnn:=st1_none hwp;refine hr rfl (ev_neqPnil rfl rfl underlying183) rfl ?_;refine gh 15 ?_;rw[hn1]at hwnn;subst hwnn;exact ksub zsub zge (hJr4 ⟨vo,vw,vp,vi,vl⟩ hV)
 refine gh 1 ?_;obtain⟨w,hwi,-,-⟩:=writingAt_get hwp;refine hr rfl (ev_neqPnil rfl rfl underlying183) rfl ?_;refine gh 4 ?_;refine hr1 rfl rfl rfl (ev_loadV (i*7+4) hrd zge rfl isAgg2 (by rw[hso];omega) (flV_at wait7 hwi rfl)) rfl ?_;refine gh 7 ?_;refine cc rfl (fun h245=>?_) (fun h245=>?_)
 ·have hs1:=st1_yes hwp hwi h245;rw[hn1]at hs1;have hil:=(List.getElem?_eq_some_iff.1 hwi).1;obtain⟨bw,cw,spw,rfl,hcw⟩:=sv_some hsw (by omega);unfold waiS;simp only[svSeg];obtain⟨ws,hws⟩: ∃z,n.waits.set i {w with stored:=true}=z:=⟨_,rfl⟩;have hwsl:ws.length=n.waits.length:=by rw[←hws];simp
  rw[hws]at hs1;refine gc 4 ?_;refine yst (ac_store (vs':=waitsV ws++spw) rfl rfl rfl sizeOf4 zrp (by rw[Nat.blt_eq,List.length_append,waitsV_len];show i*7+5<n.waits.length*7+spw.length;omega) (by rw[←hws];exact waits_set (w:=w) hwi rfl (by decide))) ?_;refine gy 2 ?_;have e4:ndC F ⟨vo,some (bw,cw,spw),vp,vi,vl⟩ n=ndC F ⟨vo,some (bw,cw,spw),vp,vi,vl⟩ {n with waits:=ws}:=by unfold ndC;dsimp only;rw[hwsl]
  rw[e4];subst hs1;exact ksub zsub zge (hJr4 ⟨vo,some (bw,cw,spw),vp,vi,vl⟩ ⟨hV.out,svOk_like hsw hwsl (by rw[waitsV_len,waitsV_len,hwsl]),hV.si,hV.sl⟩)
 have hs1:=st1_no hwp hwi h245;rw[hn1]at hs1;refine gc 2 ?_;subst hs1;exact ksub zsub zge (hJr4 ⟨vo,vw,vp,vi,vl⟩ hV)
theorem nBacked [Env]{R:List Seg}{F:NF}{V:NV}{n:NodM}{m:MsgM}{fr:Int}(hn:n.ok 970000)(hV:NVok V n):
   Con Tryz.prog 62 [ptr F.p,i64 fr,.agg m.cells.toArray] (nodL F V n) R (KN F (n.backed m) (.tuple #[])):=by
 refine con_enter func62 ntmps62 rfl rfl ?_;unfold nodL ndC;refine gc 1 ?_;refine ya (ac_box (vs:=m.cells) rfl rfl) rfl ?_;rintro v L' ⟨b5,rfl,rfl⟩;refine gy 4 ?_;refine cdraw 15 (od [] 15 0) (_) Tryz.mixed (by kernel_rfl) .refl ?_;refine gh 8 ?_;refine hsp 14 rfl (fun h10=>?_) (fun h10=>?_)
 ·refine gh 14 ?_;refine kendv0 results62 (L1:=nodL F V n++R) zge ?_;rw[show n.backed m=n from by(unfold NodM.backed;simp_all)];exact⟨_,⟨V,rfl,hV,rfl⟩,rfl⟩
 refine gh 11 ?_;refine cc rfl (fun h21=>?_) (fun h21=>?_)
 ·refine gc 2 ?_;refine kendv0 results62 (L1:=nodL F V n++R) zge ?_;rw[show n.backed m=n from by(unfold NodM.backed;simp_all)];exact⟨_,⟨V,rfl,hV,rfl⟩,rfl⟩
 refine gc 7 ?_;refine cc rfl (fun h26=>?_) (fun h26=>?_)
 ·refine gc 2 ?_;refine ycall (nDemote (V:=V) (n:=n)) rfl call106 ztk rfl ?_;rintro v L' ⟨p27,rfl,rfl⟩;refine gy 2 ?_;refine kendv0 results62 (L1:=nodL F (V.bare p27) n.demote++R) zge ?_;rw[show n.backed m=n.demote from by unfold NodM.backed;simp_all];exact⟨_,⟨V.bare p27,rfl,⟨hV.out,⟨rfl,rfl⟩,⟨rfl,rfl⟩,hV.sl⟩,rfl⟩,rfl⟩
 refine gc 7 ?_;refine cc rfl (fun h33=>?_) (fun h33=>?_)
 ·refine gc 2 ?_;refine kendv0 results62 (L1:=nodL F V n++R) zge ?_;rw[show n.backed m=n from by(unfold NodM.backed;simp_all)];exact⟨_,⟨V,rfl,hV,rfl⟩,rfl⟩
 refine gc 5 ?_;refine ysp 36 rfl (fun h38=>?_) (fun h38=>?_)
 ·refine gy 8 ?_;refine ysp 44 rfl (fun h47=>?_) (fun h47=>?_)
  ·refine gy 7 ?_;refine cc rfl (fun h53=>?_) (fun h53=>?_)
   ·refine gc 3 ?_;refine y (ev_loadN (u:=t4V (NodM.tOf m)) rfl isAgg32 sizeOf32 zin rfl rfl) rfl ?_;refine ycall (nRecover (V:=V) (n:=n) (t:=NodM.tOf m) ?nok57 ?vok57) rfl call108 ztk rfl ?_
    case nok57=>exact hn
    case vok57=>exact hV
    rintro v L' ⟨V52,rfl,vk52,rfl⟩;refine gy 2 ?_;refine kendv0 results62 (L1:=nodL F V52 (n.recover (NodM.tOf m))++R) zge ?_;rw[show n.backed m=n.recover (NodM.tOf m)from by unfold NodM.backed;simp_all];exact⟨_,⟨V52,rfl,vk52,rfl⟩,rfl⟩
   refine gc 7 ?_;refine cc rfl (fun h62=>?_) (fun h62=>?_)
   ·refine gc 2 ?_;refine y (ev_loadAll rfl isAgg34 sizeOf34 zin (by rfl)) rfl ?_;refine ycall (nLoaded (V:=V) (n:=n) (m:=m) ?nok65 ?vok65) rfl call109 ztk rfl ?_
    case nok65=>exact hn.le (by decide)
    case vok65=>exact hV
    rintro v L' ⟨V59,rfl,vk59,rfl⟩;refine gy 2 ?_;refine kendv0 results62 (L1:=nodL F V59 (n.loaded m)++R) zge ?_;rw[show n.backed m=n.loaded m from by unfold NodM.backed;simp_all];exact⟨_,⟨V59,rfl,vk59,rfl⟩,rfl⟩
   refine gc 5 ?_;refine ysp 64 rfl (fun h70=>?_) (fun h70=>?_)
   ·refine gy 8 ?_;refine ysp 72 rfl (fun h79=>?_) (fun h79=>?_)
    ·refine gy 7 ?_;refine cc rfl (fun h85=>?_) (fun h85=>?_)
     ·refine gc 2 ?_;refine y (ev_loadAll rfl isAgg34 sizeOf34 zin (by rfl)) rfl ?_;refine ycall (nStored (V:=V) (n:=n) (m:=m) ?nok88 ?vok88) rfl call110 ztk rfl ?_
      case nok88=>exact hn
      case vok88=>exact hV
      rintro v L' ⟨V79,rfl,vk79,rfl⟩;refine gy 2 ?_;exfalso;omega
     refine gc 2 ?_;exfalso;omega
    refine gy 10 ?_;exfalso;omega
   refine gy 18 ?_;exfalso;omega
  refine gy 15 ?_;refine cc rfl (fun h101=>?_) (fun h101=>?_)
  ·refine gc 2 ?_;refine y (ev_loadAll rfl isAgg34 sizeOf34 zin (by rfl)) rfl ?_;refine ycall (nLoaded (V:=V) (n:=n) (m:=m) ?nok104 ?vok104) rfl call109 ztk rfl ?_
   case nok104=>exact hn.le (by decide)
   case vok104=>exact hV
   rintro v L' ⟨V59,rfl,vk59,rfl⟩;refine gy 2 ?_;refine kendv0 results62 (L1:=nodL F V59 (n.loaded m)++R) zge ?_;rw[show n.backed m=n.loaded m from by unfold NodM.backed;simp_all];exact⟨_,⟨V59,rfl,vk59,rfl⟩,rfl⟩
  refine gc 5 ?_;refine ysp 64 rfl (fun h109=>?_) (fun h109=>?_)
  ·refine gy 8 ?_;refine ysp 72 rfl (fun h118=>?_) (fun h118=>?_)
   ·refine gy 7 ?_;refine cc rfl (fun h124=>?_) (fun h124=>?_)
    ·refine gc 2 ?_;refine y (ev_loadAll rfl isAgg34 sizeOf34 zin (by rfl)) rfl ?_;refine ycall (nStored (V:=V) (n:=n) (m:=m) ?nok127 ?vok127) rfl call110 ztk rfl ?_
     case nok127=>exact hn
     case vok127=>exact hV
     rintro v L' ⟨V79,rfl,vk79,rfl⟩;refine gy 2 ?_;exfalso;omega
    refine gc 2 ?_;exfalso;omega
   refine gy 10 ?_;exfalso;omega
  refine gy 18 ?_;exfalso;omega
 refine gy 23 ?_;refine cc rfl (fun h142=>?_) (fun h142=>?_)
 ·refine gc 2 ?_;refine y (ev_loadAll rfl isAgg34 sizeOf34 zin (by rfl)) rfl ?_;refine ycall (nLoaded (V:=V) (n:=n) (m:=m) ?nok145 ?vok145) rfl call109 ztk rfl ?_
  case nok145=>exact hn.le (by decide)
  case vok145=>exact hV
  rintro v L' ⟨V59,rfl,vk59,rfl⟩;refine gy 2 ?_;exfalso;omega
 refine gc 5 ?_;refine ysp 64 rfl (fun h150=>?_) (fun h150=>?_)
 ·refine gy 8 ?_;refine ysp 72 rfl (fun h159=>?_) (fun h159=>?_)
  ·refine gy 7 ?_;refine cc rfl (fun h165=>?_) (fun h165=>?_)
   ·refine gc 2 ?_;refine y (ev_loadAll rfl isAgg34 sizeOf34 zin (by rfl)) rfl ?_;refine ycall (nStored (V:=V) (n:=n) (m:=m) ?nok168 ?vok168) rfl call110 ztk rfl ?_
    case nok168=>exact hn
    case vok168=>exact hV
    rintro v L' ⟨V79,rfl,vk79,rfl⟩;refine gy 2 ?_;refine kendv0 results62 (L1:=nodL F V79 (n.stored m)++R) zge ?_;rw[show n.backed m=n.stored m from by unfold NodM.backed;simp_all];exact⟨_,⟨V79,rfl,vk79,rfl⟩,rfl⟩
   refine gc 2 ?_;refine kendv0 results62 (L1:=nodL F V n++R) zge ?_;rw[show n.backed m=n from by(unfold NodM.backed;simp_all;intros;omega)];exact⟨_,⟨V,rfl,hV,rfl⟩,rfl⟩
  refine gy 10 ?_;refine kendv0 results62 (L1:=nodL F V n++R) zge ?_;rw[show n.backed m=n from by(unfold NodM.backed;simp_all;intros;omega)];exact⟨_,⟨V,rfl,hV,rfl⟩,rfl⟩
 refine gy 18 ?_;refine kendv0 results62 (L1:=nodL F V n++R) zge ?_;rw[show n.backed m=n from by(unfold NodM.backed;simp_all)];exact⟨_,⟨V,rfl,hV,rfl⟩,rfl⟩
theorem find_go{α:Type}{p:α→Bool}{l:List α}{k:Nat}{x:α}(h:(l.take k).find? p=none)(hx:l[k]? =some x)(hp:p x=false):(l.take (k+1)).find? p=none:=by
 rw[take_snoc hx,List.find?_append,h];simp[hp]
theorem find_at{α:Type}{p:α→Bool}{l:List α}{k:Nat}{x:α}(h:(l.take k).find? p=none)(hx:l[k]? =some x)(hp:p x=true):l.find? p=some x:=by
 obtain⟨h1,h2⟩:=List.getElem?_eq_some_iff.1 hx;rw[←List.take_append_drop k l,List.find?_append,h,List.drop_eq_getElem_cons h1,h2];simp[hp]
theorem nTwice [Env]{R:List Seg}{F:NF}{V:NV}{n:NodM}{w:WaitM}(hn:n.ok 980000)(hV:NVok V n)(hc:0≤w.cl∧w.cl≤3):
   Con Tryz.prog 99 [ptr F.p,waV w] (nodL F V n) R (KN F (n.twice w) (.tuple #[])):=by
 have hbl:=hn.p.bl;have hblk:=hn.a.blocks;have hall:=NodM.all_ok hn;have hlen:=NodM.all_len hn;have hwn:=hn.w.n;have hon:=hn.out;have hrdw:RdV [waiS V n] (svVal V.sw n.waits.length) n.waits.length (waitsV n.waits):=rdV_sv .z hV.sw;refine con_enter func99 ntmps99 rfl rfl ?_;unfold nodL ndC;refine gc 1 ?_;refine ya (ac_box (vs:=w.cells) rfl rfl) rfl ?_;rintro v L' ⟨b3,rfl,rfl⟩;refine gy 2 ?_;refine cseqT ?_;intro K2 hK2;refine gc 5 ?_;refine ycall (kAll ?bl6) rfl call59 ztk rfl ?_
 case bl6=>omega
 rintro v L' ⟨s10,rfl,ok10,rfl⟩;have hrd:RdV [svSeg s10 127 (entsV n.c.all)] (svVal s10 n.c.all.length) n.c.all.length (entsV n.c.all):=rdV_sv .z ok10;refine y (ev_lenSv rfl underlying61 (by assumption)) rfl ?_;refine gy 3 ?_
 have hJ1: ∀x:Nat,((x≤n.c.all.length∧(n.c.all.take x).find? (n.twice1 w)=none)∧(x=n.c.all.length))→Sk 89 K2 ([(12,i64 x),(11,i64 n.c.all.length),(10,svVal s10 n.c.all.length),(0,ptr F.p),(3,ptr b3)]) (svSeg s10 127 (entsV n.c.all)::sc b3 w.cells 177::nodL F V n++R):=by
  rintro k ⟨hI1,hX1⟩;refine hK2 _ _ ?_;obtain⟨hk,hno⟩:=hI1;unfold nodL ndC;have hno2:n.c.all.find? (n.twice1 w)=none:=by rw[hX1,List.take_length]at hno;exact hno
  have htw:n.twice w=n.answer w 0 []:=by unfold NodM.twice;rw[hno2]
  refine gc 2 ?_;refine y (ev_loadAll rfl isAgg177 sizeOf177 zin (by rfl)) rfl ?_;refine ycall (nAnswer (V:=V) (n:=n) (w:=w) (data:=[]) ?oc11 ?ook11 ?ol11) rfl call101 ztk rfl ?_
  case oc11=>exact hc
  case ook11=>exact hV.out
  case ol11=>show n.out.length≤1000000;omega
  rintro v L' ⟨o88,rfl,oko88,rfl⟩;refine gy 1 ?_;refine kendv0 results99 (L1:=nodL F {V with out:=o88} (n.answer w 0 [])++R) zge ?_;rw[htw];exact⟨_,⟨{V with out:=o88},rfl,⟨oko88,hV.sw,hV.si,hV.sl⟩,rfl⟩,rfl⟩
 clear hK2;refine gc 1 ?_;refine cloopT (A:=Nat) (fun x=>[(12,i64 x),(11,i64 n.c.all.length),(10,svVal s10 n.c.all.length),(0,ptr F.p),(3,ptr b3)]) (fun x=>svSeg s10 127 (entsV n.c.all)::sc b3 w.cells 177::nodL F V n++R) (fun x=>x≤n.c.all.length∧(n.c.all.take x).find? (n.twice1 w)=none) (fun x=>n.c.all.length-x) (0) ?_ zsub zge ?_
 · exact⟨Nat.zero_le _,rfl⟩
 rintro k hI1 KL1 hL1;have hI1o:=hI1;obtain⟨hk,hno⟩:=hI1;unfold nodL ndC;refine gc 5 ?_;refine cc rfl (fun h13=>?_) (fun h13=>?_)
 ·refine gc 5 ?_;obtain⟨x,hx⟩: ∃x,n.c.all[k]? =some x:=⟨_,List.getElem?_eq_getElem (by omega)⟩;have hxo:=hall x (List.mem_of_getElem? hx);obtain⟨wp,hwp⟩: ∃z,NodM.writingAt n.waits x.blk=z:=⟨_,rfl⟩;refine y (ev_ixV hrd rfl rfl underlying61 sizeOf127 (by omega) (by omega)) rfl ?_;refine y (ev_loadNV (us:=x.cells) (k*7) hrd zge rfl isAgg127 sizeOf127 (by simp) (entsV_get hx) rfl) rfl ?_;refine ya (ac_alloc zeroValue127 rfl) rfl ?_;rintro v L' ⟨b5,rfl,rfl⟩;refine yst (ac_storeN (vs':=x.cells) rfl rfl (entM_one x) sizeOf127 zrp rfl (by decide) rfl) ?_;refine gy 5 ?_;refine yci (nAlone (V:=V) (n:=n)) call118 ?_;refine gy 2 ?_;refine ysp 19 rfl (fun h22=>?_) (fun h22=>?_)
  ·refine gy 26 ?_;have hpf:n.twice1 w x=false:=by(unfold NodM.twice1;simp_all)
   refine gy 1 ?_;rw[show IntKind.i64.wrap ((k:Int)+1)=((k+1:Nat):Int)by rw[wr (by omega) (by omega)];rfl];refine gy 3 ?_;exact hL1 (k+1) (⟨by omega,find_go hno hx hpf⟩) (by omega) _ _ zsub zge
  refine gy 5 ?_;refine ysp 24 rfl (fun h35=>?_) (fun h35=>?_)
  ·refine gy 21 ?_;have hpf:n.twice1 w x=false:=by(unfold NodM.twice1;simp_all)
   refine gy 1 ?_;rw[show IntKind.i64.wrap ((k:Int)+1)=((k+1:Nat):Int)by rw[wr (by omega) (by omega)];rfl];refine gy 3 ?_;exact hL1 (k+1) (⟨by omega,find_go hno hx hpf⟩) (by omega) _ _ zsub zge
  refine gy 7 ?_;refine ysp 31 rfl (fun h48=>?_) (fun h48=>?_)
  ·refine gy 14 ?_;have hpf:n.twice1 w x=false:=by(unfold NodM.twice1;simp_all)
   refine gy 1 ?_;rw[show IntKind.i64.wrap ((k:Int)+1)=((k+1:Nat):Int)by rw[wr (by omega) (by omega)];rfl];refine gy 3 ?_;exact hL1 (k+1) (⟨by omega,find_go hno hx hpf⟩) (by omega) _ _ zsub zge
  refine gy 8 ?_;refine cc rfl (fun h58=>?_) (fun h58=>?_)
  ·refine gc 5 ?_;have hpf:n.twice1 w x=false:=by(unfold NodM.twice1;simp_all)
   refine gy 1 ?_;rw[show IntKind.i64.wrap ((k:Int)+1)=((k+1:Nat):Int)by rw[wr (by omega) (by omega)];rfl];refine gy 3 ?_;exact hL1 (k+1) (⟨by omega,find_go hno hx hpf⟩) (by omega) _ _ zsub zge
  refine gc 4 ?_;have hpt:n.twice1 w x=true:=by unfold NodM.twice1;simp_all
  have hfi:=find_at hno hx hpt;refine gy 3 ?_;refine yci (nWriting (V:=V) (n:=n) ?wok64 ?wl64) call100 ?_
  case wok64=>exact hV.sw
  case wl64=>omega
  rw[wrP_eq hwp];rcases wp with _|i
  ·refine y (ev_neqPnil rfl rfl underlying183) rfl ?_;have hw2n:=writing_none hwp;refine gy 6 ?_;refine ygo ?_;refine y (ev_lenV rfl underlying101 (RdV.lenVal (by assumption))) rfl ?_;refine gy 4 ?_;refine cc rfl (fun h75=>?_) (fun h75=>?_)
   ·have htb:n.twice w=n.answer w 25 []:=by unfold NodM.twice;rw[hfi];dsimp only;rw[if_pos (.inr (by omega))]
    refine gc 2 ?_;refine y (ev_loadAll rfl isAgg177 sizeOf177 zin (by rfl)) rfl ?_;refine ycall (nAnswer (V:=V) (n:=n) (w:=w) (data:=[]) ?oc78 ?ook78 ?ol78) rfl call101 ztk rfl ?_
    case oc78=>exact hc
    case ook78=>exact hV.out
    case ol78=>show n.out.length≤1000000;omega
    rintro v L' ⟨o54,rfl,oko54,rfl⟩;refine gy 9 ?_;refine kretv0 results99 (L1:=nodL F {V with out:=o54} (n.answer w 25 [])++R) zge ?_;rw[htb];exact⟨_,⟨{V with out:=o54},rfl,⟨oko54,hV.sw,hV.si,hV.sl⟩,rfl⟩,rfl⟩
   let w2:WaitM:={w with op:=2,blk:=x.blk,seq:=x.vs};have htg:n.twice w=(n.addW w2).twice2 w2 x:=by unfold NodM.twice;rw[hfi];dsimp only;rw[if_neg (by rw[hw2n];simp;omega)];rfl
   refine gc 3 ?_;refine cdraw 10 (od [6,8] 10 0) ([sc b5 _ 127]++R) Tryz.mixed (by kernel_rfl) zge ?_;refine gh 6 ?_;refine haN rfl (ac_store rfl rfl (by rfl) sizeOf3 zrp rfl rfl) ?_;rintro v L' ⟨rfl,rfl⟩;refine⟨zge,?_⟩;refine gh 1 ?_;refine haN rfl (ac_store rfl rfl (by rfl) sizeOf3 zrp rfl rfl) ?_;rintro v L' ⟨rfl,rfl⟩;refine⟨zge,?_⟩;refine gh 2 ?_;refine yst (ac_store rfl rfl (by rfl) sizeOf2 zrp rfl rfl) ?_;refine gy 3 ?_;refine cdraw 12 (od [7,8] 12 0) ([sc b3 _ 177,sc F.p _ 106]++R) Tryz.mixed (by kernel_rfl) zge ?_;refine gh 6 ?_;refine hr rfl (ev_loadAll rfl isAgg177 sizeOf177 zin (by rfl)) rfl ?_;refine ha rfl (ac_bsliceR rfl underlying101 sizeOf177 zeroValue177 rfl rfl rfl rfl ⟨⟨_,_,rfl,(by rfl),(by decide)⟩,trivial⟩ (by dsimp[fillL,splice,vcells,reps]<;>rfl)) rfl ?_;rintro v L' ⟨b70,rfl,rfl⟩;refine⟨zge,?_⟩;refine ha rfl (ac_append (s:=V.sw) (xs:=waitsV n.waits) (m:=n.waits.length) (k:=1) (us:=w2.cells) (size:=7) rfl rfl (by repeat first|exact .z|apply Pk.s) underlying101 underlying101 (by intro q hq;cases hq) typeInfo177 rfl rfl rfl ?ok98 ?src98 ?one98 ?big98) rfl ?_
   case ok98=>exact hV.sw
   case src98=>exact src_at zin rfl rfl
   case one98=>exact wait_one _
   case big98=>show(_+_)*57≤_;omega
   rintro v L' ⟨s71,rfl,ok71,rfl⟩;refine⟨zge,?_⟩;rw[←waitsV_snoc,show n.waits.length+1=(n.waits++[w2]).length by simp]at ok71 ⊢;refine gh 4 ?_;refine yst (ac_store rfl rfl (by exact svVal_one _ _) sizeOf101 zrp rfl rfl) ?_;refine gy 5 ?_;refine y (ev_loadAll rfl isAgg177 sizeOf177 zin (by rfl)) rfl ?_;refine yci (nMay (V:={V with sw:=s71}) (n:=n.addW w2) (w:=w2)) call151 ?_;refine gy 2 ?_;refine cc rfl (fun h106=>?_) (fun h106=>?_)
   ·have htt:n.twice w=(n.addW w2).store x w.cl w.n:=htg.trans (if_pos h106);refine gc 2 ?_;refine y (ev_loadAll rfl isAgg127 sizeOf127 zin (by rfl)) rfl ?_;refine gy 4 ?_;refine ycall (nStore (V:={V with sw:=s71}) (n:=n.addW w2) (x:=x) ?ook113 ?ol113) rfl call152 ztk rfl ?_
    case ook113=>exact hV.out
    case ol113=>show n.out.length≤1000000;omega
    rintro v L' ⟨o84,rfl,oko84,rfl⟩;refine gy 8 ?_;refine kretv0 results99 (L1:=nodL F {V with sw:=s71,out:=o84} ((n.addW w2).store x w.cl w.n)++R) zge ?_;rw[htt];exact⟨_,⟨{V with sw:=s71,out:=o84},rfl,⟨oko84,ok71,hV.si,hV.sl⟩,rfl⟩,rfl⟩
   have htt:n.twice w=n.addW w2:=htg.trans (if_neg (by rw[h106];simp));refine gc 8 ?_;refine kretv0 results99 (L1:=nodL F {V with sw:=s71} (n.addW w2)++R) zge ?_;rw[htt];exact⟨_,⟨{V with sw:=s71},rfl,⟨hV.out,ok71,hV.si,hV.sl⟩,rfl⟩,rfl⟩
  refine y (ev_neqPnil rfl rfl underlying183) rfl ?_
  (have htb:n.twice w=n.answer w 25 []:=by unfold NodM.twice;rw[hfi];dsimp only;obtain⟨w9,hw9,_⟩:=writingAt_get hwp;rw[writing_some hwp hw9,if_pos (.inl rfl)])
  refine gy 14 ?_;refine y (ev_loadAll rfl isAgg177 sizeOf177 zin (by rfl)) rfl ?_;refine ycall (nAnswer (V:=V) (n:=n) (w:=w) (data:=[]) ?oc119 ?ook119 ?ol119) rfl call101 ztk rfl ?_
  case oc119=>exact hc
  case ook119=>exact hV.out
  case ol119=>show n.out.length≤1000000;omega
  rintro v L' ⟨o54,rfl,oko54,rfl⟩;refine gy 9 ?_;refine kretv0 results99 (L1:=nodL F {V with out:=o54} (n.answer w 25 [])++R) zge ?_;rw[htb];exact⟨_,⟨{V with out:=o54},rfl,⟨oko54,hV.sw,hV.si,hV.sl⟩,rfl⟩,rfl⟩
 refine gc 5 ?_;exact ksub zsub zge (hJ1 k ⟨hI1o,by omega⟩)
end W
end Go.Proofs