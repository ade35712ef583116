/- A part of the proof. -/
import Derived.Test.YtlignadmmopdmaaGreatUn
import Derived.Test.YtlignadmmopdmaaGreatN5
set_option linter.unusedVariables false
set_option linter.unusedSimpArgs false
set_option linter.constructorNameAsVariable false
namespace Go.Proofs
open _root_.Go.Proofs.Tryz
open Go Go.Sl
namespace W
set_option maxHeartbeats 1000000
theorem nTable [Env]{R:List Seg}{F:NF}{V:NV}{n:NodM}:Con Tryz.prog 169 [ptr F.p] [ndC F V n,caP F.A n.c] R (Is (.agg (t4V n.table).toArray) [ndC F V n,caP F.A n.c]):=by
 refine con_enter func169 ntmps169 rfl rfl ?_;unfold ndC;refine gc 1 ?_;refine ya (ac_alloc zeroValue32 rfl) rfl ?_;rintro v L' ⟨b2,rfl,rfl⟩;refine gy 2 ?_;refine cseqT ?_;intro K2 hK2;refine gc 4 ?_
 have hJ1: ∀x:Nat,((x≤4)∧(x=4))→Sk 17 K2 ([(4,i64 x),(2,ptr b2),(0,ptr F.p)]) ([sc b2 (tabV n.c.k x) 32,ndC F V n,caP F.A n.c]++R):=by
  rintro k ⟨hI1,hX1⟩;refine hK2 _ _ ?_;have hk:=hI1;unfold ndC;subst hX1;refine gc 1 ?_;refine y (ev_loadN (u:=t4V n.table) rfl isAgg32 sizeOf32 zin rfl rfl) rfl ?_;refine yst (ac_storeN (vs':=t4V n.table) rfl rfl (by simp[Value.oneCell']) sizeOf32 zrp rfl (by simp[tabV]) rfl) ?_;refine gy 3 ?_;refine kretc results169 rfl isAgg32 sizeOf32 zin (rfl) (L1:=[ndC F V n,caP F.A n.c]++R) zge ?_;exact⟨_,⟨by rfl,rfl⟩,by rfl⟩
 clear hK2;refine gc 1 ?_;refine cloopT (A:=Nat) (fun x=>[(4,i64 x),(2,ptr b2),(0,ptr F.p)]) (fun x=>[sc b2 (tabV n.c.k x) 32,ndC F V n,caP F.A n.c]++R) (fun x=>x≤4) (fun x=>4-x) (0) ?_ zsub zge ?_
 · exact Nat.zero_le _
 rintro k hI1 KL1 hL1;have hI1o:=hI1;have hk:=hI1;unfold ndC;refine gc 5 ?_;refine cc rfl (fun h6=>?_) (fun h6=>?_)
 ·have hk4:k<4:=by omega
  refine gc 16 ?_;refine yci (kNumber) call98 ?_;refine y (ev_ixAddrA rfl rfl underlying32 sizeOf2 (by omega) (by omega)) rfl ?_;refine yst (ac_store (vs':=tabV n.c.k (k+1)) rfl rfl rfl sizeOf2 zrp (by simp[tabV];omega) (by rw[show 0+(k:Int).toNat*1=k by simp];exact tabV_set hk4)) ?_;refine gy 5 ?_;rw[show IntKind.i64.wrap ((k:Int)+1)=((k+1:Nat):Int)by rw[wr (by omega) (by omega)];rfl];refine gy 3 ?_;exact hL1 (k+1) (by omega) (by omega) _ _ zsub zge
 refine gc 5 ?_;exact ksub zsub zge (hJ1 k ⟨hI1o,by omega⟩)
theorem nLeads [Env]{R:List Seg}{F:NF}{V:NV}{n:NodM}:Con Tryz.prog 180 [ptr F.p] [ndC F V n,caP F.A n.c] R (Is (.tuple #[]) [ndC F V n.leads,caP F.A n.c]):=by
 refine con_enter func180 ntmps180 rfl rfl ?_;refine gc 4 ?_;refine yci (nTable) call169 ?_;unfold ndC;refine gy 3 ?_;refine yst (ac_store rfl rfl (by rfl) sizeOf3 zrp rfl rfl) ?_;refine gy 2 ?_;refine yst (ac_storeN (us:=t4V n.table) (vs':=[i64 n.id,i64 n.serial,i64 n.lease,i64 n.patience,i64 n.blocks,ptr F.pf,ptr F.pl,ptr F.A.p,i64 n.left,.bool n.down,.bool n.lost,i64 n.epoch,i64 n.mask,i64 n.clock,i64 n.born,i64 n.change,i64 n.table.a,i64 n.table.b,i64 n.table.c,i64 n.table.d,i64 n.noted.a,i64 n.noted.b,i64 n.noted.c,i64 n.noted.d,i64 n.loads,svVal V.out n.out.length,i64 3,i64 n.want,i64 n.resync,i64 n.quiet,svVal V.sw n.waits.length,ptr V.ps]) rfl rfl (by simp[Value.oneCell']) sizeOf32 zrp rfl (by simp) rfl) ?_;refine gy 1 ?_;refine kendv0 results180 (L1:=[sc F.p _ 106,caP F.A n.c]++R) zge ?_;exact⟨_,⟨rfl,rfl⟩,rfl⟩
theorem nMore [Env]{R:List Seg}{F:NF}{V:NV}{n:NodM}{t:T4}:Con Tryz.prog 165 [ptr F.p,.agg (t4V t).toArray] [ndC F V n,caP F.A n.c] R (Is (.bool (n.more t)) [ndC F V n,caP F.A n.c]):=by
 refine con_enter func165 ntmps165 rfl rfl ?_;unfold ndC;refine gc 1 ?_;refine ya (ac_box (vs:=t4V t) rfl rfl) rfl ?_;rintro v L' ⟨b3,rfl,rfl⟩;refine gy 3 ?_;refine cseqT ?_;intro K2 hK2;refine gc 1 ?_;refine y (ev_loadN (u:=t4V t) rfl isAgg32 sizeOf32 zin rfl rfl) rfl ?_;refine gy 3 ?_
 have hJ1: ∀x:Nat,((x≤4∧noM n.c.k t x)∧(x=4))→Sk 21 K2 ([(8,i64 x),(7,.agg (t4V t).toArray),(0,ptr F.p)]) ([ndC F V n,caP F.A n.c]++R):=by
  rintro k ⟨hI1,hX1⟩;refine hK2 _ _ ?_;obtain⟨hk,hno⟩:=hI1;unfold ndC;subst hX1;have hm:=more_no (n:=n) hno;refine gc 5 ?_;refine kretv results165 rfl (L1:=[sc F.p _ 106,caP F.A n.c]++R) zge ?_;rw[hm];exact⟨_,⟨rfl,rfl⟩,rfl⟩
 clear hK2;refine gc 1 ?_;refine cloopT (A:=Nat) (fun x=>[(8,i64 x),(7,.agg (t4V t).toArray),(0,ptr F.p)]) (fun x=>[ndC F V n,caP F.A n.c]++R) (fun x=>x≤4∧noM n.c.k t x) (fun x=>4-x) (0) ?_ zsub zge ?_
 · exact⟨Nat.zero_le _,noM_zero _ _⟩
 rintro k hI1 KL1 hL1;have hI1o:=hI1;obtain⟨hk,hno⟩:=hI1;unfold ndC;refine gc 5 ?_;refine cc rfl (fun h37=>?_) (fun h37=>?_)
 ·refine gc 6 ?_;refine y (ev_ixA1 rfl rfl underlying32 isAgg2 sizeOf2 (by omega) (by omega) (t4_get t (k:=k) (by omega))) rfl ?_;refine gy 11 ?_;refine yci (kNumber) call98 ?_;refine gy 3 ?_;refine cc rfl (fun h50=>?_) (fun h50=>?_)
  ·have hm:=more_yes (n:=n) (t:=t) (k:=k) (by omega) (by assumption);refine gc 10 ?_;refine kretv results165 rfl (L1:=[sc F.p _ 106,caP F.A n.c]++R) zge ?_;rw[hm];exact⟨_,⟨rfl,rfl⟩,rfl⟩
  have hno2:=noM_succ hno (by assumption);refine gc 5 ?_;rw[show IntKind.i64.wrap ((k:Int)+1)=((k+1:Nat):Int)by rw[wr (by omega) (by omega)];rfl];refine gy 3 ?_;exact hL1 (k+1) (⟨by omega,hno2⟩) (by omega) _ _ zsub zge
 refine gc 5 ?_;exact ksub zsub zge (hJ1 k ⟨hI1o,by omega⟩)
theorem nLess [Env]{R:List Seg}{F:NF}{V:NV}{n:NodM}{t:T4}:Con Tryz.prog 210 [ptr F.p,.agg (t4V t).toArray] [ndC F V n,caP F.A n.c] R (Is (.bool (n.less t)) [ndC F V n,caP F.A n.c]):=by
 refine con_enter func210 ntmps210 rfl rfl ?_;unfold ndC;refine gc 1 ?_;refine ya (ac_box (vs:=t4V t) rfl rfl) rfl ?_;rintro v L' ⟨b3,rfl,rfl⟩;refine gy 3 ?_;refine cseqT ?_;intro K2 hK2;refine gc 1 ?_;refine y (ev_loadN (u:=t4V t) rfl isAgg32 sizeOf32 zin rfl rfl) rfl ?_;refine gy 3 ?_
 have hJ1: ∀x:Nat,((x≤4∧noL n.c.k t x)∧(x=4))→Sk 21 K2 ([(8,i64 x),(7,.agg (t4V t).toArray),(0,ptr F.p)]) ([ndC F V n,caP F.A n.c]++R):=by
  rintro k ⟨hI1,hX1⟩;refine hK2 _ _ ?_;obtain⟨hk,hno⟩:=hI1;unfold ndC;subst hX1;have hm:=less_no (n:=n) hno;refine gc 5 ?_;refine kretv results210 rfl (L1:=[sc F.p _ 106,caP F.A n.c]++R) zge ?_;rw[hm];exact⟨_,⟨rfl,rfl⟩,rfl⟩
 clear hK2;refine gc 1 ?_;refine cloopT (A:=Nat) (fun x=>[(8,i64 x),(7,.agg (t4V t).toArray),(0,ptr F.p)]) (fun x=>[ndC F V n,caP F.A n.c]++R) (fun x=>x≤4∧noL n.c.k t x) (fun x=>4-x) (0) ?_ zsub zge ?_
 · exact⟨Nat.zero_le _,noL_zero _ _⟩
 rintro k hI1 KL1 hL1;have hI1o:=hI1;obtain⟨hk,hno⟩:=hI1;unfold ndC;refine gc 5 ?_;refine cc rfl (fun h60=>?_) (fun h60=>?_)
 ·refine gc 6 ?_;refine y (ev_ixA1 rfl rfl underlying32 isAgg2 sizeOf2 (by omega) (by omega) (t4_get t (k:=k) (by omega))) rfl ?_;refine gy 11 ?_;refine yci (kNumber) call98 ?_;refine gy 3 ?_;refine cc rfl (fun h73=>?_) (fun h73=>?_)
  ·have hm:=less_yes (n:=n) (t:=t) (k:=k) (by omega) (by assumption);refine gc 10 ?_;refine kretv results210 rfl (L1:=[sc F.p _ 106,caP F.A n.c]++R) zge ?_;rw[hm];exact⟨_,⟨rfl,rfl⟩,rfl⟩
  have hno2:=noL_succ hno (by assumption);refine gc 5 ?_;rw[show IntKind.i64.wrap ((k:Int)+1)=((k+1:Nat):Int)by rw[wr (by omega) (by omega)];rfl];refine gy 3 ?_;exact hL1 (k+1) (⟨by omega,hno2⟩) (by omega) _ _ zsub zge
 refine gc 5 ?_;exact ksub zsub zge (hJ1 k ⟨hI1o,by omega⟩)
/-- Where a write of a block waits. -/
def wrP(V:NV)(n:NodM)(b:Int):Value:=match NodM.writingAt n.waits b with
 |none=> .pointer none
 |some i=> .pointer (some ⟨sB (svVal V.sw n.waits.length),i*7,none⟩)
theorem nWriting [Env]{R:List Seg}{F:NF}{V:NV}{n:NodM}{b:Int}(hw:waiOk V n)(hl:n.waits.length≤1000000):
   Con Tryz.prog 100 [ptr F.p,i64 b] [ndC F V n,waiS V n] R (Is (wrP V n b) [ndC F V n,waiS V n]):=by
 have hrd:RdV [waiS V n] (svVal V.sw n.waits.length) n.waits.length (waitsV n.waits):=rdV_sv .z hw;have hso:sO (svVal V.sw n.waits.length)=0:=by cases V.sw<;>rfl
 refine con_enter func100 ntmps100 rfl rfl ?_;unfold ndC;refine gc 4 ?_;refine cseqT ?_;intro K2 hK2;refine gc 6 ?_;refine y (ev_lenSv rfl underlying101 (by assumption)) rfl ?_;refine gy 3 ?_
 have hJ1: ∀x:Nat,((x≤n.waits.length∧noW n.waits b x)∧(x=n.waits.length))→Sk 38 K2 ([(13,i64 x),(12,i64 n.waits.length),(1,i64 b),(0,ptr F.p)]) ([ndC F V n,waiS V n]++R):=by
  rintro k ⟨hI1,hX1⟩;refine hK2 _ _ ?_;obtain⟨hk,hno⟩:=hI1;unfold ndC;subst hX1;have hm:wrP V n b= .pointer none:=by unfold wrP;rw[writingAt_none hno]
  refine gc 5 ?_;refine kretv results100 rfl (L1:=[sc F.p _ 106,waiS V n]++R) zge ?_;rw[hm];exact⟨_,⟨rfl,rfl⟩,rfl⟩
 clear hK2;refine gc 1 ?_;refine cloopT (A:=Nat) (fun x=>[(13,i64 x),(12,i64 n.waits.length),(1,i64 b),(0,ptr F.p)]) (fun x=>[ndC F V n,waiS V n]++R) (fun x=>x≤n.waits.length∧noW n.waits b x) (fun x=>n.waits.length-x) (0) ?_ zsub zge ?_
 · exact⟨Nat.zero_le _,noW_zero _ _⟩
 rintro k hI1 KL1 hL1;have hI1o:=hI1;obtain⟨hk,hno⟩:=hI1;unfold ndC;refine gc 5 ?_;refine cc rfl (fun h87=>?_) (fun h87=>?_)
 ·refine gc 5 ?_;obtain⟨w,hwk⟩: ∃w,n.waits[k]? =some w:=⟨_,List.getElem?_eq_getElem (by omega)⟩;refine gy 11 ?_;refine y (ev_ixV hrd rfl rfl underlying101 sizeOf177 (by omega) (by omega)) rfl ?_;rw[show sO (svVal V.sw n.waits.length)+(k:Int).toNat*7=k*7 by rw[hso];simp];refine gy 7 ?_;refine y (ev_loadV (k*7+2) hrd zge rfl isAgg3 (by rw[hso];omega) (flV_at wait7 hwk rfl)) rfl ?_;refine gy 2 ?_;refine ysp 28 rfl (fun h104=>?_) (fun h104=>?_)
  ·refine gy 3 ?_;refine ygo ?_;refine y (ev_loadV (k*7+3) hrd zge rfl isAgg3 (by rw[hso];omega) (flV_at wait7 hwk rfl)) rfl ?_;refine gy 5 ?_;refine cc rfl (fun h112=>?_) (fun h112=>?_)
   ·refine gc 1 ?_;have hm:wrP V n b= .pointer (some ⟨sB (svVal V.sw n.waits.length),k*7,none⟩):=by unfold wrP;rw[writingAt_some hno hwk ⟨by assumption,by assumption⟩]
    refine gy 10 ?_;refine kretv results100 rfl (L1:=[sc F.p _ 106,waiS V n]++R) zge ?_;rw[hm];exact⟨_,⟨rfl,rfl⟩,rfl⟩
   refine gc 4 ?_;have hno2:=noW_succ hno hwk (by omega);refine gy 1 ?_;rw[show IntKind.i64.wrap ((k:Int)+1)=((k+1:Nat):Int)by rw[wr (by omega) (by omega)];rfl];refine gy 3 ?_;exact hL1 (k+1) (⟨by omega,hno2⟩) (by omega) _ _ zsub zge
  refine gy 14 ?_;have hno2:=noW_succ hno hwk (by omega);refine gy 1 ?_;rw[show IntKind.i64.wrap ((k:Int)+1)=((k+1:Nat):Int)by rw[wr (by omega) (by omega)];rfl];refine gy 3 ?_;exact hL1 (k+1) (⟨by omega,hno2⟩) (by omega) _ _ zsub zge
 refine gc 5 ?_;exact ksub zsub zge (hJ1 k ⟨hI1o,by omega⟩)
theorem nMay [Env]{R:List Seg}{F:NF}{V:NV}{n:NodM}{w:WaitM}:Con Tryz.prog 151 [ptr F.p,waV w] [ndC F V n,sndC V.ps V.si n.s] R (Is (.bool (n.mayW w)) [ndC F V n,sndC V.ps V.si n.s]):=by
 refine con_enter func151 ntmps151 rfl rfl ?_;refine gc 1 ?_;refine ya (ac_box (vs:=w.cells) rfl rfl) rfl ?_;rintro v L' ⟨b3,rfl,rfl⟩;refine gy 4 ?_;refine cdraw 26 (od [1,22] 26 0) (_) Tryz.mixed (by kernel_rfl) .refl ?_;refine gh 1 ?_;refine hcall rfl (nAlone) rfl call118 ztk rfl ?_;rintro v L' ⟨rfl,rfl⟩;refine⟨zge,?_⟩;unfold ndC;refine gh 1 ?_;refine hsp 7 rfl (fun h125=>?_) (fun h125=>?_)
 ·refine gh 5 ?_;refine hsp 12 rfl (fun h131=>?_) (fun h131=>?_)
  ·refine gh 7 ?_;refine hsp 19 rfl (fun h139=>?_) (fun h139=>?_)
   ·refine gh 7 ?_;refine ha0 rfl rfl rfl rfl rfl zge ?_;refine gh 8 ?_;refine kretv results151 rfl (L1:=[sc F.p _ 106,sndC V.ps V.si n.s]++R) zge ?_;exact⟨_,⟨by(unfold NodM.mayW;simp_all),rfl⟩,by rfl⟩
   refine gh 7 ?_;refine hcall1 rfl rfl rfl (nAcked) rfl call52 ztk rfl ?_;rintro v L' ⟨rfl,rfl⟩;refine⟨zge,?_⟩;refine gh 8 ?_;refine kretv results151 rfl (L1:=[sc F.p _ 106,sndC V.ps V.si n.s]++R) zge ?_;exact⟨_,⟨by(unfold NodM.mayW;simp_all),rfl⟩,by rfl⟩
  refine gh 14 ?_;refine ha0u rfl rfl rfl rfl zge ?_;refine gh 8 ?_;refine kretv results151 rfl (L1:=[sc F.p _ 106,sndC V.ps V.si n.s]++R) zge ?_;exact⟨_,⟨by(unfold NodM.mayW;simp_all),rfl⟩,by rfl⟩
 refine gh 19 ?_;refine ha0u rfl rfl rfl rfl zge ?_;refine gh 8 ?_;refine kretv results151 rfl (L1:=[sc F.p _ 106,sndC V.ps V.si n.s]++R) zge ?_;exact⟨_,⟨by(unfold NodM.mayW;simp_all),rfl⟩,by rfl⟩
theorem nCommitted [Env]{R:List Seg}{F:NF}{V:NV}{n:NodM}{w:WaitM}:Con Tryz.prog 179 [ptr F.p,waV w] [ndC F V n,sndC V.ps V.si n.s] R (Is (.bool (n.committed w)) [ndC F V n,sndC V.ps V.si n.s]):=by
 refine con_enter func179 ntmps179 rfl rfl ?_;unfold ndC;refine gc 1 ?_;refine ya (ac_box (vs:=w.cells) rfl rfl) rfl ?_;rintro v L' ⟨b3,rfl,rfl⟩;refine gy 4 ?_;refine cdraw 9 (od [7] 9 0) (_) Tryz.mixed (by kernel_rfl) .refl ?_;refine gh 7 ?_;refine hcall rfl (nAcked) rfl call52 ztk rfl ?_;rintro v L' ⟨rfl,rfl⟩;refine⟨zge,?_⟩;refine gh 9 ?_;refine yci (nAlone (V:=V) (n:=n)) call118 ?_;refine gy 4 ?_;refine cc rfl (fun h177=>?_) (fun h177=>?_)
 ·refine gc 8 ?_;refine kretv results179 rfl (L1:=[ndC F V n,sndC V.ps V.si n.s]++R) zge ?_;refine⟨_,⟨?_,rfl⟩,rfl⟩;(unfold NodM.committed;simp_all)
 refine gc 1 ?_;unfold ndC;refine gy 9 ?_;refine cc rfl (fun h187=>?_) (fun h187=>?_)
 ·refine gc 3 ?_;refine ysp 28 rfl (fun h190=>?_) (fun h190=>?_)
  ·refine gy 9 ?_;refine kretv results179 rfl (L1:=[ndC F V n,sndC V.ps V.si n.s]++R) zge ?_;refine⟨_,⟨?_,rfl⟩,rfl⟩;(unfold NodM.committed;simp_all)
  refine gy 9 ?_;refine kretv results179 rfl (L1:=[ndC F V n,sndC V.ps V.si n.s]++R) zge ?_;refine⟨_,⟨?_,rfl⟩,rfl⟩;(unfold NodM.committed;simp_all;intro;omega)
 refine gc 10 ?_;refine kretv results179 rfl (L1:=[ndC F V n,sndC V.ps V.si n.s]++R) zge ?_;refine⟨_,⟨?_,rfl⟩,rfl⟩;(unfold NodM.committed;simp_all)
abbrev nodL(F:NF)(V:NV)(n:NodM):List Seg:=[ndC F V n,outS V n,waiS V n,sndC V.ps V.si n.s,sndI V.si n.s,celP F.pf F.q n.f,drlP F.pl F.pc n.dr,celP F.pc F.q n.dr.c,caP F.A n.c,enS F.A n.c,puS F.A n.c,lgS F.A F.q V.sl n.c,dev F.q n.d]
structure NVok(V:NV)(n:NodM):Prop where
 out:outOk V n
 sw:waiOk V n
 si:sndOk V.si n.s
 sl:itOk V.sl n.c.l
def KN(F:NF)(n':NodM)(u v:Value)(L':List Seg):Prop:= ∃V',v=u∧NVok V' n'∧L'=nodL F V' n'
theorem nText [Env]{R:List Seg}{e:Int}(he:N62 e):Con Tryz.prog 58 [i64 e] [] R (Is (str (factB e)) []):=by
 have hmay:(⟨50,[e],[]⟩:RecM).may:=⟨by show(0:Int)≤50;decide,by show(50:Int)≤255;decide,by show 1≤16;decide,by show 0≤4;decide,by simp,by intro z hz;simp at hz;subst hz;unfold N62 at he;omega⟩;have henc:encM ⟨50,[e],[]⟩=(factB e,0):=by unfold factB;rw[enc_may hmay]
 refine con_enter func58 ntmps58 rfl rfl ?_;refine gc 6 ?_;refine ya (ac_bsliceR rfl underlying57 sizeOf2 zeroValue2 rfl rfl rfl rfl ⟨⟨_,_,rfl,(by rfl),(by decide)⟩,trivial⟩ (by dsimp[fillL,splice,vcells,reps]<;>rfl)) rfl ?_;rintro v L' ⟨b7,rfl,rfl⟩;refine y (ev_be rfl) rfl ?_;refine ycall (cEncode (r:=⟨50,[e],[]⟩) ?hn5 ?ht5 ?sx5) rfl call94 ztk rfl ?_
 case hn5=>exact rdV_in zin rfl rfl
 case ht5=>exact rdV_nil
 case sx5=>exact hmay.num
 rintro v L' ⟨s9,rfl,ok9,rfl⟩;rw[henc]at ok9 ⊢;dsimp only at ok9 ⊢;generalize factB e=rb at*;refine gy 9 ?_;refine y (ev_toStrB (rdY_sv (L:=[svSeg s9 5 (bytesV rb)]) .z ok9).rd.bytes zge rfl underlying55 underlying9 underlying5) rfl ?_;refine gy 4 ?_;refine kretv results58 rfl (L1:=R) zge ?_;exact⟨_,⟨by rfl,rfl⟩,by rfl⟩
theorem nAdopt [Env]{R:List Seg}{F:NF}{V:NV}{n:NodM}{e:Int}(hn:n.ok 990000)(hV:NVok V n)(he:N62 e):
   Con Tryz.prog 111 [ptr F.p,i64 e] (nodL F V n) R (KN F (n.adopt e).2 (.bool (n.adopt e).1)):=by
 obtain⟨r,hR⟩: ∃z,n.f.put n.d (factB e)=z:=⟨_,rfl⟩;refine con_enter func111 ntmps111 rfl rfl ?_;unfold nodL ndC;refine gc 14 ?_;refine cc rfl (fun h21=>?_) (fun h21=>?_)
 ·have had:n.adopt e=(true,n):=by unfold NodM.adopt;rw[if_pos (by assumption)]
  refine gc 6 ?_;refine kretv results111 rfl (L1:=nodL F V n++R) zge ?_;rw[had];exact⟨_,⟨V,rfl,hV,rfl⟩,rfl⟩
 have had:n.adopt e=NodM.andB (n.demote.fOk r) fun n=>(true,{n with epoch:=e}):=by unfold NodM.adopt;rw[if_neg (by assumption),hR]
 refine gc 4 ?_;refine ycall (nDemote (V:=V) (n:=n)) rfl call106 ztk rfl ?_;rintro v L' ⟨p12,rfl,rfl⟩;refine gy 4 ?_;refine cdraw 8 (od [6,7] 8 0) ([sc F.p _ 106]++R) Tryz.mixed (by kernel_rfl) zge ?_;unfold ndC;refine gh 6 ?_;refine hcall rfl (nText ?te31) rfl call58 ztk rfl ?_
 case te31=>exact he
 rintro v L' ⟨rfl,rfl⟩;refine⟨zge,?_⟩;refine hcall rfl (cPut (C:=n.f) (D:=n.d) ?cok32 ?ok32) rfl call57 ztk rfl ?_
 case cok32=>exact hn.p.f
 case ok32=>exact hn.p.c.d
 rintro v L' ⟨rfl,rfl⟩;refine⟨zge,?_⟩;rw[hR];refine gh 1 ?_;refine yci (nOk (V:=(V.bare p12)) (n:=n.demote.fDid r)) call121 ?_;refine gy 3 ?_;refine cc rfl (fun h35=>?_) (fun h35=>?_)
 ·have had2:n.adopt e=(false,(n.demote.fDid r).err r.1):=by rw[had];unfold NodM.andB NodM.fOk;simp_all
  refine gc 6 ?_;refine kretv results111 rfl (L1:=nodL F (V.bare p12) ((n.demote.fDid r).err r.1)++R) zge ?_;rw[had2];exact⟨_,⟨V.bare p12,rfl,⟨hV.out,⟨rfl,rfl⟩,⟨rfl,rfl⟩,hV.sl⟩,rfl⟩,rfl⟩
 have had2:n.adopt e=(true,{(n.demote.fDid r).err r.1 with epoch:=e}):=by rw[had];unfold NodM.andB NodM.fOk;simp_all
 refine gc 3 ?_;unfold ndC;refine gy 4 ?_;refine yst (ac_store rfl rfl (by rfl) sizeOf2 zrp rfl rfl) ?_;refine gy 7 ?_;refine kretv results111 rfl (L1:=nodL F (V.bare p12) {(n.demote.fDid r).err r.1 with epoch:=e}++R) zge ?_;rw[had2];exact⟨_,⟨V.bare p12,rfl,⟨hV.out,⟨rfl,rfl⟩,⟨rfl,rfl⟩,hV.sl⟩,rfl⟩,rfl⟩
end W
end Go.Proofs
namespace Go.Sl
open NodM
def EachI{α:Type}(f:NodM→α→Bool × NodM)(l:List α)(n0:NodM)(k:Nat)(m:NodM):Prop:=eachB f l n0=eachB f (l.drop k) m
section
variable {α : Type} {f : NodM → α → Bool × NodM} {l : List α} {n0 m : NodM} {k : Nat} {x : α}
theorem EachI.zero:EachI f l n0 0 n0:=rfl
theorem EachI.go(h:EachI f l n0 k m)(hx:l[k]? =some x):eachB f l n0=if(f m x).1=false then(false,(f m x).2)else eachB f (l.drop (k+1)) (f m x).2:=by
 obtain⟨h1,h2⟩:=List.getElem?_eq_some_iff.1 hx;unfold EachI at h;rw[h,List.drop_eq_getElem_cons h1,h2];rfl
theorem EachI.step(h:EachI f l n0 k m)(hx:l[k]? =some x){m':NodM}(h1:f m x=(true,m')):EachI f l n0 (k+1) m':=by
 unfold EachI;rw[h.go hx,h1];rfl
theorem EachI.stop(h:EachI f l n0 k m)(hx:l[k]? =some x){m':NodM}(h1:f m x=(false,m')):eachB f l n0=(false,m'):=by
 rw[h.go hx,h1];rfl
theorem EachI.done(h:EachI f l n0 l.length m):eachB f l n0=(true,m):=by
 unfold EachI at h;rw[h,List.drop_length];rfl
end
theorem marks1_no{n:NodM}{x:EntM}(h:x.dirty=false):marks1 n x=(true,n):=by unfold marks1;rw[if_pos h]
theorem marks1_yes{n:NodM}{x:EntM}(h:x.dirty=true):marks1 n x=n.dOk (n.dr.mark n.d x.blk):=by unfold marks1;rw[if_neg (by rw[h];simp)]
theorem entM_one(x:EntM): ∀u∈x.cells,u.oneCell'=true:=by
 intro u hu;simp only[EntM.cells,List.mem_cons,List.not_mem_nil,or_false]at hu;rcases hu with rfl|rfl|rfl|rfl|rfl|rfl|rfl<;>rfl
end Go.Sl
namespace Go.Proofs
open _root_.Go.Proofs.Tryz
open Go Go.Sl
namespace W
set_option maxHeartbeats 1000000
theorem nBoot [Env]{R:List Seg}{F:NF}{V:NV}{n:NodM}{e:Int}(hn:n.ok 990000)(hV:NVok V n)(he:N62 e):
   Con Tryz.prog 49 [ptr F.p,i64 e] (nodL F V n) R (KN F (n.boot e).2 (i64 (n.boot e).1)):=by
 obtain⟨r,hR⟩: ∃z,n.f.put n.d (factB e)=z:=⟨_,rfl⟩;have hbo:n.boot e=if r.1≠0 then(r.1,n.fDid r)else if 16384≤r.2.1.gen then(23,n.fDid r)else(0,{n.fDid r with epoch:=e,born:=r.2.1.gen+16384*(n.serial.tmod 16384)}):=by unfold NodM.boot;rw[hR]
 have htm:=NodM.tmod_14 hn.a.serial;have hgk:0≤r.2.1.gen:=by rw[←hR];have:=(hn.p.facts (factB e)).f.gen;omega
 refine con_enter func49 ntmps49 rfl rfl ?_;unfold nodL ndC;refine gc 6 ?_;refine cdraw 6 (od [5] 6 0) ([sc F.p _ 106]++R) Tryz.mixed (by kernel_rfl) zge ?_;refine gh 5 ?_;refine hcall rfl (nText ?te7) rfl call58 ztk rfl ?_
 case te7=>exact he
 rintro v L' ⟨rfl,rfl⟩;refine⟨zge,?_⟩;refine gh 1 ?_;refine yci (cPut (C:=n.f) (D:=n.d) ?cok8 ?ok8) call57 ?_
 case cok8=>exact hn.p.f
 case ok8=>exact hn.p.c.d
 rw[hR];refine gy 8 ?_;refine cc rfl (fun h12=>?_) (fun h12=>?_)
 ·rw[if_pos (by assumption)]at hbo;refine gc 7 ?_;refine kretv results49 rfl (L1:=nodL F V (n.fDid r)++R) zge ?_;rw[hbo];exact⟨_,⟨V,rfl,⟨hV.out,hV.sw,hV.si,hV.sl⟩,rfl⟩,rfl⟩
 rw[if_neg (by simpa using h12)]at hbo;refine gc 8 ?_;refine yci (cGen) call88 ?_;refine gy 3 ?_;refine cc rfl (fun h21=>?_) (fun h21=>?_)
 ·rw[if_pos (by omega)]at hbo;refine gc 6 ?_;refine kretv results49 rfl (L1:=nodL F V (n.fDid r)++R) zge ?_;rw[hbo];exact⟨_,⟨V,rfl,⟨hV.out,hV.sw,hV.si,hV.sl⟩,rfl⟩,rfl⟩
 rw[if_neg (by omega)]at hbo;refine gc 3 ?_;refine cdrawN 18 (.op 0 0 (.op 1 0 (.op 2 0 (.op 3 0 (.op 4 0 (.op 5 0 (.op 8 0 (.op 9 0 (.op 10 0 (.fork 6 (.fork 7 (.op 11 2 (.op 12 0 (.op 13 0 (.op 14 0 (.op 15 0 (.op 16 0 (.op 17 2 (.nil)))))))) 11 (.op 12 0 (.op 13 0 (.op 7 2 (.op 14 0 (.op 15 0 (.op 16 0 (.op 17 2 (.nil))))))))) 11 (.op 12 0 (.op 13 0 (.op 6 2 (.op 7 2 (.op 14 0 (.op 15 0 (.op 16 0 (.op 17 2 (.nil))))))))))))))))))) (R) Tryz.mixed (by kernel_rfl) zge ?_;refine nz rfl (ev_move rfl) rfl ?_;refine nz rfl (ev_move rfl) rfl ?_;refine nz rfl (ev_move rfl) rfl ?_;refine nz rfl (ev_move rfl) rfl ?_;refine nz rfl (ev_nil rfl) rfl ?_;refine nz rfl (ev_fieldAddr 5 rfl underlying106 rfl sizeOf96) rfl ?_;refine nz rfl (ev_move rfl) rfl ?_;refine nz rfl (ev_nil rfl) rfl ?_;refine nz rfl (ev_fieldAddr 1 rfl underlying106 rfl sizeOf2) rfl ?_;refine nfork ?_ ?_
 ·refine na rfl (ac_of_ev (ev_load rfl isAgg96 zin rfl)) rfl ?_;rintro v L' ⟨rfl,rfl⟩;refine⟨zge,?_⟩;refine nfork ?_ ?_
  ·refine ncall rfl (cGen) rfl call88 ztk rfl ?_;rintro v L' ⟨rfl,rfl⟩;refine⟨zge,?_⟩;refine na rfl (ac_of_ev (ev_load rfl isAgg2 zin rfl)) rfl ?_;rintro v L' ⟨rfl,rfl⟩;refine⟨zge,?_⟩;refine nz rfl (ev_rem rfl rfl (by decide)) rfl ?_;refine nz rfl (ev_mul rfl rfl) rfl ?_;rw[wr (by omega) (by omega)];refine nz rfl (ev_add rfl rfl) rfl ?_;rw[wr (by omega) (by omega)];refine nz rfl (ev_nil rfl) rfl ?_;refine nz rfl (ev_fieldAddr 11 rfl underlying106 rfl sizeOf2) rfl ?_;refine naN rfl (ac_store rfl rfl (by rfl) sizeOf2 zrp rfl rfl) ?_;rintro v L' ⟨rfl,rfl⟩;refine⟨zge,?_⟩;refine nnil ?_;refine gy 2 ?_;refine yst (ac_store rfl rfl (by rfl) sizeOf2 zrp rfl rfl) ?_;refine gy 7 ?_;refine kretv results49 rfl (L1:=nodL F V {n.fDid r with epoch:=e,born:=r.2.1.gen+16384*(n.serial.tmod 16384)}++R) zge ?_;rw[hbo];exact⟨_,⟨V,rfl,⟨hV.out,hV.sw,hV.si,hV.sl⟩,rfl⟩,rfl⟩
  refine na rfl (ac_of_ev (ev_load rfl isAgg2 zin rfl)) rfl ?_;rintro v L' ⟨rfl,rfl⟩;refine⟨zge,?_⟩;refine nz rfl (ev_rem rfl rfl (by decide)) rfl ?_;refine nz rfl (ev_mul rfl rfl) rfl ?_;rw[wr (by omega) (by omega)];refine ncall rfl (cGen) rfl call88 ztk rfl ?_;rintro v L' ⟨rfl,rfl⟩;refine⟨zge,?_⟩;refine nz rfl (ev_add rfl rfl) rfl ?_;rw[wr (by omega) (by omega)];refine nz rfl (ev_nil rfl) rfl ?_;refine nz rfl (ev_fieldAddr 11 rfl underlying106 rfl sizeOf2) rfl ?_;refine naN rfl (ac_store rfl rfl (by rfl) sizeOf2 zrp rfl rfl) ?_;rintro v L' ⟨rfl,rfl⟩;refine⟨zge,?_⟩;refine nnil ?_;refine gy 2 ?_;refine yst (ac_store rfl rfl (by rfl) sizeOf2 zrp rfl rfl) ?_;refine gy 7 ?_;refine kretv results49 rfl (L1:=nodL F V {n.fDid r with epoch:=e,born:=r.2.1.gen+16384*(n.serial.tmod 16384)}++R) zge ?_;rw[hbo];exact⟨_,⟨V,rfl,⟨hV.out,hV.sw,hV.si,hV.sl⟩,rfl⟩,rfl⟩
 refine na rfl (ac_of_ev (ev_load rfl isAgg2 zin rfl)) rfl ?_;rintro v L' ⟨rfl,rfl⟩;refine⟨zge,?_⟩;refine nz rfl (ev_rem rfl rfl (by decide)) rfl ?_;refine nz rfl (ev_mul rfl rfl) rfl ?_;rw[wr (by omega) (by omega)];refine na rfl (ac_of_ev (ev_load rfl isAgg96 zin rfl)) rfl ?_;rintro v L' ⟨rfl,rfl⟩;refine⟨zge,?_⟩;refine ncall rfl (cGen) rfl call88 ztk rfl ?_;rintro v L' ⟨rfl,rfl⟩;refine⟨zge,?_⟩;refine nz rfl (ev_add rfl rfl) rfl ?_;rw[wr (by omega) (by omega)];refine nz rfl (ev_nil rfl) rfl ?_;refine nz rfl (ev_fieldAddr 11 rfl underlying106 rfl sizeOf2) rfl ?_;refine naN rfl (ac_store rfl rfl (by rfl) sizeOf2 zrp rfl rfl) ?_;rintro v L' ⟨rfl,rfl⟩;refine⟨zge,?_⟩;refine nnil ?_;refine gy 2 ?_;refine yst (ac_store rfl rfl (by rfl) sizeOf2 zrp rfl rfl) ?_;refine gy 7 ?_;refine kretv results49 rfl (L1:=nodL F V {n.fDid r with epoch:=e,born:=r.2.1.gen+16384*(n.serial.tmod 16384)}++R) zge ?_;rw[hbo];exact⟨_,⟨V,rfl,⟨hV.out,hV.sw,hV.si,hV.sl⟩,rfl⟩,rfl⟩
theorem nMarks [Env]{R:List Seg}{F:NF}{V:NV}{n:NodM}(hn:n.ok 990000)(hV:NVok V n):
   Con Tryz.prog 167 [ptr F.p] (nodL F V n) R (KN F n.marks.2 (.bool n.marks.1)):=by
 have hbl:=hn.p.bl;have hblk:=hn.a.blocks;have hall:=NodM.all_ok hn;have hlen:=NodM.all_len hn;refine con_enter func167 ntmps167 rfl rfl ?_;unfold nodL ndC;refine gc 4 ?_;refine cseqT ?_;intro K2 hK2;refine gc 5 ?_;refine ycall (kAll ?bl75) rfl call59 ztk rfl ?_
 case bl75=>omega
 rintro v L' ⟨s9,rfl,ok9,rfl⟩;have hrd:RdV [svSeg s9 127 (entsV n.c.all)] (svVal s9 n.c.all.length) n.c.all.length (entsV n.c.all):=rdV_sv .z ok9;refine y (ev_lenSv rfl underlying61 (by assumption)) rfl ?_;refine gy 3 ?_
 have hJ1: ∀x:Nat × NodM,((x.1≤n.c.all.length∧EachI NodM.marks1 n.c.all n x.1 x.2∧x.2.ok 990000∧NVok V x.2)∧(x.1=n.c.all.length))→Sk 30 K2 ([(11,i64 x.1),(10,i64 n.c.all.length),(9,svVal s9 n.c.all.length),(0,ptr F.p)]) (svSeg s9 127 (entsV n.c.all)::nodL F V x.2++R):=by
  rintro⟨k,m⟩ ⟨hI1,hX1⟩;refine hK2 _ _ ?_;obtain⟨hk,hE,hm,hVm⟩:=hI1;dsimp only at hk hE hm hVm ⊢;unfold nodL ndC;dsimp only at hX1;rw[hX1]at hE;have hma:n.marks=(true,m):=hE.done;refine gc 5 ?_;refine kretv results167 rfl (L1:=nodL F V m++R) zge ?_;rw[hma];exact⟨_,⟨V,rfl,hVm,rfl⟩,rfl⟩
 clear hK2;refine gc 1 ?_;refine cloopT (A:=Nat × NodM) (fun x=>[(11,i64 x.1),(10,i64 n.c.all.length),(9,svVal s9 n.c.all.length),(0,ptr F.p)]) (fun x=>svSeg s9 127 (entsV n.c.all)::nodL F V x.2++R) (fun x=>x.1≤n.c.all.length∧EachI NodM.marks1 n.c.all n x.1 x.2∧x.2.ok 990000∧NVok V x.2) (fun x=>n.c.all.length-x.1) ((0,n)) ?_ zsub zge ?_
 · exact⟨Nat.zero_le _,EachI.zero,hn,hV⟩
 rintro⟨k,m⟩ hI1 KL1 hL1;have hI1o:=hI1;obtain⟨hk,hE,hm,hVm⟩:=hI1;dsimp only at hk hE hm hVm ⊢;unfold nodL ndC;refine gc 5 ?_;refine cc rfl (fun h80=>?_) (fun h80=>?_)
 ·refine gc 5 ?_;obtain⟨x,hx⟩: ∃x,n.c.all[k]? =some x:=⟨_,List.getElem?_eq_getElem (by omega)⟩;have hxo:=(hall x (List.mem_of_getElem? hx)).blk;refine y (ev_ixV hrd rfl rfl underlying61 sizeOf127 (by omega) (by omega)) rfl ?_;refine y (ev_loadNV (us:=x.cells) (k*7) hrd zge rfl isAgg127 sizeOf127 (by simp) (entsV_get hx) rfl) rfl ?_;refine ya (ac_alloc zeroValue127 rfl) rfl ?_;rintro v L' ⟨b4,rfl,rfl⟩;refine yst (ac_storeN (vs':=x.cells) rfl rfl (entM_one x) sizeOf127 zrp rfl (by decide) rfl) ?_;refine gy 3 ?_;refine cdraw 11 (od [10] 11 0) ([sc b4 _ 127,sc F.p _ 106]++R) Tryz.mixed (by kernel_rfl) zge ?_;refine gh 3 ?_;refine hsp 17 rfl (fun h88=>?_) (fun h88=>?_)
  ·obtain⟨r,hR⟩: ∃z,m.dr.mark m.d x.blk=z:=⟨_,rfl⟩;have hm1:NodM.marks1 m x=(decide (r.1=0),(m.dDid r).err r.1):=by rw[marks1_yes (by assumption),hR];rfl
   refine gh 7 ?_;refine hcall1 rfl rfl rfl (dMark (L:=m.dr) (D:=m.d) (i:=x.blk) ?dl96 ?di96 ?dj96) rfl call156 ztk rfl ?_
   case dl96=>exact hm.p.dr
   case di96=>omega
   case dj96=>omega
   rintro v L' ⟨rfl,rfl⟩;refine⟨zge,?_⟩;rw[hR];refine gh 1 ?_;refine ygo ?_;refine yci (nOk (V:=V) (n:=m.dDid r)) call121 ?_;refine gy 4 ?_;refine cc rfl (fun h100=>?_) (fun h100=>?_)
   ·have hma:n.marks=(false,(m.dDid r).err r.1):=hE.stop hx (by rw[hm1];simp_all);refine gc 10 ?_;refine kretv results167 rfl (L1:=nodL F V ((m.dDid r).err r.1)++R) zge ?_;rw[hma];exact⟨_,⟨V,rfl,⟨hVm.out,hVm.sw,hVm.si,hVm.sl⟩,rfl⟩,rfl⟩
   have hm2:NodM.marks1 m x=(true,(m.dDid r).err r.1):=by rw[hm1];simp_all
   have hnx:k+1≤n.c.all.length∧EachI NodM.marks1 n.c.all n (k+1) ((m.dDid r).err r.1)∧((m.dDid r).err r.1).ok 990000∧NVok V ((m.dDid r).err r.1):=⟨by omega,hE.step hx hm2,by rw[←hR];exact hm.mark x.blk,⟨hVm.out,hVm.sw,hVm.si,hVm.sl⟩⟩;refine gc 5 ?_;rw[show IntKind.i64.wrap ((k:Int)+1)=((k+1:Nat):Int)by rw[wr (by omega) (by omega)];rfl];refine gy 3 ?_;exact hL1 (k+1,_) hnx (by dsimp only;omega) _ _ zsub zge
  have hm1:NodM.marks1 m x=(true,m):=marks1_no (by simpa using h88);have hnx:k+1≤n.c.all.length∧EachI NodM.marks1 n.c.all n (k+1) m∧m.ok 990000∧NVok V m:=⟨by omega,hE.step hx hm1,hm,hVm⟩;refine gh 7 ?_;refine ha0 rfl rfl rfl rfl rfl zge ?_;refine gh 12 ?_;rw[show IntKind.i64.wrap ((k:Int)+1)=((k+1:Nat):Int)by rw[wr (by omega) (by omega)];rfl];refine gy 3 ?_;exact hL1 (k+1,_) hnx (by dsimp only;omega) _ _ zsub zge
 refine gc 5 ?_;exact ksub zsub zge (hJ1 ⟨k,m⟩ ⟨hI1o,by dsimp only;omega⟩)
end W
end Go.Proofs