/- A part of the proof. -/
import Derived.Test.YtlignadmmopdmaaGreatUn
import Derived.Test.YtlignadmmopdmaaGreatT15
import Derived.Test.YtlignadmmopdmaaGreatNodP
import Derived.Test.YtlignadmmopdmaaGreatGK
set_option linter.unusedVariables false
set_option linter.unusedSimpArgs false
set_option linter.constructorNameAsVariable false
namespace Go.Proofs
open _root_.Go.Proofs.Tryz
open Go Go.Sl
namespace W
set_option maxHeartbeats 4000000
theorem nmay_blk{m:MsgM}(h:within3 m.block (-1) 31=false):m.may=false:=Bool.eq_false_iff.2 fun h2=>nw3f h (nmay_P.1 h2).block
theorem nmay_cl{m:MsgM}(h:within3 m.client (-1) 3=false):m.may=false:=Bool.eq_false_iff.2 fun h2=>nw3f h (nmay_P.1 h2).client
theorem nmay_e{m:MsgM}(h:within3 m.e 0 31=false):m.may=false:=Bool.eq_false_iff.2 fun h2=>nw3f h (nmay_P.1 h2).e
theorem x11Within [Env]{R:List Seg}{n lo hi:Int}:Con Tryz.prog 39 [i64 n,i64 lo,i64 hi] [] R (Is (.bool (within3 n lo hi)) []):=by
 refine con_enter func39 ntmps39 rfl rfl ?_;refine gc 9 ?_;refine ysp 10 rfl (fun h6=>?_) (fun h6=>?_)
 ·refine gy 8 ?_;refine kretv results39 rfl (L1:=R) zge ?_;exact⟨_,⟨by(simp[within3];omega),rfl⟩,by rfl⟩
 refine gy 8 ?_;refine kretv results39 rfl (L1:=R) zge ?_;exact⟨_,⟨by(simp[within3];omega),rfl⟩,by rfl⟩
theorem x11May [Env]{R:List Seg}{m:MsgM}:Con Tryz.prog 40 [.agg m.cells.toArray] [] R (Is (.bool m.may) []):=by
 refine con_enter func40 ntmps40 rfl rfl ?_;refine gc 1 ?_;refine ya (ac_box (vs:=m.cells) rfl rfl) rfl ?_;rintro v L' ⟨b1,rfl,rfl⟩;refine gy 3 ?_;refine cseqT ?_;intro K2 hK2;refine gc 4 ?_
 have hJ1: ∀x:Nat,((x≤4∧nmayT m x)∧(x=4))→Sk 79 K2 ([(3,i64 x),(1,ptr b1)]) ([sc b1 m.cells 34]++R):=by
  rintro k ⟨hI1,hX1⟩;refine hK2 _ _ ?_;obtain⟨hk,hok⟩:=hI1;subst hX1;have hrest:=nmay_rest hok;refine gc 5 ?_;refine ysp 17 rfl (fun h21=>?_) (fun h21=>?_)
  ·refine gy 5 ?_;refine ysp 22 rfl (fun h27=>?_) (fun h27=>?_)
   ·refine gy 2 ?_;refine ygo ?_;refine yci (x11Within) call39 ?_;refine gy 2 ?_;refine ysp 27 rfl (fun h33=>?_) (fun h33=>?_)
    ·refine gy 2 ?_;refine ygo ?_;refine yci (x11Within) call39 ?_;refine gy 2 ?_;refine ysp 32 rfl (fun h39=>?_) (fun h39=>?_)
     ·refine gy 2 ?_;refine ygo ?_;refine yci (x11Within) call39 ?_;refine gy 2 ?_;refine ysp 37 rfl (fun h45=>?_) (fun h45=>?_)
      ·refine gy 5 ?_;refine ysp 42 rfl (fun h51=>?_) (fun h51=>?_)
       ·refine gy 5 ?_;refine ysp 47 rfl (fun h57=>?_) (fun h57=>?_)
        ·refine gy 5 ?_;refine ysp 52 rfl (fun h63=>?_) (fun h63=>?_)
         ·refine gy 5 ?_;refine ysp 57 rfl (fun h69=>?_) (fun h69=>?_)
          ·refine gy 5 ?_;refine ysp 62 rfl (fun h75=>?_) (fun h75=>?_)
           ·refine gy 5 ?_;refine ysp 67 rfl (fun h81=>?_) (fun h81=>?_)
            ·refine gy 2 ?_;refine ygo ?_;refine y (ev_lenStr rfl underlying9) rfl ?_;refine gy 3 ?_;refine ysp 73 rfl (fun h88=>?_) (fun h88=>?_)
             ·refine gy 2 ?_;refine ygo ?_;refine y (ev_lenStr rfl underlying9) rfl ?_;refine gy 6 ?_;refine kretv results40 rfl (L1:=R) zge ?_;exact⟨_,⟨by(rw[hrest];(try simp only[within3,Bool.and_eq_true,Bool.and_eq_false_iff,decide_eq_true_eq,decide_eq_false_iff_not]at*);congr 1;first|(symm;rw[decide_eq_false_iff_not];omega)|(rw[decide_eq_decide];omega)),rfl⟩,by rfl⟩
             refine gy 9 ?_;refine kretv results40 rfl (L1:=R) zge ?_;exact⟨_,⟨by(rw[hrest];(try simp only[within3,Bool.and_eq_true,Bool.and_eq_false_iff,decide_eq_true_eq,decide_eq_false_iff_not]at*);congr 1;first|(symm;rw[decide_eq_false_iff_not];omega)|(rw[decide_eq_decide];omega)),rfl⟩,by rfl⟩
            refine gy 15 ?_;refine kretv results40 rfl (L1:=R) zge ?_;exact⟨_,⟨by(rw[hrest];(try simp only[within3,Bool.and_eq_true,Bool.and_eq_false_iff,decide_eq_true_eq,decide_eq_false_iff_not]at*);congr 1;first|(symm;rw[decide_eq_false_iff_not];omega)|(rw[decide_eq_decide];omega)),rfl⟩,by rfl⟩
           refine gy 20 ?_;refine kretv results40 rfl (L1:=R) zge ?_;exact⟨_,⟨by(rw[hrest];(try simp only[within3,Bool.and_eq_true,Bool.and_eq_false_iff,decide_eq_true_eq,decide_eq_false_iff_not]at*);congr 1;first|(symm;rw[decide_eq_false_iff_not];omega)|(rw[decide_eq_decide];omega)),rfl⟩,by rfl⟩
          refine gy 25 ?_;refine kretv results40 rfl (L1:=R) zge ?_;exact⟨_,⟨by(rw[hrest];(try simp only[within3,Bool.and_eq_true,Bool.and_eq_false_iff,decide_eq_true_eq,decide_eq_false_iff_not]at*);congr 1;first|(symm;rw[decide_eq_false_iff_not];omega)|(rw[decide_eq_decide];omega)),rfl⟩,by rfl⟩
         refine gy 30 ?_;refine kretv results40 rfl (L1:=R) zge ?_;exact⟨_,⟨by(rw[hrest];(try simp only[within3,Bool.and_eq_true,Bool.and_eq_false_iff,decide_eq_true_eq,decide_eq_false_iff_not]at*);congr 1;first|(symm;rw[decide_eq_false_iff_not];omega)|(rw[decide_eq_decide];omega)),rfl⟩,by rfl⟩
        refine gy 35 ?_;refine kretv results40 rfl (L1:=R) zge ?_;exact⟨_,⟨by(rw[hrest];(try simp only[within3,Bool.and_eq_true,Bool.and_eq_false_iff,decide_eq_true_eq,decide_eq_false_iff_not]at*);congr 1;first|(symm;rw[decide_eq_false_iff_not];omega)|(rw[decide_eq_decide];omega)),rfl⟩,by rfl⟩
       refine gy 40 ?_;refine kretv results40 rfl (L1:=R) zge ?_;exact⟨_,⟨by(rw[hrest];(try simp only[within3,Bool.and_eq_true,Bool.and_eq_false_iff,decide_eq_true_eq,decide_eq_false_iff_not]at*);congr 1;first|(symm;rw[decide_eq_false_iff_not];omega)|(rw[decide_eq_decide];omega)),rfl⟩,by rfl⟩
      refine gy 45 ?_;refine kretv results40 rfl (L1:=R) zge ?_;exact⟨_,⟨by(rw[hrest];(try simp only[within3,Bool.and_eq_true,Bool.and_eq_false_iff,decide_eq_true_eq,decide_eq_false_iff_not]at*);congr 1;first|(symm;rw[decide_eq_false_iff_not];omega)|(rw[decide_eq_decide];omega)),rfl⟩,by rfl⟩
     refine gy 50 ?_;refine kretv results40 rfl (L1:=R) zge ?_;exact⟨_,⟨by(rw[hrest];(try simp only[within3,Bool.and_eq_true,Bool.and_eq_false_iff,decide_eq_true_eq,decide_eq_false_iff_not]at*);congr 1;first|(symm;rw[decide_eq_false_iff_not];omega)|(rw[decide_eq_decide];omega)),rfl⟩,by rfl⟩
    refine gy 55 ?_;refine kretv results40 rfl (L1:=R) zge ?_;exact⟨_,⟨by(rw[hrest];(try simp only[within3,Bool.and_eq_true,Bool.and_eq_false_iff,decide_eq_true_eq,decide_eq_false_iff_not]at*);congr 1;first|(symm;rw[decide_eq_false_iff_not];omega)|(rw[decide_eq_decide];omega)),rfl⟩,by rfl⟩
   refine gy 60 ?_;refine kretv results40 rfl (L1:=R) zge ?_;exact⟨_,⟨by(rw[hrest];(try simp only[within3,Bool.and_eq_true,Bool.and_eq_false_iff,decide_eq_true_eq,decide_eq_false_iff_not]at*);congr 1;first|(symm;rw[decide_eq_false_iff_not];omega)|(rw[decide_eq_decide];omega)),rfl⟩,by rfl⟩
  refine gy 65 ?_;refine kretv results40 rfl (L1:=R) zge ?_;exact⟨_,⟨by(rw[hrest];(try simp only[within3,Bool.and_eq_true,Bool.and_eq_false_iff,decide_eq_true_eq,decide_eq_false_iff_not]at*);congr 1;first|(symm;rw[decide_eq_false_iff_not];omega)|(rw[decide_eq_decide];omega)),rfl⟩,by rfl⟩
 clear hK2;refine gc 1 ?_;refine cloopT (A:=Nat) (fun x=>[(3,i64 x),(1,ptr b1)]) (fun x=>[sc b1 m.cells 34]++R) (fun x=>x≤4∧nmayT m x) (fun x=>4-x) (0) ?_ zsub zge ?_
 · exact⟨Nat.zero_le _,nmayT_zero m⟩
 rintro k hI1 KL1 hL1;have hI1o:=hI1;obtain⟨hk,hok⟩:=hI1;refine gc 6 ?_;refine cc rfl (fun h253=>?_) (fun h253=>?_)
 ·refine gc 7 ?_;refine y (ev_ixAddrA rfl rfl underlying32 sizeOf2 (by omega) (by omega)) rfl ?_;refine y (ev_load rfl isAgg2 zin (nmsg_tn m (by omega))) rfl ?_;refine yci (x11Within) call39 ?_;refine gy 3 ?_;refine cc rfl (fun h260=>?_) (fun h260=>?_)
  ·refine gc 1 ?_;have hno:m.may=false:=nmayT_no (k:=k) (by omega) (nw3f (by assumption));refine gy 9 ?_;refine kretv results40 rfl (L1:=R) zge ?_;exact⟨_,⟨by rw[hno],rfl⟩,by rfl⟩
  refine gc 4 ?_;have hok2:nmayT m (k+1):=nmayT_succ hok (within3_iff.1 (by assumption));refine gy 2 ?_;rw[show IntKind.i64.wrap ((k:Int)+1)=((k+1:Nat):Int)by rw[wr (by omega) (by omega)];rfl];refine gy 3 ?_;exact hL1 (k+1) (⟨by omega,hok2⟩) (by omega) _ _ zsub zge
 refine gc 5 ?_;exact ksub zsub zge (hJ1 k ⟨hI1o,by omega⟩)
theorem x11Encode [Env]{R:List Seg}{m:MsgM}:Con Tryz.prog 26 [.agg m.cells.toArray] [] R (Is (.tuple #[str (encMsg m),i64 (if m.may=true then 0 else 4)]) []):=by
 refine con_enter func26 ntmps26 rfl rfl ?_;refine gc 1 ?_;refine ya (ac_box (vs:=m.cells) rfl rfl) rfl ?_;rintro v L' ⟨b1,rfl,rfl⟩;refine gy 6 ?_;refine y (ev_loadAll rfl isAgg34 sizeOf34 zin (by rfl)) rfl ?_;refine yci (x11May (m:=m)) call40 ?_;refine gy 3 ?_;refine cc rfl (fun h271=>?_) (fun h271=>?_)
 ·have hno:m.may=false:=by simpa using h271
  refine gc 7 ?_;refine kretv2 results26 rfl rfl (L1:=R) zge ?_;exact⟨_,⟨by(rw[encMsg_no hno,hno];rfl),rfl⟩,by rfl⟩
 have hmay:m.may=true:=by simpa using h271
 have henc:=encMsg_may hmay;refine gc 16 ?_;refine y (ev_ixAddrA rfl rfl underlying32 sizeOf2 (by omega) (by omega)) rfl ?_;refine gy 2 ?_;refine y (ev_ixAddrA rfl rfl underlying32 sizeOf2 (by omega) (by omega)) rfl ?_;refine gy 2 ?_;refine y (ev_ixAddrA rfl rfl underlying32 sizeOf2 (by omega) (by omega)) rfl ?_;refine gy 2 ?_;refine y (ev_ixAddrA rfl rfl underlying32 sizeOf2 (by omega) (by omega)) rfl ?_;refine gy 1 ?_;refine ya (ac_bsliceR (vs:=[i64 m.epoch,i64 m.seq,i64 m.n,i64 m.block,i64 m.client,i64 m.e,i64 m.t0,i64 m.t1,i64 m.t2,i64 m.t3]) rfl underlying57 sizeOf2 zeroValue2 rfl rfl rfl rfl ⟨⟨_,_,rfl,(by rfl),(by decide)⟩,⟨⟨_,_,rfl,(by rfl),(by decide)⟩,⟨⟨_,_,rfl,(by rfl),(by decide)⟩,⟨⟨_,_,rfl,(by rfl),(by decide)⟩,⟨⟨_,_,rfl,(by rfl),(by decide)⟩,⟨⟨_,_,rfl,(by rfl),(by decide)⟩,⟨⟨_,_,rfl,(by rfl),(by decide)⟩,⟨⟨_,_,rfl,(by rfl),(by decide)⟩,⟨⟨_,_,rfl,(by rfl),(by decide)⟩,⟨⟨_,_,rfl,(by rfl),(by decide)⟩,trivial⟩⟩⟩⟩⟩⟩⟩⟩⟩⟩ (by kernel_rfl)) rfl ?_;rintro v L' ⟨b34,rfl,rfl⟩;refine gy 11 ?_;refine ya (ac_bsliceR rfl underlying86 sizeOf9 zeroValue9 rfl rfl rfl rfl ⟨⟨_,_,rfl,(by rfl),(by decide)⟩,⟨⟨_,_,rfl,(by rfl),(by decide)⟩,trivial⟩⟩ (by dsimp[fillL,splice,vcells,reps]<;>rfl)) rfl ?_;rintro v L' ⟨b43,rfl,rfl⟩;refine y (ev_be rfl) rfl ?_;refine ycall (rEncode (r:=msgR m) ?hn309 ?ht309 ?sx309) rfl call55 ztk rfl ?_
 case hn309=>exact rdV_in zin rfl rfl
 case ht309=>exact rdV_in zin rfl rfl
 case sx309=>exact(msgR_may hmay).num
 rintro v L' ⟨s45,rfl,ok45,rfl⟩;rw[henc]at ok45 ⊢;dsimp only at ok45 ⊢;generalize encMsg m=rb at*;refine gy 9 ?_;refine y (ev_toStrB (rdY_sv (L:=[svSeg s45 5 (bytesV rb)]) .z ok45).rd.bytes zge rfl underlying55 underlying9 underlying5) rfl ?_;refine gy 6 ?_;refine kretv2 results26 rfl rfl (L1:=R) zge ?_;exact⟨_,⟨by rw[if_pos hmay],rfl⟩,by rfl⟩
theorem x11Decode [Env]{R:List Seg}{s:Bytes}(hs:s.length≤1000):Con Tryz.prog 15 [str s] [] R (Is (.tuple #[.agg (decMsg s).1.cells.toArray,i64 (decMsg s).2]) []):=by
 refine con_enter func15 ntmps15 rfl rfl ?_;refine gc 1 ?_;refine ya (ac_alloc zeroValue34 rfl) rfl ?_;rintro v L' ⟨b2,rfl,rfl⟩;refine gy 5 ?_;refine ya (ac_toBytesY rfl underlying9 underlying55 underlying5) rfl ?_;rintro v L' ⟨b10,c10,sp10,fr10,rfl,hc10,rfl⟩;refine ycall (rDecode (bs:=s) ?hb324 ?len324) rfl call38 ztk rfl ?_
 case hb324=>exact rdY_in zin hc10
 case len324=>omega
 rintro v L' ⟨sn11,st11,rfl,ok11,rfl⟩;obtain⟨de,hde⟩: ∃z,decM s=z:=⟨_,rfl⟩;have hnl:=decM_len s;obtain⟨rc,er⟩:=de;rw[hde]at ok11 hnl ⊢;dsimp only at ok11 hnl ⊢;have okn:=ok11.n;have okt:=ok11.t;unfold recV;have hvn:RdV [svSeg sn11 2 (intsV rc.nums)] (svVal sn11 rc.nums.length) rc.nums.length (intsV rc.nums):=rdV_sv .z okn;have htn:RdV [svSeg st11 9 (strsV rc.texts)] (svVal st11 rc.texts.length) rc.texts.length (strsV rc.texts):=rdV_sv .z okt;refine gy 3 ?_;refine ya (ac_alloc zeroValue88 rfl) rfl ?_;rintro v L' ⟨b4,rfl,rfl⟩;refine yst (ac_storeAll rfl rfl (by(simp only[List.forall_mem_cons,List.not_mem_nil,false_implies,implies_true,svVal_one,and_true,true_and,and_self];first|done|simp[Value.oneCell'])) sizeOf88 zrp (by rfl) (by rfl)) ?_;refine gy 8 ?_;refine ysp 16 rfl (fun h334=>?_) (fun h334=>?_)
 ·refine gy 15 ?_;have hbad:decMsg s=(.zero,4):=decMsg_bad (by unfold BadM;rw[hde];dsimp only;omega);refine y (ev_be rfl) rfl ?_;refine yst (ac_storeN rfl rfl (msgC_one .zero) sizeOf34 zrp rfl (by simp[MsgM.cells]) rfl) ?_;refine gy 5 ?_;refine kretct results15 rfl rfl isAgg34 sizeOf34 zin (rfl) (L1:=R) zge ?_;exact⟨_,⟨by(rw[hbad];rfl),rfl⟩,by rfl⟩
 refine gy 2 ?_;refine ygo ?_;refine y (ev_lenSv rfl underlying57 (by assumption)) rfl ?_;refine gy 3 ?_;refine ysp 22 rfl (fun h347=>?_) (fun h347=>?_)
 ·refine gy 9 ?_;have hbad:decMsg s=(.zero,4):=decMsg_bad (by unfold BadM;rw[hde];dsimp only;omega);refine y (ev_be rfl) rfl ?_;refine yst (ac_storeN rfl rfl (msgC_one .zero) sizeOf34 zrp rfl (by simp[MsgM.cells]) rfl) ?_;refine gy 5 ?_;refine kretct results15 rfl rfl isAgg34 sizeOf34 zin (rfl) (L1:=R) zge ?_;exact⟨_,⟨by(rw[hbad];rfl),rfl⟩,by rfl⟩
 refine gy 2 ?_;refine ygo ?_;refine y (ev_lenSv rfl underlying86 (by assumption)) rfl ?_;refine gy 4 ?_;refine cc rfl (fun h357=>?_) (fun h357=>?_)
 ·refine gc 1 ?_;have hbad:decMsg s=(.zero,4):=decMsg_bad (by unfold BadM;rw[hde];dsimp only;omega);refine y (ev_be rfl) rfl ?_;refine yst (ac_storeN rfl rfl (msgC_one .zero) sizeOf34 zrp rfl (by simp[MsgM.cells]) rfl) ?_;refine gy 5 ?_;refine kretct results15 rfl rfl isAgg34 sizeOf34 zin (rfl) (L1:=R) zge ?_;exact⟨_,⟨by(rw[hbad];rfl),rfl⟩,by rfl⟩
 refine gc 3 ?_;obtain⟨k,ns,ts⟩:=rc;dsimp only at*;obtain⟨n0,n1,n2,n3,n4,n5,n6,n7,n8,n9,rfl⟩:=len10 (l:=ns) (by omega);obtain⟨x0,x1,rfl⟩:=len2 (l:=ts) (by omega);have her:er=0:=by omega
 subst her;have hdec:=decMsg_is hde;refine gy 8 ?_;refine y (ev_ixV (by assumption) rfl rfl underlying57 sizeOf2 (by omega) (by omega)) rfl ?_;refine y (ev_loadV 3 hvn zge rfl isAgg2 (by rfl) rfl) rfl ?_;refine yci (x11Within) call39 ?_;refine gy 2 ?_;refine ysp 36 rfl (fun h370=>?_) (fun h370=>?_)
 ·have hm0:(⟨k,n0,n1,n2,n3,n4,n5,n6,n7,n8,n9,x0,x1⟩:MsgM).may=false:=nmay_blk (by simpa using h370);refine gy 17 ?_;refine y (ev_be rfl) rfl ?_;refine yst (ac_storeN rfl rfl (msgC_one .zero) sizeOf34 zrp rfl (by simp[MsgM.cells]) rfl) ?_;refine gy 5 ?_;refine kretct results15 rfl rfl isAgg34 sizeOf34 zin (rfl) (L1:=R) zge ?_;exact⟨_,⟨by(rw[hdec,if_neg (by rw[hm0];exact Bool.false_ne_true)];rfl),rfl⟩,by rfl⟩
 refine gy 1 ?_;refine ygo ?_;refine y (ev_ixV (by assumption) rfl rfl underlying57 sizeOf2 (by omega) (by omega)) rfl ?_;refine ygo ?_;refine y (ev_loadV 4 hvn zge rfl isAgg2 (by rfl) rfl) rfl ?_;refine ygo ?_;refine yci (x11Within) call39 ?_;refine gy 3 ?_;refine ysp 43 rfl (fun h384=>?_) (fun h384=>?_)
 ·have hm0:(⟨k,n0,n1,n2,n3,n4,n5,n6,n7,n8,n9,x0,x1⟩:MsgM).may=false:=nmay_cl (by simpa using h384);refine gy 10 ?_;refine y (ev_be rfl) rfl ?_;refine yst (ac_storeN rfl rfl (msgC_one .zero) sizeOf34 zrp rfl (by simp[MsgM.cells]) rfl) ?_;refine gy 5 ?_;refine kretct results15 rfl rfl isAgg34 sizeOf34 zin (rfl) (L1:=R) zge ?_;exact⟨_,⟨by(rw[hdec,if_neg (by rw[hm0];exact Bool.false_ne_true)];rfl),rfl⟩,by rfl⟩
 refine gy 1 ?_;refine ygo ?_;refine y (ev_ixV (by assumption) rfl rfl underlying57 sizeOf2 (by omega) (by omega)) rfl ?_;refine ygo ?_;refine y (ev_loadV 5 hvn zge rfl isAgg2 (by rfl) rfl) rfl ?_;refine ygo ?_;refine yci (x11Within) call39 ?_;refine gy 4 ?_;refine cc rfl (fun h395=>?_) (fun h395=>?_)
 ·have hm0:(⟨k,n0,n1,n2,n3,n4,n5,n6,n7,n8,n9,x0,x1⟩:MsgM).may=false:=nmay_e (by simpa using h395);refine gc 1 ?_;refine y (ev_be rfl) rfl ?_;refine yst (ac_storeN rfl rfl (msgC_one .zero) sizeOf34 zrp rfl (by simp[MsgM.cells]) rfl) ?_;refine gy 5 ?_;refine kretct results15 rfl rfl isAgg34 sizeOf34 zin (rfl) (L1:=R) zge ?_;exact⟨_,⟨by(rw[hdec,if_neg (by rw[hm0];exact Bool.false_ne_true)];rfl),rfl⟩,by rfl⟩
 refine gc 3 ?_;refine cdraw 43 (od [42] 43 0) (_) Tryz.mixed (by kernel_rfl) .refl ?_;refine gh 3 ?_;refine hr rfl (ev_ixV (by assumption) rfl rfl underlying57 sizeOf2 (by omega) (by omega)) rfl ?_;refine hr rfl (ev_loadV 0 hvn zge rfl isAgg2 (by rfl) rfl) rfl ?_;refine gh 1 ?_;refine hr rfl (ev_ixV (by assumption) rfl rfl underlying57 sizeOf2 (by omega) (by omega)) rfl ?_;refine hr rfl (ev_loadV 1 hvn zge rfl isAgg2 (by rfl) rfl) rfl ?_;refine gh 1 ?_;refine hr rfl (ev_ixV (by assumption) rfl rfl underlying57 sizeOf2 (by omega) (by omega)) rfl ?_;refine hr rfl (ev_loadV 2 hvn zge rfl isAgg2 (by rfl) rfl) rfl ?_;refine gh 1 ?_;refine hr rfl (ev_ixV (by assumption) rfl rfl underlying57 sizeOf2 (by omega) (by omega)) rfl ?_;refine hr rfl (ev_loadV 3 hvn zge rfl isAgg2 (by rfl) rfl) rfl ?_;refine gh 1 ?_;refine hr rfl (ev_ixV (by assumption) rfl rfl underlying57 sizeOf2 (by omega) (by omega)) rfl ?_;refine hr rfl (ev_loadV 4 hvn zge rfl isAgg2 (by rfl) rfl) rfl ?_;refine gh 1 ?_;refine hr rfl (ev_ixV (by assumption) rfl rfl underlying57 sizeOf2 (by omega) (by omega)) rfl ?_;refine hr rfl (ev_loadV 5 hvn zge rfl isAgg2 (by rfl) rfl) rfl ?_;refine gh 1 ?_;refine hr rfl (ev_ixV (by assumption) rfl rfl underlying57 sizeOf2 (by omega) (by omega)) rfl ?_;refine hr rfl (ev_loadV 6 hvn zge rfl isAgg2 (by rfl) rfl) rfl ?_;refine gh 1 ?_;refine hr rfl (ev_ixV (by assumption) rfl rfl underlying57 sizeOf2 (by omega) (by omega)) rfl ?_;refine hr rfl (ev_loadV 7 hvn zge rfl isAgg2 (by rfl) rfl) rfl ?_;refine gh 1 ?_;refine hr rfl (ev_ixV (by assumption) rfl rfl underlying57 sizeOf2 (by omega) (by omega)) rfl ?_;refine hr rfl (ev_loadV 8 hvn zge rfl isAgg2 (by rfl) rfl) rfl ?_;refine gh 1 ?_;refine hr rfl (ev_ixV (by assumption) rfl rfl underlying57 sizeOf2 (by omega) (by omega)) rfl ?_;refine hr rfl (ev_loadV 9 hvn zge rfl isAgg2 (by rfl) rfl) rfl ?_;refine hr rfl (ev_buildA (vs:=[i64 n6,i64 n7,i64 n8,i64 n9]) (zs:=_) rfl underlying32 zeroValue32 rfl sizeOf2 ⟨⟨_,_,rfl,(by rfl),(by decide)⟩,⟨⟨_,_,rfl,(by rfl),(by decide)⟩,⟨⟨_,_,rfl,(by rfl),(by decide)⟩,⟨⟨_,_,rfl,(by rfl),(by decide)⟩,trivial⟩⟩⟩⟩ (by dsimp[fillL,splice,vcells]<;>rfl)) rfl ?_;refine gh 2 ?_;refine hr rfl (ev_ixV htn rfl rfl underlying86 sizeOf9 (by simp) (by simp)) rfl ?_;refine hr rfl (ev_loadV 0 htn zge rfl isAgg9 (by simp) rfl) rfl ?_;refine gh 2 ?_;refine hr rfl (ev_ixV htn rfl rfl underlying86 sizeOf9 (by simp) (by simp)) rfl ?_;refine hr rfl (ev_loadV 1 htn zge rfl isAgg9 (by simp) rfl) rfl ?_;refine hr rfl (ev_bd (MsgM.cells ⟨k,n0,n1,n2,n3,n4,n5,n6,n7,n8,n9,x0,x1⟩)) rfl ?_;refine ha rfl (ac_alloc zeroValue34 rfl) rfl ?_;rintro v L' ⟨b7,rfl,rfl⟩;refine⟨zge,?_⟩;refine gh 1 ?_;refine yst (ac_storeAll rfl rfl (msgC_one _) sizeOf34 zrp rfl rfl) ?_;refine gy 4 ?_;refine y (ev_loadAll rfl isAgg34 sizeOf34 zin (by rfl)) rfl ?_;refine yci (x11May (m:=⟨k,n0,n1,n2,n3,n4,n5,n6,n7,n8,n9,x0,x1⟩)) call40 ?_;refine gy 3 ?_;refine cc rfl (fun h446=>?_) (fun h446=>?_)
 ·refine gc 1 ?_;refine y (ev_be rfl) rfl ?_;refine yst (ac_storeN rfl rfl (msgC_one .zero) sizeOf34 zrp rfl (by simp[MsgM.cells]) rfl) ?_;refine gy 5 ?_;refine kretct results15 rfl rfl isAgg34 sizeOf34 zin (rfl) (L1:=R) zge ?_;exact⟨_,⟨by(rw[hdec,if_neg (by simp_all)];rfl),rfl⟩,by rfl⟩
 refine gc 3 ?_;refine y (ev_loadAll rfl isAgg34 sizeOf34 zin (by rfl)) rfl ?_;refine yst (ac_storeN rfl rfl (msgC_one ⟨k,n0,n1,n2,n3,n4,n5,n6,n7,n8,n9,x0,x1⟩) sizeOf34 zrp rfl (by simp[MsgM.cells]) rfl) ?_;refine gy 4 ?_;refine kretct results15 rfl rfl isAgg34 sizeOf34 zin (rfl) (L1:=R) zge ?_;exact⟨_,⟨by(rw[hdec,if_pos (by simp_all)];rfl),rfl⟩,by rfl⟩
end W
end Go.Proofs
namespace Go.Sl
open Go.ChangeShapes Go.WideShapes Go.ChangeAt Go.RowKit Go.Deep
structure ActN where
 kind:Int
 n:Int
 fr:Int
 to:Int
 m:MsgM
 s:Bytes
 kv:Value
 ks:Keeps
def ActN.cells(a:ActN):List Value:=[.int .i64 a.kind,.int .i64 a.n,.int .i64 a.fr,.int .i64 a.to]++a.m.cells++[.string ⟨a.s.toArray⟩,a.kv]
structure ActN.ok [Env](R:List Seg)(a:ActN):Prop where
 keeps:RdV R a.kv a.ks.length (keepsV a.ks)
 n: -9223372036854775808≤a.n∧a.n≤9223372036854775807
theorem ActN.ok.mono [Env]{R R':List Seg}{a:ActN}(h:a.ok R)(hg:Ge R' R):a.ok R':=⟨h.keeps.mono hg,h.n⟩
def actnsV(l:List ActN):List Value:=(l.map ActN.cells).flatten
theorem actnsV_get{l:List ActN}{i:Nat}{a:ActN}(h:l[i]? =some a):((actnsV l).drop (i*19)).take 19=a.cells:=flat_at (f:=ActN.cells) (k:=19) (fun _=>rfl) l i a h
section
variable {H : Type} {enc : TypeId × Value → H} {P : Program} {W : World} {base : Nat} {spare : Nat → Bool} {held : Bool}
theorem open_actn{e n:Nat}{cs:List Value}{y:DataW H × List MemPlace}{f0 f1 f2 f2' f3 f4 f5 g0 g1:Field}{k:TypeId}(he:P.underlying e=some (.struct #[f0,f1,f2,f2',f3,f4,f5]))(hat:fieldsAt P #[f0,f1,f2,f2',f3,f4,f5] [(0,1),(1,1),(2,1),(3,1),(4,13),(17,1),(18,1)]=true)(hC:P.cellsOf e=19)
  (h0:P.underlying f0.type=some (.int .i64)) (h1:P.underlying f1.type=some (.int .i64)) (h2:P.underlying f2.type=some (.int .i64)) (h2':P.underlying f2'.type=some (.int .i64))
  (h3: ∀n cs y,DataW.trod enc P W base spare held n f3.type cs=some y→ ∃m:MsgM,cs=m.cells) (h4:P.underlying f4.type=some .string)
  (h5:P.underlying f5.type=some (.slice k)) (hk:P.underlying k=some (.struct #[g0,g1])) (honek:oneCellFields P #[g0,g1]=true) (hCk:P.cellsOf k=2) (hg0:P.underlying g0.type=some (.int .i64)) (hg1:P.underlying g1.type=some (.int .i64))
  (h:DataW.trod enc P W base spare held n e cs=some y): ∃a:ActN,cs=a.cells∧@ActN.ok (envAt W) [baseSeg W] a:=by
 obtain⟨xs,n',_,_,hl,hxl,hf⟩:=DataW.trod_struct he h;rw[hC]at hl;have F:=open_fld hat hf (by simpa using hxl);obtain⟨_,q0⟩:=F 0 f0 0 1 rfl rfl;obtain⟨_,q1⟩:=F 1 f1 1 1 rfl rfl;obtain⟨_,q2⟩:=F 2 f2 2 1 rfl rfl;obtain⟨_,q2'⟩:=F 3 f2' 3 1 rfl rfl;obtain⟨_,q3⟩:=F 4 f3 4 13 rfl rfl;obtain⟨_,q4⟩:=F 5 f4 17 1 rfl rfl;obtain⟨_,q5⟩:=F 6 f5 18 1 rfl rfl;obtain⟨n0,e0,-⟩:=open_i64 h0 q0;obtain⟨n1,e1,b1⟩:=open_i64 h1 q1;obtain⟨n2,e2,-⟩:=open_i64 h2 q2;obtain⟨n2',e2',-⟩:=open_i64 h2' q2';obtain⟨m,e3⟩:=h3 _ _ _ q3;obtain⟨s4,e4⟩:=open_str h4 q4;obtain⟨kv,ks,e5,hkk,_⟩:=open_keeps h5 hk honek hCk hg0 hg1 q5;refine⟨⟨n0,n1,n2,n2',m,s4,kv,ks⟩,?_,@ActN.ok.mk (envAt W) _ _ hkk b1⟩
 match cs,hl with
 | [c0,c1,c2,c2',c3,c4,c5,c6,c7,c8,c9,c10,c11,c12,c13,c14,c15,c16,c17],_=>
  simp at e0 e1 e2 e2' e3 e4 e5;subst e0 e1 e2 e2' e4 e5;simp[ActN.cells,←e3]
structure ShapeM where
 id:Int
 serial:Int
 sectors:Int
 blocks:Int
 lease:Int
 patience:Int
def ShapeM.cells(x:ShapeM):List Value:=[iV x.id,iV x.serial,iV x.sectors,iV x.blocks,iV x.lease,iV x.patience]
theorem open_shape{e n:Nat}{cs:List Value}{y:DataW H × List MemPlace}{f0 f1 f2 f3 f4 f5:Field}(he:P.underlying e=some (.struct #[f0,f1,f2,f3,f4,f5]))(hat:fieldsAt P #[f0,f1,f2,f3,f4,f5] [(0,1),(1,1),(2,1),(3,1),(4,1),(5,1)]=true)(hC:P.cellsOf e=6)
  (h0:P.underlying f0.type=some (.int .i64)) (h1:P.underlying f1.type=some (.int .i64)) (h2:P.underlying f2.type=some (.int .i64)) (h3:P.underlying f3.type=some (.int .i64)) (h4:P.underlying f4.type=some (.int .i64)) (h5:P.underlying f5.type=some (.int .i64))
  (h:DataW.trod enc P W base spare held n e cs=some y): ∃x:ShapeM,cs=x.cells:=by
 obtain⟨xs,n',_,_,hl,hxl,hf⟩:=DataW.trod_struct he h;rw[hC]at hl;have F:=open_fld hat hf (by simpa using hxl);obtain⟨_,q0⟩:=F 0 f0 0 1 rfl rfl;obtain⟨_,q1⟩:=F 1 f1 1 1 rfl rfl;obtain⟨_,q2⟩:=F 2 f2 2 1 rfl rfl;obtain⟨_,q3⟩:=F 3 f3 3 1 rfl rfl;obtain⟨_,q4⟩:=F 4 f4 4 1 rfl rfl;obtain⟨_,q5⟩:=F 5 f5 5 1 rfl rfl;obtain⟨n0,e0,-⟩:=open_i64 h0 q0;obtain⟨n1,e1,-⟩:=open_i64 h1 q1;obtain⟨n2,e2,-⟩:=open_i64 h2 q2;obtain⟨n3,e3,-⟩:=open_i64 h3 q3;obtain⟨n4,e4,-⟩:=open_i64 h4 q4;obtain⟨n5,e5,-⟩:=open_i64 h5 q5
 match cs,hl with
 | [c0,c1,c2,c3,c4,c5],_=>
  simp at e0 e1 e2 e3 e4 e5;subst e0 e1 e2 e3 e4 e5;exact⟨⟨n0,n1,n2,n3,n4,n5⟩,rfl⟩
end
end Go.Sl
namespace Go.Sl
def largeB(a:ActN):Bool:=decide ((1000:Int)<(a.s.length:Int))||decide ((600:Int)<(a.ks.length:Int))||decide ((1000:Int)<(a.m.data.length:Int))||decide ((1000:Int)<(a.m.row.length:Int))
def letN(a:ActN):LetM:=⟨a.fr,a.to,if a.s=[]then encMsg a.m else a.s⟩
theorem encMsg_len(m:MsgM):(encMsg m).length≤1000:=by
 by_cases h:m.may=true
 · unfold encMsg;rw[if_pos h];exact recB_len (msgR_may h)
 · rw[encMsg_no (by simpa using h)];exact Nat.zero_le _
theorem letN_len{a:ActN}(h:largeB a=false):(letN a).body.length≤1000:=by
 unfold largeB at h;simp only[Bool.or_eq_false_iff,decide_eq_false_iff_not]at h;unfold letN;dsimp only;split
 · exact encMsg_len _
 · omega
/-- What an act but failures makes of a node. -/
def NodM.step(n:NodM)(a:ActN):NodM:=if a.kind=0 then(n.take (letN a)).2 else if a.kind=1 then n.tick else n
/-- What it tells. -/
def NodM.told(n:NodM)(a:ActN):List LetM:=if a.kind=0∨a.kind=1 then(n.step a).out else []
theorem NodM.ok.step{n:NodM}{K:Nat}(h:n.ok K)(a:ActN):(n.step a).ok (K+140):=by
 unfold NodM.step;split
 · exact(h.take _).le (by omega)
 split
 · exact h.tick
 · exact h.le (by omega)
/-- A formatted node; none: none. -/
def beginN(x:ShapeM):Option NodM:=
 if 40<x.sectors∨x.sectors<0 then none else
 if(nodFormat (Dev.new x.sectors.toNat)).1≠0 then none else
 if(nodOpen x.id x.serial (nodFormat (Dev.new x.sectors.toNat)).2 x.blocks x.lease x.patience).1≠0 then none else
 some (nodOpen x.id x.serial (nodFormat (Dev.new x.sectors.toNat)).2 x.blocks x.lease x.patience).2
theorem nodFormat_ok{D:Dev}(hD:D.ok):(nodFormat D).2.ok:=by
 unfold nodFormat;split
 ·exact hD
 ·rename_i h
  exact(Go.Sl.put_ok (openC_ok (Classical.not_not.1 h)).1 hD _).2
theorem beginN_ok{x:ShapeM}{n:NodM}(h:beginN x=some n):n.ok 0:=by
 unfold beginN at h;split at h
 · cases h
 split at h
 · cases h
 split at h
 · cases h
 rename_i h1 h2 h3
 cases h;exact nodOpen_ok (nodFormat_ok (Dev.new_ok (by omega))) (Classical.not_not.1 h3)
end Go.Sl
namespace Go.Proofs
open _root_.Go.Proofs.Tryz
open Go Go.Sl
namespace W
set_option maxHeartbeats 4000000
abbrev acV(x:ActN):Value:= .agg x.cells.toArray
theorem letsV_get{l:List LetM}{i:Nat}{x:LetM}(h:l[i]? =some x):((letsV l).drop (i*3)).take 3=x.cells:=flV_get let3 h
theorem actn_one{x:ActN}(h: ∃b c,x.kv= .slice b x.ks.length c): ∀u∈x.cells,u.oneCell'=true:=by
 obtain⟨b,c,h⟩:=h;intro u hu;simp only[ActN.cells,MsgM.cells,List.cons_append,List.nil_append,List.mem_cons,List.not_mem_nil,or_false]at hu;rcases hu with rfl|rfl|rfl|rfl|rfl|rfl|rfl|rfl|rfl|rfl|rfl|rfl|rfl|rfl|rfl|rfl|rfl|rfl|rfl<;>first|rfl|(rw[h];rfl)
theorem nLarge [Env]{R:List Seg}{x:ActN}(hx:x.ok R):Con Tryz.prog 14 [acV x] [] R (Is (.bool (largeB x)) []):=by
 have hkl:=hx.keeps.lenVal;refine con_enter func14 ntmps14 rfl rfl ?_;refine gc 1 ?_;refine ya (ac_box (vs:=x.cells) rfl rfl) rfl ?_;rintro v L' ⟨b1,rfl,rfl⟩;refine gy 6 ?_;refine y (ev_lenStr rfl underlying9) rfl ?_;refine gy 2 ?_;refine ysp 7 rfl (fun h8=>?_) (fun h8=>?_)
 ·refine gy 23 ?_;refine kretv results14 rfl (L1:=[]++R) zge ?_;refine⟨_,⟨?_,rfl⟩,rfl⟩;(unfold largeB;simp_all)
 refine gy 2 ?_;refine ygo ?_;refine y (ev_lenV rfl underlying35 hkl) rfl ?_;refine gy 3 ?_;refine ysp 13 rfl (fun h21=>?_) (fun h21=>?_)
 ·refine gy 17 ?_;refine kretv results14 rfl (L1:=[]++R) zge ?_;refine⟨_,⟨?_,rfl⟩,rfl⟩;(unfold largeB;simp_all)
 refine gy 3 ?_;refine ygo ?_;refine y (ev_lenStr rfl underlying9) rfl ?_;refine gy 3 ?_;refine ysp 20 rfl (fun h33=>?_) (fun h33=>?_)
 ·refine gy 10 ?_;refine kretv results14 rfl (L1:=[]++R) zge ?_;refine⟨_,⟨?_,rfl⟩,rfl⟩;(unfold largeB;simp_all)
 refine gy 3 ?_;refine ygo ?_;refine y (ev_lenStr rfl underlying9) rfl ?_;refine gy 6 ?_;refine kretv results14 rfl (L1:=[]++R) zge ?_;refine⟨_,⟨?_,rfl⟩,rfl⟩;(unfold largeB;simp_all;omega)
theorem nLetter [Env]{R:List Seg}{x:ActN}:Con Tryz.prog 16 [acV x] [] R (Is (.agg (letN x).cells.toArray) []):=by
 refine con_enter func16 ntmps16 rfl rfl ?_;refine gc 1 ?_;refine ya (ac_box (vs:=x.cells) rfl rfl) rfl ?_;rintro v L' ⟨b1,rfl,rfl⟩;refine ya (ac_alloc zeroValue42 rfl) rfl ?_;rintro v L' ⟨b2,rfl,rfl⟩;refine gy 11 ?_;refine y (ev_eqlL (p:=x.s) (q:=[]) rfl rfl) rfl ?_;refine gy 2 ?_;refine cc rfl (fun h50=>?_) (fun h50=>?_)
 ·have hle:letN x=⟨x.fr,x.to,encMsg x.m⟩:=by unfold letN;rw[if_pos (by simpa using h50)]
  refine gc 2 ?_;refine y (ev_loadN (u:=x.m.cells) rfl isAgg34 sizeOf34 zin rfl rfl) rfl ?_;refine yci (x11Encode (m:=x.m)) call26 ?_;refine gy 12 ?_;refine y (ev_be rfl) rfl ?_;refine yst (ac_storeAll rfl rfl (by simp[Value.oneCell']) sizeOf42 zrp (by rfl) (by rfl)) ?_;refine gy 3 ?_;refine kretc results16 rfl isAgg42 sizeOf42 zin (rfl) (L1:=R) zge ?_;rw[hle];exact⟨_,⟨rfl,rfl⟩,rfl⟩
 have hle:letN x=⟨x.fr,x.to,x.s⟩:=by unfold letN;rw[if_neg (by simpa using h50)]
 refine gc 8 ?_;refine y (ev_be rfl) rfl ?_;refine yst (ac_storeAll rfl rfl (by simp[Value.oneCell']) sizeOf42 zrp (by rfl) (by rfl)) ?_;refine gy 3 ?_;refine kretc results16 rfl isAgg42 sizeOf42 zin (rfl) (L1:=R) zge ?_;rw[hle];exact⟨_,⟨rfl,rfl⟩,rfl⟩
end W
end Go.Proofs