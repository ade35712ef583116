/- A part of the proof. -/
import Derived.Test.YtlignadmmopdmaaGreatUn
import Derived.Test.YtlignadmmopdmaaGreatN46
import Derived.Test.YtlignadmmopdmaaGreatNodX
set_option linter.unusedVariables false
set_option linter.unusedSimpArgs false
set_option linter.constructorNameAsVariable false
namespace Go.Proofs
open _root_.Go.Proofs.Tryz
open Go Go.Sl
namespace W
set_option maxHeartbeats 4000000
theorem and1{x:Int}(h:0≤x∧x≤255):bAnd .u8 x 1=0∨bAnd .u8 x 1=1:=by
 have key: ∀n:Nat,n<256→bAnd .u8 (n:Int) 1=0∨bAnd .u8 (n:Int) 1=1:=by decide+kernel
 obtain⟨n,rfl⟩:=Int.eq_ofNat_of_zero_le h.1;exact key n (by omega)
theorem ser_cases(s:Int):N62 s∨s<0∨(¬s<0∧4611686018427387904<s):=by unfold N62;omega
/-- A letter of the witness' is handed over. -/
theorem nSay2 [Env]{R:List Seg}{F:NF}{V:NV}{n:NodM}{m:MsgM}{pb pk:Nat}{kk:Int}(hn:n.ok 950000)(hV:NVok V n)(hm:m.may=true)(h1:(n.take ⟨2,kk,encMsg m⟩).1=0)(h2:(n.take ⟨2,kk,encMsg m⟩).2.out=[]):
   Con Tryz.prog 33 ([.agg m.cells.toArray]++[ptr pb,ptr pk]) (sc pb [ptr F.p] 27::sc pk [i64 kk] 3::nodL F V n) R (fun v L'=> ∃V',v= .bool true∧NVok V' (n.take ⟨2,kk,encMsg m⟩).2∧L'=sc pb [ptr F.p] 27::sc pk [i64 kk] 3::nodL F V' (n.take ⟨2,kk,encMsg m⟩).2):=by
 refine con_enter func33 ntmps33 rfl rfl ?_;refine gc 1 ?_;refine ya (ac_box (vs:=m.cells) rfl rfl) rfl ?_;rintro v L' ⟨b3,rfl,rfl⟩;refine gy 4 ?_;refine y (ev_loadN (u:=m.cells) rfl isAgg34 sizeOf34 zin rfl rfl) rfl ?_;refine yci (x11Encode (m:=m)) call26 ?_;rw[if_pos hm];refine gy 10 ?_
 skip
 ·refine gy 10 ?_;refine y (ev_bd (LetM.cells ⟨2,kk,encMsg m⟩)) rfl ?_;refine ycall (nTake (V:=V) (n:=n) (l:=⟨2,kk,encMsg m⟩) hn hV (encMsg_len m)) rfl call27 ztk rfl ?_;rintro v L' ⟨V1,rfl,hV1,rfl⟩;have hlv: ∃b c,svVal V1.out 0= .slice b 0 c:=by have q:=(rdV_sv (L:=[outS V1 (n.take ⟨2,kk,encMsg m⟩).2]) .z hV1.out).lenVal;rw[h2]at q;exact q
  rw[h1,show(n.take ⟨2,kk,encMsg m⟩).2.out.length=0 by rw[h2];rfl];refine gy 8 ?_
  skip
  ·refine gy 4 ?_;refine ygo ?_;refine y (ev_lenV rfl underlying45 hlv) rfl ?_;refine gy 6 ?_;refine kretv results33 rfl (L1:=sc pb [ptr F.p] 27::sc pk [i64 kk] 3::nodL F V1 (n.take ⟨2,kk,encMsg m⟩).2++R) zge ?_;exact⟨_,⟨V1,rfl,hV1,rfl⟩,rfl⟩
theorem lawNFound [Env]{R:List Seg}{iv sv ov ep bv:Int}(hi:0≤iv∧iv≤255)(hbv:0≤bv∧bv≤255):Con Tryz.prog 9 [.int .u8 iv,i64 sv,i64 ov,i64 ep,.int .u8 bv] [] R (Is (.bool true) []):=by
 obtain⟨B,hB,hB9⟩: ∃B:Nat,IntKind.i64.wrap (IntKind.i64.wrap (bv.tmod 9)+1)=(B:Int)∧1≤B∧B≤9:=by
   have h1:0≤bv.tmod 9∧bv.tmod 9≤8:=by rw[Int.tmod_eq_emod_of_nonneg hbv.1];omega
   refine⟨(bv.tmod 9+1).toNat,?_,by omega,by omega⟩;rw[wr (show(_:Int)≤bv.tmod 9 by omega) (by omega),wr (by omega) (by omega)];omega
 obtain⟨kk,hkk,hid⟩: ∃kk:Int,IntKind.i64.wrap (bAnd .u8 iv 1)=kk∧(kk=0∨kk=1):=by
   have h1:=and1 hi;refine⟨_,rfl,?_⟩;rw[wr (by omega) (by omega)];exact h1
 have hD0:(Dev.new 20).ok:=Dev.new_ok (by decide);refine con_enter func9 ntmps9 rfl rfl ?_;refine gc 6 ?_;refine yci (awake16) call12 ?_
 skip
 ·refine gy 8 ?_;refine y (ev_rem rfl rfl (by decide)) rfl ?_;refine y (ev_conv rfl underlying5 underlying3) rfl ?_;refine gy 1 ?_;rw[hB];refine gy 4 ?_;refine ycall (secNew (n:=20) (by omega)) rfl call18 ztk rfl ?_;rintro v L' ⟨q27,rfl,rfl⟩;refine gy 6 ?_
  skip
  ·refine y (ev_eqlPnil rfl rfl underlying26) rfl ?_;refine gy 7 ?_;refine y (ev_and rfl rfl) rfl ?_;refine y (ev_conv rfl underlying5 underlying3) rfl ?_;rw[hkk];refine ya (ac_alloc zeroValue3 rfl) rfl ?_;rintro v L' ⟨b13,rfl,rfl⟩;refine yst (ac_store rfl rfl (by rfl) sizeOf3 zrp rfl rfl) ?_;refine gy 3 ?_;rcases ser_cases sv with hse|hneg|⟨hnn,hbig⟩
   ·refine gy 1 ?_;have hfn:=found_new (id:=kk) (serial:=sv) (B:=B) hid hse hB9;obtain⟨r0,hr0⟩: ∃z,nodOpen kk sv (Dev.new 20) B 5 5=z:=⟨_,rfl⟩;have ho0:r0.2.ok 0:=by rw[←hr0];exact nodOpen_ok hD0 hfn.1
    rw[hr0]at hfn;obtain⟨fe0,fl0⟩:=hfn;have h0a: ¬sv<0:=by have:=hse.1;omega
    have h0b: ¬4611686018427387904<sv:=by have:=hse.2;omega
    refine gy 3 ?_;refine ycall (nOpenGood (id:=kk) (serial:=sv) (bl:=(B:Int)) (lease:=5) (patience:=5) hD0 hr0 fe0) rfl call19 ztk rfl ?_;rintro v L' ⟨F1,V1,hq1,rfl,hV1,rfl⟩;refine gy 3 ?_;refine ya (ac_alloc zeroValue27 rfl) rfl ?_;rintro v L' ⟨b14,rfl,rfl⟩;refine yst (ac_store rfl rfl (by rfl) sizeOf27 zrp rfl rfl) ?_;refine gy 7 ?_;rw[decide_eq_false h0a];refine gy 3 ?_;rw[decide_eq_false h0b];refine gy 8 ?_;subst hq1;refine gy 1 ?_;refine y (ev_eqlPnil rfl rfl underlying27) rfl ?_;refine gy 2 ?_;refine ygo ?_;refine yci (nView (F:=F1) (V:=V1) (n:=r0.2) (K:=0) ?nok68 ?nk68 ?vok68) call20 ?_
    case nok68=>exact ho0
    case nk68=>omega
    case vok68=>exact hV1
    refine ygo ?_;refine y (ev_field1 1 rfl underlying52 rfl isAgg4 rfl) rfl ?_;rw[show r0.2.view.lost=true from fl0.lost];refine gy 8 ?_
    refine y (ev_mkFunc (vs:= #[ptr b14,ptr b13]) (fun a hf=>by
        have h1:a.eval (.tmp 14)=ptr b14:=hf.ev rfl;have h2:a.eval (.tmp 13)=ptr b13:=hf.ev rfl;simp[h1,h2])) rfl ?_
    refine gy 5 ?_;refine ycall (nTick (V:=V1) (n:=r0.2) (ho0.le (by decide)) hV1) rfl call34 ztk rfl ?_;rintro v L' ⟨V2,rfl,hV2,rfl⟩;obtain⟨fl1,hlen1⟩:=fl0.tick;have ho1:r0.2.tick.ok 140:=ho0.tick;have hl1:=(rdV_sv (L:=[outS V2 r0.2.tick]) .z hV2.out).lenVal;generalize r0.2.tick=n1 at*;rw[hlen1]at hl1 ⊢;refine gy 6 ?_;refine y (ev_lenV rfl underlying45 hl1) rfl ?_
    skip
    ·refine gy 6 ?_;refine ysp 71 rfl (fun h85=>?_) (fun h85=>?_)
     ·refine gy 16 ?_;refine y (ev_lenV rfl underlying45 hl1) rfl ?_
      skip
      ·refine gy 6 ?_;refine kretv results9 rfl (L1:=R) zge ?_;exact⟨_,⟨by rfl,rfl⟩,by rfl⟩
     have e1: ¬ep<0:=h85;refine gy 4 ?_;refine ysp 75 rfl (fun h99=>?_) (fun h99=>?_)
     ·refine gy 12 ?_;refine y (ev_lenV rfl underlying45 hl1) rfl ?_
      skip
      ·refine gy 6 ?_;refine kretv results9 rfl (L1:=R) zge ?_;exact⟨_,⟨by rfl,rfl⟩,by rfl⟩
     have e2: ¬4611686018427387904<ep:=h99;refine gy 4 ?_;refine ysp 79 rfl (fun h111=>?_) (fun h111=>?_)
     ·refine gy 8 ?_;refine y (ev_lenV rfl underlying45 hl1) rfl ?_
      skip
      ·refine gy 6 ?_;refine kretv results9 rfl (L1:=R) zge ?_;exact⟨_,⟨by rfl,rfl⟩,by rfl⟩
     have e3: ¬ov<0:=h111;refine gy 5 ?_;refine cc rfl (fun h120=>?_) (fun h120=>?_)
     ·refine gc 2 ?_;refine y (ev_lenV rfl underlying45 hl1) rfl ?_
      skip
      ·refine gy 6 ?_;refine kretv results9 rfl (L1:=R) zge ?_;exact⟨_,⟨by rfl,rfl⟩,by rfl⟩
     have e4: ¬4611686018427387904<ov:=h120;have hep:N62 ep:=⟨by omega,by omega⟩;have hov:N62 ov:=⟨by omega,by omega⟩;refine gc 2 ?_;refine cseqT ?_;intro K22 hK22
     have hJr19: ∀x:NV × NodM,(x.2.ok 140∧NVok x.1 x.2∧FoundL kk sv B x.2)→Sk 178 K22 ([(16,.func (.func 33) #[] #[ptr b14,ptr b13]),(14,ptr b14),(13,ptr b13),(12,dp F1.q),(11,i64 B),(3,i64 ep),(1,i64 sv)]) (sc b14 [ptr F1.p] 27::sc b13 [i64 kk] 3::nodL F1 x.1 x.2++R):=by
      rintro⟨V4,n4⟩ hIr19;refine hK22 _ _ ?_;obtain⟨ho4,hV4,fl4⟩:=hIr19;dsimp only at ho4 hV4 fl4 ⊢;have hto4:=fl4.other hid hep hse (by decide:(0:Int)≤25∧(25:Int)≤31) (fun c=>absurd c.1 (by decide));obtain⟨ht1,ht2⟩:=fl4.clear.found hid hse hep;have ho5:n4.clear.ok 140:=ho4.clear;have ho6:=ho5.take ⟨2,kk,encMsg (lostE ep sv 0)⟩;refine gc 5 ?_;refine y (ev_bd (MsgM.cells (lostE ep sv 25))) rfl ?_;refine ycallF rfl (nSay2 (F:=F1) (V:=V4) (n:=n4) (m:=lostE ep sv 25) (pb:=b14) (pk:=b13) (kk:=kk) (ho4.le (by decide)) hV4 (lostE_may hep hse (by decide)) (by rw[hto4]) (by rw[hto4];rfl)) rfl call33 ztk rfl ?_;rintro v L' ⟨V5,rfl,hV5,rfl⟩;rw[hto4]at hV5 ⊢
      skip
      ·refine gy 3 ?_;refine ygo ?_;refine yci (nView (F:=F1) (V:=V5) (n:=n4.clear) (K:=140) ?nok133 ?nk133 ?vok133) call20 ?_
       case nok133=>exact ho5
       case nk133=>omega
       case vok133=>exact hV5
       refine ygo ?_;refine y (ev_field1 1 rfl underlying52 rfl isAgg4 rfl) rfl ?_;rw[show n4.clear.view.lost=true from fl4.clear.lost];refine gy 12 ?_;refine y (ev_bd (MsgM.cells (lostE ep sv 0))) rfl ?_;refine ycallF rfl (nSay2 (F:=F1) (V:=V5) (n:=n4.clear) (m:=lostE ep sv 0) (pb:=b14) (pk:=b13) (kk:=kk) (ho5.le (by decide)) hV5 (lostE_may hep hse (by decide)) ht1 ht2.out) rfl call33 ztk rfl ?_;rintro v L' ⟨V6,rfl,hV6,rfl⟩;obtain⟨n6,hn6⟩: ∃z,(n4.clear.take ⟨2,kk,encMsg (lostE ep sv 0)⟩).2=z:=⟨_,rfl⟩;rw[hn6]at hV6 ht2 ho6 ⊢;have hD6:n6.d.ok:=ho6.p.c.d;have hD7:(n6.d.crash []).ok:=(crash_up hD6 []).ok;obtain⟨r7,hr7⟩: ∃z,nodOpen kk sv (n6.d.crash []) B 5 5=z:=⟨_,rfl⟩;obtain⟨fb1,fb2,fb3,fb4,fb5,fe7,fl7,fep7,fbk7⟩:=ht2;rw[hr7]at fe7 fl7 fep7 fbk7;have ho7:r7.2.ok 0:=by rw[←hr7];exact nodOpen_ok hD7 (by rw[hr7];exact fe7)
       skip
       ·refine gy 8 ?_;refine yci (nView (F:=F1) (V:=V6) (n:=n6) (K:=210) ?nok144 ?nk144 ?vok144) call20 ?_
        case nok144=>exact ho6
        case nk144=>omega
        case vok144=>exact hV6
        refine ya (ac_alloc zeroValue52 rfl) rfl ?_;rintro v L' ⟨b18,rfl,rfl⟩;refine yst (ac_storeAll rfl rfl (view_one _) sizeOf52 zrp rfl rfl) ?_;refine gy 6 ?_;rw[show n6.view.lost=false from fb1]
        skip
        ·refine gy 3 ?_;rw[show n6.view.down=false from fb2];refine gy 4 ?_;rw[show n6.view.epoch=ep from fb3];refine gy 2 ?_;rw[show(!decide (ep=ep))=false by simp];refine gy 3 ?_;refine ygo ?_;refine ycall (nMarked (F:=F1) (V:=V6) (n:=n6) ?dok161) rfl call32 ztk rfl ?_
         case dok161=>exact ho6.p.dr
         rintro v L' ⟨s137,rfl,ok137,rfl⟩;refine ygo ?_;refine y (ev_lenV rfl underlying73 (rdV_sv (L:=[svSeg s137 3 (intsV n6.dr.blks)]) .z ok137).lenVal) rfl ?_;rw[fb4];refine gy 2 ?_;rw[show(!decide ((B:Int)=(B:Int)))=false by simp];refine gy 8 ?_;refine yci (secCrash (q:=F1.q) (D:=n6.d) (ks:=[]) ?ok167 ?ks167) call35 ?_
         case ok167=>exact hD6
         case ks167=>exact rdV_nil
         refine gy 7 ?_;refine ycall (nOpenGood (id:=kk) (serial:=sv) (bl:=(B:Int)) (lease:=5) (patience:=5) hD7 hr7 fe7) rfl call19 ztk rfl ?_;rintro v L' ⟨F8,V8,hq8,rfl,hV8,rfl⟩;refine gy 8 ?_
         skip
         ·refine gy 4 ?_;refine ygo ?_;refine y (ev_neqPnil rfl rfl underlying27) rfl ?_;refine gy 3 ?_;refine ygo ?_;refine yci (nView (F:=F8) (V:=V8) (n:=r7.2) (K:=0) ?nok186 ?nk186 ?vok186) call20 ?_
          case nok186=>exact ho7
          case nk186=>omega
          case vok186=>exact hV8
          refine ygo ?_;refine y (ev_field1 1 rfl underlying52 rfl isAgg4 rfl) rfl ?_;rw[show r7.2.view.lost=false from fl7];refine gy 4 ?_;refine ygo ?_;refine yci (nView (F:=F8) (V:=V8) (n:=r7.2) (K:=0) ?nok192 ?nk192 ?vok192) call20 ?_
          case nok192=>exact ho7
          case nk192=>omega
          case vok192=>exact hV8
          refine ygo ?_;refine y (ev_field1 2 rfl underlying52 rfl isAgg2 rfl) rfl ?_;rw[show r7.2.view.epoch=ep from fep7];refine gy 2 ?_;rw[decide_eq_true rfl];refine gy 3 ?_;refine ygo ?_;refine ycall (nMarked (F:=F8) (V:=V8) (n:=r7.2) ?dok199) rfl call32 ztk rfl ?_
          case dok199=>exact ho7.p.dr
          rintro v L' ⟨s173,rfl,ok173,rfl⟩;refine ygo ?_;refine y (ev_lenV rfl underlying73 (rdV_sv (L:=[svSeg s173 3 (intsV r7.2.dr.blks)]) .z ok173).lenVal) rfl ?_;rw[fbk7];refine gy 2 ?_;rw[decide_eq_true rfl];refine gy 5 ?_;refine kretv results9 rfl (L1:=R) zge ?_;exact⟨_,⟨by rfl,rfl⟩,by rfl⟩
     clear hK22;refine gc 5 ?_;refine ysp 89 rfl (fun h209=>?_) (fun h209=>?_)
     ·have hne: ¬ov=sv:=h209;have hto:=fl1.other hid hep hov (by decide:(0:Int)≤0∧(0:Int)≤31) (fun c=>hne c.2);refine gy 3 ?_;refine ygo ?_;refine y (ev_bd (MsgM.cells (lostE ep ov 0))) rfl ?_;refine ygo ?_;refine ycallF rfl (nSay2 (F:=F1) (V:=V2) (n:=n1) (m:=lostE ep ov 0) (pb:=b14) (pk:=b13) (kk:=kk) (ho1.le (by decide)) hV2 (lostE_may hep hov (by decide)) (by rw[hto]) (by rw[hto];rfl)) rfl call33 ztk rfl ?_;rintro v L' ⟨V3,rfl,hV3,rfl⟩;rw[hto]at hV3 ⊢
      skip
      ·refine gy 3 ?_;refine ygo ?_;refine yci (nView (F:=F1) (V:=V3) (n:=n1.clear) (K:=140) ?nok218 ?nk218 ?vok218) call20 ?_
       case nok218=>exact ho1.clear
       case nk218=>omega
       case vok218=>exact hV3
       refine ygo ?_;refine y (ev_field1 1 rfl underlying52 rfl isAgg4 rfl) rfl ?_;rw[show n1.clear.view.lost=true from fl1.clear.lost];refine gy 8 ?_;exact ksub zsub zge (hJr19 (V3,n1.clear) ⟨ho1.clear,hV3,fl1.clear⟩)
     refine gy 5 ?_
     skip
     ·refine gy 13 ?_;exact ksub zsub zge (hJr19 (V2,n1) ⟨ho1,hV2,fl1⟩)
   ·refine gy 1 ?_;have harg:nodArg kk sv 5 5:=by unfold nodArg;omega
    refine gy 3 ?_;refine yci (nOpenBad (id:=kk) (serial:=sv) (bl:=(B:Int)) (lease:=5) (patience:=5) hD0 harg) call19 ?_;refine gy 3 ?_;refine ya (ac_alloc zeroValue27 rfl) rfl ?_;rintro v L' ⟨b14,rfl,rfl⟩;refine yst (ac_store rfl rfl (by rfl) sizeOf27 zrp rfl rfl) ?_;refine gy 7 ?_;rw[decide_eq_true hneg];refine gy 9 ?_;refine y (ev_eqlPnil rfl rfl underlying27) rfl ?_;refine gy 9 ?_;refine kretv results9 rfl (L1:=R) zge ?_;exact⟨_,⟨by rfl,rfl⟩,by rfl⟩
   refine gy 1 ?_;have harg:nodArg kk sv 5 5:=by unfold nodArg;omega
   refine gy 3 ?_;refine yci (nOpenBad (id:=kk) (serial:=sv) (bl:=(B:Int)) (lease:=5) (patience:=5) hD0 harg) call19 ?_;refine gy 3 ?_;refine ya (ac_alloc zeroValue27 rfl) rfl ?_;rintro v L' ⟨b14,rfl,rfl⟩;refine yst (ac_store rfl rfl (by rfl) sizeOf27 zrp rfl rfl) ?_;refine gy 7 ?_;rw[decide_eq_false hnn];refine gy 3 ?_;rw[decide_eq_true hbig];refine gy 6 ?_;refine y (ev_eqlPnil rfl rfl underlying27) rfl ?_;refine gy 9 ?_;refine kretv results9 rfl (L1:=R) zge ?_;exact⟨_,⟨by rfl,rfl⟩,by rfl⟩
end W
end Go.Proofs