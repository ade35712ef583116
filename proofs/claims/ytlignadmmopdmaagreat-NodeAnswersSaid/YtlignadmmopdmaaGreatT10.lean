/- A part of the proof. -/
import Derived.Test.YtlignadmmopdmaaGreatUn
import Derived.Test.YtlignadmmopdmaaGreatT7
import Derived.Test.YtlignadmmopdmaaGreatGG
set_option linter.unusedVariables false
set_option linter.unusedSimpArgs false
set_option linter.constructorNameAsVariable false
namespace Go.Proofs
open _root_.Go.Proofs.Tryz
open Go Go.Sl
namespace W
abbrev str(t:Bytes):Value:= .string ⟨t.toArray⟩
theorem cSlot [Env]{R:List Seg}{gen:Int}{s:Bytes}(h1: -9223372036854775808≤gen)(h2:gen≤9223372036854775807):
   Con Tryz.prog 92 [i64 gen,str s] [] R (KSv 5 (slotM gen s).length 1 (bytesV (slotM gen s)) []):=by
 refine con_enter func92 ntmps92 rfl rfl ?_;refine gc 9 ?_;refine ysp 10 rfl (fun h5=>?_) (fun h5=>?_)
 ·refine gy 17 ?_;refine kretv results92 rfl (L1:=[svSeg none 5 []]++R) zge ?_
  have hno:slotM gen s=[]:=by
    unfold slotM;rw[if_neg (by rw[slotOk_iff];omega)]
  rw[hno];exact⟨_,⟨none,rfl,⟨rfl,rfl⟩,rfl⟩,rfl⟩
 refine gy 4 ?_;refine ysp 14 rfl (fun h14=>?_) (fun h14=>?_)
 ·refine gy 13 ?_;refine kretv results92 rfl (L1:=[svSeg none 5 []]++R) zge ?_
  have hno:slotM gen s=[]:=by
    unfold slotM;rw[if_neg (by rw[slotOk_iff];omega)]
  rw[hno];exact⟨_,⟨none,rfl,⟨rfl,rfl⟩,rfl⟩,rfl⟩
 refine gy 1 ?_;refine ygo ?_;refine y (ev_lenStr rfl underlying9) rfl ?_;refine gy 4 ?_;refine cc rfl (fun h21=>?_) (fun h21=>?_)
 ·refine gc 6 ?_;refine kretv results92 rfl (L1:=[svSeg none 5 []]++R) zge ?_
  have hno:slotM gen s=[]:=by
    unfold slotM;rw[if_neg (by rw[slotOk_iff];omega)]
  rw[hno];exact⟨_,⟨none,rfl,⟨rfl,rfl⟩,rfl⟩,rfl⟩
 refine gc 3 ?_;have hok:slotOk gen s=true:=by rw[slotOk_iff];omega
 have hmay:=slot_may hok;have henc:encM (slotR gen s)=(recB (slotR gen s),0):=by unfold encM;rw[if_pos (mayB_of hmay)]
 obtain⟨hlen,hlen2⟩:=slotB_len hok;refine gy 1 ?_;refine ya (ac_bsliceR rfl underlying57 sizeOf2 zeroValue2 rfl rfl rfl rfl ⟨⟨_,_,rfl,(by rfl),(by decide)⟩,trivial⟩ (by dsimp[fillL,splice,vcells,reps]<;>rfl)) rfl ?_;rintro v L' ⟨b21,rfl,rfl⟩;refine gy 1 ?_;refine ya (ac_bsliceR rfl underlying86 sizeOf9 zeroValue9 rfl rfl rfl rfl ⟨⟨_,_,rfl,(by rfl),(by decide)⟩,trivial⟩ (by dsimp[fillL,splice,vcells,reps]<;>rfl)) rfl ?_;rintro v L' ⟨b23,rfl,rfl⟩;refine y (ev_be rfl) rfl ?_;refine ycall (cEncode (r:=slotR gen s) ?hn28 ?ht28 ?sx28) rfl call94 ztk rfl ?_
 case hn28=>exact rdV_in zin rfl rfl
 case ht28=>exact rdV_in zin rfl rfl
 case sx28=>intro n hn;simp[slotR]at hn;subst hn;omega
 rintro v L' ⟨s25,rfl,ok25,rfl⟩;rw[henc]at ok25 ⊢;dsimp only at ok25 ⊢;have hsl:slotM gen s=framed (recB (slotR gen s)):=by unfold slotM;rw[if_pos hok]
 generalize recB (slotR gen s)=rb at*;refine gy 9 ?_;refine y (ev_lenSv rfl underlying55 (by assumption)) rfl ?_;refine y (ev_conv rfl underlying3 underlying5) rfl ?_;rw[wu8,show((rb.length:Nat):Int) % 256=((rb.length:Nat):Int)by omega];refine ya (ac_bsliceR rfl underlying55 sizeOf5 zeroValue5 rfl rfl rfl rfl ⟨⟨_,_,rfl,(by rfl),(by decide)⟩,trivial⟩ (by dsimp[fillL,splice,vcells,reps]<;>rfl)) rfl ?_;rintro v L' ⟨b31,rfl,rfl⟩;refine gy 1 ?_;refine ya (ac_append (s:=some (b31,1,[])) (xs:=[.int .u8 ((rb.length:Nat):Int)]) (m:=1) (k:=rb.length) (us:=bytesV rb) (size:=1) rfl rfl (by repeat first|exact .z|apply Pk.s) underlying55 underlying55 (by intro q hq;cases hq) typeInfo5 rfl rfl rfl ?ok39 ?src39 ?one39 ?big39) rfl ?_
 case ok39=>exact⟨Nat.le_refl _,by decide,rfl,rfl⟩
 case src39=>exact src_sv zin ok25
 case one39=>exact bytesV_one _
 case big39=>show(_+_)*2≤_;omega
 rintro v L' ⟨s33,rfl,ok33,rfl⟩;have hbl:1+rb.length=(UInt8.ofNat rb.length::rb).length:=by simp;omega
 rw[show [Value.int .u8 ((rb.length:Nat):Int)]++bytesV rb=bytesV (UInt8.ofNat rb.length::rb)by simp[bytesV];omega,hbl]at ok33 ⊢;have hbl2:(UInt8.ofNat rb.length::rb).length≤114:=by simp;omega
 have hfr:framed rb=be4 (sumM (UInt8.ofNat rb.length::rb))++(UInt8.ofNat rb.length::rb):=rfl;generalize UInt8.ofNat rb.length::rb=rc at*;refine gy 5 ?_;refine yci (cSum (bs:=rc) ?bs42 ?len42) call145 ?_
 case bs42=>exact rdV_sv zin ok33
 case len42=>omega
 have hsu:=sumM_lt rc;generalize sumM rc=su at*;refine gy 5 ?_;refine y (ev_shr rfl rfl (by decide)) rfl ?_;rw[show((su:Nat):Int).fdiv (2^(min (24:Int).toNat IntKind.u32.bits))=((su / 16777216:Nat):Int)from fdiv2 (k:=16777216)];refine y (ev_conv rfl underlying173 underlying5) rfl ?_;rw[wu8,show((su / 16777216:Nat):Int) % 256=((su / 16777216 % 256:Nat):Int)by omega];refine gy 1 ?_;refine y (ev_shr rfl rfl (by decide)) rfl ?_;rw[show((su:Nat):Int).fdiv (2^(min (16:Int).toNat IntKind.u32.bits))=((su / 65536:Nat):Int)from fdiv2 (k:=65536)];refine y (ev_conv rfl underlying173 underlying5) rfl ?_;rw[wu8,show((su / 65536:Nat):Int) % 256=((su / 65536 % 256:Nat):Int)by omega];refine gy 1 ?_;refine y (ev_shr rfl rfl (by decide)) rfl ?_;rw[show((su:Nat):Int).fdiv (2^(min (8:Int).toNat IntKind.u32.bits))=((su / 256:Nat):Int)from fdiv2 (k:=256)];refine y (ev_conv rfl underlying173 underlying5) rfl ?_;rw[wu8,show((su / 256:Nat):Int) % 256=((su / 256 % 256:Nat):Int)by omega];refine gy 1 ?_;refine y (ev_conv rfl underlying173 underlying5) rfl ?_;rw[wu8,show((su:Nat):Int) % 256=((su % 256:Nat):Int)by omega];refine ya (ac_bsliceR rfl underlying55 sizeOf5 zeroValue5 rfl rfl rfl rfl ⟨⟨_,_,rfl,(by rfl),(by decide)⟩,⟨⟨_,_,rfl,(by rfl),(by decide)⟩,⟨⟨_,_,rfl,(by rfl),(by decide)⟩,⟨⟨_,_,rfl,(by rfl),(by decide)⟩,trivial⟩⟩⟩⟩ (by dsimp[fillL,splice,vcells,reps]<;>rfl)) rfl ?_;rintro v L' ⟨b47,rfl,rfl⟩;refine gy 1 ?_;refine ya (ac_append (s:=some (b47,4,[])) (xs:=be4V su) (m:=4) (k:=rc.length) (us:=bytesV rc) (size:=1) rfl rfl (by repeat first|exact .z|apply Pk.s) underlying55 underlying55 (by intro q hq;cases hq) typeInfo5 rfl rfl rfl ?ok57 ?src57 ?one57 ?big57) rfl ?_
 case ok57=>exact⟨Nat.le_refl _,by decide,rfl,rfl⟩
 case src57=>exact src_sv zin ok33
 case one57=>exact bytesV_one _
 case big57=>show(_+_)*2≤_;omega
 rintro v L' ⟨s49,rfl,ok49,rfl⟩;rw[be4V_eq,←bytesV_append,show 4+rc.length=(be4 su++rc).length by simp[be4];omega,←hfr,←hsl]at ok49 ⊢;refine gy 4 ?_;refine kretv results92 rfl (L1:=[svSeg _ _ _]++R) zge ?_;exact⟨_,⟨s49,rfl,ok49,rfl⟩,rfl⟩
theorem cRead [Env]{R:List Seg}{v:Value}{bs:Bytes}(hb:RdY R v bs)(h5:5≤bs.length)(hl:bs.length≤1000):
   Con Tryz.prog 77 [v] [] R (Is (.tuple #[i64 (readT bs).1,str (readT bs).2.1,.bool (readT bs).2.2]) []):=by
 obtain⟨b0,b1,b2,b3,b4,r,rfl⟩:=five h5;have hv:=hb.rd;have hl0:=b0.toNat_lt;have hl1:=b1.toNat_lt;have hl2:=b2.toNat_lt;have hl3:=b3.toNat_lt;have hl4:=b4.toNat_lt;have hlr:(b0::b1::b2::b3::b4::r).length=r.length+5:=rfl;refine con_enter func77 ntmps77 rfl rfl ?_;refine gc 8 ?_;refine y (ev_ixV hv rfl rfl underlying55 sizeOf5 (by omega) (by omega)) rfl ?_;refine y (ev_loadV 4 hv zge rfl isAgg5 rfl rfl) rfl ?_;refine y (ev_conv rfl underlying5 underlying3) rfl ?_;rw[wr (by omega) (by omega)];refine gy 7 ?_;rw[wr (by omega) (by omega)];refine gy 1 ?_;refine y (ev_lenV rfl underlying55 (RdV.lenVal (by assumption))) rfl ?_;refine gy 3 ?_;refine cc rfl (fun h14=>?_) (fun h14=>?_)
 ·refine gc 1 ?_;have hrt:readT (b0::b1::b2::b3::b4::r)=(0,[],false):=readT_dich.1 (by unfold Unread;omega);refine gy 7 ?_;refine kretv3 results77 rfl rfl rfl (L1:=[]++R) zge ?_;rw[hrt];exact⟨_,⟨rfl,rfl⟩,rfl⟩
 have hle:b4.toNat≤r.length:=by omega
 have hd5:RdY R (vSl v 5 (5+b4.toNat) 1) (r.take b4.toNat):=by
   have:=hb.sl (lo:=5) (hi:=5+b4.toNat) (by omega) (by omega)
   rwa[show 5+b4.toNat- 5=b4.toNat by omega]at this
 have hd4:RdY R (vSl v 4 (5+b4.toNat) 1) ((b4::r).take (b4.toNat+1)):=by
   have:=hb.sl (lo:=4) (hi:=5+b4.toNat) (by omega) (by omega)
   rwa[show 5+b4.toNat- 4=b4.toNat+1 by omega]at this
 have hl6:((b4::r).take (b4.toNat+1)).length≤1000:=by simp;omega
 refine gc 3 ?_;refine cdraw 22 (od [] 22 0) (_) Tryz.mixed (by kernel_rfl) .refl ?_;refine gh 1 ?_;refine hr rfl (ev_ixV hv rfl rfl underlying55 sizeOf5 (by omega) (by omega)) rfl ?_;refine hr rfl (ev_loadV 0 hv zge rfl isAgg5 rfl rfl) rfl ?_;refine hr rfl (ev_conv rfl underlying5 underlying173) rfl ?_;refine hr rfl (ev_shl rfl rfl (by decide)) rfl ?_;refine gh 1 ?_;refine hr rfl (ev_ixV hv rfl rfl underlying55 sizeOf5 (by omega) (by omega)) rfl ?_;refine hr rfl (ev_loadV 1 hv zge rfl isAgg5 rfl rfl) rfl ?_;refine hr rfl (ev_conv rfl underlying5 underlying173) rfl ?_;refine hr rfl (ev_shl rfl rfl (by decide)) rfl ?_;refine hr rfl (ev_or rfl rfl) rfl ?_;refine gh 1 ?_;refine hr rfl (ev_ixV hv rfl rfl underlying55 sizeOf5 (by omega) (by omega)) rfl ?_;refine hr rfl (ev_loadV 2 hv zge rfl isAgg5 rfl rfl) rfl ?_;refine hr rfl (ev_conv rfl underlying5 underlying173) rfl ?_;refine hr rfl (ev_shl rfl rfl (by decide)) rfl ?_;refine hr rfl (ev_or rfl rfl) rfl ?_;refine gh 1 ?_;refine hr rfl (ev_ixV hv rfl rfl underlying55 sizeOf5 (by omega) (by omega)) rfl ?_;refine hr rfl (ev_loadV 3 hv zge rfl isAgg5 rfl rfl) rfl ?_;refine hr rfl (ev_conv rfl underlying5 underlying173) rfl ?_;refine hr rfl (ev_or rfl rfl) rfl ?_;rw[be32or hl0 hl1 hl2 hl3,show b0.toNat*16777216+b1.toNat*65536+b2.toNat*256+b3.toNat=ofBe4 (b0::b1::b2::b3::b4::r)from rfl];refine gh 8 ?_;rw[wr (by omega) (by omega),show(5:Int)+((b4.toNat:Nat):Int)=((5+b4.toNat:Nat):Int)by omega];refine y (ev_slLHV hv hb.cap rfl rfl rfl underlying55 sizeOf5 (by omega) (by omega) (by omega)) rfl ?_;refine ycall (cDecode (bs:=r.take b4.toNat) ?hb45) rfl call47 ztk rfl ?_
 case hb45=>exact hd5.mono zge
 rintro v L' ⟨sn45,st45,rfl,ok45,rfl⟩;obtain⟨hbad,hgood⟩:=@readT_dich b0 b1 b2 b3 b4 r;generalize decM (r.take b4.toNat)=de at*;obtain⟨rc,er⟩:=de;dsimp only at hbad hgood ok45 ⊢;have okn:=ok45.n;have okt:=ok45.t;unfold recV;have hvt:RdV [svSeg st45 9 (strsV rc.texts)] (svVal st45 rc.texts.length) rc.texts.length (strsV rc.texts):=rdV_sv .z okt;have hvn:RdV [svSeg sn45 2 (intsV rc.nums)] (svVal sn45 rc.nums.length) rc.nums.length (intsV rc.nums):=rdV_sv .z okn;refine gy 3 ?_;refine ya (ac_alloc zeroValue88 rfl) rfl ?_;rintro v L' ⟨b7,rfl,rfl⟩;refine yst (ac_storeAll rfl rfl (by(simp only[List.forall_mem_cons,List.not_mem_nil,false_implies,implies_true,svVal_one,and_true,true_and,and_self];first|done|simp[Value.oneCell'])) sizeOf88 zrp (by rfl) (by rfl)) ?_;refine gy 8 ?_;rw[wr (by omega) (by omega),show(5:Int)+((b4.toNat:Nat):Int)=((5+b4.toNat:Nat):Int)by omega];refine y (ev_slLHV hv hb.cap rfl rfl rfl underlying55 sizeOf5 (by omega) (by omega) (by omega)) rfl ?_;refine gy 1 ?_;refine yci (cCheck (bs:=(b4::r).take (b4.toNat+1)) ?bs57 ?len57) call135 ?_
 case bs57=>exact hd4.rd.mono zge
 case len57=>omega
 refine gy 2 ?_;refine ysp 55 rfl (fun h60=>?_) (fun h60=>?_)
 ·refine gy 46 ?_;have hrt:readT (b0::b1::b2::b3::b4::r)=(0,[],false):=hbad (by unfold Unread;omega);refine gy 7 ?_;refine kretv3 results77 rfl rfl rfl (L1:=[]++R) zge ?_;rw[hrt];exact⟨_,⟨rfl,rfl⟩,rfl⟩
 refine gy 4 ?_;refine ysp 59 rfl (fun h81=>?_) (fun h81=>?_)
 ·refine gy 42 ?_;have hrt:readT (b0::b1::b2::b3::b4::r)=(0,[],false):=hbad (by unfold Unread;omega);refine gy 7 ?_;refine kretv3 results77 rfl rfl rfl (L1:=[]++R) zge ?_;rw[hrt];exact⟨_,⟨rfl,rfl⟩,rfl⟩
 refine gy 5 ?_;refine ysp 64 rfl (fun h101=>?_) (fun h101=>?_)
 ·refine gy 37 ?_;have hrt:readT (b0::b1::b2::b3::b4::r)=(0,[],false):=hbad (by unfold Unread;omega);refine gy 7 ?_;refine kretv3 results77 rfl rfl rfl (L1:=[]++R) zge ?_;rw[hrt];exact⟨_,⟨rfl,rfl⟩,rfl⟩
 refine gy 2 ?_;refine ygo ?_;refine y (ev_lenSv rfl underlying57 (by assumption)) rfl ?_;refine gy 3 ?_;refine ysp 70 rfl (fun h120=>?_) (fun h120=>?_)
 ·refine gy 31 ?_;have hrt:readT (b0::b1::b2::b3::b4::r)=(0,[],false):=hbad (by unfold Unread;omega);refine gy 7 ?_;refine kretv3 results77 rfl rfl rfl (L1:=[]++R) zge ?_;rw[hrt];exact⟨_,⟨rfl,rfl⟩,rfl⟩
 refine gy 2 ?_;refine ygo ?_;refine y (ev_lenSv rfl underlying86 (by assumption)) rfl ?_;refine gy 3 ?_;refine ysp 76 rfl (fun h137=>?_) (fun h137=>?_)
 ·refine gy 25 ?_;have hrt:readT (b0::b1::b2::b3::b4::r)=(0,[],false):=hbad (by unfold Unread;omega);refine gy 7 ?_;refine kretv3 results77 rfl rfl rfl (L1:=[]++R) zge ?_;rw[hrt];exact⟨_,⟨rfl,rfl⟩,rfl⟩
 refine gy 2 ?_;refine ygo ?_;refine y (ev_ixV hvt rfl rfl underlying86 sizeOf9 (by omega) (by omega)) rfl ?_;refine ygo ?_;refine y (ev_loadV 0 hvt zge rfl isAgg9 rfl (strsV_get (head_get (d:=[]) (by omega)))) rfl ?_;refine ygo ?_;refine y (ev_lenStr rfl underlying9) rfl ?_;refine gy 3 ?_;refine ysp 84 rfl (fun h154=>?_) (fun h154=>?_)
 ·refine gy 17 ?_;have hrt:readT (b0::b1::b2::b3::b4::r)=(0,[],false):=hbad (by unfold Unread;omega);refine gy 7 ?_;refine kretv3 results77 rfl rfl rfl (L1:=[]++R) zge ?_;rw[hrt];exact⟨_,⟨rfl,rfl⟩,rfl⟩
 refine gy 2 ?_;refine ygo ?_;refine y (ev_ixV hvn rfl rfl underlying57 sizeOf2 (by omega) (by omega)) rfl ?_;refine ygo ?_;refine y (ev_loadV 0 hvn zge rfl isAgg2 rfl (intsV_get (head_get (d:=0) (by omega)))) rfl ?_;refine gy 3 ?_;refine ysp 91 rfl (fun h168=>?_) (fun h168=>?_)
 ·refine gy 10 ?_;have hrt:readT (b0::b1::b2::b3::b4::r)=(0,[],false):=hbad (by unfold Unread;omega);refine gy 7 ?_;refine kretv3 results77 rfl rfl rfl (L1:=[]++R) zge ?_;rw[hrt];exact⟨_,⟨rfl,rfl⟩,rfl⟩
 refine gy 2 ?_;refine ygo ?_;refine y (ev_ixV hvn rfl rfl underlying57 sizeOf2 (by omega) (by omega)) rfl ?_;refine ygo ?_;refine y (ev_loadV 0 hvn zge rfl isAgg2 rfl (intsV_get (head_get (d:=0) (by omega)))) rfl ?_;refine gy 4 ?_;refine cc rfl (fun h179=>?_) (fun h179=>?_)
 ·refine gc 1 ?_;have hrt:readT (b0::b1::b2::b3::b4::r)=(0,[],false):=hbad (by unfold Unread;omega);refine gy 7 ?_;refine kretv3 results77 rfl rfl rfl (L1:=[]++R) zge ?_;rw[hrt];exact⟨_,⟨rfl,rfl⟩,rfl⟩
 refine gc 3 ?_;refine cdraw 10 (od [] 10 0) (_) Tryz.mixed (by kernel_rfl) .refl ?_;have hrt:=hgood (by unfold Unread;omega);refine gh 2 ?_;refine hr rfl (ev_ixV hvn rfl rfl underlying57 sizeOf2 (by omega) (by omega)) rfl ?_;refine hr rfl (ev_loadV 0 hvn zge rfl isAgg2 rfl (intsV_get (head_get (d:=0) (by omega)))) rfl ?_;refine gh 2 ?_;refine hr rfl (ev_ixV hvt rfl rfl underlying86 sizeOf9 (by omega) (by omega)) rfl ?_;refine hr rfl (ev_loadV 0 hvt zge rfl isAgg9 rfl (strsV_get (head_get (d:=[]) (by omega)))) rfl ?_;refine gh 7 ?_;refine kretv3 results77 rfl rfl rfl (L1:=[]++R) zge ?_;rw[hrt];exact⟨_,⟨rfl,rfl⟩,rfl⟩
def celP(c:Nat)(q:Q3)(C:CellM):Seg:=sc c [dp q,i64 C.a,i64 C.b,i64 C.now,i64 C.gen,str C.text] 134
theorem secReadS [Env]{R:List Seg}{q:Q3}{D:Dev}{i:Int}(hD:D.ok)(h0:D.has i=0):Con Tryz.prog 76 [dp q,i64 i] [dev q D] R
   (fun v L'=> ∃s,v= .tuple #[svVal s (D.sec i).length,i64 0]∧svOk s (D.sec i).length 1 (bytesV (D.sec i))∧L'=[svSeg s 5 (bytesV (D.sec i)),dev q D]):=by
 refine(secRead hD).mono ?_;rintro v L (⟨h1,_⟩|⟨_,s,rfl,h2,rfl⟩)
 · exact absurd h0 h1
 exact⟨s,by rw[sec_length hD],by rw[sec_length hD];exact h2,rfl⟩
theorem cGet [Env]{R:List Seg}{c:Nat}{q:Q3}{C:CellM}:Con Tryz.prog 48 [ptr c] [celP c q C] R (Is (str C.text) [celP c q C]):=by
 unfold celP;refine con_enter func48 ntmps48 rfl rfl ?_;refine gc 13 ?_;refine kretv results48 rfl (L1:=_) zge ?_;exact⟨_,⟨by rfl,rfl⟩,by rfl⟩
theorem cGen [Env]{R:List Seg}{c:Nat}{q:Q3}{C:CellM}:Con Tryz.prog 88 [ptr c] [celP c q C] R (Is (i64 C.gen) [celP c q C]):=by
 unfold celP;refine con_enter func88 ntmps88 rfl rfl ?_;refine gc 13 ?_;refine kretv results88 rfl (L1:=_) zge ?_;exact⟨_,⟨by rfl,rfl⟩,by rfl⟩
theorem cPut [Env]{R:List Seg}{c:Nat}{q:Q3}{C:CellM}{D:Dev}{s:Bytes}(hC:C.ok D.l.length)(hD:D.ok):
   Con Tryz.prog 57 [ptr c,str s] [celP c q C,dev q D] R (Is (i64 (C.put D s).1) [celP c q (C.put D s).2.1,dev q (C.put D s).2.2]):=by
 have hg:=hC.gen;refine con_enter func57 ntmps57 rfl rfl ?_;unfold celP;refine gc 8 ?_;refine y (ev_lenStr rfl underlying9) rfl ?_;refine gy 4 ?_;refine cc rfl (fun h18=>?_) (fun h18=>?_)
 ·refine gc 1 ?_;have hput:=put_long (C:=C) (D:=D) (s:=s) (by omega);refine gy 6 ?_;refine kretv results57 rfl (L1:=[sc c _ 134,dev q _]++R) zge ?_;rw[hput];exact⟨_,⟨rfl,rfl⟩,rfl⟩
 refine gc 9 ?_;refine cc rfl (fun h26=>?_) (fun h26=>?_)
 ·refine gc 1 ?_;have hput:=put_full (C:=C) (D:=D) (s:=s) (by omega) (by omega);refine gy 6 ?_;refine kretv results57 rfl (L1:=[sc c _ 134,dev q _]++R) zge ?_;rw[hput];exact⟨_,⟨rfl,rfl⟩,rfl⟩
 refine gc 16 ?_;refine cc rfl (fun h34=>?_) (fun h34=>?_)
 ·have hoth:C.other=C.b:=by unfold CellM.other;rw[if_pos (by omega)]
  have hnow:(if C.now=0 then(1:Int)else 0)=1:=by rw[if_pos (by omega)]
  refine gc 6 ?_;refine cdraw 17 (od [16] 17 0) (_) Tryz.mixed (by kernel_rfl) .refl ?_;refine gh 8 ?_;refine hr rfl (ev_ixAddrA rfl rfl underlying132 sizeOf3 (by omega) (by omega)) rfl ?_;refine gh 7 ?_;refine hcall rfl (cSlot ?lo52 ?hi52) rfl call92 ztk rfl ?_
  case lo52=>rw[wr (by omega) (by omega)];omega
  case hi52=>rw[wr (by omega) (by omega)];omega
  rintro v L' ⟨s39,rfl,ok39,rfl⟩;refine⟨zge,?_⟩;refine gh 1 ?_;refine yci (secWrite (bs:=slotM (IntKind.i64.wrap (C.gen+1)) s) ?ok53 ?rd53) call21 ?_
  case ok53=>exact hD
  case rd53=>exact rdB_sv zin ok39
  have hD1:=Dev.write_ok hD C.other (slotM (IntKind.i64.wrap (C.gen+1)) s);obtain⟨w,hw⟩: ∃w,D.write C.other (slotM (IntKind.i64.wrap (C.gen+1)) s)=w:=⟨_,rfl⟩;have hw2:=hw;rw[hoth]at hw2;rw[hw2];rw[hw]at hD1;refine gy 8 ?_;refine cc rfl (fun h57=>?_) (fun h57=>?_)
  ·refine gc 1 ?_;have hput:=put_w (by omega) (by omega) hw (by omega);refine gy 6 ?_;refine kretv results57 rfl (L1:=[sc c _ 134,dev q _]++R) zge ?_;rw[hput];exact⟨_,⟨rfl,rfl⟩,rfl⟩
  refine gc 8 ?_;refine yci (secBarrier ?ok64) call93 ?_
  case ok64=>exact hD1
  obtain⟨bb,hbb⟩: ∃b,w.2.barrier=b:=⟨_,rfl⟩;rw[hbb];refine gy 8 ?_;refine cc rfl (fun h68=>?_) (fun h68=>?_)
  ·refine gc 1 ?_;have hput:=put_b (by omega) (by omega) hw (by omega) hbb (by omega);refine gy 6 ?_;refine kretv results57 rfl (L1:=[sc c _ 134,dev q _]++R) zge ?_;rw[hput];exact⟨_,⟨rfl,rfl⟩,rfl⟩
  refine gc 3 ?_;have hput:=put_done (by omega) (by omega) hw (by omega) hbb (by omega);rw[hnow]at hput;refine gy 12 ?_;refine yst (ac_store rfl rfl (by rfl) sizeOf3 zrp rfl rfl) ?_;refine gy 2 ?_;refine yst (ac_store rfl rfl (by rfl) sizeOf2 zrp rfl rfl) ?_;refine gy 2 ?_;refine yst (ac_store rfl rfl (by rfl) sizeOf9 zrp rfl rfl) ?_;refine gy 7 ?_;refine kretv results57 rfl (L1:=[sc c _ 134,dev q _]++R) zge ?_;rw[hput];exact⟨_,⟨rfl,rfl⟩,rfl⟩
 have hoth:C.other=C.a:=by unfold CellM.other;rw[if_neg (by omega)]
 have hnow:(if C.now=0 then(1:Int)else 0)=0:=by rw[if_neg (by omega)]
 refine gc 4 ?_;refine cdraw 17 (od [16] 17 0) (_) Tryz.mixed (by kernel_rfl) .refl ?_;refine gh 8 ?_;refine hr rfl (ev_ixAddrA rfl rfl underlying132 sizeOf3 (by omega) (by omega)) rfl ?_;refine gh 7 ?_;refine hcall rfl (cSlot ?lo107 ?hi107) rfl call92 ztk rfl ?_
 case lo107=>rw[wr (by omega) (by omega)];omega
 case hi107=>rw[wr (by omega) (by omega)];omega
 rintro v L' ⟨s39,rfl,ok39,rfl⟩;refine⟨zge,?_⟩;refine gh 1 ?_;refine yci (secWrite (bs:=slotM (IntKind.i64.wrap (C.gen+1)) s) ?ok108 ?rd108) call21 ?_
 case ok108=>exact hD
 case rd108=>exact rdB_sv zin ok39
 have hD1:=Dev.write_ok hD C.other (slotM (IntKind.i64.wrap (C.gen+1)) s);obtain⟨w,hw⟩: ∃w,D.write C.other (slotM (IntKind.i64.wrap (C.gen+1)) s)=w:=⟨_,rfl⟩;have hw2:=hw;rw[hoth]at hw2;rw[hw2];rw[hw]at hD1;refine gy 8 ?_;refine cc rfl (fun h112=>?_) (fun h112=>?_)
 ·refine gc 1 ?_;have hput:=put_w (by omega) (by omega) hw (by omega);refine gy 6 ?_;refine kretv results57 rfl (L1:=[sc c _ 134,dev q _]++R) zge ?_;rw[hput];exact⟨_,⟨rfl,rfl⟩,rfl⟩
 refine gc 8 ?_;refine yci (secBarrier ?ok119) call93 ?_
 case ok119=>exact hD1
 obtain⟨bb,hbb⟩: ∃b,w.2.barrier=b:=⟨_,rfl⟩;rw[hbb];refine gy 8 ?_;refine cc rfl (fun h123=>?_) (fun h123=>?_)
 ·refine gc 1 ?_;have hput:=put_b (by omega) (by omega) hw (by omega) hbb (by omega);refine gy 6 ?_;refine kretv results57 rfl (L1:=[sc c _ 134,dev q _]++R) zge ?_;rw[hput];exact⟨_,⟨rfl,rfl⟩,rfl⟩
 refine gc 3 ?_;have hput:=put_done (by omega) (by omega) hw (by omega) hbb (by omega);rw[hnow]at hput;refine gy 12 ?_;refine yst (ac_store rfl rfl (by rfl) sizeOf3 zrp rfl rfl) ?_;refine gy 2 ?_;refine yst (ac_store rfl rfl (by rfl) sizeOf2 zrp rfl rfl) ?_;refine gy 2 ?_;refine yst (ac_store rfl rfl (by rfl) sizeOf9 zrp rfl rfl) ?_;refine gy 7 ?_;refine kretv results57 rfl (L1:=[sc c _ 134,dev q _]++R) zge ?_;rw[hput];exact⟨_,⟨rfl,rfl⟩,rfl⟩
def KOpen(D:Dev)(a b:Int)(q:Q3)(u:Value)(L':List Seg):Prop:=
 (openE D a b≠0∧u= .tuple #[nilP,i64 (openE D a b)]∧L'=[dev q D])∨(openE D a b=0∧ ∃c,u= .tuple #[ptr c,i64 0]∧L'=[celP c q (openC D a b),dev q D])
theorem cOpen [Env]{R:List Seg}{q:Q3}{D:Dev}{a b:Int}(hD:D.ok):Con Tryz.prog 43 [dp q,i64 a,i64 b] [dev q D] R (KOpen D a b q):=by
 refine con_enter func43 ntmps43 rfl rfl ?_;refine gc 9 ?_
 skip
 ·refine y (ev_eqlPnil rfl rfl underlying26) rfl ?_;refine gy 6 ?_;refine ysp 24 rfl (fun h156=>?_) (fun h156=>?_)
  ·refine gy 18 ?_;have hop:openE D a b=1:=openE_arg (by omega);refine gy 7 ?_;refine kretv2 results43 rfl rfl (L1:=[dev q D]++R) zge ?_;exact⟨_,.inl ⟨by rw[hop];decide,by rw[hop],rfl⟩,rfl⟩
  refine gy 2 ?_;refine ygo ?_;refine y (ev_min rfl rfl) rfl ?_;rw[show(if b<a then b else a)=min a b by split<;>omega];refine gy 3 ?_;refine ysp 30 rfl (fun h169=>?_) (fun h169=>?_)
  ·refine gy 12 ?_;have hop:openE D a b=1:=openE_arg (by omega);refine gy 7 ?_;refine kretv2 results43 rfl rfl (L1:=[dev q D]++R) zge ?_;exact⟨_,.inl ⟨by rw[hop];decide,by rw[hop],rfl⟩,rfl⟩
  refine gy 2 ?_;refine ygo ?_;refine y (ev_max rfl rfl) rfl ?_;rw[show(if b>a then b else a)=max a b by split<;>omega];refine gy 1 ?_;refine ygo ?_;refine yci (secSectors) call46 ?_;refine gy 5 ?_;refine cc rfl (fun h182=>?_) (fun h182=>?_)
  ·refine gc 1 ?_;have hop:openE D a b=1:=openE_arg (by omega);refine gy 7 ?_;refine kretv2 results43 rfl rfl (L1:=[dev q D]++R) zge ?_;exact⟨_,.inl ⟨by rw[hop];decide,by rw[hop],rfl⟩,rfl⟩
  refine gc 2 ?_;refine yci (secDead) call75 ?_;refine gy 3 ?_;refine cc rfl (fun h188=>?_) (fun h188=>?_)
  ·refine gc 1 ?_;have hop:openE D a b=30:=openE_down (by omega) (by omega) (by omega) (by simp_all);refine gy 7 ?_;refine kretv2 results43 rfl rfl (L1:=[dev q D]++R) zge ?_;exact⟨_,.inl ⟨by rw[hop];decide,by rw[hop],rfl⟩,rfl⟩
  refine gc 4 ?_;have hop:openE D a b=0:=openE_ok (by omega) (by omega) (by omega) (by simp_all);refine gy 3 ?_;refine y (ev_buildA (zs:=_) rfl underlying132 zeroValue132 rfl sizeOf3 ⟨⟨_,_,rfl,(by rfl),(by decide)⟩,⟨⟨_,_,rfl,(by rfl),(by decide)⟩,trivial⟩⟩ (by dsimp[fillL,splice,vcells]<;>rfl)) rfl ?_;refine y (ev_be rfl) rfl ?_;refine ya (ac_box rfl rfl) rfl ?_;rintro v L' ⟨b46,rfl,rfl⟩;refine gy 3 ?_;refine cseqT ?_;intro K10 hK10;refine gc 4 ?_;refine y (ev_loadN rfl isAgg132 sizeOf132 zin rfl rfl) rfl ?_;refine gy 3 ?_
  have hJ1: ∀x:Nat,((x≤2)∧(x=2))→Sk 90 K10 ([(51,i64 x),(50,.agg #[i64 a,i64 b]),(8,ptr b46),(0,dp q)]) ([celP b46 q (seeTo D a b x),dev q D]++R):=by
   rintro k ⟨hI1,hX1⟩;refine hK10 _ _ ?_;have hk:=hI1;subst hX1;rw[seeTo_two];refine gc 7 ?_;refine kretv2 results43 rfl rfl (L1:=[celP b46 q (openC D a b),dev q D]++R) zge ?_;exact⟨_,.inr ⟨hop,b46,rfl,rfl⟩,rfl⟩
  clear hK10;refine gc 1 ?_;refine cloopT (A:=Nat) (fun x=>[(51,i64 x),(50,.agg #[i64 a,i64 b]),(8,ptr b46),(0,dp q)]) (fun x=>[celP b46 q (seeTo D a b x),dev q D]++R) (fun x=>x≤2) (fun x=>2-x) (0) ?_ zsub zge ?_
  · exact Nat.zero_le _
  rintro k hI1 KL1 hL1;have hI1o:=hI1;have hk:=hI1;refine gc 5 ?_;refine cc rfl (fun h207=>?_) (fun h207=>?_)
  ·have hix:([i64 a,i64 b]:List Value)[k]? =some (i64 (cellAt a b k)):=by
     rcases Nat.lt_or_ge k 1 with h|h
     · rw[show k=0 by omega];rfl
     rw[show k=1 by omega];rfl
   have hin:0≤cellAt a b k∧cellAt a b k<D.l.length:=by unfold cellAt;split<;>omega
   refine gc 6 ?_;refine y (ev_ixA1 rfl rfl underlying132 isAgg3 sizeOf3 (by omega) (by omega) (by exact hix)) rfl ?_;refine gy 7 ?_;refine ycall (secReadS hD (by unfold Dev.has;rw[if_neg (by simp_all),if_neg (by omega)])) rfl call76 ztk rfl ?_;rintro v L' ⟨s58,rfl,ok58,rfl⟩;refine gy 9 ?_;refine yci (cRead (bs:=D.sec (cellAt a b k)) ?hb221 ?five221 ?len221) call77 ?_
   case hb221=>exact rdY_sv zin ok58
   case five221=>rw[sec_length hD];omega
   case len221=>rw[sec_length hD];omega
   have hsee:seeTo D a b (k+1)=_:=see_T (seeTo D a b k) k (D.sec (cellAt a b k));obtain⟨hsa,hsb⟩:=seeTo_a D a b k;generalize readT (D.sec (cellAt a b k))=rt at*;generalize seeTo D a b k=C at*;refine gy 10 ?_;unfold celP;refine gy 2 ?_;refine ysp 68 rfl (fun h231=>?_) (fun h231=>?_)
   ·refine gy 9 ?_;refine cc rfl (fun h239=>?_) (fun h239=>?_)
    ·rw[if_pos ⟨by assumption,h239⟩]at hsee;refine gc 9 ?_;refine yst (ac_store rfl rfl (by rfl) sizeOf3 zrp rfl rfl) ?_;refine gy 2 ?_;refine yst (ac_store rfl rfl (by rfl) sizeOf2 zrp rfl rfl) ?_;refine gy 2 ?_;refine yst (ac_store rfl rfl (by rfl) sizeOf9 zrp rfl rfl) ?_;refine gy 5 ?_;rw[show IntKind.i64.wrap ((k:Int)+1)=((k+1:Nat):Int)by rw[wr (by omega) (by omega)];rfl];refine gy 3 ?_;exact ksub zsub (by rw[hsee];exact zge) (hL1 (k+1) (show k+1≤2 by omega) (by omega) [(51,i64 ((k+1:Nat):Int)),(50,.agg #[i64 a,i64 b]),(8,ptr b46),(0,dp q)] _ zsub .refl)
    rw[if_neg (fun hh=>h239 hh.2)]at hsee;refine gc 5 ?_;rw[show IntKind.i64.wrap ((k:Int)+1)=((k+1:Nat):Int)by rw[wr (by omega) (by omega)];rfl];refine gy 3 ?_;exact ksub zsub (by rw[hsee];exact zge) (hL1 (k+1) (show k+1≤2 by omega) (by omega) [(51,i64 ((k+1:Nat):Int)),(50,.agg #[i64 a,i64 b]),(8,ptr b46),(0,dp q)] _ zsub .refl)
   rw[if_neg (fun hh=>absurd hh.1 (by simp[h231]))]at hsee;refine gy 15 ?_;rw[show IntKind.i64.wrap ((k:Int)+1)=((k+1:Nat):Int)by rw[wr (by omega) (by omega)];rfl];refine gy 3 ?_;exact ksub zsub (by rw[hsee];exact zge) (hL1 (k+1) (show k+1≤2 by omega) (by omega) [(51,i64 ((k+1:Nat):Int)),(50,.agg #[i64 a,i64 b]),(8,ptr b46),(0,dp q)] _ zsub .refl)
  refine gc 5 ?_;exact ksub zsub zge (hJ1 k ⟨hI1o,by omega⟩)
end W
end Go.Proofs