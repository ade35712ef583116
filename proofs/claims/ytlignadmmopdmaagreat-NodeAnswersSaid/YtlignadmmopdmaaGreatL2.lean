/- A part of the proof. -/
import Derived.Test.YtlignadmmopdmaaGreatUn
import Derived.Test.YtlignadmmopdmaaGreatT10
import Derived.Test.YtlignadmmopdmaaGreatGC
import Derived.Test.YtlignadmmopdmaaGreatGL
import Derived.Test.YtlignadmmopdmaaGreatGM
set_option linter.unusedVariables false
set_option linter.unusedSimpArgs false
set_option linter.constructorNameAsVariable false
namespace Go.Proofs
open _root_.Go.Proofs.Tryz
open Go Go.Sl
namespace W
theorem rec_one(r:RecM)(sn st:Sv): ∀u∈[i64 r.kind,svVal sn r.nums.length,svVal st r.texts.length],u.oneCell'=true:=by
 intro u hu;simp at hu;rcases hu with rfl|rfl|rfl
 · rfl
 · cases sn<;>rfl
 cases st<;>rfl
theorem lWithin [Env]{R:List Seg}{n lo hi:Int}:Con Tryz.prog 136 [i64 n,i64 lo,i64 hi] [] R (Is (.bool (within3 n lo hi)) []):=by
 refine con_enter func136 ntmps136 rfl rfl ?_;refine gc 9 ?_;refine ysp 10 rfl (fun h6=>?_) (fun h6=>?_)
 ·refine gy 8 ?_;refine kretv results136 rfl (L1:=[]++R) zge ?_;exact⟨_,⟨by unfold within3;(rw[decide_eq_true (show lo≤n by omega)];rfl),rfl⟩,rfl⟩
 refine gy 8 ?_;refine kretv results136 rfl (L1:=[]++R) zge ?_;exact⟨_,⟨by unfold within3;(rw[decide_eq_false (show¬lo≤n by omega)];rfl),rfl⟩,rfl⟩
theorem lFramed [Env]{R:List Seg}{r:RecM}{nv tv:Value}(hn:RdV R nv r.nums.length (intsV r.nums))(ht:RdV R tv r.texts.length (strsV r.texts))(hmay:r.may)(hlen:(recB r).length≤200):
   Con Tryz.prog 238 [.agg #[i64 r.kind,nv,tv]] [] R (KSv 5 (framed (recB r)).length 1 (bytesV (framed (recB r))) []):=by
 have henc:=enc_may hmay;refine con_enter func238 ntmps238 rfl rfl ?_;refine gc 1 ?_;refine ya (ac_box (vs:=[i64 r.kind,nv,tv]) rfl rfl) rfl ?_;rintro v L' ⟨b1,rfl,rfl⟩;refine gy 4 ?_;refine y (ev_loadN (u:=[i64 r.kind,nv,tv]) rfl isAgg88 sizeOf88 zin rfl rfl) rfl ?_;refine ycall (cEncode (r:=r) ?hn17 ?ht17 ?sx17) rfl call94 ztk rfl ?_
 case hn17=>exact hn.mono zge
 case ht17=>exact ht.mono zge
 case sx17=>exact hmay.num
 rintro v L' ⟨s8,rfl,ok8,rfl⟩;rw[henc]at ok8 ⊢;dsimp only at ok8 ⊢;generalize recB r=rb at*;refine gy 9 ?_;refine y (ev_lenSv rfl underlying55 (by assumption)) rfl ?_;refine y (ev_conv rfl underlying3 underlying5) rfl ?_;rw[wu8,show((rb.length:Nat):Int) % 256=((rb.length:Nat):Int)by omega];refine ya (ac_bsliceR rfl underlying55 sizeOf5 zeroValue5 rfl rfl rfl rfl ⟨⟨_,_,rfl,(by rfl),(by decide)⟩,trivial⟩ (by dsimp[fillL,splice,vcells,reps]<;>rfl)) rfl ?_;rintro v L' ⟨b14,rfl,rfl⟩;refine gy 1 ?_;refine ya (ac_append (s:=some (b14,1,[])) (xs:=[.int .u8 ((rb.length:Nat):Int)]) (m:=1) (k:=rb.length) (us:=bytesV rb) (size:=1) rfl rfl (by repeat first|exact .z|apply Pk.s) underlying55 underlying55 (by intro q hq;cases hq) typeInfo5 rfl rfl rfl ?ok28 ?src28 ?one28 ?big28) rfl ?_
 case ok28=>exact⟨Nat.le_refl _,by decide,rfl,rfl⟩
 case src28=>exact src_sv zin ok8
 case one28=>exact bytesV_one _
 case big28=>show(_+_)*2≤_;omega
 rintro v L' ⟨s16,rfl,ok16,rfl⟩;have hbl:1+rb.length=(UInt8.ofNat rb.length::rb).length:=by simp;omega
 rw[show [Value.int .u8 ((rb.length:Nat):Int)]++bytesV rb=bytesV (UInt8.ofNat rb.length::rb)by simp[bytesV];omega,hbl]at ok16 ⊢;have hbl2:(UInt8.ofNat rb.length::rb).length≤201:=by simp;omega
 have hfr:framed rb=be4 (sumM (UInt8.ofNat rb.length::rb))++(UInt8.ofNat rb.length::rb):=rfl;generalize UInt8.ofNat rb.length::rb=rc at*;refine gy 5 ?_;refine yci (cSum (bs:=rc) ?bs31 ?len31) call145 ?_
 case bs31=>exact rdV_sv zin ok16
 case len31=>omega
 have hsu:=sumM_lt rc;generalize sumM rc=su at*;refine gy 5 ?_;refine y (ev_shr rfl rfl (by decide)) rfl ?_;rw[show((su:Nat):Int).fdiv (2^(min (24:Int).toNat IntKind.u32.bits))=((su / 16777216:Nat):Int)from fdiv2 (k:=16777216)];refine y (ev_conv rfl underlying173 underlying5) rfl ?_;rw[wu8,show((su / 16777216:Nat):Int) % 256=((su / 16777216 % 256:Nat):Int)by omega];refine gy 1 ?_;refine y (ev_shr rfl rfl (by decide)) rfl ?_;rw[show((su:Nat):Int).fdiv (2^(min (16:Int).toNat IntKind.u32.bits))=((su / 65536:Nat):Int)from fdiv2 (k:=65536)];refine y (ev_conv rfl underlying173 underlying5) rfl ?_;rw[wu8,show((su / 65536:Nat):Int) % 256=((su / 65536 % 256:Nat):Int)by omega];refine gy 1 ?_;refine y (ev_shr rfl rfl (by decide)) rfl ?_;rw[show((su:Nat):Int).fdiv (2^(min (8:Int).toNat IntKind.u32.bits))=((su / 256:Nat):Int)from fdiv2 (k:=256)];refine y (ev_conv rfl underlying173 underlying5) rfl ?_;rw[wu8,show((su / 256:Nat):Int) % 256=((su / 256 % 256:Nat):Int)by omega];refine gy 1 ?_;refine y (ev_conv rfl underlying173 underlying5) rfl ?_;rw[wu8,show((su:Nat):Int) % 256=((su % 256:Nat):Int)by omega];refine ya (ac_bsliceR rfl underlying55 sizeOf5 zeroValue5 rfl rfl rfl rfl ⟨⟨_,_,rfl,(by rfl),(by decide)⟩,⟨⟨_,_,rfl,(by rfl),(by decide)⟩,⟨⟨_,_,rfl,(by rfl),(by decide)⟩,⟨⟨_,_,rfl,(by rfl),(by decide)⟩,trivial⟩⟩⟩⟩ (by dsimp[fillL,splice,vcells,reps]<;>rfl)) rfl ?_;rintro v L' ⟨b30,rfl,rfl⟩;refine gy 1 ?_;refine ya (ac_append (s:=some (b30,4,[])) (xs:=be4V su) (m:=4) (k:=rc.length) (us:=bytesV rc) (size:=1) rfl rfl (by repeat first|exact .z|apply Pk.s) underlying55 underlying55 (by intro q hq;cases hq) typeInfo5 rfl rfl rfl ?ok46 ?src46 ?one46 ?big46) rfl ?_
 case ok46=>exact⟨Nat.le_refl _,by decide,rfl,rfl⟩
 case src46=>exact src_sv zin ok16
 case one46=>exact bytesV_one _
 case big46=>show(_+_)*2≤_;omega
 rintro v L' ⟨s32,rfl,ok32,rfl⟩;rw[be4V_eq,←bytesV_append,show 4+rc.length=(be4 su++rc).length by simp[be4];omega,←hfr]at ok32 ⊢;refine gy 4 ?_;refine kretv results238 rfl (L1:=[svSeg _ _ _]++R) zge ?_;exact⟨_,⟨s32,rfl,ok32,rfl⟩,rfl⟩
theorem lRead [Env]{R:List Seg}{v:Value}{bs:Bytes}(hb:RdY R v bs)(h5:5≤bs.length)(hl:bs.length≤1000):
   Con Tryz.prog 190 [v] [] R (fun u L'=> ∃rc sn st,u= .tuple #[recV rc sn st,.bool (okL' bs)]∧RecOk rc sn st∧(okL' bs=true→(unfrM bs).1=rc)∧L'=recSegs rc sn st):=by
 obtain⟨z0,z1,z2,z3,z4,r,rfl⟩:=five h5;have hv:=hb.rd;have hl0:=z0.toNat_lt;have hl1:=z1.toNat_lt;have hl2:=z2.toNat_lt;have hl3:=z3.toNat_lt;have hl4:=z4.toNat_lt;have hlr:(z0::z1::z2::z3::z4::r).length=r.length+5:=rfl;refine con_enter func190 ntmps190 rfl rfl ?_;refine gc 1 ?_;refine ya (ac_alloc zeroValue88 rfl) rfl ?_;rintro v L' ⟨b2,rfl,rfl⟩;refine gy 5 ?_;refine y (ev_ixV hv rfl rfl underlying55 sizeOf5 (by omega) (by omega)) rfl ?_;refine y (ev_loadV 4 hv zge rfl isAgg5 rfl rfl) rfl ?_;refine y (ev_conv rfl underlying5 underlying3) rfl ?_;rw[wr (by omega) (by omega)];refine gy 7 ?_;rw[wr (by omega) (by omega)];refine gy 1 ?_;refine y (ev_lenV rfl underlying55 (RdV.lenVal (by assumption))) rfl ?_;refine gy 3 ?_;refine cc rfl (fun h60=>?_) (fun h60=>?_)
 ·refine gc 1 ?_;have hok:=okL_short (b0:=z0) (b1:=z1) (b2:=z2) (b3:=z3) (b4:=z4) (r:=r) (by omega);refine y (ev_be rfl) rfl ?_;refine yst (ac_storeAll rfl rfl (rec_one ⟨0,[],[]⟩ none none) sizeOf88 zrp (by rfl) (by rfl)) ?_;refine gy 5 ?_;refine kretct results190 rfl rfl isAgg88 sizeOf88 zin (rfl) (L1:=recSegs ⟨0,[],[]⟩ none none++R) zge ?_;rw[hok];exact⟨_,⟨⟨0,[],[]⟩,none,none,rfl,⟨⟨rfl,rfl⟩,⟨rfl,rfl⟩⟩,fun h=>(by cases h),rfl⟩,rfl⟩
 have hle:z4.toNat≤r.length:=by omega
 have hd5:RdY R (vSl v 5 (5+z4.toNat) 1) (r.take z4.toNat):=by
   have:=hb.sl (lo:=5) (hi:=5+z4.toNat) (by omega) (by omega)
   rwa[show 5+z4.toNat- 5=z4.toNat by omega]at this
 have hd4:RdY R (vSl v 4 (5+z4.toNat) 1) ((z4::r).take (z4.toNat+1)):=by
   have:=hb.sl (lo:=4) (hi:=5+z4.toNat) (by omega) (by omega)
   rwa[show 5+z4.toNat- 4=z4.toNat+1 by omega]at this
 have hl6:((z4::r).take (z4.toNat+1)).length≤1000:=by simp;omega
 refine gc 3 ?_;refine cdraw 22 (od [] 22 0) (_) Tryz.mixed (by kernel_rfl) .refl ?_;refine gh 1 ?_;refine hr rfl (ev_ixV hv rfl rfl underlying55 sizeOf5 (by omega) (by omega)) rfl ?_;refine hr rfl (ev_loadV 0 hv zge rfl isAgg5 rfl rfl) rfl ?_;refine hr rfl (ev_conv rfl underlying5 underlying173) rfl ?_;refine hr rfl (ev_shl rfl rfl (by decide)) rfl ?_;refine gh 1 ?_;refine hr rfl (ev_ixV hv rfl rfl underlying55 sizeOf5 (by omega) (by omega)) rfl ?_;refine hr rfl (ev_loadV 1 hv zge rfl isAgg5 rfl rfl) rfl ?_;refine hr rfl (ev_conv rfl underlying5 underlying173) rfl ?_;refine hr rfl (ev_shl rfl rfl (by decide)) rfl ?_;refine hr rfl (ev_or rfl rfl) rfl ?_;refine gh 1 ?_;refine hr rfl (ev_ixV hv rfl rfl underlying55 sizeOf5 (by omega) (by omega)) rfl ?_;refine hr rfl (ev_loadV 2 hv zge rfl isAgg5 rfl rfl) rfl ?_;refine hr rfl (ev_conv rfl underlying5 underlying173) rfl ?_;refine hr rfl (ev_shl rfl rfl (by decide)) rfl ?_;refine hr rfl (ev_or rfl rfl) rfl ?_;refine gh 1 ?_;refine hr rfl (ev_ixV hv rfl rfl underlying55 sizeOf5 (by omega) (by omega)) rfl ?_;refine hr rfl (ev_loadV 3 hv zge rfl isAgg5 rfl rfl) rfl ?_;refine hr rfl (ev_conv rfl underlying5 underlying173) rfl ?_;refine hr rfl (ev_or rfl rfl) rfl ?_;rw[be32or hl0 hl1 hl2 hl3,show z0.toNat*16777216+z1.toNat*65536+z2.toNat*256+z3.toNat=ofBe4 (z0::z1::z2::z3::z4::r)from rfl];refine gh 8 ?_;rw[wr (by omega) (by omega),show(5:Int)+((z4.toNat:Nat):Int)=((5+z4.toNat:Nat):Int)by omega];refine y (ev_slLHV hv hb.cap rfl rfl rfl underlying55 sizeOf5 (by omega) (by omega) (by omega)) rfl ?_;refine ycall (cDecode (bs:=r.take z4.toNat) ?hb91) rfl call47 ztk rfl ?_
 case hb91=>exact hd5.mono zge
 rintro v L' ⟨sn45,st45,rfl,ok45,rfl⟩;obtain⟨hbad,hgood,hrc⟩:=@okL_dich z0 z1 z2 z3 z4 r (by omega);generalize decM (r.take z4.toNat)=de at*;obtain⟨rc,er⟩:=de;dsimp only at hbad hgood hrc ok45 ⊢;have okn:=ok45.n;have okt:=ok45.t;unfold recV;have hvt:RdV [svSeg st45 9 (strsV rc.texts)] (svVal st45 rc.texts.length) rc.texts.length (strsV rc.texts):=rdV_sv .z okt;have hvn:RdV [svSeg sn45 2 (intsV rc.nums)] (svVal sn45 rc.nums.length) rc.nums.length (intsV rc.nums):=rdV_sv .z okn;refine gy 3 ?_;refine ya (ac_alloc zeroValue88 rfl) rfl ?_;rintro v L' ⟨b6,rfl,rfl⟩;refine yst (ac_storeAll rfl rfl (by(simp only[List.forall_mem_cons,List.not_mem_nil,false_implies,implies_true,svVal_one,and_true,true_and,and_self];first|done|simp[Value.oneCell'])) sizeOf88 zrp (by rfl) (by rfl)) ?_;refine gy 4 ?_;refine cdraw 37 (od [6,36] 37 0) ([svSeg sn45 2 (intsV rc.nums),svSeg st45 9 (strsV rc.texts),sc b6 [i64 rc.kind,svVal sn45 rc.nums.length,svVal st45 rc.texts.length] 88]++R) Tryz.mixed (by kernel_rfl) zge ?_;refine hr rfl (ev_loadN (u:=[i64 rc.kind,svVal sn45 rc.nums.length,svVal st45 rc.texts.length]) rfl isAgg88 sizeOf88 zin rfl rfl) rfl ?_;refine gh 3 ?_;rw[wr (by omega) (by omega),show(5:Int)+((z4.toNat:Nat):Int)=((5+z4.toNat:Nat):Int)by omega];refine hr rfl (ev_slLHV hv hb.cap rfl rfl rfl underlying55 sizeOf5 (by omega) (by omega) (by omega)) rfl ?_;refine gh 1 ?_;refine hcall rfl (cCheck (bs:=(z4::r).take (z4.toNat+1)) ?bs104 ?len104) rfl call135 ztk rfl ?_
 case bs104=>exact hd4.rd.mono zge
 case len104=>omega
 rintro v L' ⟨rfl,rfl⟩;refine⟨zge,?_⟩;refine gh 1 ?_;refine hsp 55 rfl (fun h106=>?_) (fun h106=>?_)
 ·refine gh 4 ?_;refine hsp 59 rfl (fun h111=>?_) (fun h111=>?_)
  ·refine gh 5 ?_;refine hsp 64 rfl (fun h117=>?_) (fun h117=>?_)
   ·refine gh 2 ?_;refine hr1 rfl rfl rfl (ev_lenSv rfl underlying57 (by assumption)) rfl ?_;refine gh 3 ?_;refine hsp 70 rfl (fun h124=>?_) (fun h124=>?_)
    ·refine gh 2 ?_;refine hr1 rfl rfl rfl (ev_lenSv rfl underlying86 (by assumption)) rfl ?_;refine gh 3 ?_;refine hsp 76 rfl (fun h131=>?_) (fun h131=>?_)
     ·refine gh 2 ?_;refine hr1 rfl rfl rfl (ev_ixV hvt rfl rfl underlying86 sizeOf9 (by omega) (by omega)) rfl ?_;refine hr1 rfl rfl rfl (ev_loadV 0 hvt zge rfl isAgg9 rfl (strsV_get (head_get (d:=[]) (by omega)))) rfl ?_;refine hr1 rfl rfl rfl (ev_lenStr rfl underlying9) rfl ?_;refine gh 2 ?_;refine haN rfl (ac_storeAll rfl rfl (rec_one rc sn45 st45) sizeOf88 zrp (by rfl) (by rfl)) ?_;rintro v L' ⟨rfl,rfl⟩;refine⟨zge,?_⟩;refine gh 5 ?_;refine kretct results190 rfl rfl isAgg88 sizeOf88 zin (rfl) (L1:=recSegs rc sn45 st45++R) zge ?_;exact⟨_,⟨rc,sn45,st45,by(rw[hgood (by unfold UnL;omega),←headD_get0];try rfl),ok45,hrc,rfl⟩,rfl⟩
     refine gh 7 ?_;refine haN rfl (ac_storeAll rfl rfl (rec_one rc sn45 st45) sizeOf88 zrp (by rfl) (by rfl)) ?_;rintro v L' ⟨rfl,rfl⟩;refine⟨zge,?_⟩;refine gh 5 ?_;refine kretct results190 rfl rfl isAgg88 sizeOf88 zin (rfl) (L1:=recSegs rc sn45 st45++R) zge ?_;exact⟨_,⟨rc,sn45,st45,by(rw[hbad (by unfold UnL;omega)];try rfl),ok45,hrc,rfl⟩,rfl⟩
    refine gh 13 ?_;refine haN rfl (ac_storeAll rfl rfl (rec_one rc sn45 st45) sizeOf88 zrp (by rfl) (by rfl)) ?_;rintro v L' ⟨rfl,rfl⟩;refine⟨zge,?_⟩;refine gh 5 ?_;refine kretct results190 rfl rfl isAgg88 sizeOf88 zin (rfl) (L1:=recSegs rc sn45 st45++R) zge ?_;exact⟨_,⟨rc,sn45,st45,by(rw[hbad (by unfold UnL;omega)];try rfl),ok45,hrc,rfl⟩,rfl⟩
   refine gh 19 ?_;refine haN rfl (ac_storeAll rfl rfl (rec_one rc sn45 st45) sizeOf88 zrp (by rfl) (by rfl)) ?_;rintro v L' ⟨rfl,rfl⟩;refine⟨zge,?_⟩;refine gh 5 ?_;refine kretct results190 rfl rfl isAgg88 sizeOf88 zin (rfl) (L1:=recSegs rc sn45 st45++R) zge ?_;exact⟨_,⟨rc,sn45,st45,by(rw[hbad (by unfold UnL;omega)];try rfl),ok45,hrc,rfl⟩,rfl⟩
  refine gh 24 ?_;refine haN rfl (ac_storeAll rfl rfl (rec_one rc sn45 st45) sizeOf88 zrp (by rfl) (by rfl)) ?_;rintro v L' ⟨rfl,rfl⟩;refine⟨zge,?_⟩;refine gh 5 ?_;refine kretct results190 rfl rfl isAgg88 sizeOf88 zin (rfl) (L1:=recSegs rc sn45 st45++R) zge ?_;exact⟨_,⟨rc,sn45,st45,by(rw[hbad (by unfold UnL;omega)];try rfl),ok45,hrc,rfl⟩,rfl⟩
 refine gh 28 ?_;refine haN rfl (ac_storeAll rfl rfl (rec_one rc sn45 st45) sizeOf88 zrp (by rfl) (by rfl)) ?_;rintro v L' ⟨rfl,rfl⟩;refine⟨zge,?_⟩;refine gh 5 ?_;refine kretct results190 rfl rfl isAgg88 sizeOf88 zin (rfl) (L1:=recSegs rc sn45 st45++R) zge ?_;exact⟨_,⟨rc,sn45,st45,by(rw[hbad (by unfold UnL;omega)];try rfl),ok45,hrc,rfl⟩,rfl⟩
def logP(l c:Nat)(q:Q3)(sl:Sv)(L:LogM):Seg:=sc l [dp q,i64 L.first,i64 L.n,ptr c,i64 L.head,i64 L.time,i64 L.least,svVal sl L.l.length] 208
def itS(sl:Sv)(L:LogM):Seg:=svSeg sl 211 (itemsV L.l)
abbrev itOk(sl:Sv)(L:LogM):Prop:=svOk sl L.l.length 2 (itemsV L.l)
theorem lPlace [Env]{R:List Seg}{l c:Nat}{q:Q3}{sl:Sv}{L:LogM}{k:Int}(h1:0≤k)(h2:k≤4611686018427388416)(hn:2≤L.n)(hn2:L.n≤512)(hf:0≤L.first)(hf2:L.first≤512):
   Con Tryz.prog 188 [ptr l,i64 k] [logP l c q sl L] R (Is (i64 (L.place k)) [logP l c q sl L]):=by
 have hm:=Int.emod_nonneg k (show(L.n:Int)≠0 by omega);have hm2:=Int.emod_lt_of_pos k (show(0:Int)<L.n by omega);have htm:k.tmod L.n=k % L.n:=Int.tmod_eq_emod_of_nonneg h1;have hpl:L.place k=L.first+k % L.n:=rfl;unfold logP;refine con_enter func188 ntmps188 rfl rfl ?_;refine gc 5 ?_;refine cdraw 11 (od [] 11 0) (_) Tryz.mixed (by kernel_rfl) .refl ?_;refine gh 9 ?_;refine hr rfl (ev_rem (p:=k) (q:=(L.n:Int)) rfl rfl (by omega)) rfl ?_;rw[htm];refine gh 1 ?_;rw[show IntKind.i64.wrap (L.first+k % (L.n:Int))=L.place k by rw[hpl,wr (by omega) (by omega)]];refine gh 5 ?_;refine kretv results188 rfl (L1:=[sc l _ 208]++R) zge ?_;exact⟨_,⟨rfl,rfl⟩,rfl⟩
theorem lTail [Env]{R:List Seg}{l c:Nat}{q:Q3}{sl:Sv}{L:LogM}(hs:itOk sl L)(h1:0≤L.head)(h2:L.tail≤4611686018427388416)(hl:L.l.length≤512):Con Tryz.prog 189 [ptr l] [logP l c q sl L] R (Is (i64 L.tail) [logP l c q sl L]):=by
 have htl:L.tail=L.head+L.l.length:=rfl;unfold logP;refine con_enter func189 ntmps189 rfl rfl ?_;refine gc 5 ?_;refine cdraw 10 (od [] 10 0) (_) Tryz.mixed (by kernel_rfl) .refl ?_;refine gh 8 ?_;refine hr rfl (ev_lenSv rfl underlying206 hs) rfl ?_;refine gh 6 ?_;refine kretv results189 rfl (L1:=[sc l _ 208]++R) zge ?_;exact⟨_,⟨by rw[htl,wr (by omega) (by omega)],rfl⟩,rfl⟩
theorem lFree [Env]{R:List Seg}{l c:Nat}{q:Q3}{sl:Sv}{L:LogM}(hs:itOk sl L)(h1:L.n≤512)(hl:L.l.length≤512):Con Tryz.prog 224 [ptr l] [logP l c q sl L] R (Is (i64 ((L.n:Int)-L.l.length)) [logP l c q sl L]):=by
 unfold logP;refine con_enter func224 ntmps224 rfl rfl ?_;refine gc 5 ?_;refine cdraw 10 (od [] 10 0) (_) Tryz.mixed (by kernel_rfl) .refl ?_;refine gh 8 ?_;refine hr rfl (ev_lenSv rfl underlying206 hs) rfl ?_;refine gh 6 ?_;refine kretv results224 rfl (L1:=[sc l _ 208]++R) zge ?_;exact⟨_,⟨by rw[wr (by omega) (by omega)],rfl⟩,rfl⟩
theorem lHead [Env]{R:List Seg}{l c:Nat}{q:Q3}{sl:Sv}{L:LogM}:Con Tryz.prog 85 [ptr l] [logP l c q sl L] R (Is (i64 L.head) [logP l c q sl L]):=by
 unfold logP;refine con_enter func85 ntmps85 rfl rfl ?_;refine gc 13 ?_;refine kretv results85 rfl (L1:=_) zge ?_;exact⟨_,⟨by rfl,rfl⟩,by rfl⟩
theorem lSync [Env]{R:List Seg}{l c:Nat}{q:Q3}{sl:Sv}{L:LogM}{D:Dev}(hD:D.ok):Con Tryz.prog 207 [ptr l] [logP l c q sl L,dev q D] R (Is (i64 D.barrier.1) [logP l c q sl L,dev q D.barrier.2]):=by
 unfold logP;refine con_enter func207 ntmps207 rfl rfl ?_;refine gc 9 ?_;refine yci (secBarrier ?ok49) call93 ?_
 case ok49=>exact hD
 refine gy 4 ?_;refine kretv results207 rfl (L1:=[sc l _ 208,dev q D.barrier.2]++R) zge ?_;exact⟨_,⟨rfl,rfl⟩,rfl⟩
theorem lPut [Env]{R:List Seg}{l c:Nat}{q:Q3}{sl:Sv}{L:LogM}{D:Dev}{head least:Int}(hL:L.ok D)(hh:0≤head∧head≤4611686018427388416)(hle:0≤least∧least≤4611686018427387904):
   Con Tryz.prog 138 [ptr l,i64 head,i64 least] [logP l c q sl L,celP c q L.c,dev q D] R (Is (i64 (L.put D head least).1) [logP l c q sl L,celP c q (L.put D head least).2.1.c,dev q (L.put D head least).2.2]):=by
 have htm:=hL.time;have hmay:(headR head L.time least).may:=headR_may hh ⟨by omega,by omega⟩ ⟨by omega,by omega⟩;have henc:=enc_may hmay;have hlen:=headR_len (h:=head) (t:=L.time) (l:=least) hh ⟨by omega,by omega⟩ ⟨by omega,by omega⟩;have hput:L.put D head least=((L.c.put D (recB (headR head L.time least))).1,{L with c:=(L.c.put D (recB (headR head L.time least))).2.1},(L.c.put D (recB (headR head L.time least))).2.2):=rfl;refine con_enter func138 ntmps138 rfl rfl ?_;unfold logP;refine gc 11 ?_;refine ya (ac_bsliceR rfl underlying57 sizeOf2 zeroValue2 rfl rfl rfl rfl ⟨⟨_,_,rfl,(by rfl),(by decide)⟩,⟨⟨_,_,rfl,(by rfl),(by decide)⟩,⟨⟨_,_,rfl,(by rfl),(by decide)⟩,trivial⟩⟩⟩ (by dsimp[fillL,splice,vcells,reps]<;>rfl)) rfl ?_;rintro v L' ⟨b16,rfl,rfl⟩;refine y (ev_be rfl) rfl ?_;refine ycall (cEncode (r:=headR head L.time least) ?hn60 ?ht60 ?sx60) rfl call94 ztk rfl ?_
 case hn60=>exact rdV_in zin rfl rfl
 case ht60=>exact rdV_nil
 case sx60=>exact hmay.num
 rintro v L' ⟨s18,rfl,ok18,rfl⟩;rw[henc]at ok18 ⊢;dsimp only at ok18 ⊢;generalize recB (headR head L.time least)=rb at*;refine gy 8 ?_;refine cdraw 6 (od [] 6 0) ([sc l _ 208,svSeg s18 5 (bytesV rb)]++R) Tryz.mixed (by kernel_rfl) zge ?_;refine gh 5 ?_;refine hr rfl (ev_toStrB (rdY_sv (L:=[svSeg s18 5 (bytesV rb)]) .z ok18).rd.bytes zge rfl underlying55 underlying9 underlying5) rfl ?_;refine gh 1 ?_;refine yci (cPut ?cok72 ?ok72) call57 ?_
 case cok72=>exact hL.c
 case ok72=>exact hL.d
 refine gy 4 ?_;refine kretv results138 rfl (L1:=[sc l _ 208,celP c q _,dev q _]++R) zge ?_;rw[hput];exact⟨_,⟨rfl,rfl⟩,rfl⟩
theorem lRecords [Env]{R:List Seg}{l c:Nat}{q:Q3}{sl:Sv}{L:LogM}(hok:itOk sl L)(hl:L.l.length≤512):
   Con Tryz.prog 82 [ptr l] [logP l c q sl L,itS sl L] R (KSv 9 (L.l.map (·.1)).length 1 (strsV (L.l.map (·.1))) [logP l c q sl L,itS sl L]):=by
 have hrd:RdV [itS sl L] (svVal sl L.l.length) L.l.length (itemsV L.l):=rdV_sv .z hok;unfold logP;refine con_enter func82 ntmps82 rfl rfl ?_;refine gc 8 ?_;refine cseqT ?_;intro K3 hK3;refine gc 5 ?_;refine y (ev_lenSv rfl underlying206 hok) rfl ?_;refine gy 1 ?_;refine yreP (L':=[sc l [dp q,i64 L.first,i64 L.n,ptr c,i64 L.head,i64 L.time,i64 L.least,svVal sl L.l.length] 208,itS sl L,svSeg none 9 (strsV ((L.l.take 0).map (·.1)))]++R) (by simp[svSeg]) ?_;refine gy 2 ?_
 have hJ1: ∀x:Nat × Sv,((x.1≤L.l.length∧svOk x.2 ((L.l.take x.1).map (·.1)).length 1 (strsV ((L.l.take x.1).map (·.1))))∧(x.1=L.l.length))→Sk 22 K3 ([(11,i64 x.1),(10,i64 L.l.length),(9,svVal sl L.l.length),(3,svVal x.2 ((L.l.take x.1).map (·.1)).length),(0,ptr l)]) ([sc l [dp q,i64 L.first,i64 L.n,ptr c,i64 L.head,i64 L.time,i64 L.least,svVal sl L.l.length] 208,itS sl L,svSeg x.2 9 (strsV ((L.l.take x.1).map (·.1)))]++R):=by
  rintro⟨k,s⟩ ⟨hI1,hX1⟩;refine hK3 _ _ ?_;obtain⟨hk,ok⟩:=hI1;dsimp only at hk ok ⊢;dsimp only at hX1;subst hX1;rw[List.take_length]at ok ⊢;refine gc 6 ?_;refine kretv results82 rfl (L1:=[svSeg s 9 _,sc l _ 208,itS sl L]++R) zge ?_;exact⟨_,⟨s,rfl,ok,rfl⟩,rfl⟩
 clear hK3;refine gc 1 ?_;refine cloopT (A:=Nat × Sv) (fun x=>[(11,i64 x.1),(10,i64 L.l.length),(9,svVal sl L.l.length),(3,svVal x.2 ((L.l.take x.1).map (·.1)).length),(0,ptr l)]) (fun x=>[sc l [dp q,i64 L.first,i64 L.n,ptr c,i64 L.head,i64 L.time,i64 L.least,svVal sl L.l.length] 208,itS sl L,svSeg x.2 9 (strsV ((L.l.take x.1).map (·.1)))]++R) (fun x=>x.1≤L.l.length∧svOk x.2 ((L.l.take x.1).map (·.1)).length 1 (strsV ((L.l.take x.1).map (·.1)))) (fun x=>L.l.length-x.1) ((0,none)) ?_ zsub zge ?_
 · exact⟨Nat.zero_le _,rfl,rfl⟩
 rintro⟨k,s⟩ hI1 KL1 hL1;have hI1o:=hI1;obtain⟨hk,ok⟩:=hI1;dsimp only at hk ok ⊢;refine gc 5 ?_;refine cc rfl (fun h85=>?_) (fun h85=>?_)
 ·obtain⟨x,hx⟩: ∃y,L.l[k]? =some y:=⟨_,List.getElem?_eq_getElem (by omega)⟩;have hsu:(L.l.take (k+1)).map (·.1)=(L.l.take k).map (·.1)++[x.1]:=by rw[take_snoc hx];simp
  have hlk:((L.l.take k).map (·.1)).length=k:=by simp;omega
  refine gc 5 ?_;refine y (ev_ixV hrd rfl rfl underlying206 sizeOf211 (by omega) (by omega)) rfl ?_;refine y (ev_loadNV (k*2) hrd zge rfl isAgg211 sizeOf211 (by simp) (item_two hx) rfl) rfl ?_;refine ya (ac_alloc zeroValue211 rfl) rfl ?_;rintro v L' ⟨b5,rfl,rfl⟩;refine yst (ac_storeAll rfl rfl (by simp[Value.oneCell']) sizeOf211 zrp (by rfl) (by rfl)) ?_;refine gy 6 ?_;refine ya (ac_bsliceR rfl underlying86 sizeOf9 zeroValue9 rfl rfl rfl rfl ⟨⟨_,_,rfl,(by rfl),(by decide)⟩,trivial⟩ (by dsimp[fillL,splice,vcells,reps]<;>rfl)) rfl ?_;rintro v L' ⟨b18,rfl,rfl⟩;refine ya (ac_append (s:=s) (xs:=strsV ((L.l.take k).map (·.1))) (m:=((L.l.take k).map (·.1)).length) (k:=1) (us:=[str x.1]) (size:=1) rfl rfl (by repeat first|exact .z|apply Pk.s) underlying86 underlying86 (by intro q hq;cases hq) typeInfo9 rfl rfl rfl ?ok94 ?src94 ?one94 ?big94) rfl ?_
  case ok94=>exact ok
  case src94=>exact src_at zin rfl rfl
  case one94=>intro u hu;simp at hu;subst hu;rfl
  case big94=>show(_+_)*17≤_;omega
  rintro v L' ⟨s19,rfl,ok19,rfl⟩;rw[show strsV ((L.l.take k).map (·.1))++[str x.1]=strsV ((L.l.take (k+1)).map (·.1))by rw[hsu];simp[strsV],show((L.l.take k).map (·.1)).length+1=((L.l.take (k+1)).map (·.1)).length by rw[hsu];simp]at ok19 ⊢;refine gy 6 ?_;rw[show IntKind.i64.wrap ((k:Int)+1)=((k+1:Nat):Int)by rw[wr (by omega) (by omega)];rfl];refine gy 3 ?_;exact hL1 ((k+1,s19)) (⟨by dsimp only;omega,ok19⟩) (by dsimp only;omega) _ _ zsub zge
 refine gc 5 ?_;exact ksub zsub zge (hJ1 ⟨k,s⟩ ⟨hI1o,by omega⟩)
end W
end Go.Proofs