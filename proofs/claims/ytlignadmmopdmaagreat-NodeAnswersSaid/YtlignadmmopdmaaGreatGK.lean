/- A part of the proof. -/
import Derived.Test.YtlignadmmopdmaaGreatUn
import Derived.Test.YtlignadmmopdmaaGreatC10
import Derived.Test.YtlignadmmopdmaaGreatGN
import Derived.Test.YtlignadmmopdmaaGreatT10
import Derived.Test.YtlignadmmopdmaaGreatGL
import Derived.Test.YtlignadmmopdmaaGreatGM
import Derived.Test.YtlignadmmopdmaaGreatGG
import Derived.Test.YtlignadmmopdmaaGreatGE
set_option linter.unusedVariables false
set_option linter.unusedSimpArgs false
set_option linter.constructorNameAsVariable false
namespace Go.Proofs
open _root_.Go.Proofs.Tryz
open Go Go.Sl
namespace W
theorem kPut [Env]{R:List Seg}{A:CaA}{q:Q3}{sl:Sv}{C:CaM}{D:Dev}{x:EntM}(hC:C.ok D)(hs:itOk sl C.l):
   Con Tryz.prog 157 [ptr A.p,entV x] [caP A C,enS A C,puS A C,lgS A q sl C,dev q D] R (KC A q C (C.put D x)):=by
 have hpu:C.put D x=if inB C.bl x.blk=false then(2,C,D)else if¬(x.data.length:Int)=8 then(3,C,D)else if badPut C x=true then(1,C,D)else
   if(aget C.en x.blk).isSome=true∨(C.en.length:Int)<(C.n:Int)- 6 then C.come D ⟨.put x,putK C.k x⟩else
   if C.spare.2=false then(12,C,D)else
   if(C.come D ⟨.drop C.spare.1,C.k⟩).1≠0 then C.come D ⟨.drop C.spare.1,C.k⟩else
   (C.come D ⟨.drop C.spare.1,C.k⟩).2.1.add (C.come D ⟨.drop C.spare.1,C.k⟩).2.2 ⟨.put x,putK C.k x⟩:=rfl
 have hbl:=hC.bl;obtain⟨hl1,hl2,hl3,hl4,hl5,hl6,hl7⟩:=hC.lim;refine con_enter func157 ntmps157 rfl rfl ?_;refine gc 1 ?_;refine ya (ac_box (vs:=[i64 x.blk,i64 x.ve,i64 x.vs,str x.data,.bool x.dirty,i64 x.cl,i64 x.n]) rfl rfl) rfl ?_;rintro v L' ⟨b3,rfl,rfl⟩;refine gy 9 ?_;refine yci (kIn ?bl6) call193 ?_
 case bl6=>omega
 refine gy 4 ?_;refine cc rfl (fun h9=>?_) (fun h9=>?_)
 ·rw[if_pos h9]at hpu;refine gc 7 ?_;refine kretv results157 rfl (L1:=[caP A C,enS A C,puS A C,lgS A q sl C,dev q D]++R) zge ?_;rw[hpu];exact⟨_,⟨sl,rfl,hs,rfl⟩,rfl⟩
 have hinb:inB C.bl x.blk=true:=h9;rw[if_neg (by rw[hinb];simp)]at hpu;refine gc 3 ?_;refine y (ev_lenStr rfl underlying9) rfl ?_;refine gy 4 ?_;refine cc rfl (fun h16=>?_) (fun h16=>?_)
 ·rw[if_pos h16]at hpu;refine gc 7 ?_;refine kretv results157 rfl (L1:=[caP A C,enS A C,puS A C,lgS A q sl C,dev q D]++R) zge ?_;rw[hpu];exact⟨_,⟨sl,rfl,hs,rfl⟩,rfl⟩
 have h8:(x.data.length:Int)=8:=h16;rw[if_neg (fun hz=>hz h8)]at hpu;refine gc 1 ?_;refine cdraw 24 (od [7,12,18] 24 0) (_) Tryz.mixed (by kernel_rfl) .refl ?_;unfold caP caC;refine gh 1 ?_;refine hr rfl (ev_loadN (u:=[i64 x.ve,i64 x.vs]) rfl isAgg84 sizeOf84 zin rfl rfl) rfl ?_;refine gh 4 ?_;refine hr rfl (ev_loadN (u:=[i64 C.k.e,i64 C.k.s]) rfl isAgg84 sizeOf84 zin rfl rfl) rfl ?_;refine hcall rfl (kAbove) rfl call203 ztk rfl ?_;rintro v L' ⟨rfl,rfl⟩;refine⟨zge,?_⟩;refine gh 2 ?_;refine hsp 32 rfl (fun h28=>?_) (fun h28=>?_)
 ·refine gh 2 ?_;refine ha0 rfl rfl rfl rfl rfl zge ?_;refine gh 5 ?_;refine ha0 rfl rfl rfl rfl rfl zge ?_;refine gh 13 ?_;have hbad:badPut C x=true:=by unfold badPut;simp[*]
  rw[if_pos hbad]at hpu;refine gy 6 ?_;refine kretv results157 rfl (L1:=[caP A C,enS A C,puS A C,lgS A q sl C,dev q D]++R) zge ?_;rw[hpu];exact⟨_,⟨sl,rfl,hs,rfl⟩,rfl⟩
 refine gh 1 ?_;refine hr1 rfl rfl rfl (ev_loadN (u:=[i64 x.ve,i64 x.vs]) rfl isAgg84 sizeOf84 zin rfl rfl) rfl ?_;refine hcall1 rfl rfl rfl (kMay) rfl call194 ztk rfl ?_;rintro v L' ⟨rfl,rfl⟩;refine⟨zge,?_⟩;refine gh 3 ?_;refine hsp 38 rfl (fun h42=>?_) (fun h42=>?_)
 ·refine gh 2 ?_;refine ha0 rfl rfl rfl rfl rfl zge ?_;refine gh 13 ?_;have hbad:badPut C x=true:=by unfold badPut;simp[*]
  rw[if_pos hbad]at hpu;refine gy 6 ?_;refine kretv results157 rfl (L1:=[caP A C,enS A C,puS A C,lgS A q sl C,dev q D]++R) zge ?_;rw[hpu];exact⟨_,⟨sl,rfl,hs,rfl⟩,rfl⟩
 refine gh 2 ?_;refine hcall1 rfl rfl rfl (kWithin) rfl call192 ztk rfl ?_;rintro v L' ⟨rfl,rfl⟩;refine⟨zge,?_⟩;refine gh 3 ?_;refine hsp 44 rfl (fun h54=>?_) (fun h54=>?_)
 ·refine gh 10 ?_;have hbad:badPut C x=true:=by unfold badPut;simp[*]
  rw[if_pos hbad]at hpu;refine gy 6 ?_;refine kretv results157 rfl (L1:=[caP A C,enS A C,puS A C,lgS A q sl C,dev q D]++R) zge ?_;rw[hpu];exact⟨_,⟨sl,rfl,hs,rfl⟩,rfl⟩
 refine gh 3 ?_;refine ygo ?_;refine yci (kOdd) call140 ?_;refine gy 4 ?_;refine cc rfl (fun h63=>?_) (fun h63=>?_)
 ·refine gc 1 ?_;have hbad:badPut C x=true:=by unfold badPut;simp[*]
  rw[if_pos hbad]at hpu;refine gy 6 ?_;refine kretv results157 rfl (L1:=[caP A C,enS A C,puS A C,lgS A q sl C,dev q D]++R) zge ?_;rw[hpu];exact⟨_,⟨sl,rfl,hs,rfl⟩,rfl⟩
 refine gc 4 ?_;have hbad:badPut C x=false:=by unfold badPut;simp[*]
 rw[if_neg (by rw[hbad];simp)]at hpu;obtain⟨hxo,hab⟩:=bad_no hinb h8 hbad;have hKo:=putK_ok hC.k hxo;refine gy 3 ?_;refine y (ev_loadN (u:=keptL C.k) rfl isAgg152 sizeOf152 zin rfl rfl) rfl ?_;refine ya (ac_alloc zeroValue152 rfl) rfl ?_;rintro v L' ⟨b5,rfl,rfl⟩;refine yst (ac_storeAll (us:=keptL C.k) rfl rfl (by simp[Value.oneCell']) sizeOf152 zrp rfl rfl) ?_;refine gy 4 ?_;refine y (ev_loadN (u:=[i64 x.ve,i64 x.vs]) rfl isAgg84 sizeOf84 zin rfl rfl) rfl ?_;refine gy 1 ?_;refine yst (ac_storeN (vs':=[i64 x.ve,i64 x.vs,i64 C.k.t.a,i64 C.k.t.b,i64 C.k.t.c,i64 C.k.t.d]) rfl rfl (by simp[Value.oneCell']) sizeOf84 zrp rfl (by simp) rfl) ?_;refine gy 2 ?_;refine cseqT ?_;intro K14 hK14
 have hJr11: ∀z:Unit,(True)→Sk 123 K14 ([(5,ptr b5),(3,ptr b3),(0,ptr A.p)]) ([sc b5 (keptL (putK C.k x)) 152,sc b3 [i64 x.blk,i64 x.ve,i64 x.vs,str x.data,.bool x.dirty,i64 x.cl,i64 x.n] 127,caP A C,enS A C,puS A C,lgS A q sl C,dev q D]++R):=by
  rintro _ hIr11;refine hK14 _ _ ?_;unfold caP caC enS;refine gc 2 ?_;refine cdraw 12 (od [10,11] 12 0) (_) Tryz.mixed (by kernel_rfl) .refl ?_;refine gh 6 ?_;refine hr rfl (ev_lookup2 (z:=entV .zero) (kv:=akv entV C.en) rfl rfl underlying149 underlying3 zeroValue127 zin) rfl ?_;rw[akv_get,lk_entV,Option.isSome_map];refine gh 3 ?_;refine ha rfl (ac_alloc zeroValue127 rfl) rfl ?_;rintro v L' ⟨b6,rfl,rfl⟩;refine⟨zge,?_⟩;refine haN rfl (ac_storeAll rfl rfl (ent_one _) sizeOf127 zrp rfl rfl) ?_;rintro v L' ⟨rfl,rfl⟩;refine⟨zge,?_⟩;refine gh 7 ?_;refine ysp 82 rfl (fun h90=>?_) (fun h90=>?_)
  ·have hin:(aget C.en x.blk).isSome=true:=h90;rw[if_pos (Or.inl hin)]at hpu;refine gy 14 ?_;refine y (ev_loadN (u:=[i64 x.blk,i64 x.ve,i64 x.vs,str x.data,.bool x.dirty,i64 x.cl,i64 x.n]) rfl isAgg127 sizeOf127 zin rfl rfl) rfl ?_;refine y (ev_be rfl) rfl ?_;refine y (ev_iface rfl (by kernel_rfl)) rfl ?_;refine y (ev_loadN (u:=keptL (putK C.k x)) rfl isAgg152 sizeOf152 zin rfl rfl) rfl ?_;refine ycall (kCome (C:=C) (sl:=sl) (q:=q) (D:=D) (w:= .put x) (k:=putK C.k x) ?cok97 ?its97 ?rok97) rfl call182 ztk rfl ?_
   case cok97=>exact hC
   case its97=>exact hs
   case rok97=>exact⟨hxo,hKo⟩
   rintro v L' ⟨sl97,rfl,ok97,rfl⟩;refine gy 5 ?_;refine kretv results157 rfl (L1:=[caP A _,enS A _,puS A _,lgS A q sl97 _,dev q _]++R) zge ?_;rw[hpu];exact⟨_,⟨sl97,rfl,ok97,rfl⟩,rfl⟩
  have hin:(aget C.en x.blk).isSome=false:=h90;refine gy 4 ?_;refine ygo ?_;refine y (ev_lenM rfl underlying149 zin) rfl ?_;rw[show(ents (akv entV C.en)).size=C.en.length by simp[ents,akv]];refine gy 1 ?_;refine ygo ?_;refine yci (kRoom ?rn105) call204 ?_
  case rn105=>omega
  refine gy 4 ?_;refine cc rfl (fun h108=>?_) (fun h108=>?_)
  ·rw[if_pos (by exact .inr (by omega))]at hpu;refine gc 2 ?_;refine y (ev_loadN (u:=[i64 x.blk,i64 x.ve,i64 x.vs,str x.data,.bool x.dirty,i64 x.cl,i64 x.n]) rfl isAgg127 sizeOf127 zin rfl rfl) rfl ?_;refine y (ev_be rfl) rfl ?_;refine y (ev_iface rfl (by kernel_rfl)) rfl ?_;refine y (ev_loadN (u:=keptL (putK C.k x)) rfl isAgg152 sizeOf152 zin rfl rfl) rfl ?_;refine ycall (kCome (C:=C) (sl:=sl) (q:=q) (D:=D) (w:= .put x) (k:=putK C.k x) ?cok114 ?its114 ?rok114) rfl call182 ztk rfl ?_
   case cok114=>exact hC
   case its114=>exact hs
   case rok114=>exact⟨hxo,hKo⟩
   rintro v L' ⟨sl97,rfl,ok97,rfl⟩;refine gy 5 ?_;refine kretv results157 rfl (L1:=[caP A _,enS A _,puS A _,lgS A q sl97 _,dev q _]++R) zge ?_;rw[hpu];exact⟨_,⟨sl97,rfl,ok97,rfl⟩,rfl⟩
  rw[if_neg (fun hz=>hz.elim (fun h=>by rw[hin]at h;cases h) (fun h=>by omega))]at hpu;refine gc 4 ?_;refine yci (kSpare (C:=C) ?bl117) call205 ?_
  case bl117=>omega
  refine gy 13 ?_;refine cc rfl (fun h125=>?_) (fun h125=>?_)
  ·rw[if_pos h125]at hpu;refine gc 6 ?_;refine kretv results157 rfl (L1:=[caP A C,enS A C,puS A C,lgS A q sl C,dev q D]++R) zge ?_;rw[hpu];exact⟨_,⟨sl,rfl,hs,rfl⟩,rfl⟩
  have hsp:C.spare.2=true:=h125;rw[if_neg (by rw[hsp];simp)]at hpu;refine gc 6 ?_;refine y (ev_be rfl) rfl ?_;refine y (ev_iface rfl (by kernel_rfl)) rfl ?_;refine gy 3 ?_;refine y (ev_loadN (u:=keptL C.k) rfl isAgg152 sizeOf152 zin rfl rfl) rfl ?_;refine ycall (kCome (C:=C) (sl:=sl) (q:=q) (D:=D) (w:= .drop C.spare.1) (k:=C.k) ?cok135 ?its135 ?rok135) rfl call182 ztk rfl ?_
  case cok135=>exact hC
  case its135=>exact hs
  case rok135=>exact⟨spare_ok hC hsp,hC.k⟩
  rintro v L' ⟨sl113,rfl,ok113,rfl⟩;have hcb:=CaM.come_bl (C:=C) (D:=D) (r:=⟨.drop C.spare.1,C.k⟩);have hco:=hC.come (r:=⟨.drop C.spare.1,C.k⟩) ⟨spare_ok hC hsp,hC.k⟩;generalize C.come D ⟨.drop C.spare.1,C.k⟩=dr at*;obtain⟨ed,C1,D1⟩:=dr;dsimp only at*;refine gy 8 ?_;refine cc rfl (fun h139=>?_) (fun h139=>?_)
  ·rw[if_pos h139]at hpu;refine gc 7 ?_;refine kretv results157 rfl (L1:=[caP A C1,enS A C1,puS A C1,lgS A q sl113 C1,dev q D1]++R) zge ?_;rw[hpu];exact⟨_,⟨sl113,rfl,ok113,rfl⟩,rfl⟩
  rw[if_neg (fun hz=>hz h139)]at hpu;refine gc 4 ?_;refine y (ev_loadN (u:=[i64 x.blk,i64 x.ve,i64 x.vs,str x.data,.bool x.dirty,i64 x.cl,i64 x.n]) rfl isAgg127 sizeOf127 zin rfl rfl) rfl ?_;refine y (ev_be rfl) rfl ?_;refine y (ev_iface rfl (by kernel_rfl)) rfl ?_;refine y (ev_loadN (u:=keptL (putK C.k x)) rfl isAgg152 sizeOf152 zin rfl rfl) rfl ?_;refine ycall (kAdd (C:=C1) (sl:=sl113) (q:=q) (D:=D1) (w:= .put x) (k:=putK C.k x) ?cok147 ?its147 ?rok147) rfl call206 ztk rfl ?_
  case cok147=>exact hco
  case its147=>exact ok113
  case rok147=>exact⟨by rw[hcb.1];exact hxo,hKo⟩
  rintro v L' ⟨sl122,rfl,ok122,rfl⟩;refine gy 4 ?_;refine kretv results157 rfl (L1:=[caP A _,enS A _,puS A _,lgS A q sl122 _,dev q _]++R) zge ?_;rw[hpu];exact⟨_,⟨sl122,rfl,ok122,rfl⟩,rfl⟩
 clear hK14;refine gc 6 ?_;refine cc rfl (fun h152=>?_) (fun h152=>?_)
 ·have hcl4:x.cl=0∨x.cl=1∨x.cl=2∨x.cl=3:=by have:=hxo.cl;omega
  obtain⟨blk,ve,vs,data,dirty,cl,n⟩:=x;dsimp only at hcl4 hxo ⊢;refine cdraw 12 (od [] 12 0) (_) Tryz.mixed (by kernel_rfl) .refl ?_;refine gh 5 ?_;refine hr rfl (ev_ixAddrA rfl rfl underlying32 sizeOf2 (by omega) (by omega)) rfl ?_;refine hr rfl (ev_load (v:=i64 (C.k.t.get cl)) rfl isAgg2 zin (by rcases hcl4 with rfl|rfl|rfl|rfl<;>rfl)) rfl ?_;refine gh 2 ?_;refine hr rfl (ev_max rfl rfl) rfl ?_;rw[if_max];refine gh 1 ?_;refine hr rfl (ev_ixAddrA rfl rfl underlying32 sizeOf2 (by omega) (by omega)) rfl ?_;refine gh 1 ?_;refine yst (ac_store (vs':=keptL (putK C.k ⟨blk,ve,vs,data,dirty,cl,n⟩)) rfl rfl rfl sizeOf2 zrp (by rcases hcl4 with rfl|rfl|rfl|rfl<;>rfl) (by rcases hcl4 with rfl|rfl|rfl|rfl<;>rfl)) ?_;refine gy 2 ?_;exact ksub zsub zge (hJr11 () trivial)
 have hKe:putK C.k x=⟨x.ve,x.vs,C.k.t⟩:=by unfold putK;rw[if_neg (by omega)]
 refine gc 2 ?_
 (rw[hKe]at hJr11;exact ksub zsub zge (hJr11 () trivial))
theorem bOpenY [Env]{R:List Seg}{q:Q3}{D:Dev}{first n a b:Int}(hD:D.ok)(ha:a≤9223372036854775807)(hb:b≤9223372036854775807)(h:(logOpen D first n a b).1=0):
   Con Tryz.prog 81 [dp q,i64 first,i64 n,i64 a,i64 b] [dev q D] R (fun u L'=> ∃p c sl,u= .tuple #[ptr p,i64 0]∧itOk sl (logOpen D first n a b).2.1∧L'=[logG p c q sl (logOpen D first n a b).2.1,dev q (logOpen D first n a b).2.2]):=by
 refine(lOpen (R:=R) (q:=q) (first:=first) (n:=n) (a:=a) (b:=b) hD ha hb).via (.refl _) ?_;rintro v L (⟨h1,_⟩|⟨_,p,c,sl,rfl,h2,rfl⟩)
 · exact absurd h h1
 exact⟨_,⟨p,c,sl,rfl,h2,rfl⟩,pG2.symm⟩
theorem bOpenN [Env]{R:List Seg}{q:Q3}{D:Dev}{first n a b:Int}(hD:D.ok)(ha:a≤9223372036854775807)(hb:b≤9223372036854775807)(h: ¬(logOpen D first n a b).1=0):
   Con Tryz.prog 81 [dp q,i64 first,i64 n,i64 a,i64 b] [dev q D] R (Is (.tuple #[nilP,i64 (logOpen D first n a b).1]) [dev q (logOpen D first n a b).2.2]):=by
 refine(lOpen (R:=R) (q:=q) (first:=first) (n:=n) (a:=a) (b:=b) hD ha hb).mono ?_;rintro v L (⟨h1,rfl,rfl⟩|⟨h1,_⟩)
 · exact⟨rfl,rfl⟩
 exact absurd h1 h
def KCO(r:Int × CaM × Dev)(q:Q3)(u:Value)(L':List Seg):Prop:=
 (r.1≠0∧u= .tuple #[nilP,i64 r.1]∧L'=[dev q r.2.2])∨
 (r.1=0∧ ∃A sl,u= .tuple #[ptr A.p,i64 0]∧itOk sl r.2.1.l∧L'=[caP A r.2.1,enS A r.2.1,puS A r.2.1,lgS A q sl r.2.1,dev q r.2.2])
theorem strsV_at{l:List (Bytes × Int)}{i:Nat}{x:Bytes × Int}(h:l[i]? =some x):(l.map (·.1))[i]? =some x.1:=by simp[h]
theorem kOpen [Env]{R:List Seg}{q:Q3}{D:Dev}{first n a b bl:Int}(hD:D.ok)(ha:a≤9223372036854775807)(hb:b≤9223372036854775807):
   Con Tryz.prog 45 [dp q,i64 first,i64 n,i64 a,i64 b,i64 bl] [dev q D] R (KCO (caOpen D first n a b bl) q):=by
 have hop:caOpen D first n a b bl=if bl<1∨32<bl∨n<8 then(1,caInit (log0 D first n.toNat a b) bl.toNat,D)else
   if(logOpen D first n a b).1≠0 then((logOpen D first n a b).1,caInit (logOpen D first n a b).2.1 bl.toNat,(logOpen D first n a b).2.2)else
   match caLoad bl.toNat (logOpen D first n a b).2.1.l (logOpen D first n a b).2.1.head (caInit (logOpen D first n a b).2.1 bl.toNat)with
   |none=>(4,caInit (logOpen D first n a b).2.1 bl.toNat,(logOpen D first n a b).2.2)
   |some C=>(0,C,(logOpen D first n a b).2.2):=rfl
 refine con_enter func45 ntmps45 rfl rfl ?_;refine gc 10 ?_;refine ysp 23 rfl (fun h6=>?_) (fun h6=>?_)
 ·refine gy 11 ?_
  try rw[if_pos (by omega)]at hop
  refine gy 6 ?_;refine kretv2 results45 rfl rfl (L1:=[dev q D]++R) zge ?_;rw[hop];exact⟨_,.inl ⟨by show(_:Int)≠0;simp,rfl,rfl⟩,rfl⟩
 refine gy 4 ?_;refine ysp 27 rfl (fun h16=>?_) (fun h16=>?_)
 ·refine gy 7 ?_
  try rw[if_pos (by omega)]at hop
  refine gy 6 ?_;refine kretv2 results45 rfl rfl (L1:=[dev q D]++R) zge ?_;rw[hop];exact⟨_,.inl ⟨by show(_:Int)≠0;simp,rfl,rfl⟩,rfl⟩
 refine gy 5 ?_;refine cc rfl (fun h23=>?_) (fun h23=>?_)
 ·rw[if_pos (by omega)]at hop;refine gc 1 ?_
  try rw[if_pos (by omega)]at hop
  refine gy 6 ?_;refine kretv2 results45 rfl rfl (L1:=[dev q D]++R) zge ?_;rw[hop];exact⟨_,.inl ⟨by show(_:Int)≠0;simp,rfl,rfl⟩,rfl⟩
 rw[if_neg (by omega)]at hop;have hb2:1≤bl.toNat∧bl.toNat≤32:=by omega
 have hn8:8≤n.toNat:=by omega
 obtain⟨bn,hbn⟩: ∃bn:Nat,bl=bn:=⟨bl.toNat,by omega⟩;obtain⟨nn,hnn⟩: ∃nn:Nat,n=nn:=⟨n.toNat,by omega⟩;subst hbn;subst hnn;rw[Int.toNat_natCast]at hb2 hop;rw[Int.toNat_natCast]at hn8;refine gc 8 ?_
 by_cases ho:(logOpen D first nn a b).1=0
 ·(refine ycall (bOpenY hD ha hb ho) rfl call81 ztk rfl ?_;rintro v L' ⟨p37,c37,sl37,rfl,ok37,rfl⟩;obtain⟨hLo,hLn⟩:=logOpen_ok hD ho;rw[if_neg (fun hz=>hz ho)]at hop;rw[Int.toNat_natCast]at hLn;generalize logOpen D first nn a b=lo at*;obtain⟨elo,L,D1⟩:=lo;dsimp only at*;subst hLn)
  refine gy 20 ?_;refine ya (ac_makeMap) rfl ?_;rintro v L' ⟨b46,rfl,rfl⟩;refine ya (ac_makeMap) rfl ?_;rintro v L' ⟨b47,rfl,rfl⟩;refine y (ev_build (zs:=_) rfl underlying154 zeroValue154 rfl (.cons sizeOf146 (.cons sizeOf3 (.cons sizeOf3 (.cons sizeOf149 (.cons sizeOf150 (.cons sizeOf152 .nil)))))) ⟨⟨_,_,rfl,(by rfl),(by decide)⟩,⟨⟨_,_,rfl,(by rfl),(by decide)⟩,⟨⟨_,_,rfl,(by rfl),(by decide)⟩,⟨⟨_,_,rfl,(by rfl),(by decide)⟩,⟨⟨_,_,rfl,(by rfl),(by decide)⟩,trivial⟩⟩⟩⟩⟩ (by dsimp[fillL,splice,vcells]<;>rfl)) rfl ?_;refine ya (ac_box (vs:=caC ⟨0,p37,c37,b46,b47⟩ (caInit L bn)) rfl rfl) rfl ?_;rintro v L' ⟨b49,rfl,rfl⟩;refine gy 3 ?_;refine cseqT ?_;intro K11 hK11;refine gc 1 ?_;have hI0:=CaL.init hLo hb2 hn8;have hl512:L.l.length≤512:=by have h1:=hLo.l;have h2:=hLo.first;have h3:=hLo.d.n;omega
  have htl:=hLo.tail;have hhd:=hLo.head;have hn5:L.n≤512:=by have h2:=hLo.first;have h3:=hLo.d.n;omega
  refine gy 1 ?_;refine ycall (bRecords ok37 hl512) rfl call82 ztk rfl ?_;rintro v L' ⟨s51,rfl,ok51,rfl⟩;have hv:RdV [svSeg s51 9 (strsV (L.l.map (·.1)))] (svVal s51 (L.l.map (·.1)).length) (L.l.map (·.1)).length (strsV (L.l.map (·.1))):=rdV_sv .z ok51;have hml:(L.l.map (·.1)).length=L.l.length:=by simp
  refine y (ev_lenSv rfl underlying86 (by assumption)) rfl ?_;refine gy 3 ?_
  have hJ1: ∀x:Nat × CaM,((CaL L bn D1 x.1 x.2∧x.1≤L.l.length)∧(x.1=L.l.length))→Sk 75 K11 ([(53,i64 x.1),(52,i64 (L.l.map (·.1)).length),(51,svVal s51 (L.l.map (·.1)).length),(16,ptr b49),(14,ptr p37)]) ([svSeg s51 9 (strsV (L.l.map (·.1))),caP ⟨b49,p37,c37,b46,b47⟩ x.2,enS ⟨b49,p37,c37,b46,b47⟩ x.2,puS ⟨b49,p37,c37,b46,b47⟩ x.2,logG p37 c37 q sl37 L,dev q D1]++R):=by
   rintro⟨i,C⟩ ⟨hI1,hX1⟩;refine hK11 _ _ ?_;obtain⟨hI,hi⟩:=hI1;dsimp only at hI hi ⊢;dsimp only at hX1;subst hX1;rw[hI.over]at hop;dsimp only at hop;refine gc 7 ?_;refine kretv2 results45 rfl rfl (L1:=[caP ⟨b49,p37,c37,b46,b47⟩ C,enS ⟨b49,p37,c37,b46,b47⟩ C,puS ⟨b49,p37,c37,b46,b47⟩ C,logG p37 c37 q sl37 L,dev q D1]++R) zge ?_;rw[hop];exact⟨_,.inr ⟨rfl,⟨b49,p37,c37,b46,b47⟩,sl37,rfl,by rw[hI.l];exact ok37,by unfold lgS;rw[hI.l]⟩,rfl⟩
  clear hK11;refine gc 1 ?_;refine cloopT (A:=Nat × CaM) (fun x=>[(53,i64 x.1),(52,i64 (L.l.map (·.1)).length),(51,svVal s51 (L.l.map (·.1)).length),(16,ptr b49),(14,ptr p37)]) (fun x=>[svSeg s51 9 (strsV (L.l.map (·.1))),caP ⟨b49,p37,c37,b46,b47⟩ x.2,enS ⟨b49,p37,c37,b46,b47⟩ x.2,puS ⟨b49,p37,c37,b46,b47⟩ x.2,logG p37 c37 q sl37 L,dev q D1]++R) (fun x=>CaL L bn D1 x.1 x.2∧x.1≤L.l.length) (fun x=>L.l.length-x.1) ((0,caInit L bn)) ?_ zsub zge ?_
  · exact⟨hI0,Nat.zero_le _⟩
  rintro⟨i,C⟩ hI1 KL1 hL1;have hI1o:=hI1;obtain⟨hI,hi⟩:=hI1;dsimp only at hI hi ⊢;refine gc 5 ?_;refine cc rfl (fun h55=>?_) (fun h55=>?_)
  ·obtain⟨y0,hy0⟩: ∃y0,L.l[i]? =some y0:=⟨_,List.getElem?_eq_getElem (by omega)⟩;have hy110:=(hLo.its y0 (List.mem_of_getElem? hy0)).1;refine gc 6 ?_;refine y (ev_ixV hv rfl rfl underlying86 sizeOf9 (by omega) (by omega)) rfl ?_;refine y (ev_loadV i hv zge rfl isAgg9 (by simp) (strsV_get (strsV_at hy0))) rfl ?_;refine gy 7 ?_;refine ycall (kRead (A:=⟨b49,p37,c37,b46,b47⟩) (C:=C) ?bl63 ?bz63) rfl call83 ztk rfl ?_
   case bl63=>rw[hI.b];omega
   case bz63=>omega
   rintro v L' ⟨rfl,hrd61⟩;rw[hI.b]at hrd61;rcases hrd61 with⟨r0,hr0,rfl⟩|⟨hr0,us,hu7,hu1,rfl⟩
   ·refine gy 3 ?_;refine ya (ac_alloc zeroValue157 rfl) rfl ?_;rintro v L' ⟨b19,rfl,rfl⟩
    (refine ya0 (ac_storeAll rfl rfl (recA_one r0) sizeOf157 zrp rfl rfl) ?_;rintro v L' ⟨rfl,rfl⟩)
    refine gy 12 ?_;refine cdraw 6 [(0,true),(1,true),(2,true),(4,true),(3,false),(5,true)] (_) Tryz.mixed (by kernel_rfl) .refl ?_;refine gh 1 ?_;refine hr rfl (ev_loadN (u:=recA r0) rfl isAgg157 sizeOf157 zin rfl rfl) rfl ?_;refine gh 2 ?_;refine hcall rfl (bHead (p:=p37) (c:=c37) (q:=q) (sl:=sl37) (L:=L)) rfl call85 ztk rfl ?_;rintro v L' ⟨rfl,rfl⟩;refine⟨zge,?_⟩;refine gh 1 ?_;rw[wr (by unfold LogM.tail at htl;omega) (by unfold LogM.tail at htl;omega)];refine gh 1 ?_;refine yci (kDoes (A:=⟨b49,p37,c37,b46,b47⟩) (C:=C) (r:=r0) (num:=L.head+i) ?mok78) call84 ?_
    case mok78=>exact hI.ok.m
    refine gy 5 ?_;rw[show IntKind.i64.wrap ((i:Int)+1)=((i+1:Nat):Int)by rw[wr (by omega) (by omega)];rfl];refine gy 3 ?_;exact hL1 ((i+1,C.does r0 (L.head+i))) (⟨hI.step hy0 hr0,by dsimp only;omega⟩) (by dsimp only;omega) _ _ zsub zge
   refine gy 3 ?_;refine ya (ac_alloc zeroValue157 rfl) rfl ?_;rintro v L' ⟨b19,rfl,rfl⟩
   (refine ya0 (ac_storeAll rfl rfl hu1 sizeOf157 zrp hu7 rfl) ?_;rintro v L' ⟨rfl,rfl⟩)
   refine gy 11 ?_;rw[hI.fail hy0 hr0]at hop;refine gy 11 ?_;refine kretv2 results45 rfl rfl (L1:=[dev q D1]++R) zge ?_;rw[hop];exact⟨_,.inl ⟨by show(_:Int)≠0;simp,rfl,rfl⟩,rfl⟩
  refine gc 5 ?_;exact ksub zsub zge (hJ1 ⟨i,C⟩ ⟨hI1o,by dsimp only;omega⟩)
 (refine ycall (bOpenN hD ha hb ho) rfl call81 ztk rfl ?_;rintro v L' ⟨rfl,rfl⟩;rw[if_pos ho]at hop)
 refine gy 13 ?_;refine cc rfl (fun h99=>?_) (fun h99=>?_)
 ·refine gc 8 ?_;refine kretv2 results45 rfl rfl (L1:=[dev q (logOpen D first nn a b).2.2]++R) zge ?_;rw[hop];exact⟨_,.inl ⟨ho,rfl,rfl⟩,rfl⟩
 exact absurd h99 ho
theorem mAll [Env]{R:List Seg}{v:Value}{l:List Wi}(hv:RdV R v l.length (wisV l))(hl:l.length≤1000):Con Tryz.prog 133 [v] [] R (Is (.bool (l.all wiOk)) []):=by
 have hvl:=hv.lenVal;refine con_enter func133 ntmps133 rfl rfl ?_;refine gc 4 ?_;refine cseqT ?_;intro K2 hK2;refine gc 2 ?_;refine y (ev_lenV rfl underlying242 (RdV.lenVal (by assumption))) rfl ?_;refine gy 3 ?_
 have hJ1: ∀x:Nat,((x≤l.length∧(l.take x).all wiOk=true)∧(x=l.length))→Sk 24 K2 ([(7,i64 x),(6,i64 l.length),(5,v)]) (R):=by
  rintro k ⟨hI1,hX1⟩;refine hK2 _ _ ?_;obtain⟨hk,hok⟩:=hI1;subst hX1;rw[List.take_length]at hok;refine gc 5 ?_;refine kretv results133 rfl (L1:=R) zge ?_;exact⟨_,⟨by rw[hok],rfl⟩,by rfl⟩
 clear hK2;refine gc 1 ?_;refine cloopT (A:=Nat) (fun x=>[(7,i64 x),(6,i64 l.length),(5,v)]) (fun x=>R) (fun x=>x≤l.length∧(l.take x).all wiOk=true) (fun x=>l.length-x) (0) ?_ zsub zge ?_
 · exact⟨Nat.zero_le _,by simp⟩
 rintro k hI1 KL1 hL1;have hI1o:=hI1;obtain⟨hk,hok⟩:=hI1;refine gc 5 ?_;refine cc rfl (fun h7=>?_) (fun h7=>?_)
 ·obtain⟨x,hx⟩: ∃x,l[k]? =some x:=⟨_,List.getElem?_eq_getElem (by omega)⟩;refine gc 5 ?_;refine y (ev_ixV hv rfl rfl underlying242 sizeOf202 (by omega) (by omega)) rfl ?_;refine y (ev_loadNV (us:=[i64 x.1,i64 x.2.1,i64 x.2.2]) (k*3) hv zge rfl isAgg202 sizeOf202 (by simp) (wisV_get _ _ _ hx) rfl) rfl ?_;refine ya (ac_alloc zeroValue202 rfl) rfl ?_;rintro v L' ⟨b4,rfl,rfl⟩;refine yst (ac_storeAll rfl rfl (by simp[Value.oneCell']) sizeOf202 zrp (by rfl) (by rfl)) ?_;refine gy 9 ?_;refine ysp 16 rfl (fun h18=>?_) (fun h18=>?_)
  ·refine gy 10 ?_;have hno:l.all wiOk=false:=List.all_eq_false.2 ⟨x,List.mem_of_getElem? hx,by simp[wiOk,within3];omega⟩;refine gy 9 ?_;refine kretv results133 rfl (L1:=R) zge ?_;exact⟨_,⟨by rw[hno],rfl⟩,by rfl⟩
  refine gy 8 ?_;refine cc rfl (fun h27=>?_) (fun h27=>?_)
  ·refine gc 1 ?_;have hno:l.all wiOk=false:=List.all_eq_false.2 ⟨x,List.mem_of_getElem? hx,by simp[wiOk,within3];omega⟩;refine gy 9 ?_;refine kretv results133 rfl (L1:=R) zge ?_;exact⟨_,⟨by rw[hno],rfl⟩,by rfl⟩
  refine gc 4 ?_;have hok2:(l.take (k+1)).all wiOk=true:=by rw[take_snoc hx,List.all_append,hok];simp[wiOk,within3];omega
  refine gy 1 ?_;rw[show IntKind.i64.wrap ((k:Int)+1)=((k+1:Nat):Int)by rw[wr (by omega) (by omega)];rfl];refine gy 3 ?_;exact hL1 (k+1) (⟨by omega,hok2⟩) (by omega) _ _ zsub zge
 refine gc 5 ?_;exact ksub zsub zge (hJ1 k ⟨hI1o,by omega⟩)
def may4(m:MsgM)(k:Nat):Bool:=(List.range k).all fun z=>within3 (m.tn z) 0 4611686018427387904
theorem mMay [Env]{R:List Seg}{m:MsgM}:Con Tryz.prog 72 [.agg m.cells.toArray] [] R (Is (.bool m.may) []):=by
 refine con_enter func72 ntmps72 rfl rfl ?_;refine gc 1 ?_;refine ya (ac_box (vs:=m.cells) rfl rfl) rfl ?_;rintro v L' ⟨b1,rfl,rfl⟩;refine gy 3 ?_;refine cseqT ?_;intro K2 hK2;refine gc 2 ?_;refine y (ev_loadN (u:=[i64 m.t0,i64 m.t1,i64 m.t2,i64 m.t3]) rfl isAgg32 sizeOf32 zin rfl rfl) rfl ?_;refine gy 3 ?_
 have hJ1: ∀x:Nat,((x≤4∧may4 m x=true)∧(x=4))→Sk 51 K2 ([(7,i64 x),(6,.agg #[i64 m.t0,i64 m.t1,i64 m.t2,i64 m.t3]),(1,ptr b1)]) ([sc b1 m.cells 34]++R):=by
  rintro k ⟨hI1,hX1⟩;refine hK2 _ _ ?_;obtain⟨hk,hok⟩:=hI1;subst hX1;have hm4:within3 m.t0 0 4611686018427387904=true∧within3 m.t1 0 4611686018427387904=true∧within3 m.t2 0 4611686018427387904=true∧within3 m.t3 0 4611686018427387904=true:=by simpa[may4,List.range,List.range.loop,MsgM.tn]using hok
  have hall:=may_all hm4;refine gc 3 ?_;refine y (ev_lenStr rfl underlying9) rfl ?_;refine gy 2 ?_;refine ysp 20 rfl (fun h41=>?_) (fun h41=>?_)
  ·refine gy 2 ?_;refine ygo ?_;refine y (ev_lenStr rfl underlying9) rfl ?_;refine gy 3 ?_;refine ysp 26 rfl (fun h48=>?_) (fun h48=>?_)
   ·refine gy 2 ?_;refine ygo ?_;refine y (ev_bd ([i64 m.kind,i64 1,i64 15])) rfl ?_;refine gy 2 ?_;refine ygo ?_;refine y (ev_bd ([i64 m.epoch,i64 0,i64 4611686018427387904])) rfl ?_;refine gy 2 ?_;refine ygo ?_;refine y (ev_bd ([i64 m.seq,i64 0,i64 4611686018427387904])) rfl ?_;refine gy 2 ?_;refine ygo ?_;refine y (ev_bd ([i64 m.n,i64 (-4611686018427387904),i64 4611686018427387904])) rfl ?_;refine gy 2 ?_;refine ygo ?_;refine y (ev_bd ([i64 m.block,i64 (-1),i64 31])) rfl ?_;refine gy 2 ?_;refine ygo ?_;refine y (ev_bd ([i64 m.client,i64 (-1),i64 3])) rfl ?_;refine gy 2 ?_;refine ygo ?_;refine y (ev_bd ([i64 m.e,i64 0,i64 31])) rfl ?_;refine ygo ?_;refine ya (ac_bsliceR (vs:=[i64 m.kind,i64 1,i64 15,i64 m.epoch,i64 0,i64 4611686018427387904,i64 m.seq,i64 0,i64 4611686018427387904,i64 m.n,i64 (-4611686018427387904),i64 4611686018427387904,i64 m.block,i64 (-1),i64 31,i64 m.client,i64 (-1),i64 3,i64 m.e,i64 0,i64 31]) rfl underlying242 sizeOf202 zeroValue202 rfl rfl rfl rfl ⟨⟨_,_,rfl,(by rfl),(by decide)⟩,⟨⟨_,_,rfl,(by rfl),(by decide)⟩,⟨⟨_,_,rfl,(by rfl),(by decide)⟩,⟨⟨_,_,rfl,(by rfl),(by decide)⟩,⟨⟨_,_,rfl,(by rfl),(by decide)⟩,⟨⟨_,_,rfl,(by rfl),(by decide)⟩,⟨⟨_,_,rfl,(by rfl),(by decide)⟩,trivial⟩⟩⟩⟩⟩⟩⟩ (by dsimp[fillL,splice,vcells,reps]<;>rfl)) rfl ?_;rintro v L' ⟨b48,rfl,rfl⟩;refine ygo ?_;refine yci (mAll (l:=[(m.kind,1,15),(m.epoch,0,4611686018427387904),(m.seq,0,4611686018427387904),(m.n,-4611686018427387904,4611686018427387904),(m.block,-1,31),(m.client,-1,3),(m.e,0,31)]) ?wis71 ?len71) call133 ?_
    case wis71=>exact rdV_in zin rfl rfl
    case len71=>simp
    refine gy 5 ?_;refine kretv results72 rfl (L1:=R) zge ?_;exact⟨_,⟨by(rw[hall];simp_all),rfl⟩,by rfl⟩
   refine gy 28 ?_;refine kretv results72 rfl (L1:=R) zge ?_;exact⟨_,⟨by(rw[hall];simp;omega),rfl⟩,by rfl⟩
  refine gy 34 ?_;refine kretv results72 rfl (L1:=R) zge ?_;exact⟨_,⟨by(rw[hall];simp;omega),rfl⟩,by rfl⟩
 clear hK2;refine gc 1 ?_;refine cloopT (A:=Nat) (fun x=>[(7,i64 x),(6,.agg #[i64 m.t0,i64 m.t1,i64 m.t2,i64 m.t3]),(1,ptr b1)]) (fun x=>[sc b1 m.cells 34]++R) (fun x=>x≤4∧may4 m x=true) (fun x=>4-x) (0) ?_ zsub zge ?_
 · exact⟨Nat.zero_le _,rfl⟩
 rintro k hI1 KL1 hL1;have hI1o:=hI1;obtain⟨hk,hok⟩:=hI1;refine gc 5 ?_;refine cc rfl (fun h81=>?_) (fun h81=>?_)
 ·have hix:([i64 m.t0,i64 m.t1,i64 m.t2,i64 m.t3]:List Value)[k]? =some (i64 (m.tn k)):=by
    match k,hk with
    |0,_=>rfl
    |1,_=>rfl
    |2,_=>rfl
    |3,_=>rfl
    |4,_=>omega
  refine gc 5 ?_;refine y (ev_ixA1 rfl rfl underlying32 isAgg2 sizeOf2 (by omega) (by omega) (by exact hix)) rfl ?_;refine gy 5 ?_;refine y (ev_be rfl) rfl ?_;refine ya (ac_bsliceR rfl underlying242 sizeOf202 zeroValue202 rfl rfl rfl rfl ⟨⟨_,_,rfl,(by rfl),(by decide)⟩,trivial⟩ (by dsimp[fillL,splice,vcells,reps]<;>rfl)) rfl ?_;rintro v L' ⟨b12,rfl,rfl⟩;refine yci (mAll (l:=[(m.tn k,0,4611686018427387904)]) ?wis87 ?len87) call133 ?_
  case wis87=>exact rdV_in zin rfl rfl
  case len87=>simp
  refine gy 3 ?_;refine cc rfl (fun h89=>?_) (fun h89=>?_)
  ·refine gc 1 ?_;have hno:m.may=false:=may_not (k:=k) (by omega) (by simp_all [wiOk]);refine gy 9 ?_;refine kretv results72 rfl (L1:=R) zge ?_;exact⟨_,⟨by rw[hno],rfl⟩,by rfl⟩
  refine gc 4 ?_;have hok2:may4 m (k+1)=true:=by unfold may4 at hok ⊢;rw[List.range_succ,List.all_append,hok];simp_all [wiOk]
  refine gy 1 ?_;rw[show IntKind.i64.wrap ((k:Int)+1)=((k+1:Nat):Int)by rw[wr (by omega) (by omega)];rfl];refine gy 3 ?_;exact hL1 (k+1) (⟨by omega,hok2⟩) (by omega) _ _ zsub zge
 refine gc 5 ?_;exact ksub zsub zge (hJ1 k ⟨hI1o,by omega⟩)
end W
end Go.Proofs
namespace Go.Sl
end Go.Sl
namespace Go.Sl
variable {first : Int} {n : Nat} {a b : Int} {D : Dev} {N k : Nat} {h T le : Int} {l : List (Bytes × Int)} {p : Nat}
end Go.Sl
namespace Go.Sl
variable {first : Int} {n : Nat} {a b : Int} {D : Dev} {N k : Nat} {h T le : Int} {l : List (Bytes × Int)} {p : Nat}
end Go.Sl
namespace Go.Sl
/-- An act of a test's, plain. -/
def doM(C:CaM)(D:Dev)(kind:Int)(x:EntM)(ns:List Int):Int × CaM × Dev:=
 if kind=0 then C.put D x else if kind=1 then C.clean D x.blk x.ve x.vs else if kind=2 then C.drop D x.blk else if kind=3 then C.note D x.ve x.vs ns else if kind=8 then C.reset D x.ve x.vs ns else if kind=4 then C.sync D else(0,C,D)
theorem doM_ok{C:CaM}{D:Dev}(h:C.ok D)(kind:Int)(x:EntM)(ns:List Int):(doM C D kind x ns).2.1.ok (doM C D kind x ns).2.2:=by
 unfold doM;split
 ·unfold CaM.put;split
  ·exact h
  ·rename_i c1
   split
   ·exact h
   ·rename_i c2
    split
    ·exact h
    ·rename_i c3
     obtain⟨hxo,-⟩:=bad_no (by simpa using c1) (Classical.not_not.1 c2) (by simpa using c3);have hKo:=putK_ok h.k hxo;split
     ·exact h.come ⟨hxo,hKo⟩
     ·split
      ·exact h
      ·rename_i c7
       have hsp:=spare_ok h (by simpa using c7);have h1:=h.come (r:=⟨.drop C.spare.1,C.k⟩) ⟨hsp,h.k⟩;split
       ·exact h1
       ·refine h1.add ⟨?_,hKo⟩;rw[CaM.come_bl.1];exact hxo
 split
 ·unfold CaM.clean;split
  ·exact h
  ·rename_i y hy
   split
   ·exact h
   ·rename_i c1
    split
    ·exact h
    ·obtain⟨hyo,hyb⟩:=ok_get h hy;have hc:=Classical.not_not.1 c1;refine h.come ⟨⟨by have:=hyo.blk;omega,by have:=hyo.ve;omega,by have:=hyo.vs;omega⟩,h.k⟩
 split
 ·unfold CaM.drop;split
  ·rename_i c1
   obtain⟨y,hy⟩:=Option.isSome_iff_exists.1 c1;obtain⟨hyo,hyb⟩:=ok_get h hy;exact h.come ⟨by show 0≤x.blk∧x.blk<C.bl;have:=hyo.blk;omega,h.k⟩
  ·exact h
 split
 ·unfold CaM.note;split
  ·exact h
  ·rename_i c1
   obtain⟨he,hs,a,b,c,d,rfl,h1,h2,h3,h4⟩:=wrong_no (by simpa using c1);exact h.come ⟨trivial,noteK_ok h.k he hs h1 h2 h3 h4⟩
 split
 ·unfold CaM.reset;split
  ·exact h
  ·rename_i c1
   obtain⟨he,hs,a,b,c,d,rfl,h1,h2,h3,h4⟩:=wrong_no (by simpa using c1);exact h.come ⟨trivial,⟨he,hs,h1,h2,h3,h4⟩⟩
 split
 ·unfold CaM.sync;have:=h.l;exact⟨⟨this.n,by rw[barrier_l];exact this.first,by rw[barrier_l];exact this.c,this.head,this.time,this.least,this.l,this.its,this.tail,Dev.barrier_ok this.d⟩,h.bl,h.n,h.n8,h.m,h.k,h.en,h.keys,h.pv,h.pn⟩
 ·exact h
open Go.ChangeShapes Go.WideShapes Go.ChangeAt Go.RowKit Go.Deep
end Go.Sl
namespace Go.Sl
open Go.ChangeShapes Go.WideShapes Go.ChangeAt Go.RowKit Go.Deep
section
variable {H : Type} {enc : TypeId × Value → H} {P : Program} {W : World} {base : Nat} {spare : Nat → Bool} {held : Bool}
end
end Go.Sl
namespace Go.Sl
end Go.Sl
namespace Go.Sl
theorem str_get(bs:Bytes)(k:Nat):(⟨bs.toArray⟩:ByteArray)[k]? =bs[k]? :=by
 by_cases h:k<bs.length
 ·have h2:k<(⟨bs.toArray⟩:ByteArray).size:=by simpa[ByteArray.size]using h
  rw[getElem?_pos (⟨bs.toArray⟩:ByteArray) k h2,List.getElem?_eq_getElem h];rfl
 ·have h2: ¬k<(⟨bs.toArray⟩:ByteArray).size:=by simpa[ByteArray.size]using h
  rw[getElem?_neg (⟨bs.toArray⟩:ByteArray) k h2,List.getElem?_eq_none (by omega)]
section
variable {P : Program} {n : Nat} {l : List (Nat × Value)} {L : List Seg} {d : Option Tmp} {ty : TypeId} {pos : String} {af : Array Edge} {g : Option (Nat × Bool)}
theorem ev_ixB [Env]{t:TypeId}{x y:Operand}{k:IntKind}{i:Int}{bs:Bytes}{u:UInt8}(hx:ev l x=some (.string ⟨bs.toArray⟩))(hy:ev l y=some (.int k i))
  (hu:P.underlying t=some .string) (h0:0≤i) (h1:bs[i.toNat]? =some u):Ev P n ⟨d,.index t x y,ty,pos,af,g⟩ l L (.int .u8 u.toNat):=
 ev_ixS hx hy hu h0 (by rw[str_get];exact h1)
end
def u64(n:Nat):Value:= .int .u64 n
/-- Bytes, the lowest first. -/
def loV:Bytes→Nat
 | []=>0
 |x::r=>x.toNat+256*loV r
def loB:Nat→Nat→Bytes
 |0,_=>[]
 |k+1,b=>UInt8.ofNat (b % 256)::loB k (b / 256)
def rowN(n:Nat):Nat:=(n+7) / 8
def textR(n b:Nat):Bytes:=UInt8.ofNat n::loB (rowN n) b
def loadR:Bytes→Option (Nat × Nat)
 | []=>none
 |x::r=>if 64<x.toNat then none else if r.length≠rowN x.toNat then none else if x.toNat<64∧loV r / 2^x.toNat≠0 then none else some (x.toNat,loV r)
theorem loB_len: ∀(k b:Nat),(loB k b).length=k
 |0,_=>rfl
 |k+1,b=>by unfold loB;rw[List.length_cons,loB_len]
theorem loV_lt: ∀(r:Bytes),loV r<256^r.length
 | []=>by decide
 |x::r=>by
  have h:=loV_lt r;have hx:=x.toNat_lt;unfold loV;rw[List.length_cons,Nat.pow_succ];generalize 256^r.length=z at*;omega
theorem pow256(k:Nat):256^k=2^(8*k):=by rw[show(256:Nat)=2^8 by decide,←Nat.pow_mul]
theorem loadR_ok{t:Bytes}{n b:Nat}(h:loadR t=some (n,b)):n≤64∧b<2^n:=by
 cases t with
 |nil=>cases h
 |cons x r=>
  replace h:(if 64<x.toNat then none else if r.length≠rowN x.toNat then none else if x.toNat<64∧loV r / 2^x.toNat≠0 then none else some (x.toNat,loV r))=some (n,b):=h
  by_cases h1:64<x.toNat
  ·rw[if_pos h1]at h;cases h
  ·rw[if_neg h1]at h
   by_cases h2:r.length≠rowN x.toNat
   ·rw[if_pos h2]at h;cases h
   ·rw[if_neg h2]at h
    by_cases h3:x.toNat<64∧loV r / 2^x.toNat≠0
    ·rw[if_pos h3]at h;cases h
    ·rw[if_neg h3]at h;simp only[Option.some.injEq,Prod.mk.injEq]at h;obtain⟨rfl,rfl⟩:=h;refine⟨by omega,?_⟩
     by_cases hx:x.toNat<64
     ·have h4:loV r / 2^x.toNat=0:=by
       refine Decidable.byContradiction fun h5=>h3 ⟨hx,h5⟩
      rcases Nat.div_eq_zero_iff.1 h4 with h5|h5
      ·have:0<2^x.toNat:=Nat.two_pow_pos _;omega
      ·exact h5
     ·have h64:x.toNat=64:=by omega
      have:=loV_lt r
      have hl:r.length=8:=by
       have:r.length=rowN x.toNat:=by simpa using h2
       rw[this,h64];rfl
      rw[hl]at this;rw[h64];exact this
theorem textR_len(n b:Nat):(textR n b).length=1+rowN n:=by unfold textR;rw[List.length_cons,loB_len];omega
/-- What is known in the loop of Load. -/
theorem loV_take{r:Bytes}{k:Nat}{x:UInt8}(h:r[k]? =some x):loV (r.take (k+1))=loV (r.take k)+x.toNat*2^(8*k):=by
 induction r generalizing k with
 |nil=>simp at h
 |cons y r ih=>
  cases k with
  |zero=>simp at h;subst h;simp[loV]
  |succ k=>
   simp only[List.take_succ_cons,loV];rw[ih (by simpa using h),show 8*(k+1)=8*k+8 by omega,Nat.pow_add,show(2:Nat)^8=256 by decide,Nat.mul_add,←Nat.add_assoc];congr 1;rw[Nat.mul_left_comm,Nat.mul_comm 256]
theorem loV_take_lt(r:Bytes)(k:Nat):loV (r.take k)<2^(8*k):=by
 have:=loV_lt (r.take k);rw[pow256]at this;exact Nat.lt_of_lt_of_le this (Nat.pow_le_pow_right (by omega) (by simp;omega))
theorem loB_snoc: ∀(k b:Nat),loB (k+1) b=loB k b++[UInt8.ofNat (b / 2^(8*k) % 256)]
 |0,b=>by simp[loB]
 |k+1,b=>by
  have ih:=loB_snoc k (b / 256);show UInt8.ofNat (b % 256)::loB (k+1) (b / 256)=_;rw[ih];show _=(UInt8.ofNat (b % 256)::loB k (b / 256))++_;rw[List.cons_append,Nat.div_div_eq_div_mul,show 256*2^(8*k)=2^(8*(k+1))by rw[show 8*(k+1)=8+8*k by omega,Nat.pow_add]]
def allToB(b k:Nat):List Int:=((List.range k).filter b.testBit).map Int.ofNat
theorem allToB_succ(b k:Nat):allToB b (k+1)=if b.testBit k=true then allToB b k++[(k:Int)]else allToB b k:=by
 unfold allToB;rw[List.range_succ,List.filter_append];cases h:b.testBit k<;>simp[h]
theorem allTo_le(b:Nat): ∀k,(allToB b k).length≤k
 |0=>by simp[allToB]
 |k+1=>by
  have:=allTo_le b k;rw[allToB_succ];split
  · simp;omega
  · omega
def inR(n:Nat)(i:Int):Bool:=decide (0≤i)&&decide (i<n)
theorem inR_iff{n:Nat}{i:Int}:inR n i=true↔0≤i∧i<n:=by unfold inR;simp
def hasR(n b:Nat)(i:Int):Bool:=inR n i&&b.testBit i.toNat
def putR(b:Nat)(i:Int):Nat:=b|||2^i.toNat
theorem testBit_mod(b i:Nat):b.testBit i=decide (b / 2^i % 2=1):=by
 rw[Nat.testBit_eq_decide_div_mod_eq]
theorem putR_lt{n b:Nat}{i:Int}(hb:b<2^n)(hi:inR n i=true):putR b i<2^n:=by
 obtain⟨h0,h1⟩:=inR_iff.1 hi;exact Nat.or_lt_two_pow hb (Nat.pow_lt_pow_right (by omega) (by omega))
theorem pow_le64{n:Nat}(h:n≤64):2^n≤18446744073709551616:=by
 have:2^n≤2^64:=Nat.pow_le_pow_right (by omega) h;exact this
theorem shl1{i:Nat}(h:i<64):IntKind.u64.wrap ((1:Int)*2^(min (i:Int).toNat IntKind.u64.bits))=((2^i:Nat):Int):=by
 have e:min (i:Int).toNat IntKind.u64.bits=i:=by simp[IntKind.bits];omega
 have h2:2^i<18446744073709551616:=by
  have:2^i<2^64:=Nat.pow_lt_pow_right (by omega) h;exact this
 rw[e,wu64,Int.one_mul];have e2:((2:Int)^i)=((2^i:Nat):Int):=by simp
 rw[e2];generalize 2^i=z at*;omega
theorem shr_u64{b i:Nat}(h:i≤64):((b:Nat):Int).fdiv (2^(min (i:Int).toNat IntKind.u64.bits))=((b / 2^i:Nat):Int):=by
 have e:min (i:Int).toNat IntKind.u64.bits=i:=by simp[IntKind.bits];omega
 rw[e,show((2:Int)^i)=((2^i:Nat):Int)by simp];exact fdiv2
theorem count_zero{n b:Nat}(hb:b<2^n):(allToB b n).length=0↔b=0:=by
 constructor
 ·intro h;have hn:allToB b n=[]:=List.length_eq_zero_iff.1 h;unfold allToB at hn;rw[List.map_eq_nil_iff]at hn;apply Nat.eq_of_testBit_eq;intro j;rw[Nat.zero_testBit]
  by_cases hj:j<n
  ·cases ht:b.testBit j with
   |false=>rfl
   |true=>
    have:j∈(List.range n).filter b.testBit:=List.mem_filter.2 ⟨List.mem_range.2 hj,ht⟩;rw[hn]at this;cases this
  ·exact Nat.testBit_lt_two_pow (Nat.lt_of_lt_of_le hb (Nat.pow_le_pow_right (by omega) (by omega)))
 ·rintro rfl
  have:allToB 0 n=[]:=by
   unfold allToB;rw[List.map_eq_nil_iff,List.filter_eq_nil_iff];intro a _;simp
  rw[this];rfl
def loadP(t:Bytes):Nat × Nat × Int:=match loadR t with
 |some q=>(q.1,q.2,0)
 |none=>(0,0,4)
theorem loadR_cons(x:UInt8)(r:Bytes):loadR (x::r)=if 64<x.toNat then none else if r.length≠rowN x.toNat then none else if x.toNat<64∧loV r / 2^x.toNat≠0 then none else some (x.toNat,loV r):=rfl
theorem loadP_big{x:UInt8}{r:Bytes}(h:64<x.toNat):loadP (x::r)=(0,0,4):=by unfold loadP;rw[loadR_cons,if_pos h]
theorem loadP_len{x:UInt8}{r:Bytes}(h: ¬64<x.toNat)(h2:r.length≠rowN x.toNat):loadP (x::r)=(0,0,4):=by unfold loadP;rw[loadR_cons,if_neg h,if_pos h2]
theorem loadP_odd{x:UInt8}{r:Bytes}(h: ¬64<x.toNat)(h2:r.length=rowN x.toNat)(h3:x.toNat<64∧loV r / 2^x.toNat≠0):loadP (x::r)=(0,0,4):=by unfold loadP;rw[loadR_cons,if_neg h,if_neg (by simpa using h2),if_pos h3]
theorem loadP_ok{x:UInt8}{r:Bytes}(h: ¬64<x.toNat)(h2:r.length=rowN x.toNat)(h3: ¬(x.toNat<64∧loV r / 2^x.toNat≠0)):loadP (x::r)=(x.toNat,loV r,0):=by unfold loadP;rw[loadR_cons,if_neg h,if_neg (by simpa using h2),if_neg h3]
theorem loadP_wf(t:Bytes):(loadP t).1≤64∧(loadP t).2.1<2^(loadP t).1:=by
 unfold loadP;cases h:loadR t with
 |none=>exact⟨by decide,by decide⟩
 |some q=>exact loadR_ok h
end Go.Sl
namespace Go.Sl
def regs(n:Nat):Nat:=(n+3) / 4
structure DrlM where
 c:CellM
 n:Nat
 bits:Nat
def rowOfT(n:Nat)(t:Bytes):Nat:=if(loadP t).2.2=0∧(loadP t).1=n then(loadP t).2.1 else 0
def drlE(D:Dev)(a b n:Int):Int:=if n<1∨32<n then 1 else openE D a b
def drlO(D:Dev)(a b:Int)(n:Nat):DrlM:=⟨openC D a b,n,rowOfT (regs n) (openC D a b).text⟩
def DrlM.set(L:DrlM)(D:Dev)(b:Nat):Int × DrlM × Dev:=
 ((L.c.put D (textR (regs L.n) b)).1,{L with c:=(L.c.put D (textR (regs L.n) b)).2.1,bits:=if(L.c.put D (textR (regs L.n) b)).1=0 then b else L.bits},(L.c.put D (textR (regs L.n) b)).2.2)
def DrlM.has(L:DrlM)(i:Int):Bool:=inR L.n i&&hasR (regs L.n) L.bits (i / 4)
def DrlM.mark(L:DrlM)(D:Dev)(i:Int):Int × DrlM × Dev:=
 if inR L.n i=false then(2,L,D)else if L.has i=true then(0,L,D)else L.set D (putR L.bits (i / 4))
def DrlM.clear(L:DrlM)(D:Dev):Int × DrlM × Dev:=if L.bits=0 then(0,L,D)else L.set D 0
structure DrlM.ok(L:DrlM)(D:Dev):Prop where
 c:L.c.ok D.l.length
 n:1≤L.n∧L.n≤32
 bits:L.bits<2^regs L.n
 d:D.ok
theorem regs_le{n:Nat}(h:1≤n∧n≤32):1≤regs n∧regs n≤8:=by unfold regs;omega
theorem rowOfT_lt(n:Nat)(t:Bytes):rowOfT n t<2^n:=by
 have h:=loadP_wf t;unfold rowOfT;split
 · rename_i e;rw[←e.2];exact h.2
 · exact Nat.two_pow_pos _
theorem inR_reg{n:Nat}{i:Int}(h:inR n i=true):inR (regs n) (i / 4)=true:=by
 obtain⟨h0,h1⟩:=inR_iff.1 h;exact inR_iff.2 ⟨by omega,by unfold regs;omega⟩
theorem drlO_ok{D:Dev}{a b:Int}{n:Nat}(hD:D.ok)(hn:1≤n∧n≤32)(h:openE D a b=0):(drlO D a b n).ok D:=⟨(openC_ok h).1,hn,rowOfT_lt _ _,hD⟩
/-- The blocks of the marked regions. -/
def blksTo(L:DrlM)(k:Nat):List Int:=((List.range k).filter fun i:Nat=>L.has i).map Int.ofNat
def DrlM.blks(L:DrlM):List Int:=blksTo L L.n
theorem blksTo_succ(L:DrlM)(k:Nat):blksTo L (k+1)=if L.has k=true then blksTo L k++[(k:Int)]else blksTo L k:=by
 unfold blksTo;rw[List.range_succ,List.filter_append];cases h:L.has k<;>simp[h]
theorem blksTo_le(L:DrlM): ∀k,(blksTo L k).length≤k
 |0=>by simp[blksTo]
 |k+1=>by
  have:=blksTo_le L k;rw[blksTo_succ];split
  · simp;omega
  · omega
end Go.Sl