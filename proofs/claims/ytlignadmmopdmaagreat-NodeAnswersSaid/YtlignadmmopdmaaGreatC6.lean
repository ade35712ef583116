/- A part of the proof. -/
import Derived.Test.YtlignadmmopdmaaGreatUn
import Derived.Test.YtlignadmmopdmaaGreatC4
import Derived.Test.YtlignadmmopdmaaGreatGN
set_option linter.unusedVariables false
set_option linter.unusedSimpArgs false
set_option linter.constructorNameAsVariable false
namespace Go.Proofs
open _root_.Go.Proofs.Tryz
open Go Go.Sl
namespace W
theorem len6d{l:List Int}(h:6≤l.length): ∃a b c d e f,l.drop (l.length- 6)=[a,b,c,d,e,f]:=len6 (by simp;omega)
theorem intsV_drop(l:List Int)(k:Nat):intsV (l.drop k)=(intsV l).drop k:=by simp[intsV,List.map_drop]
theorem intsV_take(l:List Int)(k:Nat):intsV (l.take k)=(intsV l).take k:=by simp[intsV,List.map_take]
theorem vcells_what(o:Option WhatM):vcells (whatV o)=[whatV o]:=by
 cases o with
 |none=>rfl
 |some w=>cases w<;>rfl
theorem what_one(o:Option WhatM):(whatV o).oneCell'=true:=by
 cases o with
 |none=>rfl
 |some w=>exact val_one w
theorem whatV_iface(o:Option WhatM):whatV o= .nilIface∨ ∃T u,whatV o= .iface T u:=by
 cases o with
 |none=>exact .inl rfl
 |some w=>cases w<;>exact .inr ⟨_,_,rfl⟩
theorem isW(o:Option WhatM):isIf (whatV o)=o.isSome:=by
 cases o with
 |none=>rfl
 |some w=>cases w<;>rfl
theorem recW_one(o:Option WhatM)(a b c d e f:Int): ∀u∈[whatV o,i64 a,i64 b,i64 c,i64 d,i64 e,i64 f],u.oneCell'=true:=by
 intro u hu;simp only[List.mem_cons,List.not_mem_nil,or_false]at hu;rcases hu with rfl|rfl|rfl|rfl|rfl|rfl|rfl
 · exact what_one _
 all_goals rfl
theorem ints_at{l:List Int}{k i:Nat}{x:Int}(h:(l.drop k)[i]? =some x):(intsV l)[k+i]? =some (i64 x):=by
 rw[List.getElem?_drop]at h;simp[intsV,h]
/-- What is told of a payload. -/
def KRd(n:Nat)(bs:Bytes)(L:List Seg)(u:Value)(L':List Seg):Prop:=L'=L∧
 ((∃r,readC n bs=some r∧u= .tuple #[.agg (recA r).toArray,.bool true])∨(readC n bs=none∧ ∃us:List Value,us.length=7∧(∀z∈us,z.oneCell'=true)∧u= .tuple #[.agg us.toArray,.bool false]))
theorem kRead [Env]{R:List Seg}{A:CaA}{C:CaM}{bs:Bytes}(hb:C.bl≤32)(hbs:bs.length≤1000):
   Con Tryz.prog 83 [ptr A.p,str bs] [caP A C] R (KRd C.bl bs [caP A C]):=by
 refine con_enter func83 ntmps83 rfl rfl ?_;refine gc 1 ?_;refine ya (ac_alloc zeroValue157 rfl) rfl ?_;rintro v L' ⟨b4,rfl,rfl⟩;refine gy 5 ?_;refine ya (ac_toBytesY rfl underlying9 underlying55 underlying5) rfl ?_;rintro v L' ⟨b12,c12,sp12,fr12,rfl,hc12,rfl⟩;refine ycall (cDecode (bs:=bs) ?hb5) rfl call47 ztk rfl ?_
 case hb5=>exact rdY_in zin hc12
 rintro v L' ⟨sn13,st13,rfl,ok13,rfl⟩;obtain⟨de,hde⟩: ∃z,decM bs=z:=⟨_,rfl⟩;have hnl:=decM_len bs;obtain⟨rc,er⟩:=de;rw[hde]at ok13 hnl ⊢;dsimp only at ok13 hnl ⊢;have okn:=ok13.n;have okt:=ok13.t;unfold recV;have hvn:RdV [svSeg sn13 2 (intsV rc.nums)] (svVal sn13 rc.nums.length) rc.nums.length (intsV rc.nums):=rdV_sv .z okn;have htn:RdV [svSeg st13 9 (strsV rc.texts)] (svVal st13 rc.texts.length) rc.texts.length (strsV rc.texts):=rdV_sv .z okt;have hcap:=svCap okn;refine gy 3 ?_;refine ya (ac_alloc zeroValue88 rfl) rfl ?_;rintro v L' ⟨b6,rfl,rfl⟩;refine yst (ac_storeAll rfl rfl (by(simp only[List.forall_mem_cons,List.not_mem_nil,false_implies,implies_true,svVal_one,and_true,true_and,and_self];first|done|simp[Value.oneCell'])) sizeOf88 zrp (by rfl) (by rfl)) ?_;refine gy 6 ?_;refine y (ev_lenSv rfl underlying57 (by assumption)) rfl ?_;refine gy 1 ?_;rw[wr (by omega) (by omega)];refine gy 8 ?_;refine ysp 22 rfl (fun h20=>?_) (fun h20=>?_)
 ·refine gy 14 ?_
  have rcN:readC C.bl bs=none:=by
    have hbad:badC bs=true:=by
      unfold badC;rw[hde];simp only[Bool.or_eq_true,Bool.not_eq_true',decide_eq_false_iff_not,decide_eq_true_eq]
      (left;left;assumption)
    unfold readC;rw[if_pos hbad]
  refine y (ev_be rfl) rfl ?_;refine yst (ac_storeAll rfl rfl (by simp[Value.oneCell']) sizeOf157 zrp (by rfl) (by rfl)) ?_;refine gy 5 ?_;refine kretct results83 rfl rfl isAgg157 sizeOf157 zin (rfl) (L1:=[caP A C]++R) zge ?_;exact⟨_,⟨rfl,.inr ⟨rcN,[.nilIface,i64 0,i64 0,i64 0,i64 0,i64 0,i64 0],rfl,recW_one none _ _ _ _ _ _,rfl⟩⟩,rfl⟩
 refine gy 4 ?_;refine ysp 26 rfl (fun h31=>?_) (fun h31=>?_)
 ·refine gy 10 ?_
  have rcN:readC C.bl bs=none:=by
    have hbad:badC bs=true:=by
      unfold badC;rw[hde];simp only[Bool.or_eq_true,Bool.not_eq_true',decide_eq_false_iff_not,decide_eq_true_eq]
      (left;right;omega)
    unfold readC;rw[if_pos hbad]
  refine y (ev_be rfl) rfl ?_;refine yst (ac_storeAll rfl rfl (by simp[Value.oneCell']) sizeOf157 zrp (by rfl) (by rfl)) ?_;refine gy 5 ?_;refine kretct results83 rfl rfl isAgg157 sizeOf157 zin (rfl) (L1:=[caP A C]++R) zge ?_;exact⟨_,⟨rfl,.inr ⟨rcN,[.nilIface,i64 0,i64 0,i64 0,i64 0,i64 0,i64 0],rfl,recW_one none _ _ _ _ _ _,rfl⟩⟩,rfl⟩
 have h6:6≤rc.nums.length:=by omega
 have hk6:((rc.nums.length:Int)- 6).toNat=rc.nums.length- 6:=by omega
 refine gy 3 ?_;refine ygo ?_;refine y (ev_slLV hvn rfl rfl underlying57 sizeOf2 (by omega) (by omega)) rfl ?_;rw[hk6]
 have hd:RdV [svSeg sn13 2 (intsV rc.nums)] (vSl (svVal sn13 rc.nums.length) (rc.nums.length- 6) rc.nums.length 1) (rc.nums.drop (rc.nums.length- 6)).length (intsV (rc.nums.drop (rc.nums.length- 6))):=by
   have h1:=hvn.sl hcap (lo:=rc.nums.length- 6) (hi:=rc.nums.length) (s:=1) (by omega) (by omega) (by simp[intsV]);have e1:(rc.nums.drop (rc.nums.length- 6)).length=rc.nums.length-(rc.nums.length- 6):=by simp
   rw[e1,intsV_drop];rw[List.take_of_length_le (by simp[intsV]),Nat.mul_one]at h1;exact h1
 refine ygo ?_;refine yci (kContainsInt (p:=oddN) (ns:=rc.nums.drop (rc.nums.length- 6)) ?hv40 (by simp;omega) call140 (fun R n=>kOdd)) call139 ?_
 case hv40=>exact hd.mono zge
 refine gy 3 ?_;refine cc rfl (fun h42=>?_) (fun h42=>?_)
 ·refine gc 1 ?_
  have rcN:readC C.bl bs=none:=by
    have hbad:badC bs=true:=by
      unfold badC;rw[hde];simp only[Bool.or_eq_true,Bool.not_eq_true',decide_eq_false_iff_not,decide_eq_true_eq]
      (right;assumption)
    unfold readC;rw[if_pos hbad]
  refine y (ev_be rfl) rfl ?_;refine yst (ac_storeAll rfl rfl (by simp[Value.oneCell']) sizeOf157 zrp (by rfl) (by rfl)) ?_;refine gy 5 ?_;refine kretct results83 rfl rfl isAgg157 sizeOf157 zin (rfl) (L1:=[caP A C]++R) zge ?_;exact⟨_,⟨rfl,.inr ⟨rcN,[.nilIface,i64 0,i64 0,i64 0,i64 0,i64 0,i64 0],rfl,recW_one none _ _ _ _ _ _,rfl⟩⟩,rfl⟩
 refine gc 3 ?_;refine cdrawN 9 (.op 0 0 (.op 1 1 (.op 2 0 (.op 3 1 (.op 4 0 (.op 5 0 (.fork 6 (.op 7 0 (.op 8 2 (.nil))) 8 (.op 6 2 (.op 7 0 (.nil)))))))))) (_) Tryz.mixed (by kernel_rfl) .refl ?_;obtain⟨n0,n1,n2,n3,n4,n5,hdr⟩:=len6d h6
 have hbad:badC bs=false:=by
   unfold badC;rw[hde];simp only[Bool.or_eq_false_iff,Bool.not_eq_false',decide_eq_false_iff_not,decide_eq_true_eq];refine⟨⟨?_,?_⟩,?_⟩
   · assumption
   · omega
   assumption
 have hrd:readC C.bl bs=(whatC C.bl rc.kind rc.texts (rc.nums.take (rc.nums.length- 6))).map (fun w=>⟨w,⟨n0,n1,⟨n2,n3,n4,n5⟩⟩⟩):=by
   unfold readC;rw[if_neg (by rw[hbad];simp),hde];dsimp only;rw[hdr];cases whatC C.bl rc.kind rc.texts (rc.nums.take (rc.nums.length- 6))<;>rfl
 refine nz rfl (ev_move rfl) rfl ?_;refine nr rfl (ev_loadAll rfl isAgg88 sizeOf88 zin (by rfl)) rfl ?_;refine nz rfl (ev_fieldAddr 1 rfl underlying88 rfl sizeOf57) rfl ?_;refine nr rfl (ev_load rfl isAgg57 zin rfl) rfl ?_;refine nz rfl (ev_move rfl) rfl ?_;refine nz rfl (ev_slHV hvn hcap rfl rfl underlying57 sizeOf2 (by omega) (by omega)) rfl ?_;rw[hk6]
 have htk:RdV [svSeg sn13 2 (intsV rc.nums)] (vSl (svVal sn13 rc.nums.length) 0 (rc.nums.length- 6) 1) (rc.nums.take (rc.nums.length- 6)).length (intsV (rc.nums.take (rc.nums.length- 6))):=by
   have h1:=hvn.sl hcap (lo:=0) (hi:=rc.nums.length- 6) (s:=1) (by omega) (by omega) (by simp[intsV]);have e1:(rc.nums.take (rc.nums.length- 6)).length=rc.nums.length- 6- 0:=by simp
   rw[e1,intsV_take];rw[Nat.zero_mul,List.drop_zero,Nat.mul_one,Nat.sub_zero]at h1;exact h1
 refine nfork ?_ ?_
 ·refine ncall rfl (kWhat (kind:=rc.kind) (ts:=rc.texts) (ns:=rc.nums.take (rc.nums.length- 6)) ?bl52 ?hv52 ?htv52 ?hno52) rfl call141 ztk rfl ?_
  case bl52=>exact hb
  case hv52=>exact htk.mono zge
  case htv52=>exact htn.mono zge
  case hno52=>exact svVal_one _ _
  rintro v L' ⟨rfl,rfl⟩;refine⟨zge,?_⟩;generalize whatC C.bl rc.kind rc.texts (rc.nums.take (rc.nums.length- 6))=wo at*;refine nz rfl (ev_build (zs:=[.nilIface,i64 0,i64 0,i64 0,i64 0,i64 0,i64 0]) (vs:=[whatV wo,i64 0,i64 0,i64 0,i64 0,i64 0,i64 0]) rfl underlying157 zeroValue157 rfl (.cons sizeOf20 (.cons sizeOf152 .nil)) ⟨⟨_,_,rfl,(by rw[vcells_what];rfl),(by decide)⟩,trivial⟩ (by simp[fillL,splice,vcells_what])) rfl ?_;refine na rfl (ac_alloc zeroValue157 rfl) rfl ?_;rintro v L' ⟨b9,rfl,rfl⟩;refine⟨zge,?_⟩;refine nnil ?_;refine yst (ac_storeAll rfl rfl (recW_one _ _ _ _ _ _ _) sizeOf157 zrp rfl rfl) ?_;refine gy 3 ?_;refine cdraw 14 (od [] 14 0) (_) Tryz.mixed (by kernel_rfl) .refl ?_;refine gh 3 ?_;refine hr rfl (ev_ixV hvn rfl rfl underlying57 sizeOf2 (by omega) (by omega)) rfl ?_;refine hr rfl (ev_loadV (rc.nums.length- 6+0) hvn zge rfl isAgg2 (by rw[hk6,Nat.mul_one];rfl) (ints_at (x:=n0) (by rw[hdr];rfl))) rfl ?_;refine gh 4 ?_;rw[wr (by omega) (by omega)];refine hr rfl (ev_ixV hvn rfl rfl underlying57 sizeOf2 (by omega) (by omega)) rfl ?_;refine hr rfl (ev_loadV (rc.nums.length- 6+1) hvn zge rfl isAgg2 (by rw[Nat.mul_one];omega) (ints_at (x:=n1) (by rw[hdr];rfl))) rfl ?_;refine hr rfl (ev_be rfl) rfl ?_;refine gh 3 ?_;refine yst (ac_storeN (vs':=[whatV wo,i64 n0,i64 n1,i64 0,i64 0,i64 0,i64 0]) rfl rfl (by simp[Value.oneCell']) sizeOf84 zrp rfl (by simp) rfl) ?_;refine gy 3 ?_;refine cdraw 8 (od [] 8 0) (_) Tryz.mixed (by kernel_rfl) .refl ?_;refine gh 2 ?_;refine hr rfl (ev_slA rfl underlying32 sizeOf2) rfl ?_;refine gh 4 ?_;rw[wr (by omega) (by omega)];refine hr rfl (ev_slLV hvn rfl rfl underlying57 sizeOf2 (by omega) (by omega)) rfl ?_;rw[show((rc.nums.length:Int)- 6+2).toNat=rc.nums.length- 6+2 by omega]
  have hd2:RdV [svSeg sn13 2 (intsV rc.nums)] (vSl (svVal sn13 rc.nums.length) (rc.nums.length- 6+2) rc.nums.length 1) 4 [i64 n2,i64 n3,i64 n4,i64 n5]:=by
    have h1:=hvn.sl hcap (lo:=rc.nums.length- 6+2) (hi:=rc.nums.length) (s:=1) (by omega) (by omega) (by simp[intsV]);rw[List.take_of_length_le (by simp[intsV]),Nat.mul_one,←intsV_drop,←List.drop_drop,hdr,show rc.nums.length-(rc.nums.length- 6+2)=4 by omega]at h1;exact h1
  refine gh 1 ?_;refine ya (ac_copyV (m:=4) (us:=[i64 n2,i64 n3,i64 n4,i64 n5]) (vs':=[whatV wo,i64 n0,i64 n1,i64 n2,i64 n3,i64 n4,i64 n5]) rfl rfl underlying57 sizeOf2 ((hd2.mono zge).src rfl) (by simp[Value.oneCell']) (by decide) zrp (by simp) rfl) rfl ?_;rintro v L' ⟨rfl,rfl⟩;refine gy 3 ?_;refine cdraw 5 (od [4] 5 0) ([sc b9 [whatV wo,i64 n0,i64 n1,i64 n2,i64 n3,i64 n4,i64 n5] 157,caP A C]++R) Tryz.mixed (by kernel_rfl) zge ?_;refine hr rfl (ev_loadN (u:=[whatV wo,i64 n0,i64 n1,i64 n2,i64 n3,i64 n4,i64 n5]) rfl isAgg157 sizeOf157 zin rfl rfl) rfl ?_;refine gh 2 ?_;refine hr rfl (ev_neqIn rfl underlying20 (whatV_iface wo)) rfl ?_;rw[isW];refine haN rfl (ac_storeAll rfl rfl (recW_one _ _ _ _ _ _ _) sizeOf157 zrp rfl rfl) ?_;rintro v L' ⟨rfl,rfl⟩;refine⟨zge,?_⟩;refine gh 5 ?_;refine kretct results83 rfl rfl isAgg157 sizeOf157 zin (rfl) (L1:=[caP A C]++R) zge ?_;refine⟨_,⟨rfl,?_⟩,rfl⟩;cases wo with|none=>exact .inr ⟨hrd,_,rfl,recW_one none n0 n1 n2 n3 n4 n5,rfl⟩|some w=>exact .inl ⟨_,hrd,rfl⟩
 refine na rfl (ac_alloc zeroValue157 rfl) rfl ?_;rintro v L' ⟨b9,rfl,rfl⟩;refine⟨zge,?_⟩;refine ncall rfl (kWhat (kind:=rc.kind) (ts:=rc.texts) (ns:=rc.nums.take (rc.nums.length- 6)) ?bl87 ?hv87 ?htv87 ?hno87) rfl call141 ztk rfl ?_
 case bl87=>exact hb
 case hv87=>exact htk.mono zge
 case htv87=>exact htn.mono zge
 case hno87=>exact svVal_one _ _
 rintro v L' ⟨rfl,rfl⟩;refine⟨zge,?_⟩;generalize whatC C.bl rc.kind rc.texts (rc.nums.take (rc.nums.length- 6))=wo at*;refine nz rfl (ev_build (zs:=[.nilIface,i64 0,i64 0,i64 0,i64 0,i64 0,i64 0]) (vs:=[whatV wo,i64 0,i64 0,i64 0,i64 0,i64 0,i64 0]) rfl underlying157 zeroValue157 rfl (.cons sizeOf20 (.cons sizeOf152 .nil)) ⟨⟨_,_,rfl,(by rw[vcells_what];rfl),(by decide)⟩,trivial⟩ (by simp[fillL,splice,vcells_what])) rfl ?_;refine nnil ?_;refine yst (ac_storeAll rfl rfl (recW_one _ _ _ _ _ _ _) sizeOf157 zrp rfl rfl) ?_;refine gy 3 ?_;refine cdraw 14 (od [] 14 0) (_) Tryz.mixed (by kernel_rfl) .refl ?_;refine gh 3 ?_;refine hr rfl (ev_ixV hvn rfl rfl underlying57 sizeOf2 (by omega) (by omega)) rfl ?_;refine hr rfl (ev_loadV (rc.nums.length- 6+0) hvn zge rfl isAgg2 (by rw[hk6,Nat.mul_one];rfl) (ints_at (x:=n0) (by rw[hdr];rfl))) rfl ?_;refine gh 4 ?_;rw[wr (by omega) (by omega)];refine hr rfl (ev_ixV hvn rfl rfl underlying57 sizeOf2 (by omega) (by omega)) rfl ?_;refine hr rfl (ev_loadV (rc.nums.length- 6+1) hvn zge rfl isAgg2 (by rw[Nat.mul_one];omega) (ints_at (x:=n1) (by rw[hdr];rfl))) rfl ?_;refine hr rfl (ev_be rfl) rfl ?_;refine gh 3 ?_;refine yst (ac_storeN (vs':=[whatV wo,i64 n0,i64 n1,i64 0,i64 0,i64 0,i64 0]) rfl rfl (by simp[Value.oneCell']) sizeOf84 zrp rfl (by simp) rfl) ?_;refine gy 3 ?_;refine cdraw 8 (od [] 8 0) (_) Tryz.mixed (by kernel_rfl) .refl ?_;refine gh 2 ?_;refine hr rfl (ev_slA rfl underlying32 sizeOf2) rfl ?_;refine gh 4 ?_;rw[wr (by omega) (by omega)];refine hr rfl (ev_slLV hvn rfl rfl underlying57 sizeOf2 (by omega) (by omega)) rfl ?_;rw[show((rc.nums.length:Int)- 6+2).toNat=rc.nums.length- 6+2 by omega]
 have hd2:RdV [svSeg sn13 2 (intsV rc.nums)] (vSl (svVal sn13 rc.nums.length) (rc.nums.length- 6+2) rc.nums.length 1) 4 [i64 n2,i64 n3,i64 n4,i64 n5]:=by
   have h1:=hvn.sl hcap (lo:=rc.nums.length- 6+2) (hi:=rc.nums.length) (s:=1) (by omega) (by omega) (by simp[intsV]);rw[List.take_of_length_le (by simp[intsV]),Nat.mul_one,←intsV_drop,←List.drop_drop,hdr,show rc.nums.length-(rc.nums.length- 6+2)=4 by omega]at h1;exact h1
 refine gh 1 ?_;refine ya (ac_copyV (m:=4) (us:=[i64 n2,i64 n3,i64 n4,i64 n5]) (vs':=[whatV wo,i64 n0,i64 n1,i64 n2,i64 n3,i64 n4,i64 n5]) rfl rfl underlying57 sizeOf2 ((hd2.mono zge).src rfl) (by simp[Value.oneCell']) (by decide) zrp (by simp) rfl) rfl ?_;rintro v L' ⟨rfl,rfl⟩;refine gy 3 ?_;refine cdraw 5 (od [4] 5 0) ([sc b9 [whatV wo,i64 n0,i64 n1,i64 n2,i64 n3,i64 n4,i64 n5] 157,caP A C]++R) Tryz.mixed (by kernel_rfl) zge ?_;refine hr rfl (ev_loadN (u:=[whatV wo,i64 n0,i64 n1,i64 n2,i64 n3,i64 n4,i64 n5]) rfl isAgg157 sizeOf157 zin rfl rfl) rfl ?_;refine gh 2 ?_;refine hr rfl (ev_neqIn rfl underlying20 (whatV_iface wo)) rfl ?_;rw[isW];refine haN rfl (ac_storeAll rfl rfl (recW_one _ _ _ _ _ _ _) sizeOf157 zrp rfl rfl) ?_;rintro v L' ⟨rfl,rfl⟩;refine⟨zge,?_⟩;refine gh 5 ?_;refine kretct results83 rfl rfl isAgg157 sizeOf157 zin (rfl) (L1:=[caP A C]++R) zge ?_;refine⟨_,⟨rfl,?_⟩,rfl⟩;cases wo with|none=>exact .inr ⟨hrd,_,rfl,recW_one none n0 n1 n2 n3 n4 n5,rfl⟩|some w=>exact .inl ⟨_,hrd,rfl⟩
theorem ent_one(x:EntM): ∀u∈[i64 x.blk,i64 x.ve,i64 x.vs,str x.data,.bool x.dirty,i64 x.cl,i64 x.n],u.oneCell'=true:=by
 intro u hu;simp only[List.mem_cons,List.not_mem_nil,or_false]at hu;rcases hu with rfl|rfl|rfl|rfl|rfl|rfl|rfl<;>rfl
theorem lk_entV(o:Option EntM):(o.map entV).getD (entV .zero)=entV (o.getD .zero):=by cases o<;>rfl
theorem vcells_val(w:WhatM):vcells (WhatM.val w)=[WhatM.val w]:=by cases w<;>rfl
def lgS(A:CaA)(q:Q3)(sl:Sv)(C:CaM):Seg:=logG A.lp A.lc q sl C.l
theorem kGet [Env]{R:List Seg}{A:CaA}{C:CaM}{b:Int}:Con Tryz.prog 153 [ptr A.p,i64 b] [caP A C,enS A C] R (Is (.tuple #[entV ((aget C.en b).getD .zero),.bool (aget C.en b).isSome]) [caP A C,enS A C]):=by
 refine con_enter func153 ntmps153 rfl rfl ?_;unfold caP caC enS;refine gc 1 ?_;refine ya (ac_alloc zeroValue127 rfl) rfl ?_;rintro v L' ⟨b4,rfl,rfl⟩;refine gy 9 ?_;refine y (ev_lookup2 (z:=entV .zero) (kv:=akv entV C.en) rfl rfl underlying149 underlying3 zeroValue127 zin) rfl ?_;rw[akv_get,lk_entV,Option.isSome_map];refine gy 3 ?_;refine ya (ac_alloc zeroValue127 rfl) rfl ?_;rintro v L' ⟨b6,rfl,rfl⟩;refine yst (ac_storeAll rfl rfl (ent_one _) sizeOf127 zrp rfl rfl) ?_;refine gy 4 ?_;refine y (ev_loadN (u:=[i64 ((aget C.en b).getD .zero).blk,i64 ((aget C.en b).getD .zero).ve,i64 ((aget C.en b).getD .zero).vs,str ((aget C.en b).getD .zero).data,.bool ((aget C.en b).getD .zero).dirty,i64 ((aget C.en b).getD .zero).cl,i64 ((aget C.en b).getD .zero).n]) rfl isAgg127 sizeOf127 zin rfl rfl) rfl ?_;refine gy 1 ?_;refine yst (ac_storeAll rfl rfl (ent_one _) sizeOf127 zrp rfl rfl) ?_;refine gy 4 ?_;refine kretct results153 rfl rfl isAgg127 sizeOf127 zin (rfl) (L1:=[sc A.p _ 154,so A.me _]++R) zge ?_;exact⟨_,⟨by rfl,rfl⟩,by rfl⟩
theorem kLast [Env]{R:List Seg}{A:CaA}{C:CaM}:Con Tryz.prog 174 [ptr A.p] [caP A C] R (Is (.agg #[i64 C.k.e,i64 C.k.s]) [caP A C]):=by
 refine con_enter func174 ntmps174 rfl rfl ?_;unfold caP caC;refine gc 1 ?_;refine ya (ac_alloc zeroValue84 rfl) rfl ?_;rintro v L' ⟨b2,rfl,rfl⟩;refine gy 7 ?_;refine y (ev_loadN (u:=[i64 C.k.e,i64 C.k.s]) rfl isAgg84 sizeOf84 zin rfl rfl) rfl ?_;refine yst (ac_storeAll rfl rfl (by simp[Value.oneCell']) sizeOf84 zrp (by rfl) (by rfl)) ?_;refine gy 3 ?_;refine kretc results174 rfl isAgg84 sizeOf84 zin (rfl) (L1:=[sc A.p _ 154]++R) zge ?_;exact⟨_,⟨by rfl,rfl⟩,by rfl⟩
theorem kRoom [Env]{R:List Seg}{A:CaA}{C:CaM}(hn:C.n≤512):Con Tryz.prog 204 [ptr A.p] [caP A C] R (Is (i64 ((C.n:Int)- 6)) [caP A C]):=by
 refine con_enter func204 ntmps204 rfl rfl ?_;unfold caP caC;refine gc 10 ?_;rw[wr (by omega) (by omega)];refine gy 4 ?_;refine kretv results204 rfl (L1:=[sc A.p _ 154]++R) zge ?_;exact⟨_,⟨by rfl,rfl⟩,by rfl⟩
theorem kNumber [Env]{R:List Seg}{A:CaA}{C:CaM}{i:Int}:Con Tryz.prog 98 [ptr A.p,i64 i] [caP A C] R (Is (i64 (numC C.k i)) [caP A C]):=by
 refine con_enter func98 ntmps98 rfl rfl ?_;unfold caP caC;refine gc 9 ?_;refine ysp 7 rfl (fun h37=>?_) (fun h37=>?_)
 ·refine gy 12 ?_;refine kretv results98 rfl (L1:=[sc A.p _ 154]++R) zge ?_;exact⟨_,⟨by(unfold numC;rw[if_pos (by omega)]),rfl⟩,by rfl⟩
 refine gy 5 ?_;refine cc rfl (fun h43=>?_) (fun h43=>?_)
 ·refine gc 6 ?_;refine kretv results98 rfl (L1:=[sc A.p _ 154]++R) zge ?_;exact⟨_,⟨by(unfold numC;rw[if_pos (by omega)]),rfl⟩,by rfl⟩
 refine gc 3 ?_;have hi4:i=0∨i=1∨i=2∨i=3:=by omega
 refine gy 5 ?_;refine y (ev_ixAddrA rfl rfl underlying32 sizeOf2 (by omega) (by omega)) rfl ?_;refine y (ev_load (v:=i64 (numC C.k i)) rfl isAgg2 zin (by rcases hi4 with rfl|rfl|rfl|rfl<;>rfl)) rfl ?_;refine gy 4 ?_;refine kretv results98 rfl (L1:=[sc A.p _ 154]++R) zge ?_;exact⟨_,⟨by rfl,rfl⟩,by rfl⟩
theorem kAll [Env]{R:List Seg}{A:CaA}{C:CaM}(hb:C.bl≤32):Con Tryz.prog 59 [ptr A.p] [caP A C,enS A C] R (KSv 127 C.all.length 7 (entsV C.all) [caP A C,enS A C]):=by
 refine con_enter func59 ntmps59 rfl rfl ?_;unfold caP caC enS;refine gc 8 ?_;refine cseqT ?_;intro K3 hK3;refine gc 8 ?_
 have hJ1: ∀x:Nat × Sv,((svOk x.2 (allTo C x.1).length 7 (entsV (allTo C x.1))∧x.1≤C.bl)∧(x.1=C.bl))→Sk 30 K3 ([(11,i64 x.1),(10,i64 C.bl),(3,svVal x.2 (allTo C x.1).length),(0,ptr A.p)]) ([svSeg x.2 127 (entsV (allTo C x.1)),sc A.p (caC A C) 154,so A.me (.map (ents (akv entV C.en)) C.ce)]++R):=by
  rintro⟨k,s⟩ ⟨hI1,hX1⟩;refine hK3 _ _ ?_;obtain⟨ok,hk⟩:=hI1;dsimp only at ok hk ⊢;unfold caC;have hal:=allTo_len C k;have hsu:=allTo_succ C k;dsimp only at hX1;subst hX1;refine gc 6 ?_;refine kretv results59 rfl (L1:=[svSeg _ _ _,sc A.p _ 154,so A.me _]++R) zge ?_;exact⟨_,⟨s,rfl,ok,rfl⟩,rfl⟩
 clear hK3;refine gc 1 ?_;refine cloopT (A:=Nat × Sv) (fun x=>[(11,i64 x.1),(10,i64 C.bl),(3,svVal x.2 (allTo C x.1).length),(0,ptr A.p)]) (fun x=>[svSeg x.2 127 (entsV (allTo C x.1)),sc A.p (caC A C) 154,so A.me (.map (ents (akv entV C.en)) C.ce)]++R) (fun x=>svOk x.2 (allTo C x.1).length 7 (entsV (allTo C x.1))∧x.1≤C.bl) (fun x=>C.bl-x.1) ((0,none)) ?_ zsub zge ?_
 · exact⟨⟨rfl,rfl⟩,Nat.zero_le _⟩
 rintro⟨k,s⟩ hI1 KL1 hL1;have hI1o:=hI1;obtain⟨ok,hk⟩:=hI1;dsimp only at ok hk ⊢;unfold caC;have hal:=allTo_len C k;have hsu:=allTo_succ C k;refine gc 5 ?_;refine cc rfl (fun h63=>?_) (fun h63=>?_)
 ·refine gc 15 ?_;refine y (ev_lookup2 (z:=entV .zero) (kv:=akv entV C.en) rfl rfl underlying149 underlying3 zeroValue127 zin) rfl ?_;rw[akv_get,lk_entV,Option.isSome_map];rcases hg:aget C.en (k:Nat)with _|x0
  ·refine gy 3 ?_;refine ya (ac_alloc zeroValue127 rfl) rfl ?_;rintro v L' ⟨b5,rfl,rfl⟩;refine yst (ac_storeAll rfl rfl (ent_one _) sizeOf127 zrp rfl rfl) ?_;refine gy 4 ?_;rw[hg]at hsu;dsimp only at hsu;refine gy 9 ?_;rw[show IntKind.i64.wrap ((k:Int)+1)=((k+1:Nat):Int)by rw[wr (by omega) (by omega)];rfl];refine gy 3 ?_
   (rw[←hsu]at ok ⊢;exact hL1 (k+1,s) ⟨ok,by dsimp only;omega⟩ (by dsimp only;omega) _ _ zsub zge)
  refine gy 3 ?_;refine ya (ac_alloc zeroValue127 rfl) rfl ?_;rintro v L' ⟨b5,rfl,rfl⟩;refine yst (ac_storeAll rfl rfl (ent_one _) sizeOf127 zrp rfl rfl) ?_;refine gy 4 ?_;rw[hg]at hsu;dsimp only at hsu;refine gy 6 ?_;refine y (ev_loadN (u:=[i64 x0.blk,i64 x0.ve,i64 x0.vs,str x0.data,.bool x0.dirty,i64 x0.cl,i64 x0.n]) rfl isAgg127 sizeOf127 zin rfl rfl) rfl ?_;refine ya (ac_bsliceR rfl underlying61 sizeOf127 zeroValue127 rfl rfl rfl rfl ⟨⟨_,_,rfl,(by rfl),(by decide)⟩,trivial⟩ (by dsimp[fillL,splice,vcells,reps]<;>rfl)) rfl ?_;rintro v L' ⟨b26,rfl,rfl⟩;refine ya (ac_append (s:=s) (xs:=entsV (allTo C k)) (m:=(allTo C k).length) (k:=1) (us:=x0.cells) (size:=7) rfl rfl (by repeat first|exact .z|apply Pk.s) underlying61 underlying61 (by intro q hq;cases hq) typeInfo127 rfl rfl rfl ?ok91 ?src91 ?one91 ?big91) rfl ?_
  case ok91=>exact ok
  case src91=>exact src_at zin rfl rfl
  case one91=>exact ent_one x0
  case big91=>show(_+_)*65≤_;omega
  rintro v L' ⟨s27,rfl,ok27,rfl⟩;rw[←entsV_snoc,show(allTo C k).length+1=(allTo C k++[x0]).length by simp,←hsu]at ok27 ⊢;refine gy 6 ?_;rw[show IntKind.i64.wrap ((k:Int)+1)=((k+1:Nat):Int)by rw[wr (by omega) (by omega)];rfl];refine gy 3 ?_
  (exact hL1 (k+1,s27) ⟨ok27,by dsimp only;omega⟩ (by dsimp only;omega) _ _ zsub zge)
 refine gc 5 ?_;exact ksub zsub zge (hJ1 ⟨k,s⟩ ⟨hI1o,by dsimp only;omega⟩)
end W
end Go.Proofs