/- A part of the proof. -/
import Derived.Test.YtlignadmmopdmaaGreatUn
import Derived.Test.YtlignadmmopdmaaGreatL5
import Derived.Test.YtlignadmmopdmaaGreatGM
import Derived.Test.YtlignadmmopdmaaGreatGC
import Derived.Test.YtlignadmmopdmaaGreatGL
set_option linter.unusedVariables false
set_option linter.unusedSimpArgs false
set_option linter.constructorNameAsVariable false
namespace Go.Proofs
open _root_.Go.Proofs.Tryz
open Go Go.Sl
namespace W
def KLOpen(r:Int × LogM × Dev)(q:Q3)(u:Value)(L':List Seg):Prop:=
 (r.1≠0∧u= .tuple #[nilP,i64 r.1]∧L'=[dev q r.2.2])∨(r.1=0∧ ∃l c sl,u= .tuple #[ptr l,i64 0]∧itOk sl r.2.1∧L'=[logP l c q sl r.2.1,itS sl r.2.1,celP c q r.2.1.c,dev q r.2.2])
theorem lOpen [Env]{R:List Seg}{q:Q3}{D:Dev}{first n a b:Int}(hD:D.ok)(ha:a≤9223372036854775807)(hb:b≤9223372036854775807):
   Con Tryz.prog 81 [dp q,i64 first,i64 n,i64 a,i64 b] [dev q D] R (KLOpen (logOpen D first n a b) q):=by
 have hn512:=hD.n;refine con_enter func81 ntmps81 rfl rfl ?_;refine cyn 2 ?_;refine cseq ?_;intro K2 hK2;refine cy 1 ?_
 skip
 ·refine y (ev_eqlPnil rfl rfl underlying26) rfl ?_;refine yr 5 ?_;refine ysp 26 rfl (fun h10=>?_) (fun h10=>?_)
  ·refine yn 17 ?_;refine ccond1 rfl ?_;refine csr ?_;have hop:logOpen D first n a b=(1,log0 D first n.toNat a b,D):=by unfold logOpen;rw[if_pos (by unfold logArg;omega)]
   refine yn 2 ?_;refine cret (kthr ?_);refine kretv2 results81 rfl rfl (L1:=[dev q D]++R) zge ?_;exact⟨_,.inl ⟨by rw[hop];show(1:Int)≠0;decide,by rw[hop],by rw[hop]⟩,rfl⟩
  refine yr 4 ?_;refine ysp 30 rfl (fun h22=>?_) (fun h22=>?_)
  ·refine yn 13 ?_;refine ccond1 rfl ?_;refine csr ?_;have hop:logOpen D first n a b=(1,log0 D first n.toNat a b,D):=by unfold logOpen;rw[if_pos (by unfold logArg;omega)]
   refine yn 2 ?_;refine cret (kthr ?_);refine kretv2 results81 rfl rfl (L1:=[dev q D]++R) zge ?_;exact⟨_,.inl ⟨by rw[hop];show(1:Int)≠0;decide,by rw[hop],by rw[hop]⟩,rfl⟩
  refine yr 2 ?_;refine ygo ?_;refine ycall (secSectors) rfl call46 ztk rfl ?_;rintro v L' ⟨rfl,rfl⟩;refine yr 3 ?_;refine ysp 36 rfl (fun h34=>?_) (fun h34=>?_)
  ·refine yn 7 ?_;refine ccond1 rfl ?_;refine csr ?_;have hop:logOpen D first n a b=(1,log0 D first n.toNat a b,D):=by unfold logOpen;rw[if_pos (by unfold logArg;omega)]
   refine yn 2 ?_;refine cret (kthr ?_);refine kretv2 results81 rfl rfl (L1:=[dev q D]++R) zge ?_;exact⟨_,.inl ⟨by rw[hop];show(1:Int)≠0;decide,by rw[hop],by rw[hop]⟩,rfl⟩
  refine yr 2 ?_;refine ygo ?_;refine ycall (secSectors) rfl call46 ztk rfl ?_;rintro v L' ⟨rfl,rfl⟩;refine yr 2 ?_;rw[wr (by omega) (by omega)];refine yn 2 ?_;refine cc rfl (fun h45=>?_) (fun h45=>?_)
  ·refine csr ?_;have hop:logOpen D first n a b=(1,log0 D first n.toNat a b,D):=by unfold logOpen;rw[if_pos (by unfold logArg;omega)]
   refine yn 2 ?_;refine cret (kthr ?_);refine kretv2 results81 rfl rfl (L1:=[dev q D]++R) zge ?_;exact⟨_,.inl ⟨by rw[hop];show(1:Int)≠0;decide,by rw[hop],by rw[hop]⟩,rfl⟩
  obtain⟨N,rfl⟩: ∃N:Nat,n=N:=⟨n.toNat,by omega⟩;refine cskip' (kthn (hK2 _ _ ?_));clear hK2;refine cseq ?_;intro K8 hK8;refine cy 2 ?_;refine ya (ac_bsliceR rfl underlying73 sizeOf3 zeroValue3 rfl rfl rfl rfl ⟨⟨_,_,rfl,(by rfl),(by decide)⟩,⟨⟨_,_,rfl,(by rfl),(by decide)⟩,trivial⟩⟩ (by dsimp[fillL,splice,vcells,reps]<;>rfl)) rfl ?_;rintro v L' ⟨b46,rfl,rfl⟩;refine y (ev_len rfl underlying73) rfl ?_;refine yn 1 ?_
  have hJ1: ∀x:Nat,((x≤2∧(1≤x→ ¬inRing first N a)∧(2≤x→ ¬inRing first N b))∧(x=2))→Sk 175 K8 ([(48,i64 x),(47,i64 2),(46,.slice (some ⟨b46,0,none⟩) 2 2),(0,dp q),(1,i64 first),(2,i64 N),(3,i64 a),(4,i64 b)]) ([sc b46 (intsV [a,b]) 3,dev q D]++R):=by
   rintro k ⟨hI1,hX1⟩;refine hK8 _ _ ?_;obtain⟨hk,hka,hkb⟩:=hI1;have hrd:RdV [sc b46 (intsV [a,b]) 3] (.slice (some ⟨b46,0,none⟩) 2 2) 2 (intsV [a,b]):=rdV_in .z rfl rfl;subst hX1;have hra:=hka (by decide);have hrb:=hkb (by decide);clear hka hkb hk;have harg: ¬logArg D first N a b:=by unfold logArg;rintro(h|h|h|h|h|h);all_goals first|omega|exact hra h|exact hrb h
   refine cy 3 ?_;refine ycall (cOpen hD) rfl call43 ztk rfl ?_;rintro v L' hop;rcases hop with⟨he0,rfl,rfl⟩|⟨he0,c67,rfl,rfl⟩
   ·refine yn 5 ?_;refine cseq ?_;intro K11 hK11;refine cy 2 ?_
    try rw[show(!decide (openE D a b=0))=true by simp[he0]]
    refine ynr ?_;refine ccond1 rfl ?_;refine csr ?_;have hop:logOpen D first N a b=(openE D a b,log0 D first (N:Int).toNat a b,D):=by unfold logOpen;rw[if_neg harg,if_pos he0]
    refine yn 3 ?_;refine cret (kthr ?_);refine kretv2 results81 rfl rfl (L1:=[dev q D]++R) zge ?_;exact⟨_,.inl ⟨by rw[hop];exact he0,by rw[hop],by rw[hop]⟩,rfl⟩
   refine yn 5 ?_;refine cseq ?_;intro K14 hK14;refine cy 2 ?_
   try rw[show(!decide (openE D a b=0))=true by simp[he0]]
   refine ynr ?_;refine ccond0 rfl ?_;refine cskip' (kthn (hK14 _ _ ?_));clear hK14;refine cy 4 ?_;refine y (ev_bd ([dp q,i64 first,i64 N,ptr c67,i64 1,i64 0,i64 0,nilS])) rfl ?_;refine ya (ac_box (vs:=[dp q,i64 first,i64 N,ptr c67,i64 1,i64 0,i64 0,nilS]) rfl rfl) rfl ?_;rintro v L' ⟨b78,rfl,rfl⟩;refine yn 1 ?_;refine cseq ?_;intro K17 hK17
   have hJr16: ∀x:Unit,(True)→Sk 175 K17 ([(0,dp q),(14,ptr c67),(16,ptr b78)]) ([sc b78 [dp q,i64 first,i64 N,ptr c67,i64 (headOf (openC D a b).text).1,i64 (headOf (openC D a b).text).2.1,i64 (headOf (openC D a b).text).2.2,nilS] 208,celP c67 q (openC D a b),dev q D]++R):=by
    rintro x hIr16;refine hK17 _ _ ?_;obtain⟨hd1,hd2,hd3⟩:=headOf_ok (openC D a b).text;obtain⟨ho,hho⟩: ∃z,headOf (openC D a b).text=z:=⟨_,rfl⟩;rw[hho]at hd1 hd2 hd3 ⊢;have hl0:log0 D first (N:Int).toNat a b=⟨first,N,openC D a b,ho.1,ho.2.1+1,ho.2.2,scanL D first N ho.2.1 N ho.1 ho.2.2⟩:=by unfold log0;rw[hho];rfl
    refine cseq ?_;intro K18 hK18;refine cyn 5 ?_;refine cc rfl (fun h86=>?_) (fun h86=>?_)
    ·have hop:logOpen D first N a b=(22,log0 D first (N:Int).toNat a b,D):=by unfold logOpen;rw[if_neg harg,if_neg (by rw[he0];decide),hho,if_pos h86]
     refine cyn 2 ?_;refine cret (kthr ?_);refine kretv2 results81 rfl rfl (L1:=[dev q D]++R) zge ?_;exact⟨_,.inl ⟨by rw[hop];show(22:Int)≠0;decide,by rw[hop],by rw[hop]⟩,rfl⟩
    have hok0:=log0_ok hD harg he0 (by rw[hho];exact h86);rw[show log0 D first N a b=log0 D first (N:Int).toNat a b from rfl,hl0]at hok0;obtain⟨w,hw⟩: ∃w,(openC D a b).put D (recB (headR ho.1 (ho.2.1+1) ho.2.2))=w:=⟨_,rfl⟩;have hput:LogM.put ⟨first,N,openC D a b,ho.1,ho.2.1+1,ho.2.2,scanL D first N ho.2.1 N ho.1 ho.2.2⟩ D ho.1 ho.2.2=(w.1,⟨first,N,w.2.1,ho.1,ho.2.1+1,ho.2.2,scanL D first N ho.2.1 N ho.1 ho.2.2⟩,w.2.2):=by unfold LogM.put;dsimp only;rw[hw]
    have hop:logOpen D first N a b=(w.1,⟨first,N,w.2.1,ho.1,ho.2.1+1,ho.2.2,scanL D first N ho.2.1 N ho.1 ho.2.2⟩,w.2.2):=by unfold logOpen;rw[if_neg harg,if_neg (by rw[he0];decide),if_neg (by rw[hho];exact h86),hl0];exact hput
    refine cskip' (kthn (hK18 _ _ ?_));clear hK18;refine csr ?_;refine yreP (L':=[logP b78 c67 q none ⟨first,N,openC D a b,ho.1,ho.2.1,ho.2.2,[]⟩,itS none ⟨first,N,openC D a b,ho.1,ho.2.1,ho.2.2,[]⟩,celP c67 q (openC D a b),dev q D]++R) (by simp[logP,itS,svSeg,svVal]) ?_;refine yr 1 ?_;refine ycall (lScan ?sa90 ?sb90 ?sc90 ?sd90 ?se90 ?sf90 ?sg90) rfl call137 ztk rfl ?_
    case sa90=>exact hD
    case sb90=>exact(openC_ok he0).2
    case sc90=>exact⟨rfl,rfl⟩
    case sd90=>rfl
    case se90=>(show 2≤N;omega)
    case sf90=>exact⟨by dsimp only;omega,by dsimp only;omega⟩
    case sg90=>exact hd1
    rintro v L' ⟨sl153,Z153,rfl,hZ153,okz153,rfl⟩;subst hZ153;unfold logP;dsimp only at okz153 ⊢;refine ynr ?_;refine cy 5 ?_;rw[wr (by omega) (by omega)];refine yr 2 ?_;refine ya0 (ac_store rfl rfl (by rfl) sizeOf2 zrp rfl rfl) ?_;rintro v L' ⟨rfl,rfl⟩;refine ynr ?_;refine cseq ?_;intro K23 hK23;refine cseq ?_;intro K24 hK24;refine cdraw 9 (od [] 9 0) ([sc b78 _ 208]++R) Tryz.mixed (by kernel_rfl) zge ?_;refine hy 9 ?_;refine hnil ?_;refine ycall (lPut (L:=⟨first,N,openC D a b,ho.1,ho.2.1+1,ho.2.2,scanL D first N ho.2.1 N ho.1 ho.2.2⟩) (sl:=sl153) hok0 ⟨by omega,by omega⟩ hd3) rfl call138 ztk rfl ?_;rintro v L' ⟨rfl,rfl⟩;rw[hput];refine yr 1 ?_;refine hnoP' (kthn (hK24 _ _ ?_));clear hK24;refine cyn 2 ?_;refine cc rfl (fun h112=>?_) (fun h112=>?_)
    ·refine cyn 3 ?_;refine cret (kthr ?_);refine kretv2 results81 rfl rfl (L1:=[dev q w.2.2]++R) zge ?_;exact⟨_,.inl ⟨by rw[hop];assumption,by rw[hop],by rw[hop]⟩,rfl⟩
    refine cskip' (kthn (hK23 _ _ ?_));clear hK23;refine cyn 3 ?_;refine cret ?_;refine kretv2 results81 rfl rfl (L1:=[logP b78 c67 q sl153 ⟨first,N,w.2.1,ho.1,ho.2.1+1,ho.2.2,scanL D first N ho.2.1 N ho.1 ho.2.2⟩,itS sl153 ⟨first,N,w.2.1,ho.1,ho.2.1+1,ho.2.2,scanL D first N ho.2.1 N ho.1 ho.2.2⟩,celP c67 q w.2.1,dev q w.2.2]++R) zge ?_;exact⟨_,.inr ⟨by rw[hop];simp_all,b78,c67,sl153,rfl,by rw[hop];exact okz153,by rw[hop]⟩,rfl⟩
   clear hK17;refine cy 1 ?_;refine ycall (cGet) rfl call48 ztk rfl ?_;rintro v L' ⟨rfl,rfl⟩;refine ya (ac_toBytesY rfl underlying9 underlying55 underlying5) rfl ?_;rintro v L' ⟨b82,c82,sp82,fr82,rfl,hc82,rfl⟩;refine ycall (cDecode (bs:=(openC D a b).text) ?hb122) rfl call47 ztk rfl ?_
   case hb122=>exact rdY_in zin hc82
   rintro v L' ⟨sn83,st83,rfl,ok83,rfl⟩;obtain⟨de,hde⟩: ∃z,decM (openC D a b).text=z:=⟨_,rfl⟩;obtain⟨rc,er⟩:=de;have hbad:=headOf_bad hde;have hgd:=headOf_good hde;rw[hde]at ok83 ⊢;dsimp only at ok83 ⊢;have okn:=ok83.n;have okt:=ok83.t;unfold recV;have hvn:RdV [svSeg sn83 2 (intsV rc.nums)] (svVal sn83 rc.nums.length) rc.nums.length (intsV rc.nums):=rdV_sv .z okn;refine yr 3 ?_;refine ya (ac_alloc zeroValue88 rfl) rfl ?_;rintro v L' ⟨b17,rfl,rfl⟩;refine ya0 (ac_storeAll rfl rfl (by(simp only[List.forall_mem_cons,List.not_mem_nil,false_implies,implies_true,svVal_one,and_true,true_and,and_self];first|done|simp[Value.oneCell'])) sizeOf88 zrp (by rfl) (by rfl)) ?_;rintro v L' ⟨rfl,rfl⟩;refine yn 1 ?_;refine cy 3 ?_;refine ysp 88 rfl (fun h132=>?_) (fun h132=>?_)
   ·refine yr 5 ?_;refine ysp 93 rfl (fun h138=>?_) (fun h138=>?_)
    ·refine yr 2 ?_;refine ygo ?_;refine y (ev_lenSv rfl underlying57 (by assumption)) rfl ?_;refine yr 3 ?_;refine ysp 99 rfl (fun h145=>?_) (fun h145=>?_)
     ·refine yr 2 ?_;refine ygo ?_;refine y (ev_lenSv rfl underlying86 (by assumption)) rfl ?_;refine yr 3 ?_;refine ysp 105 rfl (fun h152=>?_) (fun h152=>?_)
      ·refine yr 2 ?_;refine ygo ?_;refine y (ev_ixV hvn rfl rfl underlying57 sizeOf2 (by omega) (by omega)) rfl ?_;refine ygo ?_;refine y (ev_loadV 0 hvn zge rfl isAgg2 rfl (intsV_get (getd_get (d:=0) (by omega)))) rfl ?_;refine ygo ?_;refine ycall (lWithin) rfl call136 ztk rfl ?_;rintro v L' ⟨rfl,rfl⟩;refine yr 2 ?_;refine ysp 112 rfl (fun h160=>?_) (fun h160=>?_)
       ·refine yr 2 ?_;refine ygo ?_;refine y (ev_ixV hvn rfl rfl underlying57 sizeOf2 (by omega) (by omega)) rfl ?_;refine ygo ?_;refine y (ev_loadV 1 hvn zge rfl isAgg2 (by simp) (intsV_get (getd_get (d:=0) (by omega)))) rfl ?_;refine ygo ?_;refine ycall (lWithin) rfl call136 ztk rfl ?_;rintro v L' ⟨rfl,rfl⟩;refine yr 2 ?_;refine ysp 119 rfl (fun h168=>?_) (fun h168=>?_)
        ·refine yr 2 ?_;refine ygo ?_;refine y (ev_ixV hvn rfl rfl underlying57 sizeOf2 (by omega) (by omega)) rfl ?_;refine ygo ?_;refine y (ev_loadV 2 hvn zge rfl isAgg2 (by simp) (intsV_get (getd_get (d:=0) (by omega)))) rfl ?_;refine ygo ?_;refine ycall (lWithin) rfl call136 ztk rfl ?_;rintro v L' ⟨rfl,rfl⟩;refine yn 1 ?_;refine cc rfl (fun h175=>?_) (fun h175=>?_)
         ·have hho:=hgd (by assumption) (by assumption) (by assumption) (by assumption) (by assumption) (by assumption) h175;refine cdraw 23 (od [17,20] 23 0) ([sc b17 [i64 rc.kind,svVal sn83 rc.nums.length,svVal st83 rc.texts.length] 88,svSeg sn83 2 (intsV rc.nums)]++R) Tryz.mixed (by kernel_rfl) zge ?_;refine hy 5 ?_;refine hr rfl (ev_ixV hvn rfl rfl underlying57 sizeOf2 (by omega) (by omega)) rfl ?_;refine hr rfl (ev_loadV 0 hvn zge rfl isAgg2 rfl (intsV_get (getd_get (d:=0) (by omega)))) rfl ?_;refine hy 2 ?_;refine hr rfl (ev_ixV hvn rfl rfl underlying57 sizeOf2 (by omega) (by omega)) rfl ?_;refine hr rfl (ev_loadV 1 hvn zge rfl isAgg2 (by simp) (intsV_get (getd_get (d:=0) (by omega)))) rfl ?_;refine hy 2 ?_;refine hr rfl (ev_ixV hvn rfl rfl underlying57 sizeOf2 (by omega) (by omega)) rfl ?_;refine hr rfl (ev_loadV 2 hvn zge rfl isAgg2 (by simp) (intsV_get (getd_get (d:=0) (by omega)))) rfl ?_;refine hy 2 ?_;refine haN rfl (ac_store rfl rfl (by rfl) sizeOf2 zrp rfl rfl) ?_;rintro v L' ⟨rfl,rfl⟩;refine⟨zge,?_⟩;refine hy 2 ?_;refine haN rfl (ac_store rfl rfl (by rfl) sizeOf2 zrp rfl rfl) ?_;rintro v L' ⟨rfl,rfl⟩;refine⟨zge,?_⟩;refine hy 2 ?_;refine hnil ?_;refine ya0 (ac_store rfl rfl (by rfl) sizeOf2 zrp rfl rfl) ?_;rintro v L' ⟨rfl,rfl⟩;refine hnoP' (kthn ?_);rw[hho]at hJr16;exact ksub zsub zge (hJr16 () trivial)
         refine cskip' (kthn ?_);rw[hbad (.inr (.inr (.inr (.inr (.inr (.inr (by assumption)))))))]at hJr16;exact ksub zsub zge (hJr16 () trivial)
        refine yn 6 ?_;refine ccond0 rfl ?_;refine cskip' (kthn ?_);rw[hbad (.inr (.inr (.inr (.inr (.inr (.inl (by assumption)))))))]at hJr16;exact ksub zsub zge (hJr16 () trivial)
       refine yn 13 ?_;refine ccond0 rfl ?_;refine cskip' (kthn ?_);rw[hbad (.inr (.inr (.inr (.inr (.inl (by assumption))))))]at hJr16;exact ksub zsub zge (hJr16 () trivial)
      refine yn 20 ?_;refine ccond0 rfl ?_;refine cskip' (kthn ?_);rw[hbad (.inr (.inr (.inr (.inl (by assumption)))))]at hJr16;exact ksub zsub zge (hJr16 () trivial)
     refine yn 26 ?_;refine ccond0 rfl ?_;refine cskip' (kthn ?_);rw[hbad (.inr (.inr (.inl (by assumption))))]at hJr16;exact ksub zsub zge (hJr16 () trivial)
    refine yn 32 ?_;refine ccond0 rfl ?_;refine cskip' (kthn ?_);rw[hbad (.inr (.inl (by assumption)))]at hJr16;exact ksub zsub zge (hJr16 () trivial)
   refine yn 37 ?_;refine ccond0 rfl ?_;refine cskip' (kthn ?_);rw[hbad (.inl (by assumption))]at hJr16;exact ksub zsub zge (hJr16 () trivial)
  clear hK8;refine cblock ?_;refine cloop (A:=Nat) (fun x=>[(48,i64 x),(47,i64 2),(46,.slice (some ⟨b46,0,none⟩) 2 2),(0,dp q),(1,i64 first),(2,i64 N),(3,i64 a),(4,i64 b)]) (fun x=>[sc b46 (intsV [a,b]) 3,dev q D]++R) (fun x=>x≤2∧(1≤x→ ¬inRing first N a)∧(2≤x→ ¬inRing first N b)) (fun x=>2-x) (0) ?_ zsub zge ?_
  · exact⟨Nat.zero_le _,fun h=>absurd h (by decide),fun h=>absurd h (by decide)⟩
  rintro k hI1 KL1 hL1;have hI1o:=hI1;obtain⟨hk,hka,hkb⟩:=hI1;have hrd:RdV [sc b46 (intsV [a,b]) 3] (.slice (some ⟨b46,0,none⟩) 2 2) 2 (intsV [a,b]):=rdV_in .z rfl rfl;refine cyn 1 ?_;refine cseq ?_;intro K31 hK31;refine cc rfl (fun h237=>?_) (fun h237=>?_)
  ·obtain⟨z,hz⟩: ∃z,([a,b]:List Int)[k]? =some z:=by
     rcases Nat.lt_or_ge k 1 with h|h
     · exact⟨a,by rw[show k=0 by omega];rfl⟩
     exact⟨b,by rw[show k=1 by omega];rfl⟩
   have hzz:z≤9223372036854775807:=by
     have:=List.mem_of_getElem? hz;simp at this;omega
   have hzk:(k=0→z=a)∧(k=1→z=b):=⟨fun h=>by subst h;simp at hz;exact hz.symm,fun h=>by subst h;simp at hz;exact hz.symm⟩;refine cskip' (kthn (hK31 _ _ ?_));clear hK31;refine cseq ?_;intro K32 hK32;refine cblock ?_;refine csr ?_;refine y (ev_ixV hrd rfl rfl underlying73 sizeOf3 (by omega) (by omega)) rfl ?_;refine y (ev_loadV k hrd zge rfl isAgg3 (by simp) (intsV_get hz)) rfl ?_;refine yn 1 ?_;refine cy 4 ?_;refine ysp 55 rfl (fun h245=>?_) (fun h245=>?_)
   ·refine yr 3 ?_;rw[wr (by omega) (by omega)];refine yn 3 ?_;refine cc rfl (fun h252=>?_) (fun h252=>?_)
    ·refine csr ?_
     have hop:logOpen D first N a b=(1,log0 D first (N:Int).toNat a b,D):=by
       have hir:inRing first N z:=⟨by omega,by omega⟩
       have:inRing first N a∨inRing first N b:=by
         rcases Nat.lt_or_ge k 1 with h|h
         · exact .inl (hzk.1 (by omega)▸hir)
         exact .inr (hzk.2 (by omega)▸hir)
       unfold logOpen;rw[if_pos (by unfold logArg;rcases this with h|h;exact .inr (.inr (.inr (.inr (.inl h))));exact .inr (.inr (.inr (.inr (.inr h)))))]
     refine yn 2 ?_;refine cret (kbr (kthr (kthr (kbr (kthr ?_)))));refine kretv2 results81 rfl rfl (L1:=[dev q D]++R) zge ?_;exact⟨_,.inl ⟨by rw[hop];show(1:Int)≠0;decide,by rw[hop],by rw[hop]⟩,rfl⟩
    refine cskip' (kbn (kthn (hK32 _ _ ?_)));clear hK32;refine cr 1 ?_;rw[show IntKind.i64.wrap ((k:Int)+1)=((k+1:Nat):Int)by rw[wr (by omega) (by omega)];rfl];refine yr 1 ?_;refine ynil' (kthn ?_);exact hL1 (k+1) (⟨by omega,fun _ h=>by rcases Nat.lt_or_ge k 1 with h1|h1;exact absurd (hzk.1 (by omega)▸h) (by unfold inRing;omega);exact hka h1 h,fun h2 h=>absurd (hzk.2 (by omega)▸h) (by unfold inRing;omega)⟩) (by omega) _ _ zsub zge
   refine yn 6 ?_;refine ccond0 rfl ?_;refine cskip' (kbn (kthn (hK32 _ _ ?_)));clear hK32;refine cr 1 ?_;rw[show IntKind.i64.wrap ((k:Int)+1)=((k+1:Nat):Int)by rw[wr (by omega) (by omega)];rfl];refine yr 1 ?_;refine ynil' (kthn ?_);exact hL1 (k+1) (⟨by omega,fun _ h=>by rcases Nat.lt_or_ge k 1 with h1|h1;exact absurd (hzk.1 (by omega)▸h) (by unfold inRing;omega);exact hka h1 h,fun h2 h=>absurd (hzk.2 (by omega)▸h) (by unfold inRing;omega)⟩) (by omega) _ _ zsub zge
  refine cexit (kthx (kthx (kbx (kthn ?_))));exact ksub zsub zge (hJ1 k ⟨hI1o,by omega⟩)
def logG(p c:Nat)(q:Q3)(sl:Sv)(L:LogM):Seg:=logP p c q sl L++itS sl L++celP c q L.c
theorem pG0{p c:Nat}{q:Q3}{sl:Sv}{L:LogM}{R:List Seg}:([logG p c q sl L]++R).flatten.Perm ([logP p c q sl L]++(itS sl L::celP c q L.c::R)).flatten:=by simp[logG]
theorem pG1{p c:Nat}{q:Q3}{sl:Sv}{L:LogM}{R:List Seg}:([logG p c q sl L]++R).flatten.Perm ([logP p c q sl L,itS sl L]++(celP c q L.c::R)).flatten:=by simp[logG]
theorem pG2{p c:Nat}{q:Q3}{sl:Sv}{L:LogM}{d:Seg}{R:List Seg}:([logG p c q sl L,d]++R).flatten.Perm ([logP p c q sl L,itS sl L,celP c q L.c,d]++R).flatten:=by simp[logG]
theorem pG3{p c:Nat}{q:Q3}{sl:Sv}{L:LogM}{d:Seg}{R:List Seg}:([logG p c q sl L,d]++R).flatten.Perm ([logP p c q sl L,itS sl L,d]++(celP c q L.c::R)).flatten:=by
 simp only[logG,List.cons_append,List.nil_append,List.flatten_cons,List.append_assoc];exact .append_left _ (.append_left _ (List.perm_append_comm_assoc _ _ _))
theorem pG4{p c:Nat}{q:Q3}{sl:Sv}{L:LogM}{d:Seg}{R:List Seg}:([logG p c q sl L,d]++R).flatten.Perm ([logP p c q sl L,d]++(itS sl L::celP c q L.c::R)).flatten:=by
 simp only[logG,List.cons_append,List.nil_append,List.flatten_cons,List.append_assoc];exact .append_left _ ((List.Perm.append_left _ (List.perm_append_comm_assoc _ _ _)).trans (List.perm_append_comm_assoc _ _ _))
theorem bHead [Env]{R:List Seg}{p c:Nat}{q:Q3}{sl:Sv}{L:LogM}:Con Tryz.prog 85 [ptr p] [logG p c q sl L] R (Is (i64 L.head) [logG p c q sl L]):=by
 refine lHead.via pG0 ?_;rintro v L' ⟨rfl,rfl⟩;exact⟨_,⟨rfl,rfl⟩,pG0.symm⟩
theorem bTail [Env]{R:List Seg}{p c:Nat}{q:Q3}{sl:Sv}{L:LogM}(hs:itOk sl L)(h1:0≤L.head)(h2:L.tail≤4611686018427388416)(hl:L.l.length≤512):Con Tryz.prog 189 [ptr p] [logG p c q sl L] R (Is (i64 L.tail) [logG p c q sl L]):=by
 refine(lTail hs h1 h2 hl).via pG0 ?_;rintro v L' ⟨rfl,rfl⟩;exact⟨_,⟨rfl,rfl⟩,pG0.symm⟩
theorem bFree [Env]{R:List Seg}{p c:Nat}{q:Q3}{sl:Sv}{L:LogM}(hs:itOk sl L)(h1:L.n≤512)(hl:L.l.length≤512):Con Tryz.prog 224 [ptr p] [logG p c q sl L] R (Is (i64 ((L.n:Int)-L.l.length)) [logG p c q sl L]):=by
 refine(lFree hs h1 hl).via pG0 ?_;rintro v L' ⟨rfl,rfl⟩;exact⟨_,⟨rfl,rfl⟩,pG0.symm⟩
theorem bRecords [Env]{R:List Seg}{p c:Nat}{q:Q3}{sl:Sv}{L:LogM}(hs:itOk sl L)(hl:L.l.length≤512):
   Con Tryz.prog 82 [ptr p] [logG p c q sl L] R (KSv 9 (L.l.map (·.1)).length 1 (strsV (L.l.map (·.1))) [logG p c q sl L]):=by
 refine(lRecords hs hl).via pG1 ?_;rintro v L' ⟨s,rfl,h2,rfl⟩;refine⟨_,⟨s,rfl,h2,rfl⟩,?_⟩;simp[logG]
theorem bSync [Env]{R:List Seg}{p c:Nat}{q:Q3}{sl:Sv}{L:LogM}{D:Dev}(hD:D.ok):Con Tryz.prog 207 [ptr p] [logG p c q sl L,dev q D] R (Is (i64 D.barrier.1) [logG p c q sl L,dev q D.barrier.2]):=by
 refine(lSync hD).via pG4 ?_;rintro v L' ⟨rfl,rfl⟩;exact⟨_,⟨rfl,rfl⟩,pG4.symm⟩
theorem append_c(L:LogM)(D:Dev)(s:Bytes):(L.append D s).2.1.c=L.c:=by
 unfold LogM.append;split
 · rfl
 split
 · rfl
 split
 · rfl
 dsimp only;split<;>rfl
theorem bAppend [Env]{R:List Seg}{p c:Nat}{q:Q3}{sl:Sv}{L:LogM}{D:Dev}{s:Bytes}(hL:L.ok D)(hs:itOk sl L):
   Con Tryz.prog 221 [ptr p,str s] [logG p c q sl L,dev q D] R (fun u L'=> ∃sl',u=i64 (L.append D s).1∧itOk sl' (L.append D s).2.1∧L'=[logG p c q sl' (L.append D s).2.1,dev q (L.append D s).2.2]):=by
 refine(lAppend hL hs).via pG3 ?_;rintro v L' ⟨sl',rfl,h2,rfl⟩;refine⟨_,⟨sl',rfl,h2,rfl⟩,?_⟩;rw[←append_c L D s];exact pG3.symm
theorem bTrim [Env]{R:List Seg}{p c:Nat}{q:Q3}{sl:Sv}{L:LogM}{D:Dev}{k:Int}(hL:L.ok D)(hs:itOk sl L):
   Con Tryz.prog 226 [ptr p,i64 k] [logG p c q sl L,dev q D] R (fun u L'=> ∃sl',u=i64 (L.trim D k).1∧itOk sl' (L.trim D k).2.1∧L'=[logG p c q sl' (L.trim D k).2.1,dev q (L.trim D k).2.2]):=by
 refine(lTrim hL hs).via pG2 ?_;rintro v L' ⟨sl',rfl,h2,rfl⟩;exact⟨_,⟨sl',rfl,h2,rfl⟩,pG2.symm⟩
end W
end Go.Proofs
namespace Go.Sl
variable {P : Program} {n : Nat} {l : List (Nat × Value)} {L : List Seg} {d : Option Tmp} {ty : TypeId} {pos : String} {af : Array Edge} {g : Option (Nat × Bool)}
theorem ev_assertY [Env]{x:Operand}{T xT:TypeId}{v:Value}{ds:TypeDesc}(hx:ev l x=some (.iface T v))(hu:P.underlying T=some ds)(hni: ∀q,ds≠ .interface q):
  Ev P n ⟨d,.typeAssert x xT T true,ty,pos,af,g⟩ l L (.tuple #[v,.bool true]):=by
 intro a w hf _;cases ds<;>simp_all [execOp,Instr.typeAssert,hf.ev hx,run_underlying hu]
theorem ev_assertN [Env]{x:Operand}{T U xT:TypeId}{v z:Value}{ds:TypeDesc}(hx:ev l x=some (.iface U v))(hu:P.underlying T=some ds)(hni: ∀q,ds≠ .interface q)(hne: ¬U=T)(hz: ∀w,(zeroValue T).run P w= .ok z w):
  Ev P n ⟨d,.typeAssert x xT T true,ty,pos,af,g⟩ l L (.tuple #[z,.bool false]):=by
 intro a w hf _;cases ds<;>simp_all [execOp,Instr.typeAssert,hf.ev hx,run_underlying hu]
def isIf:Value→Bool
 | .nilIface=>false
 |_=>true
theorem ev_neqIn [Env]{x:Operand}{t t':TypeId}{v:Value}{ms:Array (String × TypeId)}(hx:ev l x=some v)(hu:P.underlying t=some (.interface ms))(hv:v= .nilIface∨ ∃T u,v= .iface T u):
  Ev P n ⟨d,.binOp .neq t x (.const .nilIface) t',ty,pos,af,g⟩ l L (.bool (isIf v)):=by
 intro a w hf _;have hm:P.underlying t=some (.interface (P.methodsAt t)):=by rw[hu];simp[Program.methodsAt,hu]
 rcases hv with rfl|⟨T,u,rfl⟩
 ·have h:=run_neq_nil_nil (P:=P) (w:=w) t hm;have e:a.eval x= .nilIface:=hf.ev hx;simp only[execOp,Sem.run_bind,e];simp[Act.eval,eqGuard_nil_constR,h,isIf]
 ·have h:=run_neq_held_nil (P:=P) (w:=w) t T u hm;have e:a.eval x= .iface T u:=hf.ev hx;simp only[execOp,Sem.run_bind,e];simp[Act.eval,eqGuard,h,isIf]
end Go.Sl
namespace Go.Sl
theorem jget [Env]{P:Program}{n:Nat}{c:Operand}{A B:Code}{Q:Exit→Act→World→Prop}{K:Act→World→Prop}{I:Prop}{F:List (Nat × Value)}{M:List Seg}
 (_: ∀l L,Sc P n (.cond c A B) Q l L→Sk n K l L) (h:I→Sc P n B Q F M):I→Sc P n B Q F M:=h
end Go.Sl
namespace Go.Sl
theorem ac_copyV [Env]{P:Program}{n:Nat}{l:List (Nat × Value)}{L:List Seg}{d:Option Tmp}{ty:TypeId}{pos:String}{af:Array Edge}{g:Option (Nat × Bool)}
  {x z:Operand} {dT sT e:TypeId} {b o dl dc m:Nat} {vs vs' us:List Value} {T:TypeId} {v:Value} {L':List Seg}
  (hx:ev l x=some (.slice (some ⟨b,o,none⟩) dl dc)) (hz:ev l z=some v) (hu:P.underlying dT=some (.slice e)) (hs: ∀w,(sizeOf e).run P w= .ok 1 w)
  (hsrc:Src P L 1 v m us) (h1: ∀u∈us,u.oneCell'=true) (hm:m≤dl) (r:Rp L (sc b vs T) (sc b vs' T) L') (ho:o+m≤vs.length) (hv:vs.take o++us++vs.drop (o+m)=vs'):
  Ac P n ⟨d,.call {callee:= .builtin .copy,args:= #[x,z],argTypes:= #[dT,sT]},ty,pos,af,g⟩ l L (fun v L''=>v= .int .i64 m∧L''=L'):=by
 have hl:us.length=m:=by have:=hsrc.1;omega
 have ht:us.take m=us:=List.take_of_length_le (by omega);exact ac_copy hx hz hu hs hsrc h1 (show m=min m dl by omega) r ho (by rw[ht];exact hv) (fun w hw=>by rw[ht];exact(hsrc.2 w hw).2)
end Go.Sl