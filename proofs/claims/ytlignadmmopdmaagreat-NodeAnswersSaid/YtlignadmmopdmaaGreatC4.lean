/- A part of the proof. -/
import Derived.Test.YtlignadmmopdmaaGreatUn
import Derived.Test.YtlignadmmopdmaaGreatSlAs
import Derived.Test.YtlignadmmopdmaaGreatGN
import Derived.Test.YtlignadmmopdmaaGreatGL
set_option linter.unusedVariables false
set_option linter.unusedSimpArgs false
set_option linter.constructorNameAsVariable false
namespace Go.Proofs
open _root_.Go.Proofs.Tryz
open Go Go.Sl
namespace W
theorem kWithin [Env]{R:List Seg}{n lo hi:Int}:Con Tryz.prog 192 [i64 n,i64 lo,i64 hi] [] R (Is (.bool (within3 n lo hi)) []):=by
 refine con_enter func192 ntmps192 rfl rfl ?_;refine gc 9 ?_;refine ysp 10 rfl (fun h6=>?_) (fun h6=>?_)
 ·refine gy 8 ?_;refine kretv results192 rfl (L1:=R) zge ?_;exact⟨_,⟨by simp[within3, *],rfl⟩,by rfl⟩
 refine gy 8 ?_;refine kretv results192 rfl (L1:=R) zge ?_;exact⟨_,⟨by simp[within3, *],rfl⟩,by rfl⟩
theorem kOdd [Env]{R:List Seg}{n:Int}:Con Tryz.prog 140 [i64 n] [] R (Is (.bool (oddN n)) []):=by
 refine con_enter func140 ntmps140 rfl rfl ?_;refine gc 6 ?_;refine yci (kWithin) call192 ?_;refine gy 5 ?_;refine kretv results140 rfl (L1:=R) zge ?_;exact⟨_,⟨by rfl,rfl⟩,by rfl⟩
theorem kMay [Env]{R:List Seg}{e s least:Int}:Con Tryz.prog 194 [.agg #[i64 e,i64 s],i64 least] [] R (Is (.bool (mayV e s least)) []):=by
 refine con_enter func194 ntmps194 rfl rfl ?_;refine gc 1 ?_;refine ya (ac_box (vs:=[i64 e,i64 s]) rfl rfl) rfl ?_;rintro v L' ⟨b2,rfl,rfl⟩;refine gy 7 ?_;refine yci (kWithin) call192 ?_;refine gy 1 ?_;refine ysp 9 rfl (fun h26=>?_) (fun h26=>?_)
 ·refine gy 3 ?_;refine ygo ?_;refine yci (kWithin) call192 ?_;refine gy 5 ?_;refine kretv results194 rfl (L1:=R) zge ?_;exact⟨_,⟨by(unfold mayV;simp[*]),rfl⟩,by rfl⟩
 refine gy 9 ?_;refine kretv results194 rfl (L1:=R) zge ?_;exact⟨_,⟨by(unfold mayV;simp[*]),rfl⟩,by rfl⟩
theorem kAbove [Env]{R:List Seg}{e s e' s':Int}:Con Tryz.prog 203 [.agg #[i64 e,i64 s],.agg #[i64 e',i64 s']] [] R (Is (.bool (aboveV e s e' s')) []):=by
 refine con_enter func203 ntmps203 rfl rfl ?_;refine gc 1 ?_;refine ya (ac_box (vs:=[i64 e,i64 s]) rfl rfl) rfl ?_;rintro v L' ⟨b2,rfl,rfl⟩;refine ya (ac_box (vs:=[i64 e',i64 s']) rfl rfl) rfl ?_;rintro v L' ⟨b3,rfl,rfl⟩;refine gy 10 ?_;refine ysp 10 rfl (fun h44=>?_) (fun h44=>?_)
 ·refine gy 17 ?_;refine kretv results203 rfl (L1:=R) zge ?_;exact⟨_,⟨by simp[aboveV, *],rfl⟩,by rfl⟩
 refine gy 6 ?_;refine ysp 16 rfl (fun h53=>?_) (fun h53=>?_)
 ·refine gy 11 ?_;refine kretv results203 rfl (L1:=R) zge ?_;exact⟨_,⟨by simp[aboveV, *],rfl⟩,by rfl⟩
 refine gy 11 ?_;refine kretv results203 rfl (L1:=R) zge ?_;exact⟨_,⟨by simp[aboveV, *],rfl⟩,by rfl⟩
theorem kIndexInt [Env]{R:List Seg}{v:Value}{ns:List Int}{g:FuncId}{p:Int→Bool}(hv:RdV R v ns.length (intsV ns))(hl:ns.length<1000000)
   (hcall: ∀(args:Array Value) (w:World),(callFunc g args).run Tryz.prog w= .ok (.enter g args) w) (hp: ∀(R:List Seg) (n:Int),Con Tryz.prog g ([i64 n]++[]) [] R (Is (.bool (p n)) [])):
   Con Tryz.prog 191 [v,.func (.func g) #[] #[]] [] R (fun u L'=> ∃i:Int,u=i64 i∧decide (0≤i)=ns.any p∧L'=[]):=by
 refine con_enter func191 ntmps191 rfl rfl ?_;refine gc 4 ?_;refine cseqT ?_;intro K2 hK2;refine gc 2 ?_;refine y (ev_lenV rfl underlying57 (RdV.lenVal (by assumption))) rfl ?_;refine gy 3 ?_
 have hJ1: ∀x:Nat,((x≤ns.length∧(ns.take x).any p=false)∧(x=ns.length))→Sk 19 K2 ([(8,i64 x),(7,i64 ns.length),(0,v),(1,.func (.func g) #[] #[])]) (R):=by
  rintro k ⟨hI1,hX1⟩;refine hK2 _ _ ?_;obtain⟨hk,hno⟩:=hI1;subst hX1;rw[List.take_length]at hno;refine gc 5 ?_;refine kretv results191 rfl (L1:=R) zge ?_
  first
    |exact⟨[],⟨_,rfl,by rw[hyes];simp,rfl⟩,rfl⟩
    |exact⟨[],⟨_,rfl,by rw[hno];simp,rfl⟩,rfl⟩
 clear hK2;refine gc 1 ?_;refine cloopT (A:=Nat) (fun x=>[(8,i64 x),(7,i64 ns.length),(0,v),(1,.func (.func g) #[] #[])]) (fun x=>R) (fun x=>x≤ns.length∧(ns.take x).any p=false) (fun x=>ns.length-x) (0) ?_ zsub zge ?_
 · exact⟨Nat.zero_le _,by simp⟩
 rintro k hI1 KL1 hL1;have hI1o:=hI1;obtain⟨hk,hno⟩:=hI1;refine gc 5 ?_;refine cc rfl (fun h71=>?_) (fun h71=>?_)
 ·obtain⟨t,ht⟩: ∃t,ns[k]? =some t:=⟨_,List.getElem?_eq_getElem (by omega)⟩;refine gc 13 ?_;refine y (ev_ixV (by assumption) rfl rfl underlying57 sizeOf2 (by omega) (by omega)) rfl ?_;refine y (ev_loadV k hv zge rfl isAgg2 (by simp) (intsV_get ht)) rfl ?_;refine ycallF rfl (hp _ t) rfl hcall ztk rfl ?_;rintro v L' ⟨rfl,rfl⟩;refine gy 2 ?_;refine cc rfl (fun h80=>?_) (fun h80=>?_)
  ·have hyes:ns.any p=true:=List.any_eq_true.2 ⟨t,List.mem_of_getElem? ht,h80⟩;refine gc 11 ?_
   first
     |(exfalso;omega;done)
     | (refine kretv results191 rfl (L1:=R) zge ?_
        first
          |exact⟨[],⟨_,rfl,by rw[hyes];simp,rfl⟩,rfl⟩
          |exact⟨[],⟨_,rfl,by rw[hno];simp,rfl⟩,rfl⟩)
  have hno2:(ns.take (k+1)).any p=false:=by rw[take_snoc ht];simp[hno,h80]
  refine gc 5 ?_;rw[show IntKind.i64.wrap ((k:Int)+1)=((k+1:Nat):Int)by rw[wr (by omega) (by omega)];rfl];refine gy 3 ?_;exact hL1 (k+1) (⟨by omega,hno2⟩) (by omega) _ _ zsub zge
 refine gc 5 ?_;exact ksub zsub zge (hJ1 k ⟨hI1o,by omega⟩)
theorem kContainsInt [Env]{R:List Seg}{v:Value}{ns:List Int}{g:FuncId}{p:Int→Bool}(hv:RdV R v ns.length (intsV ns))(hl:ns.length<1000000)
   (hcall: ∀(args:Array Value) (w:World),(callFunc g args).run Tryz.prog w= .ok (.enter g args) w) (hp: ∀(R:List Seg) (n:Int),Con Tryz.prog g ([i64 n]++[]) [] R (Is (.bool (p n)) [])):
   Con Tryz.prog 139 [v,.func (.func g) #[] #[]] [] R (Is (.bool (ns.any p)) []):=by
 refine con_enter func139 ntmps139 rfl rfl ?_;refine gc 7 ?_;refine ycall (kIndexInt ?hv88 hl hcall hp) rfl call191 ztk rfl ?_
 case hv88=>exact hv.mono zge
 rintro v L' ⟨i7,rfl,hi7,rfl⟩;refine gy 1 ?_;rw[hi7];refine gy 4 ?_;refine kretv results139 rfl (L1:=R) zge ?_;exact⟨_,⟨by rfl,rfl⟩,by rfl⟩
theorem kWrong [Env]{R:List Seg}{v:Value}{e s:Int}{ns:List Int}(hv:RdV R v ns.length (intsV ns))(hl:ns.length<1000000):
   Con Tryz.prog 209 [.agg #[i64 e,i64 s],v] [] R (Is (.bool (!mayV e s 0||decide (ns.length≠4)||ns.any oddN)) []):=by
 refine con_enter func209 ntmps209 rfl rfl ?_;refine gc 1 ?_;refine ya (ac_box (vs:=[i64 e,i64 s]) rfl rfl) rfl ?_;rintro v L' ⟨b2,rfl,rfl⟩;refine gy 4 ?_;refine y (ev_loadN (u:=[i64 e,i64 s]) rfl isAgg84 sizeOf84 zin rfl rfl) rfl ?_;refine yci (kMay) call194 ?_;refine gy 2 ?_;refine ysp 8 rfl (fun h97=>?_) (fun h97=>?_)
 ·refine gy 12 ?_;refine kretv results209 rfl (L1:=R) zge ?_;exact⟨_,⟨by simp[*],rfl⟩,by rfl⟩
 refine gy 1 ?_;refine ygo ?_;refine y (ev_lenV rfl underlying57 hv.lenVal) rfl ?_;refine gy 3 ?_;refine ysp 13 rfl (fun h107=>?_) (fun h107=>?_)
 ·refine gy 7 ?_;refine kretv results209 rfl (L1:=R) zge ?_;exact⟨_,⟨by(simp[*];omega),rfl⟩,by rfl⟩
 refine gy 1 ?_;refine ygo ?_;refine yci (kContainsInt (p:=oddN) ?hv111 hl call140 (fun R n=>kOdd)) call139 ?_
 case hv111=>exact hv.mono zge
 refine gy 5 ?_;refine kretv results209 rfl (L1:=R) zge ?_;exact⟨_,⟨by(simp[*];omega),rfl⟩,by rfl⟩
def entV(x:EntM):Value:= .agg #[i64 x.blk,i64 x.ve,i64 x.vs,str x.data,.bool x.dirty,i64 x.cl,i64 x.n]
def WhatM.val:WhatM→Value
 | .put x=> .iface 215 (entV x)
 | .clean b e s=> .iface 217 (.agg #[i64 b,i64 e,i64 s])
 | .drop b=> .iface 219 (.agg #[i64 b])
 | .note=> .iface 248 (.agg #[])
abbrev keptV(k:KeptM):Value:= .agg #[i64 k.e,i64 k.s,i64 k.t.a,i64 k.t.b,i64 k.t.c,i64 k.t.d]
def recA(r:CrecM):List Value:=[WhatM.val r.w,i64 r.k.e,i64 r.k.s,i64 r.k.t.a,i64 r.k.t.b,i64 r.k.t.c,i64 r.k.t.d]
structure CaA where
 p:Nat
 lp:Nat
 lc:Nat
 me:Nat
 mp:Nat
def caC(A:CaA)(C:CaM):List Value:=[ptr A.lp,i64 C.bl,i64 C.n,.map (some A.me),.map (some A.mp),i64 C.k.e,i64 C.k.s,i64 C.k.t.a,i64 C.k.t.b,i64 C.k.t.c,i64 C.k.t.d]
def numV(n:Int):Value:= .int .i64 n
def caP(A:CaA)(C:CaM):Seg:=sc A.p (caC A C) 154
def enS(A:CaA)(C:CaM):Seg:=so A.me (.map (ents (akv entV C.en)) C.ce)
def puS(A:CaA)(C:CaM):Seg:=so A.mp (.map (ents (akv numV C.pu)) C.cp)
theorem val_one(w:WhatM):(WhatM.val w).oneCell'=true:=by cases w<;>rfl
theorem recA_one(r:CrecM): ∀u∈recA r,u.oneCell'=true:=by
 intro u hu;simp only[recA,List.mem_cons,List.not_mem_nil,or_false]at hu;rcases hu with rfl|rfl|rfl|rfl|rfl|rfl|rfl
 · exact val_one _
 all_goals rfl
theorem kIn [Env]{R:List Seg}{A:CaA}{C:CaM}{b:Int}(hb:C.bl≤32):Con Tryz.prog 193 [ptr A.p,i64 b] [caP A C] R (Is (.bool (inB C.bl b)) [caP A C]):=by
 refine con_enter func193 ntmps193 rfl rfl ?_;unfold caP caC;refine gc 11 ?_;rw[wr (by omega) (by omega)];refine yci (kWithin) call192 ?_;refine gy 4 ?_;refine kretv results193 rfl (L1:=[sc A.p _ 154]++R) zge ?_;exact⟨_,⟨by rfl,rfl⟩,by rfl⟩
theorem kDoes [Env]{R:List Seg}{A:CaA}{C:CaM}{r:CrecM}{num:Int}(hC:C.mok):
   Con Tryz.prog 84 [ptr A.p,.agg (recA r).toArray,i64 num] [caP A C,enS A C,puS A C] R (Is (.tuple #[]) [caP A (C.does r num),enS A (C.does r num),puS A (C.does r num)]):=by
 obtain⟨w,k⟩:=r;refine con_enter func84 ntmps84 rfl rfl ?_;unfold caP caC enS puS;refine gc 1 ?_;refine ya (ac_box (vs:=recA ⟨w,k⟩) rfl rfl) rfl ?_;rintro v L' ⟨b4,rfl,rfl⟩;refine gy 4 ?_;rcases w with x|⟨cb,ce,cs⟩|db|_
 ·refine gy 6 ?_;refine y (ev_assertY rfl underlying215 (by intro q hq;cases hq)) rfl ?_;refine gy 6 ?_;refine ya (ac_alloc zeroValue215 rfl) rfl ?_;rintro v L' ⟨b6,rfl,rfl⟩;refine yst (ac_storeAll rfl rfl (by simp[Value.oneCell']) sizeOf215 zrp (by rfl) (by rfl)) ?_;refine gy 3 ?_;refine cdraw 9 (od [] 9 0) (_) Tryz.mixed (by kernel_rfl) .refl ?_;refine gh 8 ?_;refine hr rfl (ev_loadN rfl isAgg127 sizeOf127 zin rfl rfl) rfl ?_;refine gh 1 ?_;refine yst (ac_mapUpdate (kv:=akv entV C.en) (v:=entV x) rfl rfl rfl underlying149 underlying3 (akv_uniq _ hC.e) zrp) ?_;rw[akv_put,akv_clk];refine gy 2 ?_;refine cdraw 8 (od [] 8 0) (_) Tryz.mixed (by kernel_rfl) .refl ?_;refine gh 9 ?_;refine yst (ac_mapUpdate (kv:=akv numV C.pu) (v:=numV num) rfl rfl rfl underlying150 underlying3 (akv_uniq _ hC.p) zrp) ?_;rw[akv_put,akv_clk];refine gy 4 ?_
  skip
  refine gy 2 ?_;refine y (ev_loadN (u:=[i64 k.e,i64 k.s,i64 k.t.a,i64 k.t.b,i64 k.t.c,i64 k.t.d]) rfl isAgg152 sizeOf152 zin rfl rfl) rfl ?_;refine gy 2 ?_;refine yst (ac_storeN (vs':=[ptr A.lp,i64 C.bl,i64 C.n,.map (some A.me),.map (some A.mp),i64 k.e,i64 k.s,i64 k.t.a,i64 k.t.b,i64 k.t.c,i64 k.t.d]) rfl rfl (by simp[Value.oneCell']) sizeOf152 zrp rfl (by simp) rfl) ?_;refine gy 1 ?_;refine kendv0 results84 (L1:=[sc A.p _ 154,so A.me _,so A.mp _]++R) zge ?_;exact⟨_,⟨rfl,rfl⟩,rfl⟩
 ·refine gy 6 ?_;refine y (ev_assertN rfl underlying215 (by intro q hq;cases hq) (by decide) zeroValue215) rfl ?_;refine gy 6 ?_;refine y (ev_assertY rfl underlying217 (by intro q hq;cases hq)) rfl ?_;refine gy 6 ?_;refine ya (ac_alloc zeroValue217 rfl) rfl ?_;rintro v L' ⟨b7,rfl,rfl⟩;refine yst (ac_storeAll rfl rfl (by simp[Value.oneCell']) sizeOf217 zrp (by rfl) (by rfl)) ?_;refine gy 3 ?_;refine cdraw 12 (od [10,11] 12 0) (_) Tryz.mixed (by kernel_rfl) .refl ?_;refine gh 6 ?_;refine hr rfl (ev_lookup2 rfl rfl underlying149 underlying3 zeroValue127 zin) rfl ?_;rw[akv_get];rcases hg:aget C.en cb with _|y0
  ·refine gh 3 ?_;refine ha rfl (ac_alloc zeroValue127 rfl) rfl ?_;rintro v L' ⟨b8,rfl,rfl⟩;refine⟨zge,?_⟩;refine haN rfl (ac_storeAll rfl rfl (by intro u hu;simp only[List.mem_cons,List.not_mem_nil,or_false]at hu;rcases hu with rfl|rfl|rfl|rfl|rfl|rfl|rfl<;>rfl) sizeOf127 zrp rfl rfl) ?_;rintro v L' ⟨rfl,rfl⟩;refine⟨zge,?_⟩;refine gh 20 ?_;have hD0:C.does ⟨.clean cb ce cs,k⟩ num={C with k:=k}:=by simp[CaM.does,CaM.eff,hg]
   refine gy 2 ?_;refine y (ev_loadN (u:=[i64 k.e,i64 k.s,i64 k.t.a,i64 k.t.b,i64 k.t.c,i64 k.t.d]) rfl isAgg152 sizeOf152 zin rfl rfl) rfl ?_;refine gy 2 ?_;refine yst (ac_storeN (vs':=[ptr A.lp,i64 C.bl,i64 C.n,.map (some A.me),.map (some A.mp),i64 k.e,i64 k.s,i64 k.t.a,i64 k.t.b,i64 k.t.c,i64 k.t.d]) rfl rfl (by simp[Value.oneCell']) sizeOf152 zrp rfl (by simp) rfl) ?_;refine gy 1 ?_;refine kendv0 results84 (L1:=[sc A.p _ 154,so A.me _,so A.mp _]++R) zge ?_
   (rw[hD0];exact⟨_,⟨rfl,rfl⟩,rfl⟩)
  refine gh 3 ?_;refine ha rfl (ac_alloc zeroValue127 rfl) rfl ?_;rintro v L' ⟨b8,rfl,rfl⟩;refine⟨zge,?_⟩;refine haN rfl (ac_storeAll rfl rfl (by intro u hu;simp only[List.mem_cons,List.not_mem_nil,or_false]at hu;rcases hu with rfl|rfl|rfl|rfl|rfl|rfl|rfl<;>rfl) sizeOf127 zrp rfl rfl) ?_;rintro v L' ⟨rfl,rfl⟩;refine⟨zge,?_⟩;refine gh 8 ?_;refine ygo ?_;refine y (ev_loadN (u:=[i64 y0.ve,i64 y0.vs]) rfl isAgg84 sizeOf84 zin rfl rfl) rfl ?_;refine gy 1 ?_;refine ygo ?_;refine y (ev_loadN (u:=[i64 ce,i64 cs]) rfl isAgg84 sizeOf84 zin rfl rfl) rfl ?_;refine ygo ?_;refine y (ev_eqlF rfl rfl (by kernel_rfl) (by simp only[List.cons.injEq,Value.int.injEq,Value.string.injEq,Value.bool.injEq,str_inj,intsV_inj,MsgM.cells_inj,true_and,and_true];exact Iff.rfl)) rfl ?_;refine gy 3 ?_;refine cc rfl (fun h89=>?_) (fun h89=>?_)
  ·refine gc 2 ?_;refine yst (ac_store rfl rfl (by rfl) sizeOf4 zrp rfl rfl) ?_;refine gy 2 ?_;refine cdraw 7 (od [] 7 0) (_) Tryz.mixed (by kernel_rfl) .refl ?_;refine gh 6 ?_;refine hr rfl (ev_loadAll rfl isAgg127 sizeOf127 zin (by rfl)) rfl ?_;refine gh 1 ?_;refine yst (ac_mapUpdate (kv:=akv entV C.en) (v:=entV {y0 with dirty:=false}) rfl rfl rfl underlying149 underlying3 (akv_uniq _ hC.e) zrp) ?_;rw[akv_put,akv_clk];refine gy 4 ?_;have hD0:C.does ⟨.clean cb ce cs,k⟩ num={C with en:=aput C.en C.ce cb {y0 with dirty:=false},ce:=aclk C.en C.ce cb,k:=k}:=by simp[CaM.does,CaM.eff,hg, *]
   refine gy 2 ?_;refine y (ev_loadN (u:=[i64 k.e,i64 k.s,i64 k.t.a,i64 k.t.b,i64 k.t.c,i64 k.t.d]) rfl isAgg152 sizeOf152 zin rfl rfl) rfl ?_;refine gy 2 ?_;refine yst (ac_storeN (vs':=[ptr A.lp,i64 C.bl,i64 C.n,.map (some A.me),.map (some A.mp),i64 k.e,i64 k.s,i64 k.t.a,i64 k.t.b,i64 k.t.c,i64 k.t.d]) rfl rfl (by simp[Value.oneCell']) sizeOf152 zrp rfl (by simp) rfl) ?_;refine gy 1 ?_;refine kendv0 results84 (L1:=[sc A.p _ 154,so A.me _,so A.mp _]++R) zge ?_
   (rw[hD0];exact⟨_,⟨rfl,rfl⟩,rfl⟩)
  refine gc 4 ?_;have hD0:C.does ⟨.clean cb ce cs,k⟩ num={C with k:=k}:=by(simp only[CaM.does,CaM.eff,hg];rw[if_neg (by assumption)])
  refine gy 2 ?_;refine y (ev_loadN (u:=[i64 k.e,i64 k.s,i64 k.t.a,i64 k.t.b,i64 k.t.c,i64 k.t.d]) rfl isAgg152 sizeOf152 zin rfl rfl) rfl ?_;refine gy 2 ?_;refine yst (ac_storeN (vs':=[ptr A.lp,i64 C.bl,i64 C.n,.map (some A.me),.map (some A.mp),i64 k.e,i64 k.s,i64 k.t.a,i64 k.t.b,i64 k.t.c,i64 k.t.d]) rfl rfl (by simp[Value.oneCell']) sizeOf152 zrp rfl (by simp) rfl) ?_;refine gy 1 ?_;refine kendv0 results84 (L1:=[sc A.p _ 154,so A.me _,so A.mp _]++R) zge ?_
  (rw[hD0];exact⟨_,⟨rfl,rfl⟩,rfl⟩)
 ·refine gy 6 ?_;refine y (ev_assertN rfl underlying215 (by intro q hq;cases hq) (by decide) zeroValue215) rfl ?_;refine gy 6 ?_;refine y (ev_assertN rfl underlying217 (by intro q hq;cases hq) (by decide) zeroValue217) rfl ?_;refine gy 6 ?_;refine y (ev_assertY rfl underlying219 (by intro q hq;cases hq)) rfl ?_;refine gy 6 ?_;refine ya (ac_alloc zeroValue219 rfl) rfl ?_;rintro v L' ⟨b10,rfl,rfl⟩;refine yst (ac_storeAll rfl rfl (by simp[Value.oneCell']) sizeOf219 zrp (by rfl) (by rfl)) ?_;refine gy 3 ?_;refine cdraw 6 (od [] 6 0) (_) Tryz.mixed (by kernel_rfl) .refl ?_;refine gh 7 ?_;refine yst (ac_delete rfl rfl underlying149 underlying3 rfl zrp) ?_;rw[akv_del];refine gy 2 ?_;refine cdraw 6 (od [] 6 0) (_) Tryz.mixed (by kernel_rfl) .refl ?_;refine gh 7 ?_;refine yst (ac_delete rfl rfl underlying150 underlying3 rfl zrp) ?_;rw[akv_del];refine gy 4 ?_
  skip
  refine gy 2 ?_;refine y (ev_loadN (u:=[i64 k.e,i64 k.s,i64 k.t.a,i64 k.t.b,i64 k.t.c,i64 k.t.d]) rfl isAgg152 sizeOf152 zin rfl rfl) rfl ?_;refine gy 2 ?_;refine yst (ac_storeN (vs':=[ptr A.lp,i64 C.bl,i64 C.n,.map (some A.me),.map (some A.mp),i64 k.e,i64 k.s,i64 k.t.a,i64 k.t.b,i64 k.t.c,i64 k.t.d]) rfl rfl (by simp[Value.oneCell']) sizeOf152 zrp rfl (by simp) rfl) ?_;refine gy 1 ?_;refine kendv0 results84 (L1:=[sc A.p _ 154,so A.me _,so A.mp _]++R) zge ?_;exact⟨_,⟨rfl,rfl⟩,rfl⟩
 refine gy 6 ?_;refine y (ev_assertN rfl underlying215 (by intro q hq;cases hq) (by decide) zeroValue215) rfl ?_;refine gy 6 ?_;refine y (ev_assertN rfl underlying217 (by intro q hq;cases hq) (by decide) zeroValue217) rfl ?_;refine gy 6 ?_;refine y (ev_assertN rfl underlying219 (by intro q hq;cases hq) (by decide) zeroValue219) rfl ?_;refine gy 9 ?_
 skip
 refine gy 2 ?_;refine y (ev_loadN (u:=[i64 k.e,i64 k.s,i64 k.t.a,i64 k.t.b,i64 k.t.c,i64 k.t.d]) rfl isAgg152 sizeOf152 zin rfl rfl) rfl ?_;refine gy 2 ?_;refine yst (ac_storeN (vs':=[ptr A.lp,i64 C.bl,i64 C.n,.map (some A.me),.map (some A.mp),i64 k.e,i64 k.s,i64 k.t.a,i64 k.t.b,i64 k.t.c,i64 k.t.d]) rfl rfl (by simp[Value.oneCell']) sizeOf152 zrp rfl (by simp) rfl) ?_;refine gy 1 ?_;refine kendv0 results84 (L1:=[sc A.p _ 154,so A.me _,so A.mp _]++R) zge ?_;exact⟨_,⟨rfl,rfl⟩,rfl⟩
theorem kBytes [Env]{R:List Seg}{r:CrecM}{bl:Nat}(hrk:r.ok bl)(hb:bl≤32):Con Tryz.prog 222 [.agg (recA r).toArray] [] R (Is (str (recB r.rc)) []):=by
 have hmay:=hrk.may hb;have henc:=enc_may hmay;obtain⟨w,k⟩:=r;refine con_enter func222 ntmps222 rfl rfl ?_;refine gc 1 ?_;refine ya (ac_box (vs:=recA ⟨w,k⟩) rfl rfl) rfl ?_;rintro v L' ⟨b1,rfl,rfl⟩;refine gy 4 ?_;refine ya (ac_alloc zeroValue88 rfl) rfl ?_;rintro v L' ⟨b3,rfl,rfl⟩;refine gy 2 ?_;refine cseqT ?_;intro K3 hK3
 have hJr17: ∀x:Sv × Sv,(svOk x.1 w.nums.length 1 (intsV w.nums)∧svOk x.2 w.texts.length 1 (strsV w.texts))→Sk 88 K3 ([(1,ptr b1),(3,ptr b3)]) ([sc b1 (recA ⟨w,k⟩) 157,sc b3 [i64 w.kind,svVal x.1 w.nums.length,svVal x.2 w.texts.length] 88,svSeg x.1 2 (intsV w.nums),svSeg x.2 9 (strsV w.texts)]++R):=by
  rintro⟨sn,st⟩ hIr17;refine hK3 _ _ ?_;obtain⟨okn,okt⟩:=hIr17;dsimp only at okn okt ⊢;have hwl:w.nums.length≤6:=by cases w<;>simp[WhatM.nums]
  refine gc 1 ?_;refine cdraw 17 [(0,true),(1,true),(2,true),(3,true),(4,true),(5,true),(6,true),(7,true),(8,true),(9,true),(12,true),(13,true),(14,true),(10,false),(11,false),(15,false),(16,true)] ([sc b3 [i64 w.kind,svVal sn w.nums.length,svVal st w.texts.length] 88,sc b1 (recA ⟨w,k⟩) 157,svSeg st 9 (strsV w.texts)]++R) Tryz.mixed (by kernel_rfl) zge ?_;refine gh 12 ?_;refine hr rfl (ev_slA rfl underlying32 sizeOf2) rfl ?_;refine ha rfl (ac_bsliceR rfl underlying57 sizeOf2 zeroValue2 rfl rfl rfl rfl ⟨⟨_,_,rfl,(by rfl),(by decide)⟩,⟨⟨_,_,rfl,(by rfl),(by decide)⟩,trivial⟩⟩ (by dsimp[fillL,splice,vcells,reps]<;>rfl)) rfl ?_;rintro v L' ⟨b74,rfl,rfl⟩;refine⟨zge,?_⟩;refine ha rfl (ac_append (s:=sn) (xs:=intsV w.nums) (m:=w.nums.length) (k:=2) (us:=[i64 k.e,i64 k.s]) (size:=1) rfl rfl (by repeat first|exact .z|apply Pk.s) underlying57 underlying57 (by intro q hq;cases hq) typeInfo2 rfl rfl rfl ?ok18 ?src18 ?one18 ?big18) rfl ?_
  case ok18=>exact okn
  case src18=>exact src_at zin rfl rfl
  case one18=>simp[Value.oneCell']
  case big18=>show(_+_)*9≤_;omega
  rintro v L' ⟨s75,rfl,ok75,rfl⟩;refine⟨zge,?_⟩;refine ha rfl (ac_append (s:=s75) (xs:=intsV w.nums++[i64 k.e,i64 k.s]) (m:=w.nums.length+2) (k:=4) (us:=[i64 k.t.a,i64 k.t.b,i64 k.t.c,i64 k.t.d]) (size:=1) rfl rfl (by repeat first|exact .z|apply Pk.s) underlying57 underlying57 (by intro q hq;cases hq) typeInfo2 rfl rfl rfl ?ok19 ?src19 ?one19 ?big19) rfl ?_
  case ok19=>exact ok75
  case src19=>exact src_at zin rfl rfl
  case one19=>simp[Value.oneCell']
  case big19=>show(_+_)*9≤_;omega
  rintro v L' ⟨s79,rfl,ok79,rfl⟩;refine⟨zge,?_⟩;rw[show intsV w.nums++[i64 k.e,i64 k.s]++[i64 k.t.a,i64 k.t.b,i64 k.t.c,i64 k.t.d]=intsV (CrecM.rc ⟨w,k⟩).nums by simp[CrecM.rc,KeptM.nums,intsV],show w.nums.length+2+4=(CrecM.rc ⟨w,k⟩).nums.length by simp[CrecM.rc,KeptM.nums]]at ok79 ⊢;refine gh 2 ?_;refine yst (ac_store rfl rfl (by exact svVal_one _ _) sizeOf57 zrp rfl rfl) ?_;refine gy 3 ?_;refine y (ev_loadAll rfl isAgg88 sizeOf88 zin (by rfl)) rfl ?_;refine ycall (cEncode (r:=CrecM.rc ⟨w,k⟩) ?hn23 ?ht23 ?sx23) rfl call94 ztk rfl ?_
  case hn23=>exact rdV_sv zin ok79
  case ht23=>exact rdV_sv zin okt
  case sx23=>exact hmay.num
  rintro v L' ⟨s83,rfl,ok83,rfl⟩;rw[henc]at ok83 ⊢;dsimp only at ok83 ⊢;generalize recB (CrecM.rc ⟨w,k⟩)=rb at*;refine gy 9 ?_;refine y (ev_toStrB (rdY_sv (L:=[svSeg s83 5 (bytesV rb)]) .z ok83).rd.bytes zge rfl underlying55 underlying9 underlying5) rfl ?_;refine gy 4 ?_;refine kretv results222 rfl (L1:=R) zge ?_;exact⟨_,⟨by rfl,rfl⟩,by rfl⟩
 clear hK3;refine gc 7 ?_;rcases w with⟨blk,ve,vs,data,_|_,cl,n⟩|⟨cb,ce,cs⟩|db|_
 ·refine y (ev_assertY rfl underlying215 (by intro q hq;cases hq)) rfl ?_;refine gy 6 ?_;refine ya (ac_alloc zeroValue215 rfl) rfl ?_;rintro v L' ⟨b4,rfl,rfl⟩;refine yst (ac_storeAll rfl rfl (by simp[Value.oneCell']) sizeOf215 zrp (by rfl) (by rfl)) ?_;refine gy 35 ?_;refine ya (ac_bsliceR rfl underlying57 sizeOf2 zeroValue2 rfl rfl rfl rfl ⟨⟨_,_,rfl,(by rfl),(by decide)⟩,⟨⟨_,_,rfl,(by rfl),(by decide)⟩,⟨⟨_,_,rfl,(by rfl),(by decide)⟩,⟨⟨_,_,rfl,(by rfl),(by decide)⟩,⟨⟨_,_,rfl,(by rfl),(by decide)⟩,⟨⟨_,_,rfl,(by rfl),(by decide)⟩,trivial⟩⟩⟩⟩⟩⟩ (by dsimp[fillL,splice,vcells,reps]<;>rfl)) rfl ?_;rintro v L' ⟨b38,rfl,rfl⟩;refine gy 3 ?_;refine ya (ac_bsliceR rfl underlying86 sizeOf9 zeroValue9 rfl rfl rfl rfl ⟨⟨_,_,rfl,(by rfl),(by decide)⟩,trivial⟩ (by dsimp[fillL,splice,vcells,reps]<;>rfl)) rfl ?_;rintro v L' ⟨b42,rfl,rfl⟩;refine y (ev_be rfl) rfl ?_;refine yst (ac_storeAll rfl rfl (by simp[Value.oneCell']) sizeOf88 zrp (by rfl) (by rfl)) ?_;refine gy 3 ?_;exact ksub zsub zge (hJr17 (some (b38,6,[]),some (b42,1,[])) ⟨⟨Nat.le_refl _,by decide,rfl,rfl⟩,⟨Nat.le_refl _,by decide,rfl,rfl⟩⟩)
 ·refine y (ev_assertY rfl underlying215 (by intro q hq;cases hq)) rfl ?_;refine gy 6 ?_;refine ya (ac_alloc zeroValue215 rfl) rfl ?_;rintro v L' ⟨b4,rfl,rfl⟩;refine yst (ac_storeAll rfl rfl (by simp[Value.oneCell']) sizeOf215 zrp (by rfl) (by rfl)) ?_;refine gy 37 ?_;refine ya (ac_bsliceR rfl underlying57 sizeOf2 zeroValue2 rfl rfl rfl rfl ⟨⟨_,_,rfl,(by rfl),(by decide)⟩,⟨⟨_,_,rfl,(by rfl),(by decide)⟩,⟨⟨_,_,rfl,(by rfl),(by decide)⟩,⟨⟨_,_,rfl,(by rfl),(by decide)⟩,⟨⟨_,_,rfl,(by rfl),(by decide)⟩,⟨⟨_,_,rfl,(by rfl),(by decide)⟩,trivial⟩⟩⟩⟩⟩⟩ (by dsimp[fillL,splice,vcells,reps]<;>rfl)) rfl ?_;rintro v L' ⟨b38,rfl,rfl⟩;refine gy 3 ?_;refine ya (ac_bsliceR rfl underlying86 sizeOf9 zeroValue9 rfl rfl rfl rfl ⟨⟨_,_,rfl,(by rfl),(by decide)⟩,trivial⟩ (by dsimp[fillL,splice,vcells,reps]<;>rfl)) rfl ?_;rintro v L' ⟨b42,rfl,rfl⟩;refine y (ev_be rfl) rfl ?_;refine yst (ac_storeAll rfl rfl (by simp[Value.oneCell']) sizeOf88 zrp (by rfl) (by rfl)) ?_;refine gy 3 ?_;exact ksub zsub zge (hJr17 (some (b38,6,[]),some (b42,1,[])) ⟨⟨Nat.le_refl _,by decide,rfl,rfl⟩,⟨Nat.le_refl _,by decide,rfl,rfl⟩⟩)
 ·refine y (ev_assertN rfl underlying215 (by intro q hq;cases hq) (by decide) zeroValue215) rfl ?_;refine gy 6 ?_;refine y (ev_assertY rfl underlying217 (by intro q hq;cases hq)) rfl ?_;refine gy 6 ?_;refine ya (ac_alloc zeroValue217 rfl) rfl ?_;rintro v L' ⟨b6,rfl,rfl⟩;refine yst (ac_storeAll rfl rfl (by simp[Value.oneCell']) sizeOf217 zrp (by rfl) (by rfl)) ?_;refine gy 11 ?_;refine ya (ac_bsliceR rfl underlying57 sizeOf2 zeroValue2 rfl rfl rfl rfl ⟨⟨_,_,rfl,(by rfl),(by decide)⟩,⟨⟨_,_,rfl,(by rfl),(by decide)⟩,⟨⟨_,_,rfl,(by rfl),(by decide)⟩,trivial⟩⟩⟩ (by dsimp[fillL,splice,vcells,reps]<;>rfl)) rfl ?_;rintro v L' ⟨b55,rfl,rfl⟩;refine y (ev_be rfl) rfl ?_;refine yst (ac_storeAll rfl rfl (by simp[Value.oneCell']) sizeOf88 zrp (by rfl) (by rfl)) ?_;refine gy 3 ?_;exact ksub zsub zge (hJr17 (some (b55,3,[]),none) ⟨⟨Nat.le_refl _,by decide,rfl,rfl⟩,⟨rfl,rfl⟩⟩)
 ·refine y (ev_assertN rfl underlying215 (by intro q hq;cases hq) (by decide) zeroValue215) rfl ?_;refine gy 6 ?_;refine y (ev_assertN rfl underlying217 (by intro q hq;cases hq) (by decide) zeroValue217) rfl ?_;refine gy 6 ?_;refine y (ev_assertY rfl underlying219 (by intro q hq;cases hq)) rfl ?_;refine gy 6 ?_;refine ya (ac_alloc zeroValue219 rfl) rfl ?_;rintro v L' ⟨b7,rfl,rfl⟩;refine yst (ac_storeAll rfl rfl (by simp[Value.oneCell']) sizeOf219 zrp (by rfl) (by rfl)) ?_;refine gy 5 ?_;refine ya (ac_bsliceR rfl underlying57 sizeOf2 zeroValue2 rfl rfl rfl rfl ⟨⟨_,_,rfl,(by rfl),(by decide)⟩,trivial⟩ (by dsimp[fillL,splice,vcells,reps]<;>rfl)) rfl ?_;rintro v L' ⟨b62,rfl,rfl⟩;refine y (ev_be rfl) rfl ?_;refine yst (ac_storeAll rfl rfl (by simp[Value.oneCell']) sizeOf88 zrp (by rfl) (by rfl)) ?_;refine gy 3 ?_;exact ksub zsub zge (hJr17 (some (b62,1,[]),none) ⟨⟨Nat.le_refl _,by decide,rfl,rfl⟩,⟨rfl,rfl⟩⟩)
 refine y (ev_assertN rfl underlying215 (by intro q hq;cases hq) (by decide) zeroValue215) rfl ?_;refine gy 6 ?_;refine y (ev_assertN rfl underlying217 (by intro q hq;cases hq) (by decide) zeroValue217) rfl ?_;refine gy 6 ?_;refine y (ev_assertN rfl underlying219 (by intro q hq;cases hq) (by decide) zeroValue219) rfl ?_;refine gy 11 ?_;refine yst (ac_store rfl rfl (by rfl) sizeOf3 zrp rfl rfl) ?_;refine gy 3 ?_;exact ksub zsub zge (hJr17 (none,none) ⟨⟨rfl,rfl⟩,⟨rfl,rfl⟩⟩)
def whatV:Option WhatM→Value
 |none=> .nilIface
 |some w=>WhatM.val w
theorem len1{α:Type}{l:List α}(h:l.length=1): ∃a,l=[a]:=by
 match l,h with
 | [a],_=>exact⟨a,rfl⟩
theorem len3{α:Type}{l:List α}(h:l.length=3): ∃a b c,l=[a,b,c]:=by
 match l,h with
 | [a,b,c],_=>exact⟨a,b,c,rfl⟩
theorem len6{α:Type}{l:List α}(h:l.length=6): ∃a b c d e f,l=[a,b,c,d,e,f]:=by
 match l,h with
 | [a,b,c,d,e,f],_=>exact⟨a,b,c,d,e,f,rfl⟩
set_option maxHeartbeats 8000000 in
theorem kWhat [Env]{R:List Seg}{A:CaA}{C:CaM}{kind:Int}{nv tv v:Value}{ts:List Bytes}{ns:List Int}(hb:C.bl≤32)(hv:RdV R v ns.length (intsV ns))(htv:RdV R tv ts.length (strsV ts))(hno:nv.oneCell'=true):
   Con Tryz.prog 141 [ptr A.p,.agg #[i64 kind,nv,tv],v] [caP A C] R (Is (whatV (whatC C.bl kind ts ns)) [caP A C]):=by
 have hvl:=hv.lenVal;have htl:=htv.lenVal;refine con_enter func141 ntmps141 rfl rfl ?_;refine gc 1 ?_;refine ya (ac_box (vs:=[i64 kind,nv,tv]) rfl rfl) rfl ?_;rintro v L' ⟨b4,rfl,rfl⟩;refine gy 6 ?_;refine y (ev_lenV rfl underlying86 htl) rfl ?_;refine gy 5 ?_;refine cseqT ?_;intro K4 hK4
 have hJe6:=jget (I:= ¬(kind=10∧ns.length=6∧ts.length=1)) (F:=[(0,ptr A.p),(2,v),(4,ptr b4),(7,i64 ts.length)]) (M:=[sc b4 [i64 kind,nv,tv] 88,caP A C]++R) hK4 (by
  intro hIe6;refine cseqT ?_;intro K5 hK5
  have hJe10:=jget (I:= ¬(kind=11∧ns.length=3∧ts.length=0)) (F:=[(0,ptr A.p),(2,v),(4,ptr b4),(7,i64 ts.length)]) (M:=[sc b4 [i64 kind,nv,tv] 88,caP A C]++R) hK5 (by
   intro hIe10;refine cseqT ?_;intro K6 hK6
   have hJe12:=jget (I:= ¬(kind=12∧ns.length=1∧ts.length=0∧inB C.bl (ns.getD 0 0)=true)) (F:=[(0,ptr A.p),(2,v),(4,ptr b4),(7,i64 ts.length)]) (M:=[sc b4 [i64 kind,nv,tv] 88,caP A C]++R) hK6 (by
    intro hIe12;refine gc 5 ?_;refine ysp 156 rfl (fun h11=>?_) (fun h11=>?_)
    ·refine gy 1 ?_;refine ygo ?_;refine y (ev_lenV rfl underlying57 hvl) rfl ?_;refine gy 3 ?_;refine ysp 161 rfl (fun h17=>?_) (fun h17=>?_)
     ·refine gy 6 ?_;refine cc rfl (fun h22=>?_) (fun h22=>?_)
      ·refine gc 1 ?_;have hc0:kind=13∧ns.length=0∧ts.length=0:=⟨by omega,by omega,by omega⟩;refine y (ev_be rfl) rfl ?_;refine y (ev_iface rfl (by kernel_rfl)) rfl ?_;refine gy 6 ?_;refine kretv results141 rfl (L1:=[caP A C]++R) zge ?_;exact⟨_,⟨by(unfold whatC;rw[if_neg hIe6,if_neg hIe10,if_neg hIe12,if_pos hc0];rfl),rfl⟩,by rfl⟩
      refine gc 8 ?_;refine kretv results141 rfl (L1:=[caP A C]++R) zge ?_;exact⟨_,⟨by(unfold whatC;(repeat' split)<;>first|rfl|(exfalso;omega)|(exfalso;simp_all;done)),rfl⟩,by rfl⟩
     refine gy 15 ?_;refine kretv results141 rfl (L1:=[caP A C]++R) zge ?_;exact⟨_,⟨by(unfold whatC;(repeat' split)<;>first|rfl|(exfalso;omega)|(exfalso;simp_all;done)),rfl⟩,by rfl⟩
    refine gy 20 ?_
    (refine kretv results141 rfl (L1:=[caP A C]++R) zge ?_
     exact⟨_,⟨by(unfold whatC;(repeat' split)<;>first|rfl|(exfalso;omega)|(exfalso;simp_all;done)),rfl⟩,by rfl⟩))
   refine gc 5 ?_;refine ysp 131 rfl (fun h39=>?_) (fun h39=>?_)
   ·refine gy 1 ?_;refine ygo ?_;refine y (ev_lenV rfl underlying57 hvl) rfl ?_;refine gy 3 ?_;refine ysp 136 rfl (fun h45=>?_) (fun h45=>?_)
    ·refine gy 4 ?_;refine ysp 140 rfl (fun h50=>?_) (fun h50=>?_)
     ·obtain⟨x0,rfl⟩:=len1 (l:=ns) (by omega);refine gy 2 ?_;refine ygo ?_;refine y (ev_ixV (by assumption) rfl rfl underlying57 sizeOf2 (by omega) (by omega)) rfl ?_;refine ygo ?_;refine y (ev_loadV 0 hv zge rfl isAgg2 (by rfl) rfl) rfl ?_;refine ygo ?_;refine yci (kIn ?bl55) call193 ?_
      case bl55=>exact hb
      refine gy 4 ?_;refine hK6 _ _ ?_;clear hK6;refine cc rfl (fun h58=>?_) (fun h58=>?_)
      ·have hc1:kind=12∧[x0].length=1∧ts.length=0∧inB C.bl x0=true:=⟨by omega,rfl,by omega,by assumption⟩;refine gc 2 ?_;refine y (ev_ixV (by assumption) rfl rfl underlying57 sizeOf2 (by omega) (by omega)) rfl ?_;refine y (ev_loadV 0 hv zge rfl isAgg2 (by rfl) rfl) rfl ?_;refine y (ev_be rfl) rfl ?_;refine y (ev_iface rfl (by kernel_rfl)) rfl ?_;refine gy 6 ?_;refine kretv results141 rfl (L1:=[caP A C]++R) zge ?_;exact⟨_,⟨by(unfold whatC;(repeat' split)<;>first|rfl|(exfalso;omega)|(exfalso;simp_all;done)),rfl⟩,by rfl⟩
      exact csub zsub zge (hJe12 (by simp_all))
     refine gy 9 ?_;refine hK6 _ _ ?_;clear hK6;refine gc 1 ?_;exact csub zsub zge (hJe12 (by omega))
    refine gy 13 ?_;refine hK6 _ _ ?_;clear hK6;refine gc 1 ?_;exact csub zsub zge (hJe12 (by omega))
   refine gy 18 ?_;refine hK6 _ _ ?_;clear hK6;refine gc 1 ?_;exact csub zsub zge (hJe12 (by omega)))
  refine gc 5 ?_;refine ysp 95 rfl (fun h81=>?_) (fun h81=>?_)
  ·refine gy 1 ?_;refine ygo ?_;refine y (ev_lenV rfl underlying57 hvl) rfl ?_;refine gy 3 ?_;refine ysp 100 rfl (fun h87=>?_) (fun h87=>?_)
   ·refine gy 6 ?_;refine hK5 _ _ ?_;clear hK5;refine cc rfl (fun h92=>?_) (fun h92=>?_)
    ·have hk11:kind=11:=by omega
     have hts0:ts.length=0:=by omega
     obtain⟨x0,x1,x2,rfl⟩:=len3 (l:=ns) (by omega);refine gc 1 ?_;refine cdraw 12 (od [11] 12 0) (_) Tryz.mixed (by kernel_rfl) .refl ?_;refine gh 1 ?_;refine hr rfl (ev_ixV (by assumption) rfl rfl underlying57 sizeOf2 (by omega) (by omega)) rfl ?_;refine hr rfl (ev_loadV 0 hv zge rfl isAgg2 (by rfl) rfl) rfl ?_;refine gh 1 ?_;refine hr rfl (ev_ixV (by assumption) rfl rfl underlying57 sizeOf2 (by omega) (by omega)) rfl ?_;refine hr rfl (ev_loadV 1 hv zge rfl isAgg2 (by rfl) rfl) rfl ?_;refine gh 1 ?_;refine hr rfl (ev_ixV (by assumption) rfl rfl underlying57 sizeOf2 (by omega) (by omega)) rfl ?_;refine hr rfl (ev_loadV 2 hv zge rfl isAgg2 (by rfl) rfl) rfl ?_;refine hr rfl (ev_be rfl) rfl ?_;refine hr rfl (ev_be rfl) rfl ?_;refine ha rfl (ac_alloc zeroValue217 rfl) rfl ?_;rintro v L' ⟨b9,rfl,rfl⟩;refine⟨zge,?_⟩;refine gh 1 ?_;refine yst (ac_storeAll rfl rfl (by simp[Value.oneCell']) sizeOf217 zrp (by rfl) (by rfl)) ?_;refine gy 5 ?_;refine y (ev_ixV (by assumption) rfl rfl underlying57 sizeOf2 (by omega) (by omega)) rfl ?_;refine y (ev_loadV 0 hv zge rfl isAgg2 (by rfl) rfl) rfl ?_;refine yci (kIn ?bl110) call193 ?_
     case bl110=>exact hb
     refine gy 1 ?_;refine ysp 120 rfl (fun h112=>?_) (fun h112=>?_)
     ·refine gy 1 ?_;refine ygo ?_;refine y (ev_loadN (u:=[i64 x1,i64 x2]) rfl isAgg84 sizeOf84 zin rfl rfl) rfl ?_;refine ygo ?_;refine yci (kMay) call194 ?_;refine gy 3 ?_;refine cc rfl (fun h117=>?_) (fun h117=>?_)
      ·have hc3:inB C.bl x0=true∧mayV x1 x2 1=true:=⟨by assumption,by assumption⟩;refine gc 1 ?_;refine y (ev_loadAll rfl isAgg217 sizeOf217 zin (by rfl)) rfl ?_;refine y (ev_iface rfl (by kernel_rfl)) rfl ?_;refine gy 6 ?_;refine kretv results141 rfl (L1:=[caP A C]++R) zge ?_;exact⟨_,⟨by(unfold whatC;(repeat' split)<;>first|rfl|(exfalso;omega)|(exfalso;simp_all;done)),rfl⟩,by rfl⟩
      refine gc 8 ?_;refine kretv results141 rfl (L1:=[caP A C]++R) zge ?_;exact⟨_,⟨by(unfold whatC;(repeat' split)<;>first|rfl|(exfalso;omega)|(exfalso;simp_all;done)),rfl⟩,by rfl⟩
     refine gy 15 ?_;refine kretv results141 rfl (L1:=[caP A C]++R) zge ?_;exact⟨_,⟨by(unfold whatC;(repeat' split)<;>first|rfl|(exfalso;omega)|(exfalso;simp_all;done)),rfl⟩,by rfl⟩
    exact csub zsub zge (hJe10 (by omega))
   refine gy 6 ?_;refine hK5 _ _ ?_;clear hK5;refine gc 1 ?_;exact csub zsub zge (hJe10 (by omega))
  refine gy 11 ?_;refine hK5 _ _ ?_;clear hK5;refine gc 1 ?_;exact csub zsub zge (hJe10 (by omega)))
 refine gc 5 ?_;refine ysp 17 rfl (fun h134=>?_) (fun h134=>?_)
 ·refine gy 1 ?_;refine ygo ?_;refine y (ev_lenV rfl underlying57 hvl) rfl ?_;refine gy 3 ?_;refine ysp 22 rfl (fun h140=>?_) (fun h140=>?_)
  ·refine gy 6 ?_;refine hK4 _ _ ?_;clear hK4;refine cc rfl (fun h145=>?_) (fun h145=>?_)
   ·obtain⟨x0,x1,x2,x3,x4,x5,rfl⟩:=len6 (l:=ns) (by omega);obtain⟨tx,rfl⟩:=len1 (l:=ts) (by omega);have hk10:kind=10:=by omega
    refine gc 1 ?_;refine cdraw 27 (od [26] 27 0) (_) Tryz.mixed (by kernel_rfl) .refl ?_;refine gh 1 ?_;refine hr rfl (ev_ixV (by assumption) rfl rfl underlying57 sizeOf2 (by omega) (by omega)) rfl ?_;refine hr rfl (ev_loadV 0 hv zge rfl isAgg2 (by rfl) rfl) rfl ?_;refine gh 1 ?_;refine hr rfl (ev_ixV (by assumption) rfl rfl underlying57 sizeOf2 (by omega) (by omega)) rfl ?_;refine hr rfl (ev_loadV 1 hv zge rfl isAgg2 (by rfl) rfl) rfl ?_;refine gh 1 ?_;refine hr rfl (ev_ixV (by assumption) rfl rfl underlying57 sizeOf2 (by omega) (by omega)) rfl ?_;refine hr rfl (ev_loadV 2 hv zge rfl isAgg2 (by rfl) rfl) rfl ?_;refine hr rfl (ev_be rfl) rfl ?_;refine gh 2 ?_;refine hr rfl (ev_ixV (by assumption) rfl rfl underlying86 sizeOf9 (by omega) (by omega)) rfl ?_;refine hr rfl (ev_loadV 0 htv zge rfl isAgg9 (by simp) rfl) rfl ?_;refine gh 1 ?_;refine hr rfl (ev_ixV (by assumption) rfl rfl underlying57 sizeOf2 (by omega) (by omega)) rfl ?_;refine hr rfl (ev_loadV 3 hv zge rfl isAgg2 (by rfl) rfl) rfl ?_;refine gh 2 ?_;refine hr rfl (ev_ixV (by assumption) rfl rfl underlying57 sizeOf2 (by omega) (by omega)) rfl ?_;refine hr rfl (ev_loadV 4 hv zge rfl isAgg2 (by rfl) rfl) rfl ?_;refine gh 1 ?_;refine hr rfl (ev_ixV (by assumption) rfl rfl underlying57 sizeOf2 (by omega) (by omega)) rfl ?_;refine hr rfl (ev_loadV 5 hv zge rfl isAgg2 (by rfl) rfl) rfl ?_;refine hr rfl (ev_be rfl) rfl ?_;refine hr rfl (ev_be rfl) rfl ?_;refine ha rfl (ac_alloc zeroValue215 rfl) rfl ?_;rintro v L' ⟨b8,rfl,rfl⟩;refine⟨zge,?_⟩;refine gh 1 ?_;refine yst (ac_storeAll rfl rfl (by simp[Value.oneCell']) sizeOf215 zrp (by rfl) (by rfl)) ?_;refine gy 5 ?_;refine y (ev_ixV (by assumption) rfl rfl underlying57 sizeOf2 (by omega) (by omega)) rfl ?_;refine y (ev_loadV 0 hv zge rfl isAgg2 (by rfl) rfl) rfl ?_;refine yci (kIn ?bl178) call193 ?_
    case bl178=>exact hb
    refine gy 1 ?_;refine ysp 57 rfl (fun h180=>?_) (fun h180=>?_)
    ·refine gy 2 ?_;refine ygo ?_;refine y (ev_loadN (u:=[i64 x1,i64 x2]) rfl isAgg84 sizeOf84 zin rfl rfl) rfl ?_;refine ygo ?_;refine yci (kMay) call194 ?_;refine gy 2 ?_;refine ysp 63 rfl (fun h187=>?_) (fun h187=>?_)
     ·refine gy 1 ?_;refine ygo ?_;refine y (ev_ixV (by assumption) rfl rfl underlying57 sizeOf2 (by omega) (by omega)) rfl ?_;refine ygo ?_;refine y (ev_loadV 3 hv zge rfl isAgg2 (by rfl) rfl) rfl ?_;refine ygo ?_;refine yci (kWithin) call192 ?_;refine gy 2 ?_;refine ysp 69 rfl (fun h194=>?_) (fun h194=>?_)
      ·refine gy 1 ?_;refine ygo ?_;refine y (ev_ixV (by assumption) rfl rfl underlying57 sizeOf2 (by omega) (by omega)) rfl ?_;refine ygo ?_;refine y (ev_loadV 4 hv zge rfl isAgg2 (by rfl) rfl) rfl ?_;refine ygo ?_;refine yci (kWithin) call192 ?_;refine gy 2 ?_;refine ysp 75 rfl (fun h201=>?_) (fun h201=>?_)
       ·refine gy 1 ?_;refine ygo ?_;refine y (ev_ixV (by assumption) rfl rfl underlying57 sizeOf2 (by omega) (by omega)) rfl ?_;refine ygo ?_;refine y (ev_loadV 5 hv zge rfl isAgg2 (by rfl) rfl) rfl ?_;refine ygo ?_;refine yci (kOdd) call140 ?_;refine gy 3 ?_;refine ysp 82 rfl (fun h209=>?_) (fun h209=>?_)
        ·refine gy 3 ?_;refine ygo ?_;refine y (ev_lenStr rfl underlying9) rfl ?_;refine gy 4 ?_;refine cc rfl (fun h216=>?_) (fun h216=>?_)
         ·have hc8:inB C.bl x0=true∧mayV x1 x2 1=true∧within3 x3 0 1=true∧within3 x4 (-1) 3=true∧oddN x5=false∧tx.length=8:=⟨by assumption,by assumption,by assumption,by assumption,by assumption,by omega⟩;refine gc 1 ?_;refine y (ev_loadAll rfl isAgg215 sizeOf215 zin (by rfl)) rfl ?_;refine y (ev_iface rfl (by kernel_rfl)) rfl ?_;refine gy 6 ?_;refine kretv results141 rfl (L1:=[caP A C]++R) zge ?_;exact⟨_,⟨by(unfold whatC;(repeat' split)<;>first|rfl|(exfalso;omega)|(exfalso;simp_all;done)),rfl⟩,by rfl⟩
         have hn8: ¬tx.length=8:=by omega
         refine gc 8 ?_;refine kretv results141 rfl (L1:=[caP A C]++R) zge ?_;exact⟨_,⟨by(unfold whatC;(repeat' split)<;>first|rfl|(exfalso;omega)|(exfalso;simp_all;done)),rfl⟩,by rfl⟩
        refine gy 17 ?_;refine kretv results141 rfl (L1:=[caP A C]++R) zge ?_;exact⟨_,⟨by(unfold whatC;(repeat' split)<;>first|rfl|(exfalso;omega)|(exfalso;simp_all;done)),rfl⟩,by rfl⟩
       refine gy 24 ?_;refine kretv results141 rfl (L1:=[caP A C]++R) zge ?_;exact⟨_,⟨by(unfold whatC;(repeat' split)<;>first|rfl|(exfalso;omega)|(exfalso;simp_all;done)),rfl⟩,by rfl⟩
      refine gy 30 ?_;refine kretv results141 rfl (L1:=[caP A C]++R) zge ?_;exact⟨_,⟨by(unfold whatC;(repeat' split)<;>first|rfl|(exfalso;omega)|(exfalso;simp_all;done)),rfl⟩,by rfl⟩
     refine gy 36 ?_;refine kretv results141 rfl (L1:=[caP A C]++R) zge ?_;exact⟨_,⟨by(unfold whatC;(repeat' split)<;>first|rfl|(exfalso;omega)|(exfalso;simp_all;done)),rfl⟩,by rfl⟩
    refine gy 42 ?_;refine kretv results141 rfl (L1:=[caP A C]++R) zge ?_;exact⟨_,⟨by(unfold whatC;(repeat' split)<;>first|rfl|(exfalso;omega)|(exfalso;simp_all;done)),rfl⟩,by rfl⟩
   exact csub zsub zge (hJe6 (by omega))
  refine gy 6 ?_;refine hK4 _ _ ?_;clear hK4;refine gc 1 ?_;exact csub zsub zge (hJe6 (by omega))
 refine gy 11 ?_;refine hK4 _ _ ?_;clear hK4;refine gc 1 ?_;exact csub zsub zge (hJe6 (by omega))
end W
end Go.Proofs