/- A part of the proof. -/
import Derived.Test.YtlignadmmopdmaaGreatUn
import Derived.Test.YtlignadmmopdmaaGreatC6
import Derived.Test.YtlignadmmopdmaaGreatGN
set_option linter.unusedVariables false
set_option linter.unusedSimpArgs false
set_option linter.constructorNameAsVariable false
namespace Go.Proofs
open _root_.Go.Proofs.Tryz
open Go Go.Sl
namespace W
theorem kNeeded [Env]{R:List Seg}{A:CaA}{q:Q3}{sl:Sv}{C:CaM}(hC:C.mok)(hn:(C.pu.map (·.2.1)).Nodup):
   Con Tryz.prog 225 [ptr A.p] [caP A C,enS A C,puS A C,lgS A q sl C] R (Is (.tuple #[entV (C.needed.getD .zero),.bool C.needed.isSome]) [caP A C,enS A C,puS A C,lgS A q sl C]):=by
 refine con_enter func225 ntmps225 rfl rfl ?_;unfold caP caC enS puS lgS;refine gc 1 ?_;refine ya (ac_alloc zeroValue127 rfl) rfl ?_;rintro v L' ⟨b2,rfl,rfl⟩;refine gy 9 ?_;refine ya (ac_range rfl underlying150 zin) rfl ?_;rintro v L' ⟨i10,rfl,rfl⟩;refine gy 3 ?_;refine cloopT (A:=List Nat) (fun x=>[(10,ptr i10),(2,ptr b2),(0,ptr A.p)]) (fun x=>[so i10 (.mapIter (some A.mp) C.cp x.toArray C.cp),sc b2 [i64 0,i64 0,i64 0,str [],.bool false,i64 0,i64 0] 127,sc A.p (caC A C) 154,so A.me (.map (ents (akv entV C.en)) C.ce),so A.mp (.map (ents (akv numV C.pu)) C.cp),logG A.lp A.lc q sl C.l]++R) (fun x=> ∀y∈C.pu,y.2.2∈x→ ¬y.2.1=C.l.head) (fun x=>(left (akv numV C.pu) x).length) ([]) ?_ zsub zge ?_
 · exact fun _ _ h=>by cases h
 rintro seen hI1 KL1 hL1;have hse:=hI1;unfold caC;refine gc 1 ?_;refine ya (ac_next rfl zin zin ?st8 (fun _=>zrp)) rfl ?_
 case st8=>exact akv_stamped _ hC.p
 rintro v L' (⟨hov11,rfl,rfl⟩|⟨x11,hx11,rfl,rfl⟩)
 ·have hnone:=needed_none hse hov11;refine gy 11 ?_;refine y (ev_be rfl) rfl ?_;refine yst (ac_storeAll rfl rfl (by simp[Value.oneCell']) sizeOf127 zrp (by rfl) (by rfl)) ?_;refine gy 4 ?_;refine kretct results225 rfl rfl isAgg127 sizeOf127 zin (rfl) (L1:=[sc A.p _ 154,so A.me _,so A.mp _,logG _ _ _ _ _]++R) zge ?_;exact⟨_,⟨by(rw[hnone];rfl),rfl⟩,by rfl⟩
 obtain⟨k11,v11,b11,rfl,hm11,hs11⟩:=left_akv hx11;refine gy 9 ?_;refine y (ev_entry rfl zin zin ?st14 ?mem14) rfl ?_
 case st14=>exact akv_stamped _ hC.p
 case mem14=>exact left_mem hx11
 refine gy 12 ?_;refine yci (bHead) call85 ?_;refine y (ev_eql (p:=v11) (q:=C.l.head) rfl rfl) rfl ?_;refine gy 2 ?_;refine cc rfl (fun h26=>?_) (fun h26=>?_)
 ·have hneed:=needed_some hn hm11 h26;refine gc 6 ?_;refine y (ev_lookup (z:=entV .zero) (kv:=akv entV C.en) rfl rfl underlying149 underlying3 zeroValue127 zin) rfl ?_;rw[akv_get,lk_entV];refine yst (ac_storeAll rfl rfl (ent_one _) sizeOf127 zrp rfl rfl) ?_;refine gy 8 ?_;refine kretct results225 rfl rfl isAgg127 sizeOf127 zin (rfl) (L1:=[sc A.p _ 154,so A.me _,so A.mp _,logG _ _ _ _ _]++R) zge ?_;exact⟨_,⟨by(rw[hneed];rfl),rfl⟩,by rfl⟩
 refine gc 3 ?_
 exact hL1 (seen++[b11]) (fun y hy hb=>by
   rcases List.mem_append.1 hb with hb|hb
   · exact hse y hy hb
   simp only[List.mem_singleton]at hb;have e:=once_eq hC.p hy hm11 hb;subst e;assumption) (left_lt hx11) _ _ zsub zge
/-- What is behind a step of the cache. -/
def KC(A:CaA)(q:Q3)(C:CaM)(r:Int × CaM × Dev)(u:Value)(L':List Seg):Prop:=
 ∃sl',u=i64 r.1∧itOk sl' r.2.1.l∧L'=[caP A r.2.1,enS A r.2.1,puS A r.2.1,lgS A q sl' r.2.1,dev q r.2.2]
theorem kAdd [Env]{R:List Seg}{A:CaA}{q:Q3}{sl:Sv}{C:CaM}{D:Dev}{w:WhatM}{k:KeptM}(hC:C.ok D)(hs:itOk sl C.l)(hw:CrecM.ok C.bl ⟨w,k⟩):
   Con Tryz.prog 206 [ptr A.p,WhatM.val w,keptV k] [caP A C,enS A C,puS A C,lgS A q sl C,dev q D] R (KC A q C (C.add D ⟨w,k⟩)):=by
 obtain⟨hl1,hl2,hl3,hl4,hl5,hl6,hl7⟩:=hC.lim;have hbl:=hC.bl;refine con_enter func206 ntmps206 rfl rfl ?_;unfold caP caC lgS;refine gc 1 ?_;refine ya (ac_box rfl rfl) rfl ?_;rintro v L' ⟨b5,rfl,rfl⟩;refine gy 5 ?_;refine y (ev_loadAll rfl isAgg152 sizeOf152 zin (by rfl)) rfl ?_;refine y (ev_build (zs:=[.nilIface,i64 0,i64 0,i64 0,i64 0,i64 0,i64 0]) (vs:=recA ⟨w,k⟩) rfl underlying157 zeroValue157 rfl (.cons sizeOf20 (.cons sizeOf152 .nil)) ⟨⟨_,_,rfl,(by rw[vcells_val];rfl),(by decide)⟩,⟨_,_,rfl,rfl,(by decide)⟩,trivial⟩ (by simp only[fillL,splice,vcells_val];rfl)) rfl ?_;refine ya (ac_alloc zeroValue157 rfl) rfl ?_;rintro v L' ⟨b7,rfl,rfl⟩;refine yst (ac_storeAll rfl rfl (recA_one _) sizeOf157 zrp rfl rfl) ?_;refine gy 7 ?_;refine yci (bTail ?its46 ?lh46 ?lt46 ?ll46) call189 ?_
 case its46=>exact hs
 case lh46=>omega
 case lt46=>omega
 case ll46=>omega
 refine gy 4 ?_;refine cdraw 6 (od [5] 6 0) ([sc b7 (recA ⟨w,k⟩) 157,sc A.p _ 154]++R) Tryz.mixed (by kernel_rfl) zge ?_;refine gh 4 ?_;refine hr rfl (ev_loadN (u:=recA ⟨w,k⟩) rfl isAgg157 sizeOf157 zin rfl rfl) rfl ?_;refine hcall rfl (kBytes (bl:=C.bl) ?bok53 ?bl53) rfl call222 ztk rfl ?_
 case bok53=>exact hw
 case bl53=>omega
 rintro v L' ⟨rfl,rfl⟩;refine⟨zge,?_⟩;refine gh 1 ?_;refine ycall (bAppend ?lok54 ?its54) rfl call221 ztk rfl ?_
 case lok54=>exact hC.l
 case its54=>exact hs
 rintro v L' ⟨sl24,rfl,ok24,rfl⟩;obtain⟨a,ha3⟩: ∃a,C.l.append D (recB (CrecM.rc ⟨w,k⟩))=a:=⟨_,rfl⟩;have hadd:C.add D ⟨w,k⟩=(a.1,if a.1=0 then CaM.does {C with l:=a.2.1} ⟨w,k⟩ C.l.tail else{C with l:=a.2.1},a.2.2):=by unfold CaM.add;rw[ha3]
 rw[ha3]at ok24 ⊢;refine gy 9 ?_;refine cc rfl (fun h58=>?_) (fun h58=>?_)
 ·rw[if_pos h58]at hadd;obtain⟨C1,hC1⟩: ∃C1,C1=CaM.does {C with l:=a.2.1} ⟨w,k⟩ C.l.tail:=⟨_,rfl⟩;have hl:C1.l=a.2.1:=by rw[hC1];exact(CaM.does_l _ _ _).1
  refine gc 2 ?_;refine y (ev_loadN (u:=recA ⟨w,k⟩) rfl isAgg157 sizeOf157 zin rfl rfl) rfl ?_;refine gy 1 ?_;refine yci (kDoes (C:={C with l:=a.2.1}) (r:=⟨w,k⟩) ?mok62) call84 ?_
  case mok62=>exact⟨hC.m.e,hC.m.p⟩
  rw[←hC1];refine gy 8 ?_;refine kretv results206 rfl (L1:=[caP A C1,enS A C1,puS A C1,logG A.lp A.lc q sl24 a.2.1,dev q a.2.2]++R) zge ?_;rw[hadd,←hC1];exact⟨_,⟨sl24,rfl,by dsimp only;rw[hl];exact ok24,by unfold lgS;dsimp only;rw[hl]⟩,rfl⟩
 rw[if_neg h58]at hadd;refine gc 8 ?_;refine kretv results206 rfl (L1:=[caP A {C with l:=a.2.1},enS A {C with l:=a.2.1},puS A {C with l:=a.2.1},logG A.lp A.lc q sl24 a.2.1,dev q a.2.2]++R) zge ?_;rw[hadd];exact⟨_,⟨sl24,rfl,ok24,rfl⟩,rfl⟩
theorem kMake [Env]{R:List Seg}{A:CaA}{q:Q3}{sl0:Sv}{C0:CaM}{D0:Dev}(hC0:C0.ok D0)(hs0:itOk sl0 C0.l):
   Con Tryz.prog 213 [ptr A.p] [caP A C0,enS A C0,puS A C0,lgS A q sl0 C0,dev q D0] R (KC A q C0 (C0.make D0)):=by
 have hn0:=hC0.lim;refine con_enter func213 ntmps213 rfl rfl ?_;unfold lgS;refine gc 4 ?_;refine cseqT ?_;intro K2 hK2;refine gc 4 ?_
 have hJ1: ∀x:Nat × CaM × Dev × Sv,((x.2.1.ok x.2.2.1∧itOk x.2.2.2 x.2.1.l∧x.1≤C0.n∧CaM.mkF (C0.n-x.1) x.2.1 x.2.2.1=C0.make D0∧x.2.1.n=C0.n)∧(C0.make D0=(if x.2.1.free<4 then 12 else 0,x.2.1,x.2.2.1)))→Sk 64 K2 ([(3,i64 x.1),(0,ptr A.p)]) ([caP A x.2.1,enS A x.2.1,puS A x.2.1,logG A.lp A.lc q x.2.2.2 x.2.1.l,dev q x.2.2.1]++R):=by
  rintro⟨i,C,D,sl⟩ ⟨hI1,hX1⟩;refine hK2 _ _ ?_;obtain⟨hC,hs,hi,hmk,hCn⟩:=hI1;dsimp only at hC hs hi hmk hCn ⊢;obtain⟨hl1,hl2,hl3,hl4,hl5,hl6,hl7⟩:=hC.lim;have hht:C.l.head≤C.l.tail:=(by unfold LogM.tail;omega);unfold caP caC;dsimp only at hX1;refine gc 6 ?_;refine yci (bFree ?its7 ?ln7 ?ll7) call224 ?_
  case its7=>exact hs
  case ln7=>omega
  case ll7=>omega
  refine gy 3 ?_;refine cc rfl (fun h9=>?_) (fun h9=>?_)
  ·rw[if_pos (by unfold CaM.free;omega)]at hX1;refine gc 6 ?_;refine kretv results213 rfl (L1:=[caP A C,enS A C,puS A C,logG A.lp A.lc q sl C.l,dev q D]++R) zge ?_;rw[hX1];exact⟨_,⟨sl,rfl,hs,rfl⟩,rfl⟩
  rw[if_neg (by unfold CaM.free;omega)]at hX1;refine gc 7 ?_;refine kretv results213 rfl (L1:=[caP A C,enS A C,puS A C,logG A.lp A.lc q sl C.l,dev q D]++R) zge ?_;rw[hX1];exact⟨_,⟨sl,rfl,hs,rfl⟩,rfl⟩
 clear hK2;refine gc 1 ?_;refine cloopT (A:=Nat × CaM × Dev × Sv) (fun x=>[(3,i64 x.1),(0,ptr A.p)]) (fun x=>[caP A x.2.1,enS A x.2.1,puS A x.2.1,logG A.lp A.lc q x.2.2.2 x.2.1.l,dev q x.2.2.1]++R) (fun x=>x.2.1.ok x.2.2.1∧itOk x.2.2.2 x.2.1.l∧x.1≤C0.n∧CaM.mkF (C0.n-x.1) x.2.1 x.2.2.1=C0.make D0∧x.2.1.n=C0.n) (fun x=>C0.n-x.1) ((0,C0,D0,sl0)) ?_ zsub zge ?_
 · exact⟨hC0,hs0,Nat.zero_le _,rfl,rfl⟩
 rintro⟨i,C,D,sl⟩ hI1 KL1 hL1;have hI1o:=hI1;obtain⟨hC,hs,hi,hmk,hCn⟩:=hI1;dsimp only at hC hs hi hmk hCn ⊢;obtain⟨hl1,hl2,hl3,hl4,hl5,hl6,hl7⟩:=hC.lim;have hht:C.l.head≤C.l.tail:=(by unfold LogM.tail;omega);unfold caP caC;refine gc 9 ?_;refine ysp 15 rfl (fun h19=>?_) (fun h19=>?_)
 ·refine gy 4 ?_;refine ygo ?_;refine yci (bFree ?its24 ?ln24 ?ll24) call224 ?_
  case its24=>exact hs
  case ln24=>omega
  case ll24=>omega
  refine gy 4 ?_;refine cc rfl (fun h27=>?_) (fun h27=>?_)
  ·have hstep:C0.make D0=CaM.mkF ((C0.n-(i+1))+1) C D:=by rw[←hmk,show C0.n-i=(C0.n-(i+1))+1 by omega]
   unfold CaM.mkF at hstep;rw[if_neg (by unfold CaM.free;omega)]at hstep;refine gc 9 ?_;refine yci (bHead) call85 ?_;refine gy 3 ?_;refine cseqT ?_;intro K12 hK12
   have hJr10: ∀x:CaM × Dev × Sv,(C.again D=(0,x.1,x.2.1)∧x.1.ok x.2.1∧itOk x.2.2 x.1.l)→Sk 64 K12 ([(4,i64 C.l.head),(3,i64 i),(0,ptr A.p)]) ([caP A x.1,enS A x.1,puS A x.1,logG A.lp A.lc q x.2.2 x.1.l,dev q x.2.1]++R):=by
    rintro⟨C1,D1,sl1⟩ hIr10;refine hK12 _ _ ?_;obtain⟨hag,hC1,hs1⟩:=hIr10;dsimp only at hag hC1 hs1 ⊢;unfold caP caC;rw[hag,if_neg (by simp)]at hstep;dsimp only at hstep;have hbl1:=CaM.again_bl (C:=C) (D:=D);rw[hag]at hbl1;dsimp only at hbl1;refine gc 7 ?_;rw[wr (by omega) (by omega)];refine ycall (bTrim (L:=C1.l) ?lok40 ?its40) rfl call226 ztk rfl ?_
    case lok40=>exact hC1.l
    case its40=>exact hs1
    rintro v L' ⟨sl54,rfl,ok54,rfl⟩;have hokT:=hC1.cut (C.l.head+1);have hct:C1.cut D1 (C.l.head+1)=((C1.l.trim D1 (C.l.head+1)).1,{C1 with l:=(C1.l.trim D1 (C.l.head+1)).2.1},(C1.l.trim D1 (C.l.head+1)).2.2):=rfl;generalize C1.l.trim D1 (C.l.head+1)=tr at*;rw[hct]at hokT hstep;dsimp only at hokT hstep;refine gy 8 ?_;refine cc rfl (fun h44=>?_) (fun h44=>?_)
    ·rw[if_pos h44]at hstep;refine gc 11 ?_;refine kretv results213 rfl (L1:=[caP A {C1 with l:=tr.2.1},enS A {C1 with l:=tr.2.1},puS A {C1 with l:=tr.2.1},logG A.lp A.lc q sl54 tr.2.1,dev q tr.2.2]++R) zge ?_;rw[hstep];exact⟨_,⟨sl54,rfl,ok54,rfl⟩,rfl⟩
    rw[if_neg (fun hz=>hz h44)]at hstep;refine gc 6 ?_;rw[show IntKind.i64.wrap ((i:Int)+1)=((i+1:Nat):Int)by rw[wr (by omega) (by omega)];rfl];refine gy 3 ?_;exact hL1 ((i+1,{C1 with l:=tr.2.1},tr.2.2,sl54)) (⟨hokT,ok54,by dsimp only;omega,hstep.symm,by dsimp only;omega⟩) (by dsimp only;omega) _ _ zsub zge
   clear hK12;refine gc 2 ?_;refine yci (kNeeded (C:=C) (sl:=sl) (q:=q) ?mok51 ?pn51) call225 ?_
   case mok51=>exact hC.m
   case pn51=>exact hC.pn
   rcases hnd:C.needed with _|x0
   ·refine gy 3 ?_;refine ya (ac_alloc zeroValue127 rfl) rfl ?_;rintro v L' ⟨b5,rfl,rfl⟩;refine yst (ac_storeAll rfl rfl (ent_one _) sizeOf127 zrp rfl rfl) ?_;refine gy 10 ?_
    (exact ksub zsub zge (hJr10 (C,D,sl) ⟨by unfold CaM.again;rw[hnd],hC,hs⟩))
   refine gy 3 ?_;refine ya (ac_alloc zeroValue127 rfl) rfl ?_;rintro v L' ⟨b5,rfl,rfl⟩;refine yst (ac_storeAll rfl rfl (ent_one _) sizeOf127 zrp rfl rfl) ?_;refine gy 9 ?_;refine cdraw 8 (od [] 8 0) (_) Tryz.mixed (by kernel_rfl) .refl ?_;refine gh 1 ?_;refine hr rfl (ev_loadN (u:=[i64 x0.blk,i64 x0.ve,i64 x0.vs,str x0.data,.bool x0.dirty,i64 x0.cl,i64 x0.n]) rfl isAgg127 sizeOf127 zin rfl rfl) rfl ?_;refine hr rfl (ev_be rfl) rfl ?_;refine hr rfl (ev_iface rfl (by kernel_rfl)) rfl ?_;refine gh 3 ?_;refine hr rfl (ev_loadN (u:=[i64 C.k.e,i64 C.k.s,i64 C.k.t.a,i64 C.k.t.b,i64 C.k.t.c,i64 C.k.t.d]) rfl isAgg152 sizeOf152 zin rfl rfl) rfl ?_;refine gh 1 ?_;refine ycall (kAdd (C:=C) (sl:=sl) (q:=q) (D:=D) (w:= .put x0) (k:=C.k) ?cok74 ?its74 ?rok74) rfl call206 ztk rfl ?_
   case cok74=>exact hC
   case its74=>exact hs
   case rok74=>exact⟨(hC.need hnd).1,hC.k⟩
   rintro v L' ⟨sl44,rfl,ok44,rfl⟩;have hag:C.again D=C.add D ⟨.put x0,C.k⟩:=by unfold CaM.again;rw[hnd]
   have hokA:=hC.again;rw[hag]at hokA;obtain⟨a,ha7⟩: ∃a,C.add D ⟨.put x0,C.k⟩=a:=⟨_,rfl⟩;rw[ha7]at hag ok44 hokA ⊢;obtain⟨e7,C1,D1⟩:=a;dsimp only at ok44 hokA ⊢;unfold lgS;refine gy 8 ?_;refine cc rfl (fun h78=>?_) (fun h78=>?_)
   ·rw[hag,if_pos h78]at hstep;refine gc 12 ?_;refine kretv results213 rfl (L1:=[caP A C1,enS A C1,puS A C1,logG A.lp A.lc q sl44 C1.l,dev q D1]++R) zge ?_;rw[hstep];exact⟨_,⟨sl44,rfl,ok44,rfl⟩,rfl⟩
   have hag1:C.again D=(0,C1,D1)∧C1.ok D1∧itOk sl44 C1.l:=⟨by rw[hag,h78],hokA,ok44⟩;refine gc 2 ?_;exact ksub zsub zge (hJr10 (C1,D1,sl44) hag1)
  have hout:C0.make D0=(if C.free<4 then 12 else 0,C,D):=by rw[←hmk,show C0.n-i=(C0.n-i- 1)+1 by omega];unfold CaM.mkF;rw[if_pos (by unfold CaM.free;omega),if_neg (by unfold CaM.free;omega)]
  refine gc 5 ?_;exact ksub zsub zge (hJ1 ⟨i,C,D,sl⟩ ⟨hI1o,hout⟩)
 have hout:C0.make D0=(if C.free<4 then 12 else 0,C,D):=by rw[←hmk,show C0.n-i=0 by omega];rfl
 refine gy 15 ?_;exact ksub zsub zge (hJ1 ⟨i,C,D,sl⟩ ⟨hI1o,hout⟩)
theorem kCome [Env]{R:List Seg}{A:CaA}{q:Q3}{sl:Sv}{C:CaM}{D:Dev}{w:WhatM}{k:KeptM}(hC:C.ok D)(hs:itOk sl C.l)(hw:CrecM.ok C.bl ⟨w,k⟩):
   Con Tryz.prog 182 [ptr A.p,WhatM.val w,keptV k] [caP A C,enS A C,puS A C,lgS A q sl C,dev q D] R (KC A q C (C.come D ⟨w,k⟩)):=by
 have hcm:C.come D ⟨w,k⟩=if(C.make D).1≠0 then C.make D else(C.make D).2.1.add (C.make D).2.2 ⟨w,k⟩:=rfl
 have hmo:(C.make D).2.1.ok (C.make D).2.2:=CaM.ok.mkF C.n hC;have hmb:(C.make D).2.1.bl=C.bl:=(CaM.mkF_bl _ _ _).1;refine con_enter func182 ntmps182 rfl rfl ?_;refine gc 1 ?_;refine ya (ac_box rfl rfl) rfl ?_;rintro v L' ⟨b5,rfl,rfl⟩;refine gy 6 ?_;refine ycall (kMake (C0:=C) (sl0:=sl) (q:=q) (D0:=D) ?cok4 ?its4) rfl call213 ztk rfl ?_
 case cok4=>exact hC
 case its4=>exact hs
 rintro v L' ⟨sl9,rfl,ok9,rfl⟩;generalize C.make D=m at*;obtain⟨em,C1,D1⟩:=m;dsimp only at*;refine gy 8 ?_;refine cc rfl (fun h8=>?_) (fun h8=>?_)
 ·rw[if_pos h8]at hcm;refine gc 7 ?_;refine kretv results182 rfl (L1:=[caP A C1,enS A C1,puS A C1,lgS A q sl9 C1,dev q D1]++R) zge ?_;rw[hcm];exact⟨_,⟨sl9,rfl,ok9,rfl⟩,rfl⟩
 rw[if_neg (fun hz=>hz h8)]at hcm;refine gc 5 ?_;refine y (ev_loadN (u:=[i64 k.e,i64 k.s,i64 k.t.a,i64 k.t.b,i64 k.t.c,i64 k.t.d]) rfl isAgg152 sizeOf152 zin rfl rfl) rfl ?_;refine ycall (kAdd (C:=C1) (sl:=sl9) (q:=q) (D:=D1) (w:=w) (k:=k) ?cok14 ?its14 ?rok14) rfl call206 ztk rfl ?_
 case cok14=>exact hmo
 case its14=>exact ok9
 case rok14=>rw[hmb];exact hw
 rintro v L' ⟨sl16,rfl,ok16,rfl⟩;refine gy 4 ?_;refine kretv results182 rfl (L1:=[caP A (C1.add D1 ⟨w,k⟩).2.1,enS A (C1.add D1 ⟨w,k⟩).2.1,puS A (C1.add D1 ⟨w,k⟩).2.1,lgS A q sl16 (C1.add D1 ⟨w,k⟩).2.1,dev q (C1.add D1 ⟨w,k⟩).2.2]++R) zge ?_;rw[hcm];exact⟨_,⟨sl16,rfl,ok16,rfl⟩,rfl⟩
theorem kSpare [Env]{R:List Seg}{A:CaA}{C:CaM}(hb:C.bl≤32):
   Con Tryz.prog 205 [ptr A.p] [caP A C,enS A C] R (Is (.tuple #[i64 C.spare.1,.bool C.spare.2]) [caP A C,enS A C]):=by
 have hal:C.all.length≤C.bl:=allTo_len C C.bl;refine con_enter func205 ntmps205 rfl rfl ?_;refine gc 10 ?_;refine cseqT ?_;intro K3 hK3;refine gc 2 ?_;refine ycall (kAll ?bl21) rfl call59 ztk rfl ?_
 case bl21=>exact hb
 rintro v L' ⟨s9,rfl,ok9,rfl⟩;refine y (ev_lenSv rfl underlying61 (by assumption)) rfl ?_;refine gy 3 ?_
 have hJ1: ∀x:Nat × Int × Bool,((x.1≤C.all.length∧(C.all.take x.1).foldl (spareS C) (0,false)=x.2)∧(C.spare=x.2))→Sk 39 K3 ([(11,i64 x.1),(10,i64 C.all.length),(9,svVal s9 C.all.length),(4,i64 x.2.1),(5,.bool x.2.2),(0,ptr A.p)]) ([svSeg s9 127 (entsV C.all),caP A C,enS A C]++R):=by
  rintro⟨k,at0,fd⟩ ⟨hI1,hX1⟩;refine hK3 _ _ ?_;obtain⟨hk1,hk2⟩:=hI1;dsimp only at hk1 hk2 ⊢;have hv:RdV [svSeg s9 127 (entsV C.all)] (svVal s9 C.all.length) C.all.length (entsV C.all):=rdV_sv .z ok9;rw[hX1];refine gc 8 ?_;refine kretv2 results205 rfl rfl (L1:=[caP A C,enS A C]++R) zge ?_;exact⟨_,⟨by rfl,rfl⟩,by rfl⟩
 clear hK3;refine gc 1 ?_;refine cloopT (A:=Nat × Int × Bool) (fun x=>[(11,i64 x.1),(10,i64 C.all.length),(9,svVal s9 C.all.length),(4,i64 x.2.1),(5,.bool x.2.2),(0,ptr A.p)]) (fun x=>[svSeg s9 127 (entsV C.all),caP A C,enS A C]++R) (fun x=>x.1≤C.all.length∧(C.all.take x.1).foldl (spareS C) (0,false)=x.2) (fun x=>C.all.length-x.1) ((0,0,false)) ?_ zsub zge ?_
 · exact⟨Nat.zero_le _,rfl⟩
 rintro⟨k,at0,fd⟩ hI1 KL1 hL1;have hI1o:=hI1;obtain⟨hk1,hk2⟩:=hI1;dsimp only at hk1 hk2 ⊢;have hv:RdV [svSeg s9 127 (entsV C.all)] (svVal s9 C.all.length) C.all.length (entsV C.all):=rdV_sv .z ok9;refine gc 5 ?_;refine cc rfl (fun h29=>?_) (fun h29=>?_)
 ·obtain⟨x0,hx0⟩: ∃x0,C.all[k]? =some x0:=⟨_,List.getElem?_eq_getElem (by omega)⟩;have hnx:(C.all.take (k+1)).foldl (spareS C) (0,false)=spareS C (at0,fd) x0:=by rw[take_snoc hx0,List.foldl_append,hk2];rfl
  refine gc 2 ?_;refine cseqT ?_;intro K8 hK8
  have hJr7: ∀x:Int × Bool,(spareS C (at0,fd) x0=x)→Sk 39 K8 ([(11,i64 k),(10,i64 C.all.length),(9,svVal s9 C.all.length),(4,i64 x.1),(5,.bool x.2),(0,ptr A.p)]) ([svSeg s9 127 (entsV C.all),caP A C,enS A C]++R):=by
   rintro⟨at1,fd1⟩ hIr7;refine hK8 _ _ ?_;rw[hIr7]at hnx;refine gc 2 ?_;rw[show IntKind.i64.wrap ((k:Int)+1)=((k+1:Nat):Int)by rw[wr (by omega) (by omega)];rfl];refine gy 3 ?_;exact hL1 ((k+1,at1,fd1)) (⟨by dsimp only;omega,hnx⟩) (by dsimp only;omega) _ _ zsub zge
  clear hK8;refine gc 2 ?_;refine y (ev_ixV hv rfl rfl underlying61 sizeOf127 (by omega) (by omega)) rfl ?_;refine y (ev_loadNV (us:=[i64 x0.blk,i64 x0.ve,i64 x0.vs,str x0.data,.bool x0.dirty,i64 x0.cl,i64 x0.n]) (k*7) hv zge rfl isAgg127 sizeOf127 (by rfl) (entsV_get hx0) rfl) rfl ?_;refine ya (ac_alloc zeroValue127 rfl) rfl ?_;rintro v L' ⟨b7,rfl,rfl⟩;refine yst (ac_storeAll rfl rfl (ent_one _) sizeOf127 zrp rfl rfl) ?_;refine gy 3 ?_;refine cdraw 16 (od [] 16 0) (_) Tryz.mixed (by kernel_rfl) .refl ?_;refine gh 4 ?_;refine hsp 18 rfl (fun h40=>?_) (fun h40=>?_)
  ·refine gh 3 ?_;refine hsp 21 rfl (fun h44=>?_) (fun h44=>?_)
   ·have hsel:spareS C (at0,fd) x0=(x0.blk,true):=by unfold spareS;simp_all
    refine gh 24 ?_;exact ksub zsub zge (hJr7 (x0.blk,true) hsel)
   refine gh 5 ?_;refine hr1 rfl rfl rfl (ev_lookup (z:=entV .zero) (kv:=akv entV C.en) rfl rfl underlying149 underlying3 zeroValue127 zin) rfl ?_;rw[akv_get,lk_entV];refine hr1 rfl rfl rfl (ev_fieldN (u:=[i64 ((aget C.en at0).getD .zero).ve,i64 ((aget C.en at0).getD .zero).vs]) 1 rfl underlying127 rfl isAgg84 sizeOf84 rfl) rfl ?_;refine gh 1 ?_;refine hr1 rfl rfl rfl (ev_loadN (u:=[i64 x0.ve,i64 x0.vs]) rfl isAgg84 sizeOf84 zin rfl rfl) rfl ?_;refine gh 1 ?_;refine ygo ?_;refine yci (kAbove) call203 ?_;refine gy 4 ?_;refine cc rfl (fun h63=>?_) (fun h63=>?_)
   ·have hsel:spareS C (at0,fd) x0=(x0.blk,true):=by unfold spareS;simp_all
    refine gc 8 ?_;exact ksub zsub zge (hJr7 (x0.blk,true) hsel)
   have hsk:spareS C (at0,fd) x0=(at0,fd):=by unfold spareS;simp_all
   refine gc 3 ?_;exact ksub zsub zge (hJr7 (at0,fd) hsk)
  have hsk:spareS C (at0,fd) x0=(at0,fd):=by unfold spareS;simp[h40]
  refine gh 22 ?_;exact ksub zsub zge (hJr7 (at0,fd) hsk)
 refine gc 5 ?_;exact ksub zsub zge (hJ1 ⟨k,at0,fd⟩ ⟨hI1o,by have h1:=hk2;rw[List.take_of_length_le (by omega)]at h1;exact h1⟩)
theorem kSync [Env]{R:List Seg}{A:CaA}{q:Q3}{sl:Sv}{C:CaM}{D:Dev}(hD:D.ok):Con Tryz.prog 158 [ptr A.p] [caP A C,lgS A q sl C,dev q D] R (Is (i64 D.barrier.1) [caP A C,lgS A q sl C,dev q D.barrier.2]):=by
 refine con_enter func158 ntmps158 rfl rfl ?_;unfold caP caC lgS;refine gc 9 ?_;refine yci (bSync ?dok74) call207 ?_
 case dok74=>exact hD
 refine gy 4 ?_;refine kretv results158 rfl (L1:=[sc A.p _ 154,logG _ _ _ _ _,dev q _]++R) zge ?_;exact⟨_,⟨rfl,rfl⟩,rfl⟩
abbrev keptL(k:KeptM):List Value:=[i64 k.e,i64 k.s,i64 k.t.a,i64 k.t.b,i64 k.t.c,i64 k.t.d]
theorem if_max(a b:Int):(if b>a then b else a)=max a b:=by rw[Int.max_def];split<;>split<;>omega
theorem kDrop [Env]{R:List Seg}{A:CaA}{q:Q3}{sl:Sv}{C:CaM}{D:Dev}{b:Int}(hC:C.ok D)(hs:itOk sl C.l):
   Con Tryz.prog 212 [ptr A.p,i64 b] [caP A C,enS A C,puS A C,lgS A q sl C,dev q D] R (KC A q C (C.drop D b)):=by
 have hdr:C.drop D b=if(aget C.en b).isSome=true then C.come D ⟨.drop b,C.k⟩else(10,C,D):=rfl
 refine con_enter func212 ntmps212 rfl rfl ?_;unfold caP caC enS;refine gc 11 ?_;refine y (ev_lookup2 (z:=entV .zero) (kv:=akv entV C.en) rfl rfl underlying149 underlying3 zeroValue127 zin) rfl ?_;rw[akv_get,lk_entV,Option.isSome_map];refine gy 3 ?_;refine ya (ac_alloc zeroValue127 rfl) rfl ?_;rintro v L' ⟨b5,rfl,rfl⟩;refine yst (ac_storeAll rfl rfl (ent_one _) sizeOf127 zrp rfl rfl) ?_;refine gy 8 ?_;refine cc rfl (fun h16=>?_) (fun h16=>?_)
 ·rw[if_neg (by rw[h16];simp)]at hdr;refine gc 6 ?_;refine kretv results212 rfl (L1:=[sc A.p _ 154,so A.me _,puS A C,lgS A q sl C,dev q D]++R) zge ?_;rw[hdr];exact⟨_,⟨sl,rfl,hs,rfl⟩,rfl⟩
 rw[if_pos h16]at hdr;refine gc 3 ?_;obtain⟨x0,hx0⟩:=Option.isSome_iff_exists.1 ‹(aget C.en b).isSome=true›;obtain⟨hxo,hxb⟩:=ok_get hC hx0;refine gy 2 ?_;refine y (ev_be rfl) rfl ?_;refine y (ev_iface rfl (by kernel_rfl)) rfl ?_;refine gy 3 ?_;refine y (ev_loadN (u:=keptL C.k) rfl isAgg152 sizeOf152 zin rfl rfl) rfl ?_;refine ycall (kCome (C:=C) (sl:=sl) (q:=q) (D:=D) (w:= .drop b) (k:=C.k) ?cok26 ?its26 ?rok26) rfl call182 ztk rfl ?_
 case cok26=>exact hC
 case its26=>exact hs
 case rok26=>exact⟨by have:=hxo.blk;show 0≤b∧b<C.bl;omega,hC.k⟩
 rintro v L' ⟨sl26,rfl,ok26,rfl⟩;refine gy 4 ?_;refine kretv results212 rfl (L1:=[caP A _,enS A _,puS A _,lgS A q sl26 _,dev q _]++R) zge ?_;rw[hdr];exact⟨_,⟨sl26,rfl,ok26,rfl⟩,rfl⟩
theorem kClean [Env]{R:List Seg}{A:CaA}{q:Q3}{sl:Sv}{C:CaM}{D:Dev}{b e s:Int}(hC:C.ok D)(hs:itOk sl C.l):
   Con Tryz.prog 120 [ptr A.p,i64 b,.agg #[i64 e,i64 s]] [caP A C,enS A C,puS A C,lgS A q sl C,dev q D] R (KC A q C (C.clean D b e s)):=by
 refine con_enter func120 ntmps120 rfl rfl ?_;unfold caP caC enS;refine gc 1 ?_;refine ya (ac_box (vs:=[i64 e,i64 s]) rfl rfl) rfl ?_;rintro v L' ⟨b5,rfl,rfl⟩;refine gy 9 ?_;refine y (ev_lookup2 (z:=entV .zero) (kv:=akv entV C.en) rfl rfl underlying149 underlying3 zeroValue127 zin) rfl ?_;rw[akv_get,lk_entV,Option.isSome_map];rcases hg:aget C.en b with _|x0
 ·refine gy 3 ?_;refine ya (ac_alloc zeroValue127 rfl) rfl ?_;rintro v L' ⟨b7,rfl,rfl⟩;refine yst (ac_storeAll rfl rfl (ent_one _) sizeOf127 zrp rfl rfl) ?_;refine gy 6 ?_
  (have hcl:C.clean D b e s=(10,C,D):=by unfold CaM.clean;rw[hg])
  refine gy 19 ?_;refine kretv results120 rfl (L1:=[sc A.p _ 154,so A.me _,puS A C,lgS A q sl C,dev q D]++R) zge ?_;rw[hcl];exact⟨_,⟨sl,rfl,hs,rfl⟩,rfl⟩
 refine gy 3 ?_;refine ya (ac_alloc zeroValue127 rfl) rfl ?_;rintro v L' ⟨b7,rfl,rfl⟩;refine yst (ac_storeAll rfl rfl (ent_one _) sizeOf127 zrp rfl rfl) ?_;refine gy 6 ?_
 (have hcl:C.clean D b e s=if¬(x0.ve=e∧x0.vs=s)then(10,C,D)else if x0.dirty=false then(0,C,D)else C.come D ⟨.clean b e s,C.k⟩:=by unfold CaM.clean;rw[hg])
 refine gy 4 ?_;refine ygo ?_;refine y (ev_loadN (u:=[i64 x0.ve,i64 x0.vs]) rfl isAgg84 sizeOf84 zin rfl rfl) rfl ?_;refine ygo ?_;refine y (ev_loadN (u:=[i64 e,i64 s]) rfl isAgg84 sizeOf84 zin rfl rfl) rfl ?_;refine ygo ?_;refine y (ev_neqF rfl rfl (by kernel_rfl) (by simp only[List.cons.injEq,Value.int.injEq,Value.string.injEq,Value.bool.injEq,str_inj,intsV_inj,MsgM.cells_inj,true_and,and_true];exact Iff.rfl)) rfl ?_;refine gy 4 ?_;refine cc rfl (fun h63=>?_) (fun h63=>?_)
 ·rw[if_pos h63]at hcl;refine gc 7 ?_;refine kretv results120 rfl (L1:=[sc A.p _ 154,so A.me _,puS A C,lgS A q sl C,dev q D]++R) zge ?_;rw[hcl];exact⟨_,⟨sl,rfl,hs,rfl⟩,rfl⟩
 rw[if_neg (fun hz=>hz h63)]at hcl;refine gc 7 ?_;refine cc rfl (fun h69=>?_) (fun h69=>?_)
 ·have hdy:x0.dirty=false:=h69;rw[if_pos hdy]at hcl;refine gc 7 ?_;refine kretv results120 rfl (L1:=[sc A.p _ 154,so A.me _,puS A C,lgS A q sl C,dev q D]++R) zge ?_;rw[hcl];exact⟨_,⟨sl,rfl,hs,rfl⟩,rfl⟩
 have hdy:x0.dirty=true:=h69;rw[if_neg (by rw[hdy];simp)]at hcl;refine gc 4 ?_;refine cdraw 9 (od [] 9 0) (_) Tryz.mixed (by kernel_rfl) .refl ?_;obtain⟨hxo,hxb⟩:=ok_get hC hg;refine gh 2 ?_;refine hr rfl (ev_loadN (u:=[i64 e,i64 s]) rfl isAgg84 sizeOf84 zin rfl rfl) rfl ?_;refine hr rfl (ev_be rfl) rfl ?_;refine hr rfl (ev_iface rfl (by kernel_rfl)) rfl ?_;refine gh 3 ?_;refine hr rfl (ev_loadN (u:=keptL C.k) rfl isAgg152 sizeOf152 zin rfl rfl) rfl ?_;refine gh 1 ?_;refine ycall (kCome (C:=C) (sl:=sl) (q:=q) (D:=D) (w:= .clean b e s) (k:=C.k) ?cok80 ?its80 ?rok80) rfl call182 ztk rfl ?_
 case cok80=>exact hC
 case its80=>exact hs
 case rok80=>exact⟨⟨by have:=hxo.blk;omega,by have:=hxo.ve;omega,by have:=hxo.vs;omega⟩,hC.k⟩
 rintro v L' ⟨sl40,rfl,ok40,rfl⟩;refine gy 4 ?_;refine kretv results120 rfl (L1:=[caP A _,enS A _,puS A _,lgS A q sl40 _,dev q _]++R) zge ?_;rw[hcl];exact⟨_,⟨sl40,rfl,ok40,rfl⟩,rfl⟩
theorem kReset [Env]{R:List Seg}{A:CaA}{q:Q3}{sl:Sv}{C:CaM}{D:Dev}{e s:Int}{v:Value}{ns:List Int}(hC:C.ok D)(hs:itOk sl C.l)(hv:RdV R v ns.length (intsV ns))(hnl:ns.length<1000000):
   Con Tryz.prog 211 [ptr A.p,.agg #[i64 e,i64 s],v] [caP A C,enS A C,puS A C,lgS A q sl C,dev q D] R (KC A q C (C.reset D e s ns)):=by
 have hre:C.reset D e s ns=if wrongV e s ns=true then(1,C,D)else C.come D ⟨.note,⟨e,s,t4Of ns⟩⟩:=rfl
 refine con_enter func211 ntmps211 rfl rfl ?_;refine gc 1 ?_;refine ya (ac_box (vs:=[i64 e,i64 s]) rfl rfl) rfl ?_;rintro v L' ⟨b4,rfl,rfl⟩;refine gy 5 ?_;refine y (ev_loadN (u:=[i64 e,i64 s]) rfl isAgg84 sizeOf84 zin rfl rfl) rfl ?_;refine gy 1 ?_;refine yci (kWrong (ns:=ns) ?hv86 ?hl86) call209 ?_
 case hv86=>exact hv.mono zge
 case hl86=>exact hnl
 rw[show(!mayV e s 0||decide (ns.length≠4)||ns.any oddN)=wrongV e s ns from rfl];refine gy 2 ?_;refine cc rfl (fun h87=>?_) (fun h87=>?_)
 ·rw[if_pos h87]at hre;refine gc 6 ?_;refine kretv results211 rfl (L1:=[caP A C,enS A C,puS A C,lgS A q sl C,dev q D]++R) zge ?_;rw[hre];exact⟨_,⟨sl,rfl,hs,rfl⟩,rfl⟩
 rw[if_neg (by rw[h87];simp)]at hre;obtain⟨he,hsn,n0,n1,n2,n3,rfl,h0,h1,h2,h3⟩:=wrong_no h87;refine gc 3 ?_;refine y (ev_loadN (u:=[i64 e,i64 s]) rfl isAgg84 sizeOf84 zin rfl rfl) rfl ?_;refine y (ev_be rfl) rfl ?_;refine ya (ac_alloc zeroValue152 rfl) rfl ?_;rintro v L' ⟨b7,rfl,rfl⟩;refine yst (ac_storeAll (us:=[i64 e,i64 s,i64 0,i64 0,i64 0,i64 0]) rfl rfl (by simp[Value.oneCell']) sizeOf152 zrp rfl rfl) ?_;refine gy 4 ?_;refine y (ev_slA rfl underlying32 sizeOf2) rfl ?_;refine gy 1 ?_;refine ya (ac_copyV (m:=4) (us:=[i64 n0,i64 n1,i64 n2,i64 n3]) (vs':=[i64 e,i64 s,i64 n0,i64 n1,i64 n2,i64 n3]) rfl rfl underlying57 sizeOf2 ((hv.mono zge).src rfl) (by simp[Value.oneCell']) (by decide) zrp (by simp) rfl) rfl ?_;rintro v L' ⟨rfl,rfl⟩;refine gy 4 ?_;refine y (ev_build (zs:=[]) (vs:=[]) rfl underlying248 zeroValue248 rfl .nil trivial rfl) rfl ?_;refine y (ev_iface rfl (by kernel_rfl)) rfl ?_;refine y (ev_loadN (u:=[i64 e,i64 s,i64 n0,i64 n1,i64 n2,i64 n3]) rfl isAgg152 sizeOf152 zin rfl rfl) rfl ?_;refine ycall (kCome (C:=C) (sl:=sl) (q:=q) (D:=D) (w:= .note) (k:=⟨e,s,⟨n0,n1,n2,n3⟩⟩) ?cok101 ?its101 ?rok101) rfl call182 ztk rfl ?_
 case cok101=>exact hC
 case its101=>exact hs
 case rok101=>exact⟨trivial,⟨he,hsn,h0,h1,h2,h3⟩⟩
 rintro v L' ⟨sl21,rfl,ok21,rfl⟩;refine gy 4 ?_;refine kretv results211 rfl (L1:=[caP A _,enS A _,puS A _,lgS A q sl21 _,dev q _]++R) zge ?_;rw[hre];exact⟨_,⟨sl21,rfl,ok21,rfl⟩,rfl⟩
theorem kNote [Env]{R:List Seg}{A:CaA}{q:Q3}{sl:Sv}{C:CaM}{D:Dev}{e s:Int}{v:Value}{ns:List Int}(hC:C.ok D)(hs:itOk sl C.l)(hv:RdV R v ns.length (intsV ns))(hnl:ns.length<1000000):
   Con Tryz.prog 166 [ptr A.p,.agg #[i64 e,i64 s],v] [caP A C,enS A C,puS A C,lgS A q sl C,dev q D] R (KC A q C (C.note D e s ns)):=by
 have hre:C.note D e s ns=if wrongV e s ns=true then(1,C,D)else C.come D ⟨.note,noteK C.k e s (t4Of ns)⟩:=rfl
 have hvl:=hv.lenVal;refine con_enter func166 ntmps166 rfl rfl ?_;unfold caP caC;refine gc 1 ?_;refine ya (ac_box (vs:=[i64 e,i64 s]) rfl rfl) rfl ?_;rintro v L' ⟨b4,rfl,rfl⟩;refine gy 5 ?_;refine y (ev_loadN (u:=[i64 e,i64 s]) rfl isAgg84 sizeOf84 zin rfl rfl) rfl ?_;refine gy 1 ?_;refine yci (kWrong (ns:=ns) ?hv107 ?hl107) call209 ?_
 case hv107=>exact hv.mono zge
 case hl107=>exact hnl
 rw[show(!mayV e s 0||decide (ns.length≠4)||ns.any oddN)=wrongV e s ns from rfl];refine gy 2 ?_;refine cc rfl (fun h108=>?_) (fun h108=>?_)
 ·rw[if_pos h108]at hre;refine gc 6 ?_;refine kretv results166 rfl (L1:=[sc A.p _ 154,enS A C,puS A C,lgS A q sl C,dev q D]++R) zge ?_;rw[hre];exact⟨_,⟨sl,rfl,hs,rfl⟩,rfl⟩
 rw[if_neg (by rw[h108];simp)]at hre;obtain⟨he,hsn,n0,n1,n2,n3,rfl,h0,h1,h2,h3⟩:=wrong_no h108;refine gc 6 ?_;refine y (ev_loadN (u:=keptL C.k) rfl isAgg152 sizeOf152 zin rfl rfl) rfl ?_;refine ya (ac_alloc zeroValue152 rfl) rfl ?_;rintro v L' ⟨b7,rfl,rfl⟩;refine yst (ac_storeAll (us:=keptL C.k) rfl rfl (by simp[Value.oneCell']) sizeOf152 zrp rfl rfl) ?_;refine gy 2 ?_;refine cseqT ?_;intro K6 hK6
 have hJr6: ∀x:Int × Int,((if aboveV e s C.k.e C.k.s=true then e else C.k.e)=x.1∧(if aboveV e s C.k.e C.k.s=true then s else C.k.s)=x.2)→Sk 45 K6 ([(7,ptr b7),(0,ptr A.p),(2,v)]) ([sc b7 [i64 x.1,i64 x.2,i64 C.k.t.a,i64 C.k.t.b,i64 C.k.t.c,i64 C.k.t.d] 152,sc A.p (caC A C) 154,enS A C,puS A C,lgS A q sl C,dev q D]++R):=by
  rintro⟨e',s'⟩ hIr6;refine hK6 _ _ ?_;obtain⟨hne1,hne2⟩:=hIr6;dsimp only at hne1 hne2 ⊢;unfold caC;refine cseqT ?_;intro K7 hK7;refine gc 2 ?_;refine y (ev_lenV rfl underlying57 hvl) rfl ?_;refine gy 3 ?_
  have hJ1: ∀x:Nat,((x≤4)∧(x=4))→Sk 45 K7 ([(25,i64 x),(24,i64 4),(23,v),(7,ptr b7),(0,ptr A.p)]) ([sc b7 [i64 e',i64 s',i64 (C.k.t.maxTo ⟨n0,n1,n2,n3⟩ x).a,i64 (C.k.t.maxTo ⟨n0,n1,n2,n3⟩ x).b,i64 (C.k.t.maxTo ⟨n0,n1,n2,n3⟩ x).c,i64 (C.k.t.maxTo ⟨n0,n1,n2,n3⟩ x).d] 152,sc A.p (caC A C) 154,enS A C,puS A C,lgS A q sl C,dev q D]++R):=by
   rintro i ⟨hI1,hX1⟩;refine hK7 _ _ ?_;have hi:=hI1;unfold caC;subst hX1;refine gc 1 ?_;have hnk:noteK C.k e s (t4Of [n0,n1,n2,n3])=⟨e',s',C.k.t.maxTo ⟨n0,n1,n2,n3⟩ 4⟩:=by unfold noteK;rw[hne1,hne2];rfl
   have hnok:=noteK_ok (e:=e) (s:=s) hC.k he hsn h0 h1 h2 h3;rw[show(⟨n0,n1,n2,n3⟩:T4)=t4Of [n0,n1,n2,n3]from rfl,hnk]at hnok;rw[hnk]at hre;refine gy 1 ?_;refine y (ev_build (zs:=[]) (vs:=[]) rfl underlying248 zeroValue248 rfl .nil trivial rfl) rfl ?_;refine y (ev_iface rfl (by kernel_rfl)) rfl ?_;refine y (ev_loadN (u:=[i64 e',i64 s',i64 (C.k.t.maxTo ⟨n0,n1,n2,n3⟩ 4).a,i64 (C.k.t.maxTo ⟨n0,n1,n2,n3⟩ 4).b,i64 (C.k.t.maxTo ⟨n0,n1,n2,n3⟩ 4).c,i64 (C.k.t.maxTo ⟨n0,n1,n2,n3⟩ 4).d]) rfl isAgg152 sizeOf152 zin rfl rfl) rfl ?_;refine ycall (kCome (C:=C) (sl:=sl) (q:=q) (D:=D) (w:= .note) (k:=⟨e',s',C.k.t.maxTo ⟨n0,n1,n2,n3⟩ 4⟩) ?cok123 ?its123 ?rok123) rfl call182 ztk rfl ?_
   case cok123=>exact hC
   case its123=>exact hs
   case rok123=>exact⟨trivial,hnok⟩
   rintro v L' ⟨sl44,rfl,ok44,rfl⟩;refine gy 4 ?_;refine kretv results166 rfl (L1:=[caP A _,enS A _,puS A _,lgS A q sl44 _,dev q _]++R) zge ?_;rw[hre];exact⟨_,⟨sl44,rfl,ok44,rfl⟩,rfl⟩
  clear hK7;refine gc 1 ?_;refine cloopT (A:=Nat) (fun x=>[(25,i64 x),(24,i64 4),(23,v),(7,ptr b7),(0,ptr A.p)]) (fun x=>[sc b7 [i64 e',i64 s',i64 (C.k.t.maxTo ⟨n0,n1,n2,n3⟩ x).a,i64 (C.k.t.maxTo ⟨n0,n1,n2,n3⟩ x).b,i64 (C.k.t.maxTo ⟨n0,n1,n2,n3⟩ x).c,i64 (C.k.t.maxTo ⟨n0,n1,n2,n3⟩ x).d] 152,sc A.p (caC A C) 154,enS A C,puS A C,lgS A q sl C,dev q D]++R) (fun x=>x≤4) (fun x=>4-x) (0) ?_ zsub zge ?_
  · exact Nat.zero_le _
  rintro i hI1 KL1 hL1;have hI1o:=hI1;have hi:=hI1;unfold caC;refine gc 5 ?_;refine cc rfl (fun h126=>?_) (fun h126=>?_)
  ·refine gc 5 ?_;have hi4:i=0∨i=1∨i=2∨i=3:=by omega
   obtain⟨y0,hy0⟩: ∃y0,([n0,n1,n2,n3]:List Int)[i]? =some y0:=⟨_,List.getElem?_eq_getElem (by show i<4;omega)⟩;refine gy 1 ?_;refine y (ev_ixV hv rfl rfl underlying57 sizeOf2 (by omega) (by show(i:Int)<4;omega)) rfl ?_;refine y (ev_loadV i hv zge rfl isAgg2 (by simp) (intsV_get hy0)) rfl ?_;refine gy 8 ?_;refine y (ev_ixAddrA rfl rfl underlying32 sizeOf2 (by omega) (by omega)) rfl ?_;refine y (ev_load (v:=i64 (C.k.t.get i)) rfl isAgg2 zin (by rcases hi4 with rfl|rfl|rfl|rfl<;>rfl)) rfl ?_;refine gy 1 ?_;refine y (ev_max rfl rfl) rfl ?_;rw[if_max];refine gy 1 ?_;refine y (ev_ixAddrA rfl rfl underlying32 sizeOf2 (by omega) (by omega)) rfl ?_;refine yst (ac_store (vs':=[i64 e',i64 s',i64 (C.k.t.maxTo ⟨n0,n1,n2,n3⟩ (i+1)).a,i64 (C.k.t.maxTo ⟨n0,n1,n2,n3⟩ (i+1)).b,i64 (C.k.t.maxTo ⟨n0,n1,n2,n3⟩ (i+1)).c,i64 (C.k.t.maxTo ⟨n0,n1,n2,n3⟩ (i+1)).d]) rfl rfl rfl sizeOf2 zrp (by rcases hi4 with rfl|rfl|rfl|rfl<;>rfl) (by rcases hi4 with rfl|rfl|rfl|rfl<;>(simp only[List.getElem?_cons_zero,List.getElem?_cons_succ,Option.some.injEq]at hy0;subst hy0;rfl))) ?_;refine gy 5 ?_;rw[show IntKind.i64.wrap ((i:Int)+1)=((i+1:Nat):Int)by rw[wr (by omega) (by omega)];rfl];refine gy 3 ?_;exact hL1 (i+1) (by omega) (by omega) _ _ zsub zge
  refine gc 5 ?_;exact ksub zsub zge (hJ1 i ⟨hI1o,by omega⟩)
 clear hK6;refine gc 1 ?_;refine y (ev_loadN (u:=[i64 e,i64 s]) rfl isAgg84 sizeOf84 zin rfl rfl) rfl ?_;refine gy 1 ?_;refine y (ev_loadN (u:=[i64 C.k.e,i64 C.k.s]) rfl isAgg84 sizeOf84 zin rfl rfl) rfl ?_;refine yci (kAbove) call203 ?_;refine gy 2 ?_;refine cc rfl (fun h148=>?_) (fun h148=>?_)
 ·have hne:(if aboveV e s C.k.e C.k.s=true then e else C.k.e)=e∧(if aboveV e s C.k.e C.k.s=true then s else C.k.s)=s:=⟨if_pos h148,if_pos h148⟩;refine gc 1 ?_;refine y (ev_loadN (u:=[i64 e,i64 s]) rfl isAgg84 sizeOf84 zin rfl rfl) rfl ?_;refine gy 1 ?_;refine yst (ac_storeN (vs':=[i64 e,i64 s,i64 C.k.t.a,i64 C.k.t.b,i64 C.k.t.c,i64 C.k.t.d]) rfl rfl (by simp[Value.oneCell']) sizeOf84 zrp rfl (by simp) rfl) ?_;refine gy 2 ?_;exact ksub zsub zge (hJr6 (e,s) hne)
 have hne:(if aboveV e s C.k.e C.k.s=true then e else C.k.e)=C.k.e∧(if aboveV e s C.k.e C.k.s=true then s else C.k.s)=C.k.s:=⟨if_neg (by rw[h148];simp),if_neg (by rw[h148];simp)⟩;refine gc 2 ?_;exact ksub zsub zge (hJr6 (C.k.e,C.k.s) hne)
end W
end Go.Proofs