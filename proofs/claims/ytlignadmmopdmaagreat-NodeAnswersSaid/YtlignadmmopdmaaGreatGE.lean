/- A part of the proof. -/
import Derived.Test.YtlignadmmopdmaaGreatUn
import Derived.Test.YtlignadmmopdmaaGreatGB
import Derived.Test.YtlignadmmopdmaaGreatProg
import Derived.Shelf.SlIterI.Nil
import Derived.Shelf.SortM.Plain
import Derived.Shelf.SortM.SortNone
import Derived.Ground.GgzProg
import Derived.Ground.SlgmProg
import Derived.Test.YtlignadmmopdmaaGreatGC
set_option linter.unusedVariables false
set_option linter.unusedSimpArgs false
set_option linter.constructorNameAsVariable false
namespace Go.Proofs
open _root_.Go.Proofs.Tryz
open Go Go.Sl
theorem Tryz.mixed:Tryz.prog.follows .mixedOrders=true:=by kernel_rfl
theorem Tryz.zc:Tryz.zeroCells120=(bytesV zsec).toArray:=by rfl
namespace W
def devP(p la m:Nat)(D:Dev):Seg:=sc p [.slice (some ⟨la,0,none⟩) D.l.length D.l.length,.map (some m),.bool D.dead,.int .i64 D.fuse] 95
def devL(la:Nat)(D:Dev):Seg:=sc la (flat D.l) 120
def devM(m:Nat)(D:Dev):Seg:=so m (.map (ents (kvs D.es)) D.clk)
abbrev devS(p la m:Nat)(D:Dev):List Seg:=[devP p la m D,devL la D,devM m D]
abbrev ptr(p:Nat):Value:= .pointer (some ⟨p,0,none⟩)
abbrev i64(x:Int):Value:= .int .i64 x
theorem act [Env]{R:List Seg}{p la m:Nat}{D:Dev}:Con Tryz.prog 54 [ptr p] [devP p la m D] R (Is (i64 D.act.1) [devP p la m D.act.2]):=by
 unfold devP;refine con_enter func54 ntmps54 rfl rfl ?_;refine gc 13 ?_;refine cc rfl (fun h7=>?_) (fun h7=>?_)
 ·refine gc 4 ?_;refine yst (ac_store rfl rfl (by rfl) sizeOf4 zrp rfl rfl) ?_;refine gy 8 ?_;refine kretv results54 rfl (L1:=_) zge ?_;exact⟨_,⟨by simp[Dev.act, *],rfl⟩,by simp[Dev.act, *]⟩
 refine gc 11 ?_;refine cc rfl (fun h18=>?_) (fun h18=>?_)
 ·refine gc 8 ?_;refine yst (ac_store rfl rfl (by rfl) sizeOf3 zrp rfl rfl) ?_;refine gy 7 ?_;refine kretv results54 rfl (L1:=_) zge ?_;exact⟨_,⟨by simp[Dev.act, *],rfl⟩,by simp[Dev.act, *]⟩
 refine gc 7 ?_;refine kretv results54 rfl (L1:=_) zge ?_;exact⟨_,⟨by simp[Dev.act, *],rfl⟩,by simp[Dev.act, *]⟩
theorem devM_act{m:Nat}{D:Dev}:devM m D.act.2=devM m D:=by unfold Dev.act devM;split<;>(try split)<;>rfl
theorem devL_act{m:Nat}{D:Dev}:devL m D.act.2=devL m D:=by unfold Dev.act devL;split<;>(try split)<;>rfl
theorem has [Env]{R:List Seg}{p la m:Nat}{D:Dev}{i:Int}:Con Tryz.prog 53 [ptr p,i64 i] [devP p la m D] R (Is (i64 (D.has i)) [devP p la m D]):=by
 unfold devP;refine con_enter func53 ntmps53 rfl rfl ?_;refine gc 14 ?_;refine cc rfl (fun h35=>?_) (fun h35=>?_)
 ·refine gc 7 ?_;refine kretv results53 rfl (L1:=_) zge ?_;exact⟨_,⟨by simp[Dev.has, *],rfl⟩,by rfl⟩
 refine gc 4 ?_;refine ysp 13 rfl (fun h40=>?_) (fun h40=>?_)
 ·refine gy 19 ?_;refine kretv results53 rfl (L1:=_) zge ?_;exact⟨_,⟨by simp[Dev.has, *],rfl⟩,by rfl⟩
 refine gy 5 ?_;refine ygo ?_;refine y (ev_len rfl underlying92) rfl ?_;refine gy 5 ?_;refine cc rfl (fun h53=>?_) (fun h53=>?_)
 ·refine gc 7 ?_;refine kretv results53 rfl (L1:=_) zge ?_;exact⟨_,⟨by simp[Dev.has, *],rfl⟩,by rfl⟩
 refine gc 8 ?_;refine kretv results53 rfl (L1:=_) zge ?_;exact⟨_,⟨by simp[Dev.has, *],rfl⟩,by rfl⟩
theorem dead [Env]{R:List Seg}{p la m:Nat}{D:Dev}:Con Tryz.prog 75 [ptr p] [devP p la m D] R (Is (.bool D.dead) [devP p la m D]):=by
 unfold devP;refine con_enter func75 ntmps75 rfl rfl ?_;refine gc 13 ?_;refine kretv results75 rfl (L1:=_) zge ?_;exact⟨_,⟨by rfl,rfl⟩,by rfl⟩
theorem sectors [Env]{R:List Seg}{p la m:Nat}{D:Dev}:Con Tryz.prog 46 [ptr p] [devP p la m D] R (Is (i64 D.l.length) [devP p la m D]):=by
 unfold devP;refine con_enter func46 ntmps46 rfl rfl ?_;refine gc 9 ?_;refine y (ev_len rfl underlying92) rfl ?_;refine gy 4 ?_;refine kretv results46 rfl (L1:=_) zge ?_;exact⟨_,⟨by rfl,rfl⟩,by rfl⟩
theorem new [Env]{R:List Seg}{n:Nat}(hn:n≤512):Con Tryz.prog 18 [i64 n] [] R (fun v L'=> ∃p la m,v=ptr p∧L'=devS p la m (Dev.new n)):=by
 refine con_enter func18 ntmps18 rfl rfl ?_;refine gc 9 ?_;refine ysp 5 rfl (fun h92=>?_) (fun h92=>?_)
 ·refine gy 12 ?_;exfalso;omega
 refine gy 5 ?_;refine cc rfl (fun h98=>?_) (fun h98=>?_)
 ·refine gc 6 ?_;exfalso;omega
 refine gc 4 ?_;refine ya (ac_make (zs:=bytesV zsec) rfl rfl underlying92 typeInfo120 sizeOf120 zeroValue120 Tryz.zc rfl (by decide) ?lt101 ?big101) rfl ?_
 case lt101=>omega
 case big101=>show 144*n≤_;omega
 rintro v L' ⟨b10,rfl,rfl⟩;refine ya (ac_makeMap) rfl ?_;rintro v L' ⟨b11,rfl,rfl⟩;refine y (ev_build (zs:=_) rfl underlying95 zeroValue95 rfl (.cons sizeOf92 (.cons sizeOf93 (.cons sizeOf4 (.cons sizeOf3 .nil)))) ⟨⟨_,_,rfl,(by rfl),(by decide)⟩,⟨⟨_,_,rfl,(by rfl),(by decide)⟩,⟨⟨_,_,rfl,(by rfl),(by decide)⟩,trivial⟩⟩⟩ (by dsimp[fillL,splice,vcells]<;>rfl)) rfl ?_;refine ya (ac_box rfl rfl) rfl ?_;rintro v L' ⟨b13,rfl,rfl⟩;refine gy 4 ?_;refine kretv results18 rfl (L1:=[sc _ _ 95,sc _ _ 120,so _ (.map _ _)]++R) zge ?_;exact⟨_,⟨b13,b10,b11,rfl,rfl⟩,by simp[devP,devL,devM,Dev.new,flat_reps,kvs]⟩
theorem write [Env]{R:List Seg}{p la m:Nat}{D:Dev}{i:Int}{bv:Value}{bs:Bytes}(hD:D.ok)(hb:RdB R bv bs):
   Con Tryz.prog 21 [ptr p,i64 i,bv] [devP p la m D,devM m D] R (Is (i64 (D.write i bs).1) [devP p la m (D.write i bs).2,devM m (D.write i bs).2]):=by
 refine con_enter func21 ntmps21 rfl rfl ?_;refine gc 8 ?_;refine yci (has) call53 ?_;refine gy 8 ?_;refine cc rfl (fun h113=>?_) (fun h113=>?_)
 ·refine gc 7 ?_;refine kretv results21 rfl (L1:=[devP p la m _,so m _]++R) zge ?_;exact⟨_,⟨by simp[Dev.write,devM_act, *],rfl⟩,by simp[Dev.write,devM,devP,kvs_put,kvs_clk, *]⟩
 refine gc 5 ?_;refine y (ev_lenB rfl underlying55 hb.lenVal) rfl ?_;refine gy 3 ?_;refine cc rfl (fun h119=>?_) (fun h119=>?_)
 ·refine gc 6 ?_;refine kretv results21 rfl (L1:=[devP p la m _,so m _]++R) zge ?_;exact⟨_,⟨by simp[Dev.write,devM_act, *],rfl⟩,by simp[Dev.write,devM,devP,kvs_put,kvs_clk, *]⟩
 refine gc 5 ?_;refine yci (act) call54 ?_;refine gy 8 ?_;refine cc rfl (fun h126=>?_) (fun h126=>?_)
 ·refine gc 7 ?_;refine kretv results21 rfl (L1:=[devP p la m _,so m _]++R) zge ?_;exact⟨_,⟨by simp[Dev.write,devM_act, *],rfl⟩,by simp[Dev.write,devM,devP,kvs_put,kvs_clk, *]⟩
 refine gc 3 ?_;refine ya (ac_alloc (vs:=bytesV zsec) zeroValue120 Tryz.zc) rfl ?_;rintro v L' ⟨b9,rfl,rfl⟩;refine gy 3 ?_;refine y (ev_slA rfl underlying120 sizeOf5) rfl ?_;refine gy 1 ?_;refine ya (ac_copyB (bs:=bs) (vs':=bytesV (pad bs)) rfl rfl underlying55 sizeOf5 ?rd132 rfl zrp ?fit132 ?eq132) rfl ?_
 case rd132=>exact hb.mono (by repeat first|exact .refl|refine .drop ?_)
 case fit132=>simp[zsec];omega
 case eq132=>exact copy_pad (by omega)
 rintro v L' ⟨rfl,rfl⟩;refine gy 3 ?_;refine cdraw 6 (od [] 6 0) (_) Tryz.mixed (by kernel_rfl) .refl ?_;refine gh 5 ?_;refine hr rfl (ev_loadAll rfl isAgg120 sizeOf120 zin (by simp[pad];omega)) rfl ?_;refine gh 1 ?_;refine yst (ac_mapUpdate rfl rfl rfl underlying93 underlying3 ?uniq139 zrp) ?_
 case uniq139=>exact kvs_uniq hD.uniq
 refine gy 7 ?_;refine kretv results21 rfl (L1:=[devP p la m _,so m _]++R) zge ?_;exact⟨_,⟨by simp[Dev.write,devM_act, *],rfl⟩,by simp[Dev.write,devM,devP,kvs_put,kvs_clk, *]⟩
theorem barrier [Env]{R:List Seg}{p la m:Nat}{D:Dev}(hD:D.ok):
   Con Tryz.prog 93 [ptr p] (devS p la m D) R (Is (i64 D.barrier.1) (devS p la m D.barrier.2)):=by
 refine con_enter func93 ntmps93 rfl rfl ?_;show Sc _ _ _ _ _ (devP p la m D::devL la D::devM m D::R);refine gc 6 ?_;unfold devP;refine gy 6 ?_;refine cc rfl (fun h146=>?_) (fun h146=>?_)
 ·refine gc 6 ?_;refine kretv results93 rfl (L1:=[sc p _ _,sc la _ _,so m _]++R) zge ?_;exact⟨_,⟨by simp[Dev.barrier,devP,devL,devM,devM_act,devL_act, *],rfl⟩,by simp[Dev.barrier,devP,devL,devM,devM_act,devL_act, *]⟩
 refine gc 5 ?_;refine yci (act) call54 ?_;refine gy 8 ?_;refine cc rfl (fun h153=>?_) (fun h153=>?_)
 ·refine gc 7 ?_;refine kretv results93 rfl (L1:=[sc p _ _,sc la _ _,so m _]++R) zge ?_;exact⟨_,⟨by simp[Dev.barrier,devP,devL,devM,devM_act,devL_act, *],rfl⟩,by simp[Dev.barrier,devP,devL,devM,devM_act,devL_act, *]⟩
 refine gc 4 ?_;unfold devP devM;simp only[act_l];refine gy 4 ?_;refine ya (ac_range rfl underlying93 zin) rfl ?_;rintro v L' ⟨i19,rfl,rfl⟩;refine gy 3 ?_;refine cloopT (A:=List Nat × List Bytes) (fun x=>[(19,ptr i19),(0,ptr p)]) (fun x=>[so i19 (.mapIter (some m) D.clk x.1.toArray D.clk),sc p [.slice (some ⟨la,0,none⟩) D.l.length D.l.length,.map (some m),.bool D.act.2.dead,.int .i64 D.act.2.fuse] 95,sc la (flat x.2) 120,devM m D]++R) (fun x=>(∀s∈x.2,s.length=144)∧x.2.length=D.l.length∧settleD (D.es.filter fun y=> !x.1.contains y.2.2) x.2=settleD D.es D.l) (fun x=>(left (kvs D.es) x.1).length) (([],D.l)) ?_ zsub zge ?_
 · exact⟨hD.sec,rfl,congrArg (settleD · _) (List.filter_eq_self.2 (by simp))⟩
 rintro⟨seen,ls⟩ hI1 KL1 hL1;obtain⟨hls,hll,hse⟩:=hI1;dsimp only at hls hll hse ⊢;unfold devM;refine gc 1 ?_;refine ya (ac_next rfl zin zin ?st161 (fun _=>zrp)) rfl ?_
 case st161=>exact kvs_stamped hD.born hD.once
 rintro v L' (⟨hov20,rfl,rfl⟩|⟨x20,hx20,rfl,rfl⟩)
 ·have hse':=settle_done hov20 hse;refine gy 15 ?_;refine yst (ac_clearM rfl underlying93 zrp) ?_;refine gy 7 ?_;refine kretv results93 rfl (L1:=[sc p _ _,sc la _ _,so m _]++R) zge ?_;exact⟨_,⟨by simp[Dev.barrier,devP,devL,devM,devM_act,devL_act, *],rfl⟩,by simp[Dev.barrier,devP,devL,devM,devM_act,devL_act, *]⟩
 obtain⟨k20,s20,b20,rfl,hs20,hk0,hk1,hm20⟩:=left_es hD hx20;refine gy 9 ?_;refine y (ev_entry rfl zin zin ?st170 ?mem170) rfl ?_
 case st170=>exact kvs_stamped hD.born hD.once
 case mem170=>exact left_mem hx20
 refine gy 2 ?_;refine ya (ac_alloc (vs:=bytesV zsec) zeroValue120 Tryz.zc) rfl ?_;rintro v L' ⟨b5,rfl,rfl⟩;refine gy 1 ?_;refine yst (ac_storeAll rfl rfl (by exact bytesV_one _) sizeOf120 zrp (by simp[*]) (by rfl)) ?_;refine gy 2 ?_;refine cdraw 7 (od [] 7 0) (_) Tryz.mixed (by kernel_rfl) .refl ?_;refine gh 5 ?_;refine hr rfl (ev_loadAll rfl isAgg120 sizeOf120 zin (by simp[*])) rfl ?_;refine hr rfl (ev_ixAddr rfl rfl underlying92 sizeOf120 (by omega) (by omega)) rfl ?_;refine gh 1 ?_;refine ya0 (ac_storeN (vs':=flat (ls.set k20.toNat s20)) rfl rfl (bytesV_one _) sizeOf120 zrp (by simp[hs20]) (by rw[flat_length hls];omega) (by rw[Nat.zero_add];exact flat_set hls (by omega))) ?_;rintro v L' ⟨rfl,rfl⟩;refine gy 3 ?_;exact hL1 ((seen++[b20],ls.set k20.toNat s20)) (⟨set_len hls hs20,by simpa using hll,settleD_step hD hx20 hm20 hse⟩) (left_lt hx20) _ _ zsub zge
theorem cloneB [Env]{R:List Seg}{a:Addr}{m c:Nat}{bs:Bytes}(hm:m=bs.length)(hb:RdB R (.slice (some a) m c) bs)(hl:m<2^40):
   Con Tryz.prog 134 [.slice (some a) m c] [] R (KSv 5 m 1 (bytesV bs) []):=by
 subst hm;refine con_enter func134 ntmps134 rfl rfl ?_;refine gc 7 ?_;refine y (ev_eqlLnil rfl rfl underlying55) rfl ?_;refine gy 2 ?_;refine cc rfl (fun h187=>?_) (fun h187=>?_)
 ·exact absurd h187 (by simp)
 refine gc 3 ?_;refine ya (ac_bslice0 underlying55 sizeOf5) rfl ?_;rintro v L' ⟨b5,rfl,rfl⟩;refine gy 1 ?_;refine ya (ac_append (k:=bs.length) (us:=bytesV bs) (size:=1) rfl rfl (by repeat first|exact .z|apply Pk.s) underlying55 underlying55 (by intro q hq;cases hq) typeInfo5 rfl rfl rfl ?ok190 ?src190 ?one190 ?big190) rfl ?_
 case ok190=>exact⟨Nat.le_refl _,by decide,rfl,rfl⟩
 case src190=>exact(hb.mono zge).src
 case one190=>exact bytesV_one _
 case big190=>show(0+bs.length)*2≤_;omega
 rintro v L' ⟨s7,rfl,ok7,rfl⟩;rw[Nat.zero_add]at ok7;rw[Nat.zero_add];refine gy 4 ?_;refine kretv results134 rfl (L1:=_) zge ?_;exact⟨_,⟨s7,rfl,ok7,rfl⟩,rfl⟩
/-- What Read hands back: nil beside an error, else a new slice. -/
def KRead(D:Dev)(i:Int)(L:List Seg)(v:Value)(L':List Seg):Prop:=
 (D.has i≠0∧v= .tuple #[.slice none 0 0,i64 (D.has i)]∧L'=L)∨
 (D.has i=0∧ ∃s,v= .tuple #[svVal s 144,i64 0]∧svOk s 144 1 (bytesV (D.sec i))∧L'=svSeg s 5 (bytesV (D.sec i))::L)
theorem read [Env]{R:List Seg}{p la m:Nat}{D:Dev}{i:Int}(hD:D.ok):
   Con Tryz.prog 76 [ptr p,i64 i] (devS p la m D) R (KRead D i (devS p la m D)):=by
 have hs:=sec_length hD i;refine con_enter func76 ntmps76 rfl rfl ?_;show Sc _ _ _ _ _ (devP p la m D::devL la D::devM m D::R);refine gc 9 ?_;refine yci (has) call53 ?_;refine gy 8 ?_;refine cc rfl (fun h200=>?_) (fun h200=>?_)
 ·refine gc 8 ?_;exact kret2 results76 rfl rfl _ (.inl ⟨by assumption,rfl,rfl⟩) zge
 refine gc 3 ?_;unfold devP devM;obtain⟨hdd,hi0,hi1⟩:=has_zero (D:=D) (i:=i) (by assumption);have hql:=fun q=>eget_len hD (k:=i) (s:=q)
 refine gy 5 ?_;rcases hg:eget D.es i with _|q
 ·(refine y (ev_lookup2n (by rw[kvs_get,hg];rfl) rfl rfl underlying93 underlying3 zeroValue120 zin) rfl ?_)
  refine gy 3 ?_;refine ya (ac_alloc (vs:=bytesV zsec) zeroValue120 Tryz.zc) rfl ?_;rintro v L' ⟨b7,rfl,rfl⟩;refine yst (ac_storeAll rfl rfl (by simp[Value.oneCell']) sizeOf120 zrp (by rfl) (by rfl)) ?_;refine gy 11 ?_;obtain⟨s0,hs0⟩:=at_some hi0 hi1;have hl0:s0.length=144:=hD.sec s0 (List.mem_of_getElem? hs0);unfold devL;refine gy 5 ?_;refine y (ev_ixAddr rfl rfl underlying92 sizeOf120 (by omega) (by omega)) rfl ?_;refine y (ev_loadN (u:=bytesV s0) rfl isAgg120 sizeOf120 zin (by rw[Nat.zero_add];exact flat_get hD.sec hs0) (by simp[hl0])) rfl ?_;refine yst (ac_storeAll rfl rfl (by exact bytesV_one _) sizeOf120 zrp (by simp[*]) (by rfl)) ?_;refine gy 3 ?_;refine y (ev_slA rfl underlying120 sizeOf5) rfl ?_;refine ycall (cloneB (bs:=D.sec i) ?m227 ?rd227 ?len227) rfl call134 ztk rfl ?_
  case m227=>exact hs.symm
  case rd227=>exact rdB_in zin (by simp[*]) (by(rw[sec_none hg hs0]);exact List.take_of_length_le (by simp[*]))
  case len227=>decide
  rintro v L' ⟨s34,rfl,ok34,rfl⟩;refine gy 5 ?_;exact kret2 results76 rfl rfl _ (.inr ⟨by assumption,s34,rfl,ok34,rfl⟩) zge
 (refine y (ev_lookup2s (by rw[kvs_get,hg];rfl) rfl rfl underlying93 underlying3 zeroValue120 zin) rfl ?_)
 refine gy 3 ?_;refine ya (ac_alloc (vs:=bytesV zsec) zeroValue120 Tryz.zc) rfl ?_;rintro v L' ⟨b7,rfl,rfl⟩;refine yst (ac_storeAll rfl rfl (by exact bytesV_one _) sizeOf120 zrp (by simp[*]) (by rfl)) ?_;refine gy 13 ?_;refine y (ev_slA rfl underlying120 sizeOf5) rfl ?_;refine ycall (cloneB (bs:=D.sec i) ?m240 ?rd240 ?len240) rfl call134 ztk rfl ?_
 case m240=>exact hs.symm
 case rd240=>exact rdB_in zin (by simp[*]) (by(rw[sec_some hg]);exact List.take_of_length_le (by simp[*]))
 case len240=>decide
 rintro v L' ⟨s34,rfl,ok34,rfl⟩;refine gy 5 ?_;exact kret2 results76 rfl rfl _ (.inr ⟨by assumption,s34,rfl,ok34,rfl⟩) zge
end W
end Go.Proofs
namespace Go.Proofs
open _root_.Go.Proofs.Tryz
open Go.Shelf
def Tryz.keysA_ren:Go.Shelf.Ren:=⟨fun|7=>132|10=>187|n=>n,fun|23=>93|26=>3|3=>120|28=>198|0=>0|27=>197|33=>193|4=>4|n=>n,fun|n=>n⟩
theorem Tryz.keysA:Go.Proofs.SlLaysZI.n7 Tryz.prog Tryz.keysA_ren:={
 mixed:=by kernel_rfl
 f7:=⟨Tryz.f132.name,by decide,func132.trans (congrArg some (by kernel_rfl))⟩
 f10:=⟨Tryz.f187.name,by decide,func187.trans (congrArg some (by kernel_rfl))⟩
 t0:=underlying0
 a0:=isAgg0
 z0:=sizeOf0
 v0:=zeroValue0
 t4:=underlying4
 a4:=isAgg4
 z4:=sizeOf4
 v4:=zeroValue4
 t23:=underlying93
 a23:=isAgg93
 z23:=sizeOf93
 v23:=zeroValue93
 t26:=underlying3
 a26:=isAgg3
 z26:=sizeOf3
 v26:=zeroValue3
 t27:=underlying197
 a27:=isAgg197
 z27:=sizeOf197
 v27:=zeroValue197
 t28:=underlying198
 a28:=isAgg198
 z28:=sizeOf198
 v28:=zeroValue198
 t33:=underlying193
 a33:=isAgg193
 z33:=sizeOf193
 v33:=zeroValue193}
def Tryz.sortedA_ren:Go.Shelf.Ren:=⟨fun|6=>131|8=>185|9=>186|11=>215|13=>217|12=>216|23=>236|24=>237|14=>227|15=>228|16=>229|17=>230|18=>231|19=>232|20=>233|21=>234|22=>235|25=>240|26=>241|27=>242|28=>243|29=>244|30=>245|31=>246|n=>n,fun|26=>3|28=>198|24=>73|0=>0|3=>3|37=>204|48=>173|50=>138|4=>4|40=>269|39=>268|45=>257|5=>5|9=>9|51=>279|55=>283|57=>285|58=>286|33=>193|n=>n,fun|n=>n⟩
theorem Tryz.sortedA:Go.Proofs.SlLaysZI.n6 Tryz.prog Tryz.sortedA_ren:={
 mixed:=by kernel_rfl
 f6:=⟨Tryz.f131.name,by decide,func131.trans (congrArg some (by kernel_rfl))⟩
 f8:=⟨Tryz.f185.name,by decide,func185.trans (congrArg some (by kernel_rfl))⟩
 f11:=⟨Tryz.f215.name,by decide,func215.trans (congrArg some (by kernel_rfl))⟩
 t0:=underlying0
 a0:=isAgg0
 z0:=sizeOf0
 v0:=zeroValue0
 t24:=underlying73
 a24:=isAgg73
 z24:=sizeOf73
 v24:=zeroValue73
 t26:=underlying3
 a26:=isAgg3
 z26:=sizeOf3
 v26:=zeroValue3
 t28:=underlying198
 a28:=isAgg198
 z28:=sizeOf198
 v28:=zeroValue198
 i26:=by kernel_rfl}
def Tryz.sortA_ren:Go.Shelf.Ren:=⟨fun|5=>186|8=>217|7=>216|19=>236|20=>237|10=>227|11=>228|12=>229|13=>230|14=>231|15=>232|16=>233|17=>234|18=>235|30=>240|31=>241|32=>242|33=>243|34=>244|35=>245|40=>246|n=>n,fun|23=>73|25=>3|3=>3|32=>204|22=>73|0=>0|44=>173|46=>138|4=>4|36=>269|35=>268|41=>257|5=>5|9=>9|53=>279|57=>283|63=>285|64=>286|n=>n,fun|n=>n⟩
theorem Tryz.sortA:Go.Proofs.SlLaysM.n5 Tryz.prog Tryz.sortA_ren:={
 mixed:=by kernel_rfl
 f5:=⟨Tryz.f186.name,by decide,func186.trans (congrArg some (by kernel_rfl))⟩
 f7:=⟨Tryz.f216.name,by decide,func216.trans (congrArg some (by kernel_rfl))⟩
 f8:=func217.trans (congrArg some (by kernel_rfl))
 f10:=⟨Tryz.f227.name,by decide,func227.trans (congrArg some (by kernel_rfl))⟩
 f11:=⟨Tryz.f228.name,by decide,func228.trans (congrArg some (by kernel_rfl))⟩
 f12:=⟨Tryz.f229.name,by decide,func229.trans (congrArg some (by kernel_rfl))⟩
 f13:=⟨Tryz.f230.name,by decide,func230.trans (congrArg some (by kernel_rfl))⟩
 f14:=⟨Tryz.f231.name,by decide,func231.trans (congrArg some (by kernel_rfl))⟩
 f15:=⟨Tryz.f232.name,by decide,func232.trans (congrArg some (by kernel_rfl))⟩
 f16:=⟨Tryz.f233.name,by decide,func233.trans (congrArg some (by kernel_rfl))⟩
 f17:=⟨Tryz.f234.name,by decide,func234.trans (congrArg some (by kernel_rfl))⟩
 f18:=⟨Tryz.f235.name,by decide,func235.trans (congrArg some (by kernel_rfl))⟩
 f19:=func236.trans (congrArg some (by kernel_rfl))
 f20:=func237.trans (congrArg some (by kernel_rfl))
 f30:=⟨Tryz.f240.name,by decide,func240.trans (congrArg some (by kernel_rfl))⟩
 f31:=func241.trans (congrArg some (by kernel_rfl))
 f32:=func242.trans (congrArg some (by kernel_rfl))
 f33:=⟨Tryz.f243.name,by decide,func243.trans (congrArg some (by kernel_rfl))⟩
 f34:=⟨Tryz.f244.name,by decide,func244.trans (congrArg some (by kernel_rfl))⟩
 f35:=⟨Tryz.f245.name,by decide,func245.trans (congrArg some (by kernel_rfl))⟩
 f40:=⟨Tryz.f246.name,by decide,func246.trans (congrArg some (by kernel_rfl))⟩
 t0:=underlying0
 a0:=isAgg0
 z0:=sizeOf0
 v0:=zeroValue0
 t3:=underlying3
 a3:=isAgg3
 z3:=sizeOf3
 v3:=zeroValue3
 t4:=underlying4
 a4:=isAgg4
 z4:=sizeOf4
 v4:=zeroValue4
 t5:=underlying5
 a5:=isAgg5
 z5:=sizeOf5
 v5:=zeroValue5
 t9:=underlying9
 a9:=isAgg9
 z9:=sizeOf9
 v9:=zeroValue9
 t22:=underlying73
 a22:=isAgg73
 z22:=sizeOf73
 v22:=zeroValue73
 t23:=underlying73
 a23:=isAgg73
 z23:=sizeOf73
 v23:=zeroValue73
 t25:=underlying3
 a25:=isAgg3
 z25:=sizeOf3
 v25:=zeroValue3
 t32:=underlying204
 a32:=isAgg204
 z32:=sizeOf204
 v32:=zeroValue204
 t35:=underlying268
 a35:=isAgg268
 z35:=sizeOf268
 v35:=zeroValue268
 t36:=underlying269
 a36:=isAgg269
 z36:=sizeOf269
 v36:=zeroValue269
 t41:=underlying257
 a41:=isAgg257
 z41:=sizeOf257
 v41:=zeroValue257
 t44:=underlying173
 a44:=isAgg173
 z44:=sizeOf173
 v44:=zeroValue173
 t46:=underlying138
 a46:=isAgg138
 z46:=sizeOf138
 v46:=zeroValue138
 t53:=underlying279
 a53:=isAgg279
 z53:=sizeOf279
 v53:=zeroValue279
 t57:=underlying283
 a57:=isAgg283
 z57:=sizeOf283
 v57:=zeroValue283
 t63:=underlying285
 a63:=isAgg285
 z63:=sizeOf285
 v63:=zeroValue285
 t64:=underlying286
 a64:=isAgg286
 z64:=sizeOf286
 v64:=zeroValue286}
end Go.Proofs
namespace Go.Proofs
open Go.RowKit Go.Maps Go.Sort Go.Shelf
namespace W
open Go.Sl
open Go Go.Sl
open _root_.Go.Proofs.Tryz
abbrev Q3:=Nat × Nat × Nat
def dev(q:Q3)(D:Dev):Seg:=devP q.1 q.2.1 q.2.2 D++devL q.2.1 D++devM q.2.2 D
abbrev dp(q:Q3):Value:=ptr q.1
abbrev nilP:Value:= .pointer none
theorem dev_in{q:Q3}{D:Dev}{R:List Seg}:([dev q D]++R).flatten.Perm (devS q.1 q.2.1 q.2.2 D++R).flatten:=by simp[dev]
theorem dev_out{q:Q3}{D:Dev}{R:List Seg}:(devS q.1 q.2.1 q.2.2 D++R).flatten.Perm ([dev q D]++R).flatten:=dev_in.symm
theorem devPM_in{q:Q3}{D:Dev}{R:List Seg}:([dev q D]++R).flatten.Perm ([devP q.1 q.2.1 q.2.2 D,devM q.2.2 D]++(devL q.2.1 D::R)).flatten:=by
 simp only[dev,List.cons_append,List.nil_append,List.flatten_cons,List.append_assoc];exact List.Perm.append_left _ (List.perm_append_comm_assoc _ _ _)
theorem devP_in{q:Q3}{D:Dev}{R:List Seg}:([dev q D]++R).flatten.Perm ([devP q.1 q.2.1 q.2.2 D]++(devL q.2.1 D::devM q.2.2 D::R)).flatten:=by
 simp[dev]
theorem secNew [Env]{R:List Seg}{n:Nat}(hn:n≤512):Con Tryz.prog 18 [i64 n] [] R (fun v L'=> ∃q,v=dp q∧L'=[dev q (Dev.new n)]):=
 (new hn).via (List.Perm.refl _) (fun _ _ ⟨p,la,m,h1,h2⟩=>⟨_,⟨(p,la,m),h1,rfl⟩,h2▸dev_out (q:=(p,la,m))⟩)
theorem secNewNil [Env]{R:List Seg}{n:Int}(hn:n<0∨512<n):Con Tryz.prog 18 [i64 n] [] R (Is nilP []):=by
 refine con_enter func18 ntmps18 rfl rfl ?_;refine gc 9 ?_;refine ysp 5 rfl (fun h5=>?_) (fun h5=>?_)
 ·refine gy 12 ?_;refine kretv results18 rfl (L1:=_) zge ?_;exact⟨_,⟨by rfl,rfl⟩,by rfl⟩
 refine gy 5 ?_;refine cc rfl (fun h11=>?_) (fun h11=>?_)
 ·refine gc 6 ?_;refine kretv results18 rfl (L1:=_) zge ?_;exact⟨_,⟨by rfl,rfl⟩,by rfl⟩
 exfalso;omega
theorem secWrite [Env]{R:List Seg}{q:Q3}{D:Dev}{i:Int}{bv:Value}{bs:Bytes}(hD:D.ok)(hb:RdB R bv bs):
   Con Tryz.prog 21 [dp q,i64 i,bv] [dev q D] R (Is (i64 (D.write i bs).1) [dev q (D.write i bs).2]):=
 (write hD (hb.mono (.drop .refl))).via devPM_in (fun _ _ ⟨h1,h2⟩=>⟨_,⟨h1,rfl⟩,h2▸(by rw[show devL q.2.1 D=devL q.2.1 (D.write i bs).2 by unfold devL;rw[write_l]];exact devPM_in.symm)⟩)
theorem secBarrier [Env]{R:List Seg}{q:Q3}{D:Dev}(hD:D.ok):Con Tryz.prog 93 [dp q] [dev q D] R (Is (i64 D.barrier.1) [dev q D.barrier.2]):=
 (barrier hD).via dev_in (fun _ _ ⟨h1,h2⟩=>⟨_,⟨h1,rfl⟩,h2▸dev_out⟩)
theorem secDead [Env]{R:List Seg}{q:Q3}{D:Dev}:Con Tryz.prog 75 [dp q] [dev q D] R (Is (.bool D.dead) [dev q D]):=
 dead.via devP_in (fun _ _ ⟨h1,h2⟩=>⟨_,⟨h1,rfl⟩,h2▸devP_in.symm⟩)
theorem secSectors [Env]{R:List Seg}{q:Q3}{D:Dev}:Con Tryz.prog 46 [dp q] [dev q D] R (Is (i64 D.l.length) [dev q D]):=
 sectors.via devP_in (fun _ _ ⟨h1,h2⟩=>⟨_,⟨h1,rfl⟩,h2▸devP_in.symm⟩)
theorem secRead [Env]{R:List Seg}{q:Q3}{D:Dev}{i:Int}(hD:D.ok):Con Tryz.prog 76 [dp q,i64 i] [dev q D] R (KRead D i [dev q D]):=
 (read hD).via dev_in (fun _ _ h=>h.elim (fun⟨h0,h1,h2⟩=>⟨_,.inl ⟨h0,h1,rfl⟩,h2▸dev_out⟩) (fun⟨h0,s,h1,h2,h3⟩=>⟨_,.inr ⟨h0,s,h1,h2,rfl⟩,h3▸(by
   simp only[List.cons_append,List.flatten_cons];exact List.Perm.append_left _ (by simpa using dev_out))⟩))
abbrev badV:Value:= .iface 162 (.agg #[])
abbrev rdrP(p:Nat)(v:Value):Seg:=sc p [v] 165
theorem cTake [Env]{R:List Seg}{p:Nat}{v:Value}{bs:Bytes}{k:Int}(hb:RdY R v bs)(h0:0≤k):
   ConP Tryz.prog 142 [ptr p,i64 k] [rdrP p v] R (fun u L'=>k≤bs.length∧u=vSl v 0 k.toNat 1∧L'=[rdrP p (vSl v k.toNat bs.length 1)]) badV (fun L'=>(bs.length:Int)<k∧L'=[rdrP p v]):=by
 have hv:=hb.rd;refine conP_enter func142 ntmps142 rfl rfl ?_;refine cyn 1 ?_;refine cseq ?_;intro K2 hK2;refine cy 5 ?_;refine y (ev_lenV rfl underlying55 (RdV.lenVal (by assumption))) rfl ?_;refine yn 1 ?_;refine cc rfl (fun h9=>?_) (fun h9=>?_)
 ·refine creg ?_;refine y (ev_be rfl) rfl ?_;refine y (ev_iface rfl (by kernel_rfl)) rfl ?_;refine ypanic rfl ?_;refine kthp ?_;refine kpan (L1:=[sc p _ 165]++R) zge ?_;exact⟨_,⟨by omega,rfl⟩,rfl⟩
 refine cskip' (kthn (hK2 _ _ ?_));clear hK2;refine cy 5 ?_;refine y (ev_slHV hv hb.cap rfl rfl underlying55 sizeOf5 (by omega) (by omega)) rfl ?_;refine yn 1 ?_;refine cy 6 ?_;refine y (ev_slLV hv rfl rfl underlying55 sizeOf5 (by omega) (by omega)) rfl ?_;refine yr 2 ?_;refine yst (ac_store rfl rfl (vSl_one hv.lenVal) sizeOf55 zrp rfl rfl) ?_;refine ynr ?_;refine cyn 2 ?_;refine cret ?_;refine kretvP results142 rfl (L1:=[sc p _ 165]++R) zge ?_;exact⟨_,⟨by omega,rfl,rfl⟩,rfl⟩
end W
end Go.Proofs
namespace Go.Sl
theorem barrier_l{D:Dev}:D.barrier.2.l.length=D.l.length:=by
 unfold Dev.barrier;split
 ·rfl
 ·split
  · rw[act_l]
  · simp
end Go.Sl
namespace Go.Sl
theorem bytesV_get{s:Bytes}{k:Nat}(h:k<s.length):(bytesV s)[k]? =some (.int .u8 (s[k]?.getD 0).toNat):=by
 simp[bytesV,h]
section
variable {P : Program} {n : Nat} {l : List (Nat × Value)} {L : List Seg} {d : Option Tmp} {ty : TypeId} {pos : String} {af : Array Edge} {g : Option (Nat × Bool)}
end
end Go.Sl
namespace Go.Sl
end Go.Sl