/- A part of the proof. -/
import Derived.Test.YtlignadmmopdmaaGreatUn
import Derived.Test.YtlignadmmopdmaaGreatN18
set_option linter.unusedVariables false
set_option linter.unusedSimpArgs false
set_option linter.constructorNameAsVariable false
namespace Go.Proofs
open _root_.Go.Proofs.Tryz
open Go Go.Sl
namespace W
set_option maxHeartbeats 4000000
theorem set2_yes{n:NodM}{z:SetZ}{ks:List WaitM}(h:n.role=2)(h2:(n.s.l.length:Int)=0):({setM n z with waits:=ks}:NodM).settle2=({setM n z with waits:=ks}:NodM).leads:=by
 unfold NodM.settle2;have h3:n.s.l.length=0:=by omega
 exact if_pos ⟨h,List.eq_nil_of_length_eq_zero h3⟩
theorem set2_no{n:NodM}{z:SetZ}{ks:List WaitM}(h: ¬(n.role=2∧(n.s.l.length:Int)=0)):({setM n z with waits:=ks}:NodM).settle2={setM n z with waits:=ks}:=by
 unfold NodM.settle2;exact if_neg (fun hh=>h ⟨hh.1,by rw[show n.s.l=[]from hh.2];rfl⟩)
theorem changes_shape(n:NodM)(mk:Int): ∃c w l,n.changes mk={n with change:=c,want:=w,out:=l}:=by
 unfold NodM.changes;dsimp only;split
 · exact⟨_,_,_,rfl⟩
 exact⟨_,_,_,rfl⟩
theorem puts_shape(n:NodM): ∃l,n.puts=wout n l:=⟨_,put_fold _ n⟩
theorem t4V_eq{a b:T4}:t4V a=t4V b↔a=b:=by
 cases a;cases b;simp
theorem set4_a{n:NodM}(h: ¬n.resync=2):n.settle4=n:=if_pos (.inl h)
theorem set4_b{n:NodM}(h: ¬n.want=0):n.settle4=n:=if_pos (.inr (.inl h))
theorem set4_c{n:NodM}(h:(0:Int)<(n.s.l.length:Int)):n.settle4=n:=if_pos (.inr (.inr (.inl (fun e=>by rw[e]at h;exact absurd h (by decide)))))
theorem set4_d{n:NodM}(h:(n.waits.any fun w=>decide (w.op=2))=true):n.settle4=n:=if_pos (.inr (.inr (.inr h)))
theorem set4_go{n:NodM}(h1:n.resync=2)(h2:n.want=0)(h3: ¬(0:Int)<(n.s.l.length:Int))(h4:(n.waits.any fun w=>decide (w.op=2))=false):n.settle4=if n.noted=n.done then n.changes 3 else NodM.andThen n.note NodM.puts:=by
 unfold NodM.settle4;refine if_neg ?_;have h5:n.s.l=[]:=List.eq_nil_of_length_eq_zero (by omega);rintro(h|h|h|h)
 · exact h h1
 · exact h h2
 · exact h h5
 rw[h4]at h;cases h
theorem nSettle [Env]{R:List Seg}{F:NF}{V:NV}{n:NodM}(hn:n.ok 980000)(hV:NVok V n):
   Con Tryz.prog 117 [ptr F.p] (nodL F V n) R (KN F n.settle (.tuple #[])):=by
 have hwn:=hn.w.n;have hon:=hn.out;have hcl: ∀w∈n.waits,0≤w.cl∧w.cl≤3:=fun w hw=>(hn.w.all w hw).cl
 have hsw:svOk V.sw n.waits.length 7 (waitsV n.waits):=hV.sw;refine con_enter func117 ntmps117 rfl rfl ?_;unfold nodL ndC;refine gc 1 ?_;refine ya (ac_box rfl rfl) rfl ?_;rintro v L' ⟨b1,rfl,rfl⟩;refine gy 3 ?_;refine cdraw 11 [(0,true),(1,true),(2,true),(3,true),(4,true),(6,true),(5,false),(7,false),(8,true),(9,true),(10,true)] ([sc b1 [ptr F.p] 27]++R) Tryz.mixed (by kernel_rfl) zge ?_;refine gh 5 ?_
 refine hr rfl (ev_mkFunc (vs:= #[ptr b1]) (fun a hf=>by
     have h1:a.eval (.tmp 1)=ptr b1:=hf.ev rfl;simp[h1])) rfl ?_
 refine ha rfl (ac_of_ev (ev_load rfl isAgg101 zin rfl)) rfl ?_;rintro v L' ⟨rfl,rfl⟩;refine⟨zge,?_⟩;refine hcall rfl (nDeletes (ws:=n.waits) (z0:=(V.out,n.out,n.done)) (Ps:=setP F V n b1) (cs:= #[ptr b1]) hsw (by omega) call178 (set_dels hcl hwn) ⟨hV.out,by dsimp only;omega⟩) rfl call171 ztk rfl ?_;rintro v L' ⟨⟨o1,l1,t1⟩,ks,sw1,rfl,oksw,hD,hJ1,rfl⟩;refine⟨zge,?_⟩;refine gh 4 ?_;refine yst (ac_store rfl rfl (by exact svVal_one _ _) sizeOf101 zrp rfl rfl) ?_;obtain⟨n1,hn1⟩: ∃z,({setM n (o1,l1,t1)with waits:=ks}:NodM)=z:=⟨_,rfl⟩;have hs1:n.settle1=n1:=(settle1_eq rfl hD).trans hn1;have hok1:n1.ok 980016:=hs1▸hn.settle1;have hV1:NVok {V with out:=o1,sw:=sw1} n1:=by rw[←hn1];exact⟨hJ1.1,oksw,hV.si,hV.sl⟩
 obtain⟨n2,hn2⟩: ∃z,n1.settle2=z:=⟨_,rfl⟩;have hok2:n2.ok 980016:=hn2▸hok1.settle2;have hV2:NVok {V with out:=o1,sw:=sw1} n2:=by rw[←hn2];unfold NodM.settle2;split<;>exact⟨hV1.out,hV1.sw,hV1.si,hV1.sl⟩
 have hset:n.settle=n2.reads.settle4:=by unfold NodM.settle;rw[hs1,hn2]
 refine gy 2 ?_;refine cseqT ?_;intro K3 hK3
 have hJr4: ∀x:Unit,(True)→Sk 80 K3 ([(1,ptr b1)]) (sc b1 [ptr F.p] 27::nodL F {V with out:=o1,sw:=sw1} n2++R):=by
  rintro x hIr4;refine hK3 _ _ ?_;refine gc 2 ?_;refine ycall (nReads (V:={V with out:=o1,sw:=sw1}) (n:=n2) ?nok15 ?vok15) rfl call102 ztk rfl ?_
  case nok15=>exact hok2.le (by decide)
  case vok15=>exact hV2
  rintro v L' ⟨V32,rfl,vk32,rfl⟩;obtain⟨n3,hn3⟩: ∃z,n2.reads=z:=⟨_,rfl⟩;rw[hn3]at hset vk32 ⊢;have hok3:n3.ok 980032:=hn3▸hok2.reads;refine gy 4 ?_;unfold nodL ndC;refine gy 7 ?_;refine ysp 39 rfl (fun h23=>?_) (fun h23=>?_)
  ·have hq4:n3.settle4=n3:=set4_a (by simpa using h23);refine gy 30 ?_;refine kretv0 results117 (L1:=nodL F V32 n3++R) zge ?_;rw[hset,hq4];exact⟨_,⟨V32,rfl,vk32,rfl⟩,rfl⟩
  have hr2:n3.resync=2:=by simpa using h23
  refine gy 8 ?_;refine ysp 47 rfl (fun h37=>?_) (fun h37=>?_)
  ·have hq4:n3.settle4=n3:=set4_b (by simpa using h37);refine gy 22 ?_;refine kretv0 results117 (L1:=nodL F V32 n3++R) zge ?_;rw[hset,hq4];exact⟨_,⟨V32,rfl,vk32,rfl⟩,rfl⟩
  have hw2:n3.want=0:=by simpa using h37
  refine gy 5 ?_;refine ygo ?_;refine ycall (nLeft ?sov46 ?sn46) rfl call124 ztk rfl ?_
  case sov46=>exact vk32.si
  case sn46=>have:=hok3.s.n;omega
  rintro v L' ⟨s53,rfl,ok53,rfl⟩;refine ygo ?_;refine y (ev_lenSv rfl underlying168 (by assumption)) rfl ?_;refine gy 3 ?_;refine ysp 57 rfl (fun h51=>?_) (fun h51=>?_)
  ·have hq4:n3.settle4=n3:=set4_c (by exact h51);refine gy 12 ?_;refine kretv0 results117 (L1:=nodL F V32 n3++R) zge ?_;rw[hset,hq4];exact⟨_,⟨V32,rfl,vk32,rfl⟩,rfl⟩
  have hl2: ¬(0:Int)<(n3.s.l.length:Int):=by exact h51
  refine gy 5 ?_;refine ygo ?_;refine yci (nContWs (ws:=n3.waits) (Ps:=[sndC V32.ps V32.si n3.s]) (cs:= #[]) (p:=fun w=>decide (w.op=2)) ?hrw58 (by have:=hok3.w.n;omega) call181 (fun R x=>nSettle2)) call95 ?_
  case hrw58=>exact(rdV_sv (s:=V32.sw) .z vk32.sw).mono zge
  refine gy 3 ?_;refine cc rfl (fun h60=>?_) (fun h60=>?_)
  ·have hq4:n3.settle4=n3:=set4_d h60;refine gc 2 ?_;refine kretv0 results117 (L1:=nodL F V32 n3++R) zge ?_;rw[hset,hq4];exact⟨_,⟨V32,rfl,vk32,rfl⟩,rfl⟩
  have hgo:=set4_go hr2 hw2 hl2 (by simpa using h60);refine gc 3 ?_;refine cdraw 8 (od [] 8 0) (_) Tryz.mixed (by kernel_rfl) .refl ?_;refine gh 3 ?_;refine hr rfl (ev_loadN (u:=t4V n3.noted) rfl isAgg32 sizeOf32 zin rfl rfl) rfl ?_;refine gh 3 ?_;refine hr rfl (ev_loadN (u:=t4V n3.done) rfl isAgg32 sizeOf32 zin rfl rfl) rfl ?_;refine gh 1 ?_;refine y (ev_eqlF (p:=n3.noted=n3.done) (xs:=t4V n3.noted) (ys:=t4V n3.done) rfl rfl (by kernel_rfl) t4V_eq) rfl ?_;refine gy 2 ?_;refine cc rfl (fun h70=>?_) (fun h70=>?_)
  ·rw[if_pos h70]at hgo;refine gc 1 ?_;obtain⟨c9,w9,l9,hch⟩:=changes_shape n3 3;refine gy 1 ?_;refine ycall (nChanges (V:=V32) (n:=n3) (mk:=3) ?cc72 ?ook72 ?ol72) rfl call127 ztk rfl ?_
   case cc72=>have:=hok3.n.change;omega
   case ook72=>exact vk32.out
   case ol72=>have:=hok3.out;omega
   rintro v L' ⟨o75,rfl,oko75,rfl⟩;rw[hch]at oko75 ⊢;refine gy 1 ?_;refine kendv0 results117 (L1:=nodL F {V32 with out:=o75} {n3 with change:=c9,want:=w9,out:=l9}++R) zge ?_;rw[hset,hgo,hch];exact⟨_,⟨{V32 with out:=o75},rfl,⟨oko75,vk32.sw,vk32.si,vk32.sl⟩,rfl⟩,rfl⟩
  rw[if_neg h70]at hgo;refine gc 2 ?_;refine ycall (nNote (V:=V32) (n:=n3) ?nok74 ?vok74) rfl call170 ztk rfl ?_
  case nok74=>exact hok3.le (by decide)
  case vok74=>exact vk32
  rintro v L' ⟨V77,rfl,vk77,rfl⟩;refine gy 2 ?_;refine cc rfl (fun h75=>?_) (fun h75=>?_)
  ·have hgo2:n3.settle4=n3.note.2.puts:=hgo.trans (if_pos h75);have hok4:=hok3.note;refine gc 1 ?_;obtain⟨l9,hpu⟩:=puts_shape n3.note.2;refine gy 1 ?_;refine ycall (nPuts (V:=V77) (n:=n3.note.2) ?ni77 ?ook77 ?ol77 ?sov77 ?sn77) rfl call125 ztk rfl ?_
   case ni77=>exact hok4.a.id
   case ook77=>exact vk77.out
   case ol77=>have:=hok4.out;omega
   case sov77=>exact vk77.si
   case sn77=>have:=hok4.s.n;omega
   rintro v L' ⟨o79,rfl,oko79,rfl⟩;rw[hpu]at oko79 ⊢;refine gy 1 ?_;refine kendv0 results117 (L1:=nodL F {V77 with out:=o79} (wout n3.note.2 l9)++R) zge ?_;rw[hset,hgo2,hpu];exact⟨_,⟨{V77 with out:=o79},rfl,⟨oko79,vk77.sw,vk77.si,vk77.sl⟩,rfl⟩,rfl⟩
  have hgo2:n3.settle4=n3.note.2:=hgo.trans (if_neg (by rw[h75];simp));refine gc 1 ?_;refine kendv0 results117 (L1:=nodL F V77 (n3.note.2)++R) zge ?_;rw[hset,hgo2];exact⟨_,⟨V77,rfl,vk77,rfl⟩,rfl⟩
 clear hK3;refine gc 8 ?_;refine ysp 19 rfl (fun h85=>?_) (fun h85=>?_)
 ·have hro:n.role=2:=h85;refine gy 5 ?_;refine ygo ?_;refine ycall (nLeft ?sov91 ?sn91) rfl call124 ztk rfl ?_
  case sov91=>exact hV.si
  case sn91=>have:=hn.s.n;omega
  rintro v L' ⟨s25,rfl,ok25,rfl⟩;refine ygo ?_;refine y (ev_lenSv rfl underlying168 (by assumption)) rfl ?_;refine gy 4 ?_;refine cc rfl (fun h95=>?_) (fun h95=>?_)
  ·rw[←hn1,set2_yes hro h95]at hn2;refine gc 2 ?_;refine yci (nLeads (V:={V with out:=o1,sw:=sw1}) (n:={setM n (o1,l1,t1)with waits:=ks})) call180 ?_;refine gy 2 ?_;subst hn2;exact ksub zsub zge (hJr4 () trivial)
  have hnn: ¬(n.role=2∧(n.s.l.length:Int)=0):=fun hh=>h95 hh.2
  rw[←hn1,set2_no hnn]at hn2;refine gc 2 ?_;subst hn2;exact ksub zsub zge (hJr4 () trivial)
 have hnn: ¬(n.role=2∧(n.s.l.length:Int)=0):=fun hh=>h85 hh.1
 rw[←hn1,set2_no hnn]at hn2;refine gy 14 ?_;subst hn2;exact ksub zsub zge (hJr4 () trivial)
theorem nReady [Env]{R:List Seg}{F:NF}{V:NV}{n:NodM}(hn:n.ok 970000)(hV:NVok V n):
   Con Tryz.prog 119 [ptr F.p] (nodL F V n) R (KN F n.ready (.tuple #[])):=by
 have hok1:n.readyQ.ok 970000:=hn.setQ (rs:=2) (q:=0) (by decide) (by decide);have hok2:=hok1.again;have hok3:=hok2.note;have hV1:NVok V n.readyQ:=⟨hV.out,hV.sw,hV.si,hV.sl⟩;refine con_enter func119 ntmps119 rfl rfl ?_;unfold nodL ndC;refine gc 6 ?_;refine yst (ac_store rfl rfl (by rfl) sizeOf3 zrp rfl rfl) ?_;refine gy 3 ?_;refine yst (ac_store rfl rfl (by rfl) sizeOf2 zrp rfl rfl) ?_;refine gy 4 ?_;refine ycall (nAgain (V:=V) (n:=n.readyQ) ?nok12 ?vok12) rfl call168 ztk rfl ?_
 case nok12=>exact hok1.le (by decide)
 case vok12=>exact hV1
 rintro v L' ⟨V11,rfl,vk11,rfl⟩;refine gy 1 ?_;refine ysp 12 rfl (fun h14=>?_) (fun h14=>?_)
 ·have hr1:n.ready=NodM.andThen n.readyQ.again.2.note NodM.puts:=if_pos h14;refine gy 1 ?_;refine ygo ?_;refine ycall (nNote (V:=V11) (n:=n.readyQ.again.2) ?nok16 ?vok16) rfl call170 ztk rfl ?_
  case nok16=>exact hok2.le (by decide)
  case vok16=>exact vk11
  rintro v L' ⟨V14,rfl,vk14,rfl⟩;refine gy 3 ?_;refine cc rfl (fun h18=>?_) (fun h18=>?_)
  ·have hr2:n.ready=n.readyQ.again.2.note.2.puts:=hr1.trans (if_pos h18);refine gc 1 ?_;obtain⟨l9,hpu⟩:=puts_shape n.readyQ.again.2.note.2;refine gy 1 ?_;refine ycall (nPuts (V:=V14) (n:=n.readyQ.again.2.note.2) ?ni20 ?ook20 ?ol20 ?sov20 ?sn20) rfl call125 ztk rfl ?_
   case ni20=>exact hok3.a.id
   case ook20=>exact vk14.out
   case ol20=>have:=hok3.out;omega
   case sov20=>exact vk14.si
   case sn20=>have:=hok3.s.n;omega
   rintro v L' ⟨o17,rfl,oko17,rfl⟩;rw[hpu]at oko17 ⊢;refine gy 1 ?_;refine kendv0 results119 (L1:=nodL F {V14 with out:=o17} (wout n.readyQ.again.2.note.2 l9)++R) zge ?_;rw[hr2,hpu];exact⟨_,⟨{V14 with out:=o17},rfl,⟨oko17,vk14.sw,vk14.si,vk14.sl⟩,rfl⟩,rfl⟩
  have hr2:n.ready=n.readyQ.again.2.note.2:=hr1.trans (if_neg (by rw[h18];simp));refine gc 1 ?_;refine kendv0 results119 (L1:=nodL F V14 n.readyQ.again.2.note.2++R) zge ?_;rw[hr2];exact⟨_,⟨V14,rfl,vk14,rfl⟩,rfl⟩
 have hr1:n.ready=n.readyQ.again.2:=if_neg (by rw[h14];simp);refine gy 7 ?_;refine kendv0 results119 (L1:=nodL F V11 n.readyQ.again.2++R) zge ?_;rw[hr1];exact⟨_,⟨V11,rfl,vk11,rfl⟩,rfl⟩
theorem nTired [Env]{R:List Seg}{F:NF}{V:NV}{n:NodM}(hn:n.ok 970000)(hV:NVok V n):
   Con Tryz.prog 126 [ptr F.p] (nodL F V n) R (KN F n.tired (.tuple #[])):=by
 have hok1:=hn.quiet0;have hown:=NodM.own_in hok1;refine con_enter func126 ntmps126 rfl rfl ?_;unfold nodL ndC;refine gc 5 ?_;refine yst (ac_store rfl rfl (by rfl) sizeOf2 zrp rfl rfl) ?_;refine gy 5 ?_;refine yci (nAlone (V:=V) (n:=n.quiet0)) call118 ?_;unfold ndC;refine gy 2 ?_;refine ysp 9 rfl (fun h31=>?_) (fun h31=>?_)
 ·refine gy 11 ?_;have htr:n.tired=n.quiet0.changes n.quiet0.own:=if_pos (by exact .inl (by simpa using ‹_›));obtain⟨c9,w9,l9,hch⟩:=changes_shape n.quiet0 n.quiet0.own;refine gy 2 ?_;refine yci (nOwn (V:=V) (n:=n.quiet0) ?ni35) call163 ?_
  case ni35=>exact hn.a.id
  refine ycall (nChanges (V:=V) (n:=n.quiet0) (mk:=n.quiet0.own) ?cc36 ?ook36 ?ol36) rfl call127 ztk rfl ?_
  case cc36=>have:=hok1.n.change;omega
  case ook36=>exact hV.out
  case ol36=>have:=hn.out;show n.out.length≤1000000;omega
  rintro v L' ⟨o20,rfl,oko20,rfl⟩;rw[hch]at oko20 ⊢;refine gy 4 ?_;refine kretv0 results126 (L1:=nodL F {V with out:=o20} {n.quiet0 with change:=c9,want:=w9,out:=l9}++R) zge ?_;rw[htr,hch];exact⟨_,⟨{V with out:=o20},rfl,⟨oko20,hV.sw,hV.si,hV.sl⟩,rfl⟩,rfl⟩
 refine gy 9 ?_;refine cc rfl (fun h44=>?_) (fun h44=>?_)
 ·refine gc 1 ?_;have htr:n.tired=n.quiet0.changes n.quiet0.own:=if_pos (by exact .inr ‹_›);obtain⟨c9,w9,l9,hch⟩:=changes_shape n.quiet0 n.quiet0.own;refine gy 2 ?_;refine yci (nOwn (V:=V) (n:=n.quiet0) ?ni47) call163 ?_
  case ni47=>exact hn.a.id
  refine ycall (nChanges (V:=V) (n:=n.quiet0) (mk:=n.quiet0.own) ?cc48 ?ook48 ?ol48) rfl call127 ztk rfl ?_
  case cc48=>have:=hok1.n.change;omega
  case ook48=>exact hV.out
  case ol48=>have:=hn.out;show n.out.length≤1000000;omega
  rintro v L' ⟨o20,rfl,oko20,rfl⟩;rw[hch]at oko20 ⊢;refine gy 4 ?_;refine kretv0 results126 (L1:=nodL F {V with out:=o20} {n.quiet0 with change:=c9,want:=w9,out:=l9}++R) zge ?_;rw[htr,hch];exact⟨_,⟨{V with out:=o20},rfl,⟨oko20,hV.sw,hV.si,hV.sl⟩,rfl⟩,rfl⟩
 refine gc 3 ?_;have htr:n.tired=n.quiet0.tiredS.settle:=if_neg (by rintro(h|h)<;>simp_all);refine gy 4 ?_;refine yst (ac_store rfl rfl (by rfl) sizeOf3 zrp rfl rfl) ?_;refine gy 9 ?_;refine yci (nLast ?sok60 ?sov60) call51 ?_
 case sok60=>exact hn.s.fit (by decide)
 case sov60=>exact hV.si
 refine ycall (nSNew) rfl call74 ztk rfl ?_;rintro v L' ⟨p32,rfl,rfl⟩;refine gy 3 ?_;refine yst (ac_store rfl rfl (by rfl) sizeOf102 zrp rfl rfl) ?_;refine gy 4 ?_;refine ycall (nSettle (V:={V with ps:=p32,si:=none}) (n:=n.quiet0.tiredS) ?nok67 ?vok67) rfl call117 ztk rfl ?_
 case nok67=>exact hok1.tiredS.le (by decide)
 case vok67=>exact⟨hV.out,hV.sw,⟨rfl,rfl⟩,hV.sl⟩
 rintro v L' ⟨V37,rfl,vk37,rfl⟩;refine gy 1 ?_;refine kendv0 results126 (L1:=nodL F V37 n.quiet0.tiredS.settle++R) zge ?_;rw[htr];exact⟨_,⟨V37,rfl,vk37,rfl⟩,rfl⟩
theorem nAlones [Env]{R:List Seg}{F:NF}{V:NV}{n:NodM}(hn:n.ok 970000)(hV:NVok V n):
   Con Tryz.prog 164 [ptr F.p] (nodL F V n) R (KN F n.alones (.tuple #[])):=by
 have hok1:=hn.marks;refine con_enter func164 ntmps164 rfl rfl ?_;refine gc 3 ?_;refine ycall (nMarks ?nok2 ?vok2) rfl call167 ztk rfl ?_
 case nok2=>exact hn.le (by decide)
 case vok2=>exact hV
 rintro v L' ⟨V3,rfl,vk3,rfl⟩;obtain⟨n1,hn1⟩: ∃z,n.marks.2=z:=⟨_,rfl⟩;rw[hn1]at hok1 vk3 ⊢;unfold nodL ndC;refine gy 3 ?_;refine cc rfl (fun h4=>?_) (fun h4=>?_)
 ·have hal:n.alones=n1:=(if_neg (by simpa using h4)).trans hn1;refine gc 2 ?_;refine kretv0 results164 (L1:=nodL F V3 n1++R) zge ?_;rw[hal];exact⟨_,⟨V3,rfl,vk3,rfl⟩,rfl⟩
 have hal:n.alones=n1.aloneS.alones1.stores.settle:=by rw[←hn1];exact if_pos (by simpa using h4)
 obtain⟨n3,hn3⟩: ∃z,n1.aloneS.alones1=z:=⟨_,rfl⟩;have hok2:n1.aloneS.ok 970000:=hok1.setS (.new _ _);have hok3:n3.ok 970000:=hn3▸hok2.alones1;rw[hn3]at hal;refine gc 9 ?_;refine yci (nLast ?sok11 ?sov11) call51 ?_
 case sok11=>exact hok1.s.fit (by decide)
 case sov11=>exact vk3.si
 refine ycall (nSNew) rfl call74 ztk rfl ?_;rintro v L' ⟨p12,rfl,rfl⟩;refine gy 2 ?_;have hV3:NVok {V3 with ps:=p12,si:=none} n3:=by rw[←hn3];unfold NodM.alones1;split<;>exact⟨vk3.out,vk3.sw,⟨rfl,rfl⟩,vk3.sl⟩
 refine gy 1 ?_;refine yst (ac_store rfl rfl (by rfl) sizeOf102 zrp rfl rfl) ?_;refine gy 2 ?_;refine cseqT ?_;intro K4 hK4
 have hJr4: ∀x:Unit,(True)→Sk 28 K4 ([(0,ptr F.p)]) (nodL F {V3 with ps:=p12,si:=none} n3++R):=by
  rintro x hIr4;refine hK4 _ _ ?_;refine gc 2 ?_;refine ycall (nStores (V:={V3 with ps:=p12,si:=none}) (n:=n3) ?nok18 ?vok18) rfl call116 ztk rfl ?_
  case nok18=>exact hok3.le (by decide)
  case vok18=>exact hV3
  rintro v L' ⟨V25,rfl,vk25,rfl⟩;refine gy 4 ?_;refine ycall (nSettle (V:=V25) (n:=n3.stores) ?nok20 ?vok20) rfl call117 ztk rfl ?_
  case nok20=>exact hok3.stores.le (by decide)
  case vok20=>exact vk25
  rintro v L' ⟨V27,rfl,vk27,rfl⟩;refine gy 1 ?_;refine kendv0 results164 (L1:=nodL F V27 n3.stores.settle++R) zge ?_;rw[hal];exact⟨_,⟨V27,rfl,vk27,rfl⟩,rfl⟩
 clear hK4;refine gc 9 ?_;refine cc rfl (fun h27=>?_) (fun h27=>?_)
 ·rw[show n1.aloneS.alones1=n1.aloneS.leads from if_pos h27]at hn3;refine gc 2 ?_;refine yci (nLeads (V:={V3 with ps:=p12,si:=none}) (n:=n1.aloneS)) call180 ?_;refine gy 2 ?_;subst hn3;exact ksub zsub zge (hJr4 () trivial)
 rw[show n1.aloneS.alones1=n1.aloneS from if_neg h27]at hn3;refine gc 2 ?_;subst hn3;exact ksub zsub zge (hJr4 () trivial)
theorem nChanged [Env]{R:List Seg}{F:NF}{V:NV}{n:NodM}{mk:Int}(hn:n.ok 970000)(hV:NVok V n)(hm:N62 mk):
   Con Tryz.prog 107 [ptr F.p,i64 mk] (nodL F V n) R (KN F (n.changed mk) (.tuple #[])):=by
 have hch:n.changed mk=(n.changedM mk).changed1 mk:=rfl;have hok1:(n.changedM mk).ok 970000:=hn.changedM hm;have hV1:NVok V (n.changedM mk):=⟨hV.out,hV.sw,hV.si,hV.sl⟩;obtain⟨r,hR⟩: ∃z,(n.changedM mk).dr.clear (n.changedM mk).d=z:=⟨_,rfl⟩;have hok2:(((n.changedM mk).dDid r).err r.1).ok 970000:=by rw[←hR];exact hok1.clearD
 refine con_enter func107 ntmps107 rfl rfl ?_;unfold nodL ndC;refine gc 9 ?_;refine yst (ac_store rfl rfl (by rfl) sizeOf3 zrp rfl rfl) ?_;refine gy 3 ?_;refine yst (ac_store rfl rfl (by rfl) sizeOf3 zrp rfl rfl) ?_;refine gy 3 ?_;refine yst (ac_store rfl rfl (by rfl) sizeOf2 zrp rfl rfl) ?_;refine gy 2 ?_;refine yst (ac_store rfl rfl (by rfl) sizeOf3 zrp rfl rfl) ?_;refine gy 12 ?_;refine cc rfl (fun h53=>?_) (fun h53=>?_)
 ·have hc1:n.changed mk=NodM.andThen ((n.changedM mk).dOk r) NodM.settle:=hch.trans ((if_pos h53).trans (by rw[hR]));refine gc 6 ?_;refine yci (dClear (L:=(n.changedM mk).dr) (D:=(n.changedM mk).d) ?dl59) call162 ?_
  case dl59=>exact hok1.p.dr
  rw[hR];refine yci (nOk (V:=V) (n:=(n.changedM mk).dDid r)) call121 ?_;refine gy 2 ?_;refine cc rfl (fun h61=>?_) (fun h61=>?_)
  ·have hc2:n.changed mk=(((n.changedM mk).dDid r).err r.1).settle:=hc1.trans (if_pos (decide_eq_true h61));refine gc 2 ?_;refine ycall (nSettle (V:=V) (n:=((n.changedM mk).dDid r).err r.1) ?nok63 ?vok63) rfl call117 ztk rfl ?_
   case nok63=>exact hok2.le (by decide)
   case vok63=>exact⟨hV1.out,hV1.sw,hV1.si,hV1.sl⟩
   rintro v L' ⟨V33,rfl,vk33,rfl⟩;refine gy 2 ?_;refine kendv0 results107 (L1:=nodL F V33 (((n.changedM mk).dDid r).err r.1).settle++R) zge ?_;rw[hc2];exact⟨_,⟨V33,rfl,vk33,rfl⟩,rfl⟩
  have hc2:n.changed mk=((n.changedM mk).dDid r).err r.1:=hc1.trans (if_neg (by show¬decide (r.1=0)=true;simpa using h61));refine gc 2 ?_;refine kendv0 results107 (L1:=nodL F V (((n.changedM mk).dDid r).err r.1)++R) zge ?_;rw[hc2];exact⟨_,⟨V,rfl,⟨hV1.out,hV1.sw,hV1.si,hV1.sl⟩,rfl⟩,rfl⟩
 have h3: ¬mk=3:=h53;refine gc 2 ?_;refine yci (nOwn (V:=V) (n:=(n.changedM mk)) ?ni65) call163 ?_
 case ni65=>exact hn.a.id
 refine gy 4 ?_;refine cc rfl (fun h68=>?_) (fun h68=>?_)
 ·have hc2:n.changed mk=(n.changedM mk).alones:=hch.trans ((if_neg h3).trans (if_pos h68));refine gc 2 ?_;refine ycall (nAlones (V:=V) (n:=n.changedM mk) ?nok70 ?vok70) rfl call164 ztk rfl ?_
  case nok70=>exact hok1
  case vok70=>exact hV1
  rintro v L' ⟨V39,rfl,vk39,rfl⟩;refine gy 2 ?_;refine kendv0 results107 (L1:=nodL F V39 (n.changedM mk).alones++R) zge ?_;rw[hc2];exact⟨_,⟨V39,rfl,vk39,rfl⟩,rfl⟩
 have hc2:n.changed mk=(n.changedM mk).demote:=hch.trans ((if_neg h3).trans (if_neg h68));refine gc 2 ?_;refine ycall (nDemote (V:=V) (n:=n.changedM mk)) rfl call106 ztk rfl ?_;rintro v L' ⟨p22,rfl,rfl⟩;refine gy 2 ?_;refine kendv0 results107 (L1:=nodL F (V.bare p22) (n.changedM mk).demote++R) zge ?_;rw[hc2];exact⟨_,⟨V.bare p22,rfl,⟨hV1.out,⟨rfl,rfl⟩,⟨rfl,rfl⟩,hV1.sl⟩,rfl⟩,rfl⟩
theorem nRefused [Env]{R:List Seg}{F:NF}{V:NV}{n:NodM}{m:MsgM}:Con Tryz.prog 97 [ptr F.p,.agg m.cells.toArray] [ndC F V n] R (Is (i64 (n.refused m)) [ndC F V n]):=by
 refine con_enter func97 ntmps97 rfl rfl ?_;unfold ndC;refine gc 1 ?_;refine ya (ac_box (vs:=m.cells) rfl rfl) rfl ?_;rintro v L' ⟨b3,rfl,rfl⟩;refine gy 15 ?_;refine cc rfl (fun h10=>?_) (fun h10=>?_)
 ·refine gc 7 ?_;refine kretv results97 rfl (L1:=[sc F.p _ 106]++R) zge ?_;refine⟨_,⟨?_,rfl⟩,rfl⟩;unfold NodM.refused;(repeat' split)<;>rfl
 refine gc 4 ?_;refine yci (nTOn (V:=V) (n:=n)) call150 ?_;refine gy 4 ?_;refine cc rfl (fun h18=>?_) (fun h18=>?_)
 ·refine gc 7 ?_;refine kretv results97 rfl (L1:=[sc F.p _ 106]++R) zge ?_;refine⟨_,⟨?_,rfl⟩,rfl⟩;unfold NodM.refused;(repeat' split)<;>first|rfl|(exfalso;omega)
 refine gc 3 ?_;refine yci (nWithin) call41 ?_;refine gy 4 ?_;refine cc rfl (fun h25=>?_) (fun h25=>?_)
 ·have hsq:m.seq<1∨4<m.seq:=by
    have:=h25;unfold within3 at this;simp at this;omega
  refine gc 7 ?_;refine kretv results97 rfl (L1:=[sc F.p _ 106]++R) zge ?_;refine⟨_,⟨?_,rfl⟩,rfl⟩;unfold NodM.refused;(repeat' split)<;>first|rfl|(exfalso;omega)
 have hsq: ¬(m.seq<1∨4<m.seq):=by
   have:=within3_iff.1 (by simpa using h25:within3 m.seq 1 4=true);omega
 refine gc 1 ?_;refine cdraw 17 (od [] 17 0) (_) Tryz.mixed (by kernel_rfl) .refl ?_;unfold ndC;refine gh 4 ?_;refine hsp 27 rfl (fun h31=>?_) (fun h31=>?_)
 ·refine gh 4 ?_;refine hsp 31 rfl (fun h36=>?_) (fun h36=>?_)
  ·refine gh 21 ?_;refine kretv results97 rfl (L1:=[sc F.p _ 106]++R) zge ?_;refine⟨_,⟨?_,rfl⟩,rfl⟩;unfold NodM.refused;(repeat' split)<;>first|rfl|(exfalso;omega)
  refine gh 13 ?_;refine cc rfl (fun h51=>?_) (fun h51=>?_)
  ·refine gc 7 ?_;refine kretv results97 rfl (L1:=[sc F.p _ 106]++R) zge ?_;refine⟨_,⟨?_,rfl⟩,rfl⟩;unfold NodM.refused;(repeat' split)<;>first|rfl|(exfalso;omega)
  refine gc 5 ?_;refine ysp 45 rfl (fun h57=>?_) (fun h57=>?_)
  ·refine gy 2 ?_;refine ygo ?_;refine y (ev_lenStr rfl underlying9) rfl ?_;refine gy 5 ?_;refine cc rfl (fun h64=>?_) (fun h64=>?_)
   ·refine gc 7 ?_;refine kretv results97 rfl (L1:=[sc F.p _ 106]++R) zge ?_;refine⟨_,⟨?_,rfl⟩,rfl⟩;unfold NodM.refused;(repeat' split)<;>first|rfl|(exfalso;omega)
   refine gc 8 ?_;refine kretv results97 rfl (L1:=[sc F.p _ 106]++R) zge ?_;refine⟨_,⟨?_,rfl⟩,rfl⟩;unfold NodM.refused;(repeat' split)<;>first|rfl|(exfalso;omega)
  refine gy 17 ?_;refine kretv results97 rfl (L1:=[sc F.p _ 106]++R) zge ?_;refine⟨_,⟨?_,rfl⟩,rfl⟩;unfold NodM.refused;(repeat' split)<;>first|rfl|(exfalso;omega)
 refine gh 23 ?_;refine ysp 45 rfl (fun h76=>?_) (fun h76=>?_)
 ·refine gy 2 ?_;refine ygo ?_;refine y (ev_lenStr rfl underlying9) rfl ?_;refine gy 5 ?_;refine cc rfl (fun h83=>?_) (fun h83=>?_)
  ·refine gc 7 ?_;exfalso;omega
  refine gc 8 ?_;exfalso;omega
 refine gy 17 ?_;refine kretv results97 rfl (L1:=[sc F.p _ 106]++R) zge ?_;refine⟨_,⟨?_,rfl⟩,rfl⟩;unfold NodM.refused;(repeat' split)<;>first|rfl|(exfalso;omega)
end W
end Go.Proofs