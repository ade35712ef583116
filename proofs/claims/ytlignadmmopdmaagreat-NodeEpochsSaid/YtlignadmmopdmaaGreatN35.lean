/- A part of the proof. -/
import Derived.Test.YtlignadmmopdmaaGreatUn
import Derived.Test.YtlignadmmopdmaaGreatN31
set_option linter.unusedVariables false
set_option linter.unusedSimpArgs false
set_option linter.constructorNameAsVariable false
namespace Go.Proofs
open _root_.Go.Proofs.Tryz
open Go Go.Sl
namespace W
set_option maxHeartbeats 4000000
theorem PQ [Env]{R:List ax}{x w:ar}{p:Nat}{S:ax}:bC Tryz.prog 96 [I4 x,ptr p] [sc p w.cells 177] R (Is (.bool (decide (x.cl=w.cl)&&decide (x.n=w.n))) [sc p w.cells 177]):=by
 refine ag func96 ntmps96 rfl rfl ?_;refine gc 1 ?_;refine ya (a7 (vs:=x.cells) rfl rfl) rfl ?_;rintro v L' ⟨b2,rfl,rfl⟩;refine gy 10 ?_;refine cv 9 rfl (fun h9=>?_) (fun h9=>?_)
 ·refine gy 10 ?_;refine aj results96 rfl (L1:=[sc p w.cells _]++R) ae ?_;exact⟨_,⟨by simp_all,rfl⟩,by rfl⟩
 refine gy 10 ?_;refine aj results96 rfl (L1:=[sc p w.cells _]++R) ae ?_;exact⟨_,⟨by simp_all,rfl⟩,by rfl⟩
theorem BI{n:aa}{fr:Int}{m:aM}(h: ¬m.kind=14∨m.n<1∨(n.waits.any fun x=>decide (x.cl=(aa.mh fr m).cl)&&decide (x.n=(aa.mh fr m).n))=true):n.called fr m=n:=if_pos h
theorem aeu{n:aa}{fr:Int}{m:aM}(h1:m.kind=14)(h2: ¬m.n<1)(h3:(n.waits.any fun x=>decide (x.cl=(aa.mh fr m).cl)&&decide (x.n=(aa.mh fr m).n))=false):
   n.called fr m=match n.gX (aa.mh fr m) m with|none=>n|some e=>if e= -1 then n.g4 (aa.mh fr m)else n.kh (aa.mh fr m) e m.data:=by
 unfold aa.called;refine if_neg ?_;rintro(h|h|h)
 · exact h h1
 · exact h2 h
 rw[h3]at h;cases h
theorem FA(n:aa)(m:aM):0≤n.refused m:=by unfold aa.refused;(repeat' split)<;>decide
theorem DG{n:aa}{w:ar}{m:aM}(h: ¬(n.refused m=0∧(w.op=2∨w.op=3))):n.gX w m=some (n.refused m):=by unfold aa.gX;dsimp only;rw[if_neg h]
theorem aev{n:aa}{w:ar}{m:aM}(h:n.refused m=0∧(w.op=2∨w.op=3)):n.gX w m=if m.n<fH n.c.k w.cl then none else if m.n=fH n.c.k w.cl then some (-1)else if(n.ew m.block).isSome=true then some 25 else some 0:=by unfold aa.gX;dsimp only;rw[if_pos h]
theorem UK [Env]{R:List ax}{F:NF}{V:NV}{n:aa}{m:aM}{fr:Int}(hn:n.ok 970000)(hV:ct V n)(hm:m.ok)(hf:4≤fr∧fr≤7):
   bC Tryz.prog 60 [ptr F.p,i64 fr,.agg m.cells.toArray] (ao F V n) R (KN F (n.called fr m) (.tuple #[])):=by
 have aug:=hm.seq;have hmn:=hm.n;have hmb:=hm.block;have zE:=hn.w.n;have WA:=hn.out;have aps:(if(4:Int)<m.seq then 4 else m.seq)=min m.seq 4:=by split<;>omega
 obtain⟨w,hw⟩: ∃z,aa.mh fr m=z:=⟨_,rfl⟩;have Ch:w=⟨fr- 4,m.n,min m.seq 4,m.block,0,false,0⟩:=hw▸rfl;have aul:w.cl=fr- 4:=by rw[Ch]
 have aum:w.op=min m.seq 4:=by rw[Ch]
 have ZR:w.n=m.n:=by rw[Ch]
 obtain⟨wp,l7⟩: ∃z,aa.bY n.waits m.block=z:=⟨_,rfl⟩;have ZF:cE [iK V n] (aG V.sw n.waits.length) n.waits.length (a6 n.waits):=bG .z hV.sw;have ZG:=FA n m;refine ag func60 ntmps60 rfl rfl ?_;unfold ao bB;refine gc 1 ?_;refine ya (a7 (vs:=m.cells) rfl rfl) rfl ?_;rintro v L' ⟨b5,rfl,rfl⟩;refine gy 5 ?_;rw[wr (by omega) (by omega)];refine gy 4 ?_;refine y (xF rfl rfl) rfl ?_;rw[aps];refine gy 2 ?_;refine y (cA (ar.cells ⟨fr- 4,m.n,min m.seq 4,m.block,0,false,0⟩)) rfl ?_;refine ya (aB zeroValue177 rfl) rfl ?_;rintro v L' ⟨b6,rfl,rfl⟩;refine bA (ai rfl rfl (cY _) sizeOf177 bc rfl rfl) ?_;rw[←Ch];refine gy 8 ?_;refine cv 22 rfl (fun TD=>?_) (fun TD=>?_)
 ·have qd:n.called fr m=n:=BI (.inl (by simpa using TD));refine gy 18 ?_;refine bj results60 (L1:=ao F V n++R) ae ?_;rw[qd];exact⟨_,⟨V,rfl,hV,rfl⟩,rfl⟩
 have ape:m.kind=14:=by simpa using TD
 refine gy 5 ?_;refine cv 27 rfl (fun De=>?_) (fun De=>?_)
 ·have qd:n.called fr m=n:=BI (.inr (.inl (by simpa using De)));refine gy 13 ?_;refine bj results60 (L1:=ao F V n++R) ae ?_;rw[qd];exact⟨_,⟨V,rfl,hV,rfl⟩,rfl⟩
 have mo: ¬m.n<1:=by simpa using De
 refine gy 5 ?_;refine bV ?_
 refine y (lE (vs:= #[ptr b6]) (fun a hf=>by
     have h1:a.eval (.tmp 6)=ptr b6:=hf.ev rfl;simp[h1])) rfl ?_
 refine bV ?_;refine bK (J0 (ws:=n.waits) (Ps:=[sc b6 w.cells 177]) (cs:= #[ptr b6]) (p:=fun x=>decide (x.cl=w.cl)&&decide (x.n=w.n)) ?agK (by omega) call96 (fun R x=>PQ (S:=sc b6 w.cells 177))) call95 ?_
 case agK=>exact ZF.mono ae
 refine gy 3 ?_;refine cc rfl (fun Gc=>?_) (fun Gc=>?_)
 ·have qd:n.called fr m=n:=BI (.inr (.inr (by rw[hw];exact Gc)));refine gc 2 ?_;refine bj results60 (L1:=ao F V n++R) ae ?_;rw[qd];exact⟨_,⟨V,rfl,hV,rfl⟩,rfl⟩
 have ru:=aeu ape mo (by rw[hw];simpa using Gc);rw[hw]at ru;refine gc 4 ?_;refine y (ak rfl isAgg34 sizeOf34 aL (by rfl)) rfl ?_;refine bK (P2 (V:=V) (n:=n) (m:=m)) call97 ?_;refine gy 3 ?_;refine bq ?_;intro K6 ma
 have ng: ∀x:Int,(n.called fr m=n.kh w x m.data∧(x=0→n.refused m=0))→Sk 151 K6 ([(0,ptr F.p),(5,ptr b5),(6,ptr b6),(7,i64 x)]) (sc b5 m.cells 34::sc b6 w.cells 177::ao F V n++R):=by
  rintro e Ju;refine ma _ _ ?_;obtain⟨OU,tX⟩:=Ju;unfold ao bB;refine bq ?_;intro K7 Jx
  have OK: ∀x:Int,((¬x=0→n.called fr m=n.answer w x [])∧(x=0→n.called fr m=n.ki w m.data∧n.waits.length<16∧n.refused m=0))→Sk 151 K7 ([(0,ptr F.p),(5,ptr b5),(6,ptr b6),(7,i64 x)]) (sc b5 m.cells 34::sc b6 w.cells 177::ao F V n++R):=by
   rintro e2 afD;refine Jx _ _ ?_;obtain⟨SK,hx2⟩:=afD;unfold ao bB;refine gc 7 ?_;refine cc rfl (fun Hl=>?_) (fun Hl=>?_)
   ·refine gc 1 ?_;have qd:=SK (by assumption);refine gy 1 ?_;refine y (ak rfl isAgg177 sizeOf177 aL (by rfl)) rfl ?_;refine gy 1 ?_;refine aA (gF (V:=V) (n:=n) (w:=w) (e:=e2) (data:=[]) ?aq7 ?akt ?arA) rfl call101 aZ rfl ?_
    case aq7=>omega
    case akt=>exact hV.out
    case arA=>omega
    rintro v L' ⟨o99,rfl,ajD,rfl⟩;refine gy 2 ?_;refine aN results60 (L1:=ao F {V with out:=o99} (n.answer w e2 [])++R) ae ?_;rw[qd];exact⟨_,⟨{V with out:=o99},rfl,⟨ajD,hV.sw,hV.si,hV.sl⟩,rfl⟩,rfl⟩
   refine gc 1 ?_;obtain⟨xU,Lw,EK⟩:=hx2 (by omega);obtain⟨fg,hs4,hsd⟩:=aa.tE EK;have wz:w.ok 970000:=by rw[Ch];exact⟨by dsimp only;omega,by dsimp only;omega,by dsimp only;omega,hmb,aa.wE,aa.zk _⟩
   unfold aa.ki at xU;refine gy 6 ?_;refine cc rfl (fun h72=>?_) (fun h72=>?_)
   ·rw[if_pos h72]at xU;refine gc 1 ?_;refine aS 12 (od [7,8] 12 0) ([sc b6 _ 177,sc F.p _ 106]++R) Tryz.mixed (by kernel_rfl) ae ?_;refine gh 6 ?_;refine hr rfl (ak rfl isAgg177 sizeOf177 aL (by rfl)) rfl ?_;refine ha rfl (aE rfl underlying101 sizeOf177 zeroValue177 rfl rfl rfl rfl ⟨⟨_,_,rfl,(by rfl),(by decide)⟩,trivial⟩ (by dsimp[bt,aX,aY,bS]<;>rfl)) rfl ?_;rintro v L' ⟨atU,rfl,rfl⟩;refine⟨ae,?_⟩;refine ha rfl (aO (s:=V.sw) (xs:=a6 n.waits) (m:=n.waits.length) (k:=1) (us:=w.cells) (size:=7) rfl rfl (by repeat first|exact .z|apply Pk.s) underlying101 underlying101 (by intro q hq;cases hq) typeInfo177 rfl rfl rfl ?aa5 ?alR ?aj9 ?ad9) rfl ?_
    case aa5=>exact hV.sw
    case alR=>exact cz aL rfl rfl
    case aj9=>exact cY _
    case ad9=>show(_+_)*57≤_;omega
    rintro v L' ⟨asK,rfl,WY,rfl⟩;refine⟨ae,?_⟩;rw[←cJ,show n.waits.length+1=(n.waits++[w]).length by simp]at WY ⊢;refine gh 4 ?_;refine bA (an rfl rfl (by exact bN _ _) sizeOf101 bc rfl rfl) ?_;refine gy 4 ?_;refine aA (yx (V:={V with sw:=asK}) (n:=n.l8 w) ?Qr ?R6) rfl call102 aZ rfl ?_
    case Qr=>exact(hn.l8 wz Lw).le (by decide)
    case R6=>exact⟨hV.out,WY,hV.si,hV.sl⟩
    rintro v L' ⟨adM,rfl,amc,rfl⟩;refine gy 2 ?_;refine aN results60 (L1:=ao F adM (n.l8 w).reads++R) ae ?_;rw[xU];exact⟨_,⟨adM,rfl,amc,rfl⟩,rfl⟩
   rw[if_neg h72]at xU;refine gc 7 ?_;refine cc rfl (fun TJ=>?_) (fun TJ=>?_)
   ·rw[if_pos TJ]at xU;refine gc 6 ?_;refine bK (nu ?alo ?alE) call51 ?_
    case alo=>exact hn.s.fit (by decide)
    case alE=>exact hV.si
    refine gy 1 ?_;refine bA (an rfl rfl (by rfl) sizeOf2 bc rfl rfl) ?_;refine gy 3 ?_;refine aS 12 (od [7,8] 12 0) ([sc b6 _ 177,sc F.p _ 106]++R) Tryz.mixed (by kernel_rfl) ae ?_;let w4:ar:={w with seq:=n.s.last};have hac:=hn.s.dV;have EF:=hn.s.last;have T0:n.s.last=n.s.dV+n.s.l.length:=rfl;unfold gg at hac;have hw4:w4.ok 970000:=⟨wz.cl,wz.n,wz.op,wz.bE,⟨by show 0≤n.s.last;omega,EF⟩,wz.load⟩;refine gh 6 ?_;refine hr rfl (ak rfl isAgg177 sizeOf177 aL (by rfl)) rfl ?_;refine ha rfl (aE rfl underlying101 sizeOf177 zeroValue177 rfl rfl rfl rfl ⟨⟨_,_,rfl,(by rfl),(by decide)⟩,trivial⟩ (by dsimp[bt,aX,aY,bS]<;>rfl)) rfl ?_;rintro v L' ⟨atW,rfl,rfl⟩;refine⟨ae,?_⟩;refine ha rfl (aO (s:=V.sw) (xs:=a6 n.waits) (m:=n.waits.length) (k:=1) (us:=w4.cells) (size:=7) rfl rfl (by repeat first|exact .z|apply Pk.s) underlying101 underlying101 (by intro q hq;cases hq) typeInfo177 rfl rfl rfl ?tf ?acz ?abi ?Xv) rfl ?_
    case tf=>exact hV.sw
    case acz=>exact cz aL rfl rfl
    case abi=>exact cY _
    case Xv=>show(_+_)*57≤_;omega
    rintro v L' ⟨asM,rfl,W0,rfl⟩;refine⟨ae,?_⟩;rw[←cJ,show n.waits.length+1=(n.waits++[w4]).length by simp]at W0 ⊢;refine gh 4 ?_;refine bA (an rfl rfl (by exact bN _ _) sizeOf101 bc rfl rfl) ?_;refine gy 4 ?_;refine aA (yx (V:={V with sw:=asM}) (n:=n.l8 w4) ?aaL ?ac7) rfl call102 aZ rfl ?_
    case aaL=>exact(hn.l8 hw4 Lw).le (by decide)
    case ac7=>exact⟨hV.out,W0,hV.si,hV.sl⟩
    rintro v L' ⟨adO,rfl,ame,rfl⟩;refine gy 2 ?_;refine aN results60 (L1:=ao F adO (n.l8 w4).reads++R) ae ?_;rw[xU];exact⟨_,⟨adO,rfl,ame,rfl⟩,rfl⟩
   rw[if_neg TJ]at xU;refine gc 7 ?_;refine cc rfl (fun Hc=>?_) (fun Hc=>?_)
   ·rw[if_pos Hc]at xU;refine gc 2 ?_;refine bA (an rfl rfl (by rfl) sizeOf3 bc rfl rfl) ?_;refine gy 4 ?_;refine y (ak rfl isAgg177 sizeOf177 aL (by rfl)) rfl ?_;refine aA (Qc (V:=V) (n:=n) (w:={w with op:=2}) (data:=yG) ?aaP ?adb ?amS ?amF ?amB) rfl call103 aZ rfl ?_
    case aaP=>exact hn
    case adb=>exact hV
    case amS=>exact⟨wz.cl,wz.n,(by decide:(0:Int)≤2∧(2:Int)≤4),wz.bE,wz.seq,wz.load⟩
    case amF=>exact Lw
    case amB=>rfl
    rintro v L' ⟨adQ,rfl,amf,rfl⟩;refine gy 2 ?_;refine aN results60 (L1:=ao F adQ (n.write {w with op:=2} yG)++R) ae ?_;rw[xU];exact⟨_,⟨adQ,rfl,amf,rfl⟩,rfl⟩
   rw[if_neg Hc]at xU;refine gc 2 ?_;refine y (ak rfl isAgg177 sizeOf177 aL (by rfl)) rfl ?_;refine gy 2 ?_;refine aA (Qc (V:=V) (n:=n) (w:=w) (data:=m.data) ?aaQ ?ade ?amT ?amG ?amC) rfl call103 aZ rfl ?_
   case aaQ=>exact hn
   case ade=>exact hV
   case amT=>exact wz
   case amG=>exact Lw
   case amC=>have TC:=hsd (by omega);omega
   rintro v L' ⟨V92,rfl,ato,rfl⟩;refine gy 2 ?_;refine aN results60 (L1:=ao F V92 (n.write w m.data)++R) ae ?_;rw[xU];exact⟨_,⟨V92,rfl,ato,rfl⟩,rfl⟩
  clear Jx;refine gc 4 ?_;refine cv 79 rfl (fun zM=>?_) (fun zM=>?_)
  ·refine gy 5 ?_;refine bV ?_;refine y (bu rfl underlying101 (cE.bo (by assumption))) rfl ?_;refine gy 4 ?_;refine cc rfl (fun aoe=>?_) (fun aoe=>?_)
   ·refine gc 4 ?_;exact aV aq ae (OK 25 ⟨fun _=>OU.trans (if_pos ⟨by assumption,by omega⟩),fun h=>by cases h⟩)
   refine gc 2 ?_;exact aV aq ae (OK e ⟨fun h=>OU.trans ((if_neg (fun hh=>h hh.1)).trans (if_pos h)),fun h=>⟨OU.trans ((if_neg (fun hh=>by omega)).trans (if_neg (fun hh=>hh h))),by omega,tX h⟩⟩)
  refine gy 13 ?_;exact aV aq ae (OK e ⟨fun h=>OU.trans ((if_neg (fun hh=>h hh.1)).trans (if_pos h)),fun h=>⟨OU.trans ((if_neg (fun hh=>by omega)).trans (if_neg (fun hh=>hh h))),by omega,tX h⟩⟩)
 clear ma;refine gc 4 ?_;refine cv 41 rfl (fun Oo=>?_) (fun Oo=>?_)
 ·have EK:n.refused m=0:=by simpa using Oo
  refine gy 4 ?_;refine cv 45 rfl (fun Yu=>?_) (fun Yu=>?_)
  ·refine gy 9 ?_;refine aS 6 (od [] 6 0) (_) Tryz.mixed (by kernel_rfl) .refl ?_;have zV:=aev (n:=n) (w:=w) (m:=m) ⟨EK,by exact .inl (by assumption)⟩;refine gh 7 ?_;refine bK (sX (C:=n.c) (i:=w.cl)) call98 ?_;refine gy 12 ?_;refine cc rfl (fun Yx=>?_) (fun Yx=>?_)
   ·have qd:n.called fr m=n:=by rw[ru,zV,if_pos Yx]
    refine gc 3 ?_;refine bj results60 (L1:=ao F V n++R) ae ?_;rw[qd];exact⟨_,⟨V,rfl,hV,rfl⟩,rfl⟩
   rw[if_neg Yx]at zV;refine gc 8 ?_;refine cc rfl (fun Yy=>?_) (fun Yy=>?_)
   ·have qd:n.called fr m=n.g4 w:=by rw[ru,zV,if_pos Yy];rfl
    refine gc 2 ?_;refine y (ak rfl isAgg177 sizeOf177 aL (by rfl)) rfl ?_;refine aA (Qb (V:=V) (n:=n) (w:=w) ?aaV ?adj ?al7) rfl call99 aZ rfl ?_
    case aaV=>exact hn.le (by decide)
    case adj=>exact hV
    case al7=>omega
    rintro v L' ⟨V70,rfl,ac1,rfl⟩;refine gy 5 ?_;refine bj results60 (L1:=ao F V70 (n.g4 w)++R) ae ?_;rw[qd];exact⟨_,⟨V70,rfl,ac1,rfl⟩,rfl⟩
   rw[if_neg Yy]at zV;refine gc 4 ?_;refine bK (jF (V:=V) (n:=n) ?adp ?amI) call100 ?_
   case adp=>exact hV.sw
   case amI=>omega
   rw[oB l7];rcases wp with _|i
   ·refine y (dw rfl rfl underlying183) rfl ?_
    (rw[dm l7,if_neg (by simp)]at zV;have Hv:n.gX w m=some 0:=zV)
    refine gy 7 ?_;exact aV aq ae (ng (n.refused m) ⟨by rw[EK,ru,Hv];rfl,fun h=>h⟩)
   refine y (dw rfl rfl underlying183) rfl ?_
   (obtain⟨w9,Uf,-,-⟩:=eR l7;rw[fw l7 Uf,if_pos (by rfl)]at zV;have Hv:n.gX w m=some 25:=zV)
   refine gy 9 ?_;exact aV aq ae (ng 25 ⟨by rw[ru,Hv];rfl,fun h=>by cases h⟩)
  refine gy 7 ?_;refine cc rfl (fun Ow=>?_) (fun Ow=>?_)
  ·refine gc 1 ?_;refine aS 6 (od [] 6 0) (_) Tryz.mixed (by kernel_rfl) .refl ?_;have zV:=aev (n:=n) (w:=w) (m:=m) ⟨EK,by exact .inr (by assumption)⟩;refine gh 7 ?_;refine bK (sX (C:=n.c) (i:=w.cl)) call98 ?_;refine gy 12 ?_;refine cc rfl (fun Oz=>?_) (fun Oz=>?_)
   ·have qd:n.called fr m=n:=by rw[ru,zV,if_pos Oz]
    refine gc 3 ?_;refine bj results60 (L1:=ao F V n++R) ae ?_;rw[qd];exact⟨_,⟨V,rfl,hV,rfl⟩,rfl⟩
   rw[if_neg Oz]at zV;refine gc 8 ?_;refine cc rfl (fun YD=>?_) (fun YD=>?_)
   ·have qd:n.called fr m=n.g4 w:=by rw[ru,zV,if_pos YD];rfl
    refine gc 2 ?_;refine y (ak rfl isAgg177 sizeOf177 aL (by rfl)) rfl ?_;refine aA (Qb (V:=V) (n:=n) (w:=w) ?aaX ?adl ?al8) rfl call99 aZ rfl ?_
    case aaX=>exact hn.le (by decide)
    case adl=>exact hV
    case al8=>omega
    rintro v L' ⟨V70,rfl,ac1,rfl⟩;refine gy 5 ?_;refine bj results60 (L1:=ao F V70 (n.g4 w)++R) ae ?_;rw[qd];exact⟨_,⟨V70,rfl,ac1,rfl⟩,rfl⟩
   rw[if_neg YD]at zV;refine gc 4 ?_;refine bK (jF (V:=V) (n:=n) ?adq ?amJ) call100 ?_
   case adq=>exact hV.sw
   case amJ=>omega
   rw[oB l7];rcases wp with _|i
   ·refine y (dw rfl rfl underlying183) rfl ?_
    (rw[dm l7,if_neg (by simp)]at zV;have Hv:n.gX w m=some 0:=zV)
    refine gy 7 ?_;exact aV aq ae (ng (n.refused m) ⟨by rw[EK,ru,Hv];rfl,fun h=>h⟩)
   refine y (dw rfl rfl underlying183) rfl ?_
   (obtain⟨w9,Uf,-,-⟩:=eR l7;rw[fw l7 Uf,if_pos (by rfl)]at zV;have Hv:n.gX w m=some 25:=zV)
   refine gy 9 ?_;exact aV aq ae (ng 25 ⟨by rw[ru,Hv];rfl,fun h=>by cases h⟩)
  have zV:n.gX w m=some (n.refused m):=DG (fun hh=>by rcases hh.2 with h9|h9<;>contradiction);refine gc 2 ?_;exact aV aq ae (ng (n.refused m) ⟨by rw[ru,zV];exact if_neg (by omega),fun h=>h⟩)
 have zV:n.gX w m=some (n.refused m):=DG (fun hh=>Oo hh.1);refine gy 14 ?_;exact aV aq ae (ng (n.refused m) ⟨by rw[ru,zV];exact if_neg (by omega),fun h=>h⟩)
end W
end Go.Proofs
namespace Go.Proofs
open _root_.Go.Proofs.Tryz
open Go Go.Sl
namespace W
set_option maxHeartbeats 4000000
def DP(n:aa)(k:Nat):Int × aa:=(List.range k).foldl aa.dt (0,n)
theorem GX(n:aa)(k:Nat):DP n (k+1)=aa.dt (DP n k) k:=by unfold DP;rw[List.range_succ,List.foldl_append];rfl
section
variable {m : aa} {a : Int} {k : Nat} {x : bd} {w : ar}
theorem Td(h:bM m.c.en k=none):aa.dt (a,m) k=(a,m):=by unfold aa.dt;rw[h]
theorem X6(h:bM m.c.en k=some x)(hw:m.ew k=some w)(h2:m.wD w=true):aa.dt (a,m) k=(a,m.store x w.cl w.n):=by unfold aa.dt;rw[h];dsimp only;rw[hw];dsimp only;rw[if_pos h2]
theorem Tc(h:bM m.c.en k=some x)(hw:m.ew k=some w)(h2:m.wD w=false):aa.dt (a,m) k=(a,m):=by unfold aa.dt;rw[h];dsimp only;rw[hw];dsimp only;rw[if_neg (by rw[h2];simp)]
theorem N0(h:bM m.c.en k=some x)(hw:m.ew k=none)(h2:x.bZ=true∧a<4):aa.dt (a,m) k=(a+1,m.store x (-1) 0):=by unfold aa.dt;rw[h];dsimp only;rw[hw];dsimp only;rw[if_pos h2]
theorem DO(h:bM m.c.en k=some x)(hw:m.ew k=none)(h2: ¬(x.bZ=true∧a<4)):aa.dt (a,m) k=(a,m):=by unfold aa.dt;rw[h];dsimp only;rw[hw];dsimp only;rw[if_neg h2]
end
theorem PT [Env]{R:List ax}{F:NF}{V:NV}{n:aa}(hn:n.ok 990000)(hV:ct V n):
   bC Tryz.prog 130 [ptr F.p] (ao F V n) R (KN F n.iw (.tuple #[])):=by
 have B7:=hn.a.blocks;have zE:=hn.w.n;have WA:=hn.out;obtain⟨N,hN⟩: ∃N:Nat,n.blocks=N:=⟨n.blocks.toNat,by omega⟩;have hNt:n.blocks.toNat=N:=by omega
 have wx:bW V.sw n.waits.length 7 (a6 n.waits):=hV.sw;have jt:cE [iK V n] (aG V.sw n.waits.length) n.waits.length (a6 n.waits):=bG .z wx;have LF:sO (aG V.sw n.waits.length)=0:=by cases V.sw<;>rfl
 refine ag func130 ntmps130 rfl rfl ?_;unfold ao bB;refine gc 13 ?_;refine bO (A:=Nat × Int × Sv × List gI) (fun x=>[(11,i64 x.1),(10,i64 n.blocks),(2,i64 x.2.1),(0,ptr F.p)]) (fun x=>ao F {V with out:=x.2.2.1} (dK n x.2.2.2)++R) (fun x=>x.1≤N∧DP n x.1=(x.2.1,dK n x.2.2.2)∧bW x.2.2.1 x.2.2.2.length 3 (fG x.2.2.2)∧x.2.2.2.length≤990000+x.1∧0≤x.2.1∧x.2.1≤x.1) (fun x=>N-x.1) ((0,0,V.out,n.out)) ?_ aq ae ?_
 · exact⟨Nat.zero_le _,rfl,hV.out,by dsimp only;omega,Int.le_refl _,Int.le_refl _⟩
 rintro⟨k,a,o,l⟩ bJ kt cI;obtain⟨hk,hE,lh,oI,lF,hak⟩:=bJ;dsimp only at hk hE lh oI lF hak ⊢;unfold ao bB;refine gc 5 ?_;refine cc rfl (fun h8=>?_) (fun h8=>?_)
 ·refine gc 5 ?_;obtain⟨ox,qg⟩: ∃z,bM (dK n l).c.en (k:Int)=z:=⟨_,rfl⟩;obtain⟨wp,l7⟩: ∃z,aa.bY (dK n l).waits (k:Int)=z:=⟨_,rfl⟩;have iP:=GX n k;rw[hE]at iP;refine gy 10 ?_;refine bK (HV (C:=n.c) (b:=(k:Int))) call153 ?_;rw[show bM n.c.en (k:Int)=ox from qg];refine gy 3 ?_;refine ya (aB zeroValue127 rfl) rfl ?_;rintro v L' ⟨b4,rfl,rfl⟩;refine bA (aP (vs':=bd.cells (ox.getD .zero)) rfl rfl (gi _) sizeOf127 bc rfl (by decide) rfl) ?_;refine gy 6 ?_;refine bK (jF (V:={V with out:=o}) (n:=dK n l) ?amL ?atr) call100 ?_
  case amL=>exact wx
  case atr=>show n.waits.length≤1000000;omega
  rw[oB l7];refine gy 5 ?_;rcases ox with _|ex
  ·refine gy 12 ?_;rw[show IntKind.i64.wrap ((k:Int)+1)=((k+1:Nat):Int)by rw[wr (by omega) (by omega)];rfl];refine gy 3 ?_;exact cI (k+1,a,o,l) ⟨by dsimp only;omega,by rw[iP,Td qg],lh,by dsimp only;omega,lF,by dsimp only;omega⟩ (by dsimp only;omega) _ _ aq ae
  refine gy 8 ?_;rcases wp with _|i
  ·refine y (dw rfl rfl underlying183) rfl ?_;refine gy 8 ?_;refine cv 51 rfl (fun h41=>?_) (fun h41=>?_)
   ·refine gy 6 ?_;refine cc rfl (fun h46=>?_) (fun h46=>?_)
    ·refine gc 2 ?_;refine y (ak rfl isAgg127 sizeOf127 aL (by rfl)) rfl ?_;refine aA (rH (V:={V with out:=o}) (n:=dK n l) (x:=ex) (cl:= -1) (num:=0) ?akq ?arx) rfl call152 aZ rfl ?_
     case akq=>exact lh
     case arx=>show l.length≤1000000;omega
     rintro v L' ⟨o57,rfl,J9,rfl⟩;refine gy 5 ?_;rw[wr (by omega) (by omega)];refine gy 7 ?_;rw[show IntKind.i64.wrap ((k:Int)+1)=((k+1:Nat):Int)by rw[wr (by omega) (by omega)];rfl];refine gy 3 ?_;exact cI (k+1,a+1,o57,((dK n l).store ex (-1) 0).out) ⟨by dsimp only;omega,by rw[iP,N0 qg (dm l7) ⟨by assumption,by assumption⟩];rfl,J9,by show(l++[_]).length≤_;simp;omega,by dsimp only;omega,by dsimp only;omega⟩ (by dsimp only;omega) _ _ aq ae
    refine gc 6 ?_;rw[show IntKind.i64.wrap ((k:Int)+1)=((k+1:Nat):Int)by rw[wr (by omega) (by omega)];rfl];refine gy 3 ?_;exact cI (k+1,a,o,l) ⟨by dsimp only;omega,by rw[iP,DO qg (dm l7) (by(intro hh;simp_all))],lh,by dsimp only;omega,lF,by dsimp only;omega⟩ (by dsimp only;omega) _ _ aq ae
   refine gy 13 ?_;rw[show IntKind.i64.wrap ((k:Int)+1)=((k+1:Nat):Int)by rw[wr (by omega) (by omega)];rfl];refine gy 3 ?_;exact cI (k+1,a,o,l) ⟨by dsimp only;omega,by rw[iP,DO qg (dm l7) (by(intro hh;simp_all))],lh,by dsimp only;omega,lF,by dsimp only;omega⟩ (by dsimp only;omega) _ _ aq ae
  refine y (dw rfl rfl underlying183) rfl ?_;refine gy 5 ?_;obtain⟨w,Dj,-,-⟩:=eR l7;have Ug:n.waits[i]? =some w:=Dj;have JI:=fw l7 Dj;have SC:i<n.waits.length:=(List.getElem?_eq_some_iff.1 Ug).1;refine gy 3 ?_;refine y (dB (us:=w.cells) (i*7) jt ae rfl isAgg177 sizeOf177 (by rw[LF];omega) (lb kJ Ug) rfl) rfl ?_;refine bK (L5 (V:={V with out:=o}) (n:=dK n l) (w:=w)) call151 ?_;refine gy 2 ?_;refine cc rfl (fun Gd=>?_) (fun Gd=>?_)
  ·refine aS 10 (od [] 10 0) (_) Tryz.mixed (by kernel_rfl) .refl ?_;refine gh 1 ?_;refine hr rfl (ak rfl isAgg127 sizeOf127 aL (by rfl)) rfl ?_;refine gh 3 ?_;refine hr rfl (au (i*7+0) jt ae rfl isAgg3 (by rw[LF];omega) (xH kJ Ug rfl)) rfl ?_;refine gh 3 ?_;refine hr rfl (au (i*7+1) jt ae rfl isAgg2 (by rw[LF];omega) (xH kJ Ug rfl)) rfl ?_;refine gh 1 ?_;refine aA (rH (V:={V with out:=o}) (n:=dK n l) (x:=ex) ?aky ?arE) rfl call152 aZ rfl ?_
   case aky=>exact lh
   case arE=>show l.length≤1000000;omega
   rintro v L' ⟨o47,rfl,ajy,rfl⟩;refine gy 6 ?_;rw[show IntKind.i64.wrap ((k:Int)+1)=((k+1:Nat):Int)by rw[wr (by omega) (by omega)];rfl];refine gy 3 ?_;exact cI (k+1,a,o47,((dK n l).store ex w.cl w.n).out) ⟨by dsimp only;omega,by rw[iP,X6 qg JI (by assumption)];rfl,ajy,by show(l++[_]).length≤_;simp;omega,lF,by dsimp only;omega⟩ (by dsimp only;omega) _ _ aq ae
  refine gc 6 ?_;rw[show IntKind.i64.wrap ((k:Int)+1)=((k+1:Nat):Int)by rw[wr (by omega) (by omega)];rfl];refine gy 3 ?_;exact cI (k+1,a,o,l) ⟨by dsimp only;omega,by rw[iP,Tc qg JI (by assumption)],lh,by dsimp only;omega,lF,by dsimp only;omega⟩ (by dsimp only;omega) _ _ aq ae
 have TY:k=N:=by omega
 have Ly:n.iw=dK n l:=by unfold aa.iw;rw[hNt,←TY];show(DP n k).2=_;rw[hE]
 refine gc 4 ?_;refine aN results130 (L1:=ao F {V with out:=o} (dK n l)++R) ae ?_;rw[Ly];exact⟨_,⟨{V with out:=o},rfl,⟨lh,hV.sw,hV.si,hV.sl⟩,rfl⟩,rfl⟩
end W
end Go.Proofs
namespace Go.Proofs
open _root_.Go.Proofs.Tryz
open Go Go.Sl
namespace W
set_option maxHeartbeats 4000000
def Br(n:aa)(k:Nat):aa:=(n.waits.take k).foldl aa.k7 n
theorem IX{n:aa}{k:Nat}{w:ar}(h:n.waits[k]? =some w):Br n (k+1)=aa.k7 (Br n k) w:=by
 unfold Br;rw[dg h,List.foldl_append];rfl
theorem MF(n:aa):Br n n.waits.length=n.zg:=by unfold Br aa.zg;rw[List.take_length]
theorem ME{n:aa}{w:ar}(h1:w.op=1)(h2:0<w.load):aa.k7 n w=n.load w.bE w.load:=if_pos ⟨h1,h2⟩
theorem FX{n:aa}{w:ar}(h: ¬(w.op=1∧0<w.load)):aa.k7 n w=n:=if_neg h
theorem acY{n:aa}(h1:n.jE=true)(h2:(0:Int)<(n.s.l.length:Int)):n.iD=aa.kW {n with quiet:=n.quiet+1}:=if_pos ⟨h1,fun e=>by rw[e]at h2;exact absurd h2 (by decide)⟩
theorem al9{n:aa}(h:n.jE=false):n.iD=n.df:=if_neg (fun hh=>by rw[h]at hh;cases hh.1)
theorem ama{n:aa}(h: ¬(0:Int)<(n.s.l.length:Int)):n.iD=n.df:=if_neg (fun hh=>hh.2 (List.eq_nil_of_length_eq_zero (by omega)))
theorem ah1 [Env]{R:List ax}{F:NF}{V:NV}{n:aa}(hn:n.ok 960000)(hV:ct V n):
   bC Tryz.prog 69 [ptr F.p] (ao F V n) R (KN F n.rS (.tuple #[])):=by
 have hqt:=hn.n.quiet;have cD:=hn.iD;have eV:=cD.jv;have gb:=eV.mD;have vE:n.rS=n.iD.jv.tQ:=rfl;refine ag func69 ntmps69 rfl rfl ?_;unfold ao;refine bq ?_;intro K1 OM
 have nh: ∀x:NV × aa,(n.iD=x.2∧ct x.1 x.2)→Sk 130 K1 ([(0,ptr F.p)]) (ao F x.1 x.2++R):=by
  rintro⟨V1,n1⟩ zO;refine OM _ _ ?_;obtain⟨mo,dN⟩:=zO;dsimp only at mo dN ⊢;rw[mo]at cD eV gb vE;unfold ao bB;refine bq ?_;intro K2 gM
  have B3: ∀x:NV × aa,(n1.jv=x.2∧ct x.1 x.2)→Sk 130 K2 ([(0,ptr F.p)]) (ao F x.1 x.2++R):=by
   rintro⟨V2,n2⟩ afG;refine gM _ _ ?_;obtain⟨zB,jC⟩:=afG;dsimp only at zB jC ⊢;rw[zB]at eV gb vE;unfold ao bB;refine gc 10 ?_;refine cc rfl (fun h7=>?_) (fun h7=>?_)
   ·have JE:n.rS=n2:=vE.trans (if_pos h7);refine gc 2 ?_;refine bj results69 (L1:=ao F V2 n2++R) ae ?_;rw[JE];exact⟨_,⟨V2,rfl,jC,rfl⟩,rfl⟩
   have JE:n.rS=n2.mD.iw.zg:=vE.trans (if_neg (by omega));refine gc 2 ?_;refine bq ?_;intro K5 B4
   have vy: ∀x:NV × aa,(n2.mD=x.2∧ct x.1 x.2)→Sk 130 K5 ([(0,ptr F.p)]) (ao F x.1 x.2++R):=by
    rintro⟨V3,n3⟩ Wl;refine B4 _ _ ?_;obtain⟨qG,zA⟩:=Wl;dsimp only at qG zA ⊢;rw[qG]at gb JE;refine gc 2 ?_;refine aA (PT (V:=V3) (n:=n3) ?Qs ?R7) rfl call130 aZ rfl ?_
    case Qs=>exact gb.le (by decide)
    case R7=>exact zA
    rintro v L' ⟨Ds,rfl,Bv,rfl⟩;obtain⟨n4,M4⟩: ∃z,n3.iw=z:=⟨_,rfl⟩;rw[M4]at Bv JE ⊢;have lf:n4.ok 970000:=(M4▸gb.iw).le (by decide);have zE:=lf.w.n;have WA:=lf.out;have jt:cE [iK Ds n4] (aG Ds.sw n4.waits.length) n4.waits.length (a6 n4.waits):=bG .z Bv.sw;refine gy 3 ?_;unfold ao bB;refine gy 5 ?_;refine y (bu rfl underlying101 (cE.bo (by assumption))) rfl ?_;refine gy 4 ?_;refine bO (A:=Nat × Sv × List gI) (fun x=>[(111,i64 x.1),(110,i64 n4.waits.length),(109,aG Ds.sw n4.waits.length),(0,ptr F.p)]) (fun x=>ao F {Ds with out:=x.2.1} (dK n4 x.2.2)++R) (fun x=>x.1≤n4.waits.length∧Br n4 x.1=dK n4 x.2.2∧bW x.2.1 x.2.2.length 3 (fG x.2.2)∧x.2.2.length≤970000+x.1) (fun x=>n4.waits.length-x.1) ((0,Ds.out,n4.out)) ?_ aq ae ?_
    · exact⟨Nat.zero_le _,rfl,Bv.out,by dsimp only;omega⟩
    rintro⟨k,o,l⟩ bJ kt cI;obtain⟨hk,hE,lh,oI⟩:=bJ;dsimp only at hk hE lh oI ⊢;unfold ao bB;refine gc 5 ?_;refine cc rfl (fun Dc=>?_) (fun Dc=>?_)
    ·refine gc 5 ?_;obtain⟨w,hw⟩: ∃w,n4.waits[k]? =some w:=⟨_,List.getElem?_eq_getElem (by omega)⟩;have iP:=IX hw;rw[hE]at iP;refine y (aK jt rfl rfl underlying101 sizeOf177 (by omega) (by omega)) rfl ?_;refine y (dB (us:=w.cells) (k*7) jt ae rfl isAgg177 sizeOf177 (by simp) (lb kJ hw) rfl) rfl ?_;refine ya (aB zeroValue177 rfl) rfl ?_;rintro v L' ⟨b3,rfl,rfl⟩;refine bA (aP (vs':=w.cells) rfl rfl (cY w) sizeOf177 bc rfl (by decide) rfl) ?_;refine gy 7 ?_;refine cv 118 rfl (fun Gb=>?_) (fun Gb=>?_)
     ·refine gy 6 ?_;refine cc rfl (fun Hk=>?_) (fun Hk=>?_)
      ·have fg:=iP.trans (ME (by assumption) Hk);refine gc 6 ?_;refine aA (E2 (V:={Ds with out:=o}) (n:=dK n4 l) ?ako ?arv) rfl call68 aZ rfl ?_
       case ako=>exact lh
       case arv=>show l.length≤1000000;omega
       rintro v L' ⟨aq0,rfl,aa9,rfl⟩;refine gy 5 ?_;rw[show IntKind.i64.wrap ((k:Int)+1)=((k+1:Nat):Int)by rw[wr (by omega) (by omega)];rfl];refine gy 3 ?_;exact cI (k+1,aq0,((dK n4 l).load w.bE w.load).out) ⟨by dsimp only;omega,fg,aa9,by show(l++[_]).length≤_;simp;omega⟩ (by dsimp only;omega) _ _ aq ae
      have fg:=iP.trans (FX (fun hh=>by omega));refine gc 5 ?_;rw[show IntKind.i64.wrap ((k:Int)+1)=((k+1:Nat):Int)by rw[wr (by omega) (by omega)];rfl];refine gy 3 ?_;exact cI (k+1,o,l) ⟨by dsimp only;omega,fg,lh,by dsimp only;omega⟩ (by dsimp only;omega) _ _ aq ae
     have fg:=iP.trans (FX (fun hh=>Gb hh.1));refine gy 12 ?_;rw[show IntKind.i64.wrap ((k:Int)+1)=((k+1:Nat):Int)by rw[wr (by omega) (by omega)];rfl];refine gy 3 ?_;exact cI (k+1,o,l) ⟨by dsimp only;omega,fg,lh,by dsimp only;omega⟩ (by dsimp only;omega) _ _ aq ae
    have TY:k=n4.waits.length:=by omega
    have Ly:n.rS=dK n4 l:=by rw[JE,←MF,←TY];exact hE
    refine gc 4 ?_;refine aN results69 (L1:=ao F {Ds with out:=o} (dK n4 l)++R) ae ?_;rw[Ly];exact⟨_,⟨{Ds with out:=o},rfl,⟨lh,Bv.sw,Bv.si,Bv.sl⟩,rfl⟩,rfl⟩
   clear B4;refine gc 2 ?_;refine bK (oc (V:=V2) (n:=n2)) call118 ?_;unfold bB;refine gy 1 ?_;refine cv 66 rfl (fun h49=>?_) (fun h49=>?_)
   ·refine gy 9 ?_;refine cc rfl (fun Jt=>?_) (fun Jt=>?_)
    ·have ht3:n2.mD=n2.uj.send n2.peer n2.xm:=if_pos ⟨by assumption,Jt⟩;refine gc 5 ?_;refine bA (an rfl rfl (by rfl) sizeOf3 bc rfl rfl) ?_;refine gy 2 ?_;refine aS 24 [(0,true),(1,true),(3,true),(4,true),(5,true),(6,true),(7,true),(8,true),(9,true),(10,true),(11,true),(13,true),(14,true),(15,true),(16,true),(17,true),(18,true),(19,true),(20,true),(2,false),(12,false),(21,false),(22,false),(23,true)] ([sc F.p _ 106]++R) Tryz.mixed (by kernel_rfl) ae ?_;refine gh 14 ?_;refine hr rfl (ay (u:=qL n2.done) rfl isAgg32 sizeOf32 aL rfl rfl) rfl ?_;refine gh 4 ?_;refine bg rfl (vJ (V:=V2) (n:=n2.uj) ?aaB) rfl call63 aZ rfl ?_
     case aaB=>exact eV.a.id
     rintro v L' ⟨rfl,rfl⟩;refine⟨ae,?_⟩;refine bg rfl (nu ?alm ?alB) rfl call51 aZ rfl ?_
     case alm=>exact eV.s.fit (by decide)
     case alB=>exact jC.si
     rintro v L' ⟨rfl,rfl⟩;refine⟨ae,?_⟩;refine bg rfl (aeQ (L:=n2.dr)) rfl call128 aZ rfl ?_;rintro v L' ⟨rfl,rfl⟩;refine⟨ae,?_⟩;refine bg rfl (Xe ?atI ?atC) rfl call129 aZ rfl ?_
     case atI=>have:=eV.p.dr.n;unfold ef;omega
     case atC=>exact eV.p.dr.bits
     rintro v L' ⟨rfl,rfl⟩;refine⟨ae,?_⟩;refine hr rfl (cA (aM.cells n2.xm)) rfl ?_;refine gh 1 ?_;refine aA (nw (V:=V2) (n:=n2.uj) (m:=n2.xm) ?Q5 ?abg) rfl call67 aZ rfl ?_
     case Q5=>exact jC.out
     case abg=>have:=eV.out;show n2.out.length≤1000000;omega
     rintro v L' ⟨aqZ,rfl,aa8,rfl⟩;refine gy 2 ?_;exact aV aq ae (vy ({V2 with out:=aqZ},n2.uj.send n2.peer n2.xm) ⟨ht3,⟨aa8,jC.sw,jC.si,jC.sl⟩⟩)
    have ht3:n2.mD=n2:=if_neg (fun hh=>by omega);refine gc 2 ?_;exact aV aq ae (vy (V2,n2) ⟨ht3,jC⟩)
   have ht3:n2.mD=n2:=if_neg (fun hh=>by rw[h49]at hh;cases hh.1);refine gy 12 ?_;exact aV aq ae (vy (V2,n2) ⟨ht3,jC⟩)
  clear gM;refine gc 2 ?_;refine aS 10 (od [] 10 0) (_) Tryz.mixed (by kernel_rfl) .refl ?_;refine gh 14 ?_;refine cc rfl (fun KY=>?_) (fun KY=>?_)
  ·have ht2:n1.jv=n1.k6:=if_pos KY;refine gc 2 ?_;refine aA (aaz (V:=V1) (n:=n1) ?aaI ?ac4) rfl call126 aZ rfl ?_
   case aaI=>exact cD.le (by decide)
   case ac4=>exact dN
   rintro v L' ⟨V43,rfl,atm,rfl⟩;refine gy 3 ?_;exact aV aq ae (B3 (V43,n1.k6) ⟨ht2,atm⟩)
  refine gc 10 ?_;refine cc rfl (fun afs=>?_) (fun afs=>?_)
  ·have ht2:n1.jv=n1.changes n1.want:=(if_neg (by omega)).trans (if_pos afs);refine gc 1 ?_;obtain⟨c9,w9,l9,AK⟩:=kj n1 n1.want;refine gy 6 ?_;refine aA (ta (V:=V1) (n:=n1) (mk:=n1.want) ?aes ?abJ ?ajI) rfl call127 aZ rfl ?_
   case aes=>have:=cD.n.change;omega
   case abJ=>exact dN.out
   case ajI=>have:=cD.out;omega
   rintro v L' ⟨o57,rfl,J9,rfl⟩;rw[AK]at J9 ⊢;refine gy 3 ?_;exact aV aq ae (B3 ({V1 with out:=o57},{n1 with change:=c9,want:=w9,out:=l9}) ⟨ht2.trans AK,⟨J9,dN.sw,dN.si,dN.sl⟩⟩)
  have ht2:n1.jv=n1:=(if_neg (by omega)).trans (if_neg (by omega));refine gc 3 ?_;exact aV aq ae (B3 (V1,n1) ⟨ht2,dN⟩)
 clear OM;refine gc 2 ?_;refine bK (lH (V:=V) (n:=n)) call114 ?_;unfold bB;refine gy 1 ?_;refine cv 6 rfl (fun Ed=>?_) (fun Ed=>?_)
 ·refine gy 5 ?_;refine bV ?_;refine aA (J3 ?acq ?ak9) rfl call124 aZ rfl ?_
  case acq=>exact hV.si
  case ak9=>have:=hn.s.n;omega
  rintro v L' ⟨Gl,rfl,Fe,rfl⟩;refine bV ?_;refine y (bH rfl underlying168 (by assumption)) rfl ?_;refine gy 4 ?_;refine cc rfl (fun xN=>?_) (fun xN=>?_)
  ·have ht1:=acY (n:=n) (by assumption) xN;refine gc 7 ?_;rw[wr (by omega) (by omega)];refine gy 3 ?_;refine bA (an rfl rfl (by rfl) sizeOf2 bc rfl rfl) ?_;refine gy 3 ?_;obtain⟨l9,nj⟩:=ot {n with quiet:=n.quiet+1};refine gy 1 ?_;refine aA (J4 (V:=V) (n:={n with quiet:=n.quiet+1}) ?aic ?abN ?ajM ?acs ?ala) rfl call125 aZ rfl ?_
   case aic=>exact hn.a.id
   case abN=>exact hV.out
   case ajM=>have:=hn.out;show n.out.length≤999000;omega
   case acs=>exact hV.si
   case ala=>have:=hn.s.n;show n.s.l.length≤1000000;omega
   rintro v L' ⟨o26,rfl,J8,rfl⟩;rw[nj]at J8 ⊢;refine gy 2 ?_;exact aV aq ae (nh ({V with out:=o26},dK {n with quiet:=n.quiet+1} l9) ⟨ht1.trans nj,⟨J8,hV.sw,hV.si,hV.sl⟩⟩)
  have ht1:n.iD=n.df:=ama xN;refine gc 5 ?_;refine bA (an rfl rfl (by rfl) sizeOf2 bc rfl rfl) ?_;refine gy 2 ?_;exact aV aq ae (nh (V,n.df) ⟨ht1,⟨hV.out,hV.sw,hV.si,hV.sl⟩⟩)
 have ht1:n.iD=n.df:=al9 Ed;refine gy 17 ?_;refine bA (an rfl rfl (by rfl) sizeOf2 bc rfl rfl) ?_;refine gy 2 ?_;exact aV aq ae (nh (V,n.df) ⟨ht1,⟨hV.out,hV.sw,hV.si,hV.sl⟩⟩)
theorem fV(x:aM): ∀u∈x.cells,u.oneCell'=true:=by
 intro u hu;simp only[aM.cells,List.mem_cons,List.not_mem_nil,or_false]at hu;rcases hu with rfl|rfl|rfl|rfl|rfl|rfl|rfl|rfl|rfl|rfl|rfl|rfl|rfl<;>rfl
def KTk(F:NF)(n':aa)(v:Value)(L':List ax):Prop:= ∃V',v=aG V'.out n'.out.length∧ct V' n'∧L'=ao F V' n'
abbrev Mc(F:NF)(V:NV)(n:aa):List ax:=[bB F V n,iK V n,eu V.ps V.si n.s,iZ V.si n.s,dh F.pf F.q n.f,fB F.pl F.pc n.dr,dh F.pc F.q n.dr.c,cU F.A n.c,ga F.A n.c,iX F.A n.c,jO F.A F.q V.sl n.c,dev F.q n.d]
theorem Q9{a b:ax}{r R:List ax}:(a::b::r++R).flatten.Perm (a::r++b::R).flatten:=by
 simp only[List.cons_append,List.flatten_cons,List.flatten_append];exact List.Perm.append_left _ (List.perm_append_comm_assoc _ _ _)
theorem A5{F:NF}{V:NV}{n:aa}{R:List ax}:(ao F V n++R).flatten.Perm (Mc F V n++gH V n::R).flatten:=Q9
theorem Qa [Env]{R:List ax}{F:NF}{V:NV}{n:aa}(hn:n.ok 950000)(hV:ct V n):
   bC Tryz.prog 34 [ptr F.p] (Mc F V n) R (KTk F n.tick):=by
 have hck:=hn.n.clock;have hlf:=hn.n.left;have xS:=hn.n.born;have qH:=hn.clear.k5;have Gg:ct {V with out:=none} n.clear.k5:=⟨⟨rfl,rfl⟩,hV.sw,hV.si,hV.sl⟩;refine ag func34 ntmps34 rfl rfl ?_;unfold Mc bB;refine gc 8 ?_;refine bA (an rfl rfl (by rfl) sizeOf45 bc rfl rfl) ?_;refine gy 10 ?_;refine cc rfl (fun Ha=>?_) (fun Ha=>?_)
 ·have zD:n.tick=n.clear:=if_pos Ha;refine gc 6 ?_;refine aj results34 rfl (L1:=[bB F {V with out:=none} n.clear,aD none 42 [],iK V n,eu V.ps V.si n.s,iZ V.si n.s,dh F.pf F.q n.f,fB F.pl F.pc n.dr,dh F.pc F.q n.dr.c,cU F.A n.c,ga F.A n.c,iX F.A n.c,jO F.A F.q V.sl n.c,dev F.q n.d]++R) ae ?_;rw[zD];exact⟨_,⟨{V with out:=none},rfl,⟨⟨rfl,rfl⟩,hV.sw,hV.si,hV.sl⟩,rfl⟩,rfl⟩
 have zD:n.tick=n.clear.k5.tO:=if_neg (by rw[Ha];simp);refine gc 8 ?_;rw[wr (by omega) (by omega)];refine gy 2 ?_;refine bA (an rfl rfl (by rfl) sizeOf2 bc rfl rfl) ?_;refine gy 2 ?_;refine bq ?_;intro K7 Jx
 have zQ: ∀x:Unit,(True)→Sk 84 K7 ([(0,ptr F.p)]) ([bB F {V with out:=none} n.clear.k5,aD none 42 [],iK V n,eu V.ps V.si n.s,iZ V.si n.s,dh F.pf F.q n.f,fB F.pl F.pc n.dr,dh F.pc F.q n.dr.c,cU F.A n.c,ga F.A n.c,iX F.A n.c,jO F.A F.q V.sl n.c,dev F.q n.d]++R):=by
  rintro x Li;refine Jx _ _ ?_;obtain⟨n0,HD⟩: ∃z,n.clear.k5=z:=⟨_,rfl⟩;rw[HD]at qH Gg zD;have ho0:n0.out=[]:=by rw[←HD];rfl
  show Sk _ _ _ (ao F {V with out:=none} n.clear.k5++R);rw[HD];have at5:=qH.n.clock;have at3:=qH.n.born;unfold ao bB;refine gc 8 ?_;refine cc rfl (fun Tz=>?_) (fun Tz=>?_)
  ·have Cf:n.tick=n0.send 2 {aa.lT with kind:=4,n:=n0.serial}:=zD.trans (if_pos Tz);refine gc 6 ?_;refine y (cA (aM.cells {aa.lT with kind:=4,n:=n0.serial})) rfl ?_;refine aA (nw (V:={V with out:=none}) (n:=n0) (m:={aa.lT with kind:=4,n:=n0.serial}) ?Q0 ?abc) rfl call67 aZ rfl ?_
   case Q0=>exact Gg.out
   case abc=>rw[ho0];exact Nat.zero_le _
   rintro v L' ⟨o32,rfl,ajv,rfl⟩;refine gy 3 ?_;unfold bB;refine gy 9 ?_;refine aj results34 rfl (L1:=ao F {V with out:=o32} (n0.send 2 {aa.lT with kind:=4,n:=n0.serial})++R) ae ?_;rw[Cf];exact⟨_,⟨{V with out:=o32},rfl,⟨ajv,Gg.sw,Gg.si,Gg.sl⟩,rfl⟩,rfl⟩
  have Cf:n.tick=(n0.send 2 n0.sj).tP:=zD.trans (if_neg (by rw[Tz];simp));refine gc 3 ?_;refine aS 16 (od [15] 16 0) ([sc F.p _ 106]++R) Tryz.mixed (by kernel_rfl) ae ?_;refine gh 8 ?_;refine hr rfl (gS rfl rfl) rfl ?_;rw[wr (by omega) (by omega)];refine gh 5 ?_;rw[wr (by omega) (by omega)];refine hr rfl (cA (aM.cells {aa.lT with kind:=1,ah:=n0.ah,n:=n0.born*4294967296+n0.clock})) rfl ?_;refine ha rfl (aB zeroValue34 rfl) rfl ?_;rintro v L' ⟨b3,rfl,rfl⟩;refine⟨ae,?_⟩;refine gh 1 ?_;refine bA (ai rfl rfl (fV _) sizeOf34 bc rfl rfl) ?_;refine gy 2 ?_;refine bq ?_;intro K13 afI
  have vy: ∀x:Unit,(True)→Sk 84 K13 ([(0,ptr F.p),(3,ptr b3)]) (sc b3 n0.sj.cells 34::ao F {V with out:=none} n0++R):=by
   rintro x Wl;refine afI _ _ ?_;refine gc 2 ?_;refine y (ak rfl isAgg34 sizeOf34 aL (by rfl)) rfl ?_;refine aA (nw (V:={V with out:=none}) (n:=n0) (m:=n0.sj) ?akr ?ary) rfl call67 aZ rfl ?_
   case akr=>exact Gg.out
   case ary=>rw[ho0];exact Nat.zero_le _
   rintro v L' ⟨o61,rfl,ajA,rfl⟩;let n1:aa:=n0.send 2 n0.sj;have cD:n1.ok 950002:=qH.send _ _;have dN:ct {V with out:=o61} n1:=⟨ajA,Gg.sw,Gg.si,Gg.sl⟩;unfold bB;refine gy 2 ?_;refine bq ?_;intro K15 afJ
   have sM: ∀x:NV × aa,(n.tick=x.2∧ct x.1 x.2)→Sk 84 K15 ([(0,ptr F.p)]) (ao F x.1 x.2++R):=by
    rintro⟨V9,n9⟩ hIr17;refine afJ _ _ ?_;obtain⟨ht9,hV9⟩:=hIr17;dsimp only at ht9 hV9 ⊢;unfold ao bB;refine gc 9 ?_;refine aj results34 rfl (L1:=ao F V9 n9++R) ae ?_;rw[ht9];exact⟨_,⟨V9,rfl,hV9,rfl⟩,rfl⟩
   clear afJ;refine gc 11 ?_;refine cc rfl (fun Df=>?_) (fun Df=>?_)
   ·have Cg:n.tick=n1.load (-1) 0:=Cf.trans (if_pos Df);refine gc 2 ?_;refine aA (E2 (V:={V with out:=o61}) (n:=n1) (b:= -1) (num:=0) ?Q4 ?abf) rfl call68 aZ rfl ?_
    case Q4=>exact dN.out
    case abf=>have:=cD.out;omega
    rintro v L' ⟨o70,rfl,ajB,rfl⟩;refine gy 3 ?_;exact aV aq ae (sM ({V with out:=o70},n1.load (-1) 0) ⟨Cg,⟨ajB,dN.sw,dN.si,dN.sl⟩⟩)
   refine gc 10 ?_;refine cc rfl (fun h79=>?_) (fun h79=>?_)
   ·have Cg:n.tick=n1.rS:=Cf.trans ((if_neg (by assumption)).trans (if_pos h79));refine gc 2 ?_;refine aA (ah1 (V:={V with out:=o61}) (n:=n1) ?aiD ?amy) rfl call69 aZ rfl ?_
    case aiD=>exact cD.le (by decide)
    case amy=>exact dN
    rintro v L' ⟨V0,rfl,IZ,rfl⟩;refine gy 3 ?_;exact aV aq ae (sM (V0,n1.rS) ⟨Cg,IZ⟩)
   have Cg:n.tick=n1:=Cf.trans ((if_neg (by assumption)).trans (if_neg (by omega)));refine gc 3 ?_;exact aV aq ae (sM ({V with out:=o61},n1) ⟨Cg,dN⟩)
  clear afI;refine gc 9 ?_;refine cc rfl (fun AI=>?_) (fun AI=>?_)
  ·have hak:n0.sj={aa.lT with kind:=1,ah:=n0.ah,seq:=1,n:=n0.born*4294967296+n0.clock}:=by unfold aa.sj;rw[if_pos (by exact AI)]
   refine gc 2 ?_;refine bA (an rfl rfl (by rfl) sizeOf2 bc rfl rfl) ?_;refine gy 2 ?_;rw[hak]at vy;exact aV aq ae (vy () trivial)
  have hak:n0.sj={aa.lT with kind:=1,ah:=n0.ah,n:=n0.born*4294967296+n0.clock}:=by unfold aa.sj;rw[if_neg (by exact AI)];try rfl
  refine gc 2 ?_;rw[hak]at vy;exact aV aq ae (vy () trivial)
 clear Jx;refine gc 4 ?_;refine bK (aax (V:={V with out:=none}) (n:={n.clear with clock:=n.clock+1}) ?ath) call66 ?_
 case ath=>exact hlf
 refine gy 2 ?_;exact aV aq ae (zQ () trivial)
theorem ah0 [Env]{R:List ax}{F:NF}{V:NV}{n:aa}(hn:n.ok 950000)(hV:ct V n):
   bC Tryz.prog 34 [ptr F.p] (ao F V n) R (KTk F n.tick):=(Qa hn hV).ak3 A5
end W
end Go.Proofs