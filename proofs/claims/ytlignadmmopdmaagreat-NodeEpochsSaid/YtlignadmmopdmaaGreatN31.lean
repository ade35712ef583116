/- A part of the proof. -/
import Derived.Test.YtlignadmmopdmaaGreatUn
import Derived.Test.YtlignadmmopdmaaGreatN30
set_option linter.unusedVariables false
set_option linter.unusedSimpArgs false
set_option linter.constructorNameAsVariable false
namespace Go.Proofs
open _root_.Go.Proofs.Tryz
open Go Go.Sl
namespace W
set_option maxHeartbeats 4000000
theorem Ko{n:aa}{w:ar}{x:bd}{r:Int × aQ × az}(hR:n.c.put n.d x=r)(h:r.1=12):n.iM w x=(n.bf r).answer w 12 []:=by unfold aa.iM;rw[hR,if_pos h]
theorem Xc{n:aa}{w:ar}{x:bd}{r:Int × aQ × az}(hR:n.c.put n.d x=r)(h: ¬r.1=12):n.iM w x=aa.andThen (n.iO r) fun n=>aa.andThen n.sync fun n=>n.jo w x:=by unfold aa.iM;rw[hR,if_neg h]
theorem Qc [Env]{R:List ax}{F:NF}{V:NV}{n:aa}{w:ar}{data:Bytes}(hn:n.ok 970000)(hV:ct V n)(hw:w.ok 970000)(Gj:n.waits.length<16)(hd:data.length=8):
   bC Tryz.prog 103 [ptr F.p,I4 w,str data] (ao F V n) R (KN F (n.write w data) (.tuple #[])):=by
 obtain⟨r1,Y4⟩: ∃z,n.dr.mark n.d w.bE=z:=⟨_,rfl⟩;have apI:((n.iG r1).err r1.1).ok 970000:=by rw[←Y4];exact hn.mark w.bE
 have oY:=hw.cl;have Wp:=hw.bE;have WA:=hn.out;have zE:=hw.n;have B7:=hn.a.blocks;refine ag func103 ntmps103 rfl rfl ?_;unfold ao bB;refine gc 1 ?_;refine ya (a7 (vs:=w.cells) rfl rfl) rfl ?_;rintro v L' ⟨b4,rfl,rfl⟩;refine gy 9 ?_;refine bK (nu ?as0 ?as3) call51 ?_
 case as0=>exact hn.s.fit (by decide)
 case as3=>exact hV.si
 refine gy 3 ?_;refine cc rfl (fun h9=>?_) (fun h9=>?_)
 ·have JI:n.write w data=n.answer w 23 []:=if_pos h9;refine gc 2 ?_;refine y (ak rfl isAgg177 sizeOf177 aL (by rfl)) rfl ?_;refine aA (gF (V:=V) (n:=n) (w:=w) (e:=23) (data:=[]) ?aq2 ?akj ?arp) rfl call101 aZ rfl ?_
  case aq2=>exact oY
  case akj=>exact hV.out
  case arp=>omega
  rintro v L' ⟨o18,rfl,ajs,rfl⟩;refine gy 4 ?_;refine bj results103 (L1:=ao F {V with out:=o18} (n.answer w 23 [])++R) ae ?_;rw[JI];exact⟨_,⟨{V with out:=o18},rfl,⟨ajs,hV.sw,hV.si,hV.sl⟩,rfl⟩,rfl⟩
 have JI:n.write w data=aa.andThen (n.iL w) fun n=>n.iM w (n.dL w data):=if_neg (by omega)
 refine gc 2 ?_;refine bq ?_;intro K5 B4
 have nh: ∀x:aa,(n.write w data=x.iM w (x.dL w data)∧x.ok 970000∧ct V x∧x.s.last<4611686018427387904∧x.waits.length<16)→Sk 136 K5 ([(0,ptr F.p),(2,str data),(4,ptr b4)]) (sc b4 w.cells 177::ao F V x++R):=by
  rintro n1 zO;refine B4 _ _ ?_;obtain⟨z7,cD,dN,aue,agY⟩:=zO;unfold ao bB;have aoT:=cD.s.dV;have aua:n1.s.last=n1.s.dV+n1.s.l.length:=rfl;unfold gg at aoT;obtain⟨r,hR⟩: ∃z,n1.c.put n1.d (n1.dL w data)=z:=⟨_,rfl⟩;have qd:jR n1.c n1.d r:=by rw[←hR];exact lJ cD.p.c _
  refine gc 1 ?_;refine kO 21 (.op 0 0 (.op 1 1 (.op 2 0 (.op 3 0 (.op 4 0 (.op 5 1 (.op 6 0 (.op 7 0 (.op 8 0 (.op 9 0 (.op 10 1 (.op 14 0 (.op 15 0 (.op 16 1 (.op 17 0 (.op 18 1 (.fork 11 (.op 12 0 (.op 13 0 (.op 19 0 (.op 20 2 (.nil))))) 20 (.op 11 2 (.op 12 0 (.op 13 0 (.op 19 0 (.nil)))))))))))))))))))))) ([sc b4 _ 177,sc F.p _ 106]++R) Tryz.mixed (by kernel_rfl) ae ?_;refine nz rfl (aT 3 rfl underlying177 rfl sizeOf3) rfl ?_;refine nr rfl (bR rfl isAgg3 aL rfl) rfl ?_;refine nz rfl (ba rfl) rfl ?_;refine nz rfl (fD rfl) rfl ?_;refine nz rfl (aT 11 rfl underlying106 rfl sizeOf2) rfl ?_;refine nr rfl (bR rfl isAgg2 aL rfl) rfl ?_;refine nz rfl (ba rfl) rfl ?_;refine nz rfl (fD rfl) rfl ?_;refine nz rfl (aT 26 rfl underlying106 rfl sizeOf104) rfl ?_;refine nz rfl (aT 5 rfl underlying104 rfl sizeOf102) rfl ?_;refine nr rfl (bR rfl isAgg102 aL rfl) rfl ?_;refine nz rfl (ba rfl) rfl ?_;refine nz rfl (aT 0 rfl underlying177 rfl sizeOf3) rfl ?_;refine nr rfl (bR rfl isAgg3 aL rfl) rfl ?_;refine nz rfl (aT 1 rfl underlying177 rfl sizeOf2) rfl ?_;refine nr rfl (bR rfl isAgg2 aL rfl) rfl ?_;refine mu ?_ ?_
  ·refine fy rfl (nu ?ald ?alr) rfl call51 aZ rfl ?_
   case ald=>exact cD.s.fit (by decide)
   case alr=>exact dN.si
   rintro v L' ⟨rfl,rfl⟩;refine⟨ae,?_⟩;refine nz rfl (uA rfl rfl) rfl ?_;rw[wr (by omega) (by omega)];refine nz rfl (cA ([i64 n1.ah,i64 (n1.s.last+1)])) rfl ?_;refine nz rfl (cA (bd.cells (n1.dL w data))) rfl ?_;refine na rfl (aB zeroValue127 rfl) rfl ?_;rintro v L' ⟨b6,rfl,rfl⟩;refine⟨ae,?_⟩;refine ik ?_;refine bA (ai rfl rfl (gi _) sizeOf127 bc rfl rfl) ?_;refine gy 3 ?_;refine aS 5 (od [] 5 0) (_) Tryz.mixed (by kernel_rfl) .refl ?_;refine gh 4 ?_;refine hr rfl (ak rfl isAgg127 sizeOf127 aL (by rfl)) rfl ?_;refine gh 1 ?_;refine aA (Un (C:=n1.c) (D:=n1.d) (x:=n1.dL w data) ?aeC ?Po) rfl call157 aZ rfl ?_
   case aeC=>exact cD.p.c
   case Po=>exact dN.sl
   rintro v L' ⟨jn,rfl,uQ,rfl⟩;rw[hR]at uQ ⊢;refine gy 9 ?_;refine cc rfl (fun zz=>?_) (fun zz=>?_)
   ·have Ci:n.write w data=(n1.bf r).answer w 12 []:=z7.trans (Ko hR zz);refine gc 1 ?_;have AG:r.1=12:=by assumption
    refine gy 1 ?_;refine y (ak rfl isAgg177 sizeOf177 aL (by rfl)) rfl ?_;refine gy 1 ?_;rw[AG];refine aA (gF (V:={V with sl:=jn}) (n:=n1.bf r) (w:=w) (e:=12) (data:=[]) ?aq5 ?Q2 ?abe) rfl call101 aZ rfl ?_
    case aq5=>exact oY
    case Q2=>exact dN.out
    case abe=>have:=cD.out;show n1.out.length≤1000000;omega
    rintro v L' ⟨o64,rfl,QP,rfl⟩;refine gy 4 ?_;refine bj results103 (L1:=ao F {V with sl:=jn,out:=o64} ((n1.bf r).answer w 12 [])++R) ae ?_;rw[Ci];exact⟨_,⟨{V with sl:=jn,out:=o64},rfl,⟨QP,dN.sw,dN.si,uQ⟩,rfl⟩,rfl⟩
   have Ci:=z7.trans (Xc (w:=w) hR zz);refine gc 2 ?_;refine bq ?_;intro VX wh
   have zR: ∀x:aa,(n.write w data=x.jo w (n1.dL w data)∧x.ok 970000∧ct {V with sl:=jn} x∧x.waits.length<16)→Sk 136 VX ([(0,ptr F.p),(2,str data),(4,ptr b4),(6,ptr b6)]) (sc b4 w.cells 177::sc b6 (bd.cells (n1.dL w data)) 127::ao F {V with sl:=jn} x++R):=by
    rintro n3 Lj;refine wh _ _ ?_;obtain⟨x8,gb,zA,ZQ⟩:=Lj;unfold ao bB;obtain⟨ad,hA⟩: ∃z,n3.s.add ⟨0,w.bE,data,w.cl,w.n⟩=z:=⟨_,rfl⟩;have Zh:(⟨0,w.bE,data,w.cl,w.n⟩:dY).ok:=⟨aa.wE,hw.bE,Nat.le_of_eq hd,⟨by show-1≤w.cl;omega,oY.2⟩,⟨by show 0≤w.n;omega,zE.2⟩⟩;have hq:gg ad.1.1:=hA▸gb.s.wL _;let w2:ar:={w with seq:=ad.1.1};have lf:({n3 with s:=ad.2,waits:=n3.waits++[w2]}:aa).ok 970001:=aa.ok.l8 (n:={n3 with s:=ad.2}) ((gb.le (show 970000≤970001 by decide)).y5 (show mG 970001 ad.2 by rw[←hA];exact gb.s.add Zh)) (w:=w2) ⟨hw.cl,hw.n,hw.op,hw.bE,hq,by have:=hw.load;show 0≤w.load∧w.load≤((970001:Nat):Int);omega⟩ ZQ
    have Pg:n.write w data=(aa.jM {n3 with s:=ad.2,waits:=n3.waits++[w2]} ⟨ad.1.1,w.bE,data,w.cl,w.n⟩).gp w2 (n1.dL w data):=by
      rw[x8];unfold aa.jo aa.zq;show(aa.jM {n3 with s:=(n3.s.add ⟨0,w.bE,data,w.cl,w.n⟩).2,waits:=n3.waits++[{w with seq:=(n3.s.add ⟨0,w.bE,data,w.cl,w.n⟩).1.1}]} ⟨(n3.s.add ⟨0,w.bE,data,w.cl,w.n⟩).1.1,w.bE,data,w.cl,w.n⟩).gp {w with seq:=(n3.s.add ⟨0,w.bE,data,w.cl,w.n⟩).1.1} (n1.dL w data)=_;rw[hA]
    refine gc 8 ?_;refine y (cA (dY.cells ⟨0,w.bE,data,w.cl,w.n⟩)) rfl ?_;refine ya (aB zeroValue228 rfl) rfl ?_;rintro v L' ⟨b8,rfl,rfl⟩;refine bA (ai rfl rfl (pG _) sizeOf228 bc rfl rfl) ?_;refine gy 3 ?_;refine kO 12 (.op 0 0 (.op 1 0 (.op 2 0 (.op 3 0 (.op 4 1 (.op 5 1 (.op 6 2 (.op 7 0 (.op 8 0 (.op 9 0 (.op 10 0 (.op 11 3 (.nil))))))))))))) ([sc b8 _ 228,sc F.p _ 106]++R) Tryz.mixed (by kernel_rfl) ae ?_;refine nz rfl (ba rfl) rfl ?_;refine nz rfl (fD rfl) rfl ?_;refine nz rfl (aT 26 rfl underlying106 rfl sizeOf104) rfl ?_;refine nz rfl (aT 5 rfl underlying104 rfl sizeOf102) rfl ?_;refine nr rfl (bR rfl isAgg102 aL rfl) rfl ?_;refine nr rfl (ak rfl isAgg228 sizeOf228 aL (by rfl)) rfl ?_;refine fy rfl (UH (S:=n3.s) (x:=⟨0,w.bE,data,w.cl,w.n⟩) ?alk ?alz) rfl call159 aZ rfl ?_
    case alk=>exact gb.s.fit (by decide)
    case alz=>exact zA.si
    rintro v L' ⟨CT,rfl,pO,rfl⟩;refine⟨ae,?_⟩;rw[hA]at pO ⊢;refine nz rfl (ba rfl) rfl ?_;refine nz rfl (cV rfl rfl) rfl ?_;refine nz rfl (cV rfl rfl) rfl ?_;refine nz rfl (aT 0 rfl underlying228 rfl sizeOf2) rfl ?_;refine ah3 (R) rfl (an rfl rfl (by rfl) sizeOf2 bc rfl rfl) ?_;rintro v L' ⟨rfl,rfl⟩;refine⟨ae,?_⟩;refine ik ?_;refine gy 6 ?_;refine bA (an rfl rfl (by rfl) sizeOf2 bc rfl rfl) ?_;refine gy 3 ?_;refine aS 12 (od [7,8] 12 0) ([sc b4 _ 177,sc F.p _ 106]++R) Tryz.mixed (by kernel_rfl) ae ?_;refine gh 6 ?_;refine hr rfl (ak rfl isAgg177 sizeOf177 aL (by rfl)) rfl ?_;refine ha rfl (aE rfl underlying101 sizeOf177 zeroValue177 rfl rfl rfl rfl ⟨⟨_,_,rfl,(by rfl),(by decide)⟩,trivial⟩ (by dsimp[bt,aX,aY,bS]<;>rfl)) rfl ?_;rintro v L' ⟨am9,rfl,rfl⟩;refine⟨ae,?_⟩;refine ha rfl (aO (s:=V.sw) (xs:=a6 n3.waits) (m:=n3.waits.length) (k:=1) (us:=w2.cells) (size:=7) rfl rfl (by repeat first|exact .z|apply Pk.s) underlying101 underlying101 (by intro q hq;cases hq) typeInfo177 rfl rfl rfl ?Ag ?alS ?aka ?aea) rfl ?_
    case Ag=>exact zA.sw
    case alS=>exact cz aL rfl rfl
    case aka=>exact cY _
    case aea=>show(_+_)*57≤_;omega
    rintro v L' ⟨CR,rfl,tf,rfl⟩;refine⟨ae,?_⟩;rw[←cJ,show n3.waits.length+1=(n3.waits++[w2]).length by simp]at tf ⊢;refine gh 4 ?_;refine bA (an rfl rfl (by exact bN _ _) sizeOf101 bc rfl rfl) ?_;refine gy 2 ?_;refine bq ?_;intro K16 Ek
    have iB: ∀x:NV × aa,(n.write w data=x.2.gp w2 (n1.dL w data)∧x.2.out.length≤1000000∧ct x.1 x.2)→Sk 136 K16 ([(0,ptr F.p),(4,ptr b4),(6,ptr b6)]) (sc b4 w2.cells 177::sc b6 (bd.cells (n1.dL w data)) 127::ao F x.1 x.2++R):=by
     rintro⟨V5,n5⟩ Jv;refine Ek _ _ ?_;obtain⟨HM,O5,Hp⟩:=Jv;dsimp only at HM O5 Hp ⊢;unfold ao;refine gc 2 ?_;refine y (ak rfl isAgg177 sizeOf177 aL (by rfl)) rfl ?_;refine bK (L5 (V:=V5) (n:=n5) (w:=w2)) call151 ?_;refine gy 2 ?_;refine cc rfl (fun TI=>?_) (fun TI=>?_)
     ·have HN:n.write w data=n5.store (n1.dL w data) w.cl w.n:=HM.trans (if_pos TI);refine gc 2 ?_;refine y (ak rfl isAgg127 sizeOf127 aL (by rfl)) rfl ?_;refine gy 4 ?_;refine aA (rH (V:=V5) (n:=n5) (x:=n1.dL w data) ?akC ?arI) rfl call152 aZ rfl ?_
      case akC=>exact Hp.out
      case arI=>exact O5
      rintro v L' ⟨Qz,rfl,Ix,rfl⟩;refine gy 1 ?_;refine aN results103 (L1:=ao F {V5 with out:=Qz} (n5.store (n1.dL w data) w.cl w.n)++R) ae ?_;rw[HN];exact⟨_,⟨{V5 with out:=Qz},rfl,⟨Ix,Hp.sw,Hp.si,Hp.sl⟩,rfl⟩,rfl⟩
     have HN:n.write w data=n5:=HM.trans (if_neg (by rw[TI];simp));refine gc 1 ?_;refine aN results103 (L1:=ao F V5 n5++R) ae ?_;rw[HN];exact⟨_,⟨V5,rfl,Hp,rfl⟩,rfl⟩
    clear Ek;refine gc 2 ?_;refine bK (lH (V:=⟨V.out,CR,V.ps,CT,jn⟩) (n:={n3 with s:=ad.2,waits:=n3.waits++[w2]})) call114 ?_;refine gy 2 ?_;refine cc rfl (fun BX=>?_) (fun BX=>?_)
    ·have l7:aa.jM {n3 with s:=ad.2,waits:=n3.waits++[w2]} ⟨ad.1.1,w.bE,data,w.cl,w.n⟩=aa.put {n3 with s:=ad.2,waits:=n3.waits++[w2]} ⟨ad.1.1,w.bE,data,w.cl,w.n⟩:=if_pos BX;refine gc 2 ?_;refine y (ak rfl isAgg228 sizeOf228 aL (by rfl)) rfl ?_;refine aA (aav (V:=⟨V.out,CR,V.ps,CT,jn⟩) (n:={n3 with s:=ad.2,waits:=n3.waits++[w2]}) (x:=⟨ad.1.1,w.bE,data,w.cl,w.n⟩) ?ah7 ?abF ?ajE) rfl call160 aZ rfl ?_
     case ah7=>exact gb.a.id
     case abF=>exact zA.out
     case ajE=>have:=gb.out;show n3.out.length≤1000000;omega
     rintro v L' ⟨aa0,rfl,Iw,rfl⟩;refine gy 2 ?_;exact aV aq ae (iB (⟨aa0,CR,V.ps,CT,jn⟩,aa.put {n3 with s:=ad.2,waits:=n3.waits++[w2]} ⟨ad.1.1,w.bE,data,w.cl,w.n⟩) ⟨by rw[Pg,l7],by have:=(lf.put ⟨ad.1.1,w.bE,data,w.cl,w.n⟩).out;dsimp only;omega,⟨Iw,tf,pO,zA.sl⟩⟩)
    have l7:aa.jM {n3 with s:=ad.2,waits:=n3.waits++[w2]} ⟨ad.1.1,w.bE,data,w.cl,w.n⟩={n3 with s:=(ad.2.wb ad.1.1).2,waits:=n3.waits++[w2]}:=if_neg (by rw[BX];simp);unfold bB;refine aS 7 (od [] 7 0) (_) Tryz.mixed (by kernel_rfl) .refl ?_;refine gh 8 ?_;refine aA (aao (S:=ad.2) (q:=ad.1.1) ?acg ?acp) rfl call115 aZ rfl ?_
    case acg=>exact lf.s.fit (by decide)
    case acp=>exact pO
    rintro v L' ⟨ab6,rfl,QC,rfl⟩;refine gy 2 ?_;exact aV aq ae (iB (⟨V.out,CR,V.ps,ab6,jn⟩,{n3 with s:=(ad.2.wb ad.1.1).2,waits:=n3.waits++[w2]}) ⟨by rw[Pg,l7],by have:=gb.out;show n3.out.length≤1000000;omega,⟨zA.out,tf,QC,zA.sl⟩⟩)
   clear wh;refine gc 3 ?_;refine bK (qP (V:={V with sl:=jn}) (n:=n1.bf r)) call121 ?_;refine gy 2 ?_;refine cv 69 rfl (fun Oi=>?_) (fun Oi=>?_)
   ·have Cj:n.write w data=(n1.bf r).err r.1:=Ci.trans (if_neg (by show¬decide (r.1=0)=true;simpa using Oi));refine gy 14 ?_;refine bj results103 (L1:=ao F {V with sl:=jn} ((n1.bf r).err r.1)++R) ae ?_;rw[Cj];exact⟨_,⟨{V with sl:=jn},rfl,⟨dN.out,dN.sw,dN.si,uQ⟩,rfl⟩,rfl⟩
   have Cj:=Ci.trans (if_pos (by show decide (r.1=0)=true;simpa using Oi));unfold bB;refine gy 5 ?_;refine bV ?_;refine bK (AS (C:=r.2.1) (D:=r.2.2) ?X8) call158 ?_
   case X8=>exact qd.ok.d
   refine bV ?_;refine bK (qP (V:={V with sl:=jn}) (n:=aa.bf ((n1.bf r).err r.1) (r.2.1.sync r.2.2))) call121 ?_;refine gy 4 ?_;refine cc rfl (fun Ol=>?_) (fun Ol=>?_)
   ·have x8:n.write w data=aa.err (aa.bf ((n1.bf r).err r.1) (r.2.1.sync r.2.2)) (r.2.1.sync r.2.2).1:=Cj.trans (if_neg (by show¬decide ((r.2.1.sync r.2.2).1=0)=true;rw[decide_eq_true_eq];exact Ol));refine gc 2 ?_;refine bj results103 (L1:=ao F {V with sl:=jn} (aa.err (aa.bf ((n1.bf r).err r.1) (r.2.1.sync r.2.2)) (r.2.1.sync r.2.2).1)++R) ae ?_;rw[x8];exact⟨_,⟨{V with sl:=jn},rfl,⟨dN.out,dN.sw,dN.si,uQ⟩,rfl⟩,rfl⟩
   have x8:n.write w data=aa.jo (aa.err (aa.bf ((n1.bf r).err r.1) (r.2.1.sync r.2.2)) (r.2.1.sync r.2.2).1) w (n1.dL w data):=Cj.trans (if_pos (by show decide ((r.2.1.sync r.2.2).1=0)=true;rw[decide_eq_true_eq];exact Ol));refine gc 2 ?_;exact aV aq ae (zR _ ⟨x8,(((cD.bf qd).err r.1).iO (uV qd.ok)),⟨dN.out,dN.sw,dN.si,uQ⟩,agY⟩)
  refine na rfl (aB zeroValue127 rfl) rfl ?_;rintro v L' ⟨b6,rfl,rfl⟩;refine⟨ae,?_⟩;refine fy rfl (nu ?ach ?acr) rfl call51 aZ rfl ?_
  case ach=>exact cD.s.fit (by decide)
  case acr=>exact dN.si
  rintro v L' ⟨rfl,rfl⟩;refine⟨ae,?_⟩;refine nz rfl (uA rfl rfl) rfl ?_;rw[wr (by omega) (by omega)];refine nz rfl (cA ([i64 n1.ah,i64 (n1.s.last+1)])) rfl ?_;refine nz rfl (cA (bd.cells (n1.dL w data))) rfl ?_;refine ik ?_;refine bA (ai rfl rfl (gi _) sizeOf127 bc rfl rfl) ?_;refine gy 3 ?_;refine aS 5 (od [] 5 0) (_) Tryz.mixed (by kernel_rfl) .refl ?_;refine gh 4 ?_;refine hr rfl (ak rfl isAgg127 sizeOf127 aL (by rfl)) rfl ?_;refine gh 1 ?_;refine aA (Un (C:=n1.c) (D:=n1.d) (x:=n1.dL w data) ?XZ ?ZY) rfl call157 aZ rfl ?_
  case XZ=>exact cD.p.c
  case ZY=>exact dN.sl
  rintro v L' ⟨jn,rfl,uQ,rfl⟩;rw[hR]at uQ ⊢;refine gy 9 ?_;refine cc rfl (fun Hd=>?_) (fun Hd=>?_)
  ·have Ci:n.write w data=(n1.bf r).answer w 12 []:=z7.trans (Ko hR Hd);refine gc 1 ?_;have AG:r.1=12:=by assumption
   refine gy 1 ?_;refine y (ak rfl isAgg177 sizeOf177 aL (by rfl)) rfl ?_;refine gy 1 ?_;rw[AG];refine aA (gF (V:={V with sl:=jn}) (n:=n1.bf r) (w:=w) (e:=12) (data:=[]) ?aiK ?abO ?ajN) rfl call101 aZ rfl ?_
   case aiK=>exact oY
   case abO=>exact dN.out
   case ajN=>have:=cD.out;show n1.out.length≤1000000;omega
   rintro v L' ⟨o64,rfl,QP,rfl⟩;refine gy 4 ?_;refine bj results103 (L1:=ao F {V with sl:=jn,out:=o64} ((n1.bf r).answer w 12 [])++R) ae ?_;rw[Ci];exact⟨_,⟨{V with sl:=jn,out:=o64},rfl,⟨QP,dN.sw,dN.si,uQ⟩,rfl⟩,rfl⟩
  have Ci:=z7.trans (Xc (w:=w) hR Hd);refine gc 2 ?_;refine bq ?_;intro K24 Em
  have zR: ∀x:aa,(n.write w data=x.jo w (n1.dL w data)∧x.ok 970000∧ct {V with sl:=jn} x∧x.waits.length<16)→Sk 136 K24 ([(0,ptr F.p),(2,str data),(4,ptr b4),(6,ptr b6)]) (sc b4 w.cells 177::sc b6 (bd.cells (n1.dL w data)) 127::ao F {V with sl:=jn} x++R):=by
   rintro n3 Lj;refine Em _ _ ?_;obtain⟨x8,gb,zA,ZQ⟩:=Lj;unfold ao bB;obtain⟨ad,hA⟩: ∃z,n3.s.add ⟨0,w.bE,data,w.cl,w.n⟩=z:=⟨_,rfl⟩;have Zh:(⟨0,w.bE,data,w.cl,w.n⟩:dY).ok:=⟨aa.wE,hw.bE,Nat.le_of_eq hd,⟨by show-1≤w.cl;omega,oY.2⟩,⟨by show 0≤w.n;omega,zE.2⟩⟩;have hq:gg ad.1.1:=hA▸gb.s.wL _;let w2:ar:={w with seq:=ad.1.1};have lf:({n3 with s:=ad.2,waits:=n3.waits++[w2]}:aa).ok 970001:=aa.ok.l8 (n:={n3 with s:=ad.2}) ((gb.le (show 970000≤970001 by decide)).y5 (show mG 970001 ad.2 by rw[←hA];exact gb.s.add Zh)) (w:=w2) ⟨hw.cl,hw.n,hw.op,hw.bE,hq,by have:=hw.load;show 0≤w.load∧w.load≤((970001:Nat):Int);omega⟩ ZQ
   have Pg:n.write w data=(aa.jM {n3 with s:=ad.2,waits:=n3.waits++[w2]} ⟨ad.1.1,w.bE,data,w.cl,w.n⟩).gp w2 (n1.dL w data):=by
     rw[x8];unfold aa.jo aa.zq;show(aa.jM {n3 with s:=(n3.s.add ⟨0,w.bE,data,w.cl,w.n⟩).2,waits:=n3.waits++[{w with seq:=(n3.s.add ⟨0,w.bE,data,w.cl,w.n⟩).1.1}]} ⟨(n3.s.add ⟨0,w.bE,data,w.cl,w.n⟩).1.1,w.bE,data,w.cl,w.n⟩).gp {w with seq:=(n3.s.add ⟨0,w.bE,data,w.cl,w.n⟩).1.1} (n1.dL w data)=_;rw[hA]
   refine gc 8 ?_;refine y (cA (dY.cells ⟨0,w.bE,data,w.cl,w.n⟩)) rfl ?_;refine ya (aB zeroValue228 rfl) rfl ?_;rintro v L' ⟨b8,rfl,rfl⟩;refine bA (ai rfl rfl (pG _) sizeOf228 bc rfl rfl) ?_;refine gy 3 ?_;refine kO 12 (.op 0 0 (.op 1 0 (.op 2 0 (.op 3 0 (.op 4 1 (.op 5 1 (.op 6 2 (.op 7 0 (.op 8 0 (.op 9 0 (.op 10 0 (.op 11 3 (.nil))))))))))))) ([sc b8 _ 228,sc F.p _ 106]++R) Tryz.mixed (by kernel_rfl) ae ?_;refine nz rfl (ba rfl) rfl ?_;refine nz rfl (fD rfl) rfl ?_;refine nz rfl (aT 26 rfl underlying106 rfl sizeOf104) rfl ?_;refine nz rfl (aT 5 rfl underlying104 rfl sizeOf102) rfl ?_;refine nr rfl (bR rfl isAgg102 aL rfl) rfl ?_;refine nr rfl (ak rfl isAgg228 sizeOf228 aL (by rfl)) rfl ?_;refine fy rfl (UH (S:=n3.s) (x:=⟨0,w.bE,data,w.cl,w.n⟩) ?acj ?acv) rfl call159 aZ rfl ?_
   case acj=>exact gb.s.fit (by decide)
   case acv=>exact zA.si
   rintro v L' ⟨CT,rfl,pO,rfl⟩;refine⟨ae,?_⟩;rw[hA]at pO ⊢;refine nz rfl (ba rfl) rfl ?_;refine nz rfl (cV rfl rfl) rfl ?_;refine nz rfl (cV rfl rfl) rfl ?_;refine nz rfl (aT 0 rfl underlying228 rfl sizeOf2) rfl ?_;refine ah3 (R) rfl (an rfl rfl (by rfl) sizeOf2 bc rfl rfl) ?_;rintro v L' ⟨rfl,rfl⟩;refine⟨ae,?_⟩;refine ik ?_;refine gy 6 ?_;refine bA (an rfl rfl (by rfl) sizeOf2 bc rfl rfl) ?_;refine gy 3 ?_;refine aS 12 (od [7,8] 12 0) ([sc b4 _ 177,sc F.p _ 106]++R) Tryz.mixed (by kernel_rfl) ae ?_;refine gh 6 ?_;refine hr rfl (ak rfl isAgg177 sizeOf177 aL (by rfl)) rfl ?_;refine ha rfl (aE rfl underlying101 sizeOf177 zeroValue177 rfl rfl rfl rfl ⟨⟨_,_,rfl,(by rfl),(by decide)⟩,trivial⟩ (by dsimp[bt,aX,aY,bS]<;>rfl)) rfl ?_;rintro v L' ⟨am9,rfl,rfl⟩;refine⟨ae,?_⟩;refine ha rfl (aO (s:=V.sw) (xs:=a6 n3.waits) (m:=n3.waits.length) (k:=1) (us:=w2.cells) (size:=7) rfl rfl (by repeat first|exact .z|apply Pk.s) underlying101 underlying101 (by intro q hq;cases hq) typeInfo177 rfl rfl rfl ?ai6 ?acL ?abv ?XH) rfl ?_
   case ai6=>exact zA.sw
   case acL=>exact cz aL rfl rfl
   case abv=>exact cY _
   case XH=>show(_+_)*57≤_;omega
   rintro v L' ⟨CR,rfl,tf,rfl⟩;refine⟨ae,?_⟩;rw[←cJ,show n3.waits.length+1=(n3.waits++[w2]).length by simp]at tf ⊢;refine gh 4 ?_;refine bA (an rfl rfl (by exact bN _ _) sizeOf101 bc rfl rfl) ?_;refine gy 2 ?_;refine bq ?_;intro K29 afM
   have iB: ∀x:NV × aa,(n.write w data=x.2.gp w2 (n1.dL w data)∧x.2.out.length≤1000000∧ct x.1 x.2)→Sk 136 K29 ([(0,ptr F.p),(4,ptr b4),(6,ptr b6)]) (sc b4 w2.cells 177::sc b6 (bd.cells (n1.dL w data)) 127::ao F x.1 x.2++R):=by
    rintro⟨V5,n5⟩ Jv;refine afM _ _ ?_;obtain⟨HM,O5,Hp⟩:=Jv;dsimp only at HM O5 Hp ⊢;unfold ao;refine gc 2 ?_;refine y (ak rfl isAgg177 sizeOf177 aL (by rfl)) rfl ?_;refine bK (L5 (V:=V5) (n:=n5) (w:=w2)) call151 ?_;refine gy 2 ?_;refine cc rfl (fun Ov=>?_) (fun Ov=>?_)
    ·have HN:n.write w data=n5.store (n1.dL w data) w.cl w.n:=HM.trans (if_pos Ov);refine gc 2 ?_;refine y (ak rfl isAgg127 sizeOf127 aL (by rfl)) rfl ?_;refine gy 4 ?_;refine aA (rH (V:=V5) (n:=n5) (x:=n1.dL w data) ?abR ?ajQ) rfl call152 aZ rfl ?_
     case abR=>exact Hp.out
     case ajQ=>exact O5
     rintro v L' ⟨Qz,rfl,Ix,rfl⟩;refine gy 1 ?_;refine aN results103 (L1:=ao F {V5 with out:=Qz} (n5.store (n1.dL w data) w.cl w.n)++R) ae ?_;rw[HN];exact⟨_,⟨{V5 with out:=Qz},rfl,⟨Ix,Hp.sw,Hp.si,Hp.sl⟩,rfl⟩,rfl⟩
    have HN:n.write w data=n5:=HM.trans (if_neg (by rw[Ov];simp));refine gc 1 ?_;refine aN results103 (L1:=ao F V5 n5++R) ae ?_;rw[HN];exact⟨_,⟨V5,rfl,Hp,rfl⟩,rfl⟩
   clear afM;refine gc 2 ?_;refine bK (lH (V:=⟨V.out,CR,V.ps,CT,jn⟩) (n:={n3 with s:=ad.2,waits:=n3.waits++[w2]})) call114 ?_;refine gy 2 ?_;refine cc rfl (fun YA=>?_) (fun YA=>?_)
   ·have l7:aa.jM {n3 with s:=ad.2,waits:=n3.waits++[w2]} ⟨ad.1.1,w.bE,data,w.cl,w.n⟩=aa.put {n3 with s:=ad.2,waits:=n3.waits++[w2]} ⟨ad.1.1,w.bE,data,w.cl,w.n⟩:=if_pos YA;refine gc 2 ?_;refine y (ak rfl isAgg228 sizeOf228 aL (by rfl)) rfl ?_;refine aA (aav (V:=⟨V.out,CR,V.ps,CT,jn⟩) (n:={n3 with s:=ad.2,waits:=n3.waits++[w2]}) (x:=⟨ad.1.1,w.bE,data,w.cl,w.n⟩) ?aie ?abT ?ajS) rfl call160 aZ rfl ?_
    case aie=>exact gb.a.id
    case abT=>exact zA.out
    case ajS=>have:=gb.out;show n3.out.length≤1000000;omega
    rintro v L' ⟨aa0,rfl,Iw,rfl⟩;refine gy 2 ?_;exact aV aq ae (iB (⟨aa0,CR,V.ps,CT,jn⟩,aa.put {n3 with s:=ad.2,waits:=n3.waits++[w2]} ⟨ad.1.1,w.bE,data,w.cl,w.n⟩) ⟨by rw[Pg,l7],by have:=(lf.put ⟨ad.1.1,w.bE,data,w.cl,w.n⟩).out;dsimp only;omega,⟨Iw,tf,pO,zA.sl⟩⟩)
   have l7:aa.jM {n3 with s:=ad.2,waits:=n3.waits++[w2]} ⟨ad.1.1,w.bE,data,w.cl,w.n⟩={n3 with s:=(ad.2.wb ad.1.1).2,waits:=n3.waits++[w2]}:=if_neg (by rw[YA];simp);unfold bB;refine aS 7 (od [] 7 0) (_) Tryz.mixed (by kernel_rfl) .refl ?_;refine gh 8 ?_;refine aA (aao (S:=ad.2) (q:=ad.1.1) ?acm ?acw) rfl call115 aZ rfl ?_
   case acm=>exact lf.s.fit (by decide)
   case acw=>exact pO
   rintro v L' ⟨ab6,rfl,QC,rfl⟩;refine gy 2 ?_;exact aV aq ae (iB (⟨V.out,CR,V.ps,ab6,jn⟩,{n3 with s:=(ad.2.wb ad.1.1).2,waits:=n3.waits++[w2]}) ⟨by rw[Pg,l7],by have:=gb.out;show n3.out.length≤1000000;omega,⟨zA.out,tf,QC,zA.sl⟩⟩)
  clear Em;refine gc 3 ?_;refine bK (qP (V:={V with sl:=jn}) (n:=n1.bf r)) call121 ?_;refine gy 2 ?_;refine cv 69 rfl (fun YF=>?_) (fun YF=>?_)
  ·have Cj:n.write w data=(n1.bf r).err r.1:=Ci.trans (if_neg (by show¬decide (r.1=0)=true;simpa using YF));refine gy 14 ?_;refine bj results103 (L1:=ao F {V with sl:=jn} ((n1.bf r).err r.1)++R) ae ?_;rw[Cj];exact⟨_,⟨{V with sl:=jn},rfl,⟨dN.out,dN.sw,dN.si,uQ⟩,rfl⟩,rfl⟩
  have Cj:=Ci.trans (if_pos (by show decide (r.1=0)=true;simpa using YF));unfold bB;refine gy 5 ?_;refine bV ?_;refine bK (AS (C:=r.2.1) (D:=r.2.2) ?Ya) call158 ?_
  case Ya=>exact qd.ok.d
  refine bV ?_;refine bK (qP (V:={V with sl:=jn}) (n:=aa.bf ((n1.bf r).err r.1) (r.2.1.sync r.2.2))) call121 ?_;refine gy 4 ?_;refine cc rfl (fun YH=>?_) (fun YH=>?_)
  ·have x8:n.write w data=aa.err (aa.bf ((n1.bf r).err r.1) (r.2.1.sync r.2.2)) (r.2.1.sync r.2.2).1:=Cj.trans (if_neg (by show¬decide ((r.2.1.sync r.2.2).1=0)=true;rw[decide_eq_true_eq];exact YH));refine gc 2 ?_;refine bj results103 (L1:=ao F {V with sl:=jn} (aa.err (aa.bf ((n1.bf r).err r.1) (r.2.1.sync r.2.2)) (r.2.1.sync r.2.2).1)++R) ae ?_;rw[x8];exact⟨_,⟨{V with sl:=jn},rfl,⟨dN.out,dN.sw,dN.si,uQ⟩,rfl⟩,rfl⟩
  have x8:n.write w data=aa.jo (aa.err (aa.bf ((n1.bf r).err r.1) (r.2.1.sync r.2.2)) (r.2.1.sync r.2.2).1) w (n1.dL w data):=Cj.trans (if_pos (by show decide ((r.2.1.sync r.2.2).1=0)=true;rw[decide_eq_true_eq];exact YH));refine gc 2 ?_;exact aV aq ae (zR _ ⟨x8,(((cD.bf qd).err r.1).iO (uV qd.ok)),⟨dN.out,dN.sw,dN.si,uQ⟩,agY⟩)
 clear B4;refine gc 1 ?_;refine aS 11 (od [1,10] 11 0) ([sc b4 _ 177,sc F.p _ 106]++R) Tryz.mixed (by kernel_rfl) ae ?_;refine gh 1 ?_;refine bg rfl (oc (V:=V) (n:=n)) rfl call118 aZ rfl ?_;rintro v L' ⟨rfl,rfl⟩;refine⟨ae,?_⟩;refine gh 1 ?_;refine fZ 21 rfl (fun YJ=>?_) (fun YJ=>?_)
 ·have Ue:n.iL w=n.BM r1:=by unfold aa.iL;rw[if_pos YJ,Y4]
  unfold bB;refine gh 7 ?_;refine fk rfl rfl rfl (NZ (L:=n.dr) (D:=n.d) (i:=w.bE) ?aeX ?aeU ?aeW) rfl call156 aZ rfl ?_
  case aeX=>exact hn.p.dr
  case aeU=>omega
  case aeW=>omega
  rintro v L' ⟨rfl,rfl⟩;refine⟨ae,?_⟩;rw[Y4];refine gh 1 ?_;refine bV ?_;refine bK (qP (V:=V) (n:=n.iG r1)) call121 ?_;refine gy 4 ?_;refine cc rfl (fun YL=>?_) (fun YL=>?_)
  ·have z7:n.write w data=(n.iG r1).err r1.1:=by rw[JI,Ue];exact if_neg (by show¬decide (r1.1=0)=true;simpa using YL)
   refine gc 2 ?_;refine bj results103 (L1:=ao F V ((n.iG r1).err r1.1)++R) ae ?_;rw[z7];exact⟨_,⟨V,rfl,⟨hV.out,hV.sw,hV.si,hV.sl⟩,rfl⟩,rfl⟩
  have z7:n.write w data=aa.iM ((n.iG r1).err r1.1) w (aa.dL ((n.iG r1).err r1.1) w data):=by rw[JI,Ue];exact if_pos (by show decide (r1.1=0)=true;simpa using YL)
  refine gc 2 ?_;exact aV aq ae (nh ((n.iG r1).err r1.1) ⟨z7,apI,⟨hV.out,hV.sw,hV.si,hV.sl⟩,(by show n.s.last<_;omega),Gj⟩)
 have Ue:n.iL w=(true,n):=by unfold aa.iL;rw[if_neg (by rw[YJ];simp)]
 have z7:n.write w data=n.iM w (n.dL w data):=by rw[JI,Ue];rfl
 refine gh 7 ?_;refine lF rfl rfl rfl rfl rfl ae ?_;refine gh 9 ?_;exact aV aq ae (nh n ⟨z7,hn,hV,(by omega),Gj⟩)
end W
end Go.Proofs