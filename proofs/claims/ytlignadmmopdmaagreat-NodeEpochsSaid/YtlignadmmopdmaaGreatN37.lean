/- A part of the proof. -/
import Derived.Test.YtlignadmmopdmaaGreatUn
import Derived.Test.YtlignadmmopdmaaGreatN35
set_option linter.unusedVariables false
set_option linter.unusedSimpArgs false
set_option linter.constructorNameAsVariable false
namespace Go.Proofs
open _root_.Go.Proofs.Tryz
open Go Go.Sl
namespace W
set_option maxHeartbeats 4000000
theorem Ct{n:aa}{m:aM}{r:Int × aQ × az}(hR:n.c.put n.d (aa.uL m)=r)(h:r.1=12∨r.1=2∨r.1=3∨r.1=1):n.wC m=(false,n.bf r):=by unfold aa.wC;rw[hR,if_pos h]
theorem JP{n:aa}{m:aM}{r:Int × aQ × az}(hR:n.c.put n.d (aa.uL m)=r)(h: ¬(r.1=12∨r.1=2∨r.1=3∨r.1=1)):n.wC m=n.iO r:=by unfold aa.wC;rw[hR,if_neg h]
def Uv(n:aa)(m:aM):Bool × aa:=if m.block<0 then n.iO (n.c.note n.d m.ah m.seq (aa.wH m).l)else aa.gz (n.Aa m) fun n=>n.wC m
theorem aqw [Env]{R:List ax}{F:NF}{V:NV}{n:aa}{m:aM}(hn:n.ok 970000)(hV:ct V n):
   bC Tryz.prog 175 [ptr F.p,.agg m.cells.toArray,.agg #[i64 m.ah,i64 m.seq]] (ao F V n) R (KN F (n.lay m).2 (.bool (n.lay m).1)):=by
 obtain⟨r1,Y4⟩: ∃z,n.c.reset n.d n.c.k.e n.c.k.s (aa.wH m).l=z:=⟨_,rfl⟩;have ao6:jR n.c n.d r1:=by rw[←Y4];exact ow hn.p.c _ _ _
 have EF:n.lay m=aa.gz (n.wB m) fun n=>Uv n m:=rfl
 refine ag func175 ntmps175 rfl rfl ?_;unfold ao bB;refine gc 1 ?_;refine ya (a7 (vs:=m.cells) rfl rfl) rfl ?_;rintro v L' ⟨b4,rfl,rfl⟩;refine ya (a7 (vs:=[i64 m.ah,i64 m.seq]) rfl rfl) rfl ?_;rintro v L' ⟨b5,rfl,rfl⟩;refine gy 3 ?_;refine bq ?_;intro K2 gM
 have Ll: ∀x:NV × aa,(n.lay m=Uv x.2 m∧x.2.ok 970000∧ct x.1 x.2)→Sk 94 K2 ([(0,ptr F.p),(4,ptr b4),(5,ptr b5)]) (sc b4 m.cells 34::sc b5 [i64 m.ah,i64 m.seq] 84::ao F x.1 x.2++R):=by
  rintro⟨V1,n1⟩ afF;refine gM _ _ ?_;obtain⟨EG,cD,dN⟩:=afF;dsimp only at EG cD dN ⊢;unfold ao bB;unfold Uv at EG;obtain⟨r2,hR2⟩: ∃z,n1.c.note n1.d m.ah m.seq (aa.wH m).l=z:=⟨_,rfl⟩;obtain⟨r3,hR3⟩: ∃z,n1.c.note n1.d 0 0 (aa.wH m).l=z:=⟨_,rfl⟩;have ao7:jR n1.c n1.d r3:=by rw[←hR3];exact kb cD.p.c _ _ _
  refine gc 7 ?_;refine cc rfl (fun h7=>?_) (fun h7=>?_)
  ·rw[if_pos h7,hR2]at EG;refine gc 1 ?_;refine aS 9 (od [8] 9 0) ([sc b4 _ 34,sc b5 _ 84,sc F.p _ 106]++R) Tryz.mixed (by kernel_rfl) ae ?_;refine gh 5 ?_;refine hr rfl (ay (u:=[i64 m.ah,i64 m.seq]) rfl isAgg84 sizeOf84 aL rfl rfl) rfl ?_;refine gh 1 ?_;refine hr rfl (iJ rfl underlying32 sizeOf2) rfl ?_;refine bg rfl (JL (C:=n1.c) (D:=n1.d) (e:=m.ah) (s:=m.seq) (ns:=(aa.wH m).l) ?aez ?ag1 ?apZ ?Lw) rfl call166 aZ rfl ?_
   case aez=>exact cD.p.c
   case ag1=>exact dN.sl
   case apZ=>exact eh aL rfl rfl
   case Lw=>show 4<1000000;decide
   rintro v L' ⟨ace,rfl,Vb,rfl⟩;refine⟨ae,?_⟩;rw[hR2]at Vb ⊢;refine gh 1 ?_;refine bK (qP (V:={V1 with sl:=ace}) (n:=n1.bf r2)) call121 ?_;refine gy 5 ?_;refine aj results175 rfl (L1:=ao F {V1 with sl:=ace} ((n1.bf r2).err r2.1)++R) ae ?_;rw[EG];exact⟨_,⟨{V1 with sl:=ace},rfl,⟨dN.out,dN.sw,dN.si,Vb⟩,rfl⟩,rfl⟩
  rw[if_neg (by omega)]at EG;refine gc 2 ?_;refine bq ?_;intro K6 ma
  have pC: ∀x:NV × aa,(n.lay m=x.2.wC m∧x.2.ok 970000∧ct x.1 x.2)→Sk 94 K6 ([(0,ptr F.p),(4,ptr b4),(5,ptr b5)]) (sc b4 m.cells 34::sc b5 [i64 m.ah,i64 m.seq] 84::ao F x.1 x.2++R):=by
   rintro⟨V2,n2⟩ B1;refine ma _ _ ?_;obtain⟨uI,eV,jC⟩:=B1;dsimp only at uI eV jC ⊢;unfold ao bB;obtain⟨r,hR⟩: ∃z,n2.c.put n2.d (aa.uL m)=z:=⟨_,rfl⟩;refine gc 1 ?_;refine aS 14 (od [] 14 0) (_) Tryz.mixed (by kernel_rfl) .refl ?_;refine gh 6 ?_;refine hr rfl (ay (u:=[i64 m.ah,i64 m.seq]) rfl isAgg84 sizeOf84 aL rfl rfl) rfl ?_;refine gh 6 ?_;refine hr rfl (cA (bd.cells (aa.uL m))) rfl ?_;refine gh 1 ?_;refine aA (Un (C:=n2.c) (D:=n2.d) (x:=aa.uL m) ?NU ?Pn) rfl call157 aZ rfl ?_
   case NU=>exact eV.p.c
   case Pn=>exact jC.sl
   rintro v L' ⟨tJ,rfl,Mi,rfl⟩;rw[hR]at Mi ⊢;refine gy 14 ?_;refine cc rfl (fun OE=>?_) (fun OE=>?_)
   ·refine gc 2 ?_;refine cc rfl (fun Dd=>?_) (fun Dd=>?_)
    ·refine gc 1 ?_;have wq:n.lay m=(false,n2.bf r):=uI.trans (Ct hR (by omega));refine gy 5 ?_;refine aj results175 rfl (L1:=ao F {V2 with sl:=tJ} (n2.bf r)++R) ae ?_;rw[wq];exact⟨_,⟨{V2 with sl:=tJ},rfl,⟨jC.out,jC.sw,jC.si,Mi⟩,rfl⟩,rfl⟩
    refine gc 1 ?_;have wq:n.lay m=n2.iO r:=uI.trans (JP hR (by omega));refine gy 2 ?_;refine bK (qP (V:={V2 with sl:=tJ}) (n:=n2.bf r)) call121 ?_;refine gy 5 ?_;exfalso;omega
   refine gc 5 ?_;refine cc rfl (fun TE=>?_) (fun TE=>?_)
   ·refine gc 2 ?_;refine cc rfl (fun OF=>?_) (fun OF=>?_)
    ·refine gc 1 ?_;have wq:n.lay m=(false,n2.bf r):=uI.trans (Ct hR (by omega));refine gy 5 ?_;refine aj results175 rfl (L1:=ao F {V2 with sl:=tJ} (n2.bf r)++R) ae ?_;rw[wq];exact⟨_,⟨{V2 with sl:=tJ},rfl,⟨jC.out,jC.sw,jC.si,Mi⟩,rfl⟩,rfl⟩
    refine gc 1 ?_;have wq:n.lay m=n2.iO r:=uI.trans (JP hR (by omega));refine gy 2 ?_;refine bK (qP (V:={V2 with sl:=tJ}) (n:=n2.bf r)) call121 ?_;refine gy 5 ?_;exfalso;omega
   refine gc 5 ?_;refine cc rfl (fun h56=>?_) (fun h56=>?_)
   ·refine gc 2 ?_;refine cc rfl (fun Jt=>?_) (fun Jt=>?_)
    ·refine gc 1 ?_;have wq:n.lay m=(false,n2.bf r):=uI.trans (Ct hR (by omega));refine gy 5 ?_;refine aj results175 rfl (L1:=ao F {V2 with sl:=tJ} (n2.bf r)++R) ae ?_;rw[wq];exact⟨_,⟨{V2 with sl:=tJ},rfl,⟨jC.out,jC.sw,jC.si,Mi⟩,rfl⟩,rfl⟩
    refine gc 1 ?_;have wq:n.lay m=n2.iO r:=uI.trans (JP hR (by omega));refine gy 2 ?_;refine bK (qP (V:={V2 with sl:=tJ}) (n:=n2.bf r)) call121 ?_;refine gy 5 ?_;exfalso;omega
   refine gc 5 ?_;refine cc rfl (fun TH=>?_) (fun TH=>?_)
   ·refine gc 1 ?_;have wq:n.lay m=(false,n2.bf r):=uI.trans (Ct hR (by omega));refine gy 5 ?_;refine aj results175 rfl (L1:=ao F {V2 with sl:=tJ} (n2.bf r)++R) ae ?_;rw[wq];exact⟨_,⟨{V2 with sl:=tJ},rfl,⟨jC.out,jC.sw,jC.si,Mi⟩,rfl⟩,rfl⟩
   refine gc 1 ?_;have wq:n.lay m=n2.iO r:=uI.trans (JP hR (by omega));refine gy 2 ?_;refine bK (qP (V:={V2 with sl:=tJ}) (n:=n2.bf r)) call121 ?_;refine gy 5 ?_;refine aj results175 rfl (L1:=ao F {V2 with sl:=tJ} ((n2.bf r).err r.1)++R) ae ?_;rw[wq];exact⟨_,⟨{V2 with sl:=tJ},rfl,⟨jC.out,jC.sw,jC.si,Mi⟩,rfl⟩,rfl⟩
  clear ma;refine gc 1 ?_;refine aS 14 (od [3,13] 14 0) ([sc b4 _ 34,sc F.p _ 106]++R) Tryz.mixed (by kernel_rfl) ae ?_;refine gh 2 ?_;refine hr rfl (ay (u:=qL (aa.wH m)) rfl isAgg32 sizeOf32 aL rfl rfl) rfl ?_;refine bg rfl (WT (V:=V1) (n:=n1) (t:=aa.wH m)) rfl call165 aZ rfl ?_;rintro v L' ⟨rfl,rfl⟩;refine⟨ae,?_⟩;unfold bB;refine gh 1 ?_;refine fZ 57 rfl (fun Hm=>?_) (fun Hm=>?_)
  ·have AO:n1.Aa m=n1.iO r3:=by unfold aa.Aa;rw[if_pos Hm,hR3]
   refine gh 5 ?_;refine ko rfl rfl rfl (cA ([i64 0,i64 0])) rfl ?_;refine gh 1 ?_;refine ko rfl rfl rfl (iJ rfl underlying32 sizeOf2) rfl ?_;refine fk rfl rfl rfl (JL (C:=n1.c) (D:=n1.d) (e:=0) (s:=0) (ns:=(aa.wH m).l) ?aeJ ?aha ?ap6 ?apj) rfl call166 aZ rfl ?_
   case aeJ=>exact cD.p.c
   case aha=>exact dN.sl
   case ap6=>exact eh aL rfl rfl
   case apj=>show 4<1000000;decide
   rintro v L' ⟨Vw,rfl,Mg,rfl⟩;refine⟨ae,?_⟩;rw[hR3]at Mg ⊢;refine gh 1 ?_;refine bV ?_;refine bK (qP (V:={V1 with sl:=Vw}) (n:=n1.bf r3)) call121 ?_;refine gy 4 ?_;refine cc rfl (fun YV=>?_) (fun YV=>?_)
   ·have uI:n.lay m=(false,(n1.bf r3).err r3.1):=by rw[EG,AO];unfold aa.gz aa.iO;rw[show decide (r3.1=0)=false by simpa using YV];rfl
    refine gc 6 ?_;refine aj results175 rfl (L1:=ao F {V1 with sl:=Vw} ((n1.bf r3).err r3.1)++R) ae ?_;rw[uI];exact⟨_,⟨{V1 with sl:=Vw},rfl,⟨dN.out,dN.sw,dN.si,Mg⟩,rfl⟩,rfl⟩
   have uI:n.lay m=aa.wC ((n1.bf r3).err r3.1) m:=by rw[EG,AO];exact if_pos (by show decide (r3.1=0)=true;simpa using YV)
   refine gc 2 ?_;exact aV aq ae (pC ({V1 with sl:=Vw},(n1.bf r3).err r3.1) ⟨uI,(cD.bf ao7).err _,⟨dN.out,dN.sw,dN.si,Mg⟩⟩)
  have AO:n1.Aa m=(true,n1):=if_neg (by rw[Hm];simp);refine gh 8 ?_;refine lF rfl rfl rfl rfl rfl ae ?_;refine gh 9 ?_;exact aV aq ae (pC (V1,n1) ⟨by rw[EG,AO];rfl,cD,dN⟩)
 clear gM;refine gc 1 ?_;refine aS 29 [(0,true),(1,true),(2,true),(3,true),(4,true),(5,true),(6,false),(7,true),(8,true),(9,true),(10,true),(11,true),(12,true),(13,false),(14,true),(15,true),(16,true),(17,true),(18,true),(19,true),(20,true),(21,true),(22,true),(23,true),(24,true),(26,true),(27,true),(25,false),(28,false)] ([sc b4 _ 34,sc F.p _ 106]++R) Tryz.mixed (by kernel_rfl) ae ?_;refine gh 6 ?_;refine bg rfl (ET (C:=n.c)) rfl call174 aZ rfl ?_;rintro v L' ⟨rfl,rfl⟩;refine⟨ae,?_⟩;refine hr rfl (j4 0 rfl underlying84 rfl isAgg2 rfl) rfl ?_;refine gh 2 ?_;refine fZ 17 rfl (fun Hb=>?_) (fun Hb=>?_)
 ·have TY:n.c.k.e<m.ah:=by simpa using Hb
  refine gh 2 ?_;refine ko rfl rfl rfl (ay (u:=qL (aa.wH m)) rfl isAgg32 sizeOf32 aL rfl rfl) rfl ?_;refine fk rfl rfl rfl (ahW (V:=V) (n:=n) (t:=aa.wH m)) rfl call210 aZ rfl ?_;rintro v L' ⟨rfl,rfl⟩;refine⟨ae,?_⟩;unfold bB;refine gh 2 ?_;refine fZ 23 rfl (fun BZ=>?_) (fun BZ=>?_)
  ·have Cc:n.wB m=n.iO r1:=by unfold aa.wB;rw[if_pos ⟨TY,BZ⟩,Y4]
   refine gh 10 ?_;refine ko rfl rfl rfl (iJ rfl underlying32 sizeOf2) rfl ?_;refine fk rfl rfl rfl (ET (C:=n.c)) rfl call174 aZ rfl ?_;rintro v L' ⟨rfl,rfl⟩;refine⟨ae,?_⟩;refine fk rfl rfl rfl (Pq (C:=n.c) (D:=n.d) (e:=n.c.k.e) (s:=n.c.k.s) (ns:=(aa.wH m).l) ?XX ?ZW ?agW ?agf) rfl call211 aZ rfl ?_
   case XX=>exact hn.p.c
   case ZW=>exact hV.sl
   case agW=>exact eh aL rfl rfl
   case agf=>show 4<1000000;decide
   rintro v L' ⟨Vv,rfl,jQ,rfl⟩;refine⟨ae,?_⟩;rw[Y4]at jQ ⊢;refine gh 1 ?_;refine bV ?_;refine bK (qP (V:={V with sl:=Vv}) (n:=n.bf r1)) call121 ?_;refine gy 4 ?_;refine cc rfl (fun B0=>?_) (fun B0=>?_)
   ·have T0:n.lay m=(false,(n.bf r1).err r1.1):=by rw[EF,Cc];unfold aa.gz aa.iO;rw[show decide (r1.1=0)=false by simpa using B0];rfl
    refine gc 6 ?_;refine aj results175 rfl (L1:=ao F {V with sl:=Vv} ((n.bf r1).err r1.1)++R) ae ?_;rw[T0];exact⟨_,⟨{V with sl:=Vv},rfl,⟨hV.out,hV.sw,hV.si,jQ⟩,rfl⟩,rfl⟩
   have T0:n.lay m=Uv ((n.bf r1).err r1.1) m:=by rw[EF,Cc];exact if_pos (by show decide (r1.1=0)=true;simpa using B0)
   refine gc 2 ?_;exact aV aq ae (Ll ({V with sl:=Vv},(n.bf r1).err r1.1) ⟨T0,(hn.bf ao6).err _,⟨hV.out,hV.sw,hV.si,jQ⟩⟩)
  have Cc:n.wB m=(true,n):=if_neg (fun hh=>by have h8:=hh.2;rw[BZ]at h8;cases h8);refine gh 11 ?_;refine lF rfl rfl rfl rfl rfl ae ?_;refine lF rfl rfl rfl rfl rfl ae ?_;refine gh 9 ?_;exact aV aq ae (Ll (V,n) ⟨by rw[EF,Cc];rfl,hn,hV⟩)
 have Cc:n.wB m=(true,n):=if_neg (fun hh=>by have:=hh.1;have h9:=Hb;simp at h9;omega);refine gh 3 ?_;refine lF rfl rfl rfl rfl rfl ae ?_;refine gh 13 ?_;refine lF rfl rfl rfl rfl rfl ae ?_;refine lF rfl rfl rfl rfl rfl ae ?_;refine gh 9 ?_;exact aV aq ae (Ll (V,n) ⟨by rw[EF,Cc];rfl,hn,hV⟩)
theorem aay [Env]{R:List ax}{F:NF}{V:NV}{n:aa}{m:aM}(hn:n.ok 970000)(hV:ct V n)(hm:m.ok):
   bC Tryz.prog 112 [ptr F.p,.agg m.cells.toArray] (ao F V n) R (KN F (n.taken m) (.tuple #[])):=by
 have kn:=hn.p.c.k.s;have hsq:=hm.seq;unfold gg at kn;obtain⟨q,hq⟩: ∃z,pN n.c.k.e n.c.k.s m.ah m.seq=z:=⟨_,rfl⟩;have JE:n.taken m=if q=0 then n else if q=1 then aa.andThen (aa.gz (n.lay m) aa.sync) fun n=>n.wk m else n.wk m:=by unfold aa.taken;rw[hq]
 refine ag func112 ntmps112 rfl rfl ?_;unfold ao bB;refine gc 1 ?_;refine ya (a7 (vs:=m.cells) rfl rfl) rfl ?_;rintro v L' ⟨b3,rfl,rfl⟩;refine gy 7 ?_;refine y (cA ([i64 m.ah,i64 m.seq])) rfl ?_;refine ya (aB zeroValue84 rfl) rfl ?_;rintro v L' ⟨b4,rfl,rfl⟩;refine bA (ai rfl rfl (by simp[Value.oneCell']) sizeOf84 bc (by rfl) (by rfl)) ?_;refine gy 2 ?_;refine bq ?_;intro K3 pD
 have zQ: ∀x:NV × aa,(n.taken m=x.2.wk m∧x.2.ok 970000∧ct x.1 x.2)→Sk 52 K3 ([(0,ptr F.p),(3,ptr b3)]) (sc b3 m.cells 34::ao F x.1 x.2++R):=by
  rintro⟨V2,n2⟩ Li;refine pD _ _ ?_;obtain⟨EN,eV,jC⟩:=Li;dsimp only at EN eV jC ⊢;unfold ao bB;refine aS 12 [(0,true),(1,true),(3,true),(4,true),(5,true),(6,true),(7,true),(8,true),(2,false),(9,false),(10,true),(11,true)] ([sc b3 _ 34,sc F.p _ 106]++R) Tryz.mixed (by kernel_rfl) ae ?_;refine gh 8 ?_;refine bg rfl (vJ (V:=V2) (n:=n2) ?aqB) rfl call63 aZ rfl ?_
  case aqB=>exact eV.a.id
  rintro v L' ⟨rfl,rfl⟩;refine⟨ae,?_⟩;refine bg rfl (ET (C:=n2.c)) rfl call174 aZ rfl ?_;rintro v L' ⟨rfl,rfl⟩;refine⟨ae,?_⟩;refine hr rfl (j4 1 rfl underlying84 rfl isAgg2 rfl) rfl ?_;refine hr rfl (cA (aM.cells {aa.lT with kind:=6,ah:=m.ah,seq:=n2.c.k.s})) rfl ?_;refine gh 1 ?_;refine aA (nw (V:=V2) (n:=n2) (m:={aa.lT with kind:=6,ah:=m.ah,seq:=n2.c.k.s}) ?QZ ?abb) rfl call67 aZ rfl ?_
  case QZ=>exact jC.out
  case abb=>have:=eV.out;omega
  rintro v L' ⟨o51,rfl,ajz,rfl⟩;refine gy 1 ?_;refine aN results112 (L1:=ao F {V2 with out:=o51} (n2.wk m)++R) ae ?_;rw[EN];exact⟨_,⟨{V2 with out:=o51},rfl,⟨ajz,jC.sw,jC.si,jC.sl⟩,rfl⟩,rfl⟩
 clear pD;refine gc 1 ?_;refine aS 9 [(0,true),(1,true),(2,true),(3,true),(5,true),(6,true),(7,true),(8,true),(4,false)] ([sc b3 _ 34,sc F.p _ 106]++R) Tryz.mixed (by kernel_rfl) ae ?_;refine gh 8 ?_;refine bg rfl (ET (C:=n.c)) rfl call174 aZ rfl ?_;rintro v L' ⟨rfl,rfl⟩;refine⟨ae,?_⟩;refine gh 1 ?_;refine bK (ahX (le:=n.c.k.e) (ls:=n.c.k.s) ?aqy ?aqz) call173 ?_
 case aqy=>omega
 case aqz=>exact hsq
 rw[hq];refine gy 8 ?_;refine cc rfl (fun Eh=>?_) (fun Eh=>?_)
 ·rw[if_pos Eh]at JE;refine gc 3 ?_;refine bj results112 (L1:=ao F V n++R) ae ?_;rw[JE];exact⟨_,⟨V,rfl,hV,rfl⟩,rfl⟩
 rw[if_neg Eh]at JE;refine gc 5 ?_;refine cc rfl (fun zN=>?_) (fun zN=>?_)
 ·rw[if_pos zN]at JE;refine gc 2 ?_;refine y (ak rfl isAgg34 sizeOf34 aL (by rfl)) rfl ?_;refine y (ay (u:=[i64 m.ah,i64 m.seq]) rfl isAgg84 sizeOf84 aL rfl rfl) rfl ?_;refine aA (aqw (V:=V) (n:=n) (m:=m) ?ais ?amn) rfl call175 aZ rfl ?_
  case ais=>exact hn
  case amn=>exact hV
  rintro v L' ⟨jz,rfl,eY,rfl⟩;obtain⟨n1,mo⟩: ∃z,(n.lay m).2=z:=⟨_,rfl⟩;have cD:n1.ok 970000:=mo▸hn.lay m;rw[mo]at eY ⊢;unfold ao bB;refine gy 2 ?_;refine cv 29 rfl (fun zz=>?_) (fun zz=>?_)
  ·have Uc:n.taken m=n1:=by rw[JE,show aa.gz (n.lay m) aa.sync=n.lay m from if_neg (by rw[zz];exact Bool.false_ne_true)];exact(if_neg (by rw[zz];exact Bool.false_ne_true)).trans mo
   refine gy 15 ?_;refine bj results112 (L1:=ao F jz n1++R) ae ?_;rw[Uc];exact⟨_,⟨jz,rfl,eY,rfl⟩,rfl⟩
  have Uc:n.taken m=aa.andThen n1.sync fun n=>n.wk m:=by rw[JE];unfold aa.gz;rw[if_pos zz,mo]
  refine gy 5 ?_;refine bV ?_;refine bK (AS (C:=n1.c) (D:=n1.d) ?N4) call158 ?_
  case N4=>exact cD.p.c.d
  refine bV ?_;refine bK (qP (V:=jz) (n:=n1.bf (n1.c.sync n1.d))) call121 ?_;refine gy 4 ?_;refine cc rfl (fun Gc=>?_) (fun Gc=>?_)
  ·have ZK:n.taken m=n1.sync.2:=Uc.trans (if_neg (by show¬decide ((n1.c.sync n1.d).1=0)=true;rw[decide_eq_true_eq];exact Gc));refine gc 3 ?_;refine bj results112 (L1:=ao F jz n1.sync.2++R) ae ?_;rw[ZK];exact⟨_,⟨jz,rfl,⟨eY.out,eY.sw,eY.si,eY.sl⟩,rfl⟩,rfl⟩
  have ZK:n.taken m=n1.sync.2.wk m:=Uc.trans (if_pos (by show decide ((n1.c.sync n1.d).1=0)=true;rw[decide_eq_true_eq];exact Gc));refine gc 3 ?_;exact aV aq ae (zQ (jz,n1.sync.2) ⟨ZK,cD.sync,⟨eY.out,eY.sw,eY.si,eY.sl⟩⟩)
 rw[if_neg zN]at JE;refine gc 3 ?_;exact aV aq ae (zQ (V,n) ⟨JE,hn,hV⟩)
theorem XT{rb:Nat × Nat}{n:aa}{x:bd}(h:(x.bZ||sN rb.1 rb.2 (x.bE.tdiv 4))=false):aa.eT rb n x=(true,n):=if_neg (by rw[h];simp)
theorem NR{rb:Nat × Nat}{n:aa}{x:bd}(h:(x.bZ||sN rb.1 rb.2 (x.bE.tdiv 4))=true):aa.eT rb n x=n.iO (n.c.drop n.d x.bE):=if_pos h
theorem E0 [Env]{R:List ax}{F:NF}{V:NV}{n:aa}{m:aM}(hn:n.ok 970000)(hV:ct V n)(EL:m.row.length≤1000):
   bC Tryz.prog 176 [ptr F.p,.agg m.cells.toArray,.agg #[i64 m.ah,i64 m.seq]] (ao F V n) R (KN F (n.cM m).2 (.bool (n.cM m).1)):=by
 have sP:=hn.p.bl;have B7:=hn.a.blocks;have lQ:=aa.ui hn;have hlen:=aa.pY hn;obtain⟨Ue,sS⟩:=yp m.row;obtain⟨e,he⟩: ∃z,(dJ m.row).2.2=z:=⟨_,rfl⟩;obtain⟨rn,hrn⟩: ∃z,(dJ m.row).1=z:=⟨_,rfl⟩;obtain⟨rb,T9⟩: ∃z,(dJ m.row).2.1=z:=⟨_,rfl⟩;rw[hrn,T9]at sS;rw[hrn]at Ue;have oY:n.cM m=if¬e=0∨ ¬rn=ef n.dr.n then(false,n)else aa.gz (aa.ia (aa.eT (rn,rb)) n.c.all n) fun n=>aa.gz (n.iO (n.c.reset n.d m.ah m.seq (aa.wH m).l)) aa.sync:=by unfold aa.cM;rw[he,hrn,T9]
 refine ag func176 ntmps176 rfl rfl ?_;unfold ao bB;refine gc 1 ?_;refine ya (a7 (vs:=m.cells) rfl rfl) rfl ?_;rintro v L' ⟨b4,rfl,rfl⟩;refine ya (a7 (vs:=[i64 m.ah,i64 m.seq]) rfl rfl) rfl ?_;rintro v L' ⟨b5,rfl,rfl⟩;refine gy 6 ?_;refine bK (Xd ?atK) call79 ?_
 case atK=>exact EL
 rw[he,hrn,T9];refine gy 3 ?_;refine ya (aB zeroValue140 rfl) rfl ?_;rintro v L' ⟨b7,rfl,rfl⟩;refine bA (ai rfl rfl (gf _ _) sizeOf140 bc (by rfl) (by rfl)) ?_;refine gy 5 ?_;refine aS 10 [(0,true),(1,true),(2,true),(3,true),(5,true),(6,true),(7,true),(8,true),(4,false),(9,false)] ([sc b7 _ 140,sc F.p _ 106]++R) Tryz.mixed (by kernel_rfl) ae ?_;refine gh 3 ?_;refine fZ 19 rfl (fun MW=>?_) (fun MW=>?_)
 ·have Et:n.cM m=(false,n):=oY.trans (if_pos (.inl (by simpa using MW)));refine gh 5 ?_;refine lF rfl rfl rfl rfl rfl ae ?_;refine lF rfl rfl rfl rfl rfl ae ?_;refine gh 13 ?_;refine aj results176 rfl (L1:=ao F V n++R) ae ?_;rw[Et];exact⟨_,⟨V,rfl,hV,rfl⟩,rfl⟩
 have tX:e=0:=by simpa using MW
 refine ko rfl rfl rfl (ay (u:=[i64 rn,u64 rb]) rfl isAgg140 sizeOf140 aL rfl rfl) rfl ?_;refine gh 4 ?_;refine fk rfl rfl rfl (Si (n:=rn) (b:=rb)) rfl call80 aZ rfl ?_;rintro v L' ⟨rfl,rfl⟩;refine⟨ae,?_⟩;refine fk rfl rfl rfl (aeQ (L:=n.dr)) rfl call128 aZ rfl ?_;rintro v L' ⟨rfl,rfl⟩;refine⟨ae,?_⟩;refine gh 1 ?_;refine bV ?_;refine bK (Si (n:=ef n.dr.n) (b:=n.dr.bits)) call80 ?_;refine gy 4 ?_;refine cc rfl (fun h84=>?_) (fun h84=>?_)
 ·have Et:n.cM m=(false,n):=oY.trans (if_pos (.inr (by omega)));refine gc 6 ?_;refine aj results176 rfl (L1:=ao F V n++R) ae ?_;rw[Et];exact⟨_,⟨V,rfl,hV,rfl⟩,rfl⟩
 have Et:=oY.trans (if_neg (by omega));refine gc 2 ?_;refine bq ?_;intro K7 Jx;refine gc 5 ?_;refine aA (HT ?anl) rfl call59 aZ rfl ?_
 case anl=>omega
 rintro v L' ⟨SN,rfl,QG,rfl⟩;have jt:cE [aD SN 127 (dZ n.c.all)] (aG SN n.c.all.length) n.c.all.length (dZ n.c.all):=bG .z QG;refine y (bH rfl underlying61 (by assumption)) rfl ?_;refine gy 3 ?_
 have fQ: ∀x:Nat × Sv × aa,((x.1≤n.c.all.length∧fx (aa.eT (rn,rb)) n.c.all n x.1 x.2.2∧x.2.2.ok 970000∧ct {V with sl:=x.2.1} x.2.2)∧(x.1=n.c.all.length))→Sk 81 K7 ([(36,i64 x.1),(35,i64 n.c.all.length),(34,aG SN n.c.all.length),(0,ptr F.p),(4,ptr b4),(5,ptr b5),(7,ptr b7)]) (aD SN 127 (dZ n.c.all)::sc b4 m.cells 34::sc b5 [i64 m.ah,i64 m.seq] 84::sc b7 [i64 rn,u64 rb] 140::ao F {V with sl:=x.2.1} x.2.2++R):=by
  rintro⟨k,sl,n1⟩ ⟨bJ,eK⟩;refine Jx _ _ ?_;obtain⟨hk,hE,cD,dN⟩:=bJ;dsimp only at hk hE cD dN ⊢;unfold ao bB;dsimp only at eK;rw[eK]at hE;rw[hE.done]at Et;obtain⟨r,hR⟩: ∃z,n1.c.reset n1.d m.ah m.seq (aa.wH m).l=z:=⟨_,rfl⟩;have qd:jR n1.c n1.d r:=by rw[←hR];exact ow cD.p.c _ _ _
  have Lp:n.cM m=aa.gz (n1.iO r) aa.sync:=by rw[Et];unfold aa.gz;dsimp only;rw[if_pos rfl,hR]
  refine gc 1 ?_;refine kO 17 (.op 0 0 (.op 1 0 (.op 2 0 (.op 3 0 (.op 5 1 (.op 6 0 (.op 7 0 (.op 4 2 (.op 8 2 (.op 9 2 (.op 10 0 (.op 11 0 (.op 12 0 (.op 13 0 (.op 14 0 (.op 15 2 (.op 16 2 (.nil)))))))))))))))))) ([sc b4 _ 34,sc b5 _ 84]++R) Tryz.mixed (by kernel_rfl) ae ?_;refine nz rfl (ba rfl) rfl ?_;refine nz rfl (ba rfl) rfl ?_;refine nz rfl (fD rfl) rfl ?_;refine nz rfl (aT 7 rfl underlying106 rfl sizeOf98) rfl ?_;refine nr rfl (ay (u:=[i64 m.ah,i64 m.seq]) rfl isAgg84 sizeOf84 aL rfl rfl) rfl ?_;refine nz rfl (aT 7 rfl underlying34 rfl sizeOf32) rfl ?_;refine nz rfl (iJ rfl underlying32 sizeOf2) rfl ?_;refine na rfl (fi (bR rfl isAgg98 aL rfl)) rfl ?_;rintro v L' ⟨rfl,rfl⟩;refine⟨ae,?_⟩;refine fy rfl (Pq (C:=n1.c) (D:=n1.d) (e:=m.ah) (s:=m.seq) (ns:=(aa.wH m).l) ?GQ ?HQ ?agT ?agd) rfl call211 aZ rfl ?_
  case GQ=>exact cD.p.c
  case HQ=>exact dN.sl
  case agT=>exact eh aL rfl rfl
  case agd=>show 4<1000000;decide
  rintro v L' ⟨Mx,rfl,aa4,rfl⟩;refine⟨ae,?_⟩;rw[hR]at aa4 ⊢;refine fy rfl (qP (V:={V with sl:=Mx}) (n:=n1.bf r)) rfl call121 aZ rfl ?_;rintro v L' ⟨rfl,rfl⟩;refine⟨ae,?_⟩;refine nz rfl (ba rfl) rfl ?_;refine om 72 rfl (fun rl=>?_) (fun rl=>?_)
  ·(try simp only[sH]at rl)
   have Eu:n.cM m=aa.sync ((n1.bf r).err r.1):=by rw[Lp];exact if_pos (by show decide (r.1=0)=true;simpa using rl)
   unfold bB;refine oL rfl rfl rfl (ba rfl) rfl ?_;refine oL rfl rfl rfl (ba rfl) rfl ?_;refine oL rfl rfl rfl (fD rfl) rfl ?_;refine oL rfl rfl rfl (aT 7 rfl underlying106 rfl sizeOf98) rfl ?_;refine na1 rfl rfl rfl (fi (bR rfl isAgg98 aL rfl)) rfl ?_;rintro v L' ⟨rfl,rfl⟩;refine⟨ae,?_⟩;refine pM rfl rfl rfl (AS (C:=r.2.1) (D:=r.2.2) ?X7) rfl call158 aZ rfl ?_
   case X7=>exact qd.ok.d
   rintro v L' ⟨rfl,rfl⟩;refine⟨ae,?_⟩;refine ik ?_;refine bV ?_;refine bK (qP (V:={V with sl:=Mx}) (n:=aa.bf ((n1.bf r).err r.1) (r.2.1.sync r.2.2))) call121 ?_;refine gy 5 ?_;refine aj results176 rfl (L1:=ao F {V with sl:=Mx} (aa.sync ((n1.bf r).err r.1)).2++R) ae ?_;rw[Eu];exact⟨_,⟨{V with sl:=Mx},rfl,⟨dN.out,dN.sw,dN.si,aa4⟩,rfl⟩,rfl⟩
  try simp only[sH]at rl
  have Eu:n.cM m=(false,(n1.bf r).err r.1):=by rw[Lp];unfold aa.gz aa.iO;rw[show decide (r.1=0)=false by simpa using rl];rfl
  refine qo rfl rfl rfl rfl rfl ?_;refine qo rfl rfl rfl rfl rfl ?_;refine qo rfl rfl rfl rfl rfl ?_;refine qo rfl rfl rfl rfl rfl ?_;refine SL rfl rfl rfl rfl rfl ae ?_;refine SL rfl rfl rfl rfl rfl ae ?_;refine ik ?_;refine gy 6 ?_;refine aj results176 rfl (L1:=ao F {V with sl:=Mx} ((n1.bf r).err r.1)++R) ae ?_;rw[Eu];exact⟨_,⟨{V with sl:=Mx},rfl,⟨dN.out,dN.sw,dN.si,aa4⟩,rfl⟩,rfl⟩
 clear Jx;refine gc 1 ?_;refine bO (A:=Nat × Sv × aa) (fun x=>[(36,i64 x.1),(35,i64 n.c.all.length),(34,aG SN n.c.all.length),(0,ptr F.p),(4,ptr b4),(5,ptr b5),(7,ptr b7)]) (fun x=>aD SN 127 (dZ n.c.all)::sc b4 m.cells 34::sc b5 [i64 m.ah,i64 m.seq] 84::sc b7 [i64 rn,u64 rb] 140::ao F {V with sl:=x.2.1} x.2.2++R) (fun x=>x.1≤n.c.all.length∧fx (aa.eT (rn,rb)) n.c.all n x.1 x.2.2∧x.2.2.ok 970000∧ct {V with sl:=x.2.1} x.2.2) (fun x=>n.c.all.length-x.1) ((0,V.sl,n)) ?_ aq ae ?_
 · exact⟨Nat.zero_le _,fx.zero,hn,hV⟩
 rintro⟨k,sl,n1⟩ bJ kt cI;have cC:=bJ;obtain⟨hk,hE,cD,dN⟩:=bJ;dsimp only at hk hE cD dN ⊢;unfold ao bB;refine gc 5 ?_;refine cc rfl (fun rm=>?_) (fun rm=>?_)
 ·refine gc 5 ?_;obtain⟨x,hx⟩: ∃x,n.c.all[k]? =some x:=⟨_,List.getElem?_eq_getElem (by omega)⟩;have oZ:=(lQ x (List.mem_of_getElem? hx)).bE;obtain⟨r,hR⟩: ∃z,n1.c.drop n1.d x.bE=z:=⟨_,rfl⟩;have qd:jR n1.c n1.d r:=by rw[←hR];exact AA cD.p.c _
  have hqd:x.bE.tdiv 4=x.bE / 4:=Int.tdiv_eq_ediv_of_nonneg oZ.1;refine y (aK jt rfl rfl underlying61 sizeOf127 (by omega) (by omega)) rfl ?_;refine y (dB (us:=x.cells) (k*7) jt ae rfl isAgg127 sizeOf127 (by simp) (lD hx) rfl) rfl ?_;refine ya (aB zeroValue127 rfl) rfl ?_;rintro v L' ⟨Nx,rfl,rfl⟩;refine bA (aP (vs':=x.cells) rfl rfl (gi x) sizeOf127 bc rfl (by decide) rfl) ?_;refine gy 3 ?_;refine aS 18 (od [7,17] 18 0) ([sc Nx _ 127,sc b7 _ 140,sc F.p _ 106]++R) Tryz.mixed (by kernel_rfl) ae ?_;refine gh 3 ?_;refine fZ 42 rfl (fun xL=>?_) (fun xL=>?_)
  ·have ru:aa.eT (rn,rb) n1 x=n1.iO r:=by rw[NR (by rw[xL];rfl),hR]
   refine gh 4 ?_;refine lF rfl rfl rfl rfl rfl ae ?_;refine gh 9 ?_;refine fk rfl rfl rfl (WI (C:=n1.c) (D:=n1.d) (b:=x.bE) ?GR ?HR) rfl call212 aZ rfl ?_
   case GR=>exact cD.p.c
   case HR=>exact dN.sl
   rintro v L' ⟨oW,rfl,qJ,rfl⟩;refine⟨ae,?_⟩;rw[hR]at qJ ⊢;refine gh 1 ?_;refine bV ?_;refine bK (qP (V:={V with sl:=oW}) (n:=n1.bf r)) call121 ?_;refine gy 4 ?_;refine cc rfl (fun xO=>?_) (fun xO=>?_)
   ·have gw:=hE.stop hx (m':=(n1.bf r).err r.1) (by rw[ru];unfold aa.iO;rw[show decide (r.1=0)=false by simpa using xO]);have Lp:n.cM m=(false,(n1.bf r).err r.1):=by rw[Et,gw];rfl
    refine gc 10 ?_;refine aj results176 rfl (L1:=ao F {V with sl:=oW} ((n1.bf r).err r.1)++R) ae ?_;rw[Lp];exact⟨_,⟨{V with sl:=oW},rfl,⟨dN.out,dN.sw,dN.si,qJ⟩,rfl⟩,rfl⟩
   have fZ:=hE.step hx (m':=(n1.bf r).err r.1) (by rw[ru];unfold aa.iO;rw[show decide (r.1=0)=true by simpa using xO]);refine gc 5 ?_;rw[show IntKind.i64.wrap ((k:Int)+1)=((k+1:Nat):Int)by rw[wr (by omega) (by omega)];rfl];refine gy 3 ?_;exact cI (k+1,oW,(n1.bf r).err r.1) ⟨by dsimp only;omega,fZ,(cD.bf qd).err _,⟨dN.out,dN.sw,dN.si,qJ⟩⟩ (by dsimp only;omega) _ _ aq ae
  have hdf:x.bZ=false:=by simpa using xL
  refine ko rfl rfl rfl (ay (u:=[i64 rn,u64 rb]) rfl isAgg140 sizeOf140 aL rfl rfl) rfl ?_;refine gh 2 ?_;refine ko rfl rfl rfl (ie rfl rfl (by decide)) rfl ?_;rw[hqd,wr (by omega) (by omega)];refine fk rfl rfl rfl (adv (n:=rn) (b:=rb) (i:=x.bE / 4) ?amW ?amU) rfl call184 aZ rfl ?_
  case amW=>exact Ue
  case amU=>exact sS
  rintro v L' ⟨rfl,rfl⟩;refine⟨ae,?_⟩;refine gh 2 ?_;refine fZ 49 rfl (fun Oq=>?_) (fun Oq=>?_)
  ·have ru:aa.eT (rn,rb) n1 x=n1.iO r:=by rw[NR (by rw[hqd];show(x.bZ||sN rn rb (x.bE / 4))=true;rw[Oq,Bool.or_true]),hR]
   refine gh 7 ?_;refine fk rfl rfl rfl (WI (C:=n1.c) (D:=n1.d) (b:=x.bE) ?X1 ?Z0) rfl call212 aZ rfl ?_
   case X1=>exact cD.p.c
   case Z0=>exact dN.sl
   rintro v L' ⟨oW,rfl,qJ,rfl⟩;refine⟨ae,?_⟩;rw[hR]at qJ ⊢;refine gh 1 ?_;refine bV ?_;refine bK (qP (V:={V with sl:=oW}) (n:=n1.bf r)) call121 ?_;refine gy 4 ?_;refine cc rfl (fun Ou=>?_) (fun Ou=>?_)
   ·have gw:=hE.stop hx (m':=(n1.bf r).err r.1) (by rw[ru];unfold aa.iO;rw[show decide (r.1=0)=false by simpa using Ou]);have Lp:n.cM m=(false,(n1.bf r).err r.1):=by rw[Et,gw];rfl
    refine gc 10 ?_;refine aj results176 rfl (L1:=ao F {V with sl:=oW} ((n1.bf r).err r.1)++R) ae ?_;rw[Lp];exact⟨_,⟨{V with sl:=oW},rfl,⟨dN.out,dN.sw,dN.si,qJ⟩,rfl⟩,rfl⟩
   have fZ:=hE.step hx (m':=(n1.bf r).err r.1) (by rw[ru];unfold aa.iO;rw[show decide (r.1=0)=true by simpa using Ou]);refine gc 5 ?_;rw[show IntKind.i64.wrap ((k:Int)+1)=((k+1:Nat):Int)by rw[wr (by omega) (by omega)];rfl];refine gy 3 ?_;exact cI (k+1,oW,(n1.bf r).err r.1) ⟨by dsimp only;omega,fZ,(cD.bf qd).err _,⟨dN.out,dN.sw,dN.si,qJ⟩⟩ (by dsimp only;omega) _ _ aq ae
  have eF:aa.eT (rn,rb) n1 x=(true,n1):=XT (by rw[hqd];show(x.bZ||sN rn rb (x.bE / 4))=false;rw[hdf,Oq];rfl);refine gh 7 ?_;refine lF rfl rfl rfl rfl rfl ae ?_;refine gh 12 ?_;rw[show IntKind.i64.wrap ((k:Int)+1)=((k+1:Nat):Int)by rw[wr (by omega) (by omega)];rfl];refine gy 3 ?_;exact cI (k+1,sl,n1) ⟨by dsimp only;omega,hE.step hx eF,cD,dN⟩ (by dsimp only;omega) _ _ aq ae
 refine gc 5 ?_;exact aV aq ae (fQ ⟨k,sl,n1⟩ ⟨cC,by dsimp only;omega⟩)
end W
end Go.Proofs