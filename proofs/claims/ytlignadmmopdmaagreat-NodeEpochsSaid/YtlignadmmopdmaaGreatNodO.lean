/- A part of the proof. -/
import Derived.Test.YtlignadmmopdmaaGreatUn
import Derived.Test.YtlignadmmopdmaaGreatN37
import Derived.Test.YtlignadmmopdmaaGreatN22
set_option linter.unusedVariables false
set_option linter.unusedSimpArgs false
set_option linter.constructorNameAsVariable false
namespace Go.Proofs
open _root_.Go.Proofs.Tryz
open Go Go.Sl
namespace W
set_option maxHeartbeats 4000000
theorem aap [Env]{R:List ax}{F:NF}{V:NV}{n:aa}{m:aM}(hn:n.ok 970000)(hV:ct V n)(EL:m.row.length≤1000):
   bC Tryz.prog 113 [ptr F.p,.agg m.cells.toArray] (ao F V n) R (KN F (n.begun m) (.tuple #[])):=by
 refine ag func113 ntmps113 rfl rfl ?_;unfold ao bB;refine gc 1 ?_;refine ya (a7 (vs:=m.cells) rfl rfl) rfl ?_;rintro v L' ⟨b3,rfl,rfl⟩;refine gy 7 ?_;refine y (cA ([i64 m.ah,i64 m.seq])) rfl ?_;refine ya (aB zeroValue84 rfl) rfl ?_;rintro v L' ⟨b4,rfl,rfl⟩;refine bA (ai rfl rfl (by simp[Value.oneCell']) sizeOf84 bc (by rfl) (by rfl)) ?_;refine gy 7 ?_;refine bK (ET (C:=n.c)) call174 ?_;refine ya (aB zeroValue84 rfl) rfl ?_;rintro v L' ⟨b5,rfl,rfl⟩;refine bA (ai rfl rfl (by simp[Value.oneCell']) sizeOf84 bc (by rfl) (by rfl)) ?_;refine gy 10 ?_;refine cv 21 rfl (fun Tx=>?_) (fun Tx=>?_)
 ·have TP:n.begun m=n:=if_pos (.inl (by omega));refine gy 18 ?_;refine bj results113 (L1:=ao F V n++R) ae ?_;rw[TP];exact⟨_,⟨V,rfl,hV,rfl⟩,rfl⟩
 refine gy 6 ?_;refine cv 27 rfl (fun YO=>?_) (fun YO=>?_)
 ·refine gy 9 ?_;refine cc rfl (fun OE=>?_) (fun OE=>?_)
  ·have TP:n.begun m=n:=if_pos (.inr ⟨by omega,by omega⟩);refine gc 2 ?_;refine bj results113 (L1:=ao F V n++R) ae ?_;rw[TP];exact⟨_,⟨V,rfl,hV,rfl⟩,rfl⟩
  refine gc 2 ?_;refine bq ?_;intro K6 ma
  have OL: ∀x:NV × aa,(n.begun m=x.2.gV m∧x.2.ok 970000∧ct x.1 x.2)→Sk 54 K6 ([(0,ptr F.p),(3,ptr b3)]) (sc b3 m.cells 34::ao F x.1 x.2++R):=by
   rintro⟨V2,n2⟩ hIr5;refine ma _ _ ?_;obtain⟨EN,eV,jC⟩:=hIr5;dsimp only at EN eV jC ⊢;unfold ao bB;refine aS 8 [(0,true),(1,true),(3,true),(4,true),(5,true),(6,true),(7,true),(2,false)] ([sc b3 _ 34,sc F.p _ 106]++R) Tryz.mixed (by kernel_rfl) ae ?_;refine gh 6 ?_;refine hr rfl (cA (aM.cells {aa.lT with kind:=8,ah:=m.ah,seq:=m.seq})) rfl ?_;refine bg rfl (vJ (V:=V2) (n:=n2) ?aqG) rfl call63 aZ rfl ?_
   case aqG=>exact eV.a.id
   rintro v L' ⟨rfl,rfl⟩;refine⟨ae,?_⟩;refine gh 1 ?_;refine aA (nw (V:=V2) (n:=n2) (m:={aa.lT with kind:=8,ah:=m.ah,seq:=m.seq}) ?Fk ?QU) rfl call67 aZ rfl ?_
   case Fk=>exact jC.out
   case QU=>have:=eV.out;omega
   rintro v L' ⟨o53,rfl,QN,rfl⟩;refine gy 1 ?_;refine aN results113 (L1:=ao F {V2 with out:=o53} (n2.gV m)++R) ae ?_;rw[EN];exact⟨_,⟨{V2 with out:=o53},rfl,⟨QN,jC.sw,jC.si,jC.sl⟩,rfl⟩,rfl⟩
  clear ma;refine gc 1 ?_;have TP:n.begun m=if n.c.k.e=m.ah∧n.c.k.s=m.seq then n.gV m else aa.andThen (n.cM m) fun n=>n.gV m:=if_neg (by omega)
  refine y (ay (u:=[i64 n.c.k.e,i64 n.c.k.s]) rfl isAgg84 sizeOf84 aL rfl rfl) rfl ?_;refine y (ay (u:=[i64 m.ah,i64 m.seq]) rfl isAgg84 sizeOf84 aL rfl rfl) rfl ?_;refine y (sC (p:=n.c.k.e=m.ah∧n.c.k.s=m.seq) (xs:=[i64 n.c.k.e,i64 n.c.k.s]) (ys:=[i64 m.ah,i64 m.seq]) rfl rfl (by kernel_rfl) (by simp)) rfl ?_;refine gy 1 ?_;refine cv 38 rfl (fun TF=>?_) (fun TF=>?_)
  ·have B6:=TP.trans (if_neg (by simpa using TF));refine gy 1 ?_;refine bV ?_;refine y (ak rfl isAgg34 sizeOf34 aL (by rfl)) rfl ?_;refine bV ?_;refine y (ay (u:=[i64 m.ah,i64 m.seq]) rfl isAgg84 sizeOf84 aL rfl rfl) rfl ?_;refine bV ?_;refine aA (E0 (V:=V) (n:=n) (m:=m) ?aiv ?amq ?aqS) rfl call176 aZ rfl ?_
   case aiv=>exact hn
   case amq=>exact hV
   case aqS=>exact EL
   rintro v L' ⟨Sp,rfl,IY,rfl⟩;refine gy 4 ?_;refine cc rfl (fun YQ=>?_) (fun YQ=>?_)
   ·have Hs:n.begun m=(n.cM m).2:=B6.trans (if_neg (by simpa using YQ));refine gc 2 ?_;refine bj results113 (L1:=ao F Sp (n.cM m).2++R) ae ?_;rw[Hs];exact⟨_,⟨Sp,rfl,IY,rfl⟩,rfl⟩
   have Hs:n.begun m=(n.cM m).2.gV m:=B6.trans (if_pos (by simpa using YQ));refine gc 2 ?_;exact aV aq ae (OL (Sp,(n.cM m).2) ⟨Hs,hn.cM m,IY⟩)
  have B6:n.begun m=n.gV m:=TP.trans (if_pos (by simpa using TF));refine gy 11 ?_;exact aV aq ae (OL (V,n) ⟨B6,hn,hV⟩)
 refine gy 12 ?_;refine bq ?_;intro K8 qN
 have OL: ∀x:NV × aa,(n.begun m=x.2.gV m∧x.2.ok 970000∧ct x.1 x.2)→Sk 54 K8 ([(0,ptr F.p),(3,ptr b3)]) (sc b3 m.cells 34::ao F x.1 x.2++R):=by
  rintro⟨V2,n2⟩ hIr5;refine qN _ _ ?_;obtain⟨EN,eV,jC⟩:=hIr5;dsimp only at EN eV jC ⊢;unfold ao bB;refine aS 8 [(0,true),(1,true),(3,true),(4,true),(5,true),(6,true),(7,true),(2,false)] ([sc b3 _ 34,sc F.p _ 106]++R) Tryz.mixed (by kernel_rfl) ae ?_;refine gh 6 ?_;refine hr rfl (cA (aM.cells {aa.lT with kind:=8,ah:=m.ah,seq:=m.seq})) rfl ?_;refine bg rfl (vJ (V:=V2) (n:=n2) ?aqJ) rfl call63 aZ rfl ?_
  case aqJ=>exact eV.a.id
  rintro v L' ⟨rfl,rfl⟩;refine⟨ae,?_⟩;refine gh 1 ?_;refine aA (nw (V:=V2) (n:=n2) (m:={aa.lT with kind:=8,ah:=m.ah,seq:=m.seq}) ?Q4 ?abf) rfl call67 aZ rfl ?_
  case Q4=>exact jC.out
  case abf=>have:=eV.out;omega
  rintro v L' ⟨o53,rfl,QN,rfl⟩;refine gy 1 ?_;refine aN results113 (L1:=ao F {V2 with out:=o53} (n2.gV m)++R) ae ?_;rw[EN];exact⟨_,⟨{V2 with out:=o53},rfl,⟨QN,jC.sw,jC.si,jC.sl⟩,rfl⟩,rfl⟩
 clear qN;refine gc 1 ?_;have TP:n.begun m=if n.c.k.e=m.ah∧n.c.k.s=m.seq then n.gV m else aa.andThen (n.cM m) fun n=>n.gV m:=if_neg (by omega)
 refine y (ay (u:=[i64 n.c.k.e,i64 n.c.k.s]) rfl isAgg84 sizeOf84 aL rfl rfl) rfl ?_;refine y (ay (u:=[i64 m.ah,i64 m.seq]) rfl isAgg84 sizeOf84 aL rfl rfl) rfl ?_;refine y (sC (p:=n.c.k.e=m.ah∧n.c.k.s=m.seq) (xs:=[i64 n.c.k.e,i64 n.c.k.s]) (ys:=[i64 m.ah,i64 m.seq]) rfl rfl (by kernel_rfl) (by simp)) rfl ?_;refine gy 1 ?_;refine cv 38 rfl (fun Hm=>?_) (fun Hm=>?_)
 ·have B6:=TP.trans (if_neg (by simpa using Hm));refine gy 1 ?_;refine bV ?_;refine y (ak rfl isAgg34 sizeOf34 aL (by rfl)) rfl ?_;refine bV ?_;refine y (ay (u:=[i64 m.ah,i64 m.seq]) rfl isAgg84 sizeOf84 aL rfl rfl) rfl ?_;refine bV ?_;refine aA (E0 (V:=V) (n:=n) (m:=m) ?aiC ?amx ?aqT) rfl call176 aZ rfl ?_
  case aiC=>exact hn
  case amx=>exact hV
  case aqT=>exact EL
  rintro v L' ⟨Sp,rfl,IY,rfl⟩;refine gy 4 ?_;refine cc rfl (fun YU=>?_) (fun YU=>?_)
  ·have Hs:n.begun m=(n.cM m).2:=B6.trans (if_neg (by simpa using YU));refine gc 2 ?_;refine bj results113 (L1:=ao F Sp (n.cM m).2++R) ae ?_;rw[Hs];exact⟨_,⟨Sp,rfl,IY,rfl⟩,rfl⟩
  have Hs:n.begun m=(n.cM m).2.gV m:=B6.trans (if_pos (by simpa using YU));refine gc 2 ?_;exact aV aq ae (OL (Sp,(n.cM m).2) ⟨Hs,hn.cM m,IY⟩)
 have B6:n.begun m=n.gV m:=TP.trans (if_pos (by simpa using Hm));refine gy 11 ?_;exact aV aq ae (OL (V,n) ⟨B6,hn,hV⟩)
theorem Xq{S:dC}{q:Int}(h:(S.wb q).1=false):(S.wb q).2=S:=by
 unfold dC.wb at h ⊢;split
 · rfl
 rename_i hc;rw[if_neg hc]at h;cases h
theorem aqx [Env]{R:List ax}{F:NF}{V:NV}{n:aa}{m:aM}{fr:Int}(hn:n.ok 970000)(hV:ct V n)(hm:m.ok)(EL:m.row.length≤1000):
   bC Tryz.prog 64 [ptr F.p,i64 fr,.agg m.cells.toArray] (ao F V n) R (KN F (n.met m) (.tuple #[])):=by
 have Lz:n.met m=if m.kind=5∨m.kind=7 then(if m.ah<n.ah then n else aa.andThen (n.eC m.ah) fun n=>n.H4 m)else if m.kind=6 then n.LZ m else if m.kind=8 then n.L2 m else if m.kind=9 then n.LY m else n:=rfl
 have hoa:=hn.eC (e:=m.ah) hm.ah;obtain⟨r,hR⟩: ∃z,n.c.clean n.d m.block m.ah m.seq=z:=⟨_,rfl⟩;refine ag func64 ntmps64 rfl rfl ?_;unfold ao bB;refine gc 1 ?_;refine ya (a7 (vs:=m.cells) rfl rfl) rfl ?_;rintro v L' ⟨b5,rfl,rfl⟩;refine gy 8 ?_;refine bq ?_;intro K3 pD
 have nh: ∀x:Bool,(x=true↔(m.kind=5∨m.kind=7))→Sk 163 K3 ([(0,ptr F.p),(5,ptr b5),(8,i64 m.kind),(9,.bool x)]) (sc b5 m.cells 34::ao F V n++R):=by
  rintro x9 zO;refine pD _ _ ?_;unfold ao bB;refine cc rfl (fun AI=>?_) (fun AI=>?_)
  ·(have hx9:=zO.1 AI;rw[if_pos hx9]at Lz)
   refine gc 2 ?_;refine kO 19 (.op 0 0 (.op 1 1 (.op 2 0 (.op 3 0 (.op 4 0 (.op 5 2 (.op 6 0 (.op 7 0 (.op 8 0 (.op 9 0 (.op 10 1 (.op 11 2 (.op 12 0 (.op 13 0 (.op 14 0 (.op 15 0 (.op 16 0 (.op 17 0 (.op 18 0 (.nil)))))))))))))))))))) ([sc b5 _ 34]++R) Tryz.mixed (by kernel_rfl) ae ?_;refine nz rfl (aT 1 rfl underlying34 rfl sizeOf2) rfl ?_;refine nr rfl (bR rfl isAgg2 aL rfl) rfl ?_;refine nz rfl (ba rfl) rfl ?_;refine nz rfl (fD rfl) rfl ?_;refine nz rfl (aT 11 rfl underlying106 rfl sizeOf2) rfl ?_;refine na rfl (fi (bR rfl isAgg2 aL rfl)) rfl ?_;rintro v L' ⟨rfl,rfl⟩;refine⟨ae,?_⟩;refine nz rfl (Oc rfl rfl) rfl ?_;refine nz rfl (ba rfl) rfl ?_;refine om 19 rfl (fun YX=>?_) (fun YX=>?_)
   ·(try simp only[sH]at YX)
    have qO:n.met m=n:=Lz.trans (if_pos (by omega));refine qo rfl rfl rfl rfl rfl ?_;refine qo rfl rfl rfl rfl rfl ?_;refine nr0 rfl rfl rfl rfl rfl ?_;refine SL rfl rfl rfl rfl rfl ae ?_;refine qo rfl rfl rfl rfl rfl ?_;refine nz rfl (sE rfl rfl) rfl ?_;refine nz rfl (ba rfl) rfl ?_;refine qo rfl rfl rfl rfl rfl ?_;refine qo rfl rfl rfl rfl rfl ?_;refine qo rfl rfl rfl rfl rfl ?_;refine qo rfl rfl rfl rfl rfl ?_;refine ik ?_;refine gy 9 ?_;refine bj results64 (L1:=ao F V n++R) ae ?_;rw[qO];exact⟨_,⟨V,rfl,hV,rfl⟩,rfl⟩
   try simp only[sH]at YX
   have agm:=Lz.trans (if_neg (by omega));refine oL rfl rfl rfl (ba rfl) rfl ?_;refine oL rfl rfl rfl (aT 1 rfl underlying34 rfl sizeOf2) rfl ?_;refine nr1 rfl rfl rfl (bR rfl isAgg2 aL rfl) rfl ?_;refine pM rfl rfl rfl (PM (V:=V) (n:=n) ?Ij ?I1 ?ah4) rfl call111 aZ rfl ?_
   case Ij=>exact hn.le (by decide)
   case I1=>exact hV
   case ah4=>exact hm.ah
   rintro v L' ⟨V23,rfl,R1,rfl⟩;refine⟨ae,?_⟩;obtain⟨n1,mo⟩: ∃z,(n.eC m.ah).2=z:=⟨_,rfl⟩;rw[mo]at hoa R1 ⊢;unfold ao bB;refine oL rfl rfl rfl (G4 rfl) rfl ?_;refine nz rfl (sD rfl rfl) rfl ?_;refine nz rfl (ba rfl) rfl ?_;refine om 26 rfl (fun wg=>?_) (fun wg=>?_)
   ·(try simp only[sH]at wg)
    have qO:n.met m=n1:=by rw[agm];exact(if_neg (by simpa using wg)).trans mo
    refine qo rfl rfl rfl rfl rfl ?_;refine qo rfl rfl rfl rfl rfl ?_;refine qo rfl rfl rfl rfl rfl ?_;refine qo rfl rfl rfl rfl rfl ?_;refine ik ?_;refine gy 9 ?_;refine bj results64 (L1:=ao F V23 n1++R) ae ?_;rw[qO];exact⟨_,⟨V23,rfl,R1,rfl⟩,rfl⟩
   try simp only[sH]at wg
   have agn:n.met m=n1.H4 m:=by rw[agm,←mo];exact if_pos (by simpa using wg)
   refine oL rfl rfl rfl (ba rfl) rfl ?_;refine oL rfl rfl rfl (fD rfl) rfl ?_;refine oL rfl rfl rfl (aT 26 rfl underlying106 rfl sizeOf104) rfl ?_;refine oL rfl rfl rfl (aT 0 rfl underlying104 rfl sizeOf3) rfl ?_;refine ik ?_;refine gy 5 ?_;refine cc rfl (fun rm=>?_) (fun rm=>?_)
   ·have qO:n.met m=n1:=agn.trans (if_pos (by omega));refine gc 3 ?_;refine bj results64 (L1:=ao F V23 n1++R) ae ?_;rw[qO];exact⟨_,⟨V23,rfl,R1,rfl⟩,rfl⟩
   have ago:n.met m=if m.kind=5 then n1.taken m else n1.begun m:=agn.trans (if_neg (by omega))
   refine gc 8 ?_;refine cc rfl (fun Ed=>?_) (fun Ed=>?_)
   ·have HC:n.met m=n1.taken m:=ago.trans (if_pos Ed);refine gc 2 ?_;refine y (ak rfl isAgg34 sizeOf34 aL (by rfl)) rfl ?_;refine aA (aay (V:=V23) (n:=n1) (m:=m) ?aaO ?ada ?aik) rfl call112 aZ rfl ?_
    case aaO=>exact hoa
    case ada=>exact R1
    case aik=>exact hm
    rintro v L' ⟨Dt,rfl,oX,rfl⟩;refine gy 2 ?_;refine aN results64 (L1:=ao F Dt (n1.taken m)++R) ae ?_;rw[HC];exact⟨_,⟨Dt,rfl,oX,rfl⟩,rfl⟩
   have HC:n.met m=n1.begun m:=ago.trans (if_neg Ed);refine gc 2 ?_;refine y (ak rfl isAgg34 sizeOf34 aL (by rfl)) rfl ?_;refine aA (aap (V:=V23) (n:=n1) (m:=m) ?Ik ?I2 ?aiG) rfl call113 aZ rfl ?_
   case Ik=>exact hoa
   case I2=>exact R1
   case aiG=>exact EL
   rintro v L' ⟨Sp,rfl,IY,rfl⟩;refine gy 2 ?_;refine aN results64 (L1:=ao F Sp (n1.begun m)++R) ae ?_;rw[HC];exact⟨_,⟨Sp,rfl,IY,rfl⟩,rfl⟩
  (have hx9: ¬(m.kind=5∨m.kind=7):=fun h=>absurd (zO.2 h) (by rw[AI];exact Bool.false_ne_true);rw[if_neg hx9]at Lz)
  refine gc 5 ?_;refine cc rfl (fun xM=>?_) (fun xM=>?_)
  ·have Wu:=Lz.trans (if_pos xM);refine gc 1 ?_;refine aS 27 (od [17] 27 0) ([sc b5 _ 34,sc F.p _ 106]++R) Tryz.mixed (by kernel_rfl) ae ?_;refine gh 7 ?_;refine fZ 51 rfl (fun Yq=>?_) (fun Yq=>?_)
   ·refine gh 9 ?_;refine fZ 60 rfl (fun uD=>?_) (fun uD=>?_)
    ·refine gh 1 ?_;refine fk rfl rfl rfl (lH (V:=V) (n:=n)) rfl call114 aZ rfl ?_;rintro v L' ⟨rfl,rfl⟩;refine⟨ae,?_⟩;unfold bB;refine gh 2 ?_;refine fZ 64 rfl (fun Yt=>?_) (fun Yt=>?_)
     ·refine gh 8 ?_;refine bV ?_;refine aA (aao (S:=n.s) (q:=m.seq) ?aci ?acu) rfl call115 aZ rfl ?_
      case aci=>exact hn.s.fit (by decide)
      case acu=>exact hV.si
      rintro v L' ⟨s72,rfl,QI,rfl⟩;refine gy 3 ?_;refine cc rfl (fun La=>?_) (fun La=>?_)
      ·have HC:n.met m=(n.yu m.seq).fY.settle:=Wu.trans (if_pos ⟨by assumption,by omega,by assumption,by assumption⟩);refine gc 5 ?_;refine bA (an rfl rfl (by rfl) sizeOf2 bc rfl rfl) ?_;refine gy 4 ?_;refine aA (J5 (V:={V with si:=s72}) (n:=n.yu m.seq) ?aaT ?adh) rfl call116 aZ rfl ?_
       case aaT=>exact(hn.yu m.seq).le (by decide)
       case adh=>exact⟨hV.out,hV.sw,QI,hV.sl⟩
       rintro v L' ⟨V0,rfl,IZ,rfl⟩;refine gy 4 ?_;refine aA (tc (V:=V0) (n:=(n.yu m.seq).fY) ?aaU ?adi) rfl call117 aZ rfl ?_
       case aaU=>exact(hn.yu m.seq).fY.le (by decide)
       case adi=>exact IZ
       rintro v L' ⟨Xo,rfl,R3,rfl⟩;refine gy 2 ?_;refine aN results64 (L1:=ao F Xo (n.yu m.seq).fY.settle++R) ae ?_;rw[HC];exact⟨_,⟨Xo,rfl,R3,rfl⟩,rfl⟩
      have qO:n.met m=n:=Wu.trans (if_neg (fun hh=>by have:=hh.2.2.2;simp_all));rw[Xq La]at QI ⊢;refine gc 2 ?_;refine aN results64 (L1:=ao F {V with si:=s72} n++R) ae ?_;rw[qO];exact⟨_,⟨{V with si:=s72},rfl,⟨hV.out,hV.sw,QI,hV.sl⟩,rfl⟩,rfl⟩
     have qO:n.met m=n:=Wu.trans (if_neg (fun hh=>by have:=hh.2.2.1;simp_all));refine gh 15 ?_;refine aN results64 (L1:=ao F V n++R) ae ?_;rw[qO];exact⟨_,⟨V,rfl,hV,rfl⟩,rfl⟩
    have qO:n.met m=n:=Wu.trans (if_neg (fun hh=>by omega));refine gh 1 ?_;refine lF rfl rfl rfl rfl rfl ae ?_;refine gh 17 ?_;refine aN results64 (L1:=ao F V n++R) ae ?_;rw[qO];exact⟨_,⟨V,rfl,hV,rfl⟩,rfl⟩
   have qO:n.met m=n:=Wu.trans (if_neg (fun hh=>by omega));refine gh 10 ?_;refine lF rfl rfl rfl rfl rfl ae ?_;refine gh 17 ?_;refine aN results64 (L1:=ao F V n++R) ae ?_;rw[qO];exact⟨_,⟨V,rfl,hV,rfl⟩,rfl⟩
  have Wu:=Lz.trans (if_neg xM);refine gc 5 ?_;refine cc rfl (fun Hh=>?_) (fun Hh=>?_)
  ·have TV:=Wu.trans (if_pos Hh);refine gc 1 ?_;refine aS 37 (od [8,35] 37 0) ([sc b5 _ 34,sc F.p _ 106]++R) Tryz.mixed (by kernel_rfl) ae ?_;refine gh 7 ?_;refine fZ 90 rfl (fun Ov=>?_) (fun Ov=>?_)
   ·refine gh 1 ?_;refine fk rfl rfl rfl (oc (V:=V) (n:=n)) rfl call118 aZ rfl ?_;rintro v L' ⟨rfl,rfl⟩;refine⟨ae,?_⟩;unfold bB;refine gh 2 ?_;refine fZ 94 rfl (fun Ox=>?_) (fun Ox=>?_)
    ·refine gh 8 ?_;refine fZ 102 rfl (fun aov=>?_) (fun aov=>?_)
     ·refine gh 9 ?_;refine fZ 111 rfl (fun YE=>?_) (fun YE=>?_)
      ·refine gh 7 ?_;refine fk rfl rfl rfl (nu ?acn ?acx) rfl call51 aZ rfl ?_
       case acn=>exact hn.s.fit (by decide)
       case acx=>exact hV.si
       rintro v L' ⟨rfl,rfl⟩;refine⟨ae,?_⟩;refine gh 5 ?_;refine cc rfl (fun aoz=>?_) (fun aoz=>?_)
       ·have HC:n.met m=n.ready:=TV.trans (if_pos ⟨by omega,by assumption,by omega,by omega,by omega⟩);refine gc 2 ?_;refine aA (aaw (V:=V) (n:=n) ?aaY ?adm) rfl call119 aZ rfl ?_
        case aaY=>exact hn
        case adm=>exact hV
        rintro v L' ⟨adN,rfl,amd,rfl⟩;refine gy 2 ?_;refine aN results64 (L1:=ao F adN n.ready++R) ae ?_;rw[HC];exact⟨_,⟨adN,rfl,amd,rfl⟩,rfl⟩
       have qO:n.met m=n:=TV.trans (if_neg (fun hh=>by omega));refine gc 2 ?_;refine aN results64 (L1:=ao F V n++R) ae ?_;rw[qO];exact⟨_,⟨V,rfl,hV,rfl⟩,rfl⟩
      have qO:n.met m=n:=TV.trans (if_neg (fun hh=>by omega));refine gh 7 ?_;refine lF rfl rfl rfl rfl rfl ae ?_;refine gh 8 ?_;refine aN results64 (L1:=ao F V n++R) ae ?_;rw[qO];exact⟨_,⟨V,rfl,hV,rfl⟩,rfl⟩
     have qO:n.met m=n:=TV.trans (if_neg (fun hh=>by omega));refine gh 16 ?_;refine lF rfl rfl rfl rfl rfl ae ?_;refine gh 8 ?_;refine aN results64 (L1:=ao F V n++R) ae ?_;rw[qO];exact⟨_,⟨V,rfl,hV,rfl⟩,rfl⟩
    have qO:n.met m=n:=TV.trans (if_neg (fun hh=>by have:=hh.2.1;simp_all));refine gh 24 ?_;refine lF rfl rfl rfl rfl rfl ae ?_;refine gh 8 ?_;refine aN results64 (L1:=ao F V n++R) ae ?_;rw[qO];exact⟨_,⟨V,rfl,hV,rfl⟩,rfl⟩
   have qO:n.met m=n:=TV.trans (if_neg (fun hh=>by omega));refine gh 1 ?_;refine lF rfl rfl rfl rfl rfl ae ?_;refine gh 26 ?_;refine lF rfl rfl rfl rfl rfl ae ?_;refine gh 8 ?_;refine aN results64 (L1:=ao F V n++R) ae ?_;rw[qO];exact⟨_,⟨V,rfl,hV,rfl⟩,rfl⟩
  have TV:=Wu.trans (if_neg Hh);refine gc 5 ?_;refine cc rfl (fun YM=>?_) (fun YM=>?_)
  ·have hh9:=TV.trans (if_pos YM);refine gc 1 ?_;refine aS 19 (od [] 19 0) ([sc b5 _ 34,sc F.p _ 106]++R) Tryz.mixed (by kernel_rfl) ae ?_;refine gh 7 ?_;refine fZ 132 rfl (fun aoF=>?_) (fun aoF=>?_)
   ·refine gh 9 ?_;refine fZ 141 rfl (fun aoH=>?_) (fun aoH=>?_)
    ·refine gh 7 ?_;refine cc rfl (fun OB=>?_) (fun OB=>?_)
     ·have Zd:=hh9.trans (if_pos ⟨by omega,by omega,by omega⟩);rw[hR]at Zd;refine gc 1 ?_;refine aS 11 (od [] 11 0) ([sc b5 _ 34,sc F.p _ 106]++R) Tryz.mixed (by kernel_rfl) ae ?_;refine gh 10 ?_;refine hr rfl (cA ([i64 m.ah,i64 m.seq])) rfl ?_;refine gh 1 ?_;refine aA (HU (C:=n.c) (D:=n.d) (b:=m.block) (e:=m.ah) (s:=m.seq) ?X3 ?Z2) rfl call120 aZ rfl ?_
      case X3=>exact hn.p.c
      case Z2=>exact hV.sl
      rintro v L' ⟨FL,rfl,QD,rfl⟩;rw[hR]at QD ⊢;refine gy 8 ?_;refine cc rfl (fun afw=>?_) (fun afw=>?_)
      ·have Zr:n.met m=(n.bf r).err r.1:=Zd.trans (if_neg afw);refine gc 3 ?_;refine bK (qP (V:={V with sl:=FL}) (n:=n.bf r)) call121 ?_;refine gy 2 ?_;refine aN results64 (L1:=ao F {V with sl:=FL} ((n.bf r).err r.1)++R) ae ?_;rw[Zr];exact⟨_,⟨{V with sl:=FL},rfl,⟨hV.out,hV.sw,hV.si,QD⟩,rfl⟩,rfl⟩
      have Zr:n.met m=n.bf r:=Zd.trans (if_pos (by omega));refine gc 2 ?_;refine aN results64 (L1:=ao F {V with sl:=FL} (n.bf r)++R) ae ?_;rw[Zr];exact⟨_,⟨{V with sl:=FL},rfl,⟨hV.out,hV.sw,hV.si,QD⟩,rfl⟩,rfl⟩
     have qO:n.met m=n:=hh9.trans (if_neg (fun hh=>by omega));refine gc 2 ?_;refine aN results64 (L1:=ao F V n++R) ae ?_;rw[qO];exact⟨_,⟨V,rfl,hV,rfl⟩,rfl⟩
    have qO:n.met m=n:=hh9.trans (if_neg (fun hh=>by omega));refine gh 10 ?_;refine aN results64 (L1:=ao F V n++R) ae ?_;rw[qO];exact⟨_,⟨V,rfl,hV,rfl⟩,rfl⟩
   have qO:n.met m=n:=hh9.trans (if_neg (fun hh=>by omega));refine gh 19 ?_;refine aN results64 (L1:=ao F V n++R) ae ?_;rw[qO];exact⟨_,⟨V,rfl,hV,rfl⟩,rfl⟩
  have qO:n.met m=n:=TV.trans (if_neg YM);refine gc 2 ?_;refine aN results64 (L1:=ao F V n++R) ae ?_;rw[qO];exact⟨_,⟨V,rfl,hV,rfl⟩,rfl⟩
 clear pD;refine gc 5 ?_;refine cc rfl (fun afx=>?_) (fun afx=>?_)
 ·have hA5:m.kind=5:=by simpa using afx
  refine gc 2 ?_;exact aV aq ae (nh (decide (m.kind=5)) (by rw[decide_eq_true hA5];exact⟨fun _=> .inl hA5,fun _=>rfl⟩))
 skip
 refine gc 5 ?_;exact aV aq ae (nh (decide (m.kind=7)) (by rw[decide_eq_true_eq];exact⟨.inr,fun h=>by omega⟩))
def Nj(F:NF)(r:Int × aa)(v:Value)(L':List ax):Prop:= ∃V',v= .tuple #[aG V'.out r.2.out.length,i64 r.1]∧ct V' r.2∧L'=ao F V' r.2
theorem P8 [Env]{R:List ax}{F:NF}{V:NV}{n:aa}{l:gI}(hn:n.ok 950000)(hV:ct V n)(hb:l.body.length≤1000):
   bC Tryz.prog 27 [ptr F.p,.agg l.cells.toArray] (Mc F V n) R (Nj F (n.take l)):=by
 have qH:=hn.clear;have Gg:ct {V with out:=none} n.clear:=⟨⟨rfl,rfl⟩,hV.sw,hV.si,hV.sl⟩;have ZL:n.take l=n.clear.tN l:=rfl;obtain⟨m,hm⟩: ∃z,(bF l.body).1=z:=⟨_,rfl⟩;obtain⟨e,he⟩: ∃z,(bF l.body).2=z:=⟨_,rfl⟩;refine ag func27 ntmps27 rfl rfl ?_;unfold Mc bB;refine gc 1 ?_;refine ya (a7 (vs:=l.cells) rfl rfl) rfl ?_;rintro v L' ⟨b3,rfl,rfl⟩;refine gy 4 ?_;refine bq ?_;intro K2 gM
 have zP: ∀x:Unit,(True)→Sk 94 K2 ([(0,ptr F.p),(3,ptr b3)]) ([sc b3 l.cells 42,bB F {V with out:=none} n.clear,aD none 42 [],iK V n,eu V.ps V.si n.s,iZ V.si n.s,dh F.pf F.q n.f,fB F.pl F.pc n.dr,dh F.pc F.q n.dr.c,cU F.A n.c,ga F.A n.c,iX F.A n.c,jO F.A F.q V.sl n.c,dev F.q n.d]++R):=by
  rintro x afE;refine gM _ _ ?_;obtain⟨n0,HD⟩: ∃z,n.clear=z:=⟨_,rfl⟩;rw[HD]at qH Gg ZL;have ho0:n0.out=[]:=by rw[←HD];rfl
  have hid:=qH.a.id;show Sk _ _ _ (sc b3 l.cells 42::ao F {V with out:=none} n.clear++R);rw[HD];have zX: ∀q:Int,Nj F (q,n0) (.tuple #[fp,i64 q]) (ao F {V with out:=none} n0):=fun q=>⟨{V with out:=none},by show _=Value.tuple #[aG none n0.out.length,i64 q];rw[ho0];rfl,Gg,rfl⟩
  unfold ao bB;refine gc 8 ?_;refine cc rfl (fun h8=>?_) (fun h8=>?_)
  ·have zD:n.take l=(30,n0):=ZL.trans (if_pos h8);refine gc 7 ?_;refine bm results27 rfl rfl (L1:=ao F {V with out:=none} n0++R) ae ?_;rw[zD];exact⟨_,zX _,rfl⟩
  have Pc:=ZL.trans (if_neg (by rw[h8];exact Bool.false_ne_true));refine gc 4 ?_;refine aS 25 (od [] 25 0) (_) Tryz.mixed (by kernel_rfl) .refl ?_;refine gh 8 ?_;refine fZ 23 rfl (fun Sr=>?_) (fun Sr=>?_)
  ·have zD:n.take l=(1,n0):=Pc.trans (if_pos (.inl (by simpa using Sr)));refine gh 29 ?_;refine bm results27 rfl rfl (L1:=ao F {V with out:=none} n0++R) ae ?_;rw[zD];exact⟨_,zX _,rfl⟩
  refine gh 5 ?_;refine fZ 28 rfl (fun Hk=>?_) (fun Hk=>?_)
  ·have zD:n.take l=(1,n0):=Pc.trans (if_pos (.inr (.inl (by simpa using Hk))));refine gh 24 ?_;refine bm results27 rfl rfl (L1:=ao F {V with out:=none} n0++R) ae ?_;rw[zD];exact⟨_,zX _,rfl⟩
  refine gh 5 ?_;refine fZ 33 rfl (fun MV=>?_) (fun MV=>?_)
  ·have zD:n.take l=(1,n0):=Pc.trans (if_pos (.inr (.inr (.inl (by simpa using MV)))));refine gh 19 ?_;refine bm results27 rfl rfl (L1:=ao F {V with out:=none} n0++R) ae ?_;rw[zD];exact⟨_,zX _,rfl⟩
  refine gh 11 ?_;refine cc rfl (fun Gc=>?_) (fun Gc=>?_)
  ·have zD:n.take l=(1,n0):=Pc.trans (if_pos (by omega));refine gc 7 ?_;refine bm results27 rfl rfl (L1:=ao F {V with out:=none} n0++R) ae ?_;rw[zD];exact⟨_,zX _,rfl⟩
  have Cf:=Pc.trans (if_neg (by omega));rw[hm,he]at Cf;refine gc 5 ?_;refine bK (J1 ?aaE) call37 ?_
  case aaE=>exact hb
  rw[hm,he];refine gy 3 ?_;refine ya (aB zeroValue34 rfl) rfl ?_;rintro v L' ⟨b6,rfl,rfl⟩;refine bA (ai rfl rfl (fV _) sizeOf34 bc rfl rfl) ?_;refine gy 9 ?_;refine cc rfl (fun Df=>?_) (fun Df=>?_)
  ·have zD:n.take l=(e,n0):=Cf.trans (if_pos (by simpa using Df));refine gc 8 ?_;refine bm results27 rfl rfl (L1:=ao F {V with out:=none} n0++R) ae ?_;rw[zD];exact⟨_,zX _,rfl⟩
  have tX:e=0:=by simpa using Df
  have Cg:=Cf.trans (if_neg (by omega));have Zs:m.ok:=hm▸aa.mY (he.trans tX);have agq:m.row.length≤1000:=by have:=JW (Go.Sl.mY (he.trans tX));rw[hm]at this;omega
  refine gc 4 ?_;refine y (nT rfl) rfl ?_;refine gy 12 ?_;refine cc rfl (fun Dg=>?_) (fun Dg=>?_)
  ·have h2:l.jr=2:=by simpa using Dg
   have uK:=Cg.trans (if_neg (fun hh=>hh.1 h2));refine gc 2 ?_;refine y (nT rfl) rfl ?_;refine gy 8 ?_;refine y (ak rfl isAgg34 sizeOf34 aL (by rfl)) rfl ?_;refine w8 rfl (aat (V:={V with out:=none}) (n:=n0) (m:=m) (fr:=l.jr) (qH.le (by decide)) Gg Zs) rfl call61 aZ rfl ?_;rintro v L' ⟨V1,rfl,zn,rfl⟩;have OZ:n0.nW l.jr m=n0.heard m:=if_pos h2;obtain⟨n1,mo⟩: ∃z,n0.heard m=z:=⟨_,rfl⟩;rw[mo]at OZ zn ⊢;rw[OZ]at uK;refine gy 4 ?_;unfold ao bB gH;refine gy 6 ?_;refine cc rfl (fun YW=>?_) (fun YW=>?_)
   ·have rz:n.take l=(0,n1.clear):=uK.trans (by rw[show n1.oQ=n1.clear from if_pos YW]);refine gc 4 ?_;refine bA (an rfl rfl (by rfl) sizeOf45 bc rfl rfl) ?_;refine gy 12 ?_;refine bm results27 rfl rfl (L1:=[bB F {V1 with out:=none} n1.clear,aD none 42 [],iK V1 n1,eu V1.ps V1.si n1.s,iZ V1.si n1.s,dh F.pf F.q n1.f,fB F.pl F.pc n1.dr,dh F.pc F.q n1.dr.c,cU F.A n1.c,ga F.A n1.c,iX F.A n1.c,jO F.A F.q V1.sl n1.c,dev F.q n1.d]++R) ae ?_;rw[rz];exact⟨_,⟨{V1 with out:=none},rfl,⟨⟨rfl,rfl⟩,zn.sw,zn.si,zn.sl⟩,rfl⟩,rfl⟩
   have rz:n.take l=(0,n1):=uK.trans (by rw[show n1.oQ=n1 from if_neg (by rw[YW];exact Bool.false_ne_true)]);refine gc 12 ?_;refine bm results27 rfl rfl (L1:=ao F V1 n1++R) ae ?_;rw[rz];exact⟨_,⟨V1,rfl,zn,rfl⟩,rfl⟩
  have h2: ¬l.jr=2:=by simpa using Dg
  refine gc 8 ?_;refine cc rfl (fun Ym=>?_) (fun Ym=>?_)
  ·have zD:n.take l=(0,n0):=Cg.trans (if_pos ⟨h2,Ym⟩);refine gc 8 ?_;refine bm results27 rfl rfl (L1:=ao F {V with out:=none} n0++R) ae ?_;rw[zD];exact⟨_,zX _,rfl⟩
  have uK:=Cg.trans (if_neg (fun hh=>by have:=hh.2;rw[Ym]at this;cases this));refine gc 7 ?_;refine cc rfl (fun Yn=>?_) (fun Yn=>?_)
  ·have h3:l.jr=3:=by simpa using Yn
   refine gc 2 ?_;refine y (nT rfl) rfl ?_;refine gy 8 ?_;refine y (ak rfl isAgg34 sizeOf34 aL (by rfl)) rfl ?_;refine w8 rfl (UJ (V:={V with out:=none}) (n:=n0) (m:=m) (fr:=l.jr) (qH.le (by decide)) Gg) rfl call62 aZ rfl ?_;rintro v L' ⟨V1,rfl,zn,rfl⟩;have OZ:n0.nW l.jr m=n0.cZ m:=(if_neg h2).trans (if_pos h3);obtain⟨n1,mo⟩: ∃z,n0.cZ m=z:=⟨_,rfl⟩;rw[mo]at OZ zn ⊢;rw[OZ]at uK;refine gy 4 ?_;unfold ao bB gH;refine gy 6 ?_;refine cc rfl (fun Yp=>?_) (fun Yp=>?_)
   ·have rz:n.take l=(0,n1.clear):=uK.trans (by rw[show n1.oQ=n1.clear from if_pos Yp]);refine gc 4 ?_;refine bA (an rfl rfl (by rfl) sizeOf45 bc rfl rfl) ?_;refine gy 12 ?_;refine bm results27 rfl rfl (L1:=[bB F {V1 with out:=none} n1.clear,aD none 42 [],iK V1 n1,eu V1.ps V1.si n1.s,iZ V1.si n1.s,dh F.pf F.q n1.f,fB F.pl F.pc n1.dr,dh F.pc F.q n1.dr.c,cU F.A n1.c,ga F.A n1.c,iX F.A n1.c,jO F.A F.q V1.sl n1.c,dev F.q n1.d]++R) ae ?_;rw[rz];exact⟨_,⟨{V1 with out:=none},rfl,⟨⟨rfl,rfl⟩,zn.sw,zn.si,zn.sl⟩,rfl⟩,rfl⟩
   have rz:n.take l=(0,n1):=uK.trans (by rw[show n1.oQ=n1 from if_neg (by rw[Yp];exact Bool.false_ne_true)]);refine gc 12 ?_;refine bm results27 rfl rfl (L1:=ao F V1 n1++R) ae ?_;rw[rz];exact⟨_,⟨V1,rfl,zn,rfl⟩,rfl⟩
  have h3: ¬l.jr=3:=by simpa using Yn
  refine gc 1 ?_;refine aS 5 (od [3] 5 0) (_) Tryz.mixed (by kernel_rfl) .refl ?_;refine gh 3 ?_;refine bg rfl (vJ (V:={V with out:=none}) (n:=n0) ?aid) rfl call63 aZ rfl ?_
  case aid=>exact hid
  rintro v L' ⟨rfl,rfl⟩;refine⟨ae,?_⟩;refine gh 5 ?_;refine cc rfl (fun Yv=>?_) (fun Yv=>?_)
  ·have h4:l.jr=n0.peer:=by simpa using Yv
   refine gc 2 ?_;refine y (nT rfl) rfl ?_;refine gy 8 ?_;refine y (ak rfl isAgg34 sizeOf34 aL (by rfl)) rfl ?_;refine w8 rfl (aqx (V:={V with out:=none}) (n:=n0) (m:=m) (fr:=l.jr) (qH.le (by decide)) Gg Zs agq) rfl call64 aZ rfl ?_;rintro v L' ⟨V1,rfl,zn,rfl⟩;have OZ:n0.nW l.jr m=n0.met m:=(if_neg h2).trans ((if_neg h3).trans (if_pos h4));obtain⟨n1,mo⟩: ∃z,n0.met m=z:=⟨_,rfl⟩;rw[mo]at OZ zn ⊢;rw[OZ]at uK;refine gy 4 ?_;unfold ao bB gH;refine gy 6 ?_;refine cc rfl (fun Hg=>?_) (fun Hg=>?_)
   ·have rz:n.take l=(0,n1.clear):=uK.trans (by rw[show n1.oQ=n1.clear from if_pos Hg]);refine gc 4 ?_;refine bA (an rfl rfl (by rfl) sizeOf45 bc rfl rfl) ?_;refine gy 12 ?_;refine bm results27 rfl rfl (L1:=[bB F {V1 with out:=none} n1.clear,aD none 42 [],iK V1 n1,eu V1.ps V1.si n1.s,iZ V1.si n1.s,dh F.pf F.q n1.f,fB F.pl F.pc n1.dr,dh F.pc F.q n1.dr.c,cU F.A n1.c,ga F.A n1.c,iX F.A n1.c,jO F.A F.q V1.sl n1.c,dev F.q n1.d]++R) ae ?_;rw[rz];exact⟨_,⟨{V1 with out:=none},rfl,⟨⟨rfl,rfl⟩,zn.sw,zn.si,zn.sl⟩,rfl⟩,rfl⟩
   have rz:n.take l=(0,n1):=uK.trans (by rw[show n1.oQ=n1 from if_neg (by rw[Hg];exact Bool.false_ne_true)]);refine gc 12 ?_;refine bm results27 rfl rfl (L1:=ao F V1 n1++R) ae ?_;rw[rz];exact⟨_,⟨V1,rfl,zn,rfl⟩,rfl⟩
  have h4: ¬l.jr=n0.peer:=by simpa using Yv
  have h49: ¬l.jr=1-n0.id:=h4;refine gc 7 ?_;refine y (ak rfl isAgg34 sizeOf34 aL (by rfl)) rfl ?_;refine w8 rfl (UK (V:={V with out:=none}) (n:=n0) (m:=m) (fr:=l.jr) (qH.le (by decide)) Gg Zs (by omega)) rfl call60 aZ rfl ?_;rintro v L' ⟨V1,rfl,zn,rfl⟩;have OZ:n0.nW l.jr m=n0.called l.jr m:=(if_neg h2).trans ((if_neg h3).trans (if_neg h4));obtain⟨n1,mo⟩: ∃z,n0.called l.jr m=z:=⟨_,rfl⟩;rw[mo]at OZ zn ⊢;rw[OZ]at uK;refine gy 4 ?_;unfold ao bB gH;refine gy 6 ?_;refine cc rfl (fun Ox=>?_) (fun Ox=>?_)
  ·have rz:n.take l=(0,n1.clear):=uK.trans (by rw[show n1.oQ=n1.clear from if_pos Ox]);refine gc 4 ?_;refine bA (an rfl rfl (by rfl) sizeOf45 bc rfl rfl) ?_;refine gy 12 ?_;refine bm results27 rfl rfl (L1:=[bB F {V1 with out:=none} n1.clear,aD none 42 [],iK V1 n1,eu V1.ps V1.si n1.s,iZ V1.si n1.s,dh F.pf F.q n1.f,fB F.pl F.pc n1.dr,dh F.pc F.q n1.dr.c,cU F.A n1.c,ga F.A n1.c,iX F.A n1.c,jO F.A F.q V1.sl n1.c,dev F.q n1.d]++R) ae ?_;rw[rz];exact⟨_,⟨{V1 with out:=none},rfl,⟨⟨rfl,rfl⟩,zn.sw,zn.si,zn.sl⟩,rfl⟩,rfl⟩
  have rz:n.take l=(0,n1):=uK.trans (by rw[show n1.oQ=n1 from if_neg (by rw[Ox];exact Bool.false_ne_true)]);refine gc 12 ?_;refine bm results27 rfl rfl (L1:=ao F V1 n1++R) ae ?_;rw[rz];exact⟨_,⟨V1,rfl,zn,rfl⟩,rfl⟩
 clear gM;refine gc 4 ?_;refine bA (an rfl rfl (by rfl) sizeOf45 bc rfl rfl) ?_;refine gy 2 ?_;exact aV aq ae (zP () trivial)
theorem ahZ [Env]{R:List ax}{F:NF}{V:NV}{n:aa}{l:gI}(hn:n.ok 950000)(hV:ct V n)(hb:l.body.length≤1000):
   bC Tryz.prog 27 [ptr F.p,.agg l.cells.toArray] (ao F V n) R (Nj F (n.take l)):=(P8 hn hV hb).ak3 A5
end W
end Go.Proofs
namespace Go.Sl
theorem AV{D:az}{first n a b:Int}:(bh D first n a b).2.2.l.length=D.l.length:=by
 unfold bh;split
 ·rfl
 ·split
  ·rfl
  ·split
   · rfl
   · unfold aU.put;dsimp only;rw[vO]
theorem NP{D:az}{first n a b bl:Int}:(bQ D first n a b bl).2.2.l.length=D.l.length:=by
 unfold bQ;split
 ·rfl
 ·split
  · exact AV
  · split<;>exact AV
theorem AU{D:az}{first n a b:Int}(hD:D.ok):(bh D first n a b).2.2.ok:=by
 unfold bh;split
 ·exact hD
 ·split
  ·exact hD
  ·rename_i ha he
   split
   ·exact hD
   ·rename_i ht
    unfold aU.put;dsimp only;exact(Go.Sl.mO (eW (Classical.not_not.1 he)).1 hD _).2
theorem NO{D:az}{first n a b bl:Int}(hD:D.ok):(bQ D first n a b bl).2.2.ok:=by
 unfold bQ;split
 ·exact hD
 ·split
  · exact AU hD
  · split<;>exact AU hD
theorem Av{bl:Nat}: ∀(l:List (Bytes × Int)) (i:Int) (C C':aQ),gR bl l i C=some C'→C'.bl=C.bl
 | [],_,C,C',h=>by cases h;rfl
 |x::l,i,C,C',h=>by
  unfold gR at h;split at h
  ·cases h
  ·rename_i r _
   exact(Av l _ _ _ h).trans (aQ.pj C r i).2.1
theorem KG{D:az}{first n a b bl:Int}(h:(bQ D first n a b bl).1=0):(bQ D first n a b bl).2.1.bl=bl.toNat:=by
 unfold bQ at h ⊢;split
 ·rfl
 ·rename_i h1
  rw[if_neg h1]at h;split
  ·rfl
  ·split
   ·rfl
   ·rename_i C hC
    exact Av _ _ _ _ hC
def fact(s:Bytes):Option Int:=if(bX s).2=0∧(bX s).1.kind=50∧(bX s).1.aH.length=1∧(bX s).1.texts.length=0∧0≤(bX s).1.aH.getD 0 0∧(bX s).1.aH.getD 0 0≤4611686018427387904 then some ((bX s).1.aH.getD 0 0)else none
def ka(id serial lease patience bl:Int)(f:a8)(dr:eX)(c:aQ)(d:az):aa:=
 {id:=id,serial:=serial,lease:=lease,patience:=patience,blocks:=bl,f:=f,dr:=dr,c:=c,left:=0,down:=false,lost:=false,ah:=0,mask:=0,clock:=0,born:=0,change:=0,done:=⟨0,0,0,0⟩,fj:=⟨0,0,0,0⟩,cT:=0,out:=[],role:=0,want:=0,cm:=0,quiet:=0,waits:=[],s:=dC.new 0,d:=d}
def oU(D:az):aa:=ka 0 0 0 0 0 (aF D 0 1) (mJ D 2 3 0) (gB (kC D 6 0 4 5) 0) D
def gT(id serial lease patience:Int):Prop:=id<0∨1<id∨(serial<0∨4611686018427387904<serial)∨(lease<1∨1048576<lease)∨(patience<1∨1048576<patience)
instance (id serial lease patience:Int):Decidable (gT id serial lease patience):=by unfold gT;infer_instance
def gG(n:aa):Int × aa:=match fact n.f.text with
 |none=>(0,{n with lost:=true})
 |some e=>aa.iF {n with ah:=e} e
def cO(id serial:Int)(D:az)(bl lease patience:Int):Int × aa:=
 if gT id serial lease patience then(1,oU D)else
 if cg D 0 1≠0 then(cg D 0 1,oU D)else
 if nS D 2 3 bl≠0 then(nS D 2 3 bl,oU D)else
 if(bQ D 6 ((D.l.length:Int)- 6) 4 5 bl).1≠0 then((bQ D 6 ((D.l.length:Int)- 6) 4 5 bl).1,oU (bQ D 6 ((D.l.length:Int)- 6) 4 5 bl).2.2)else
 gG (ka id serial lease patience bl (aF D 0 1) (mJ D 2 3 bl.toNat) (bQ D 6 ((D.l.length:Int)- 6) 4 5 bl).2.1 (bQ D 6 ((D.l.length:Int)- 6) 4 5 bl).2.2)
def cQ(D:az):Int × az:=if cg D 0 1≠0 then(cg D 0 1,D)else(((aF D 0 1).put D (cR 0)).1,((aF D 0 1).put D (cR 0)).2.2)
theorem BS{s:Bytes}{e:Int}(h:fact s=some e):gg e:=by
 unfold fact at h;split at h
 · rename_i hc;cases h;exact⟨hc.2.2.2.2.1,hc.2.2.2.2.2⟩
 · cases h
theorem A6{id serial lease patience bl:Int}{f:a8}{dr:eX}{c:aQ}{d:az}(ha: ¬gT id serial lease patience)(hb:1≤bl∧bl≤32)(hp:wa bl f dr c d):(ka id serial lease patience bl f dr c d).ok 0:=by
 unfold gT at ha;have n0:gg 0:=aa.wE
 exact⟨⟨by show id=0∨id=1;omega,⟨by show 0≤serial;omega,by show serial≤_;omega⟩,by show 1≤lease∧lease≤1048576;omega,by show 1≤patience∧patience≤1048576;omega,hb⟩,hp,
  ⟨aa.zl,n0,n0,aa.zk 0,by show(0:Int)≤0∧(0:Int)≤536870912;omega,aa.zk 0,aa.zk 0,aa.z03,aa.z03,aa.z02,aa.zk 0⟩,⟨n0,n0,n0,n0⟩,⟨n0,n0,n0,n0⟩,⟨Nat.zero_le _,fun w hw=>by cases hw⟩,.new _ _,Nat.zero_le _⟩
theorem Ii{n:aa}{K:Nat}(h:n.ok K):(gG n).2.ok K:=by
 unfold gG;split
 ·exact⟨h.a,h.p,h.n,h.t,h.o,h.w,h.s,h.out⟩
 ·rename_i e he
  have h1:=BS he;exact aa.ok.iF (n:={n with ah:=e}) ⟨h.a,h.p,⟨h.n.left,h1,h.n.mask,h.n.clock,h.n.born,h.n.change,h.n.cT,h.n.role,h.n.want,h.n.cm,h.n.quiet⟩,h.t,h.o,h.w,h.s,h.out⟩ h1
theorem Fm{D:az}{bl:Int}(hD:D.ok)(h1:cg D 0 1=0)(h2:nS D 2 3 bl=0)(h3:(bQ D 6 ((D.l.length:Int)- 6) 4 5 bl).1=0):
  wa bl (aF D 0 1) (mJ D 2 3 bl.toNat) (bQ D 6 ((D.l.length:Int)- 6) 4 5 bl).2.1 (bQ D 6 ((D.l.length:Int)- 6) 4 5 bl).2.2∧1≤bl∧bl≤32:=by
 have hb:1≤bl∧bl≤32∧cg D 2 3=0:=by
  unfold nS at h2;split at h2
  · cases h2
  · exact⟨by omega,by omega,h2⟩
 have hl:=NP (D:=D) (first:=6) (n:=(D.l.length:Int)- 6) (a:=4) (b:=5) (bl:=bl);have hd:=Th (n:=bl.toNat) hD (by omega) hb.2.2;refine⟨⟨by rw[hl];exact(eW h1).1,?_,?_,⟨by rw[hl];exact hd.c,hd.n,hd.bits,NO hD⟩,KH hD h3⟩,hb.1,hb.2.1⟩
 ·show((bl.toNat:Nat):Int)=bl;omega
 ·rw[KG h3];omega
theorem oh{id serial:Int}{D:az}{bl lease patience:Int}(hD:D.ok)(h:(cO id serial D bl lease patience).1=0):(cO id serial D bl lease patience).2.ok 0:=by
 unfold cO at h ⊢;split
 · rename_i ha;rw[if_pos ha]at h;cases h
 rename_i ha
 rw[if_neg ha]at h;split
 · rename_i h1;rw[if_pos h1]at h;exact absurd h h1
 rename_i h1
 rw[if_neg h1]at h;split
 · rename_i h2;rw[if_pos h2]at h;exact absurd h h2
 rename_i h2
 rw[if_neg h2]at h;split
 · rename_i h3;rw[if_pos h3]at h;exact absurd h h3
 rename_i h3
 obtain⟨hp,hb⟩:=Fm hD (Classical.not_not.1 h1) (Classical.not_not.1 h2) (Classical.not_not.1 h3);exact Ii (A6 ha hb hp)
structure Du where
 down:Bool
 lost:Bool
 ah:Int
 role:Int
 mask:Int
 want:Int
 cm:Int
 waits:Int
 left:Int
 seq:Int
 dV:Int
 deriving DecidableEq
def Du.cells(v:Du):List Value:=[.bool v.down,.bool v.lost,iV v.ah,iV v.role,iV v.mask,iV v.want,iV v.cm,iV v.waits,iV v.left,iV v.seq,iV v.dV]
def aa.view(n:aa):Du:=⟨n.down,n.lost,n.ah,n.role,n.mask,n.want,n.cm,n.waits.length,n.left,n.s.last,n.s.dV⟩
theorem F0(v:Du): ∀u∈v.cells,u.oneCell'=true:=by
 intro u hu;simp only[Du.cells,List.mem_cons,List.not_mem_nil,or_false]at hu;rcases hu with rfl|rfl|rfl|rfl|rfl|rfl|rfl|rfl|rfl|rfl|rfl<;>rfl
end Go.Sl