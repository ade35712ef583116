/- A part of the proof. -/
import Derived.Test.YtlignadmmopdmaaGreatUn
import Derived.Test.YtlignadmmopdmaaGreatN27
set_option linter.unusedVariables false
set_option linter.unusedSimpArgs false
set_option linter.constructorNameAsVariable false
namespace Go.Proofs
open _root_.Go.Proofs.Tryz
open Go Go.Sl
namespace W
set_option maxHeartbeats 4000000
theorem FN{n:aa}{m:aM}(h:bM n.c.en m.block=none):n.cX m=n:=by unfold aa.cX;rw[h]
theorem mB{n:aa}{m:aM}(h: ∀x,bM n.c.en m.block=some x→(n.down=true∨(n.ew m.block).isSome=true∨ ¬(x.ve=m.ah∧x.vs=m.seq)∨x.bZ=false)):n.cX m=n:=by
 unfold aa.cX;split
 · rfl
 rename_i x hx
 rw[if_pos (h x hx)]
theorem RP{n:aa}{m:aM}{x:bd}{r:Int × aQ × az}(ha:bM n.c.en m.block=some x)(h1: ¬n.down=true)(h2:n.ew m.block=none)(h3:x.ve=m.ah∧x.vs=m.seq)(h4:x.bZ=true)(hR:n.c.clean n.d m.block m.ah m.seq=r):
   n.cX m=aa.andThen (n.iO r) fun n=>(n.gC m).reads:=by
 unfold aa.cX;rw[ha];dsimp only;rw[if_neg (by rw[h2,h4];simp_all),hR]
theorem RO{n:aa}{m:aM}(h:aa.bY n.waits m.block=none):n.eG m=n:=by unfold aa.eG;rw[dm h]
theorem acW{n:aa}{m:aM}{i:Nat}{w:ar}(h:aa.bY n.waits m.block=some i)(hw:n.waits[i]? =some w)(hs: ¬w.seq=m.seq):n.eG m=n:=by unfold aa.eG;rw[fw h hw];exact if_neg hs
theorem VA{n:aa}{m:aM}{i:Nat}{w:ar}(h:aa.bY n.waits m.block=some i)(hw:n.waits[i]? =some w)(hs:w.seq=m.seq):n.eG m={n with waits:=n.waits.set i {w with stored:=true}}:=by
 unfold aa.eG;rw[fw h hw];show(if w.seq=m.seq then _ else _)=_;rw[if_pos hs,A1 h,yv hw]
theorem CA [Env]{R:List ax}{F:NF}{V:NV}{n:aa}{m:aM}(hn:n.ok 970000)(hV:ct V n):
   bC Tryz.prog 110 [ptr F.p,.agg m.cells.toArray] (ao F V n) R (KN F (n.stored m) (.tuple #[])):=by
 obtain⟨vo,vw,vp,vi,vl⟩:=V;have zE:=hn.w.n;have wx:bW vw n.waits.length 7 (a6 n.waits):=hV.sw;have jt:cE [iK ⟨vo,vw,vp,vi,vl⟩ n] (aG vw n.waits.length) n.waits.length (a6 n.waits):=bG .z wx;have LF:sO (aG vw n.waits.length)=0:=by cases vw<;>rfl
 obtain⟨wp,l7⟩: ∃z,aa.bY n.waits m.block=z:=⟨_,rfl⟩;obtain⟨n1,mo⟩: ∃z,n.eG m=z:=⟨_,rfl⟩;have cD:n1.ok 970000:=mo▸hn.eG m;refine ag func110 ntmps110 rfl rfl ?_;unfold ao bB;refine gc 1 ?_;refine ya (a7 (vs:=m.cells) rfl rfl) rfl ?_;rintro v L' ⟨b3,rfl,rfl⟩;refine gy 2 ?_;refine bq ?_;intro K2 gM
 have nh: ∀x:NV,(ct x n1)→Sk 97 K2 ([(0,ptr F.p),(3,ptr b3)]) (sc b3 m.cells 34::ao F x n1++R):=by
  rintro V1 zO;refine gM _ _ ?_;have dN:=zO;refine gc 2 ?_;refine aA (tc (V:=V1) (n:=n1) ?aqR ?atq) rfl call117 aZ rfl ?_
  case aqR=>exact cD.le (by decide)
  case atq=>exact dN
  rintro v L' ⟨jz,rfl,eY,rfl⟩;obtain⟨n2,zB⟩: ∃z,n1.settle=z:=⟨_,rfl⟩;rw[zB]at eY ⊢;have eV:n2.ok 970050:=zB▸cD.settle;have gw:n.stored m=n2.cX m:=by unfold aa.stored;rw[mo,zB]
  have sS:=eV.w.n;obtain⟨ox,qg⟩: ∃z,bM n2.c.en m.block=z:=⟨_,rfl⟩;obtain⟨wp2,z6⟩: ∃z,aa.bY n2.waits m.block=z:=⟨_,rfl⟩;obtain⟨r,hR⟩: ∃z,n2.c.clean n2.d m.block m.ah m.seq=z:=⟨_,rfl⟩;have qd:jR n2.c n2.d r:=by rw[←hR];exact nR eV.p.c _ _ _
  unfold ao bB;refine gy 7 ?_;refine y (cA ([i64 m.ah,i64 m.seq])) rfl ?_;refine ya (aB zeroValue84 rfl) rfl ?_;rintro v L' ⟨b5,rfl,rfl⟩;refine bA (ai rfl rfl (by simp[Value.oneCell']) sizeOf84 bc (by rfl) (by rfl)) ?_;refine gy 3 ?_;refine kO 12 (.op 0 0 (.op 1 0 (.op 2 0 (.op 3 1 (.op 4 0 (.op 5 1 (.fork 6 (.op 7 0 (.op 8 0 (.op 9 0 (.op 10 2 (.op 11 2 (.nil)))))) 10 (.op 6 2 (.op 7 0 (.op 8 0 (.op 9 0 (.op 11 2 (.nil))))))))))))) ([sc b3 _ 34,sc F.p _ 106,cU F.A n2.c,ga F.A n2.c]++R) Tryz.mixed (by kernel_rfl) ae ?_;refine nz rfl (ba rfl) rfl ?_;refine nz rfl (fD rfl) rfl ?_;refine nz rfl (aT 7 rfl underlying106 rfl sizeOf98) rfl ?_;refine nr rfl (bR rfl isAgg98 aL rfl) rfl ?_;refine nz rfl (aT 4 rfl underlying34 rfl sizeOf3) rfl ?_;refine nr rfl (bR rfl isAgg3 aL rfl) rfl ?_;refine mu ?_ ?_
  ·refine fy rfl (HV) rfl call153 aZ rfl ?_;rintro v L' ⟨rfl,rfl⟩;refine⟨ae,?_⟩;rw[qg];refine nz rfl (ba rfl) rfl ?_;refine nz rfl (cV rfl rfl) rfl ?_;refine nz rfl (cV rfl rfl) rfl ?_;refine na rfl (aB zeroValue127 rfl) rfl ?_;rintro v L' ⟨b6,rfl,rfl⟩;refine⟨ae,?_⟩;refine UX rfl (aP (vs':=bd.cells (ox.getD .zero)) rfl rfl (gi _) sizeOf127 bc rfl (by decide) rfl) ?_;rintro v L' ⟨rfl,rfl⟩;refine⟨ae,?_⟩;refine ik ?_;refine gy 5 ?_;refine aS 36 (od [8,35] 36 0) ([sc b3 _ 34,sc F.p _ 106,sc b5 _ _,sc b6 _ _]++R) Tryz.mixed (by kernel_rfl) ae ?_;refine gh 5 ?_;refine fZ 47 rfl (fun Ss=>?_) (fun Ss=>?_)
   ·have hq:n2.cX m=n2:=mB (fun x hx=> .inl Ss);refine gh 3 ?_;refine lF rfl rfl rfl rfl rfl ae ?_;rcases wp2 with _|i2
    ·refine gh 1 ?_;have HL:=dm z6;refine gh 25 ?_;refine lF rfl rfl rfl rfl rfl ae ?_;refine gh 9 ?_;refine bj results110 (L1:=ao F jz n2++R) ae ?_;rw[gw,hq];exact⟨_,⟨jz,rfl,eY,rfl⟩,rfl⟩
    refine gh 1 ?_;have hq:=hq;refine gh 25 ?_;refine lF rfl rfl rfl rfl rfl ae ?_;refine gh 9 ?_;refine bj results110 (L1:=ao F jz n2++R) ae ?_;rw[gw,hq];exact⟨_,⟨jz,rfl,eY,rfl⟩,rfl⟩
   have hdn: ¬n2.down=true:=by rw[Ss];simp
   refine gh 3 ?_;refine fk rfl rfl rfl (jF (V:=jz) (n:=n2) ?amN ?att) rfl call100 aZ rfl ?_
   case amN=>exact eY.sw
   case att=>omega
   rintro v L' ⟨rfl,rfl⟩;refine⟨ae,?_⟩;rw[oB z6];rcases wp2 with _|i2
   ·refine ko rfl rfl rfl (dw rfl rfl underlying183) rfl ?_;have HL:=dm z6;refine gh 6 ?_;refine fZ 58 rfl (fun YQ=>?_) (fun YQ=>?_)
    ·have hq:n2.cX m=n2:=FN (by rcases ox with _|ex;exact qg;simp_all);refine gh 19 ?_;refine lF rfl rfl rfl rfl rfl ae ?_;refine gh 9 ?_;refine bj results110 (L1:=ao F jz n2++R) ae ?_;rw[gw,hq];exact⟨_,⟨jz,rfl,eY,rfl⟩,rfl⟩
    obtain⟨ex,rfl⟩: ∃z,ox=some z:=by
      rcases ox with _|ex
      · simp_all
      exact⟨ex,rfl⟩
    refine gh 1 ?_;refine ko rfl rfl rfl (ay (u:=[i64 ex.ve,i64 ex.vs]) rfl isAgg84 sizeOf84 aL rfl rfl) rfl ?_;refine ko rfl rfl rfl (ay (u:=[i64 m.ah,i64 m.seq]) rfl isAgg84 sizeOf84 aL rfl rfl) rfl ?_;refine ko rfl rfl rfl (sC (p:=ex.ve=m.ah∧ex.vs=m.seq) (xs:=[i64 ex.ve,i64 ex.vs]) (ys:=[i64 m.ah,i64 m.seq]) rfl rfl (by kernel_rfl) (by simp)) rfl ?_;refine gh 2 ?_;refine fZ 64 rfl (fun MW=>?_) (fun MW=>?_)
    ·have hq:n2.cX m=n2:=mB (fun x hx=> .inr (.inr (.inl (by rw[qg]at hx;cases hx;simpa using MW))));refine gh 13 ?_;refine lF rfl rfl rfl rfl rfl ae ?_;refine gh 9 ?_;refine bj results110 (L1:=ao F jz n2++R) ae ?_;rw[gw,hq];exact⟨_,⟨jz,rfl,eY,rfl⟩,rfl⟩
    have hvv:ex.ve=m.ah∧ex.vs=m.seq:=by simpa using MW
    refine gh 5 ?_;refine fZ 69 rfl (fun Dg=>?_) (fun Dg=>?_)
    ·have hq:n2.cX m=n2:=mB (fun x hx=> .inr (.inr (.inr (by rw[qg]at hx;cases hx;simpa using Dg))));refine gh 8 ?_;refine lF rfl rfl rfl rfl rfl ae ?_;refine gh 9 ?_;refine bj results110 (L1:=ao F jz n2++R) ae ?_;rw[gw,hq];exact⟨_,⟨jz,rfl,eY,rfl⟩,rfl⟩
    have Za:ex.bZ=true:=by simpa using Dg
    have ru:=RP qg hdn HL hvv Za hR;refine gh 7 ?_;refine ko rfl rfl rfl (ak rfl isAgg84 sizeOf84 aL (by rfl)) rfl ?_;refine fk rfl rfl rfl (HU (C:=n2.c) (D:=n2.d) (b:=m.block) (e:=m.ah) (s:=m.seq) ?aeK ?ahb) rfl call120 aZ rfl ?_
    case aeK=>exact eV.p.c
    case ahb=>exact eY.sl
    rintro v L' ⟨mQ,rfl,CI,rfl⟩;refine⟨ae,?_⟩;rw[hR]at CI ⊢;refine gh 1 ?_;refine bV ?_;refine bK (qP (V:={jz with sl:=mQ}) (n:=n2.bf r)) call121 ?_;refine gy 4 ?_;refine cc rfl (fun h94=>?_) (fun h94=>?_)
    ·have hq:n2.cX m=(n2.bf r).err r.1:=ru.trans (if_neg (by show¬decide (r.1=0)=true;simpa using h94));refine gc 2 ?_;refine bj results110 (L1:=ao F {jz with sl:=mQ} ((n2.bf r).err r.1)++R) ae ?_;rw[gw,hq];exact⟨_,⟨{jz with sl:=mQ},rfl,⟨eY.out,eY.sw,eY.si,CI⟩,rfl⟩,rfl⟩
    have xX:n2.cX m=(((n2.bf r).err r.1).gC m).reads:=ru.trans (if_pos (by show decide (r.1=0)=true;simpa using h94));obtain⟨n3,qG⟩: ∃z,(n2.bf r).err r.1=z:=⟨_,rfl⟩;have gb:n3.ok 970050:=qG▸(eV.bf qd).err _;have zA:ct {jz with sl:=mQ} n3:=by rw[←qG];exact⟨eY.out,eY.sw,eY.si,CI⟩
    rw[qG]at xX;obtain⟨n4,M4⟩: ∃z,n3.gC m=z:=⟨_,rfl⟩;have lf:n4.ok 970051:=M4▸gb.gC m;rw[M4]at xX;refine gc 2 ?_;refine bq ?_;intro K8 qN
    have vx: ∀x:NV,(ct x n4)→Sk 97 K8 ([(0,ptr F.p)]) (ao F x n4++R):=by
     rintro V4 Ei;refine qN _ _ ?_;have hV4:=Ei;refine gc 2 ?_;refine aA (yx (V:=V4) (n:=n4) ?aiF ?amA) rfl call102 aZ rfl ?_
     case aiF=>exact lf.le (by decide)
     case amA=>exact hV4
     rintro v L' ⟨MR,rfl,I0,rfl⟩;refine gy 1 ?_;refine aN results110 (L1:=ao F MR n4.reads++R) ae ?_;rw[gw,xX];exact⟨_,⟨MR,rfl,I0,rfl⟩,rfl⟩
    clear qN;refine gc 2 ?_;refine bK (lH (V:={jz with sl:=mQ}) (n:=(n2.bf r).err r.1)) call114 ?_;refine gy 2 ?_;refine cc rfl (fun MY=>?_) (fun MY=>?_)
    ·have B8:n4=n3.send n3.peer {aa.lT with kind:=9,ah:=m.ah,seq:=m.seq,block:=m.block}:=by rw[←M4];unfold aa.gC;rw[←qG];exact if_pos MY
     refine aS 10 [(0,true),(1,true),(3,true),(4,true),(5,true),(6,true),(7,true),(8,true),(9,true),(2,false)] ([sc b3 _ 34,bB F {jz with sl:=mQ} ((n2.bf r).err r.1)]++R) Tryz.mixed (by kernel_rfl) ae ?_;refine gh 8 ?_;refine hr rfl (cA (aM.cells ⟨9,m.ah,m.seq,0,m.block,-1,0,0,0,0,0,[],[]⟩)) rfl ?_;refine bg rfl (vJ (V:={jz with sl:=mQ}) (n:=(n2.bf r).err r.1) ?ah8) rfl call63 aZ rfl ?_
     case ah8=>exact eV.a.id
     rintro v L' ⟨rfl,rfl⟩;refine⟨ae,?_⟩;refine gh 1 ?_;refine aA (nw (V:={jz with sl:=mQ}) (n:=(n2.bf r).err r.1) (m:=⟨9,m.ah,m.seq,0,m.block,-1,0,0,0,0,0,[],[]⟩) ?abH ?ajG) rfl call67 aZ rfl ?_
     case abH=>exact eY.out
     case ajG=>have:=eV.out;show n2.out.length≤1000000;omega
     rintro v L' ⟨o94,rfl,QS,rfl⟩;refine gy 2 ?_;subst B8;subst qG;exact aV aq ae (vx {jz with sl:=mQ,out:=o94} ⟨QS,eY.sw,eY.si,CI⟩)
    have B8:n4=n3:=by rw[←M4];unfold aa.gC;rw[←qG];exact if_neg (by rw[MY];simp)
    refine gc 2 ?_;subst B8;subst qG;exact aV aq ae (vx {jz with sl:=mQ} zA)
   refine ko rfl rfl rfl (dw rfl rfl underlying183) rfl ?_
   (have hq:n2.cX m=n2:=mB (fun x hx=> .inr (.inl (by obtain⟨w9,Uf,_⟩:=eR z6;rw[fw z6 Uf];rfl))))
   refine gh 25 ?_;refine lF rfl rfl rfl rfl rfl ae ?_;refine gh 9 ?_;refine bj results110 (L1:=ao F jz n2++R) ae ?_;rw[gw,hq];exact⟨_,⟨jz,rfl,eY,rfl⟩,rfl⟩
  refine na rfl (aB zeroValue127 rfl) rfl ?_;rintro v L' ⟨b6,rfl,rfl⟩;refine⟨ae,?_⟩;refine fy rfl (HV) rfl call153 aZ rfl ?_;rintro v L' ⟨rfl,rfl⟩;refine⟨ae,?_⟩;rw[qg];refine nz rfl (ba rfl) rfl ?_;refine nz rfl (cV rfl rfl) rfl ?_;refine nz rfl (cV rfl rfl) rfl ?_;refine UX rfl (aP (vs':=bd.cells (ox.getD .zero)) rfl rfl (gi _) sizeOf127 bc rfl (by decide) rfl) ?_;rintro v L' ⟨rfl,rfl⟩;refine⟨ae,?_⟩;refine ik ?_;refine gy 5 ?_;refine aS 36 (od [8,35] 36 0) ([sc b3 _ 34,sc F.p _ 106,sc b5 _ _,sc b6 _ _]++R) Tryz.mixed (by kernel_rfl) ae ?_;refine gh 5 ?_;refine fZ 47 rfl (fun Om=>?_) (fun Om=>?_)
  ·have hq:n2.cX m=n2:=mB (fun x hx=> .inl Om);refine gh 3 ?_;refine lF rfl rfl rfl rfl rfl ae ?_;rcases wp2 with _|i2
   ·refine gh 1 ?_;have HL:=dm z6;refine gh 25 ?_;refine lF rfl rfl rfl rfl rfl ae ?_;refine gh 9 ?_;refine bj results110 (L1:=ao F jz n2++R) ae ?_;rw[gw,hq];exact⟨_,⟨jz,rfl,eY,rfl⟩,rfl⟩
   refine gh 1 ?_;have hq:=hq;refine gh 25 ?_;refine lF rfl rfl rfl rfl rfl ae ?_;refine gh 9 ?_;refine bj results110 (L1:=ao F jz n2++R) ae ?_;rw[gw,hq];exact⟨_,⟨jz,rfl,eY,rfl⟩,rfl⟩
  have hdn: ¬n2.down=true:=by rw[Om];simp
  refine gh 3 ?_;refine fk rfl rfl rfl (jF (V:=jz) (n:=n2) ?ado ?amH) rfl call100 aZ rfl ?_
  case ado=>exact eY.sw
  case amH=>omega
  rintro v L' ⟨rfl,rfl⟩;refine⟨ae,?_⟩;rw[oB z6];rcases wp2 with _|i2
  ·refine ko rfl rfl rfl (dw rfl rfl underlying183) rfl ?_;have HL:=dm z6;refine gh 6 ?_;refine fZ 58 rfl (fun La=>?_) (fun La=>?_)
   ·have hq:n2.cX m=n2:=FN (by rcases ox with _|ex;exact qg;simp_all);refine gh 19 ?_;refine lF rfl rfl rfl rfl rfl ae ?_;refine gh 9 ?_;refine bj results110 (L1:=ao F jz n2++R) ae ?_;rw[gw,hq];exact⟨_,⟨jz,rfl,eY,rfl⟩,rfl⟩
   obtain⟨ex,rfl⟩: ∃z,ox=some z:=by
     rcases ox with _|ex
     · simp_all
     exact⟨ex,rfl⟩
   refine gh 1 ?_;refine ko rfl rfl rfl (ay (u:=[i64 ex.ve,i64 ex.vs]) rfl isAgg84 sizeOf84 aL rfl rfl) rfl ?_;refine ko rfl rfl rfl (ay (u:=[i64 m.ah,i64 m.seq]) rfl isAgg84 sizeOf84 aL rfl rfl) rfl ?_;refine ko rfl rfl rfl (sC (p:=ex.ve=m.ah∧ex.vs=m.seq) (xs:=[i64 ex.ve,i64 ex.vs]) (ys:=[i64 m.ah,i64 m.seq]) rfl rfl (by kernel_rfl) (by simp)) rfl ?_;refine gh 2 ?_;refine fZ 64 rfl (fun Lb=>?_) (fun Lb=>?_)
   ·have hq:n2.cX m=n2:=mB (fun x hx=> .inr (.inr (.inl (by rw[qg]at hx;cases hx;simpa using Lb))));refine gh 13 ?_;refine lF rfl rfl rfl rfl rfl ae ?_;refine gh 9 ?_;refine bj results110 (L1:=ao F jz n2++R) ae ?_;rw[gw,hq];exact⟨_,⟨jz,rfl,eY,rfl⟩,rfl⟩
   have hvv:ex.ve=m.ah∧ex.vs=m.seq:=by simpa using Lb
   refine gh 5 ?_;refine fZ 69 rfl (fun Hh=>?_) (fun Hh=>?_)
   ·have hq:n2.cX m=n2:=mB (fun x hx=> .inr (.inr (.inr (by rw[qg]at hx;cases hx;simpa using Hh))));refine gh 8 ?_;refine lF rfl rfl rfl rfl rfl ae ?_;refine gh 9 ?_;refine bj results110 (L1:=ao F jz n2++R) ae ?_;rw[gw,hq];exact⟨_,⟨jz,rfl,eY,rfl⟩,rfl⟩
   have Za:ex.bZ=true:=by simpa using Hh
   have ru:=RP qg hdn HL hvv Za hR;refine gh 7 ?_;refine ko rfl rfl rfl (ak rfl isAgg84 sizeOf84 aL (by rfl)) rfl ?_;refine fk rfl rfl rfl (HU (C:=n2.c) (D:=n2.d) (b:=m.block) (e:=m.ah) (s:=m.seq) ?X2 ?Z1) rfl call120 aZ rfl ?_
   case X2=>exact eV.p.c
   case Z1=>exact eY.sl
   rintro v L' ⟨mQ,rfl,CI,rfl⟩;refine⟨ae,?_⟩;rw[hR]at CI ⊢;refine gh 1 ?_;refine bV ?_;refine bK (qP (V:={jz with sl:=mQ}) (n:=n2.bf r)) call121 ?_;refine gy 4 ?_;refine cc rfl (fun Oy=>?_) (fun Oy=>?_)
   ·have hq:n2.cX m=(n2.bf r).err r.1:=ru.trans (if_neg (by show¬decide (r.1=0)=true;simpa using Oy));refine gc 2 ?_;refine bj results110 (L1:=ao F {jz with sl:=mQ} ((n2.bf r).err r.1)++R) ae ?_;rw[gw,hq];exact⟨_,⟨{jz with sl:=mQ},rfl,⟨eY.out,eY.sw,eY.si,CI⟩,rfl⟩,rfl⟩
   have xX:n2.cX m=(((n2.bf r).err r.1).gC m).reads:=ru.trans (if_pos (by show decide (r.1=0)=true;simpa using Oy));obtain⟨n3,qG⟩: ∃z,(n2.bf r).err r.1=z:=⟨_,rfl⟩;have gb:n3.ok 970050:=qG▸(eV.bf qd).err _;have zA:ct {jz with sl:=mQ} n3:=by rw[←qG];exact⟨eY.out,eY.sw,eY.si,CI⟩
   rw[qG]at xX;obtain⟨n4,M4⟩: ∃z,n3.gC m=z:=⟨_,rfl⟩;have lf:n4.ok 970051:=M4▸gb.gC m;rw[M4]at xX;refine gc 2 ?_;refine bq ?_;intro K12 xQ
   have vx: ∀x:NV,(ct x n4)→Sk 97 K12 ([(0,ptr F.p)]) (ao F x n4++R):=by
    rintro V4 Ei;refine xQ _ _ ?_;have hV4:=Ei;refine gc 2 ?_;refine aA (yx (V:=V4) (n:=n4) ?aaW ?adk) rfl call102 aZ rfl ?_
    case aaW=>exact lf.le (by decide)
    case adk=>exact hV4
    rintro v L' ⟨MR,rfl,I0,rfl⟩;refine gy 1 ?_;refine aN results110 (L1:=ao F MR n4.reads++R) ae ?_;rw[gw,xX];exact⟨_,⟨MR,rfl,I0,rfl⟩,rfl⟩
   clear xQ;refine gc 2 ?_;refine bK (lH (V:={jz with sl:=mQ}) (n:=(n2.bf r).err r.1)) call114 ?_;refine gy 2 ?_;refine cc rfl (fun YB=>?_) (fun YB=>?_)
   ·have B8:n4=n3.send n3.peer {aa.lT with kind:=9,ah:=m.ah,seq:=m.seq,block:=m.block}:=by rw[←M4];unfold aa.gC;rw[←qG];exact if_pos YB
    refine aS 10 [(0,true),(1,true),(3,true),(4,true),(5,true),(6,true),(7,true),(8,true),(9,true),(2,false)] ([sc b3 _ 34,bB F {jz with sl:=mQ} ((n2.bf r).err r.1)]++R) Tryz.mixed (by kernel_rfl) ae ?_;refine gh 8 ?_;refine hr rfl (cA (aM.cells ⟨9,m.ah,m.seq,0,m.block,-1,0,0,0,0,0,[],[]⟩)) rfl ?_;refine bg rfl (vJ (V:={jz with sl:=mQ}) (n:=(n2.bf r).err r.1) ?aif) rfl call63 aZ rfl ?_
    case aif=>exact eV.a.id
    rintro v L' ⟨rfl,rfl⟩;refine⟨ae,?_⟩;refine gh 1 ?_;refine aA (nw (V:={jz with sl:=mQ}) (n:=(n2.bf r).err r.1) (m:=⟨9,m.ah,m.seq,0,m.block,-1,0,0,0,0,0,[],[]⟩) ?abU ?ajT) rfl call67 aZ rfl ?_
    case abU=>exact eY.out
    case ajT=>have:=eV.out;show n2.out.length≤1000000;omega
    rintro v L' ⟨o94,rfl,QS,rfl⟩;refine gy 2 ?_;subst B8;subst qG;exact aV aq ae (vx {jz with sl:=mQ,out:=o94} ⟨QS,eY.sw,eY.si,CI⟩)
   have B8:n4=n3:=by rw[←M4];unfold aa.gC;rw[←qG];exact if_neg (by rw[YB];simp)
   refine gc 2 ?_;subst B8;subst qG;exact aV aq ae (vx {jz with sl:=mQ} zA)
  refine ko rfl rfl rfl (dw rfl rfl underlying183) rfl ?_
  (have hq:n2.cX m=n2:=mB (fun x hx=> .inr (.inl (by obtain⟨w9,Uf,_⟩:=eR z6;rw[fw z6 Uf];rfl))))
  refine gh 25 ?_;refine lF rfl rfl rfl rfl rfl ae ?_;refine gh 9 ?_;refine bj results110 (L1:=ao F jz n2++R) ae ?_;rw[gw,hq];exact⟨_,⟨jz,rfl,eY,rfl⟩,rfl⟩
 clear gM;refine gc 4 ?_;refine bK (jF (V:=⟨vo,vw,vp,vi,vl⟩) (n:=n) ?adr ?amK) call100 ?_
 case adr=>exact wx
 case amK=>omega
 rw[oB l7];refine gy 4 ?_;refine aS 10 (od [] 10 0) (_) Tryz.mixed (by kernel_rfl) .refl ?_;rcases wp with _|i
 ·refine gh 1 ?_;have ZR:=RO l7;refine hr rfl (dw rfl rfl underlying183) rfl ?_;refine gh 15 ?_;rw[mo]at ZR;subst ZR;exact aV aq ae (nh ⟨vo,vw,vp,vi,vl⟩ hV)
 refine gh 1 ?_;obtain⟨w,Dj,-,-⟩:=eR l7;refine hr rfl (dw rfl rfl underlying183) rfl ?_;refine gh 4 ?_;refine ko rfl rfl rfl (au (i*7+4) jt ae rfl isAgg2 (by rw[LF];omega) (xH kJ Dj rfl)) rfl ?_;refine gh 7 ?_;refine cc rfl (fun Hj=>?_) (fun Hj=>?_)
 ·have fg:=VA l7 Dj Hj;rw[mo]at fg;have SC:=(List.getElem?_eq_some_iff.1 Dj).1;obtain⟨bw,cw,qT,rfl,hcw⟩:=w6 wx (by omega);unfold iK;simp only[aD];obtain⟨ws,ZS⟩: ∃z,n.waits.set i {w with stored:=true}=z:=⟨_,rfl⟩;have HO:ws.length=n.waits.length:=by rw[←ZS];simp
  rw[ZS]at fg;refine gc 4 ?_;refine bA (an (vs':=a6 ws++qT) rfl rfl rfl sizeOf4 bc (by rw[Nat.blt_eq,List.length_append,cW];show i*7+5<n.waits.length*7+qT.length;omega) (by rw[←ZS];exact uW (w:=w) Dj rfl (by decide))) ?_;refine gy 2 ?_;have e4:bB F ⟨vo,some (bw,cw,qT),vp,vi,vl⟩ n=bB F ⟨vo,some (bw,cw,qT),vp,vi,vl⟩ {n with waits:=ws}:=by unfold bB;dsimp only;rw[HO]
  rw[e4];subst fg;exact aV aq ae (nh ⟨vo,some (bw,cw,qT),vp,vi,vl⟩ ⟨hV.out,qA wx HO (by rw[cW,cW,HO]),hV.si,hV.sl⟩)
 have fg:=acW l7 Dj Hj;rw[mo]at fg;refine gc 2 ?_;subst fg;exact aV aq ae (nh ⟨vo,vw,vp,vi,vl⟩ hV)
theorem UJ [Env]{R:List ax}{F:NF}{V:NV}{n:aa}{m:aM}{fr:Int}(hn:n.ok 970000)(hV:ct V n):
   bC Tryz.prog 62 [ptr F.p,i64 fr,.agg m.cells.toArray] (ao F V n) R (KN F (n.cZ m) (.tuple #[])):=by
 refine ag func62 ntmps62 rfl rfl ?_;unfold ao bB;refine gc 1 ?_;refine ya (a7 (vs:=m.cells) rfl rfl) rfl ?_;rintro v L' ⟨b5,rfl,rfl⟩;refine gy 4 ?_;refine aS 15 (od [] 15 0) (_) Tryz.mixed (by kernel_rfl) .refl ?_;refine gh 8 ?_;refine fZ 14 rfl (fun Ha=>?_) (fun Ha=>?_)
 ·refine gh 14 ?_;refine aN results62 (L1:=ao F V n++R) ae ?_;rw[show n.cZ m=n from by(unfold aa.cZ;simp_all)];exact⟨_,⟨V,rfl,hV,rfl⟩,rfl⟩
 refine gh 11 ?_;refine cc rfl (fun AH=>?_) (fun AH=>?_)
 ·refine gc 2 ?_;refine aN results62 (L1:=ao F V n++R) ae ?_;rw[show n.cZ m=n from by(unfold aa.cZ;simp_all)];exact⟨_,⟨V,rfl,hV,rfl⟩,rfl⟩
 refine gc 7 ?_;refine cc rfl (fun Eg=>?_) (fun Eg=>?_)
 ·refine gc 2 ?_;refine aA (ql (V:=V) (n:=n)) rfl call106 aZ rfl ?_;rintro v L' ⟨p27,rfl,rfl⟩;refine gy 2 ?_;refine aN results62 (L1:=ao F (V.bare p27) n.du++R) ae ?_;rw[show n.cZ m=n.du from by unfold aa.cZ;simp_all];exact⟨_,⟨V.bare p27,rfl,⟨hV.out,⟨rfl,rfl⟩,⟨rfl,rfl⟩,hV.sl⟩,rfl⟩,rfl⟩
 refine gc 7 ?_;refine cc rfl (fun OC=>?_) (fun OC=>?_)
 ·refine gc 2 ?_;refine aN results62 (L1:=ao F V n++R) ae ?_;rw[show n.cZ m=n from by(unfold aa.cZ;simp_all)];exact⟨_,⟨V,rfl,hV,rfl⟩,rfl⟩
 refine gc 5 ?_;refine cv 36 rfl (fun OE=>?_) (fun OE=>?_)
 ·refine gy 8 ?_;refine cv 44 rfl (fun TE=>?_) (fun TE=>?_)
  ·refine gy 7 ?_;refine cc rfl (fun OH=>?_) (fun OH=>?_)
   ·refine gc 3 ?_;refine y (ay (u:=qL (aa.wH m)) rfl isAgg32 sizeOf32 aL rfl rfl) rfl ?_;refine aA (P1 (V:=V) (n:=n) (t:=aa.wH m) ?aiw ?amr) rfl call108 aZ rfl ?_
    case aiw=>exact hn
    case amr=>exact hV
    rintro v L' ⟨V52,rfl,atn,rfl⟩;refine gy 2 ?_;refine aN results62 (L1:=ao F V52 (n.recover (aa.wH m))++R) ae ?_;rw[show n.cZ m=n.recover (aa.wH m)from by unfold aa.cZ;simp_all];exact⟨_,⟨V52,rfl,atn,rfl⟩,rfl⟩
   refine gc 7 ?_;refine cc rfl (fun h62=>?_) (fun h62=>?_)
   ·refine gc 2 ?_;refine y (ak rfl isAgg34 sizeOf34 aL (by rfl)) rfl ?_;refine aA (Cz (V:=V) (n:=n) (m:=m) ?Qq ?R5) rfl call109 aZ rfl ?_
    case Qq=>exact hn.le (by decide)
    case R5=>exact hV
    rintro v L' ⟨V59,rfl,VQ,rfl⟩;refine gy 2 ?_;refine aN results62 (L1:=ao F V59 (n.kU m)++R) ae ?_;rw[show n.cZ m=n.kU m from by unfold aa.cZ;simp_all];exact⟨_,⟨V59,rfl,VQ,rfl⟩,rfl⟩
   refine gc 5 ?_;refine cv 64 rfl (fun YR=>?_) (fun YR=>?_)
   ·refine gy 8 ?_;refine cv 72 rfl (fun h79=>?_) (fun h79=>?_)
    ·refine gy 7 ?_;refine cc rfl (fun Hn=>?_) (fun Hn=>?_)
     ·refine gc 2 ?_;refine y (ak rfl isAgg34 sizeOf34 aL (by rfl)) rfl ?_;refine aA (CA (V:=V) (n:=n) (m:=m) ?aiE ?amz) rfl call110 aZ rfl ?_
      case aiE=>exact hn
      case amz=>exact hV
      rintro v L' ⟨V0,rfl,IZ,rfl⟩;refine gy 2 ?_;exfalso;omega
     refine gc 2 ?_;exfalso;omega
    refine gy 10 ?_;exfalso;omega
   refine gy 18 ?_;exfalso;omega
  refine gy 15 ?_;refine cc rfl (fun BX=>?_) (fun BX=>?_)
  ·refine gc 2 ?_;refine y (ak rfl isAgg34 sizeOf34 aL (by rfl)) rfl ?_;refine aA (Cz (V:=V) (n:=n) (m:=m) ?Ij ?I1) rfl call109 aZ rfl ?_
   case Ij=>exact hn.le (by decide)
   case I1=>exact hV
   rintro v L' ⟨V59,rfl,VQ,rfl⟩;refine gy 2 ?_;refine aN results62 (L1:=ao F V59 (n.kU m)++R) ae ?_;rw[show n.cZ m=n.kU m from by unfold aa.cZ;simp_all];exact⟨_,⟨V59,rfl,VQ,rfl⟩,rfl⟩
  refine gc 5 ?_;refine cv 64 rfl (fun BZ=>?_) (fun BZ=>?_)
  ·refine gy 8 ?_;refine cv 72 rfl (fun Oi=>?_) (fun Oi=>?_)
   ·refine gy 7 ?_;refine cc rfl (fun Yo=>?_) (fun Yo=>?_)
    ·refine gc 2 ?_;refine y (ak rfl isAgg34 sizeOf34 aL (by rfl)) rfl ?_;refine aA (CA (V:=V) (n:=n) (m:=m) ?Ik ?I2) rfl call110 aZ rfl ?_
     case Ik=>exact hn
     case I2=>exact hV
     rintro v L' ⟨V0,rfl,IZ,rfl⟩;refine gy 2 ?_;exfalso;omega
    refine gc 2 ?_;exfalso;omega
   refine gy 10 ?_;exfalso;omega
  refine gy 18 ?_;exfalso;omega
 refine gy 23 ?_;refine cc rfl (fun Yr=>?_) (fun Yr=>?_)
 ·refine gc 2 ?_;refine y (ak rfl isAgg34 sizeOf34 aL (by rfl)) rfl ?_;refine aA (Cz (V:=V) (n:=n) (m:=m) ?aaR ?adf) rfl call109 aZ rfl ?_
  case aaR=>exact hn.le (by decide)
  case adf=>exact hV
  rintro v L' ⟨V59,rfl,VQ,rfl⟩;refine gy 2 ?_;exfalso;omega
 refine gc 5 ?_;refine cv 64 rfl (fun Oq=>?_) (fun Oq=>?_)
 ·refine gy 8 ?_;refine cv 72 rfl (fun aog=>?_) (fun aog=>?_)
  ·refine gy 7 ?_;refine cc rfl (fun aoi=>?_) (fun aoi=>?_)
   ·refine gc 2 ?_;refine y (ak rfl isAgg34 sizeOf34 aL (by rfl)) rfl ?_;refine aA (CA (V:=V) (n:=n) (m:=m) ?aaS ?adg) rfl call110 aZ rfl ?_
    case aaS=>exact hn
    case adg=>exact hV
    rintro v L' ⟨V0,rfl,IZ,rfl⟩;refine gy 2 ?_;refine aN results62 (L1:=ao F V0 (n.stored m)++R) ae ?_;rw[show n.cZ m=n.stored m from by unfold aa.cZ;simp_all];exact⟨_,⟨V0,rfl,IZ,rfl⟩,rfl⟩
   refine gc 2 ?_;refine aN results62 (L1:=ao F V n++R) ae ?_;rw[show n.cZ m=n from by(unfold aa.cZ;simp_all;intros;omega)];exact⟨_,⟨V,rfl,hV,rfl⟩,rfl⟩
  refine gy 10 ?_;refine aN results62 (L1:=ao F V n++R) ae ?_;rw[show n.cZ m=n from by(unfold aa.cZ;simp_all;intros;omega)];exact⟨_,⟨V,rfl,hV,rfl⟩,rfl⟩
 refine gy 18 ?_;refine aN results62 (L1:=ao F V n++R) ae ?_;rw[show n.cZ m=n from by(unfold aa.cZ;simp_all)];exact⟨_,⟨V,rfl,hV,rfl⟩,rfl⟩
theorem wS{α:Type}{p:α→Bool}{l:List α}{k:Nat}{x:α}(h:(l.take k).find? p=none)(hx:l[k]? =some x)(hp:p x=false):(l.take (k+1)).find? p=none:=by
 rw[dg hx,List.find?_append,h];simp[hp]
theorem Tp{α:Type}{p:α→Bool}{l:List α}{k:Nat}{x:α}(h:(l.take k).find? p=none)(hx:l[k]? =some x)(hp:p x=true):l.find? p=some x:=by
 obtain⟨h1,h2⟩:=List.getElem?_eq_some_iff.1 hx;rw[←List.take_append_drop k l,List.find?_append,h,List.drop_eq_getElem_cons h1,h2];simp[hp]
theorem Qb [Env]{R:List ax}{F:NF}{V:NV}{n:aa}{w:ar}(hn:n.ok 980000)(hV:ct V n)(hc:0≤w.cl∧w.cl≤3):
   bC Tryz.prog 99 [ptr F.p,I4 w] (ao F V n) R (KN F (n.g4 w) (.tuple #[])):=by
 have sP:=hn.p.bl;have B7:=hn.a.blocks;have lQ:=aa.ui hn;have hlen:=aa.pY hn;have zE:=hn.w.n;have WA:=hn.out;have ZF:cE [iK V n] (aG V.sw n.waits.length) n.waits.length (a6 n.waits):=bG .z hV.sw;refine ag func99 ntmps99 rfl rfl ?_;unfold ao bB;refine gc 1 ?_;refine ya (a7 (vs:=w.cells) rfl rfl) rfl ?_;rintro v L' ⟨b3,rfl,rfl⟩;refine gy 2 ?_;refine bq ?_;intro K2 gM;refine gc 5 ?_;refine aA (HT ?bl6) rfl call59 aZ rfl ?_
 case bl6=>omega
 rintro v L' ⟨Rv,rfl,QA,rfl⟩;have jt:cE [aD Rv 127 (dZ n.c.all)] (aG Rv n.c.all.length) n.c.all.length (dZ n.c.all):=bG .z QA;refine y (bH rfl underlying61 (by assumption)) rfl ?_;refine gy 3 ?_
 have fQ: ∀x:Nat,((x≤n.c.all.length∧(n.c.all.take x).find? (n.jK w)=none)∧(x=n.c.all.length))→Sk 89 K2 ([(12,i64 x),(11,i64 n.c.all.length),(10,aG Rv n.c.all.length),(0,ptr F.p),(3,ptr b3)]) (aD Rv 127 (dZ n.c.all)::sc b3 w.cells 177::ao F V n++R):=by
  rintro k ⟨bJ,eK⟩;refine gM _ _ ?_;obtain⟨hk,eF⟩:=bJ;unfold ao bB;have j7:n.c.all.find? (n.jK w)=none:=by rw[eK,List.take_length]at eF;exact eF
  have htw:n.g4 w=n.answer w 0 []:=by unfold aa.g4;rw[j7]
  refine gc 2 ?_;refine y (ak rfl isAgg177 sizeOf177 aL (by rfl)) rfl ?_;refine aA (gF (V:=V) (n:=n) (w:=w) (data:=[]) ?aq1 ?aki ?aro) rfl call101 aZ rfl ?_
  case aq1=>exact hc
  case aki=>exact hV.out
  case aro=>show n.out.length≤1000000;omega
  rintro v L' ⟨o88,rfl,ajC,rfl⟩;refine gy 1 ?_;refine aN results99 (L1:=ao F {V with out:=o88} (n.answer w 0 [])++R) ae ?_;rw[htw];exact⟨_,⟨{V with out:=o88},rfl,⟨ajC,hV.sw,hV.si,hV.sl⟩,rfl⟩,rfl⟩
 clear gM;refine gc 1 ?_;refine bO (A:=Nat) (fun x=>[(12,i64 x),(11,i64 n.c.all.length),(10,aG Rv n.c.all.length),(0,ptr F.p),(3,ptr b3)]) (fun x=>aD Rv 127 (dZ n.c.all)::sc b3 w.cells 177::ao F V n++R) (fun x=>x≤n.c.all.length∧(n.c.all.take x).find? (n.jK w)=none) (fun x=>n.c.all.length-x) (0) ?_ aq ae ?_
 · exact⟨Nat.zero_le _,rfl⟩
 rintro k bJ kt cI;have cC:=bJ;obtain⟨hk,eF⟩:=bJ;unfold ao bB;refine gc 5 ?_;refine cc rfl (fun h13=>?_) (fun h13=>?_)
 ·refine gc 5 ?_;obtain⟨x,hx⟩: ∃x,n.c.all[k]? =some x:=⟨_,List.getElem?_eq_getElem (by omega)⟩;have oZ:=lQ x (List.mem_of_getElem? hx);obtain⟨wp,l7⟩: ∃z,aa.bY n.waits x.bE=z:=⟨_,rfl⟩;refine y (aK jt rfl rfl underlying61 sizeOf127 (by omega) (by omega)) rfl ?_;refine y (dB (us:=x.cells) (k*7) jt ae rfl isAgg127 sizeOf127 (by simp) (lD hx) rfl) rfl ?_;refine ya (aB zeroValue127 rfl) rfl ?_;rintro v L' ⟨b5,rfl,rfl⟩;refine bA (aP (vs':=x.cells) rfl rfl (gi x) sizeOf127 bc rfl (by decide) rfl) ?_;refine gy 5 ?_;refine bK (oc (V:=V) (n:=n)) call118 ?_;refine gy 2 ?_;refine cv 19 rfl (fun Tx=>?_) (fun Tx=>?_)
  ·refine gy 26 ?_;have ZE:n.jK w x=false:=by(unfold aa.jK;simp_all)
   refine gy 1 ?_;rw[show IntKind.i64.wrap ((k:Int)+1)=((k+1:Nat):Int)by rw[wr (by omega) (by omega)];rfl];refine gy 3 ?_;exact cI (k+1) (⟨by omega,wS eF hx ZE⟩) (by omega) _ _ aq ae
  refine gy 5 ?_;refine cv 24 rfl (fun OD=>?_) (fun OD=>?_)
  ·refine gy 21 ?_;have ZE:n.jK w x=false:=by(unfold aa.jK;simp_all)
   refine gy 1 ?_;rw[show IntKind.i64.wrap ((k:Int)+1)=((k+1:Nat):Int)by rw[wr (by omega) (by omega)];rfl];refine gy 3 ?_;exact cI (k+1) (⟨by omega,wS eF hx ZE⟩) (by omega) _ _ aq ae
  refine gy 7 ?_;refine cv 31 rfl (fun OF=>?_) (fun OF=>?_)
  ·refine gy 14 ?_;have ZE:n.jK w x=false:=by(unfold aa.jK;simp_all)
   refine gy 1 ?_;rw[show IntKind.i64.wrap ((k:Int)+1)=((k+1:Nat):Int)by rw[wr (by omega) (by omega)];rfl];refine gy 3 ?_;exact cI (k+1) (⟨by omega,wS eF hx ZE⟩) (by omega) _ _ aq ae
  refine gy 8 ?_;refine cc rfl (fun Lf=>?_) (fun Lf=>?_)
  ·refine gc 5 ?_;have ZE:n.jK w x=false:=by(unfold aa.jK;simp_all)
   refine gy 1 ?_;rw[show IntKind.i64.wrap ((k:Int)+1)=((k+1:Nat):Int)by rw[wr (by omega) (by omega)];rfl];refine gy 3 ?_;exact cI (k+1) (⟨by omega,wS eF hx ZE⟩) (by omega) _ _ aq ae
  refine gc 4 ?_;have hpt:n.jK w x=true:=by unfold aa.jK;simp_all
  have hfi:=Tp eF hx hpt;refine gy 3 ?_;refine bK (jF (V:=V) (n:=n) ?amO ?atu) call100 ?_
  case amO=>exact hV.sw
  case atu=>omega
  rw[oB l7];rcases wp with _|i
  ·refine y (dw rfl rfl underlying183) rfl ?_;have HL:=dm l7;refine gy 6 ?_;refine bV ?_;refine y (bu rfl underlying101 (cE.bo (by assumption))) rfl ?_;refine gy 4 ?_;refine cc rfl (fun YT=>?_) (fun YT=>?_)
   ·have htb:n.g4 w=n.answer w 25 []:=by unfold aa.g4;rw[hfi];dsimp only;rw[if_pos (.inr (by omega))]
    refine gc 2 ?_;refine y (ak rfl isAgg177 sizeOf177 aL (by rfl)) rfl ?_;refine aA (gF (V:=V) (n:=n) (w:=w) (data:=[]) ?aq8 ?akx ?arD) rfl call101 aZ rfl ?_
    case aq8=>exact hc
    case akx=>exact hV.out
    case arD=>show n.out.length≤1000000;omega
    rintro v L' ⟨o54,rfl,QO,rfl⟩;refine gy 9 ?_;refine bj results99 (L1:=ao F {V with out:=o54} (n.answer w 25 [])++R) ae ?_;rw[htb];exact⟨_,⟨{V with out:=o54},rfl,⟨QO,hV.sw,hV.si,hV.sl⟩,rfl⟩,rfl⟩
   let w2:ar:={w with op:=2,bE:=x.bE,seq:=x.vs};have htg:n.g4 w=(n.l8 w2).gp w2 x:=by unfold aa.g4;rw[hfi];dsimp only;rw[if_neg (by rw[HL];simp;omega)];rfl
   refine gc 3 ?_;refine aS 10 (od [6,8] 10 0) ([sc b5 _ 127]++R) Tryz.mixed (by kernel_rfl) ae ?_;refine gh 6 ?_;refine Eo rfl (an rfl rfl (by rfl) sizeOf3 bc rfl rfl) ?_;rintro v L' ⟨rfl,rfl⟩;refine⟨ae,?_⟩;refine gh 1 ?_;refine Eo rfl (an rfl rfl (by rfl) sizeOf3 bc rfl rfl) ?_;rintro v L' ⟨rfl,rfl⟩;refine⟨ae,?_⟩;refine gh 2 ?_;refine bA (an rfl rfl (by rfl) sizeOf2 bc rfl rfl) ?_;refine gy 3 ?_;refine aS 12 (od [7,8] 12 0) ([sc b3 _ 177,sc F.p _ 106]++R) Tryz.mixed (by kernel_rfl) ae ?_;refine gh 6 ?_;refine hr rfl (ak rfl isAgg177 sizeOf177 aL (by rfl)) rfl ?_;refine ha rfl (aE rfl underlying101 sizeOf177 zeroValue177 rfl rfl rfl rfl ⟨⟨_,_,rfl,(by rfl),(by decide)⟩,trivial⟩ (by dsimp[bt,aX,aY,bS]<;>rfl)) rfl ?_;rintro v L' ⟨b70,rfl,rfl⟩;refine⟨ae,?_⟩;refine ha rfl (aO (s:=V.sw) (xs:=a6 n.waits) (m:=n.waits.length) (k:=1) (us:=w2.cells) (size:=7) rfl rfl (by repeat first|exact .z|apply Pk.s) underlying101 underlying101 (by intro q hq;cases hq) typeInfo177 rfl rfl rfl ?arn ?alZ ?akh ?aeh) rfl ?_
   case arn=>exact hV.sw
   case alZ=>exact cz aL rfl rfl
   case akh=>exact cY _
   case aeh=>show(_+_)*57≤_;omega
   rintro v L' ⟨SO,rfl,CH,rfl⟩;refine⟨ae,?_⟩;rw[←cJ,show n.waits.length+1=(n.waits++[w2]).length by simp]at CH ⊢;refine gh 4 ?_;refine bA (an rfl rfl (by exact bN _ _) sizeOf101 bc rfl rfl) ?_;refine gy 5 ?_;refine y (ak rfl isAgg177 sizeOf177 aL (by rfl)) rfl ?_;refine bK (L5 (V:={V with sw:=SO}) (n:=n.l8 w2) (w:=w2)) call151 ?_;refine gy 2 ?_;refine cc rfl (fun BY=>?_) (fun BY=>?_)
   ·have vE:n.g4 w=(n.l8 w2).store x w.cl w.n:=htg.trans (if_pos BY);refine gc 2 ?_;refine y (ak rfl isAgg127 sizeOf127 aL (by rfl)) rfl ?_;refine gy 4 ?_;refine aA (rH (V:={V with sw:=SO}) (n:=n.l8 w2) (x:=x) ?abI ?ajH) rfl call152 aZ rfl ?_
    case abI=>exact hV.out
    case ajH=>show n.out.length≤1000000;omega
    rintro v L' ⟨o84,rfl,QR,rfl⟩;refine gy 8 ?_;refine bj results99 (L1:=ao F {V with sw:=SO,out:=o84} ((n.l8 w2).store x w.cl w.n)++R) ae ?_;rw[vE];exact⟨_,⟨{V with sw:=SO,out:=o84},rfl,⟨QR,CH,hV.si,hV.sl⟩,rfl⟩,rfl⟩
   have vE:n.g4 w=n.l8 w2:=htg.trans (if_neg (by rw[BY];simp));refine gc 8 ?_;refine bj results99 (L1:=ao F {V with sw:=SO} (n.l8 w2)++R) ae ?_;rw[vE];exact⟨_,⟨{V with sw:=SO},rfl,⟨hV.out,CH,hV.si,hV.sl⟩,rfl⟩,rfl⟩
  refine y (dw rfl rfl underlying183) rfl ?_
  (have htb:n.g4 w=n.answer w 25 []:=by unfold aa.g4;rw[hfi];dsimp only;obtain⟨w9,Uf,_⟩:=eR l7;rw[fw l7 Uf,if_pos (.inl rfl)])
  refine gy 14 ?_;refine y (ak rfl isAgg177 sizeOf177 aL (by rfl)) rfl ?_;refine aA (gF (V:=V) (n:=n) (w:=w) (data:=[]) ?aiJ ?abK ?ajJ) rfl call101 aZ rfl ?_
  case aiJ=>exact hc
  case abK=>exact hV.out
  case ajJ=>show n.out.length≤1000000;omega
  rintro v L' ⟨o54,rfl,QO,rfl⟩;refine gy 9 ?_;refine bj results99 (L1:=ao F {V with out:=o54} (n.answer w 25 [])++R) ae ?_;rw[htb];exact⟨_,⟨{V with out:=o54},rfl,⟨QO,hV.sw,hV.si,hV.sl⟩,rfl⟩,rfl⟩
 refine gc 5 ?_;exact aV aq ae (fQ k ⟨cC,by omega⟩)
end W
end Go.Proofs