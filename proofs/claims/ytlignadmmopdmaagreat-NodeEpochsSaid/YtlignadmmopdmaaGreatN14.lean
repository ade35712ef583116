/- A part of the proof. -/
import Derived.Test.YtlignadmmopdmaaGreatUn
import Derived.Test.YtlignadmmopdmaaGreatNodL
set_option linter.unusedVariables false
set_option linter.unusedSimpArgs false
set_option linter.constructorNameAsVariable false
namespace Go.Proofs
open _root_.Go.Proofs.Tryz
open Go Go.Sl
namespace W
set_option maxHeartbeats 2000000
theorem yx [Env]{R:List ax}{F:NF}{V:NV}{n:aa}(hn:n.ok 990000)(hV:ct V n):
   bC Tryz.prog 102 [ptr F.p] (ao F V n) R (KN F n.reads (.tuple #[])):=by
 have zE:=hn.w.n;have WA:=hn.out;have Cd:=hn.n.cT;have sP:=hn.p.bl;have B7:=hn.a.blocks;have hlen:=aa.pY hn;have wx:bW V.sw n.waits.length 7 (a6 n.waits):=hV.sw;have jt:cE [iK V n] (aG V.sw n.waits.length) n.waits.length (a6 n.waits):=bG .z wx;refine ag func102 ntmps102 rfl rfl ?_;unfold ao bB;refine gc 4 ?_;refine bq ?_;intro K2 gM;refine gc 6 ?_;refine y (bH rfl underlying101 (by assumption)) rfl ?_;refine gy 3 ?_
 have fQ: ∀x:Nat × List ar × Sv × Sv × List gI × Int,((x.1≤n.waits.length∧rN n x.1=(x.2.1,kL n x.2.2.2.2.1 x.2.2.2.2.2)∧bW x.2.2.2.1 x.2.2.2.2.1.length 3 (fG x.2.2.2.2.1)∧bW x.2.2.1 x.2.1.length 7 (a6 x.2.1)∧x.2.2.2.2.1.length≤990000+x.1∧0≤x.2.2.2.2.2∧x.2.2.2.2.2≤990000+x.1∧x.2.1.length≤x.1)∧(x.1=n.waits.length))→Sk 93 K2 ([(14,i64 x.1),(13,i64 n.waits.length),(12,aG V.sw n.waits.length),(2,aG x.2.2.1 x.2.1.length),(0,ptr F.p)]) (aD x.2.2.1 177 (a6 x.2.1)::ao F {V with out:=x.2.2.2.1} (kL n x.2.2.2.2.1 x.2.2.2.2.2)++R):=by
  rintro⟨k,ks,s,o,l,q⟩ ⟨bJ,eK⟩;refine gM _ _ ?_;obtain⟨hk,hE,lh,kn,oI,hq0,hq1,TZ⟩:=bJ;dsimp only at hk hE lh kn oI hq0 hq1 TZ ⊢;unfold ao bB;dsimp only at eK;rw[eK]at hE;have Ly:=IL hE;refine gc 6 ?_;refine bA (an rfl rfl (by exact bN _ _) sizeOf101 bc rfl rfl) ?_;refine gy 1 ?_;refine aN results102 (L1:=ao F {V with out:=o,sw:=s} {kL n l q with waits:=ks}++R) ae ?_;rw[Ly];exact⟨_,⟨{V with out:=o,sw:=s},rfl,⟨lh,kn,hV.si,hV.sl⟩,rfl⟩,rfl⟩
 clear gM;refine gc 1 ?_;refine bO (A:=Nat × List ar × Sv × Sv × List gI × Int) (fun x=>[(14,i64 x.1),(13,i64 n.waits.length),(12,aG V.sw n.waits.length),(2,aG x.2.2.1 x.2.1.length),(0,ptr F.p)]) (fun x=>aD x.2.2.1 177 (a6 x.2.1)::ao F {V with out:=x.2.2.2.1} (kL n x.2.2.2.2.1 x.2.2.2.2.2)++R) (fun x=>x.1≤n.waits.length∧rN n x.1=(x.2.1,kL n x.2.2.2.2.1 x.2.2.2.2.2)∧bW x.2.2.2.1 x.2.2.2.2.1.length 3 (fG x.2.2.2.2.1)∧bW x.2.2.1 x.2.1.length 7 (a6 x.2.1)∧x.2.2.2.2.1.length≤990000+x.1∧0≤x.2.2.2.2.2∧x.2.2.2.2.2≤990000+x.1∧x.2.1.length≤x.1) (fun x=>n.waits.length-x.1) ((0,[],none,V.out,n.out,n.cT)) ?_ aq ae ?_
 · exact⟨Nat.zero_le _,rfl,hV.out,⟨rfl,rfl⟩,by dsimp only;omega,by dsimp only;omega,by dsimp only;omega,Nat.le_refl _⟩
 rintro⟨k,ks,s,o,l,q⟩ bJ kt cI;have cC:=bJ;obtain⟨hk,hE,lh,kn,oI,hq0,hq1,TZ⟩:=bJ;dsimp only at hk hE lh kn oI hq0 hq1 TZ ⊢;unfold ao bB;refine gc 5 ?_;refine cc rfl (fun nf=>?_) (fun nf=>?_)
 ·refine gc 5 ?_;obtain⟨w,hw⟩: ∃w,n.waits[k]? =some w:=⟨_,List.getElem?_eq_getElem (by omega)⟩;have hwo:=hn.w.all w (List.mem_of_getElem? hw);have oY:=hwo.cl;have iP:=Fx hw;rw[hE]at iP;obtain⟨ox,qg⟩: ∃z,bM (kL n l q).c.en w.bE=z:=⟨_,rfl⟩;obtain⟨wp,l7⟩: ∃z,aa.bY (kL n l q).waits w.bE=z:=⟨_,rfl⟩;refine y (aK jt rfl rfl underlying101 sizeOf177 (by omega) (by omega)) rfl ?_;refine y (dB (us:=w.cells) (k*7) jt ae rfl isAgg177 sizeOf177 (by simp) (lb kJ hw) rfl) rfl ?_;refine ya (aB zeroValue177 rfl) rfl ?_;rintro v L' ⟨b4,rfl,rfl⟩;refine bA (aP (vs':=w.cells) rfl rfl (cY w) sizeOf177 bc rfl (by decide) rfl) ?_;refine gy 13 ?_;refine cv 22 rfl (fun Eg=>?_) (fun Eg=>?_)
  ·refine gy 5 ?_;refine cv 27 rfl (fun Hk=>?_) (fun Hk=>?_)
   ·refine gy 3 ?_;refine bV ?_;refine bK (jF (V:={V with out:=o}) (n:=kL n l q) ?amM ?ats) call100 ?_
    case amM=>exact wx
    case ats=>show n.waits.length≤1000000;omega
    rw[oB (n:=kL n l q) (o:=wp) l7];rcases wp with _|wi
    ·refine bV ?_;refine y (eM rfl rfl underlying183) rfl ?_;refine gy 7 ?_;refine kO 12 (.op 0 0 (.op 1 0 (.op 2 0 (.op 3 1 (.op 4 0 (.op 5 1 (.fork 6 (.op 7 0 (.op 8 0 (.op 9 0 (.op 10 2 (.op 11 2 (.nil)))))) 10 (.op 6 2 (.op 7 0 (.op 8 0 (.op 9 0 (.op 11 2 (.nil))))))))))))) ([sc b4 _ 177,sc F.p _ 106,cU F.A n.c,ga F.A n.c]++R) Tryz.mixed (by kernel_rfl) ae ?_;refine nz rfl (ba rfl) rfl ?_;refine nz rfl (fD rfl) rfl ?_;refine nz rfl (aT 7 rfl underlying106 rfl sizeOf98) rfl ?_;refine nr rfl (bR rfl isAgg98 aL rfl) rfl ?_;refine nz rfl (aT 3 rfl underlying177 rfl sizeOf3) rfl ?_;refine nr rfl (bR rfl isAgg3 aL rfl) rfl ?_;refine mu ?_ ?_
     ·refine fy rfl (HV) rfl call153 aZ rfl ?_;rintro v L' ⟨rfl,rfl⟩;refine⟨ae,?_⟩;rw[qg];refine nz rfl (ba rfl) rfl ?_;refine nz rfl (cV rfl rfl) rfl ?_;refine nz rfl (cV rfl rfl) rfl ?_;refine na rfl (aB zeroValue127 rfl) rfl ?_;rintro v L' ⟨b6,rfl,rfl⟩;refine⟨ae,?_⟩;refine UX rfl (aP (vs':=bd.cells (ox.getD .zero)) rfl rfl (gi _) sizeOf127 bc rfl (by decide) rfl) ?_;rintro v L' ⟨rfl,rfl⟩;refine⟨ae,?_⟩;refine ik ?_;refine gy 7 ?_;refine cc rfl (fun h54=>?_) (fun h54=>?_)
      ·refine gc 1 ?_
       obtain⟨ex,rfl⟩: ∃z,ox=some z:=by
         rcases ox with _|ex
         · simp_all
         exact⟨ex,rfl⟩
       obtain⟨l2,AO,apg⟩:=AF n l q w ex.data;have fg:=iP.trans (tB (n:=n) (ks:=ks) (l:=l) (q:=q) (w:=w) (by assumption) (by assumption) l7 qg);rw[AO]at fg;refine gy 1 ?_;refine y (ak rfl isAgg177 sizeOf177 aL (by rfl)) rfl ?_;refine gy 2 ?_;refine aA (Ia (V:={V with out:=o}) (n:=kL n l q) (w:=w) (data:=ex.data) ?aq6 ?aks ?arz) rfl call154 aZ rfl ?_
       case aq6=>exact oY
       case aks=>exact lh
       case arz=>show l.length≤1000000;omega
       rintro v L' ⟨o49,rfl,Fj,rfl⟩;rw[AO]at Fj ⊢;refine gy 21 ?_;rw[show IntKind.i64.wrap ((k:Int)+1)=((k+1:Nat):Int)by rw[wr (by omega) (by omega)];rfl];refine gy 3 ?_;exact cI (k+1,ks,s,o49,l2,q) ⟨by dsimp only;omega,fg,Fj,kn,by dsimp only;omega,by dsimp only;omega,by dsimp only;omega,by dsimp only;omega⟩ (by dsimp only;omega) _ _ aq ae
      refine gc 3 ?_
      have ZA:ox=none:=by
        rcases ox with _|ex
        · rfl
        simp_all
      have fg:=iP.trans (vP (n:=n) (ks:=ks) (l:=l) (q:=q) (w:=w) (by assumption) (by assumption) l7 (qg.trans ZA));let w2:ar:={w with load:=q+1};refine gy 5 ?_;rw[show(kL n l q).cT=q from rfl,wr (by omega) (by omega)];refine gy 2 ?_;refine bA (an rfl rfl (by rfl) sizeOf2 bc rfl rfl) ?_;refine gy 8 ?_;refine bA (an rfl rfl (by rfl) sizeOf2 bc rfl rfl) ?_;refine gy 8 ?_;refine aA (E2 (V:={V with out:=o}) (n:=kL n l (q+1)) ?akz ?arF) rfl call68 aZ rfl ?_
      case akz=>exact lh
      case arF=>show l.length≤1000000;omega
      rintro v L' ⟨o67,rfl,QQ,rfl⟩;refine gy 10 ?_;let w2:ar:=w2;have fg:=fg;refine gy 1 ?_;refine y (ak rfl isAgg177 sizeOf177 aL (by rfl)) rfl ?_;refine ya (aE rfl underlying101 sizeOf177 zeroValue177 rfl rfl rfl rfl ⟨⟨_,_,rfl,(by rfl),(by decide)⟩,trivial⟩ (by dsimp[bt,aX,aY,bS]<;>rfl)) rfl ?_;rintro v L' ⟨Ny,rfl,rfl⟩;refine ya (aO (s:=s) (xs:=a6 ks) (m:=ks.length) (k:=1) (us:=w2.cells) (size:=7) rfl rfl (by repeat first|exact .z|apply Pk.s) underlying101 underlying101 (by intro q hq;cases hq) typeInfo177 rfl rfl rfl ?ark ?alU ?akc ?aec) rfl ?_
      case ark=>exact kn
      case alU=>exact cz aL rfl rfl
      case akc=>exact cY _
      case aec=>show(_+_)*57≤_;omega
      rintro v L' ⟨yX,rfl,gU,rfl⟩;rw[←cJ,show ks.length+1=(ks++[w2]).length by simp]at gU ⊢;refine gy 6 ?_;rw[show IntKind.i64.wrap ((k:Int)+1)=((k+1:Nat):Int)by rw[wr (by omega) (by omega)];rfl];refine gy 3 ?_;exact cI (k+1,ks++[w2],yX,o67,((kL n l (q+1)).load w.bE (q+1)).out,q+1) ⟨by dsimp only;omega,fg,QQ,gU,by show(l++[_]).length≤_;simp;omega,by dsimp only;omega,by dsimp only;omega,by simp;omega⟩ (by dsimp only;omega) _ _ aq ae
     refine na rfl (aB zeroValue127 rfl) rfl ?_;rintro v L' ⟨b6,rfl,rfl⟩;refine⟨ae,?_⟩;refine fy rfl (HV) rfl call153 aZ rfl ?_;rintro v L' ⟨rfl,rfl⟩;refine⟨ae,?_⟩;rw[qg];refine nz rfl (ba rfl) rfl ?_;refine nz rfl (cV rfl rfl) rfl ?_;refine nz rfl (cV rfl rfl) rfl ?_;refine UX rfl (aP (vs':=bd.cells (ox.getD .zero)) rfl rfl (gi _) sizeOf127 bc rfl (by decide) rfl) ?_;rintro v L' ⟨rfl,rfl⟩;refine⟨ae,?_⟩;refine ik ?_;refine gy 7 ?_;refine cc rfl (fun Hb=>?_) (fun Hb=>?_)
     ·refine gc 1 ?_
      obtain⟨ex,rfl⟩: ∃z,ox=some z:=by
        rcases ox with _|ex
        · simp_all
        exact⟨ex,rfl⟩
      obtain⟨l2,AO,apg⟩:=AF n l q w ex.data;have fg:=iP.trans (tB (n:=n) (ks:=ks) (l:=l) (q:=q) (w:=w) (by assumption) (by assumption) l7 qg);rw[AO]at fg;refine gy 1 ?_;refine y (ak rfl isAgg177 sizeOf177 aL (by rfl)) rfl ?_;refine gy 2 ?_;refine aA (Ia (V:={V with out:=o}) (n:=kL n l q) (w:=w) (data:=ex.data) ?aiI ?abG ?ajF) rfl call154 aZ rfl ?_
      case aiI=>exact oY
      case abG=>exact lh
      case ajF=>show l.length≤1000000;omega
      rintro v L' ⟨o49,rfl,Fj,rfl⟩;rw[AO]at Fj ⊢;refine gy 21 ?_;rw[show IntKind.i64.wrap ((k:Int)+1)=((k+1:Nat):Int)by rw[wr (by omega) (by omega)];rfl];refine gy 3 ?_;exact cI (k+1,ks,s,o49,l2,q) ⟨by dsimp only;omega,fg,Fj,kn,by dsimp only;omega,by dsimp only;omega,by dsimp only;omega,by dsimp only;omega⟩ (by dsimp only;omega) _ _ aq ae
     refine gc 3 ?_
     have ZA:ox=none:=by
       rcases ox with _|ex
       · rfl
       simp_all
     have fg:=iP.trans (vP (n:=n) (ks:=ks) (l:=l) (q:=q) (w:=w) (by assumption) (by assumption) l7 (qg.trans ZA));let w2:ar:={w with load:=q+1};refine gy 5 ?_;rw[show(kL n l q).cT=q from rfl,wr (by omega) (by omega)];refine gy 2 ?_;refine bA (an rfl rfl (by rfl) sizeOf2 bc rfl rfl) ?_;refine gy 8 ?_;refine bA (an rfl rfl (by rfl) sizeOf2 bc rfl rfl) ?_;refine gy 8 ?_;refine aA (E2 (V:={V with out:=o}) (n:=kL n l (q+1)) ?abM ?ajL) rfl call68 aZ rfl ?_
     case abM=>exact lh
     case ajL=>show l.length≤1000000;omega
     rintro v L' ⟨o67,rfl,QQ,rfl⟩;refine gy 10 ?_;let w2:ar:=w2;have fg:=fg;refine gy 1 ?_;refine y (ak rfl isAgg177 sizeOf177 aL (by rfl)) rfl ?_;refine ya (aE rfl underlying101 sizeOf177 zeroValue177 rfl rfl rfl rfl ⟨⟨_,_,rfl,(by rfl),(by decide)⟩,trivial⟩ (by dsimp[bt,aX,aY,bS]<;>rfl)) rfl ?_;rintro v L' ⟨Ny,rfl,rfl⟩;refine ya (aO (s:=s) (xs:=a6 ks) (m:=ks.length) (k:=1) (us:=w2.cells) (size:=7) rfl rfl (by repeat first|exact .z|apply Pk.s) underlying101 underlying101 (by intro q hq;cases hq) typeInfo177 rfl rfl rfl ?aiY ?acE ?abn ?XA) rfl ?_
     case aiY=>exact kn
     case acE=>exact cz aL rfl rfl
     case abn=>exact cY _
     case XA=>show(_+_)*57≤_;omega
     rintro v L' ⟨yX,rfl,gU,rfl⟩;rw[←cJ,show ks.length+1=(ks++[w2]).length by simp]at gU ⊢;refine gy 6 ?_;rw[show IntKind.i64.wrap ((k:Int)+1)=((k+1:Nat):Int)by rw[wr (by omega) (by omega)];rfl];refine gy 3 ?_;exact cI (k+1,ks++[w2],yX,o67,((kL n l (q+1)).load w.bE (q+1)).out,q+1) ⟨by dsimp only;omega,fg,QQ,gU,by show(l++[_]).length≤_;simp;omega,by dsimp only;omega,by dsimp only;omega,by simp;omega⟩ (by dsimp only;omega) _ _ aq ae
    refine bV ?_;refine y (eM rfl rfl underlying183) rfl ?_;refine gy 6 ?_;have wu: ¬(w.op=1∧w.load=0∧n.ew w.bE=none):=fun hh=>I5 (n:=n) l7 hh.2.2
    refine gy 4 ?_;refine cv 72 rfl (fun Oo=>?_) (fun Oo=>?_)
    ·refine gy 3 ?_;refine bV ?_;refine bK (pL (V:={V with out:=o}) (n:=kL n l q) ?afn ?afi ?ae9 ?ae4) call155 ?_
     case afn=>exact wx
     case afi=>exact zE
     case ae9=>show n.c.bl≤32;omega
     case ae4=>exact hlen
     refine gy 4 ?_;refine cc rfl (fun He=>?_) (fun He=>?_)
     ·refine gc 1 ?_;have fg:=iP.trans (kF (n:=n) (ks:=ks) (l:=l) (q:=q) wu (by assumption) (by assumption));refine gy 1 ?_;refine y (ak rfl isAgg177 sizeOf177 aL (by rfl)) rfl ?_;refine aA (gF (V:={V with out:=o}) (n:=kL n l q) (w:=w) (data:=[]) ?aiL ?abQ ?ajP) rfl call101 aZ rfl ?_
      case aiL=>exact oY
      case abQ=>exact lh
      case ajP=>show l.length≤1000000;omega
      rintro v L' ⟨U9,rfl,tl,rfl⟩;refine gy 18 ?_;rw[show IntKind.i64.wrap ((k:Int)+1)=((k+1:Nat):Int)by rw[wr (by omega) (by omega)];rfl];refine gy 3 ?_;exact cI (k+1,ks,s,U9,((kL n l q).answer w 0 []).out,q) ⟨by dsimp only;omega,fg,tl,kn,by show(l++[_]).length≤_;simp;omega,by dsimp only;omega,by dsimp only;omega,by dsimp only;omega⟩ (by dsimp only;omega) _ _ aq ae
     refine gc 10 ?_;let w2:ar:=w
     (have fg:=iP.trans (fz (n:=n) (ks:=ks) (l:=l) (q:=q) (w:=w) wu (fun hh=>by have h2:(kL n l q).fT w.seq=true:=hh.2;simp_all)))
     refine gy 1 ?_;refine y (ak rfl isAgg177 sizeOf177 aL (by rfl)) rfl ?_;refine ya (aE rfl underlying101 sizeOf177 zeroValue177 rfl rfl rfl rfl ⟨⟨_,_,rfl,(by rfl),(by decide)⟩,trivial⟩ (by dsimp[bt,aX,aY,bS]<;>rfl)) rfl ?_;rintro v L' ⟨Ny,rfl,rfl⟩;refine ya (aO (s:=s) (xs:=a6 ks) (m:=ks.length) (k:=1) (us:=w2.cells) (size:=7) rfl rfl (by repeat first|exact .z|apply Pk.s) underlying101 underlying101 (by intro q hq;cases hq) typeInfo177 rfl rfl rfl ?ai3 ?acI ?abr ?XE) rfl ?_
     case ai3=>exact kn
     case acI=>exact cz aL rfl rfl
     case abr=>exact cY _
     case XE=>show(_+_)*57≤_;omega
     rintro v L' ⟨yX,rfl,gU,rfl⟩;rw[←cJ,show ks.length+1=(ks++[w2]).length by simp]at gU ⊢;refine gy 6 ?_;rw[show IntKind.i64.wrap ((k:Int)+1)=((k+1:Nat):Int)by rw[wr (by omega) (by omega)];rfl];refine gy 3 ?_;exact cI (k+1,ks++[w2],yX,o,l,q) ⟨by dsimp only;omega,fg,lh,gU,by dsimp only;omega,by dsimp only;omega,by dsimp only;omega,by simp;omega⟩ (by dsimp only;omega) _ _ aq ae
    refine gy 19 ?_;let w2:ar:=w
    (have fg:=iP.trans (fz (n:=n) (ks:=ks) (l:=l) (q:=q) (w:=w) wu (fun hh=>by have h2:(kL n l q).fT w.seq=true:=hh.2;simp_all)))
    refine gy 1 ?_;refine y (ak rfl isAgg177 sizeOf177 aL (by rfl)) rfl ?_;refine ya (aE rfl underlying101 sizeOf177 zeroValue177 rfl rfl rfl rfl ⟨⟨_,_,rfl,(by rfl),(by decide)⟩,trivial⟩ (by dsimp[bt,aX,aY,bS]<;>rfl)) rfl ?_;rintro v L' ⟨Ny,rfl,rfl⟩;refine ya (aO (s:=s) (xs:=a6 ks) (m:=ks.length) (k:=1) (us:=w2.cells) (size:=7) rfl rfl (by repeat first|exact .z|apply Pk.s) underlying101 underlying101 (by intro q hq;cases hq) typeInfo177 rfl rfl rfl ?QE ?acK ?abu ?XG) rfl ?_
    case QE=>exact kn
    case acK=>exact cz aL rfl rfl
    case abu=>exact cY _
    case XG=>show(_+_)*57≤_;omega
    rintro v L' ⟨yX,rfl,gU,rfl⟩;rw[←cJ,show ks.length+1=(ks++[w2]).length by simp]at gU ⊢;refine gy 6 ?_;rw[show IntKind.i64.wrap ((k:Int)+1)=((k+1:Nat):Int)by rw[wr (by omega) (by omega)];rfl];refine gy 3 ?_;exact cI (k+1,ks++[w2],yX,o,l,q) ⟨by dsimp only;omega,fg,lh,gU,by dsimp only;omega,by dsimp only;omega,by dsimp only;omega,by simp;omega⟩ (by dsimp only;omega) _ _ aq ae
   have wu: ¬(w.op=1∧w.load=0∧n.ew w.bE=none):=fun hh=>Hk hh.2.1
   refine gy 4 ?_;rcases wp with _|wi
   ·refine gy 7 ?_;have wu:=wu;refine gy 4 ?_;refine cv 72 rfl (fun aor=>?_) (fun aor=>?_)
    ·refine gy 3 ?_;refine bV ?_;refine bK (pL (V:={V with out:=o}) (n:=kL n l q) ?afo ?afj ?afa ?ae5) call155 ?_
     case afo=>exact wx
     case afj=>exact zE
     case afa=>show n.c.bl≤32;omega
     case ae5=>exact hlen
     refine gy 4 ?_;refine cc rfl (fun Oy=>?_) (fun Oy=>?_)
     ·refine gc 1 ?_;have fg:=iP.trans (kF (n:=n) (ks:=ks) (l:=l) (q:=q) wu (by assumption) (by assumption));refine gy 1 ?_;refine y (ak rfl isAgg177 sizeOf177 aL (by rfl)) rfl ?_;refine aA (gF (V:={V with out:=o}) (n:=kL n l q) (w:=w) (data:=[]) ?aiM ?abS ?ajR) rfl call101 aZ rfl ?_
      case aiM=>exact oY
      case abS=>exact lh
      case ajR=>show l.length≤1000000;omega
      rintro v L' ⟨U9,rfl,tl,rfl⟩;refine gy 18 ?_;rw[show IntKind.i64.wrap ((k:Int)+1)=((k+1:Nat):Int)by rw[wr (by omega) (by omega)];rfl];refine gy 3 ?_;exact cI (k+1,ks,s,U9,((kL n l q).answer w 0 []).out,q) ⟨by dsimp only;omega,fg,tl,kn,by show(l++[_]).length≤_;simp;omega,by dsimp only;omega,by dsimp only;omega,by dsimp only;omega⟩ (by dsimp only;omega) _ _ aq ae
     refine gc 10 ?_;let w2:ar:=w
     (have fg:=iP.trans (fz (n:=n) (ks:=ks) (l:=l) (q:=q) (w:=w) wu (fun hh=>by have h2:(kL n l q).fT w.seq=true:=hh.2;simp_all)))
     refine gy 1 ?_;refine y (ak rfl isAgg177 sizeOf177 aL (by rfl)) rfl ?_;refine ya (aE rfl underlying101 sizeOf177 zeroValue177 rfl rfl rfl rfl ⟨⟨_,_,rfl,(by rfl),(by decide)⟩,trivial⟩ (by dsimp[bt,aX,aY,bS]<;>rfl)) rfl ?_;rintro v L' ⟨Ny,rfl,rfl⟩;refine ya (aO (s:=s) (xs:=a6 ks) (m:=ks.length) (k:=1) (us:=w2.cells) (size:=7) rfl rfl (by repeat first|exact .z|apply Pk.s) underlying101 underlying101 (by intro q hq;cases hq) typeInfo177 rfl rfl rfl ?ajb ?acO ?aby ?XK) rfl ?_
     case ajb=>exact kn
     case acO=>exact cz aL rfl rfl
     case aby=>exact cY _
     case XK=>show(_+_)*57≤_;omega
     rintro v L' ⟨yX,rfl,gU,rfl⟩;rw[←cJ,show ks.length+1=(ks++[w2]).length by simp]at gU ⊢;refine gy 6 ?_;rw[show IntKind.i64.wrap ((k:Int)+1)=((k+1:Nat):Int)by rw[wr (by omega) (by omega)];rfl];refine gy 3 ?_;exact cI (k+1,ks++[w2],yX,o,l,q) ⟨by dsimp only;omega,fg,lh,gU,by dsimp only;omega,by dsimp only;omega,by dsimp only;omega,by simp;omega⟩ (by dsimp only;omega) _ _ aq ae
    refine gy 19 ?_;let w2:ar:=w
    (have fg:=iP.trans (fz (n:=n) (ks:=ks) (l:=l) (q:=q) (w:=w) wu (fun hh=>by have h2:(kL n l q).fT w.seq=true:=hh.2;simp_all)))
    refine gy 1 ?_;refine y (ak rfl isAgg177 sizeOf177 aL (by rfl)) rfl ?_;refine ya (aE rfl underlying101 sizeOf177 zeroValue177 rfl rfl rfl rfl ⟨⟨_,_,rfl,(by rfl),(by decide)⟩,trivial⟩ (by dsimp[bt,aX,aY,bS]<;>rfl)) rfl ?_;rintro v L' ⟨Ny,rfl,rfl⟩;refine ya (aO (s:=s) (xs:=a6 ks) (m:=ks.length) (k:=1) (us:=w2.cells) (size:=7) rfl rfl (by repeat first|exact .z|apply Pk.s) underlying101 underlying101 (by intro q hq;cases hq) typeInfo177 rfl rfl rfl ?ajd ?acP ?abz ?XL) rfl ?_
    case ajd=>exact kn
    case acP=>exact cz aL rfl rfl
    case abz=>exact cY _
    case XL=>show(_+_)*57≤_;omega
    rintro v L' ⟨yX,rfl,gU,rfl⟩;rw[←cJ,show ks.length+1=(ks++[w2]).length by simp]at gU ⊢;refine gy 6 ?_;rw[show IntKind.i64.wrap ((k:Int)+1)=((k+1:Nat):Int)by rw[wr (by omega) (by omega)];rfl];refine gy 3 ?_;exact cI (k+1,ks++[w2],yX,o,l,q) ⟨by dsimp only;omega,fg,lh,gU,by dsimp only;omega,by dsimp only;omega,by dsimp only;omega,by simp;omega⟩ (by dsimp only;omega) _ _ aq ae
   refine gy 7 ?_;have wu:=wu;refine gy 4 ?_;refine cv 72 rfl (fun aoA=>?_) (fun aoA=>?_)
   ·refine gy 3 ?_;refine bV ?_;refine bK (pL (V:={V with out:=o}) (n:=kL n l q) ?afp ?afk ?afb ?ae6) call155 ?_
    case afp=>exact wx
    case afk=>exact zE
    case afb=>show n.c.bl≤32;omega
    case ae6=>exact hlen
    refine gy 4 ?_;refine cc rfl (fun aoC=>?_) (fun aoC=>?_)
    ·refine gc 1 ?_;have fg:=iP.trans (kF (n:=n) (ks:=ks) (l:=l) (q:=q) wu (by assumption) (by assumption));refine gy 1 ?_;refine y (ak rfl isAgg177 sizeOf177 aL (by rfl)) rfl ?_;refine aA (gF (V:={V with out:=o}) (n:=kL n l q) (w:=w) (data:=[]) ?aiN ?abV ?ajU) rfl call101 aZ rfl ?_
     case aiN=>exact oY
     case abV=>exact lh
     case ajU=>show l.length≤1000000;omega
     rintro v L' ⟨U9,rfl,tl,rfl⟩;refine gy 18 ?_;rw[show IntKind.i64.wrap ((k:Int)+1)=((k+1:Nat):Int)by rw[wr (by omega) (by omega)];rfl];refine gy 3 ?_;exact cI (k+1,ks,s,U9,((kL n l q).answer w 0 []).out,q) ⟨by dsimp only;omega,fg,tl,kn,by show(l++[_]).length≤_;simp;omega,by dsimp only;omega,by dsimp only;omega,by dsimp only;omega⟩ (by dsimp only;omega) _ _ aq ae
    refine gc 10 ?_;let w2:ar:=w
    (have fg:=iP.trans (fz (n:=n) (ks:=ks) (l:=l) (q:=q) (w:=w) wu (fun hh=>by have h2:(kL n l q).fT w.seq=true:=hh.2;simp_all)))
    refine gy 1 ?_;refine y (ak rfl isAgg177 sizeOf177 aL (by rfl)) rfl ?_;refine ya (aE rfl underlying101 sizeOf177 zeroValue177 rfl rfl rfl rfl ⟨⟨_,_,rfl,(by rfl),(by decide)⟩,trivial⟩ (by dsimp[bt,aX,aY,bS]<;>rfl)) rfl ?_;rintro v L' ⟨Ny,rfl,rfl⟩;refine ya (aO (s:=s) (xs:=a6 ks) (m:=ks.length) (k:=1) (us:=w2.cells) (size:=7) rfl rfl (by repeat first|exact .z|apply Pk.s) underlying101 underlying101 (by intro q hq;cases hq) typeInfo177 rfl rfl rfl ?aje ?acQ ?abA ?XM) rfl ?_
    case aje=>exact kn
    case acQ=>exact cz aL rfl rfl
    case abA=>exact cY _
    case XM=>show(_+_)*57≤_;omega
    rintro v L' ⟨yX,rfl,gU,rfl⟩;rw[←cJ,show ks.length+1=(ks++[w2]).length by simp]at gU ⊢;refine gy 6 ?_;rw[show IntKind.i64.wrap ((k:Int)+1)=((k+1:Nat):Int)by rw[wr (by omega) (by omega)];rfl];refine gy 3 ?_;exact cI (k+1,ks++[w2],yX,o,l,q) ⟨by dsimp only;omega,fg,lh,gU,by dsimp only;omega,by dsimp only;omega,by dsimp only;omega,by simp;omega⟩ (by dsimp only;omega) _ _ aq ae
   refine gy 19 ?_;let w2:ar:=w
   (have fg:=iP.trans (fz (n:=n) (ks:=ks) (l:=l) (q:=q) (w:=w) wu (fun hh=>by have h2:(kL n l q).fT w.seq=true:=hh.2;simp_all)))
   refine gy 1 ?_;refine y (ak rfl isAgg177 sizeOf177 aL (by rfl)) rfl ?_;refine ya (aE rfl underlying101 sizeOf177 zeroValue177 rfl rfl rfl rfl ⟨⟨_,_,rfl,(by rfl),(by decide)⟩,trivial⟩ (by dsimp[bt,aX,aY,bS]<;>rfl)) rfl ?_;rintro v L' ⟨Ny,rfl,rfl⟩;refine ya (aO (s:=s) (xs:=a6 ks) (m:=ks.length) (k:=1) (us:=w2.cells) (size:=7) rfl rfl (by repeat first|exact .z|apply Pk.s) underlying101 underlying101 (by intro q hq;cases hq) typeInfo177 rfl rfl rfl ?ajf ?acR ?abB ?XN) rfl ?_
   case ajf=>exact kn
   case acR=>exact cz aL rfl rfl
   case abB=>exact cY _
   case XN=>show(_+_)*57≤_;omega
   rintro v L' ⟨yX,rfl,gU,rfl⟩;rw[←cJ,show ks.length+1=(ks++[w2]).length by simp]at gU ⊢;refine gy 6 ?_;rw[show IntKind.i64.wrap ((k:Int)+1)=((k+1:Nat):Int)by rw[wr (by omega) (by omega)];rfl];refine gy 3 ?_;exact cI (k+1,ks++[w2],yX,o,l,q) ⟨by dsimp only;omega,fg,lh,gU,by dsimp only;omega,by dsimp only;omega,by dsimp only;omega,by simp;omega⟩ (by dsimp only;omega) _ _ aq ae
  have wu: ¬(w.op=1∧w.load=0∧n.ew w.bE=none):=fun hh=>Eg hh.1
  refine gy 9 ?_;rcases wp with _|wi
  ·refine gy 7 ?_;have wu:=wu;refine gy 4 ?_;refine cv 72 rfl (fun TB=>?_) (fun TB=>?_)
   ·refine gy 3 ?_;refine bV ?_;refine bK (pL (V:={V with out:=o}) (n:=kL n l q) ?afq ?afl ?afc ?ae7) call155 ?_
    case afq=>exact wx
    case afl=>exact zE
    case afc=>show n.c.bl≤32;omega
    case ae7=>exact hlen
    refine gy 4 ?_;refine cc rfl (fun aoI=>?_) (fun aoI=>?_)
    ·refine gc 1 ?_;have fg:=iP.trans (kF (n:=n) (ks:=ks) (l:=l) (q:=q) wu (by assumption) (by assumption));refine gy 1 ?_;refine y (ak rfl isAgg177 sizeOf177 aL (by rfl)) rfl ?_;refine aA (gF (V:={V with out:=o}) (n:=kL n l q) (w:=w) (data:=[]) ?aiO ?abW ?ajV) rfl call101 aZ rfl ?_
     case aiO=>exact oY
     case abW=>exact lh
     case ajV=>show l.length≤1000000;omega
     rintro v L' ⟨U9,rfl,tl,rfl⟩;refine gy 18 ?_;rw[show IntKind.i64.wrap ((k:Int)+1)=((k+1:Nat):Int)by rw[wr (by omega) (by omega)];rfl];refine gy 3 ?_;exact cI (k+1,ks,s,U9,((kL n l q).answer w 0 []).out,q) ⟨by dsimp only;omega,fg,tl,kn,by show(l++[_]).length≤_;simp;omega,by dsimp only;omega,by dsimp only;omega,by dsimp only;omega⟩ (by dsimp only;omega) _ _ aq ae
    refine gc 10 ?_;let w2:ar:=w
    (have fg:=iP.trans (fz (n:=n) (ks:=ks) (l:=l) (q:=q) (w:=w) wu (fun hh=>by have h2:(kL n l q).fT w.seq=true:=hh.2;simp_all)))
    refine gy 1 ?_;refine y (ak rfl isAgg177 sizeOf177 aL (by rfl)) rfl ?_;refine ya (aE rfl underlying101 sizeOf177 zeroValue177 rfl rfl rfl rfl ⟨⟨_,_,rfl,(by rfl),(by decide)⟩,trivial⟩ (by dsimp[bt,aX,aY,bS]<;>rfl)) rfl ?_;rintro v L' ⟨Ny,rfl,rfl⟩;refine ya (aO (s:=s) (xs:=a6 ks) (m:=ks.length) (k:=1) (us:=w2.cells) (size:=7) rfl rfl (by repeat first|exact .z|apply Pk.s) underlying101 underlying101 (by intro q hq;cases hq) typeInfo177 rfl rfl rfl ?QF ?IU ?Iz ?GJ) rfl ?_
    case QF=>exact kn
    case IU=>exact cz aL rfl rfl
    case Iz=>exact cY _
    case GJ=>show(_+_)*57≤_;omega
    rintro v L' ⟨yX,rfl,gU,rfl⟩;rw[←cJ,show ks.length+1=(ks++[w2]).length by simp]at gU ⊢;refine gy 6 ?_;rw[show IntKind.i64.wrap ((k:Int)+1)=((k+1:Nat):Int)by rw[wr (by omega) (by omega)];rfl];refine gy 3 ?_;exact cI (k+1,ks++[w2],yX,o,l,q) ⟨by dsimp only;omega,fg,lh,gU,by dsimp only;omega,by dsimp only;omega,by dsimp only;omega,by simp;omega⟩ (by dsimp only;omega) _ _ aq ae
   refine gy 19 ?_;let w2:ar:=w
   (have fg:=iP.trans (fz (n:=n) (ks:=ks) (l:=l) (q:=q) (w:=w) wu (fun hh=>by have h2:(kL n l q).fT w.seq=true:=hh.2;simp_all)))
   refine gy 1 ?_;refine y (ak rfl isAgg177 sizeOf177 aL (by rfl)) rfl ?_;refine ya (aE rfl underlying101 sizeOf177 zeroValue177 rfl rfl rfl rfl ⟨⟨_,_,rfl,(by rfl),(by decide)⟩,trivial⟩ (by dsimp[bt,aX,aY,bS]<;>rfl)) rfl ?_;rintro v L' ⟨Ny,rfl,rfl⟩;refine ya (aO (s:=s) (xs:=a6 ks) (m:=ks.length) (k:=1) (us:=w2.cells) (size:=7) rfl rfl (by repeat first|exact .z|apply Pk.s) underlying101 underlying101 (by intro q hq;cases hq) typeInfo177 rfl rfl rfl ?aji ?acS ?abC ?XO) rfl ?_
   case aji=>exact kn
   case acS=>exact cz aL rfl rfl
   case abC=>exact cY _
   case XO=>show(_+_)*57≤_;omega
   rintro v L' ⟨yX,rfl,gU,rfl⟩;rw[←cJ,show ks.length+1=(ks++[w2]).length by simp]at gU ⊢;refine gy 6 ?_;rw[show IntKind.i64.wrap ((k:Int)+1)=((k+1:Nat):Int)by rw[wr (by omega) (by omega)];rfl];refine gy 3 ?_;exact cI (k+1,ks++[w2],yX,o,l,q) ⟨by dsimp only;omega,fg,lh,gU,by dsimp only;omega,by dsimp only;omega,by dsimp only;omega,by simp;omega⟩ (by dsimp only;omega) _ _ aq ae
  refine gy 7 ?_;have wu:=wu;refine gy 4 ?_;refine cv 72 rfl (fun aoK=>?_) (fun aoK=>?_)
  ·refine gy 3 ?_;refine bV ?_;refine bK (pL (V:={V with out:=o}) (n:=kL n l q) ?afr ?afm ?afd ?ae8) call155 ?_
   case afr=>exact wx
   case afm=>exact zE
   case afd=>show n.c.bl≤32;omega
   case ae8=>exact hlen
   refine gy 4 ?_;refine cc rfl (fun aoL=>?_) (fun aoL=>?_)
   ·refine gc 1 ?_;have fg:=iP.trans (kF (n:=n) (ks:=ks) (l:=l) (q:=q) wu (by assumption) (by assumption));refine gy 1 ?_;refine y (ak rfl isAgg177 sizeOf177 aL (by rfl)) rfl ?_;refine aA (gF (V:={V with out:=o}) (n:=kL n l q) (w:=w) (data:=[]) ?aiP ?abX ?ajW) rfl call101 aZ rfl ?_
    case aiP=>exact oY
    case abX=>exact lh
    case ajW=>show l.length≤1000000;omega
    rintro v L' ⟨U9,rfl,tl,rfl⟩;refine gy 18 ?_;rw[show IntKind.i64.wrap ((k:Int)+1)=((k+1:Nat):Int)by rw[wr (by omega) (by omega)];rfl];refine gy 3 ?_;exact cI (k+1,ks,s,U9,((kL n l q).answer w 0 []).out,q) ⟨by dsimp only;omega,fg,tl,kn,by show(l++[_]).length≤_;simp;omega,by dsimp only;omega,by dsimp only;omega,by dsimp only;omega⟩ (by dsimp only;omega) _ _ aq ae
   refine gc 10 ?_;let w2:ar:=w
   (have fg:=iP.trans (fz (n:=n) (ks:=ks) (l:=l) (q:=q) (w:=w) wu (fun hh=>by have h2:(kL n l q).fT w.seq=true:=hh.2;simp_all)))
   refine gy 1 ?_;refine y (ak rfl isAgg177 sizeOf177 aL (by rfl)) rfl ?_;refine ya (aE rfl underlying101 sizeOf177 zeroValue177 rfl rfl rfl rfl ⟨⟨_,_,rfl,(by rfl),(by decide)⟩,trivial⟩ (by dsimp[bt,aX,aY,bS]<;>rfl)) rfl ?_;rintro v L' ⟨Ny,rfl,rfl⟩;refine ya (aO (s:=s) (xs:=a6 ks) (m:=ks.length) (k:=1) (us:=w2.cells) (size:=7) rfl rfl (by repeat first|exact .z|apply Pk.s) underlying101 underlying101 (by intro q hq;cases hq) typeInfo177 rfl rfl rfl ?ajj ?acT ?abD ?XP) rfl ?_
   case ajj=>exact kn
   case acT=>exact cz aL rfl rfl
   case abD=>exact cY _
   case XP=>show(_+_)*57≤_;omega
   rintro v L' ⟨yX,rfl,gU,rfl⟩;rw[←cJ,show ks.length+1=(ks++[w2]).length by simp]at gU ⊢;refine gy 6 ?_;rw[show IntKind.i64.wrap ((k:Int)+1)=((k+1:Nat):Int)by rw[wr (by omega) (by omega)];rfl];refine gy 3 ?_;exact cI (k+1,ks++[w2],yX,o,l,q) ⟨by dsimp only;omega,fg,lh,gU,by dsimp only;omega,by dsimp only;omega,by dsimp only;omega,by simp;omega⟩ (by dsimp only;omega) _ _ aq ae
  refine gy 19 ?_;let w2:ar:=w
  (have fg:=iP.trans (fz (n:=n) (ks:=ks) (l:=l) (q:=q) (w:=w) wu (fun hh=>by have h2:(kL n l q).fT w.seq=true:=hh.2;simp_all)))
  refine gy 1 ?_;refine y (ak rfl isAgg177 sizeOf177 aL (by rfl)) rfl ?_;refine ya (aE rfl underlying101 sizeOf177 zeroValue177 rfl rfl rfl rfl ⟨⟨_,_,rfl,(by rfl),(by decide)⟩,trivial⟩ (by dsimp[bt,aX,aY,bS]<;>rfl)) rfl ?_;rintro v L' ⟨Ny,rfl,rfl⟩;refine ya (aO (s:=s) (xs:=a6 ks) (m:=ks.length) (k:=1) (us:=w2.cells) (size:=7) rfl rfl (by repeat first|exact .z|apply Pk.s) underlying101 underlying101 (by intro q hq;cases hq) typeInfo177 rfl rfl rfl ?ajk ?acU ?abE ?XQ) rfl ?_
  case ajk=>exact kn
  case acU=>exact cz aL rfl rfl
  case abE=>exact cY _
  case XQ=>show(_+_)*57≤_;omega
  rintro v L' ⟨yX,rfl,gU,rfl⟩;rw[←cJ,show ks.length+1=(ks++[w2]).length by simp]at gU ⊢;refine gy 6 ?_;rw[show IntKind.i64.wrap ((k:Int)+1)=((k+1:Nat):Int)by rw[wr (by omega) (by omega)];rfl];refine gy 3 ?_;exact cI (k+1,ks++[w2],yX,o,l,q) ⟨by dsimp only;omega,fg,lh,gU,by dsimp only;omega,by dsimp only;omega,by dsimp only;omega,by simp;omega⟩ (by dsimp only;omega) _ _ aq ae
 refine gc 5 ?_;exact aV aq ae (fQ ⟨k,ks,s,o,l,q⟩ ⟨cC,by dsimp only;omega⟩)
end W
end Go.Proofs