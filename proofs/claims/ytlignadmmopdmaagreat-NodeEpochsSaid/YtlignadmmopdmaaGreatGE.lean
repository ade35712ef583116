/- A part of the proof. -/
import Derived.Test.YtlignadmmopdmaaGreatUn
import Derived.Test.YtlignadmmopdmaaGreatGB
import Derived.Test.YtlignadmmopdmaaGreatProg
import Derived.Shelf.SlIterI.Nil
import Derived.Shelf.SortM.Plain
import Derived.Shelf.SortM.SortNone
import Derived.Ground.GgzProg
import Derived.Ground.SlgmProg
import Derived.Test.YtlignadmmopdmaaGreatGC
set_option linter.unusedVariables false
set_option linter.unusedSimpArgs false
set_option linter.constructorNameAsVariable false
namespace Go.Proofs
open _root_.Go.Proofs.Tryz
open Go Go.Sl
theorem Tryz.mixed:Tryz.prog.follows .mixedOrders=true:=by kernel_rfl
theorem Tryz.zc:Tryz.zeroCells120=(av g8).toArray:=by rfl
namespace W
def eL(p la m:Nat)(D:az):ax:=sc p [.slice (some ⟨la,0,none⟩) D.l.length D.l.length,.map (some m),.bool D.dead,.int .i64 D.dA] 95
def kP(la:Nat)(D:az):ax:=sc la (flat D.l) 120
def gv(m:Nat)(D:az):ax:=so m (.map (cH (sY D.es)) D.wN)
abbrev BP(p la m:Nat)(D:az):List ax:=[eL p la m D,kP la D,gv m D]
abbrev ptr(p:Nat):Value:= .pointer (some ⟨p,0,none⟩)
abbrev i64(x:Int):Value:= .int .i64 x
theorem act [Env]{R:List ax}{p la m:Nat}{D:az}:bC Tryz.prog 54 [ptr p] [eL p la m D] R (Is (i64 D.act.1) [eL p la m D.act.2]):=by
 unfold eL;refine ag func54 ntmps54 rfl rfl ?_;refine gc 13 ?_;refine cc rfl (fun h7=>?_) (fun h7=>?_)
 ·refine gc 4 ?_;refine bA (an rfl rfl (by rfl) sizeOf4 bc rfl rfl) ?_;refine gy 8 ?_;refine aj results54 rfl (L1:=_) ae ?_;exact⟨_,⟨by simp[az.act, *],rfl⟩,by simp[az.act, *]⟩
 refine gc 11 ?_;refine cc rfl (fun Dc=>?_) (fun Dc=>?_)
 ·refine gc 8 ?_;refine bA (an rfl rfl (by rfl) sizeOf3 bc rfl rfl) ?_;refine gy 7 ?_;refine aj results54 rfl (L1:=_) ae ?_;exact⟨_,⟨by simp[az.act, *],rfl⟩,by simp[az.act, *]⟩
 refine gc 7 ?_;refine aj results54 rfl (L1:=_) ae ?_;exact⟨_,⟨by simp[az.act, *],rfl⟩,by simp[az.act, *]⟩
theorem iT{m:Nat}{D:az}:gv m D.act.2=gv m D:=by unfold az.act gv;split<;>(try split)<;>rfl
theorem mZ{m:Nat}{D:az}:kP m D.act.2=kP m D:=by unfold az.act kP;split<;>(try split)<;>rfl
theorem has [Env]{R:List ax}{p la m:Nat}{D:az}{i:Int}:bC Tryz.prog 53 [ptr p,i64 i] [eL p la m D] R (Is (i64 (D.has i)) [eL p la m D]):=by
 unfold eL;refine ag func53 ntmps53 rfl rfl ?_;refine gc 14 ?_;refine cc rfl (fun OD=>?_) (fun OD=>?_)
 ·refine gc 7 ?_;refine aj results53 rfl (L1:=_) ae ?_;exact⟨_,⟨by simp[az.has, *],rfl⟩,by rfl⟩
 refine gc 4 ?_;refine cv 13 rfl (fun Lc=>?_) (fun Lc=>?_)
 ·refine gy 19 ?_;refine aj results53 rfl (L1:=_) ae ?_;exact⟨_,⟨by simp[az.has, *],rfl⟩,by rfl⟩
 refine gy 5 ?_;refine bV ?_;refine y (pq rfl underlying92) rfl ?_;refine gy 5 ?_;refine cc rfl (fun OH=>?_) (fun OH=>?_)
 ·refine gc 7 ?_;refine aj results53 rfl (L1:=_) ae ?_;exact⟨_,⟨by simp[az.has, *],rfl⟩,by rfl⟩
 refine gc 8 ?_;refine aj results53 rfl (L1:=_) ae ?_;exact⟨_,⟨by simp[az.has, *],rfl⟩,by rfl⟩
theorem gZ [Env]{R:List ax}{p la m:Nat}{D:az}{i:Int}:bC Tryz.prog 29 [ptr p,i64 i] [eL p la m D] R (Is (.tuple #[]) [eL p la m (D.gZ i)]):=by
 unfold eL;refine ag func29 ntmps29 rfl rfl ?_;refine gc 3 ?_;refine y (mK rfl rfl) rfl ?_;refine gy 2 ?_;refine bA (an rfl rfl (by rfl) sizeOf3 bc rfl rfl) ?_;refine gy 1 ?_;refine aN results29 (L1:=_) ae ?_;exact⟨_,⟨by rfl,rfl⟩,by rfl⟩
theorem dead [Env]{R:List ax}{p la m:Nat}{D:az}:bC Tryz.prog 75 [ptr p] [eL p la m D] R (Is (.bool D.dead) [eL p la m D]):=by
 unfold eL;refine ag func75 ntmps75 rfl rfl ?_;refine gc 13 ?_;refine aj results75 rfl (L1:=_) ae ?_;exact⟨_,⟨by rfl,rfl⟩,by rfl⟩
theorem ek [Env]{R:List ax}{p la m:Nat}{D:az}:bC Tryz.prog 46 [ptr p] [eL p la m D] R (Is (i64 D.l.length) [eL p la m D]):=by
 unfold eL;refine ag func46 ntmps46 rfl rfl ?_;refine gc 9 ?_;refine y (pq rfl underlying92) rfl ?_;refine gy 4 ?_;refine aj results46 rfl (L1:=_) ae ?_;exact⟨_,⟨by rfl,rfl⟩,by rfl⟩
theorem up [Env]{R:List ax}{p la m:Nat}{D:az}:bC Tryz.prog 71 [ptr p] [eL p la m D,gv m D] R (Is (.tuple #[]) [eL p la m D.up,gv m D.up]):=by
 unfold eL gv;refine ag func71 ntmps71 rfl rfl ?_;refine gc 5 ?_;refine bA (Ao rfl underlying93 bc) ?_;refine gy 7 ?_;refine bA (an rfl rfl (by rfl) sizeOf4 bc rfl rfl) ?_;refine gy 2 ?_;refine bA (an rfl rfl (by rfl) sizeOf3 bc rfl rfl) ?_;refine gy 1 ?_;refine aN results71 (L1:=_) ae ?_;exact⟨_,⟨by rfl,rfl⟩,by rfl⟩
theorem new [Env]{R:List ax}{n:Nat}(hn:n≤512):bC Tryz.prog 18 [i64 n] [] R (fun v L'=> ∃p la m,v=ptr p∧L'=BP p la m (az.new n)):=by
 refine ag func18 ntmps18 rfl rfl ?_;refine gc 9 ?_;refine cv 5 rfl (fun TJ=>?_) (fun TJ=>?_)
 ·refine gy 12 ?_;exfalso;omega
 refine gy 5 ?_;refine cc rfl (fun YY=>?_) (fun YY=>?_)
 ·refine gc 6 ?_;exfalso;omega
 refine gc 4 ?_;refine ya (SX (zs:=av g8) rfl rfl underlying92 typeInfo120 sizeOf120 zeroValue120 Tryz.zc rfl (by decide) ?ahN ?Xt) rfl ?_
 case ahN=>omega
 case Xt=>show 144*n≤_;omega
 rintro v L' ⟨Nx,rfl,rfl⟩;refine ya (nL) rfl ?_;rintro v L' ⟨b11,rfl,rfl⟩;refine y (jB (zs:=_) rfl underlying95 zeroValue95 rfl (.cons sizeOf92 (.cons sizeOf93 (.cons sizeOf4 (.cons sizeOf3 .nil)))) ⟨⟨_,_,rfl,(by rfl),(by decide)⟩,⟨⟨_,_,rfl,(by rfl),(by decide)⟩,⟨⟨_,_,rfl,(by rfl),(by decide)⟩,trivial⟩⟩⟩ (by dsimp[bt,aX,aY]<;>rfl)) rfl ?_;refine ya (a7 rfl rfl) rfl ?_;rintro v L' ⟨b13,rfl,rfl⟩;refine gy 4 ?_;refine aj results18 rfl (L1:=[sc _ _ 95,sc _ _ 120,so _ (.map _ _)]++R) ae ?_;exact⟨_,⟨b13,Nx,b11,rfl,rfl⟩,by simp[eL,kP,gv,az.new,KW,sY]⟩
theorem write [Env]{R:List ax}{p la m:Nat}{D:az}{i:Int}{bv:Value}{bs:Bytes}(hD:D.ok)(hb:Da R bv bs):
   bC Tryz.prog 21 [ptr p,i64 i,bv] [eL p la m D,gv m D] R (Is (i64 (D.write i bs).1) [eL p la m (D.write i bs).2,gv m (D.write i bs).2]):=by
 refine ag func21 ntmps21 rfl rfl ?_;refine gc 8 ?_;refine bK (has) call53 ?_;refine gy 8 ?_;refine cc rfl (fun aoa=>?_) (fun aoa=>?_)
 ·refine gc 7 ?_;refine aj results21 rfl (L1:=[eL p la m _,so m _]++R) ae ?_;exact⟨_,⟨by simp[az.write,iT, *],rfl⟩,by simp[az.write,gv,eL,wV,wU, *]⟩
 refine gc 5 ?_;refine y (Tl rfl underlying55 hb.bo) rfl ?_;refine gy 3 ?_;refine cc rfl (fun aob=>?_) (fun aob=>?_)
 ·refine gc 6 ?_;refine aj results21 rfl (L1:=[eL p la m _,so m _]++R) ae ?_;exact⟨_,⟨by simp[az.write,iT, *],rfl⟩,by simp[az.write,gv,eL,wV,wU, *]⟩
 refine gc 5 ?_;refine bK (act) call54 ?_;refine gy 8 ?_;refine cc rfl (fun B0=>?_) (fun B0=>?_)
 ·refine gc 7 ?_;refine aj results21 rfl (L1:=[eL p la m _,so m _]++R) ae ?_;exact⟨_,⟨by simp[az.write,iT, *],rfl⟩,by simp[az.write,gv,eL,wV,wU, *]⟩
 refine gc 3 ?_;refine ya (aB (vs:=av g8) zeroValue120 Tryz.zc) rfl ?_;rintro v L' ⟨b9,rfl,rfl⟩;refine gy 3 ?_;refine y (iJ rfl underlying120 sizeOf5) rfl ?_;refine gy 1 ?_;refine ya (Dv (bs:=bs) (vs':=av (pad bs)) rfl rfl underlying55 sizeOf5 ?akR rfl bc ?Yj ?ae3) rfl ?_
 case akR=>exact hb.mono (by repeat first|exact .refl|refine .drop ?_)
 case Yj=>simp[g8];omega
 case ae3=>exact NX (by omega)
 rintro v L' ⟨rfl,rfl⟩;refine gy 3 ?_;refine aS 6 (od [] 6 0) (_) Tryz.mixed (by kernel_rfl) .refl ?_;refine gh 5 ?_;refine hr rfl (ak rfl isAgg120 sizeOf120 aL (by simp[pad];omega)) rfl ?_;refine gh 1 ?_;refine bA (iu rfl rfl rfl underlying93 underlying3 ?VL bc) ?_
 case VL=>exact EU hD.uniq
 refine gy 7 ?_;refine aj results21 rfl (L1:=[eL p la m _,so m _]++R) ae ?_;exact⟨_,⟨by simp[az.write,iT, *],rfl⟩,by simp[az.write,gv,eL,wV,wU, *]⟩
theorem aJ [Env]{R:List ax}{p la m:Nat}{D:az}(hD:D.ok):
   bC Tryz.prog 93 [ptr p] (BP p la m D) R (Is (i64 D.aJ.1) (BP p la m D.aJ.2)):=by
 refine ag func93 ntmps93 rfl rfl ?_;show Sc _ _ _ _ _ (eL p la m D::kP la D::gv m D::R);refine gc 6 ?_;unfold eL;refine gy 6 ?_;refine cc rfl (fun Ys=>?_) (fun Ys=>?_)
 ·refine gc 6 ?_;refine aj results93 rfl (L1:=[sc p _ _,sc la _ _,so m _]++R) ae ?_;exact⟨_,⟨by simp[az.aJ,eL,kP,gv,iT,mZ, *],rfl⟩,by simp[az.aJ,eL,kP,gv,iT,mZ, *]⟩
 refine gc 5 ?_;refine bK (act) call54 ?_;refine gy 8 ?_;refine cc rfl (fun Yt=>?_) (fun Yt=>?_)
 ·refine gc 7 ?_;refine aj results93 rfl (L1:=[sc p _ _,sc la _ _,so m _]++R) ae ?_;exact⟨_,⟨by simp[az.aJ,eL,kP,gv,iT,mZ, *],rfl⟩,by simp[az.aJ,eL,kP,gv,iT,mZ, *]⟩
 refine gc 4 ?_;unfold eL gv;simp only[Jb];refine gy 4 ?_;refine ya (Dw rfl underlying93 aL) rfl ?_;rintro v L' ⟨i19,rfl,rfl⟩;refine gy 3 ?_;refine bO (A:=List Nat × List Bytes) (fun x=>[(19,ptr i19),(0,ptr p)]) (fun x=>[so i19 (.mapIter (some m) D.wN x.1.toArray D.wN),sc p [.slice (some ⟨la,0,none⟩) D.l.length D.l.length,.map (some m),.bool D.act.2.dead,.int .i64 D.act.2.dA] 95,sc la (flat x.2) 120,gv m D]++R) (fun x=>(∀s∈x.2,s.length=144)∧x.2.length=D.l.length∧eQ (D.es.filter fun y=> !x.1.contains y.2.2) x.2=eQ D.es D.l) (fun x=>(left (sY D.es) x.1).length) (([],D.l)) ?_ aq ae ?_
 · exact⟨hD.sec,rfl,congrArg (eQ · _) (List.filter_eq_self.2 (by simp))⟩
 rintro⟨seen,ls⟩ bJ kt cI;obtain⟨Jz,oI,hse⟩:=bJ;dsimp only at Jz oI hse ⊢;unfold gv;refine gc 1 ?_;refine ya (Ja rfl aL aL ?al3 (fun _=>bc)) rfl ?_
 case al3=>exact pJ hD.born hD.once
 rintro v L' (⟨agE,rfl,rfl⟩|⟨x20,Ui,rfl,rfl⟩)
 ·have auj:=FK agE hse;refine gy 15 ?_;refine bA (Ao rfl underlying93 bc) ?_;refine gy 7 ?_;refine aj results93 rfl (L1:=[sc p _ _,sc la _ _,so m _]++R) ae ?_;exact⟨_,⟨by simp[az.aJ,eL,kP,gv,iT,mZ, *],rfl⟩,by simp[az.aJ,eL,kP,gv,iT,mZ, *]⟩
 obtain⟨k20,s20,b20,rfl,agM,hk0,M1,apo⟩:=Ux hD Ui;refine gy 9 ?_;refine y (DV rfl aL aL ?al4 ?aam) rfl ?_
 case al4=>exact pJ hD.born hD.once
 case aam=>exact yl Ui
 refine gy 2 ?_;refine ya (aB (vs:=av g8) zeroValue120 Tryz.zc) rfl ?_;rintro v L' ⟨b5,rfl,rfl⟩;refine gy 1 ?_;refine bA (ai rfl rfl (by exact cL _) sizeOf120 bc (by simp[*]) (by rfl)) ?_;refine gy 2 ?_;refine aS 7 (od [] 7 0) (_) Tryz.mixed (by kernel_rfl) .refl ?_;refine gh 5 ?_;refine hr rfl (ak rfl isAgg120 sizeOf120 aL (by simp[*])) rfl ?_;refine hr rfl (iz rfl rfl underlying92 sizeOf120 (by omega) (by omega)) rfl ?_;refine gh 1 ?_;refine Xf (aP (vs':=flat (ls.set k20.toNat s20)) rfl rfl (cL _) sizeOf120 bc (by simp[agM]) (by rw[mj Jz];omega) (by rw[Nat.zero_add];exact sJ Jz (by omega))) ?_;rintro v L' ⟨rfl,rfl⟩;refine gy 3 ?_;exact cI ((seen++[b20],ls.set k20.toNat s20)) (⟨wY Jz agM,by simpa using oI,CY hD Ui apo hse⟩) (JQ Ui) _ _ aq ae
theorem NS [Env]{R:List ax}{a:Addr}{m c:Nat}{bs:Bytes}(hm:m=bs.length)(hb:Da R (.slice (some a) m c) bs)(hl:m<2^40):
   bC Tryz.prog 134 [.slice (some a) m c] [] R (zx 5 m 1 (av bs) []):=by
 subst hm;refine ag func134 ntmps134 rfl rfl ?_;refine gc 7 ?_;refine y (lO rfl rfl underlying55) rfl ?_;refine gy 2 ?_;refine cc rfl (fun Ef=>?_) (fun Ef=>?_)
 ·exact absurd Ef (by simp)
 refine gc 3 ?_;refine ya (jh underlying55 sizeOf5) rfl ?_;rintro v L' ⟨b5,rfl,rfl⟩;refine gy 1 ?_;refine ya (aO (k:=bs.length) (us:=av bs) (size:=1) rfl rfl (by repeat first|exact .z|apply Pk.s) underlying55 underlying55 (by intro q hq;cases hq) typeInfo5 rfl rfl rfl ?ai8 ?acM ?abw ?XI) rfl ?_
 case ai8=>exact⟨Nat.le_refl _,by decide,rfl,rfl⟩
 case acM=>exact(hb.mono ae).src
 case abw=>exact cL _
 case XI=>show(0+bs.length)*2≤_;omega
 rintro v L' ⟨s7,rfl,Gk,rfl⟩;rw[Nat.zero_add]at Gk;rw[Nat.zero_add];refine gy 4 ?_;refine aj results134 rfl (L1:=_) ae ?_;exact⟨_,⟨s7,rfl,Gk,rfl⟩,rfl⟩
def VZ(D:az)(i:Int)(L:List ax)(v:Value)(L':List ax):Prop:=
 (D.has i≠0∧v= .tuple #[.slice none 0 0,i64 (D.has i)]∧L'=L)∨
 (D.has i=0∧ ∃s,v= .tuple #[aG s 144,i64 0]∧bW s 144 1 (av (D.sec i))∧L'=aD s 5 (av (D.sec i))::L)
theorem read [Env]{R:List ax}{p la m:Nat}{D:az}{i:Int}(hD:D.ok):
   bC Tryz.prog 76 [ptr p,i64 i] (BP p la m D) R (VZ D i (BP p la m D)):=by
 have hs:=jm hD i;refine ag func76 ntmps76 rfl rfl ?_;show Sc _ _ _ _ _ (eL p la m D::kP la D::gv m D::R);refine gc 9 ?_;refine bK (has) call53 ?_;refine gy 8 ?_;refine cc rfl (fun Tw=>?_) (fun Tw=>?_)
 ·refine gc 8 ?_;exact JN results76 rfl rfl _ (.inl ⟨by assumption,rfl,rfl⟩) ae
 refine gc 3 ?_;unfold eL gv;obtain⟨hdd,HA,oO⟩:=Er (D:=D) (i:=i) (by assumption);have hql:=fun q=>N8 hD (k:=i) (s:=q)
 refine gy 5 ?_;rcases hg:ix D.es i with _|q
 ·(refine y (DX (by rw[Cs,hg];rfl) rfl rfl underlying93 underlying3 zeroValue120 aL) rfl ?_)
  refine gy 3 ?_;refine ya (aB (vs:=av g8) zeroValue120 Tryz.zc) rfl ?_;rintro v L' ⟨b7,rfl,rfl⟩;refine bA (ai rfl rfl (by simp[Value.oneCell']) sizeOf120 bc (by rfl) (by rfl)) ?_;refine gy 11 ?_;obtain⟨s0,O9⟩:=BF HA oO;have Lv:s0.length=144:=hD.sec s0 (List.mem_of_getElem? O9);unfold kP;refine gy 5 ?_;refine y (iz rfl rfl underlying92 sizeOf120 (by omega) (by omega)) rfl ?_;refine y (ay (u:=av s0) rfl isAgg120 sizeOf120 aL (by rw[Nat.zero_add];exact xJ hD.sec O9) (by simp[Lv])) rfl ?_;refine bA (ai rfl rfl (by exact cL _) sizeOf120 bc (by simp[*]) (by rfl)) ?_;refine gy 3 ?_;refine y (iJ rfl underlying120 sizeOf5) rfl ?_;refine aA (NS (bs:=D.sec i) ?aqu ?akS ?aai) rfl call134 aZ rfl ?_
  case aqu=>exact hs.symm
  case akS=>exact CM aL (by simp[*]) (by(rw[Rx hg O9]);exact List.take_of_length_le (by simp[*]))
  case aai=>decide
  rintro v L' ⟨SN,rfl,QG,rfl⟩;refine gy 5 ?_;exact JN results76 rfl rfl _ (.inr ⟨by assumption,SN,rfl,QG,rfl⟩) ae
 (refine y (DY (by rw[Cs,hg];rfl) rfl rfl underlying93 underlying3 zeroValue120 aL) rfl ?_)
 refine gy 3 ?_;refine ya (aB (vs:=av g8) zeroValue120 Tryz.zc) rfl ?_;rintro v L' ⟨b7,rfl,rfl⟩;refine bA (ai rfl rfl (by exact cL _) sizeOf120 bc (by simp[*]) (by rfl)) ?_;refine gy 13 ?_;refine y (iJ rfl underlying120 sizeOf5) rfl ?_;refine aA (NS (bs:=D.sec i) ?aqv ?akT ?aaj) rfl call134 aZ rfl ?_
 case aqv=>exact hs.symm
 case akT=>exact CM aL (by simp[*]) (by(rw[FJ hg]);exact List.take_of_length_le (by simp[*]))
 case aaj=>decide
 rintro v L' ⟨SN,rfl,QG,rfl⟩;refine gy 5 ?_;exact JN results76 rfl rfl _ (.inr ⟨by assumption,SN,rfl,QG,rfl⟩) ae
end W
end Go.Proofs
namespace Go.Proofs
open _root_.Go.Proofs.Tryz
open Go.Shelf
def Tryz.AT:Go.Shelf.Ren:=⟨fun|7=>132|10=>187|n=>n,fun|23=>93|26=>3|3=>120|28=>198|0=>0|27=>197|33=>193|4=>4|n=>n,fun|n=>n⟩
theorem Tryz.WM:Go.Proofs.SlLaysZI.n7 Tryz.prog Tryz.AT:={
 mixed:=by kernel_rfl
 f7:=⟨Tryz.f132.name,by decide,func132.trans (congrArg some (by kernel_rfl))⟩
 f10:=⟨Tryz.f187.name,by decide,func187.trans (congrArg some (by kernel_rfl))⟩
 t0:=underlying0
 a0:=isAgg0
 z0:=sizeOf0
 v0:=zeroValue0
 t4:=underlying4
 a4:=isAgg4
 z4:=sizeOf4
 v4:=zeroValue4
 t23:=underlying93
 a23:=isAgg93
 z23:=sizeOf93
 v23:=zeroValue93
 t26:=underlying3
 a26:=isAgg3
 z26:=sizeOf3
 v26:=zeroValue3
 t27:=underlying197
 a27:=isAgg197
 z27:=sizeOf197
 v27:=zeroValue197
 t28:=underlying198
 a28:=isAgg198
 z28:=sizeOf198
 v28:=zeroValue198
 t33:=underlying193
 a33:=isAgg193
 z33:=sizeOf193
 v33:=zeroValue193}
def Tryz.pU:Go.Shelf.Ren:=⟨fun|6=>131|8=>185|9=>186|11=>215|13=>217|12=>216|23=>236|24=>237|14=>227|15=>228|16=>229|17=>230|18=>231|19=>232|20=>233|21=>234|22=>235|25=>240|26=>241|27=>242|28=>243|29=>244|30=>245|31=>246|n=>n,fun|26=>3|28=>198|24=>73|0=>0|3=>3|37=>204|48=>173|50=>138|4=>4|40=>269|39=>268|45=>257|5=>5|9=>9|51=>279|55=>283|57=>285|58=>286|33=>193|n=>n,fun|n=>n⟩
theorem Tryz.Vy:Go.Proofs.SlLaysZI.n6 Tryz.prog Tryz.pU:={
 mixed:=by kernel_rfl
 f6:=⟨Tryz.f131.name,by decide,func131.trans (congrArg some (by kernel_rfl))⟩
 f8:=⟨Tryz.f185.name,by decide,func185.trans (congrArg some (by kernel_rfl))⟩
 f11:=⟨Tryz.f215.name,by decide,func215.trans (congrArg some (by kernel_rfl))⟩
 t0:=underlying0
 a0:=isAgg0
 z0:=sizeOf0
 v0:=zeroValue0
 t24:=underlying73
 a24:=isAgg73
 z24:=sizeOf73
 v24:=zeroValue73
 t26:=underlying3
 a26:=isAgg3
 z26:=sizeOf3
 v26:=zeroValue3
 t28:=underlying198
 a28:=isAgg198
 z28:=sizeOf198
 v28:=zeroValue198
 i26:=by kernel_rfl}
def Tryz.Mz:Go.Shelf.Ren:=⟨fun|5=>186|8=>217|7=>216|19=>236|20=>237|10=>227|11=>228|12=>229|13=>230|14=>231|15=>232|16=>233|17=>234|18=>235|30=>240|31=>241|32=>242|33=>243|34=>244|35=>245|40=>246|n=>n,fun|23=>73|25=>3|3=>3|32=>204|22=>73|0=>0|44=>173|46=>138|4=>4|36=>269|35=>268|41=>257|5=>5|9=>9|53=>279|57=>283|63=>285|64=>286|n=>n,fun|n=>n⟩
theorem Tryz.Xa:Go.Proofs.SlLaysM.n5 Tryz.prog Tryz.Mz:={
 mixed:=by kernel_rfl
 f5:=⟨Tryz.f186.name,by decide,func186.trans (congrArg some (by kernel_rfl))⟩
 f7:=⟨Tryz.f216.name,by decide,func216.trans (congrArg some (by kernel_rfl))⟩
 f8:=func217.trans (congrArg some (by kernel_rfl))
 f10:=⟨Tryz.f227.name,by decide,func227.trans (congrArg some (by kernel_rfl))⟩
 f11:=⟨Tryz.f228.name,by decide,func228.trans (congrArg some (by kernel_rfl))⟩
 f12:=⟨Tryz.f229.name,by decide,func229.trans (congrArg some (by kernel_rfl))⟩
 f13:=⟨Tryz.f230.name,by decide,func230.trans (congrArg some (by kernel_rfl))⟩
 f14:=⟨Tryz.f231.name,by decide,func231.trans (congrArg some (by kernel_rfl))⟩
 f15:=⟨Tryz.f232.name,by decide,func232.trans (congrArg some (by kernel_rfl))⟩
 f16:=⟨Tryz.f233.name,by decide,func233.trans (congrArg some (by kernel_rfl))⟩
 f17:=⟨Tryz.f234.name,by decide,func234.trans (congrArg some (by kernel_rfl))⟩
 f18:=⟨Tryz.f235.name,by decide,func235.trans (congrArg some (by kernel_rfl))⟩
 f19:=func236.trans (congrArg some (by kernel_rfl))
 f20:=func237.trans (congrArg some (by kernel_rfl))
 f30:=⟨Tryz.f240.name,by decide,func240.trans (congrArg some (by kernel_rfl))⟩
 f31:=func241.trans (congrArg some (by kernel_rfl))
 f32:=func242.trans (congrArg some (by kernel_rfl))
 f33:=⟨Tryz.f243.name,by decide,func243.trans (congrArg some (by kernel_rfl))⟩
 f34:=⟨Tryz.f244.name,by decide,func244.trans (congrArg some (by kernel_rfl))⟩
 f35:=⟨Tryz.f245.name,by decide,func245.trans (congrArg some (by kernel_rfl))⟩
 f40:=⟨Tryz.f246.name,by decide,func246.trans (congrArg some (by kernel_rfl))⟩
 t0:=underlying0
 a0:=isAgg0
 z0:=sizeOf0
 v0:=zeroValue0
 t3:=underlying3
 a3:=isAgg3
 z3:=sizeOf3
 v3:=zeroValue3
 t4:=underlying4
 a4:=isAgg4
 z4:=sizeOf4
 v4:=zeroValue4
 t5:=underlying5
 a5:=isAgg5
 z5:=sizeOf5
 v5:=zeroValue5
 t9:=underlying9
 a9:=isAgg9
 z9:=sizeOf9
 v9:=zeroValue9
 t22:=underlying73
 a22:=isAgg73
 z22:=sizeOf73
 v22:=zeroValue73
 t23:=underlying73
 a23:=isAgg73
 z23:=sizeOf73
 v23:=zeroValue73
 t25:=underlying3
 a25:=isAgg3
 z25:=sizeOf3
 v25:=zeroValue3
 t32:=underlying204
 a32:=isAgg204
 z32:=sizeOf204
 v32:=zeroValue204
 t35:=underlying268
 a35:=isAgg268
 z35:=sizeOf268
 v35:=zeroValue268
 t36:=underlying269
 a36:=isAgg269
 z36:=sizeOf269
 v36:=zeroValue269
 t41:=underlying257
 a41:=isAgg257
 z41:=sizeOf257
 v41:=zeroValue257
 t44:=underlying173
 a44:=isAgg173
 z44:=sizeOf173
 v44:=zeroValue173
 t46:=underlying138
 a46:=isAgg138
 z46:=sizeOf138
 v46:=zeroValue138
 t53:=underlying279
 a53:=isAgg279
 z53:=sizeOf279
 v53:=zeroValue279
 t57:=underlying283
 a57:=isAgg283
 z57:=sizeOf283
 v57:=zeroValue283
 t63:=underlying285
 a63:=isAgg285
 z63:=sizeOf285
 v63:=zeroValue285
 t64:=underlying286
 a64:=isAgg286
 z64:=sizeOf286
 v64:=zeroValue286}
end Go.Proofs
namespace Go.Proofs
open _root_.Go.Proofs.Tryz
open Go.RowKit Go.Maps Go.Sort Go.Shelf
theorem Tryz.aco(m:Nat):AnyZI.SortsIn Tryz.prog Tryz.pU Fence.wide m:=
 ⟨fun bE off cap ss W hH B7 vD=>callsIn_wide.2 (AnyM.slices_Sort_int Tryz.Xa bE off cap ss W hH B7 vD),
  fun p cap W=>callsIn_wide.2 (AnyM.slices_Sort_int_none Tryz.Xa p cap W)⟩
namespace W
open Go.Sl
abbrev Pw:Nat:=187
theorem anS:Enters Tryz.prog 186:=enters_of func186 (by kernel_rfl) rfl
theorem anT:Enters Tryz.prog Pw:=enters_of func187 (by kernel_rfl) rfl
abbrev ab7(g:Nat):Value:= .func (.func 187) #[] #[ptr g]
theorem PG [Env]{R:List ax}{mb:Nat}:bC Tryz.prog 132 [.map (some mb)] [] R
   (fun v L'=> ∃g,v=ab7 g∧L'=[sc g [.map (some mb)] 93]):=by
 intro w hh;have cK:CallsIn Fence.wide 5 Tryz.prog 132 #[.map (some mb)] w fun e w'=>e= .returned (ab7 w.heap.size)∧w'=w.alloc (.cells #[.map (some mb)] 93):=AnyZI.keys_in Tryz.WM Fence.wide 5 trivial rfl (some mb) w
 refine(callsIn_wide.1 cK).mono ?_;rintro e w' ⟨rfl,rfl⟩;exact⟨_,_,rfl,⟨w.heap.size,rfl,rfl⟩,hh.alloc (.cells _ _)⟩
theorem C2 [Env]{R:List ax}{g mb c:Nat}{kv:Kv}(gw:stamped kv c)(hq:uniq kv)(hk: ∀x∈kv,-9223372036854775808≤x.1∧x.1≤9223372036854775807)(hn:kv.length≤2^40):
   bC Tryz.prog 131 [ab7 g] [sc g [.map (some mb)] 93,so mb (.map (cH kv) c)] R
   (zx 3 kv.length 1 (aW (keysOf kv)) [sc g [.map (some mb)] 93,so mb (.map (cH kv) c)]):=by
 intro w hh;have h1:w.heap[g]? =some (.cells #[.map (some mb)] 93 (0,0)):=hh.cells (vs:=[.map (some mb)]) .z;have h2:w.heap[mb]? =some (.map (cH kv) c):=hh.obj (.s .z);have agF:=abY (K:=3) (P:=Tryz.prog) underlying3 h2 gw hq hk hn
 have apN:SeqGives Fence.wide 2 Tryz.prog Pw #[ptr g] encZ (fun ss=>ss.Perm (intKeys (dU kv))) (Maps.size (dU kv)) w:=
   AnyZI.keys_gives (ρ:=Tryz.AT) {Tryz.WM with} Fence.wide _ trivial rfl (by omega) g mb kv.length (dU kv) w (Array.getElem?_eq_some_iff.1 h1).1 (by simp[World.cell?,h1]) agF
 have vD:=Tb kv;have cS:=AnyZI.sorted_in Tryz.Vy Fence.wide 5 trivial trivial trivial trivial rfl (by decide) (Tryz.aco 4) (by rw[show Tryz.pU.f 9=186 from by kernel_rfl];exact anS) Pw #[ptr g] trivial anT _ _ (by rw[vD];simp[maxLen];omega) (by omega) _ apN
 change CallsIn _ _ Tryz.prog 131 _ _ _ at cS
 refine(callsIn_wide.1 cS).mono ?_;rintro e w' ⟨v,ss,rfl,hS,EL,-,hb⟩;have hp:=hS.trans (Ta kv);have hl:ss.length=kv.length:=by simpa using hp.length_eq
 obtain⟨s,rfl,cq,fU⟩:=TN hh hb EL;have he:(ss.mergeSort (fun x y=>decide (x≤y))).map encZ=aW (keysOf kv):=by rw[MA hp];rfl
 rw[he]at cq fU;rw[hl]at cq;exact⟨aG s ss.length,_,rfl,⟨s,by rw[hl],cq,rfl⟩,fU⟩
theorem pending [Env]{R:List ax}{p la m:Nat}{D:az}(hD:D.ok):bC Tryz.prog 70 [ptr p] [eL p la m D,gv m D] R
   (zx 3 D.es.length 1 (aW D.pending) [eL p la m D,gv m D]):=by
 have hle:=Wg hD;refine ag func70 ntmps70 rfl rfl ?_;unfold eL gv;refine gc 9 ?_;refine aA (PG) rfl call132 aZ rfl ?_;rintro v L' ⟨g7,rfl,rfl⟩;refine aA (C2 ?st7 ?un7 ?ks7 ?nn7) rfl call131 aZ rfl ?_
 case st7=>exact pJ hD.born hD.once
 case un7=>exact EU hD.uniq
 case ks7=>intro x hx;obtain⟨y,hy,rfl⟩:=List.mem_map.1 hx;have:=hD.keys y hy;have:=hD.n;dsimp only;omega
 case nn7=>simp[sY];omega
 rintro v L' ⟨s8,rfl,Ve,rfl⟩;rw[show(sY D.es).length=D.es.length by simp[sY]]at*;rw[HW]at*;refine gy 4 ?_;refine aj results70 rfl (L1:=[aD _ _ _,eL p la m _,gv m D]++R) ae ?_;exact⟨_,⟨s8,rfl,Ve,rfl⟩,rfl⟩
end W
end Go.Proofs
namespace Go.Proofs
open _root_.Go.Proofs.Tryz
open Go Go.Sl
namespace W
theorem bD [Env]{R:List ax}{p la m:Nat}{D:az}{kv:Value}{ks:dq}(hD:D.ok)(hk:cE R kv ks.length (dS ks)):
   bC Tryz.prog 35 [ptr p,kv] (BP p la m D) R (Is (.tuple #[]) (BP p la m (D.bD ks))):=by
 have hle:=Wg hD;refine ag func35 ntmps35 rfl rfl ?_;show Sc _ _ _ _ _ (eL p la m D::kP la D::gv m D::R);refine gc 3 ?_;refine aA (pending ?ok2) rfl call70 aZ rfl ?_
 case ok2=>exact hD
 rintro v L' ⟨s8,rfl,Ve,rfl⟩;refine y (bH rfl underlying73 (by assumption)) rfl ?_;refine gy 4 ?_;refine bO (A:=Nat × List Bytes) (fun x=>[(10,i64 x.1),(9,i64 D.es.length),(8,aG s8 D.es.length),(0,ptr p),(1,kv)]) (fun x=>[eL p la m D,sc la (flat x.2) 120,gv m D,aD s8 3 (aW D.pending)]++R) (fun x=>(∀s∈x.2,s.length=144)∧x.2.length=D.l.length∧x.1≤D.es.length∧fb D (D.pending.drop x.1) (ks.drop x.1) x.2=fb D D.pending ks D.l) (fun x=>D.es.length-x.1) ((0,D.l)) ?_ aq ae ?_
 · exact⟨hD.sec,rfl,Nat.zero_le _,rfl⟩
 rintro⟨k,ls⟩ bJ kt cI;obtain⟨Jz,oI,TZ,B9⟩:=bJ;dsimp only at Jz oI TZ B9 ⊢;unfold eL gv;have hp8:cE [aD s8 3 (aW D.pending)] (aG s8 D.es.length) D.es.length (aW D.pending):=bG .z Ve;refine gc 5 ?_;refine cc rfl (fun h6=>?_) (fun h6=>?_)
 ·obtain⟨i,s,o0,hi,hs,HA,oO,fg,-⟩:=Q8 hD (k:=k) (by omega);obtain⟨old,ho⟩:=BF HA (oI▸oO);have ho1:=Jz _ (List.mem_of_getElem? ho);refine gc 6 ?_;refine y (aK (by assumption) rfl rfl underlying73 sizeOf3 (by omega) (by omega)) rfl ?_;refine y (au k hp8 ae rfl isAgg3 (by simp) (dk hi)) rfl ?_;refine gy 8 ?_;refine y (bu rfl underlying35 (cE.bo (by assumption))) rfl ?_;refine gy 3 ?_;refine cc rfl (fun nf=>?_) (fun nf=>?_)
  ·have Ca:fb D D.pending ks D.l=ls:=by rw[←B9,show ks.drop k=[]from List.drop_eq_nil_of_le (by omega),kz]
   refine gc 9 ?_;refine bK (up) call71 ?_;refine gy 1 ?_;refine aN results35 (L1:=[sc p _ _,sc la _ _,so m _]++R) ae ?_;exact⟨_,⟨by simp[az.bD,az.up,eL,kP,gv, *],rfl⟩,by simp[az.bD,az.up,eL,kP,gv, *]⟩
  obtain⟨x,hx⟩: ∃x,ks[k]? =some x:=⟨_,List.getElem?_eq_getElem (by omega)⟩;obtain⟨SK,hx2⟩:=yh ks k x hx;have gw:=DK hi hx hs ho B9;refine gc 8 ?_;refine y (G3 (by rw[Cs,hs];rfl) rfl rfl underlying93 underlying3 zeroValue120 aL) rfl ?_;refine ya (aB (vs:=av g8) zeroValue120 Tryz.zc) rfl ?_;rintro v L' ⟨b6,rfl,rfl⟩;refine bA (ai rfl rfl (by exact cL _) sizeOf120 bc (by simp[*]) (by rfl)) ?_;refine gy 5 ?_;refine y (aK (by assumption) rfl rfl underlying35 sizeOf81 (by omega) (by omega)) rfl ?_;refine gy 1 ?_;refine y (au (k*2) hk ae rfl isAgg3 (by simp) SK) rfl ?_;refine gy 8 ?_;refine cc rfl (fun Eh=>?_) (fun Eh=>?_)
  ·refine aS 7 (od [] 7 0) (_) Tryz.mixed (by kernel_rfl) .refl ?_;refine gh 5 ?_;refine hr rfl (ak rfl isAgg120 sizeOf120 aL (by simp[*])) rfl ?_;refine hr rfl (iz rfl rfl underlying92 sizeOf120 (by omega) (by omega)) rfl ?_;refine gh 1 ?_;refine Xf (aP (vs':=flat (ls.set i.toNat s)) rfl rfl (cL _) sizeOf120 bc (by simp[fg]) (by rw[mj Jz];omega) (by rw[Nat.zero_add];exact sJ Jz (by omega))) ?_;rintro v L' ⟨rfl,rfl⟩;refine gy 6 ?_;rw[show IntKind.i64.wrap ((k:Int)+1)=((k+1:Nat):Int)by rw[wr (by omega) (by omega)];rfl];refine gy 3 ?_;exact cI (k+1,ls.set i.toNat s) ⟨wY Jz fg,by simpa using oI,by dsimp only;omega,by rwa[Uo (by assumption)]at gw⟩ (by dsimp only;omega) _ _ aq ae
  refine gc 5 ?_;refine cc rfl (fun TE=>?_) (fun TE=>?_)
  ·refine aS 15 (od [] 15 0) (_) Tryz.mixed (by kernel_rfl) .refl ?_;refine gh 5 ?_;refine hr rfl (iz rfl rfl underlying92 sizeOf120 (by omega) (by omega)) rfl ?_;refine hr rfl (iJ rfl underlying120 sizeOf5) rfl ?_;refine gh 2 ?_;refine hr rfl (aK (by assumption) rfl rfl underlying35 sizeOf81 (by omega) (by omega)) rfl ?_;refine gh 1 ?_;refine hr rfl (au (k*2+1) hk ae rfl isAgg3 (by simp;omega) hx2) rfl ?_;refine hr rfl (mK rfl rfl) rfl ?_;refine hr rfl (xF rfl rfl) rfl ?_;refine hr rfl (Tn rfl rfl underlying120 sizeOf5 (by omega) (by omega)) rfl ?_;refine gh 1 ?_;refine ya (Dv (bs:=s.take (pV x.2)) (k:=pV x.2) (vs':=flat (ls.set i.toNat (s.take (pV x.2)++old.drop (pV x.2)))) rfl rfl underlying55 sizeOf5 ?asE ?aqe bc ?afe ?anU) rfl ?_
   case asE=>exact Ro fg aL
   case aqe=>have:=w7 x.2;simp[fg];omega
   case afe=>have:=w7 x.2;rw[mj Jz];omega
   case anU=>rw[Nat.zero_add];exact KX Jz ho fg (w7 _)
   rintro v L' ⟨rfl,rfl⟩;refine gy 6 ?_;rw[show IntKind.i64.wrap ((k:Int)+1)=((k+1:Nat):Int)by rw[wr (by omega) (by omega)];rfl];refine gy 3 ?_;exact cI (k+1,ls.set i.toNat (s.take (pV x.2)++old.drop (pV x.2))) ⟨wY Jz (by simp[fg,ho1];unfold pV;omega),by simpa using oI,by dsimp only;omega,by rwa[Uq (by assumption)]at gw⟩ (by dsimp only;omega) _ _ aq ae
  refine gc 6 ?_;rw[show IntKind.i64.wrap ((k:Int)+1)=((k+1:Nat):Int)by rw[wr (by omega) (by omega)];rfl];refine gy 3 ?_;exact cI (k+1,ls) ⟨Jz,oI,by dsimp only;omega,by rwa[Ur (by assumption) (by assumption),RC ho]at gw⟩ (by dsimp only;omega) _ _ aq ae
 have Ca:fb D D.pending ks D.l=ls:=by rw[←B9,show D.pending.drop k=[]from List.drop_eq_nil_of_le (by rw[pQ];omega),gD]
 refine gc 7 ?_;refine bK (up) call71 ?_;refine gy 1 ?_;refine aN results35 (L1:=[sc p _ _,sc la _ _,so m _]++R) ae ?_;exact⟨_,⟨by simp[az.bD,az.up,eL,kP,gv, *],rfl⟩,by simp[az.bD,az.up,eL,kP,gv, *]⟩
abbrev Q3:=Nat × Nat × Nat
def dev(q:Q3)(D:az):ax:=eL q.1 q.2.1 q.2.2 D++kP q.2.1 D++gv q.2.2 D
abbrev dp(q:Q3):Value:=ptr q.1
abbrev jx:Value:= .pointer none
theorem BQ{q:Q3}{D:az}{R:List ax}:([dev q D]++R).flatten.Perm (BP q.1 q.2.1 q.2.2 D++R).flatten:=by simp[dev]
theorem sA{q:Q3}{D:az}{R:List ax}:(BP q.1 q.2.1 q.2.2 D++R).flatten.Perm ([dev q D]++R).flatten:=BQ.symm
theorem DS{q:Q3}{D:az}{R:List ax}:([dev q D]++R).flatten.Perm ([eL q.1 q.2.1 q.2.2 D,gv q.2.2 D]++(kP q.2.1 D::R)).flatten:=by
 simp only[dev,List.cons_append,List.nil_append,List.flatten_cons,List.append_assoc];exact List.Perm.append_left _ (List.perm_append_comm_assoc _ _ _)
theorem p9{q:Q3}{D:az}{R:List ax}:([dev q D]++R).flatten.Perm ([eL q.1 q.2.1 q.2.2 D]++(kP q.2.1 D::gv q.2.2 D::R)).flatten:=by
 simp[dev]
theorem Rw [Env]{R:List ax}{n:Nat}(hn:n≤512):bC Tryz.prog 18 [i64 n] [] R (fun v L'=> ∃q,v=dp q∧L'=[dev q (az.new n)]):=
 (new hn).via (List.Perm.refl _) (fun _ _ ⟨p,la,m,h1,h2⟩=>⟨_,⟨(p,la,m),h1,rfl⟩,h2▸sA (q:=(p,la,m))⟩)
theorem Mt [Env]{R:List ax}{n:Int}(hn:n<0∨512<n):bC Tryz.prog 18 [i64 n] [] R (Is jx []):=by
 refine ag func18 ntmps18 rfl rfl ?_;refine gc 9 ?_;refine cv 5 rfl (fun h5=>?_) (fun h5=>?_)
 ·refine gy 12 ?_;refine aj results18 rfl (L1:=_) ae ?_;exact⟨_,⟨by rfl,rfl⟩,by rfl⟩
 refine gy 5 ?_;refine cc rfl (fun zK=>?_) (fun zK=>?_)
 ·refine gc 6 ?_;refine aj results18 rfl (L1:=_) ae ?_;exact⟨_,⟨by rfl,rfl⟩,by rfl⟩
 exfalso;omega
theorem lW [Env]{R:List ax}{q:Q3}{D:az}{i:Int}{bv:Value}{bs:Bytes}(hD:D.ok)(hb:Da R bv bs):
   bC Tryz.prog 21 [dp q,i64 i,bv] [dev q D] R (Is (i64 (D.write i bs).1) [dev q (D.write i bs).2]):=
 (write hD (hb.mono (.drop .refl))).via DS (fun _ _ ⟨h1,h2⟩=>⟨_,⟨h1,rfl⟩,h2▸(by rw[show kP q.2.1 D=kP q.2.1 (D.write i bs).2 by unfold kP;rw[kq]];exact DS.symm)⟩)
theorem rP [Env]{R:List ax}{q:Q3}{D:az}(hD:D.ok):bC Tryz.prog 93 [dp q] [dev q D] R (Is (i64 D.aJ.1) [dev q D.aJ.2]):=
 (aJ hD).via BQ (fun _ _ ⟨h1,h2⟩=>⟨_,⟨h1,rfl⟩,h2▸sA⟩)
theorem FH [Env]{R:List ax}{q:Q3}{D:az}{kv:Value}{ks:dq}(hD:D.ok)(hk:cE R kv ks.length (dS ks)):bC Tryz.prog 35 [dp q,kv] [dev q D] R (Is (.tuple #[]) [dev q (D.bD ks)]):=
 (bD hD hk).via BQ (fun _ _ ⟨h1,h2⟩=>⟨_,⟨h1,rfl⟩,h2▸sA⟩)
theorem Ki [Env]{R:List ax}{q:Q3}{D:az}{i:Int}:bC Tryz.prog 29 [dp q,i64 i] [dev q D] R (Is (.tuple #[]) [dev q (D.gZ i)]):=
 gZ.via p9 (fun _ _ ⟨h1,h2⟩=>⟨_,⟨h1,rfl⟩,h2▸p9.symm⟩)
theorem Vp [Env]{R:List ax}{q:Q3}{D:az}:bC Tryz.prog 75 [dp q] [dev q D] R (Is (.bool D.dead) [dev q D]):=
 dead.via p9 (fun _ _ ⟨h1,h2⟩=>⟨_,⟨h1,rfl⟩,h2▸p9.symm⟩)
theorem oy [Env]{R:List ax}{q:Q3}{D:az}:bC Tryz.prog 46 [dp q] [dev q D] R (Is (i64 D.l.length) [dev q D]):=
 ek.via p9 (fun _ _ ⟨h1,h2⟩=>⟨_,⟨h1,rfl⟩,h2▸p9.symm⟩)
theorem Vq [Env]{R:List ax}{q:Q3}{D:az}{i:Int}(hD:D.ok):bC Tryz.prog 76 [dp q,i64 i] [dev q D] R (VZ D i [dev q D]):=
 (read hD).via BQ (fun _ _ h=>h.elim (fun⟨h0,h1,h2⟩=>⟨_,.inl ⟨h0,h1,rfl⟩,h2▸sA⟩) (fun⟨h0,s,h1,h2,h3⟩=>⟨_,.inr ⟨h0,s,h1,h2,rfl⟩,h3▸(by
   simp only[List.cons_append,List.flatten_cons];exact List.Perm.append_left _ (by simpa using sA))⟩))
abbrev S4:Value:= .iface 162 (.agg #[])
abbrev rL(p:Nat)(v:Value):ax:=sc p [v] 165
theorem Ji [Env]{R:List ax}{p:Nat}{v:Value}{bs:Bytes}{k:Int}(hb:oD R v bs)(h0:0≤k):
   Gn Tryz.prog 142 [ptr p,i64 k] [rL p v] R (fun u L'=>k≤bs.length∧u=qB v 0 k.toNat 1∧L'=[rL p (qB v k.toNat bs.length 1)]) S4 (fun L'=>(bs.length:Int)<k∧L'=[rL p v]):=by
 have hv:=hb.rd;refine rf func142 ntmps142 rfl rfl ?_;refine vk 1 ?_;refine iS ?_;intro K2 gM;refine cy 5 ?_;refine y (bu rfl underlying55 (cE.bo (by assumption))) rfl ?_;refine yn 1 ?_;refine cc rfl (fun h9=>?_) (fun h9=>?_)
 ·refine uq ?_;refine y (bU rfl) rfl ?_;refine y (dW rfl (by kernel_rfl)) rfl ?_;refine rX rfl ?_;refine ln ?_;refine z8 (L1:=[sc p _ 165]++R) ae ?_;exact⟨_,⟨by omega,rfl⟩,rfl⟩
 refine dE (eB (gM _ _ ?_));clear gM;refine cy 5 ?_;refine y (wQ hv hb.cap rfl rfl underlying55 sizeOf5 (by omega) (by omega)) rfl ?_;refine yn 1 ?_;refine cy 6 ?_;refine y (mi hv rfl rfl underlying55 sizeOf5 (by omega) (by omega)) rfl ?_;refine yr 2 ?_;refine bA (an rfl rfl (VP hv.bo) sizeOf55 bc rfl rfl) ?_;refine Nd ?_;refine vk 2 ?_;refine qE ?_;refine Cr results142 rfl (L1:=[sc p _ 165]++R) ae ?_;exact⟨_,⟨by omega,rfl,rfl⟩,rfl⟩
end W
end Go.Proofs
namespace Go.Sl
theorem fA{D:az}:D.aJ.2.l.length=D.l.length:=by
 unfold az.aJ;split
 ·rfl
 ·split
  · rw[Jb]
  · simp
theorem KQ{es:Es}{k:Int}(h: ¬we es k=true):es.find? (fun x=>decide (x.1=k))=none:=by
 rw[List.find?_eq_none];intro x hx hd;exact h (List.any_eq_true.2 ⟨x,hx,hd⟩)
theorem KR{es:Es}{k:Int}(s:Bytes)(h:we es k=true):ix (zI es k s) k=some s:=by
 unfold ix zI
 induction es with
 |nil=>simp[we]at h
 |cons x es ih=>
  by_cases e:x.1=k
  ·simp[e]
  ·rw[List.map_cons,if_neg e,List.find?_cons_of_neg (by simpa using e)];refine ih ?_;unfold we at h ⊢;rw[List.any_cons]at h;simpa[e]using h
theorem G1(es:Es){k i:Int}(s:Bytes)(hk:k≠i):ix (zI es k s) i=ix es i:=by
 unfold ix zI
 induction es with
 |nil=>rfl
 |cons x es ih=>
  by_cases e:x.1=k
  ·rw[List.map_cons,if_pos e,List.find?_cons_of_neg (by simpa using hk),List.find?_cons_of_neg (by simp;omega)];exact ih
  ·rw[List.map_cons,if_neg e]
   by_cases e2:x.1=i
   ·rw[List.find?_cons_of_pos (by simpa using e2),List.find?_cons_of_pos (by simpa using e2)]
   ·rw[List.find?_cons_of_neg (by simpa using e2),List.find?_cons_of_neg (by simpa using e2)];exact ih
theorem po(es:Es)(c:Nat)(k:Int)(s:Bytes):ix (xD es c k s) k=some s:=by
 unfold xD
 by_cases h:we es k=true
 ·rw[if_pos h];exact KR s h
 ·rw[if_neg h];unfold ix;rw[List.find?_append,KQ h];simp
theorem ja(es:Es)(c:Nat){k i:Int}(hk:k≠i)(s:Bytes):ix (xD es c k s) i=ix es i:=by
 unfold xD
 by_cases h:we es k=true
 ·rw[if_pos h];exact G1 es s hk
 ·rw[if_neg h];unfold ix;rw[List.find?_append];cases es.find? (fun x=>decide (x.1=i))with
  |none=>simp[hk]
  |some x=>simp
theorem mA: ∀{es:Es} {ls:List Bytes} {i:Int},(es.map (·.1)).Nodup→(∀x∈es,0≤x.1)→0≤i→i<ls.length→
  (eQ es ls)[i.toNat]? =(ix es i).or (ls[i.toNat]?)
 | [],ls,i,_,_,_,_=>by simp[eQ,ix]
 |x::es,ls,i,hn,hp,h0,h1=>by
  have hn':=List.nodup_cons.1 hn;rw[jJ,mA hn'.2 (fun y hy=>hp y (by simp[hy])) h0 (by simpa using h1)];have hx:=hp x (by simp);unfold ix
  by_cases e:x.1=i
  ·subst e
   have:es.find? (fun y=>decide (y.1=x.1))=none:=by
    rw[List.find?_eq_none];intro y hy hd;exact hn'.1 (List.mem_map.2 ⟨y,hy,by simpa using hd⟩)
   rw[this,List.find?_cons_of_pos (by simp)];simp[show x.1.toNat<ls.length by omega]
  ·rw[List.find?_cons_of_neg (by simpa using e),List.getElem?_set_ne (by omega)]
structure Up(D:az)(n:Nat):Prop where
 ok:D.ok
 len:D.l.length=n
 live:D.dead=false
 dA:D.dA= -1
theorem Up.act{D:az}{n:Nat}(h:Up D n):D.act=(0,D):=by
 unfold az.act;rw[if_neg (by rw[h.dA];decide),if_neg (by rw[h.dA];decide)]
theorem Up.has{D:az}{n:Nat}(h:Up D n)(i:Int):D.has i=if i<0∨(n:Int)≤i then 2 else 0:=by
 unfold az.has;rw[if_neg (by rw[h.live];decide),h.len]
theorem Up.write{D:az}{n:Nat}(h:Up D n)(i:Int)(bs:Bytes):
  D.write i bs=if i<0∨(n:Int)≤i then(2,D)else if(144:Int)<bs.length then(3,D)else(0,{D with es:=xD D.es D.wN i (pad bs),wN:=GZ D.es D.wN i}):=by
 unfold az.write;rw[h.has,h.act]
 by_cases h1:i<0∨(n:Int)≤i
 ·simp[h1]
 ·by_cases h2:(144:Int)<bs.length
  · simp[h1,h2]
  · simp[h1,h2]
theorem Up.Sf{D:az}{n:Nat}(h:Up D n)(i:Int)(bs:Bytes):Up (D.write i bs).2 n:=by
 have hw:=h.write i bs;refine⟨az.jN h.ok i bs,by rw[kq];exact h.len,?_,?_⟩
 · rw[hw];split<;>(try split)<;>exact h.live
 · rw[hw];split<;>(try split)<;>exact h.dA
theorem Up.aJ{D:az}{n:Nat}(h:Up D n):D.aJ=(0,{D with l:=eQ D.es D.l,es:=[]}):=by
 unfold az.aJ;rw[if_neg (by rw[h.live];decide),h.act];simp
theorem Up.GG{D:az}{n:Nat}(h:Up D n):Up D.aJ.2 n:=by
 have hw:=h.aJ;refine⟨az.gA h.ok,by rw[fA];exact h.len,?_,?_⟩
 · rw[hw];exact h.live
 · rw[hw];exact h.dA
theorem sv{D:az}(h:D.ok)(ks:dq):Up (D.bD ks) D.l.length:=
 ⟨az.xx h ks,by simp[az.bD,km],rfl,rfl⟩
theorem Up.wG{D:az}{n:Nat}(h:Up D n){i j:Int}(Jy:j≠i)(bs:Bytes):(D.write j bs).2.sec i=D.sec i:=by
 rw[h.write];split
 ·rfl
 ·split
  ·rfl
  ·unfold az.sec;simp only;rw[ja _ _ Jy]
theorem Up.y4{D:az}{n:Nat}(h:Up D n){i:Int}{bs:Bytes}(h0:(D.write i bs).1=0):(D.write i bs).2.sec i=pad bs∧0≤i∧i<n∧bs.length≤144:=by
 rw[h.write]at h0 ⊢;split at h0
 ·simp at h0
 ·rename_i h1
  split at h0
  ·simp at h0
  ·rename_i h2
   rw[if_neg h1,if_neg h2];unfold az.sec;simp only;rw[po];exact⟨rfl,by omega,by omega,by omega⟩
theorem Up.vT{D:az}{n:Nat}(h:Up D n){i:Int}(h0:0≤i)(h1:i<n):D.aJ.2.sec i=D.sec i:=by
 rw[h.aJ];unfold az.sec;simp only;rw[mA h.ok.uniq (fun x hx=>(h.ok.keys x hx).1) h0 (by rw[h.len];exact h1)];cases ix D.es i with
 |none=>rfl
 |some s=>rfl
theorem Ai{D:az}(he:D.es=[])(ks:dq)(i:Int):(D.bD ks).sec i=D.sec i:=by
 have hp:D.pending=[]:=by simp[az.pending,he]
 unfold az.sec az.bD;simp only[hp,gD,he]
theorem DL(D:az)(ks:dq):(D.bD ks).es=[]:=rfl
theorem GF{D:az}{n:Nat}(hU:Up D n):D.aJ.2.es=[]:=by rw[hU.aJ]
end Go.Sl
namespace Go.Sl
theorem yZ{D:az}(h:D.es=[])(i:Int):D.sec i=(D.l[i.toNat]?).getD g8:=by
 unfold az.sec;rw[h];rfl
theorem sm{D:az}{i:Int}: ∀(is:List Int) (ks:dq) (ls:List Bytes),(∀j∈is,j.toNat≠i.toNat)→(fb D is ks ls)[i.toNat]? =ls[i.toNat]?
 | [],ks,ls,_=>by rw[gD]
 |j::is,[],ls,_=>rfl
 |j::is,x::ks,ls,h=>by
  simp only[fb];rw[sm is ks _ (fun y hy=>h y (by simp[hy])),List.getElem?_set_ne (h j (by simp))]
theorem wF{D:az}(hD:D.ok){ks:dq}{i:Int}(HA:0≤i)(h:i∉D.pending):(D.bD ks).sec i=(D.l[i.toNat]?).getD g8:=by
 rw[yZ (DL D ks)];unfold az.bD;simp only
 rw[sm _ _ _ (fun j hj=>by
  obtain⟨y,hy,e⟩:=List.mem_map.1 ((List.mergeSort_perm _ _).mem_iff.1 hj);have:=(hD.keys y hy).1;have:j≠i:=fun e=>h (e▸hj)
  omega)]
theorem lL{s:Bytes}{k:Nat}(h:k<s.length):(av s)[k]? =some (.int .u8 (s[k]?.getD 0).toNat):=by
 simp[av,h]
section
variable {P : Program} {n : Nat} {l : List (Nat × Value)} {L : List ax} {d : Option Tmp} {ty : TypeId} {pos : String} {af : Array Edge} {g : Option (Nat × Bool)}
end
end Go.Sl
namespace Go.Sl
end Go.Sl