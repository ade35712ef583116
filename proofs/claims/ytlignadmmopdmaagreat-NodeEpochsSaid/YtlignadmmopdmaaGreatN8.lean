/- A part of the proof. -/
import Derived.Test.YtlignadmmopdmaaGreatUn
import Derived.Test.YtlignadmmopdmaaGreatN5
set_option linter.unusedVariables false
set_option linter.unusedSimpArgs false
set_option linter.constructorNameAsVariable false
namespace Go.Proofs
open _root_.Go.Proofs.Tryz
open Go Go.Sl
namespace W
set_option maxHeartbeats 1000000
theorem P7 [Env]{R:List ax}{F:NF}{V:NV}{n:aa}:bC Tryz.prog 169 [ptr F.p] [bB F V n,cU F.A n.c] R (Is (.agg (qL n.table).toArray) [bB F V n,cU F.A n.c]):=by
 refine ag func169 ntmps169 rfl rfl ?_;unfold bB;refine gc 1 ?_;refine ya (aB zeroValue32 rfl) rfl ?_;rintro v L' ⟨b2,rfl,rfl⟩;refine gy 2 ?_;refine bq ?_;intro K2 gM;refine gc 4 ?_
 have fQ: ∀x:Nat,((x≤4)∧(x=4))→Sk 17 K2 ([(4,i64 x),(2,ptr b2),(0,ptr F.p)]) ([sc b2 (IW n.c.k x) 32,bB F V n,cU F.A n.c]++R):=by
  rintro k ⟨bJ,eK⟩;refine gM _ _ ?_;have hk:=bJ;unfold bB;subst eK;refine gc 1 ?_;refine y (ay (u:=qL n.table) rfl isAgg32 sizeOf32 aL rfl rfl) rfl ?_;refine bA (aP (vs':=qL n.table) rfl rfl (by simp[Value.oneCell']) sizeOf32 bc rfl (by simp[IW]) rfl) ?_;refine gy 3 ?_;refine yk results169 rfl isAgg32 sizeOf32 aL (rfl) (L1:=[bB F V n,cU F.A n.c]++R) ae ?_;exact⟨_,⟨by rfl,rfl⟩,by rfl⟩
 clear gM;refine gc 1 ?_;refine bO (A:=Nat) (fun x=>[(4,i64 x),(2,ptr b2),(0,ptr F.p)]) (fun x=>[sc b2 (IW n.c.k x) 32,bB F V n,cU F.A n.c]++R) (fun x=>x≤4) (fun x=>4-x) (0) ?_ aq ae ?_
 · exact Nat.zero_le _
 rintro k bJ kt cI;have cC:=bJ;have hk:=bJ;unfold bB;refine gc 5 ?_;refine cc rfl (fun h6=>?_) (fun h6=>?_)
 ·have hk4:k<4:=by omega
  refine gc 16 ?_;refine bK (sX) call98 ?_;refine y (dR rfl rfl underlying32 sizeOf2 (by omega) (by omega)) rfl ?_;refine bA (an (vs':=IW n.c.k (k+1)) rfl rfl rfl sizeOf2 bc (by simp[IW];omega) (by rw[show 0+(k:Int).toNat*1=k by simp];exact RT hk4)) ?_;refine gy 5 ?_;rw[show IntKind.i64.wrap ((k:Int)+1)=((k+1:Nat):Int)by rw[wr (by omega) (by omega)];rfl];refine gy 3 ?_;exact cI (k+1) (by omega) (by omega) _ _ aq ae
 refine gc 5 ?_;exact aV aq ae (fQ k ⟨cC,by omega⟩)
theorem PX [Env]{R:List ax}{F:NF}{V:NV}{n:aa}:bC Tryz.prog 180 [ptr F.p] [bB F V n,cU F.A n.c] R (Is (.tuple #[]) [bB F V n.leads,cU F.A n.c]):=by
 refine ag func180 ntmps180 rfl rfl ?_;refine gc 4 ?_;refine bK (P7) call169 ?_;unfold bB;refine gy 3 ?_;refine bA (an rfl rfl (by rfl) sizeOf3 bc rfl rfl) ?_;refine gy 2 ?_;refine bA (aP (us:=qL n.table) (vs':=[i64 n.id,i64 n.serial,i64 n.lease,i64 n.patience,i64 n.blocks,ptr F.pf,ptr F.pl,ptr F.A.p,i64 n.left,.bool n.down,.bool n.lost,i64 n.ah,i64 n.mask,i64 n.clock,i64 n.born,i64 n.change,i64 n.table.a,i64 n.table.b,i64 n.table.c,i64 n.table.d,i64 n.fj.a,i64 n.fj.b,i64 n.fj.c,i64 n.fj.d,i64 n.cT,aG V.out n.out.length,i64 3,i64 n.want,i64 n.cm,i64 n.quiet,aG V.sw n.waits.length,ptr V.ps]) rfl rfl (by simp[Value.oneCell']) sizeOf32 bc rfl (by simp) rfl) ?_;refine gy 1 ?_;refine aN results180 (L1:=[sc F.p _ 106,cU F.A n.c]++R) ae ?_;exact⟨_,⟨rfl,rfl⟩,rfl⟩
theorem WT [Env]{R:List ax}{F:NF}{V:NV}{n:aa}{t:T4}:bC Tryz.prog 165 [ptr F.p,.agg (qL t).toArray] [bB F V n,cU F.A n.c] R (Is (.bool (n.more t)) [bB F V n,cU F.A n.c]):=by
 refine ag func165 ntmps165 rfl rfl ?_;unfold bB;refine gc 1 ?_;refine ya (a7 (vs:=qL t) rfl rfl) rfl ?_;rintro v L' ⟨b3,rfl,rfl⟩;refine gy 3 ?_;refine bq ?_;intro K2 gM;refine gc 1 ?_;refine y (ay (u:=qL t) rfl isAgg32 sizeOf32 aL rfl rfl) rfl ?_;refine gy 3 ?_
 have fQ: ∀x:Nat,((x≤4∧noM n.c.k t x)∧(x=4))→Sk 21 K2 ([(8,i64 x),(7,.agg (qL t).toArray),(0,ptr F.p)]) ([bB F V n,cU F.A n.c]++R):=by
  rintro k ⟨bJ,eK⟩;refine gM _ _ ?_;obtain⟨hk,eF⟩:=bJ;unfold bB;subst eK;have hm:=UF (n:=n) eF;refine gc 5 ?_;refine aj results165 rfl (L1:=[sc F.p _ 106,cU F.A n.c]++R) ae ?_;rw[hm];exact⟨_,⟨rfl,rfl⟩,rfl⟩
 clear gM;refine gc 1 ?_;refine bO (A:=Nat) (fun x=>[(8,i64 x),(7,.agg (qL t).toArray),(0,ptr F.p)]) (fun x=>[bB F V n,cU F.A n.c]++R) (fun x=>x≤4∧noM n.c.k t x) (fun x=>4-x) (0) ?_ aq ae ?_
 · exact⟨Nat.zero_le _,Qo _ _⟩
 rintro k bJ kt cI;have cC:=bJ;obtain⟨hk,eF⟩:=bJ;unfold bB;refine gc 5 ?_;refine cc rfl (fun zN=>?_) (fun zN=>?_)
 ·refine gc 6 ?_;refine y (wP rfl rfl underlying32 isAgg2 sizeOf2 (by omega) (by omega) (RS t (k:=k) (by omega))) rfl ?_;refine gy 11 ?_;refine bK (sX) call98 ?_;refine gy 3 ?_;refine cc rfl (fun OG=>?_) (fun OG=>?_)
  ·have hm:=PK (n:=n) (t:=t) (k:=k) (by omega) (by assumption);refine gc 10 ?_;refine aj results165 rfl (L1:=[sc F.p _ 106,cU F.A n.c]++R) ae ?_;rw[hm];exact⟨_,⟨rfl,rfl⟩,rfl⟩
  have j7:=Qn eF (by assumption);refine gc 5 ?_;rw[show IntKind.i64.wrap ((k:Int)+1)=((k+1:Nat):Int)by rw[wr (by omega) (by omega)];rfl];refine gy 3 ?_;exact cI (k+1) (⟨by omega,j7⟩) (by omega) _ _ aq ae
 refine gc 5 ?_;exact aV aq ae (fQ k ⟨cC,by omega⟩)
theorem ahW [Env]{R:List ax}{F:NF}{V:NV}{n:aa}{t:T4}:bC Tryz.prog 210 [ptr F.p,.agg (qL t).toArray] [bB F V n,cU F.A n.c] R (Is (.bool (n.less t)) [bB F V n,cU F.A n.c]):=by
 refine ag func210 ntmps210 rfl rfl ?_;unfold bB;refine gc 1 ?_;refine ya (a7 (vs:=qL t) rfl rfl) rfl ?_;rintro v L' ⟨b3,rfl,rfl⟩;refine gy 3 ?_;refine bq ?_;intro K2 gM;refine gc 1 ?_;refine y (ay (u:=qL t) rfl isAgg32 sizeOf32 aL rfl rfl) rfl ?_;refine gy 3 ?_
 have fQ: ∀x:Nat,((x≤4∧noL n.c.k t x)∧(x=4))→Sk 21 K2 ([(8,i64 x),(7,.agg (qL t).toArray),(0,ptr F.p)]) ([bB F V n,cU F.A n.c]++R):=by
  rintro k ⟨bJ,eK⟩;refine gM _ _ ?_;obtain⟨hk,eF⟩:=bJ;unfold bB;subst eK;have hm:=Uy (n:=n) eF;refine gc 5 ?_;refine aj results210 rfl (L1:=[sc F.p _ 106,cU F.A n.c]++R) ae ?_;rw[hm];exact⟨_,⟨rfl,rfl⟩,rfl⟩
 clear gM;refine gc 1 ?_;refine bO (A:=Nat) (fun x=>[(8,i64 x),(7,.agg (qL t).toArray),(0,ptr F.p)]) (fun x=>[bB F V n,cU F.A n.c]++R) (fun x=>x≤4∧noL n.c.k t x) (fun x=>4-x) (0) ?_ aq ae ?_
 · exact⟨Nat.zero_le _,Qm _ _⟩
 rintro k bJ kt cI;have cC:=bJ;obtain⟨hk,eF⟩:=bJ;unfold bB;refine gc 5 ?_;refine cc rfl (fun TG=>?_) (fun TG=>?_)
 ·refine gc 6 ?_;refine y (wP rfl rfl underlying32 isAgg2 sizeOf2 (by omega) (by omega) (RS t (k:=k) (by omega))) rfl ?_;refine gy 11 ?_;refine bK (sX) call98 ?_;refine gy 3 ?_;refine cc rfl (fun OI=>?_) (fun OI=>?_)
  ·have hm:=PA (n:=n) (t:=t) (k:=k) (by omega) (by assumption);refine gc 10 ?_;refine aj results210 rfl (L1:=[sc F.p _ 106,cU F.A n.c]++R) ae ?_;rw[hm];exact⟨_,⟨rfl,rfl⟩,rfl⟩
  have j7:=Ql eF (by assumption);refine gc 5 ?_;rw[show IntKind.i64.wrap ((k:Int)+1)=((k+1:Nat):Int)by rw[wr (by omega) (by omega)];rfl];refine gy 3 ?_;exact cI (k+1) (⟨by omega,j7⟩) (by omega) _ _ aq ae
 refine gc 5 ?_;exact aV aq ae (fQ k ⟨cC,by omega⟩)
def wrP(V:NV)(n:aa)(b:Int):Value:=match aa.bY n.waits b with
 |none=> .pointer none
 |some i=> .pointer (some ⟨sB (aG V.sw n.waits.length),i*7,none⟩)
theorem jF [Env]{R:List ax}{F:NF}{V:NV}{n:aa}{b:Int}(hw:R8 V n)(hl:n.waits.length≤1000000):
   bC Tryz.prog 100 [ptr F.p,i64 b] [bB F V n,iK V n] R (Is (wrP V n b) [bB F V n,iK V n]):=by
 have jt:cE [iK V n] (aG V.sw n.waits.length) n.waits.length (a6 n.waits):=bG .z hw;have LF:sO (aG V.sw n.waits.length)=0:=by cases V.sw<;>rfl
 refine ag func100 ntmps100 rfl rfl ?_;unfold bB;refine gc 4 ?_;refine bq ?_;intro K2 gM;refine gc 6 ?_;refine y (bH rfl underlying101 (by assumption)) rfl ?_;refine gy 3 ?_
 have fQ: ∀x:Nat,((x≤n.waits.length∧noW n.waits b x)∧(x=n.waits.length))→Sk 38 K2 ([(13,i64 x),(12,i64 n.waits.length),(1,i64 b),(0,ptr F.p)]) ([bB F V n,iK V n]++R):=by
  rintro k ⟨bJ,eK⟩;refine gM _ _ ?_;obtain⟨hk,eF⟩:=bJ;unfold bB;subst eK;have hm:wrP V n b= .pointer none:=by unfold wrP;rw[zr eF]
  refine gc 5 ?_;refine aj results100 rfl (L1:=[sc F.p _ 106,iK V n]++R) ae ?_;rw[hm];exact⟨_,⟨rfl,rfl⟩,rfl⟩
 clear gM;refine gc 1 ?_;refine bO (A:=Nat) (fun x=>[(13,i64 x),(12,i64 n.waits.length),(1,i64 b),(0,ptr F.p)]) (fun x=>[bB F V n,iK V n]++R) (fun x=>x≤n.waits.length∧noW n.waits b x) (fun x=>n.waits.length-x) (0) ?_ aq ae ?_
 · exact⟨Nat.zero_le _,Qp _ _⟩
 rintro k bJ kt cI;have cC:=bJ;obtain⟨hk,eF⟩:=bJ;unfold bB;refine gc 5 ?_;refine cc rfl (fun MX=>?_) (fun MX=>?_)
 ·refine gc 5 ?_;obtain⟨w,Uh⟩: ∃w,n.waits[k]? =some w:=⟨_,List.getElem?_eq_getElem (by omega)⟩;refine gy 11 ?_;refine y (aK jt rfl rfl underlying101 sizeOf177 (by omega) (by omega)) rfl ?_;rw[show sO (aG V.sw n.waits.length)+(k:Int).toNat*7=k*7 by rw[LF];simp];refine gy 7 ?_;refine y (au (k*7+2) jt ae rfl isAgg3 (by rw[LF];omega) (xH kJ Uh rfl)) rfl ?_;refine gy 2 ?_;refine cv 28 rfl (fun rl=>?_) (fun rl=>?_)
  ·refine gy 3 ?_;refine bV ?_;refine y (au (k*7+3) jt ae rfl isAgg3 (by rw[LF];omega) (xH kJ Uh rfl)) rfl ?_;refine gy 5 ?_;refine cc rfl (fun zL=>?_) (fun zL=>?_)
   ·refine gc 1 ?_;have hm:wrP V n b= .pointer (some ⟨sB (aG V.sw n.waits.length),k*7,none⟩):=by unfold wrP;rw[zt eF Uh ⟨by assumption,by assumption⟩]
    refine gy 10 ?_;refine aj results100 rfl (L1:=[sc F.p _ 106,iK V n]++R) ae ?_;rw[hm];exact⟨_,⟨rfl,rfl⟩,rfl⟩
   refine gc 4 ?_;have j7:=E9 eF Uh (by omega);refine gy 1 ?_;rw[show IntKind.i64.wrap ((k:Int)+1)=((k+1:Nat):Int)by rw[wr (by omega) (by omega)];rfl];refine gy 3 ?_;exact cI (k+1) (⟨by omega,j7⟩) (by omega) _ _ aq ae
  refine gy 14 ?_;have j7:=E9 eF Uh (by omega);refine gy 1 ?_;rw[show IntKind.i64.wrap ((k:Int)+1)=((k+1:Nat):Int)by rw[wr (by omega) (by omega)];rfl];refine gy 3 ?_;exact cI (k+1) (⟨by omega,j7⟩) (by omega) _ _ aq ae
 refine gc 5 ?_;exact aV aq ae (fQ k ⟨cC,by omega⟩)
theorem L5 [Env]{R:List ax}{F:NF}{V:NV}{n:aa}{w:ar}:bC Tryz.prog 151 [ptr F.p,I4 w] [bB F V n,eu V.ps V.si n.s] R (Is (.bool (n.wD w)) [bB F V n,eu V.ps V.si n.s]):=by
 refine ag func151 ntmps151 rfl rfl ?_;refine gc 1 ?_;refine ya (a7 (vs:=w.cells) rfl rfl) rfl ?_;rintro v L' ⟨b3,rfl,rfl⟩;refine gy 4 ?_;refine aS 26 (od [1,22] 26 0) (_) Tryz.mixed (by kernel_rfl) .refl ?_;refine gh 1 ?_;refine bg rfl (oc) rfl call118 aZ rfl ?_;rintro v L' ⟨rfl,rfl⟩;refine⟨ae,?_⟩;unfold bB;refine gh 1 ?_;refine fZ 7 rfl (fun xL=>?_) (fun xL=>?_)
 ·refine gh 5 ?_;refine fZ 12 rfl (fun xN=>?_) (fun xN=>?_)
  ·refine gh 7 ?_;refine fZ 19 rfl (fun xO=>?_) (fun xO=>?_)
   ·refine gh 7 ?_;refine lF rfl rfl rfl rfl rfl ae ?_;refine gh 8 ?_;refine aj results151 rfl (L1:=[sc F.p _ 106,eu V.ps V.si n.s]++R) ae ?_;exact⟨_,⟨by(unfold aa.wD;simp_all),rfl⟩,by rfl⟩
   refine gh 7 ?_;refine fk rfl rfl rfl (H6) rfl call52 aZ rfl ?_;rintro v L' ⟨rfl,rfl⟩;refine⟨ae,?_⟩;refine gh 8 ?_;refine aj results151 rfl (L1:=[sc F.p _ 106,eu V.ps V.si n.s]++R) ae ?_;exact⟨_,⟨by(unfold aa.wD;simp_all),rfl⟩,by rfl⟩
  refine gh 14 ?_;refine afT rfl rfl rfl rfl ae ?_;refine gh 8 ?_;refine aj results151 rfl (L1:=[sc F.p _ 106,eu V.ps V.si n.s]++R) ae ?_;exact⟨_,⟨by(unfold aa.wD;simp_all),rfl⟩,by rfl⟩
 refine gh 19 ?_;refine afT rfl rfl rfl rfl ae ?_;refine gh 8 ?_;refine aj results151 rfl (L1:=[sc F.p _ 106,eu V.ps V.si n.s]++R) ae ?_;exact⟨_,⟨by(unfold aa.wD;simp_all),rfl⟩,by rfl⟩
theorem H9 [Env]{R:List ax}{F:NF}{V:NV}{n:aa}{w:ar}:bC Tryz.prog 179 [ptr F.p,I4 w] [bB F V n,eu V.ps V.si n.s] R (Is (.bool (n.lB w)) [bB F V n,eu V.ps V.si n.s]):=by
 refine ag func179 ntmps179 rfl rfl ?_;unfold bB;refine gc 1 ?_;refine ya (a7 (vs:=w.cells) rfl rfl) rfl ?_;rintro v L' ⟨b3,rfl,rfl⟩;refine gy 4 ?_;refine aS 9 (od [7] 9 0) (_) Tryz.mixed (by kernel_rfl) .refl ?_;refine gh 7 ?_;refine bg rfl (H6) rfl call52 aZ rfl ?_;rintro v L' ⟨rfl,rfl⟩;refine⟨ae,?_⟩;refine gh 9 ?_;refine bK (oc (V:=V) (n:=n)) call118 ?_;refine gy 4 ?_;refine cc rfl (fun aol=>?_) (fun aol=>?_)
 ·refine gc 8 ?_;refine aj results179 rfl (L1:=[bB F V n,eu V.ps V.si n.s]++R) ae ?_;refine⟨_,⟨?_,rfl⟩,rfl⟩;(unfold aa.lB;simp_all)
 refine gc 1 ?_;unfold bB;refine gy 9 ?_;refine cc rfl (fun Ef=>?_) (fun Ef=>?_)
 ·refine gc 3 ?_;refine cv 28 rfl (fun Yz=>?_) (fun Yz=>?_)
  ·refine gy 9 ?_;refine aj results179 rfl (L1:=[bB F V n,eu V.ps V.si n.s]++R) ae ?_;refine⟨_,⟨?_,rfl⟩,rfl⟩;(unfold aa.lB;simp_all)
  refine gy 9 ?_;refine aj results179 rfl (L1:=[bB F V n,eu V.ps V.si n.s]++R) ae ?_;refine⟨_,⟨?_,rfl⟩,rfl⟩;(unfold aa.lB;simp_all;intro;omega)
 refine gc 10 ?_;refine aj results179 rfl (L1:=[bB F V n,eu V.ps V.si n.s]++R) ae ?_;refine⟨_,⟨?_,rfl⟩,rfl⟩;(unfold aa.lB;simp_all)
abbrev ao(F:NF)(V:NV)(n:aa):List ax:=[bB F V n,gH V n,iK V n,eu V.ps V.si n.s,iZ V.si n.s,dh F.pf F.q n.f,fB F.pl F.pc n.dr,dh F.pc F.q n.dr.c,cU F.A n.c,ga F.A n.c,iX F.A n.c,jO F.A F.q V.sl n.c,dev F.q n.d]
structure ct(V:NV)(n:aa):Prop where
 out:nE V n
 sw:R8 V n
 si:qS V.si n.s
 sl:g6 V.sl n.c.l
def KN(F:NF)(n':aa)(u v:Value)(L':List ax):Prop:= ∃V',v=u∧ct V' n'∧L'=ao F V' n'
theorem P9 [Env]{R:List ax}{e:Int}(he:gg e):bC Tryz.prog 58 [i64 e] [] R (Is (str (cR e)) []):=by
 have dj:(⟨50,[e],[]⟩:RecM).may:=⟨by show(0:Int)≤50;decide,by show(50:Int)≤255;decide,by show 1≤16;decide,by show 0≤4;decide,by simp,by intro z hz;simp at hz;subst hz;unfold gg at he;omega⟩;have iW:kQ ⟨50,[e],[]⟩=(cR e,0):=by unfold cR;rw[qa dj]
 refine ag func58 ntmps58 rfl rfl ?_;refine gc 6 ?_;refine ya (aE rfl underlying57 sizeOf2 zeroValue2 rfl rfl rfl rfl ⟨⟨_,_,rfl,(by rfl),(by decide)⟩,trivial⟩ (by dsimp[bt,aX,aY,bS]<;>rfl)) rfl ?_;rintro v L' ⟨b7,rfl,rfl⟩;refine y (bU rfl) rfl ?_;refine aA (p6 (r:=⟨50,[e],[]⟩) ?M5 ?ht5 ?sx5) rfl call94 aZ rfl ?_
 case M5=>exact eh aL rfl rfl
 case ht5=>exact CN
 case sx5=>exact dj.num
 rintro v L' ⟨s9,rfl,QJ,rfl⟩;rw[iW]at QJ ⊢;dsimp only at QJ ⊢;generalize cR e=rb at*;refine gy 9 ?_;refine y (jq (pT (L:=[aD s9 5 (av rb)]) .z QJ).rd.bytes ae rfl underlying55 underlying9 underlying5) rfl ?_;refine gy 4 ?_;refine aj results58 rfl (L1:=R) ae ?_;exact⟨_,⟨by rfl,rfl⟩,by rfl⟩
theorem PM [Env]{R:List ax}{F:NF}{V:NV}{n:aa}{e:Int}(hn:n.ok 990000)(hV:ct V n)(he:gg e):
   bC Tryz.prog 111 [ptr F.p,i64 e] (ao F V n) R (KN F (n.eC e).2 (.bool (n.eC e).1)):=by
 obtain⟨r,hR⟩: ∃z,n.f.put n.d (cR e)=z:=⟨_,rfl⟩;refine ag func111 ntmps111 rfl rfl ?_;unfold ao bB;refine gc 14 ?_;refine cc rfl (fun AH=>?_) (fun AH=>?_)
 ·have Hq:n.eC e=(true,n):=by unfold aa.eC;rw[if_pos (by assumption)]
  refine gc 6 ?_;refine aj results111 rfl (L1:=ao F V n++R) ae ?_;rw[Hq];exact⟨_,⟨V,rfl,hV,rfl⟩,rfl⟩
 have Hq:n.eC e=aa.gz (n.du.To r) fun n=>(true,{n with ah:=e}):=by unfold aa.eC;rw[if_neg (by assumption),hR]
 refine gc 4 ?_;refine aA (ql (V:=V) (n:=n)) rfl call106 aZ rfl ?_;rintro v L' ⟨SM,rfl,rfl⟩;refine gy 4 ?_;refine aS 8 (od [6,7] 8 0) ([sc F.p _ 106]++R) Tryz.mixed (by kernel_rfl) ae ?_;unfold bB;refine gh 6 ?_;refine bg rfl (P9 ?atf) rfl call58 aZ rfl ?_
 case atf=>exact he
 rintro v L' ⟨rfl,rfl⟩;refine⟨ae,?_⟩;refine bg rfl (NN (C:=n.f) (D:=n.d) ?aeB ?tg) rfl call57 aZ rfl ?_
 case aeB=>exact hn.p.f
 case tg=>exact hn.p.c.d
 rintro v L' ⟨rfl,rfl⟩;refine⟨ae,?_⟩;rw[hR];refine gh 1 ?_;refine bK (qP (V:=(V.bare SM)) (n:=n.du.k8 r)) call121 ?_;refine gy 3 ?_;refine cc rfl (fun OD=>?_) (fun OD=>?_)
 ·have Y5:n.eC e=(false,(n.du.k8 r).err r.1):=by rw[Hq];unfold aa.gz aa.To;simp_all
  refine gc 6 ?_;refine aj results111 rfl (L1:=ao F (V.bare SM) ((n.du.k8 r).err r.1)++R) ae ?_;rw[Y5];exact⟨_,⟨V.bare SM,rfl,⟨hV.out,⟨rfl,rfl⟩,⟨rfl,rfl⟩,hV.sl⟩,rfl⟩,rfl⟩
 have Y5:n.eC e=(true,{(n.du.k8 r).err r.1 with ah:=e}):=by rw[Hq];unfold aa.gz aa.To;simp_all
 refine gc 3 ?_;unfold bB;refine gy 4 ?_;refine bA (an rfl rfl (by rfl) sizeOf2 bc rfl rfl) ?_;refine gy 7 ?_;refine aj results111 rfl (L1:=ao F (V.bare SM) {(n.du.k8 r).err r.1 with ah:=e}++R) ae ?_;rw[Y5];exact⟨_,⟨V.bare SM,rfl,⟨hV.out,⟨rfl,rfl⟩,⟨rfl,rfl⟩,hV.sl⟩,rfl⟩,rfl⟩
end W
end Go.Proofs
namespace Go.Sl
open aa
def fx{α:Type}(f:aa→α→Bool × aa)(l:List α)(n0:aa)(k:Nat)(m:aa):Prop:=ia f l n0=ia f (l.drop k) m
section
variable {α : Type} {f : aa → α → Bool × aa} {l : List α} {n0 m : aa} {k : Nat} {x : α}
theorem fx.zero:fx f l n0 0 n0:=rfl
theorem fx.go(h:fx f l n0 k m)(hx:l[k]? =some x):ia f l n0=if(f m x).1=false then(false,(f m x).2)else ia f (l.drop (k+1)) (f m x).2:=by
 obtain⟨h1,h2⟩:=List.getElem?_eq_some_iff.1 hx;unfold fx at h;rw[h,List.drop_eq_getElem_cons h1,h2];rfl
theorem fx.step(h:fx f l n0 k m)(hx:l[k]? =some x){m':aa}(h1:f m x=(true,m')):fx f l n0 (k+1) m':=by
 unfold fx;rw[h.go hx,h1];rfl
theorem fx.stop(h:fx f l n0 k m)(hx:l[k]? =some x){m':aa}(h1:f m x=(false,m')):ia f l n0=(false,m'):=by
 rw[h.go hx,h1];rfl
theorem fx.done(h:fx f l n0 l.length m):ia f l n0=(true,m):=by
 unfold fx at h;rw[h,List.drop_length];rfl
end
theorem LW{n:aa}{x:bd}(h:x.bZ=false):gE n x=(true,n):=by unfold gE;rw[if_pos h]
theorem H3{n:aa}{x:bd}(h:x.bZ=true):gE n x=n.BM (n.dr.mark n.d x.bE):=by unfold gE;rw[if_neg (by rw[h];simp)]
theorem gi(x:bd): ∀u∈x.cells,u.oneCell'=true:=by
 intro u hu;simp only[bd.cells,List.mem_cons,List.not_mem_nil,or_false]at hu;rcases hu with rfl|rfl|rfl|rfl|rfl|rfl|rfl<;>rfl
end Go.Sl
namespace Go.Proofs
open _root_.Go.Proofs.Tryz
open Go Go.Sl
namespace W
set_option maxHeartbeats 1000000
theorem WS [Env]{R:List ax}{F:NF}{V:NV}{n:aa}{e:Int}(hn:n.ok 990000)(hV:ct V n)(he:gg e):
   bC Tryz.prog 49 [ptr F.p,i64 e] (ao F V n) R (KN F (n.iF e).2 (i64 (n.iF e).1)):=by
 obtain⟨r,hR⟩: ∃z,n.f.put n.d (cR e)=z:=⟨_,rfl⟩;have xS:n.iF e=if r.1≠0 then(r.1,n.k8 r)else if 16384≤r.2.1.gen then(23,n.k8 r)else(0,{n.k8 r with ah:=e,born:=r.2.1.gen+16384*(n.serial.tmod 16384)}):=by unfold aa.iF;rw[hR]
 have htm:=aa.Kn hn.a.serial;have hgk:0≤r.2.1.gen:=by rw[←hR];have:=(hn.p.facts (cR e)).f.gen;omega
 refine ag func49 ntmps49 rfl rfl ?_;unfold ao bB;refine gc 6 ?_;refine aS 6 (od [5] 6 0) ([sc F.p _ 106]++R) Tryz.mixed (by kernel_rfl) ae ?_;refine gh 5 ?_;refine bg rfl (P9 ?te7) rfl call58 aZ rfl ?_
 case te7=>exact he
 rintro v L' ⟨rfl,rfl⟩;refine⟨ae,?_⟩;refine gh 1 ?_;refine bK (NN (C:=n.f) (D:=n.d) ?anE ?Ve) call57 ?_
 case anE=>exact hn.p.f
 case Ve=>exact hn.p.c.d
 rw[hR];refine gy 8 ?_;refine cc rfl (fun AG=>?_) (fun AG=>?_)
 ·rw[if_pos (by assumption)]at xS;refine gc 7 ?_;refine aj results49 rfl (L1:=ao F V (n.k8 r)++R) ae ?_;rw[xS];exact⟨_,⟨V,rfl,⟨hV.out,hV.sw,hV.si,hV.sl⟩,rfl⟩,rfl⟩
 rw[if_neg (by simpa using AG)]at xS;refine gc 8 ?_;refine bK (S7) call88 ?_;refine gy 3 ?_;refine cc rfl (fun AH=>?_) (fun AH=>?_)
 ·rw[if_pos (by omega)]at xS;refine gc 6 ?_;refine aj results49 rfl (L1:=ao F V (n.k8 r)++R) ae ?_;rw[xS];exact⟨_,⟨V,rfl,⟨hV.out,hV.sw,hV.si,hV.sl⟩,rfl⟩,rfl⟩
 rw[if_neg (by omega)]at xS;refine gc 3 ?_;refine kO 18 (.op 0 0 (.op 1 0 (.op 2 0 (.op 3 0 (.op 4 0 (.op 5 0 (.op 8 0 (.op 9 0 (.op 10 0 (.fork 6 (.fork 7 (.op 11 2 (.op 12 0 (.op 13 0 (.op 14 0 (.op 15 0 (.op 16 0 (.op 17 2 (.nil)))))))) 11 (.op 12 0 (.op 13 0 (.op 7 2 (.op 14 0 (.op 15 0 (.op 16 0 (.op 17 2 (.nil))))))))) 11 (.op 12 0 (.op 13 0 (.op 6 2 (.op 7 2 (.op 14 0 (.op 15 0 (.op 16 0 (.op 17 2 (.nil))))))))))))))))))) (R) Tryz.mixed (by kernel_rfl) ae ?_;refine nz rfl (ba rfl) rfl ?_;refine nz rfl (ba rfl) rfl ?_;refine nz rfl (ba rfl) rfl ?_;refine nz rfl (ba rfl) rfl ?_;refine nz rfl (fD rfl) rfl ?_;refine nz rfl (aT 5 rfl underlying106 rfl sizeOf96) rfl ?_;refine nz rfl (ba rfl) rfl ?_;refine nz rfl (fD rfl) rfl ?_;refine nz rfl (aT 1 rfl underlying106 rfl sizeOf2) rfl ?_;refine mu ?_ ?_
 ·refine na rfl (fi (bR rfl isAgg96 aL rfl)) rfl ?_;rintro v L' ⟨rfl,rfl⟩;refine⟨ae,?_⟩;refine mu ?_ ?_
  ·refine fy rfl (S7) rfl call88 aZ rfl ?_;rintro v L' ⟨rfl,rfl⟩;refine⟨ae,?_⟩;refine na rfl (fi (bR rfl isAgg2 aL rfl)) rfl ?_;rintro v L' ⟨rfl,rfl⟩;refine⟨ae,?_⟩;refine nz rfl (iH rfl rfl (by decide)) rfl ?_;refine nz rfl (gS rfl rfl) rfl ?_;rw[wr (by omega) (by omega)];refine nz rfl (uA rfl rfl) rfl ?_;rw[wr (by omega) (by omega)];refine nz rfl (fD rfl) rfl ?_;refine nz rfl (aT 11 rfl underlying106 rfl sizeOf2) rfl ?_;refine UX rfl (an rfl rfl (by rfl) sizeOf2 bc rfl rfl) ?_;rintro v L' ⟨rfl,rfl⟩;refine⟨ae,?_⟩;refine ik ?_;refine gy 2 ?_;refine bA (an rfl rfl (by rfl) sizeOf2 bc rfl rfl) ?_;refine gy 7 ?_;refine aj results49 rfl (L1:=ao F V {n.k8 r with ah:=e,born:=r.2.1.gen+16384*(n.serial.tmod 16384)}++R) ae ?_;rw[xS];exact⟨_,⟨V,rfl,⟨hV.out,hV.sw,hV.si,hV.sl⟩,rfl⟩,rfl⟩
  refine na rfl (fi (bR rfl isAgg2 aL rfl)) rfl ?_;rintro v L' ⟨rfl,rfl⟩;refine⟨ae,?_⟩;refine nz rfl (iH rfl rfl (by decide)) rfl ?_;refine nz rfl (gS rfl rfl) rfl ?_;rw[wr (by omega) (by omega)];refine fy rfl (S7) rfl call88 aZ rfl ?_;rintro v L' ⟨rfl,rfl⟩;refine⟨ae,?_⟩;refine nz rfl (uA rfl rfl) rfl ?_;rw[wr (by omega) (by omega)];refine nz rfl (fD rfl) rfl ?_;refine nz rfl (aT 11 rfl underlying106 rfl sizeOf2) rfl ?_;refine UX rfl (an rfl rfl (by rfl) sizeOf2 bc rfl rfl) ?_;rintro v L' ⟨rfl,rfl⟩;refine⟨ae,?_⟩;refine ik ?_;refine gy 2 ?_;refine bA (an rfl rfl (by rfl) sizeOf2 bc rfl rfl) ?_;refine gy 7 ?_;refine aj results49 rfl (L1:=ao F V {n.k8 r with ah:=e,born:=r.2.1.gen+16384*(n.serial.tmod 16384)}++R) ae ?_;rw[xS];exact⟨_,⟨V,rfl,⟨hV.out,hV.sw,hV.si,hV.sl⟩,rfl⟩,rfl⟩
 refine na rfl (fi (bR rfl isAgg2 aL rfl)) rfl ?_;rintro v L' ⟨rfl,rfl⟩;refine⟨ae,?_⟩;refine nz rfl (iH rfl rfl (by decide)) rfl ?_;refine nz rfl (gS rfl rfl) rfl ?_;rw[wr (by omega) (by omega)];refine na rfl (fi (bR rfl isAgg96 aL rfl)) rfl ?_;rintro v L' ⟨rfl,rfl⟩;refine⟨ae,?_⟩;refine fy rfl (S7) rfl call88 aZ rfl ?_;rintro v L' ⟨rfl,rfl⟩;refine⟨ae,?_⟩;refine nz rfl (uA rfl rfl) rfl ?_;rw[wr (by omega) (by omega)];refine nz rfl (fD rfl) rfl ?_;refine nz rfl (aT 11 rfl underlying106 rfl sizeOf2) rfl ?_;refine UX rfl (an rfl rfl (by rfl) sizeOf2 bc rfl rfl) ?_;rintro v L' ⟨rfl,rfl⟩;refine⟨ae,?_⟩;refine ik ?_;refine gy 2 ?_;refine bA (an rfl rfl (by rfl) sizeOf2 bc rfl rfl) ?_;refine gy 7 ?_;refine aj results49 rfl (L1:=ao F V {n.k8 r with ah:=e,born:=r.2.1.gen+16384*(n.serial.tmod 16384)}++R) ae ?_;rw[xS];exact⟨_,⟨V,rfl,⟨hV.out,hV.sw,hV.si,hV.sl⟩,rfl⟩,rfl⟩
theorem yw [Env]{R:List ax}{F:NF}{V:NV}{n:aa}(hn:n.ok 990000)(hV:ct V n):
   bC Tryz.prog 167 [ptr F.p] (ao F V n) R (KN F n.marks.2 (.bool n.marks.1)):=by
 have sP:=hn.p.bl;have B7:=hn.a.blocks;have lQ:=aa.ui hn;have hlen:=aa.pY hn;refine ag func167 ntmps167 rfl rfl ?_;unfold ao bB;refine gc 4 ?_;refine bq ?_;intro K2 gM;refine gc 5 ?_;refine aA (HT ?anj) rfl call59 aZ rfl ?_
 case anj=>omega
 rintro v L' ⟨s9,rfl,QJ,rfl⟩;have jt:cE [aD s9 127 (dZ n.c.all)] (aG s9 n.c.all.length) n.c.all.length (dZ n.c.all):=bG .z QJ;refine y (bH rfl underlying61 (by assumption)) rfl ?_;refine gy 3 ?_
 have fQ: ∀x:Nat × aa,((x.1≤n.c.all.length∧fx aa.gE n.c.all n x.1 x.2∧x.2.ok 990000∧ct V x.2)∧(x.1=n.c.all.length))→Sk 30 K2 ([(11,i64 x.1),(10,i64 n.c.all.length),(9,aG s9 n.c.all.length),(0,ptr F.p)]) (aD s9 127 (dZ n.c.all)::ao F V x.2++R):=by
  rintro⟨k,m⟩ ⟨bJ,eK⟩;refine gM _ _ ?_;obtain⟨hk,hE,hm,mm⟩:=bJ;dsimp only at hk hE hm mm ⊢;unfold ao bB;dsimp only at eK;rw[eK]at hE;have Ly:n.marks=(true,m):=hE.done;refine gc 5 ?_;refine aj results167 rfl (L1:=ao F V m++R) ae ?_;rw[Ly];exact⟨_,⟨V,rfl,mm,rfl⟩,rfl⟩
 clear gM;refine gc 1 ?_;refine bO (A:=Nat × aa) (fun x=>[(11,i64 x.1),(10,i64 n.c.all.length),(9,aG s9 n.c.all.length),(0,ptr F.p)]) (fun x=>aD s9 127 (dZ n.c.all)::ao F V x.2++R) (fun x=>x.1≤n.c.all.length∧fx aa.gE n.c.all n x.1 x.2∧x.2.ok 990000∧ct V x.2) (fun x=>n.c.all.length-x.1) ((0,n)) ?_ aq ae ?_
 · exact⟨Nat.zero_le _,fx.zero,hn,hV⟩
 rintro⟨k,m⟩ bJ kt cI;have cC:=bJ;obtain⟨hk,hE,hm,mm⟩:=bJ;dsimp only at hk hE hm mm ⊢;unfold ao bB;refine gc 5 ?_;refine cc rfl (fun Dg=>?_) (fun Dg=>?_)
 ·refine gc 5 ?_;obtain⟨x,hx⟩: ∃x,n.c.all[k]? =some x:=⟨_,List.getElem?_eq_getElem (by omega)⟩;have oZ:=(lQ x (List.mem_of_getElem? hx)).bE;refine y (aK jt rfl rfl underlying61 sizeOf127 (by omega) (by omega)) rfl ?_;refine y (dB (us:=x.cells) (k*7) jt ae rfl isAgg127 sizeOf127 (by simp) (lD hx) rfl) rfl ?_;refine ya (aB zeroValue127 rfl) rfl ?_;rintro v L' ⟨b4,rfl,rfl⟩;refine bA (aP (vs':=x.cells) rfl rfl (gi x) sizeOf127 bc rfl (by decide) rfl) ?_;refine gy 3 ?_;refine aS 11 (od [10] 11 0) ([sc b4 _ 127,sc F.p _ 106]++R) Tryz.mixed (by kernel_rfl) ae ?_;refine gh 3 ?_;refine fZ 17 rfl (fun AI=>?_) (fun AI=>?_)
  ·obtain⟨r,hR⟩: ∃z,m.dr.mark m.d x.bE=z:=⟨_,rfl⟩;have JA:aa.gE m x=(decide (r.1=0),(m.iG r).err r.1):=by rw[H3 (by assumption),hR];rfl
   refine gh 7 ?_;refine fk rfl rfl rfl (NZ (L:=m.dr) (D:=m.d) (i:=x.bE) ?anP ?anJ ?anM) rfl call156 aZ rfl ?_
   case anP=>exact hm.p.dr
   case anJ=>omega
   case anM=>omega
   rintro v L' ⟨rfl,rfl⟩;refine⟨ae,?_⟩;rw[hR];refine gh 1 ?_;refine bV ?_;refine bK (qP (V:=V) (n:=m.iG r)) call121 ?_;refine gy 4 ?_;refine cc rfl (fun KY=>?_) (fun KY=>?_)
   ·have Ly:n.marks=(false,(m.iG r).err r.1):=hE.stop hx (by rw[JA];simp_all);refine gc 10 ?_;refine aj results167 rfl (L1:=ao F V ((m.iG r).err r.1)++R) ae ?_;rw[Ly];exact⟨_,⟨V,rfl,⟨mm.out,mm.sw,mm.si,mm.sl⟩,rfl⟩,rfl⟩
   have hm2:aa.gE m x=(true,(m.iG r).err r.1):=by rw[JA];simp_all
   have qf:k+1≤n.c.all.length∧fx aa.gE n.c.all n (k+1) ((m.iG r).err r.1)∧((m.iG r).err r.1).ok 990000∧ct V ((m.iG r).err r.1):=⟨by omega,hE.step hx hm2,by rw[←hR];exact hm.mark x.bE,⟨mm.out,mm.sw,mm.si,mm.sl⟩⟩;refine gc 5 ?_;rw[show IntKind.i64.wrap ((k:Int)+1)=((k+1:Nat):Int)by rw[wr (by omega) (by omega)];rfl];refine gy 3 ?_;exact cI (k+1,_) qf (by dsimp only;omega) _ _ aq ae
  have JA:aa.gE m x=(true,m):=LW (by simpa using AI);have qf:k+1≤n.c.all.length∧fx aa.gE n.c.all n (k+1) m∧m.ok 990000∧ct V m:=⟨by omega,hE.step hx JA,hm,mm⟩;refine gh 7 ?_;refine lF rfl rfl rfl rfl rfl ae ?_;refine gh 12 ?_;rw[show IntKind.i64.wrap ((k:Int)+1)=((k+1:Nat):Int)by rw[wr (by omega) (by omega)];rfl];refine gy 3 ?_;exact cI (k+1,_) qf (by dsimp only;omega) _ _ aq ae
 refine gc 5 ?_;exact aV aq ae (fQ ⟨k,m⟩ ⟨cC,by dsimp only;omega⟩)
end W
end Go.Proofs