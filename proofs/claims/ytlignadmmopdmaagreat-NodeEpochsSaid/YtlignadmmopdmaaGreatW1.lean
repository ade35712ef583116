/- A part of the proof. -/
import Derived.Test.YtlignadmmopdmaaGreatUn
import Derived.Test.YtlignadmmopdmaaGreatC9
import Derived.Test.YtlignadmmopdmaaGreatGN
import Derived.Test.YtlignadmmopdmaaGreatGI
import Derived.Test.YtlignadmmopdmaaGreatGL
set_option linter.unusedVariables false
set_option linter.unusedSimpArgs false
set_option linter.constructorNameAsVariable false
namespace Go.Proofs
open _root_.Go.Proofs.Tryz
open Go Go.Sl
namespace W
abbrev oK(k:bT):List Value:=[i64 k.e,i64 k.s,i64 k.t.a,i64 k.t.b,i64 k.t.c,i64 k.t.d]
theorem Ph(a b:Int):(if b>a then b else a)=max a b:=by rw[Int.max_def];split<;>split<;>omega
theorem WI [Env]{R:List ax}{A:uc}{q:Q3}{sl:Sv}{C:aQ}{D:az}{b:Int}(hC:C.ok D)(hs:g6 sl C.l):
   bC Tryz.prog 212 [ptr A.p,i64 b] [cU A C,ga A C,iX A C,jO A q sl C,dev q D] R (KC A q C (C.drop D b)):=by
 have vA:C.drop D b=if(bM C.en b).isSome=true then C.eH D ⟨.drop b,C.k⟩else(10,C,D):=rfl
 refine ag func212 ntmps212 rfl rfl ?_;unfold cU qM ga;refine gc 11 ?_;refine y (ic (z:=ib .zero) (kv:=oE ib C.en) rfl rfl underlying149 underlying3 zeroValue127 aL) rfl ?_;rw[mg,oa,Option.isSome_map];refine gy 3 ?_;refine ya (aB zeroValue127 rfl) rfl ?_;rintro v L' ⟨b5,rfl,rfl⟩;refine bA (ai rfl rfl (iy _) sizeOf127 bc rfl rfl) ?_;refine gy 8 ?_;refine cc rfl (fun nf=>?_) (fun nf=>?_)
 ·rw[if_neg (by rw[nf];simp)]at vA;refine gc 6 ?_;refine aj results212 rfl (L1:=[sc A.p _ 154,so A.me _,iX A C,jO A q sl C,dev q D]++R) ae ?_;rw[vA];exact⟨_,⟨sl,rfl,hs,rfl⟩,rfl⟩
 rw[if_pos nf]at vA;refine gc 3 ?_;obtain⟨x0,SJ⟩:=Option.isSome_iff_exists.1 ‹(bM C.en b).isSome=true›;obtain⟨oZ,hxb⟩:=jG hC SJ;refine gy 2 ?_;refine y (bU rfl) rfl ?_;refine y (dW rfl (by kernel_rfl)) rfl ?_;refine gy 3 ?_;refine y (ay (u:=oK C.k) rfl isAgg152 sizeOf152 aL rfl rfl) rfl ?_;refine aA (yg (C:=C) (sl:=sl) (q:=q) (D:=D) (w:= .drop b) (k:=C.k) ?aeA ?ag3 ?akX) rfl call182 aZ rfl ?_
 case aeA=>exact hC
 case ag3=>exact hs
 case akX=>exact⟨by have:=oZ.bE;show 0≤b∧b<C.bl;omega,hC.k⟩
 rintro v L' ⟨ak7,rfl,Ad,rfl⟩;refine gy 4 ?_;refine aj results212 rfl (L1:=[cU A _,ga A _,iX A _,jO A q ak7 _,dev q _]++R) ae ?_;rw[vA];exact⟨_,⟨ak7,rfl,Ad,rfl⟩,rfl⟩
theorem HU [Env]{R:List ax}{A:uc}{q:Q3}{sl:Sv}{C:aQ}{D:az}{b e s:Int}(hC:C.ok D)(hs:g6 sl C.l):
   bC Tryz.prog 120 [ptr A.p,i64 b,.agg #[i64 e,i64 s]] [cU A C,ga A C,iX A C,jO A q sl C,dev q D] R (KC A q C (C.clean D b e s)):=by
 refine ag func120 ntmps120 rfl rfl ?_;unfold cU qM ga;refine gc 1 ?_;refine ya (a7 (vs:=[i64 e,i64 s]) rfl rfl) rfl ?_;rintro v L' ⟨b5,rfl,rfl⟩;refine gy 9 ?_;refine y (ic (z:=ib .zero) (kv:=oE ib C.en) rfl rfl underlying149 underlying3 zeroValue127 aL) rfl ?_;rw[mg,oa,Option.isSome_map];rcases hg:bM C.en b with _|x0
 ·refine gy 3 ?_;refine ya (aB zeroValue127 rfl) rfl ?_;rintro v L' ⟨b7,rfl,rfl⟩;refine bA (ai rfl rfl (iy _) sizeOf127 bc rfl rfl) ?_;refine gy 6 ?_
  (have oY:C.clean D b e s=(10,C,D):=by unfold aQ.clean;rw[hg])
  refine gy 19 ?_;refine aj results120 rfl (L1:=[sc A.p _ 154,so A.me _,iX A C,jO A q sl C,dev q D]++R) ae ?_;rw[oY];exact⟨_,⟨sl,rfl,hs,rfl⟩,rfl⟩
 refine gy 3 ?_;refine ya (aB zeroValue127 rfl) rfl ?_;rintro v L' ⟨b7,rfl,rfl⟩;refine bA (ai rfl rfl (iy _) sizeOf127 bc rfl rfl) ?_;refine gy 6 ?_
 (have oY:C.clean D b e s=if¬(x0.ve=e∧x0.vs=s)then(10,C,D)else if x0.bZ=false then(0,C,D)else C.eH D ⟨.clean b e s,C.k⟩:=by unfold aQ.clean;rw[hg])
 refine gy 4 ?_;refine bV ?_;refine y (ay (u:=[i64 x0.ve,i64 x0.vs]) rfl isAgg84 sizeOf84 aL rfl rfl) rfl ?_;refine bV ?_;refine y (ay (u:=[i64 e,i64 s]) rfl isAgg84 sizeOf84 aL rfl rfl) rfl ?_;refine bV ?_;refine y (sC rfl rfl (by kernel_rfl) (by simp only[List.cons.injEq,Value.int.injEq,Value.string.injEq,Value.bool.injEq,str_inj,AQ,aM.Aw,true_and,and_true];exact Iff.rfl)) rfl ?_;refine gy 4 ?_;refine cc rfl (fun Hl=>?_) (fun Hl=>?_)
 ·rw[if_pos Hl]at oY;refine gc 7 ?_;refine aj results120 rfl (L1:=[sc A.p _ 154,so A.me _,iX A C,jO A q sl C,dev q D]++R) ae ?_;rw[oY];exact⟨_,⟨sl,rfl,hs,rfl⟩,rfl⟩
 rw[if_neg (fun hz=>hz Hl)]at oY;refine gc 7 ?_;refine cc rfl (fun Df=>?_) (fun Df=>?_)
 ·have Za:x0.bZ=false:=Df;rw[if_pos Za]at oY;refine gc 7 ?_;refine aj results120 rfl (L1:=[sc A.p _ 154,so A.me _,iX A C,jO A q sl C,dev q D]++R) ae ?_;rw[oY];exact⟨_,⟨sl,rfl,hs,rfl⟩,rfl⟩
 have Za:x0.bZ=true:=Df;rw[if_neg (by rw[Za];simp)]at oY;refine gc 4 ?_;refine aS 9 (od [] 9 0) (_) Tryz.mixed (by kernel_rfl) .refl ?_;obtain⟨oZ,hxb⟩:=jG hC hg;refine gh 2 ?_;refine hr rfl (ay (u:=[i64 e,i64 s]) rfl isAgg84 sizeOf84 aL rfl rfl) rfl ?_;refine hr rfl (bU rfl) rfl ?_;refine hr rfl (dW rfl (by kernel_rfl)) rfl ?_;refine gh 3 ?_;refine hr rfl (ay (u:=oK C.k) rfl isAgg152 sizeOf152 aL rfl rfl) rfl ?_;refine gh 1 ?_;refine aA (yg (C:=C) (sl:=sl) (q:=q) (D:=D) (w:= .clean b e s) (k:=C.k) ?aeI ?ag9 ?akZ) rfl call182 aZ rfl ?_
 case aeI=>exact hC
 case ag9=>exact hs
 case akZ=>exact⟨⟨by have:=oZ.bE;omega,by have:=oZ.ve;omega,by have:=oZ.vs;omega⟩,hC.k⟩
 rintro v L' ⟨ak8,rfl,arf,rfl⟩;refine gy 4 ?_;refine aj results120 rfl (L1:=[cU A _,ga A _,iX A _,jO A q ak8 _,dev q _]++R) ae ?_;rw[oY];exact⟨_,⟨ak8,rfl,arf,rfl⟩,rfl⟩
theorem Pq [Env]{R:List ax}{A:uc}{q:Q3}{sl:Sv}{C:aQ}{D:az}{e s:Int}{v:Value}{ns:List Int}(hC:C.ok D)(hs:g6 sl C.l)(hv:cE R v ns.length (aW ns))(Di:ns.length<1000000):
   bC Tryz.prog 211 [ptr A.p,.agg #[i64 e,i64 s],v] [cU A C,ga A C,iX A C,jO A q sl C,dev q D] R (KC A q C (C.reset D e s ns)):=by
 have sR:C.reset D e s ns=if mS e s ns=true then(1,C,D)else C.eH D ⟨.note,⟨e,s,FR ns⟩⟩:=rfl
 refine ag func211 ntmps211 rfl rfl ?_;refine gc 1 ?_;refine ya (a7 (vs:=[i64 e,i64 s]) rfl rfl) rfl ?_;rintro v L' ⟨b4,rfl,rfl⟩;refine gy 5 ?_;refine y (ay (u:=[i64 e,i64 s]) rfl isAgg84 sizeOf84 aL rfl rfl) rfl ?_;refine gy 1 ?_;refine bK (Pr (ns:=ns) ?ap7 ?apk) call209 ?_
 case ap7=>exact hv.mono ae
 case apk=>exact Di
 rw[show(!oR e s 0||decide (ns.length≠4)||ns.any qI)=mS e s ns from rfl];refine gy 2 ?_;refine cc rfl (fun MX=>?_) (fun MX=>?_)
 ·rw[if_pos MX]at sR;refine gc 6 ?_;refine aj results211 rfl (L1:=[cU A C,ga A C,iX A C,jO A q sl C,dev q D]++R) ae ?_;rw[sR];exact⟨_,⟨sl,rfl,hs,rfl⟩,rfl⟩
 rw[if_neg (by rw[MX];simp)]at sR;obtain⟨he,Pb,n0,n1,n2,n3,rfl,h0,h1,h2,h3⟩:=nI MX;refine gc 3 ?_;refine y (ay (u:=[i64 e,i64 s]) rfl isAgg84 sizeOf84 aL rfl rfl) rfl ?_;refine y (bU rfl) rfl ?_;refine ya (aB zeroValue152 rfl) rfl ?_;rintro v L' ⟨b7,rfl,rfl⟩;refine bA (ai (us:=[i64 e,i64 s,i64 0,i64 0,i64 0,i64 0]) rfl rfl (by simp[Value.oneCell']) sizeOf152 bc rfl rfl) ?_;refine gy 4 ?_;refine y (iJ rfl underlying32 sizeOf2) rfl ?_;refine gy 1 ?_;refine ya (r8 (m:=4) (us:=[i64 n0,i64 n1,i64 n2,i64 n3]) (vs':=[i64 e,i64 s,i64 n0,i64 n1,i64 n2,i64 n3]) rfl rfl underlying57 sizeOf2 ((hv.mono ae).src rfl) (by simp[Value.oneCell']) (by decide) bc (by simp) rfl) rfl ?_;rintro v L' ⟨rfl,rfl⟩;refine gy 4 ?_;refine y (jB (zs:=[]) (vs:=[]) rfl underlying248 zeroValue248 rfl .nil trivial rfl) rfl ?_;refine y (dW rfl (by kernel_rfl)) rfl ?_;refine y (ay (u:=[i64 e,i64 s,i64 n0,i64 n1,i64 n2,i64 n3]) rfl isAgg152 sizeOf152 aL rfl rfl) rfl ?_;refine aA (yg (C:=C) (sl:=sl) (q:=q) (D:=D) (w:= .note) (k:=⟨e,s,⟨n0,n1,n2,n3⟩⟩) ?GQ ?HQ ?ab1) rfl call182 aZ rfl ?_
 case GQ=>exact hC
 case HQ=>exact hs
 case ab1=>exact⟨trivial,⟨he,Pb,h0,h1,h2,h3⟩⟩
 rintro v L' ⟨ak6,rfl,aa1,rfl⟩;refine gy 4 ?_;refine aj results211 rfl (L1:=[cU A _,ga A _,iX A _,jO A q ak6 _,dev q _]++R) ae ?_;rw[sR];exact⟨_,⟨ak6,rfl,aa1,rfl⟩,rfl⟩
theorem JL [Env]{R:List ax}{A:uc}{q:Q3}{sl:Sv}{C:aQ}{D:az}{e s:Int}{v:Value}{ns:List Int}(hC:C.ok D)(hs:g6 sl C.l)(hv:cE R v ns.length (aW ns))(Di:ns.length<1000000):
   bC Tryz.prog 166 [ptr A.p,.agg #[i64 e,i64 s],v] [cU A C,ga A C,iX A C,jO A q sl C,dev q D] R (KC A q C (C.note D e s ns)):=by
 have sR:C.note D e s ns=if mS e s ns=true then(1,C,D)else C.eH D ⟨.note,yC C.k e s (FR ns)⟩:=rfl
 have ZP:=hv.bo;refine ag func166 ntmps166 rfl rfl ?_;unfold cU qM;refine gc 1 ?_;refine ya (a7 (vs:=[i64 e,i64 s]) rfl rfl) rfl ?_;rintro v L' ⟨b4,rfl,rfl⟩;refine gy 5 ?_;refine y (ay (u:=[i64 e,i64 s]) rfl isAgg84 sizeOf84 aL rfl rfl) rfl ?_;refine gy 1 ?_;refine bK (Pr (ns:=ns) ?agU ?age) call209 ?_
 case agU=>exact hv.mono ae
 case age=>exact Di
 rw[show(!oR e s 0||decide (ns.length≠4)||ns.any qI)=mS e s ns from rfl];refine gy 2 ?_;refine cc rfl (fun wg=>?_) (fun wg=>?_)
 ·rw[if_pos wg]at sR;refine gc 6 ?_;refine aj results166 rfl (L1:=[sc A.p _ 154,ga A C,iX A C,jO A q sl C,dev q D]++R) ae ?_;rw[sR];exact⟨_,⟨sl,rfl,hs,rfl⟩,rfl⟩
 rw[if_neg (by rw[wg];simp)]at sR;obtain⟨he,Pb,n0,n1,n2,n3,rfl,h0,h1,h2,h3⟩:=nI wg;refine gc 6 ?_;refine y (ay (u:=oK C.k) rfl isAgg152 sizeOf152 aL rfl rfl) rfl ?_;refine ya (aB zeroValue152 rfl) rfl ?_;rintro v L' ⟨b7,rfl,rfl⟩;refine bA (ai (us:=oK C.k) rfl rfl (by simp[Value.oneCell']) sizeOf152 bc rfl rfl) ?_;refine gy 2 ?_;refine bq ?_;intro K6 ma
 have zQ: ∀x:Int × Int,((if jg e s C.k.e C.k.s=true then e else C.k.e)=x.1∧(if jg e s C.k.e C.k.s=true then s else C.k.s)=x.2)→Sk 45 K6 ([(7,ptr b7),(0,ptr A.p),(2,v)]) ([sc b7 [i64 x.1,i64 x.2,i64 C.k.t.a,i64 C.k.t.b,i64 C.k.t.c,i64 C.k.t.d] 152,sc A.p (qM A C) 154,ga A C,iX A C,jO A q sl C,dev q D]++R):=by
  rintro⟨e',s'⟩ Li;refine ma _ _ ?_;obtain⟨agu,agv⟩:=Li;dsimp only at agu agv ⊢;unfold qM;refine bq ?_;intro K7 Jx;refine gc 2 ?_;refine y (bu rfl underlying57 ZP) rfl ?_;refine gy 3 ?_
  have fQ: ∀x:Nat,((x≤4)∧(x=4))→Sk 45 K7 ([(25,i64 x),(24,i64 4),(23,v),(7,ptr b7),(0,ptr A.p)]) ([sc b7 [i64 e',i64 s',i64 (C.k.t.jS ⟨n0,n1,n2,n3⟩ x).a,i64 (C.k.t.jS ⟨n0,n1,n2,n3⟩ x).b,i64 (C.k.t.jS ⟨n0,n1,n2,n3⟩ x).c,i64 (C.k.t.jS ⟨n0,n1,n2,n3⟩ x).d] 152,sc A.p (qM A C) 154,ga A C,iX A C,jO A q sl C,dev q D]++R):=by
   rintro i ⟨bJ,eK⟩;refine Jx _ _ ?_;have hi:=bJ;unfold qM;subst eK;refine gc 1 ?_;have hnk:yC C.k e s (FR [n0,n1,n2,n3])=⟨e',s',C.k.t.jS ⟨n0,n1,n2,n3⟩ 4⟩:=by unfold yC;rw[agu,agv];rfl
   have agz:=yE (e:=e) (s:=s) hC.k he Pb h0 h1 h2 h3;rw[show(⟨n0,n1,n2,n3⟩:T4)=FR [n0,n1,n2,n3]from rfl,hnk]at agz;rw[hnk]at sR;refine gy 1 ?_;refine y (jB (zs:=[]) (vs:=[]) rfl underlying248 zeroValue248 rfl .nil trivial rfl) rfl ?_;refine y (dW rfl (by kernel_rfl)) rfl ?_;refine y (ay (u:=[i64 e',i64 s',i64 (C.k.t.jS ⟨n0,n1,n2,n3⟩ 4).a,i64 (C.k.t.jS ⟨n0,n1,n2,n3⟩ 4).b,i64 (C.k.t.jS ⟨n0,n1,n2,n3⟩ 4).c,i64 (C.k.t.jS ⟨n0,n1,n2,n3⟩ 4).d]) rfl isAgg152 sizeOf152 aL rfl rfl) rfl ?_;refine aA (yg (C:=C) (sl:=sl) (q:=q) (D:=D) (w:= .note) (k:=⟨e',s',C.k.t.jS ⟨n0,n1,n2,n3⟩ 4⟩) ?XY ?ZX ?ab3) rfl call182 aZ rfl ?_
   case XY=>exact hC
   case ZX=>exact hs
   case ab3=>exact⟨trivial,agz⟩
   rintro v L' ⟨IQ,rfl,Mf,rfl⟩;refine gy 4 ?_;refine aj results166 rfl (L1:=[cU A _,ga A _,iX A _,jO A q IQ _,dev q _]++R) ae ?_;rw[sR];exact⟨_,⟨IQ,rfl,Mf,rfl⟩,rfl⟩
  clear Jx;refine gc 1 ?_;refine bO (A:=Nat) (fun x=>[(25,i64 x),(24,i64 4),(23,v),(7,ptr b7),(0,ptr A.p)]) (fun x=>[sc b7 [i64 e',i64 s',i64 (C.k.t.jS ⟨n0,n1,n2,n3⟩ x).a,i64 (C.k.t.jS ⟨n0,n1,n2,n3⟩ x).b,i64 (C.k.t.jS ⟨n0,n1,n2,n3⟩ x).c,i64 (C.k.t.jS ⟨n0,n1,n2,n3⟩ x).d] 152,sc A.p (qM A C) 154,ga A C,iX A C,jO A q sl C,dev q D]++R) (fun x=>x≤4) (fun x=>4-x) (0) ?_ aq ae ?_
  · exact Nat.zero_le _
  rintro i bJ kt cI;have cC:=bJ;have hi:=bJ;unfold qM;refine gc 5 ?_;refine cc rfl (fun B0=>?_) (fun B0=>?_)
  ·refine gc 5 ?_;have hi4:i=0∨i=1∨i=2∨i=3:=by omega
   obtain⟨y0,Ck⟩: ∃y0,([n0,n1,n2,n3]:List Int)[i]? =some y0:=⟨_,List.getElem?_eq_getElem (by show i<4;omega)⟩;refine gy 1 ?_;refine y (aK hv rfl rfl underlying57 sizeOf2 (by omega) (by show(i:Int)<4;omega)) rfl ?_;refine y (au i hv ae rfl isAgg2 (by simp) (dk Ck)) rfl ?_;refine gy 8 ?_;refine y (dR rfl rfl underlying32 sizeOf2 (by omega) (by omega)) rfl ?_;refine y (bR (v:=i64 (C.k.t.get i)) rfl isAgg2 aL (by rcases hi4 with rfl|rfl|rfl|rfl<;>rfl)) rfl ?_;refine gy 1 ?_;refine y (mK rfl rfl) rfl ?_;rw[Ph];refine gy 1 ?_;refine y (dR rfl rfl underlying32 sizeOf2 (by omega) (by omega)) rfl ?_;refine bA (an (vs':=[i64 e',i64 s',i64 (C.k.t.jS ⟨n0,n1,n2,n3⟩ (i+1)).a,i64 (C.k.t.jS ⟨n0,n1,n2,n3⟩ (i+1)).b,i64 (C.k.t.jS ⟨n0,n1,n2,n3⟩ (i+1)).c,i64 (C.k.t.jS ⟨n0,n1,n2,n3⟩ (i+1)).d]) rfl rfl rfl sizeOf2 bc (by rcases hi4 with rfl|rfl|rfl|rfl<;>rfl) (by rcases hi4 with rfl|rfl|rfl|rfl<;>(simp only[List.getElem?_cons_zero,List.getElem?_cons_succ,Option.some.injEq]at Ck;subst Ck;rfl))) ?_;refine gy 5 ?_;rw[show IntKind.i64.wrap ((i:Int)+1)=((i+1:Nat):Int)by rw[wr (by omega) (by omega)];rfl];refine gy 3 ?_;exact cI (i+1) (by omega) (by omega) _ _ aq ae
  refine gc 5 ?_;exact aV aq ae (fQ i ⟨cC,by omega⟩)
 clear ma;refine gc 1 ?_;refine y (ay (u:=[i64 e,i64 s]) rfl isAgg84 sizeOf84 aL rfl rfl) rfl ?_;refine gy 1 ?_;refine y (ay (u:=[i64 C.k.e,i64 C.k.s]) rfl isAgg84 sizeOf84 aL rfl rfl) rfl ?_;refine bK (HS) call203 ?_;refine gy 2 ?_;refine cc rfl (fun uD=>?_) (fun uD=>?_)
 ·have xY:(if jg e s C.k.e C.k.s=true then e else C.k.e)=e∧(if jg e s C.k.e C.k.s=true then s else C.k.s)=s:=⟨if_pos uD,if_pos uD⟩;refine gc 1 ?_;refine y (ay (u:=[i64 e,i64 s]) rfl isAgg84 sizeOf84 aL rfl rfl) rfl ?_;refine gy 1 ?_;refine bA (aP (vs':=[i64 e,i64 s,i64 C.k.t.a,i64 C.k.t.b,i64 C.k.t.c,i64 C.k.t.d]) rfl rfl (by simp[Value.oneCell']) sizeOf84 bc rfl (by simp) rfl) ?_;refine gy 2 ?_;exact aV aq ae (zQ (e,s) xY)
 have xY:(if jg e s C.k.e C.k.s=true then e else C.k.e)=C.k.e∧(if jg e s C.k.e C.k.s=true then s else C.k.s)=C.k.s:=⟨if_neg (by rw[uD];simp),if_neg (by rw[uD];simp)⟩;refine gc 2 ?_;exact aV aq ae (zQ (C.k.e,C.k.s) xY)
theorem Un [Env]{R:List ax}{A:uc}{q:Q3}{sl:Sv}{C:aQ}{D:az}{x:bd}(hC:C.ok D)(hs:g6 sl C.l):
   bC Tryz.prog 157 [ptr A.p,ib x] [cU A C,ga A C,iX A C,jO A q sl C,dev q D] R (KC A q C (C.put D x)):=by
 have nj:C.put D x=if ER C.bl x.bE=false then(2,C,D)else if¬(x.data.length:Int)=8 then(3,C,D)else if ji C x=true then(1,C,D)else
   if(bM C.en x.bE).isSome=true∨(C.en.length:Int)<(C.n:Int)- 6 then C.eH D ⟨.put x,pS C.k x⟩else
   if C.spare.2=false then(12,C,D)else
   if(C.eH D ⟨.drop C.spare.1,C.k⟩).1≠0 then C.eH D ⟨.drop C.spare.1,C.k⟩else
   (C.eH D ⟨.drop C.spare.1,C.k⟩).2.1.add (C.eH D ⟨.drop C.spare.1,C.k⟩).2.2 ⟨.put x,pS C.k x⟩:=rfl
 have sP:=hC.bl;obtain⟨Cc,AO,Zn,hl4,hl5,Zo,hl7⟩:=hC.lim;refine ag func157 ntmps157 rfl rfl ?_;refine gc 1 ?_;refine ya (a7 (vs:=[i64 x.bE,i64 x.ve,i64 x.vs,str x.data,.bool x.bZ,i64 x.cl,i64 x.n]) rfl rfl) rfl ?_;rintro v L' ⟨b3,rfl,rfl⟩;refine gy 9 ?_;refine bK (kIn ?bl6) call193 ?_
 case bl6=>omega
 refine gy 4 ?_;refine cc rfl (fun h9=>?_) (fun h9=>?_)
 ·rw[if_pos h9]at nj;refine gc 7 ?_;refine aj results157 rfl (L1:=[cU A C,ga A C,iX A C,jO A q sl C,dev q D]++R) ae ?_;rw[nj];exact⟨_,⟨sl,rfl,hs,rfl⟩,rfl⟩
 have zW:ER C.bl x.bE=true:=h9;rw[if_neg (by rw[zW];simp)]at nj;refine gc 3 ?_;refine y (cP rfl underlying9) rfl ?_;refine gy 4 ?_;refine cc rfl (fun nf=>?_) (fun nf=>?_)
 ·rw[if_pos nf]at nj;refine gc 7 ?_;refine aj results157 rfl (L1:=[cU A C,ga A C,iX A C,jO A q sl C,dev q D]++R) ae ?_;rw[nj];exact⟨_,⟨sl,rfl,hs,rfl⟩,rfl⟩
 have h8:(x.data.length:Int)=8:=nf;rw[if_neg (fun hz=>hz h8)]at nj;refine gc 1 ?_;refine aS 24 (od [7,12,18] 24 0) (_) Tryz.mixed (by kernel_rfl) .refl ?_;unfold cU qM;refine gh 1 ?_;refine hr rfl (ay (u:=[i64 x.ve,i64 x.vs]) rfl isAgg84 sizeOf84 aL rfl rfl) rfl ?_;refine gh 4 ?_;refine hr rfl (ay (u:=[i64 C.k.e,i64 C.k.s]) rfl isAgg84 sizeOf84 aL rfl rfl) rfl ?_;refine bg rfl (HS) rfl call203 aZ rfl ?_;rintro v L' ⟨rfl,rfl⟩;refine⟨ae,?_⟩;refine gh 2 ?_;refine fZ 32 rfl (fun TC=>?_) (fun TC=>?_)
 ·refine gh 2 ?_;refine lF rfl rfl rfl rfl rfl ae ?_;refine gh 5 ?_;refine lF rfl rfl rfl rfl rfl ae ?_;refine gh 13 ?_;have dO:ji C x=true:=by unfold ji;simp[*]
  rw[if_pos dO]at nj;refine gy 6 ?_;refine aj results157 rfl (L1:=[cU A C,ga A C,iX A C,jO A q sl C,dev q D]++R) ae ?_;rw[nj];exact⟨_,⟨sl,rfl,hs,rfl⟩,rfl⟩
 refine gh 1 ?_;refine ko rfl rfl rfl (ay (u:=[i64 x.ve,i64 x.vs]) rfl isAgg84 sizeOf84 aL rfl rfl) rfl ?_;refine fk rfl rfl rfl (Uk) rfl call194 aZ rfl ?_;rintro v L' ⟨rfl,rfl⟩;refine⟨ae,?_⟩;refine gh 3 ?_;refine fZ 38 rfl (fun YP=>?_) (fun YP=>?_)
 ·refine gh 2 ?_;refine lF rfl rfl rfl rfl rfl ae ?_;refine gh 13 ?_;have dO:ji C x=true:=by unfold ji;simp[*]
  rw[if_pos dO]at nj;refine gy 6 ?_;refine aj results157 rfl (L1:=[cU A C,ga A C,iX A C,jO A q sl C,dev q D]++R) ae ?_;rw[nj];exact⟨_,⟨sl,rfl,hs,rfl⟩,rfl⟩
 refine gh 2 ?_;refine fk rfl rfl rfl (nY) rfl call192 aZ rfl ?_;rintro v L' ⟨rfl,rfl⟩;refine⟨ae,?_⟩;refine gh 3 ?_;refine fZ 44 rfl (fun h54=>?_) (fun h54=>?_)
 ·refine gh 10 ?_;have dO:ji C x=true:=by unfold ji;simp[*]
  rw[if_pos dO]at nj;refine gy 6 ?_;refine aj results157 rfl (L1:=[cU A C,ga A C,iX A C,jO A q sl C,dev q D]++R) ae ?_;rw[nj];exact⟨_,⟨sl,rfl,hs,rfl⟩,rfl⟩
 refine gh 3 ?_;refine bV ?_;refine bK (Um) call140 ?_;refine gy 4 ?_;refine cc rfl (fun Hl=>?_) (fun Hl=>?_)
 ·refine gc 1 ?_;have dO:ji C x=true:=by unfold ji;simp[*]
  rw[if_pos dO]at nj;refine gy 6 ?_;refine aj results157 rfl (L1:=[cU A C,ga A C,iX A C,jO A q sl C,dev q D]++R) ae ?_;rw[nj];exact⟨_,⟨sl,rfl,hs,rfl⟩,rfl⟩
 refine gc 4 ?_;have dO:ji C x=false:=by unfold ji;simp[*]
 rw[if_neg (by rw[dO];simp)]at nj;obtain⟨oZ,uF⟩:=GC zW h8 dO;have hKo:=CK hC.k oZ;refine gy 3 ?_;refine y (ay (u:=oK C.k) rfl isAgg152 sizeOf152 aL rfl rfl) rfl ?_;refine ya (aB zeroValue152 rfl) rfl ?_;rintro v L' ⟨b5,rfl,rfl⟩;refine bA (ai (us:=oK C.k) rfl rfl (by simp[Value.oneCell']) sizeOf152 bc rfl rfl) ?_;refine gy 4 ?_;refine y (ay (u:=[i64 x.ve,i64 x.vs]) rfl isAgg84 sizeOf84 aL rfl rfl) rfl ?_;refine gy 1 ?_;refine bA (aP (vs':=[i64 x.ve,i64 x.vs,i64 C.k.t.a,i64 C.k.t.b,i64 C.k.t.c,i64 C.k.t.d]) rfl rfl (by simp[Value.oneCell']) sizeOf84 bc rfl (by simp) rfl) ?_;refine gy 2 ?_;refine bq ?_;intro K14 Ej
 have ng: ∀z:Unit,(True)→Sk 123 K14 ([(5,ptr b5),(3,ptr b3),(0,ptr A.p)]) ([sc b5 (oK (pS C.k x)) 152,sc b3 [i64 x.bE,i64 x.ve,i64 x.vs,str x.data,.bool x.bZ,i64 x.cl,i64 x.n] 127,cU A C,ga A C,iX A C,jO A q sl C,dev q D]++R):=by
  rintro _ Ju;refine Ej _ _ ?_;unfold cU qM ga;refine gc 2 ?_;refine aS 12 (od [10,11] 12 0) (_) Tryz.mixed (by kernel_rfl) .refl ?_;refine gh 6 ?_;refine hr rfl (ic (z:=ib .zero) (kv:=oE ib C.en) rfl rfl underlying149 underlying3 zeroValue127 aL) rfl ?_;rw[mg,oa,Option.isSome_map];refine gh 3 ?_;refine ha rfl (aB zeroValue127 rfl) rfl ?_;rintro v L' ⟨b6,rfl,rfl⟩;refine⟨ae,?_⟩;refine Eo rfl (ai rfl rfl (iy _) sizeOf127 bc rfl rfl) ?_;rintro v L' ⟨rfl,rfl⟩;refine⟨ae,?_⟩;refine gh 7 ?_;refine cv 82 rfl (fun h90=>?_) (fun h90=>?_)
  ·have ee:(bM C.en x.bE).isSome=true:=h90;rw[if_pos (Or.inl ee)]at nj;refine gy 14 ?_;refine y (ay (u:=[i64 x.bE,i64 x.ve,i64 x.vs,str x.data,.bool x.bZ,i64 x.cl,i64 x.n]) rfl isAgg127 sizeOf127 aL rfl rfl) rfl ?_;refine y (bU rfl) rfl ?_;refine y (dW rfl (by kernel_rfl)) rfl ?_;refine y (ay (u:=oK (pS C.k x)) rfl isAgg152 sizeOf152 aL rfl rfl) rfl ?_;refine aA (yg (C:=C) (sl:=sl) (q:=q) (D:=D) (w:= .put x) (k:=pS C.k x) ?aeM ?ahc ?ak0) rfl call182 aZ rfl ?_
   case aeM=>exact hC
   case ahc=>exact hs
   case ak0=>exact⟨oZ,hKo⟩
   rintro v L' ⟨RG,rfl,Fg,rfl⟩;refine gy 5 ?_;refine aj results157 rfl (L1:=[cU A _,ga A _,iX A _,jO A q RG _,dev q _]++R) ae ?_;rw[nj];exact⟨_,⟨RG,rfl,Fg,rfl⟩,rfl⟩
  have ee:(bM C.en x.bE).isSome=false:=h90;refine gy 4 ?_;refine bV ?_;refine y (Tm rfl underlying149 aL) rfl ?_;rw[show(cH (oE ib C.en)).size=C.en.length by simp[cH,oE]];refine gy 1 ?_;refine bV ?_;refine bK (ahg ?akV) call204 ?_
  case akV=>omega
  refine gy 4 ?_;refine cc rfl (fun wg=>?_) (fun wg=>?_)
  ·rw[if_pos (by exact .inr (by omega))]at nj;refine gc 2 ?_;refine y (ay (u:=[i64 x.bE,i64 x.ve,i64 x.vs,str x.data,.bool x.bZ,i64 x.cl,i64 x.n]) rfl isAgg127 sizeOf127 aL rfl rfl) rfl ?_;refine y (bU rfl) rfl ?_;refine y (dW rfl (by kernel_rfl)) rfl ?_;refine y (ay (u:=oK (pS C.k x)) rfl isAgg152 sizeOf152 aL rfl rfl) rfl ?_;refine aA (yg (C:=C) (sl:=sl) (q:=q) (D:=D) (w:= .put x) (k:=pS C.k x) ?XW ?ZV ?ab2) rfl call182 aZ rfl ?_
   case XW=>exact hC
   case ZV=>exact hs
   case ab2=>exact⟨oZ,hKo⟩
   rintro v L' ⟨RG,rfl,Fg,rfl⟩;refine gy 5 ?_;refine aj results157 rfl (L1:=[cU A _,ga A _,iX A _,jO A q RG _,dev q _]++R) ae ?_;rw[nj];exact⟨_,⟨RG,rfl,Fg,rfl⟩,rfl⟩
  rw[if_neg (fun hz=>hz.elim (fun h=>by rw[ee]at h;cases h) (fun h=>by omega))]at nj;refine gc 4 ?_;refine bK (Z6 (C:=C) ?aej) call205 ?_
  case aej=>omega
  refine gy 13 ?_;refine cc rfl (fun xL=>?_) (fun xL=>?_)
  ·rw[if_pos xL]at nj;refine gc 6 ?_;refine aj results157 rfl (L1:=[cU A C,ga A C,iX A C,jO A q sl C,dev q D]++R) ae ?_;rw[nj];exact⟨_,⟨sl,rfl,hs,rfl⟩,rfl⟩
  have fZ:C.spare.2=true:=xL;rw[if_neg (by rw[fZ];simp)]at nj;refine gc 6 ?_;refine y (bU rfl) rfl ?_;refine y (dW rfl (by kernel_rfl)) rfl ?_;refine gy 3 ?_;refine y (ay (u:=oK C.k) rfl isAgg152 sizeOf152 aL rfl rfl) rfl ?_;refine aA (yg (C:=C) (sl:=sl) (q:=q) (D:=D) (w:= .drop C.spare.1) (k:=C.k) ?GR ?HR ?ab4) rfl call182 aZ rfl ?_
  case GR=>exact hC
  case HR=>exact hs
  case ab4=>exact⟨tK hC fZ,hC.k⟩
  rintro v L' ⟨RE,rfl,J6,rfl⟩;have Wq:=aQ.kl (C:=C) (D:=D) (r:=⟨.drop C.spare.1,C.k⟩);have hco:=hC.eH (r:=⟨.drop C.spare.1,C.k⟩) ⟨tK hC fZ,hC.k⟩;generalize C.eH D ⟨.drop C.spare.1,C.k⟩=dr at*;obtain⟨ed,C1,D1⟩:=dr;dsimp only at*;refine gy 8 ?_;refine cc rfl (fun xO=>?_) (fun xO=>?_)
  ·rw[if_pos xO]at nj;refine gc 7 ?_;refine aj results157 rfl (L1:=[cU A C1,ga A C1,iX A C1,jO A q RE C1,dev q D1]++R) ae ?_;rw[nj];exact⟨_,⟨RE,rfl,J6,rfl⟩,rfl⟩
  rw[if_neg (fun hz=>hz xO)]at nj;refine gc 4 ?_;refine y (ay (u:=[i64 x.bE,i64 x.ve,i64 x.vs,str x.data,.bool x.bZ,i64 x.cl,i64 x.n]) rfl isAgg127 sizeOf127 aL rfl rfl) rfl ?_;refine y (bU rfl) rfl ?_;refine y (dW rfl (by kernel_rfl)) rfl ?_;refine y (ay (u:=oK (pS C.k x)) rfl isAgg152 sizeOf152 aL rfl rfl) rfl ?_;refine aA (Z4 (C:=C1) (sl:=RE) (q:=q) (D:=D1) (w:= .put x) (k:=pS C.k x) ?X0 ?ZZ ?ab5) rfl call206 aZ rfl ?_
  case X0=>exact hco
  case ZZ=>exact J6
  case ab5=>exact⟨by rw[Wq.1];exact oZ,hKo⟩
  rintro v L' ⟨W9,rfl,aiU,rfl⟩;refine gy 4 ?_;refine aj results157 rfl (L1:=[cU A _,ga A _,iX A _,jO A q W9 _,dev q _]++R) ae ?_;rw[nj];exact⟨_,⟨W9,rfl,aiU,rfl⟩,rfl⟩
 clear Ej;refine gc 6 ?_;refine cc rfl (fun Ot=>?_) (fun Ot=>?_)
 ·have Eu:x.cl=0∨x.cl=1∨x.cl=2∨x.cl=3:=by have:=oZ.cl;omega
  obtain⟨bE,ve,vs,data,bZ,cl,n⟩:=x;dsimp only at Eu oZ ⊢;refine aS 12 (od [] 12 0) (_) Tryz.mixed (by kernel_rfl) .refl ?_;refine gh 5 ?_;refine hr rfl (dR rfl rfl underlying32 sizeOf2 (by omega) (by omega)) rfl ?_;refine hr rfl (bR (v:=i64 (C.k.t.get cl)) rfl isAgg2 aL (by rcases Eu with rfl|rfl|rfl|rfl<;>rfl)) rfl ?_;refine gh 2 ?_;refine hr rfl (mK rfl rfl) rfl ?_;rw[Ph];refine gh 1 ?_;refine hr rfl (dR rfl rfl underlying32 sizeOf2 (by omega) (by omega)) rfl ?_;refine gh 1 ?_;refine bA (an (vs':=oK (pS C.k ⟨bE,ve,vs,data,bZ,cl,n⟩)) rfl rfl rfl sizeOf2 bc (by rcases Eu with rfl|rfl|rfl|rfl<;>rfl) (by rcases Eu with rfl|rfl|rfl|rfl<;>rfl)) ?_;refine gy 2 ?_;exact aV aq ae (ng () trivial)
 have hKe:pS C.k x=⟨x.ve,x.vs,C.k.t⟩:=by unfold pS;rw[if_neg (by omega)]
 refine gc 2 ?_
 (rw[hKe]at ng;exact aV aq ae (ng () trivial))
theorem Xs [Env]{R:List ax}{q:Q3}{D:az}{first n a b:Int}(hD:D.ok)(ha:a≤9223372036854775807)(hb:b≤9223372036854775807)(h:(bh D first n a b).1=0):
   bC Tryz.prog 81 [dp q,i64 first,i64 n,i64 a,i64 b] [dev q D] R (fun u L'=> ∃p c sl,u= .tuple #[ptr p,i64 0]∧g6 sl (bh D first n a b).2.1∧L'=[fX p c q sl (bh D first n a b).2.1,dev q (bh D first n a b).2.2]):=by
 refine(WO (R:=R) (q:=q) (first:=first) (n:=n) (a:=a) (b:=b) hD ha hb).via (.refl _) ?_;rintro v L (⟨h1,_⟩|⟨_,p,c,sl,rfl,h2,rfl⟩)
 · exact absurd h h1
 exact⟨_,⟨p,c,sl,rfl,h2,rfl⟩,pG2.symm⟩
theorem Xr [Env]{R:List ax}{q:Q3}{D:az}{first n a b:Int}(hD:D.ok)(ha:a≤9223372036854775807)(hb:b≤9223372036854775807)(h: ¬(bh D first n a b).1=0):
   bC Tryz.prog 81 [dp q,i64 first,i64 n,i64 a,i64 b] [dev q D] R (Is (.tuple #[jx,i64 (bh D first n a b).1]) [dev q (bh D first n a b).2.2]):=by
 refine(WO (R:=R) (q:=q) (first:=first) (n:=n) (a:=a) (b:=b) hD ha hb).mono ?_;rintro v L (⟨h1,rfl,rfl⟩|⟨h1,_⟩)
 · exact⟨rfl,rfl⟩
 exact absurd h1 h
def KCO(r:Int × aQ × az)(q:Q3)(u:Value)(L':List ax):Prop:=
 (r.1≠0∧u= .tuple #[jx,i64 r.1]∧L'=[dev q r.2.2])∨
 (r.1=0∧ ∃A sl,u= .tuple #[ptr A.p,i64 0]∧g6 sl r.2.1.l∧L'=[cU A r.2.1,ga A r.2.1,iX A r.2.1,jO A q sl r.2.1,dev q r.2.2])
theorem RR{l:List (Bytes × Int)}{i:Nat}{x:Bytes × Int}(h:l[i]? =some x):(l.map (·.1))[i]? =some x.1:=by simp[h]
theorem ahe [Env]{R:List ax}{q:Q3}{D:az}{first n a b bl:Int}(hD:D.ok)(ha:a≤9223372036854775807)(hb:b≤9223372036854775807):
   bC Tryz.prog 45 [dp q,i64 first,i64 n,i64 a,i64 b,i64 bl] [dev q D] R (KCO (bQ D first n a b bl) q):=by
 have gj:bQ D first n a b bl=if bl<1∨32<bl∨n<8 then(1,gB (kC D first n.toNat a b) bl.toNat,D)else
   if(bh D first n a b).1≠0 then((bh D first n a b).1,gB (bh D first n a b).2.1 bl.toNat,(bh D first n a b).2.2)else
   match gR bl.toNat (bh D first n a b).2.1.l (bh D first n a b).2.1.head (gB (bh D first n a b).2.1 bl.toNat)with
   |none=>(4,gB (bh D first n a b).2.1 bl.toNat,(bh D first n a b).2.2)
   |some C=>(0,C,(bh D first n a b).2.2):=rfl
 refine ag func45 ntmps45 rfl rfl ?_;refine gc 10 ?_;refine cv 23 rfl (fun h6=>?_) (fun h6=>?_)
 ·refine gy 11 ?_
  try rw[if_pos (by omega)]at gj
  refine gy 6 ?_;refine bm results45 rfl rfl (L1:=[dev q D]++R) ae ?_;rw[gj];exact⟨_,.inl ⟨by show(_:Int)≠0;simp,rfl,rfl⟩,rfl⟩
 refine gy 4 ?_;refine cv 27 rfl (fun nf=>?_) (fun nf=>?_)
 ·refine gy 7 ?_
  try rw[if_pos (by omega)]at gj
  refine gy 6 ?_;refine bm results45 rfl rfl (L1:=[dev q D]++R) ae ?_;rw[gj];exact⟨_,.inl ⟨by show(_:Int)≠0;simp,rfl,rfl⟩,rfl⟩
 refine gy 5 ?_;refine cc rfl (fun OA=>?_) (fun OA=>?_)
 ·rw[if_pos (by omega)]at gj;refine gc 1 ?_
  try rw[if_pos (by omega)]at gj
  refine gy 6 ?_;refine bm results45 rfl rfl (L1:=[dev q D]++R) ae ?_;rw[gj];exact⟨_,.inl ⟨by show(_:Int)≠0;simp,rfl,rfl⟩,rfl⟩
 rw[if_neg (by omega)]at gj;have B5:1≤bl.toNat∧bl.toNat≤32:=by omega
 have hn8:8≤n.toNat:=by omega
 obtain⟨bn,hbn⟩: ∃bn:Nat,bl=bn:=⟨bl.toNat,by omega⟩;obtain⟨nn,AP⟩: ∃nn:Nat,n=nn:=⟨n.toNat,by omega⟩;subst hbn;subst AP;rw[Int.toNat_natCast]at B5 gj;rw[Int.toNat_natCast]at hn8;refine gc 8 ?_
 by_cases ho:(bh D first nn a b).1=0
 ·(refine aA (Xs hD ha hb ho) rfl call81 aZ rfl ?_;rintro v L' ⟨CJ,DF,RF,rfl,ajl,rfl⟩;obtain⟨TL,hLn⟩:=rF hD ho;rw[if_neg (fun hz=>hz ho)]at gj;rw[Int.toNat_natCast]at hLn;generalize bh D first nn a b=lo at*;obtain⟨elo,L,D1⟩:=lo;dsimp only at*;subst hLn)
  refine gy 20 ?_;refine ya (nL) rfl ?_;rintro v L' ⟨qC,rfl,rfl⟩;refine ya (nL) rfl ?_;rintro v L' ⟨Gy,rfl,rfl⟩;refine y (jB (zs:=_) rfl underlying154 zeroValue154 rfl (.cons sizeOf146 (.cons sizeOf3 (.cons sizeOf3 (.cons sizeOf149 (.cons sizeOf150 (.cons sizeOf152 .nil)))))) ⟨⟨_,_,rfl,(by rfl),(by decide)⟩,⟨⟨_,_,rfl,(by rfl),(by decide)⟩,⟨⟨_,_,rfl,(by rfl),(by decide)⟩,⟨⟨_,_,rfl,(by rfl),(by decide)⟩,⟨⟨_,_,rfl,(by rfl),(by decide)⟩,trivial⟩⟩⟩⟩⟩ (by dsimp[bt,aX,aY]<;>rfl)) rfl ?_;refine ya (a7 (vs:=qM ⟨0,CJ,DF,qC,Gy⟩ (gB L bn)) rfl rfl) rfl ?_;rintro v L' ⟨F9,rfl,rfl⟩;refine gy 3 ?_;refine bq ?_;intro VX wh;refine gc 1 ?_;have hI0:=F5.init TL B5 hn8;have agh:L.l.length≤512:=by have h1:=TL.l;have h2:=TL.first;have h3:=TL.d.n;omega
  have Gi:=TL.tail;have Ze:=TL.head;have M5:L.n≤512:=by have h2:=TL.first;have h3:=TL.d.n;omega
  refine gy 1 ?_;refine aA (NA ajl agh) rfl call82 aZ rfl ?_;rintro v L' ⟨s51,rfl,Vb,rfl⟩;have hv:cE [aD s51 9 (cn (L.l.map (·.1)))] (aG s51 (L.l.map (·.1)).length) (L.l.map (·.1)).length (cn (L.l.map (·.1))):=bG .z Vb;have hml:(L.l.map (·.1)).length=L.l.length:=by simp
  refine y (bH rfl underlying86 (by assumption)) rfl ?_;refine gy 3 ?_
  have fQ: ∀x:Nat × aQ,((F5 L bn D1 x.1 x.2∧x.1≤L.l.length)∧(x.1=L.l.length))→Sk 75 VX ([(53,i64 x.1),(52,i64 (L.l.map (·.1)).length),(51,aG s51 (L.l.map (·.1)).length),(16,ptr F9),(14,ptr CJ)]) ([aD s51 9 (cn (L.l.map (·.1))),cU ⟨F9,CJ,DF,qC,Gy⟩ x.2,ga ⟨F9,CJ,DF,qC,Gy⟩ x.2,iX ⟨F9,CJ,DF,qC,Gy⟩ x.2,fX CJ DF q RF L,dev q D1]++R):=by
   rintro⟨i,C⟩ ⟨bJ,eK⟩;refine wh _ _ ?_;obtain⟨hI,hi⟩:=bJ;dsimp only at hI hi ⊢;dsimp only at eK;subst eK;rw[hI.arK]at gj;dsimp only at gj;refine gc 7 ?_;refine bm results45 rfl rfl (L1:=[cU ⟨F9,CJ,DF,qC,Gy⟩ C,ga ⟨F9,CJ,DF,qC,Gy⟩ C,iX ⟨F9,CJ,DF,qC,Gy⟩ C,fX CJ DF q RF L,dev q D1]++R) ae ?_;rw[gj];exact⟨_,.inr ⟨rfl,⟨F9,CJ,DF,qC,Gy⟩,RF,rfl,by rw[hI.l];exact ajl,by unfold jO;rw[hI.l]⟩,rfl⟩
  clear wh;refine gc 1 ?_;refine bO (A:=Nat × aQ) (fun x=>[(53,i64 x.1),(52,i64 (L.l.map (·.1)).length),(51,aG s51 (L.l.map (·.1)).length),(16,ptr F9),(14,ptr CJ)]) (fun x=>[aD s51 9 (cn (L.l.map (·.1))),cU ⟨F9,CJ,DF,qC,Gy⟩ x.2,ga ⟨F9,CJ,DF,qC,Gy⟩ x.2,iX ⟨F9,CJ,DF,qC,Gy⟩ x.2,fX CJ DF q RF L,dev q D1]++R) (fun x=>F5 L bn D1 x.1 x.2∧x.1≤L.l.length) (fun x=>L.l.length-x.1) ((0,gB L bn)) ?_ aq ae ?_
  · exact⟨hI0,Nat.zero_le _⟩
  rintro⟨i,C⟩ bJ kt cI;have cC:=bJ;obtain⟨hI,hi⟩:=bJ;dsimp only at hI hi ⊢;refine gc 5 ?_;refine cc rfl (fun Gc=>?_) (fun Gc=>?_)
  ·obtain⟨y0,Ck⟩: ∃y0,L.l[i]? =some y0:=⟨_,List.getElem?_eq_getElem (by omega)⟩;have atS:=(TL.M9 y0 (List.mem_of_getElem? Ck)).1;refine gc 6 ?_;refine y (aK hv rfl rfl underlying86 sizeOf9 (by omega) (by omega)) rfl ?_;refine y (au i hv ae rfl isAgg9 (by simp) (fR (RR Ck))) rfl ?_;refine gy 7 ?_;refine aA (ahf (A:=⟨F9,CJ,DF,qC,Gy⟩) (C:=C) ?ani ?anr) rfl call83 aZ rfl ?_
   case ani=>rw[hI.b];omega
   case anr=>omega
   rintro v L' ⟨rfl,WD⟩;rw[hI.b]at WD;rcases WD with⟨r0,EK,rfl⟩|⟨EK,us,hu7,hu1,rfl⟩
   ·refine gy 3 ?_;refine ya (aB zeroValue157 rfl) rfl ?_;rintro v L' ⟨b19,rfl,rfl⟩
    (refine Xf (ai rfl rfl (Fy r0) sizeOf157 bc rfl rfl) ?_;rintro v L' ⟨rfl,rfl⟩)
    refine gy 12 ?_;refine aS 6 [(0,true),(1,true),(2,true),(4,true),(3,false),(5,true)] (_) Tryz.mixed (by kernel_rfl) .refl ?_;refine gh 1 ?_;refine hr rfl (ay (u:=mf r0) rfl isAgg157 sizeOf157 aL rfl rfl) rfl ?_;refine gh 2 ?_;refine bg rfl (Nz (p:=CJ) (c:=DF) (q:=q) (sl:=RF) (L:=L)) rfl call85 aZ rfl ?_;rintro v L' ⟨rfl,rfl⟩;refine⟨ae,?_⟩;refine gh 1 ?_;rw[wr (by unfold aU.tail at Gi;omega) (by unfold aU.tail at Gi;omega)];refine gh 1 ?_;refine bK (WH (A:=⟨F9,CJ,DF,qC,Gy⟩) (C:=C) (r:=r0) (num:=L.head+i) ?ahU) call84 ?_
    case ahU=>exact hI.ok.m
    refine gy 5 ?_;rw[show IntKind.i64.wrap ((i:Int)+1)=((i+1:Nat):Int)by rw[wr (by omega) (by omega)];rfl];refine gy 3 ?_;exact cI ((i+1,C.ec r0 (L.head+i))) (⟨hI.step Ck EK,by dsimp only;omega⟩) (by dsimp only;omega) _ _ aq ae
   refine gy 3 ?_;refine ya (aB zeroValue157 rfl) rfl ?_;rintro v L' ⟨b19,rfl,rfl⟩
   (refine Xf (ai rfl rfl hu1 sizeOf157 bc hu7 rfl) ?_;rintro v L' ⟨rfl,rfl⟩)
   refine gy 11 ?_;rw[hI.fail Ck EK]at gj;refine gy 11 ?_;refine bm results45 rfl rfl (L1:=[dev q D1]++R) ae ?_;rw[gj];exact⟨_,.inl ⟨by show(_:Int)≠0;simp,rfl,rfl⟩,rfl⟩
  refine gc 5 ?_;exact aV aq ae (fQ ⟨i,C⟩ ⟨cC,by dsimp only;omega⟩)
 (refine aA (Xr hD ha hb ho) rfl call81 aZ rfl ?_;rintro v L' ⟨rfl,rfl⟩;rw[if_pos ho]at gj)
 refine gy 13 ?_;refine cc rfl (fun MY=>?_) (fun MY=>?_)
 ·refine gc 8 ?_;refine bm results45 rfl rfl (L1:=[dev q (bh D first nn a b).2.2]++R) ae ?_;rw[gj];exact⟨_,.inl ⟨ho,rfl,rfl⟩,rfl⟩
 exact absurd MY ho
theorem ahO [Env]{R:List ax}{v:Value}{l:List Wi}(hv:cE R v l.length (VS l))(hl:l.length≤1000):bC Tryz.prog 133 [v] [] R (Is (.bool (l.all uY)) []):=by
 have ZP:=hv.bo;refine ag func133 ntmps133 rfl rfl ?_;refine gc 4 ?_;refine bq ?_;intro K2 gM;refine gc 2 ?_;refine y (bu rfl underlying242 (cE.bo (by assumption))) rfl ?_;refine gy 3 ?_
 have fQ: ∀x:Nat,((x≤l.length∧(l.take x).all uY=true)∧(x=l.length))→Sk 24 K2 ([(7,i64 x),(6,i64 l.length),(5,v)]) (R):=by
  rintro k ⟨bJ,eK⟩;refine gM _ _ ?_;obtain⟨hk,cq⟩:=bJ;subst eK;rw[List.take_length]at cq;refine gc 5 ?_;refine aj results133 rfl (L1:=R) ae ?_;exact⟨_,⟨by rw[cq],rfl⟩,by rfl⟩
 clear gM;refine gc 1 ?_;refine bO (A:=Nat) (fun x=>[(7,i64 x),(6,i64 l.length),(5,v)]) (fun x=>R) (fun x=>x≤l.length∧(l.take x).all uY=true) (fun x=>l.length-x) (0) ?_ aq ae ?_
 · exact⟨Nat.zero_le _,by simp⟩
 rintro k bJ kt cI;have cC:=bJ;obtain⟨hk,cq⟩:=bJ;refine gc 5 ?_;refine cc rfl (fun h7=>?_) (fun h7=>?_)
 ·obtain⟨x,hx⟩: ∃x,l[k]? =some x:=⟨_,List.getElem?_eq_getElem (by omega)⟩;refine gc 5 ?_;refine y (aK hv rfl rfl underlying242 sizeOf202 (by omega) (by omega)) rfl ?_;refine y (dB (us:=[i64 x.1,i64 x.2.1,i64 x.2.2]) (k*3) hv ae rfl isAgg202 sizeOf202 (by simp) (F3 _ _ _ hx) rfl) rfl ?_;refine ya (aB zeroValue202 rfl) rfl ?_;rintro v L' ⟨b4,rfl,rfl⟩;refine bA (ai rfl rfl (by simp[Value.oneCell']) sizeOf202 bc (by rfl) (by rfl)) ?_;refine gy 9 ?_;refine cv 16 rfl (fun Dc=>?_) (fun Dc=>?_)
  ·refine gy 10 ?_;have eF:l.all uY=false:=List.all_eq_false.2 ⟨x,List.mem_of_getElem? hx,by simp[uY,aI];omega⟩;refine gy 9 ?_;refine aj results133 rfl (L1:=R) ae ?_;exact⟨_,⟨by rw[eF],rfl⟩,by rfl⟩
  refine gy 8 ?_;refine cc rfl (fun Gb=>?_) (fun Gb=>?_)
  ·refine gc 1 ?_;have eF:l.all uY=false:=List.all_eq_false.2 ⟨x,List.mem_of_getElem? hx,by simp[uY,aI];omega⟩;refine gy 9 ?_;refine aj results133 rfl (L1:=R) ae ?_;exact⟨_,⟨by rw[eF],rfl⟩,by rfl⟩
  refine gc 4 ?_;have eV:(l.take (k+1)).all uY=true:=by rw[dg hx,List.all_append,cq];simp[uY,aI];omega
  refine gy 1 ?_;rw[show IntKind.i64.wrap ((k:Int)+1)=((k+1:Nat):Int)by rw[wr (by omega) (by omega)];rfl];refine gy 3 ?_;exact cI (k+1) (⟨by omega,eV⟩) (by omega) _ _ aq ae
 refine gc 5 ?_;exact aV aq ae (fQ k ⟨cC,by omega⟩)
def PH(m:aM)(k:Nat):Bool:=(List.range k).all fun z=>aI (m.tn z) 0 4611686018427387904
theorem ahP [Env]{R:List ax}{m:aM}:bC Tryz.prog 72 [.agg m.cells.toArray] [] R (Is (.bool m.may) []):=by
 refine ag func72 ntmps72 rfl rfl ?_;refine gc 1 ?_;refine ya (a7 (vs:=m.cells) rfl rfl) rfl ?_;rintro v L' ⟨b1,rfl,rfl⟩;refine gy 3 ?_;refine bq ?_;intro K2 gM;refine gc 2 ?_;refine y (ay (u:=[i64 m.t0,i64 m.t1,i64 m.t2,i64 m.t3]) rfl isAgg32 sizeOf32 aL rfl rfl) rfl ?_;refine gy 3 ?_
 have fQ: ∀x:Nat,((x≤4∧PH m x=true)∧(x=4))→Sk 51 K2 ([(7,i64 x),(6,.agg #[i64 m.t0,i64 m.t1,i64 m.t2,i64 m.t3]),(1,ptr b1)]) ([sc b1 m.cells 34]++R):=by
  rintro k ⟨bJ,eK⟩;refine gM _ _ ?_;obtain⟨hk,cq⟩:=bJ;subst eK;have hm4:aI m.t0 0 4611686018427387904=true∧aI m.t1 0 4611686018427387904=true∧aI m.t2 0 4611686018427387904=true∧aI m.t3 0 4611686018427387904=true:=by simpa[PH,List.range,List.range.loop,aM.tn]using cq
  have lQ:=UB hm4;refine gc 3 ?_;refine y (cP rfl underlying9) rfl ?_;refine gy 2 ?_;refine cv 20 rfl (fun h41=>?_) (fun h41=>?_)
  ·refine gy 2 ?_;refine bV ?_;refine y (cP rfl underlying9) rfl ?_;refine gy 3 ?_;refine cv 26 rfl (fun OF=>?_) (fun OF=>?_)
   ·refine gy 2 ?_;refine bV ?_;refine y (cA ([i64 m.kind,i64 1,i64 15])) rfl ?_;refine gy 2 ?_;refine bV ?_;refine y (cA ([i64 m.ah,i64 0,i64 4611686018427387904])) rfl ?_;refine gy 2 ?_;refine bV ?_;refine y (cA ([i64 m.seq,i64 0,i64 4611686018427387904])) rfl ?_;refine gy 2 ?_;refine bV ?_;refine y (cA ([i64 m.n,i64 (-4611686018427387904),i64 4611686018427387904])) rfl ?_;refine gy 2 ?_;refine bV ?_;refine y (cA ([i64 m.block,i64 (-1),i64 31])) rfl ?_;refine gy 2 ?_;refine bV ?_;refine y (cA ([i64 m.eU,i64 (-1),i64 3])) rfl ?_;refine gy 2 ?_;refine bV ?_;refine y (cA ([i64 m.e,i64 0,i64 31])) rfl ?_;refine bV ?_;refine ya (aE (vs:=[i64 m.kind,i64 1,i64 15,i64 m.ah,i64 0,i64 4611686018427387904,i64 m.seq,i64 0,i64 4611686018427387904,i64 m.n,i64 (-4611686018427387904),i64 4611686018427387904,i64 m.block,i64 (-1),i64 31,i64 m.eU,i64 (-1),i64 3,i64 m.e,i64 0,i64 31]) rfl underlying242 sizeOf202 zeroValue202 rfl rfl rfl rfl ⟨⟨_,_,rfl,(by rfl),(by decide)⟩,⟨⟨_,_,rfl,(by rfl),(by decide)⟩,⟨⟨_,_,rfl,(by rfl),(by decide)⟩,⟨⟨_,_,rfl,(by rfl),(by decide)⟩,⟨⟨_,_,rfl,(by rfl),(by decide)⟩,⟨⟨_,_,rfl,(by rfl),(by decide)⟩,⟨⟨_,_,rfl,(by rfl),(by decide)⟩,trivial⟩⟩⟩⟩⟩⟩⟩ (by dsimp[bt,aX,aY,bS]<;>rfl)) rfl ?_;rintro v L' ⟨b48,rfl,rfl⟩;refine bV ?_;refine bK (ahO (l:=[(m.kind,1,15),(m.ah,0,4611686018427387904),(m.seq,0,4611686018427387904),(m.n,-4611686018427387904,4611686018427387904),(m.block,-1,31),(m.eU,-1,3),(m.e,0,31)]) ?amD ?ahE) call133 ?_
    case amD=>exact eh aL rfl rfl
    case ahE=>simp
    refine gy 5 ?_;refine aj results72 rfl (L1:=R) ae ?_;exact⟨_,⟨by(rw[lQ];simp_all),rfl⟩,by rfl⟩
   refine gy 28 ?_;refine aj results72 rfl (L1:=R) ae ?_;exact⟨_,⟨by(rw[lQ];simp;omega),rfl⟩,by rfl⟩
  refine gy 34 ?_;refine aj results72 rfl (L1:=R) ae ?_;exact⟨_,⟨by(rw[lQ];simp;omega),rfl⟩,by rfl⟩
 clear gM;refine gc 1 ?_;refine bO (A:=Nat) (fun x=>[(7,i64 x),(6,.agg #[i64 m.t0,i64 m.t1,i64 m.t2,i64 m.t3]),(1,ptr b1)]) (fun x=>[sc b1 m.cells 34]++R) (fun x=>x≤4∧PH m x=true) (fun x=>4-x) (0) ?_ aq ae ?_
 · exact⟨Nat.zero_le _,rfl⟩
 rintro k bJ kt cI;have cC:=bJ;obtain⟨hk,cq⟩:=bJ;refine gc 5 ?_;refine cc rfl (fun Gf=>?_) (fun Gf=>?_)
 ·have hix:([i64 m.t0,i64 m.t1,i64 m.t2,i64 m.t3]:List Value)[k]? =some (i64 (m.tn k)):=by
    match k,hk with
    |0,_=>rfl
    |1,_=>rfl
    |2,_=>rfl
    |3,_=>rfl
    |4,_=>omega
  refine gc 5 ?_;refine y (wP rfl rfl underlying32 isAgg2 sizeOf2 (by omega) (by omega) (by exact hix)) rfl ?_;refine gy 5 ?_;refine y (bU rfl) rfl ?_;refine ya (aE rfl underlying242 sizeOf202 zeroValue202 rfl rfl rfl rfl ⟨⟨_,_,rfl,(by rfl),(by decide)⟩,trivial⟩ (by dsimp[bt,aX,aY,bS]<;>rfl)) rfl ?_;rintro v L' ⟨b12,rfl,rfl⟩;refine bK (ahO (l:=[(m.tn k,0,4611686018427387904)]) ?amE ?ahF) call133 ?_
  case amE=>exact eh aL rfl rfl
  case ahF=>simp
  refine gy 3 ?_;refine cc rfl (fun YV=>?_) (fun YV=>?_)
  ·refine gc 1 ?_;have eF:m.may=false:=UC (k:=k) (by omega) (by simp_all [uY]);refine gy 9 ?_;refine aj results72 rfl (L1:=R) ae ?_;exact⟨_,⟨by rw[eF],rfl⟩,by rfl⟩
  refine gc 4 ?_;have eV:PH m (k+1)=true:=by unfold PH at cq ⊢;rw[List.range_succ,List.all_append,cq];simp_all [uY]
  refine gy 1 ?_;rw[show IntKind.i64.wrap ((k:Int)+1)=((k+1:Nat):Int)by rw[wr (by omega) (by omega)];rfl];refine gy 3 ?_;exact cI (k+1) (⟨by omega,eV⟩) (by omega) _ _ aq ae
 refine gc 5 ?_;exact aV aq ae (fQ k ⟨cC,by omega⟩)
end W
end Go.Proofs