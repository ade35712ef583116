/- A part of the proof. -/
import Derived.Test.YtlignadmmopdmaaGreatUn
import Derived.Test.YtlignadmmopdmaaGreatNodO
import Derived.Test.YtlignadmmopdmaaGreatGI
import Derived.Test.YtlignadmmopdmaaGreatGE
set_option linter.unusedVariables false
set_option linter.unusedSimpArgs false
set_option linter.constructorNameAsVariable false
namespace Go.Proofs
open _root_.Go.Proofs.Tryz
open Go Go.Sl
namespace W
set_option maxHeartbeats 4000000
abbrev Rn(id serial lease patience bl:Int)(pf pl pc:Value)(s:Value):List Value:=[i64 id,i64 serial,i64 lease,i64 patience,i64 bl,pf,pl,pc,i64 0,.bool false,.bool false,i64 0,i64 0,i64 0,i64 0,i64 0,i64 0,i64 0,i64 0,i64 0,i64 0,i64 0,i64 0,i64 0,i64 0,fp,i64 0,i64 0,i64 0,i64 0,fp,s]
theorem PV [Env]{R:List ax}{p:Nat}{id serial lease patience bl:Int}:bC Tryz.prog 42 [ptr p] [sc p (Rn id serial lease patience bl jx jx jx jx) 106] R (fun v L'=> ∃p3,v= .tuple #[]∧L'=[sc p (Rn id serial lease patience bl jx jx jx (ptr p3)) 106,eu p3 none (dC.new 0),iZ none (dC.new 0)]):=by
 refine ag func42 ntmps42 rfl rfl ?_;refine gc 2 ?_;refine aA (A3) rfl call74 aZ rfl ?_;rintro v L' ⟨p3,rfl,rfl⟩;refine y (bU rfl) rfl ?_;refine gy 2 ?_;refine bA (aP (us:=[i64 0,i64 0,i64 0,i64 0,fp,ptr p3]) (vs':=Rn id serial lease patience bl jx jx jx (ptr p3)) rfl rfl (by simp[Value.oneCell']) sizeOf104 bc rfl (by simp) rfl) ?_;refine gy 1 ?_;refine aN results42 (L1:=[sc p _ 106,eu _ _ _,iZ _ _]++R) ae ?_;exact⟨_,⟨p3,rfl,rfl⟩,rfl⟩
def Ni(r:Int × aa)(q:Q3)(u:Value)(L':List ax):Prop:=
 (r.1≠0∧u= .tuple #[jx,i64 r.1]∧L'=[dev q r.2.d])∨(r.1=0∧ ∃F V,F.q=q∧u= .tuple #[ptr F.p,i64 0]∧ct V r.2∧L'=ao F V r.2)
theorem w3n{n lo hi:Int}(h:aI n lo hi=false):n<lo∨hi<n:=by
 rw[←Bool.not_eq_true,ca]at h;omega
theorem sF{s:Bytes}{rc:RecM}{er:Int}(h:bX s=(rc,er))(hb: ¬er=0∨ ¬rc.kind=50∨ ¬rc.aH.length=1∨ ¬rc.texts.length=0):fact s=none:=by
 unfold fact;rw[h];exact if_neg (fun hh=>by dsimp only at hh;omega)
theorem Oe{s:Bytes}{k x0:Int}{ts:List Bytes}(h:bX s=(⟨k,[x0],ts⟩,0))(hk:k=50)(ht:ts.length=0):fact s=if aI x0 0 4611686018427387904=true then some x0 else none:=by
 unfold fact;rw[h];subst hk
 by_cases c:aI x0 0 4611686018427387904=true
 · have:=ca.1 c;rw[if_pos c,if_pos ⟨rfl,rfl,rfl,ht,this.1,this.2⟩];rfl
 rw[if_neg c,if_neg (fun hh=>c (ca.2 ⟨hh.2.2.2.2.1,hh.2.2.2.2.2⟩))]
theorem E3 [Env]{R:List ax}{q:Q3}{D:az}{id serial bl lease patience:Int}(hD:D.ok):
   bC Tryz.prog 19 [i64 id,i64 serial,dp q,i64 bl,i64 lease,i64 patience] [dev q D] R (Ni (cO id serial D bl lease patience) q):=by
 obtain⟨hh,hh0⟩: ∃z,cO id serial D bl lease patience=z:=⟨_,rfl⟩
 have LB:hh=if gT id serial lease patience then(1,oU D)else if cg D 0 1≠0 then(cg D 0 1,oU D)else if nS D 2 3 bl≠0 then(nS D 2 3 bl,oU D)else
   if(bQ D 6 ((D.l.length:Int)- 6) 4 5 bl).1≠0 then((bQ D 6 ((D.l.length:Int)- 6) 4 5 bl).1,oU (bQ D 6 ((D.l.length:Int)- 6) 4 5 bl).2.2)else
   gG (ka id serial lease patience bl (aF D 0 1) (mJ D 2 3 bl.toNat) (bQ D 6 ((D.l.length:Int)- 6) 4 5 bl).2.1 (bQ D 6 ((D.l.length:Int)- 6) 4 5 bl).2.2):=hh0▸rfl
 rw[hh0];have hDn:=hD.n;have dO: ∀e:Int,∀D',hh=(e,oU D')→e≠0→Ni hh q (.tuple #[jx,i64 e]) [dev q D']:=fun e D' h1 h2=> .inl ⟨by rw[h1];exact h2,by rw[h1],by rw[h1];rfl⟩
 refine ag func19 ntmps19 rfl rfl ?_;refine gc 10 ?_;refine cv 20 rfl (fun AG=>?_) (fun AG=>?_)
 ·have LA:gT id serial lease patience:= .inl (by simpa using AG);refine gy 26 ?_;have pF:hh=(1,oU D):=LB.trans (if_pos LA);refine gy 6 ?_;refine bm results19 rfl rfl (L1:=[dev q D]++R) ae ?_;exact⟨_,dO _ _ pF (by decide),rfl⟩
 refine gy 4 ?_;refine cv 24 rfl (fun TC=>?_) (fun TC=>?_)
 ·have LA:gT id serial lease patience:= .inr (.inl (by simpa using TC));refine gy 22 ?_;have pF:hh=(1,oU D):=LB.trans (if_pos LA);refine gy 6 ?_;refine bm results19 rfl rfl (L1:=[dev q D]++R) ae ?_;exact⟨_,dO _ _ pF (by decide),rfl⟩
 refine gy 1 ?_;refine bV ?_;refine bK (qm) call41 ?_;refine gy 3 ?_;refine cv 29 rfl (fun MV=>?_) (fun MV=>?_)
 ·have LA:gT id serial lease patience:= .inr (.inr (.inl (w3n (by simpa using MV))));refine gy 17 ?_;have pF:hh=(1,oU D):=LB.trans (if_pos LA);refine gy 6 ?_;refine bm results19 rfl rfl (L1:=[dev q D]++R) ae ?_;exact⟨_,dO _ _ pF (by decide),rfl⟩
 have ZI:=ca.1 (by simpa using MV:aI serial 0 4611686018427387904=true);refine gy 1 ?_;refine bV ?_;refine y (eM rfl rfl underlying26) rfl ?_;refine gy 2 ?_;refine cv 33 rfl (fun Gc=>?_) (fun Gc=>?_)
 ·(exfalso;simp at Gc)
 refine gy 1 ?_;refine bV ?_;refine bK (qm) call41 ?_;refine gy 3 ?_;refine cv 38 rfl (fun xP=>?_) (fun xP=>?_)
 ·have LA:gT id serial lease patience:= .inr (.inr (.inr (.inl (w3n (by simpa using xP)))));refine gy 8 ?_;have pF:hh=(1,oU D):=LB.trans (if_pos LA);refine gy 6 ?_;refine bm results19 rfl rfl (L1:=[dev q D]++R) ae ?_;exact⟨_,dO _ _ pF (by decide),rfl⟩
 have hlr:=ca.1 (by simpa using xP:aI lease 1 1048576=true);refine gy 1 ?_;refine bV ?_;refine bK (qm) call41 ?_;refine gy 4 ?_;refine cc rfl (fun Df=>?_) (fun Df=>?_)
 ·have LA:gT id serial lease patience:= .inr (.inr (.inr (.inr (w3n (by simpa using Df)))));refine gc 1 ?_;have pF:hh=(1,oU D):=LB.trans (if_pos LA);refine gy 6 ?_;refine bm results19 rfl rfl (L1:=[dev q D]++R) ae ?_;exact⟨_,dO _ _ pF (by decide),rfl⟩
 have hpr:=ca.1 (by simpa using Df:aI patience 1 1048576=true);have AP: ¬gT id serial lease patience:=by unfold gT;omega
 have agB:=LB.trans (if_neg AP);refine gc 8 ?_;refine y (cA (Rn id serial lease patience bl jx jx jx jx)) rfl ?_;refine ya (a7 (vs:=Rn id serial lease patience bl jx jx jx jx) rfl rfl) rfl ?_;rintro v L' ⟨F9,rfl,rfl⟩;refine gy 5 ?_;refine aA (PV) rfl call42 aZ rfl ?_;rintro v L' ⟨p51,rfl,rfl⟩;refine gy 10 ?_;refine aA (Jh hD) rfl call43 aZ rfl ?_;rintro v L' apK;rcases apK with⟨he6,rfl,rfl⟩|⟨he6,c55,rfl,rfl⟩
 ·refine gy 5 ?_;refine bA (an rfl rfl (by rfl) sizeOf96 bc rfl rfl) ?_;refine gy 6 ?_;rw[show(!decide (cg D 0 1=0))=true by simp[he6]];refine gy 4 ?_;have pF:hh=(cg D 0 1,oU D):=agB.trans (if_pos he6);refine gy 7 ?_;refine bm results19 rfl rfl (L1:=[dev q D]++R) ae ?_;exact⟨_,dO _ _ pF (by assumption),rfl⟩
 refine gy 5 ?_;refine bA (an rfl rfl (by rfl) sizeOf96 bc rfl rfl) ?_;refine gy 6 ?_
 skip
 refine gy 7 ?_;have agC:=agB.trans (if_neg (by omega));refine gy 3 ?_;refine aA (aeP hD) rfl call44 aZ rfl ?_;rintro v L' pF;rcases pF with⟨he9,rfl,rfl⟩|⟨he9,l67,MT,rfl,rfl⟩
 ·refine gy 5 ?_;refine bA (an rfl rfl (by rfl) sizeOf97 bc rfl rfl) ?_;refine gy 6 ?_;rw[show(!decide (nS D 2 3 bl=0))=true by simp[he9]];refine gy 4 ?_;have pF:hh=(nS D 2 3 bl,oU D):=agC.trans (if_pos he9);refine gy 7 ?_;refine bm results19 rfl rfl (L1:=[dev q D]++R) ae ?_;exact⟨_,dO _ _ pF (by assumption),rfl⟩
 refine gy 5 ?_;refine bA (an rfl rfl (by rfl) sizeOf97 bc rfl rfl) ?_;refine gy 6 ?_
 skip
 refine gy 5 ?_;refine bq ?_;intro K22 El
 have afH: ∀x:NF × NV,(hh=gG (ka id serial lease patience bl (aF D 0 1) (mJ D 2 3 bl.toNat) (bQ D 6 ((D.l.length:Int)- 6) 4 5 bl).2.1 (bQ D 6 ((D.l.length:Int)- 6) 4 5 bl).2.2)∧x.1.q=q∧x.2.out=none∧x.2.sw=none∧x.2.si=none∧g6 x.2.sl (bQ D 6 ((D.l.length:Int)- 6) 4 5 bl).2.1.l∧(ka id serial lease patience bl (aF D 0 1) (mJ D 2 3 bl.toNat) (bQ D 6 ((D.l.length:Int)- 6) 4 5 bl).2.1 (bQ D 6 ((D.l.length:Int)- 6) 4 5 bl).2.2).ok 0)→Sk 148 K22 ([(14,ptr x.1.p)]) ([bB x.1 x.2 (ka id serial lease patience bl (aF D 0 1) (mJ D 2 3 bl.toNat) (bQ D 6 ((D.l.length:Int)- 6) 4 5 bl).2.1 (bQ D 6 ((D.l.length:Int)- 6) 4 5 bl).2.2),aD none 42 [],aD none 177 [],eu x.2.ps none (dC.new 0),iZ none (dC.new 0),dh x.1.pf x.1.q (aF D 0 1),fB x.1.pl x.1.pc (mJ D 2 3 bl.toNat),dh x.1.pc x.1.q (mJ D 2 3 bl.toNat).c,cU x.1.A (bQ D 6 ((D.l.length:Int)- 6) 4 5 bl).2.1,ga x.1.A (bQ D 6 ((D.l.length:Int)- 6) 4 5 bl).2.1,iX x.1.A (bQ D 6 ((D.l.length:Int)- 6) 4 5 bl).2.1,jO x.1.A x.1.q x.2.sl (bQ D 6 ((D.l.length:Int)- 6) 4 5 bl).2.1,dev x.1.q (bQ D 6 ((D.l.length:Int)- 6) 4 5 bl).2.2]++R):=by
  rintro⟨F,⟨vo,vw,vp,vi,vl⟩⟩ hIr15;refine El _ _ ?_;obtain⟨HF,hq,ho,hw,hi,Wz,nX⟩:=hIr15;dsimp only at HF hq ho hw hi Wz nX ⊢;subst ho;subst hw;subst hi;show Sk _ _ _ (ao F ⟨none,none,vp,none,vl⟩ (ka id serial lease patience bl (aF D 0 1) (mJ D 2 3 bl.toNat) (bQ D 6 ((D.l.length:Int)- 6) 4 5 bl).2.1 (bQ D 6 ((D.l.length:Int)- 6) 4 5 bl).2.2)++R);have wT:ct ⟨none,none,vp,none,vl⟩ (ka id serial lease patience bl (aF D 0 1) (mJ D 2 3 bl.toNat) (bQ D 6 ((D.l.length:Int)- 6) 4 5 bl).2.1 (bQ D 6 ((D.l.length:Int)- 6) 4 5 bl).2.2):=⟨⟨rfl,rfl⟩,⟨rfl,rfl⟩,⟨rfl,rfl⟩,Wz⟩;generalize ka id serial lease patience bl (aF D 0 1) (mJ D 2 3 bl.toNat) (bQ D 6 ((D.l.length:Int)- 6) 4 5 bl).2.1 (bQ D 6 ((D.l.length:Int)- 6) 4 5 bl).2.2=n at*;have Gi:=nX.p.f.text;unfold ao bB;refine gc 5 ?_;refine bK (XR (C:=n.f)) call48 ?_;refine ya (ku rfl underlying9 underlying55 underlying5) rfl ?_;rintro v L' ⟨b96,c96,aur,atZ,rfl,ao5,rfl⟩;refine aA (pZ (bs:=n.f.text) ?afY) rfl call47 aZ rfl ?_
  case afY=>exact yO aL ao5
  rintro v L' ⟨alb,al5,rfl,Fg,rfl⟩;obtain⟨de,sQ⟩: ∃z,bX n.f.text=z:=⟨_,rfl⟩;have Di:=sy n.f.text;obtain⟨rc,er⟩:=de;rw[sQ]at Fg Di ⊢;dsimp only at Fg Di ⊢;have qQ:=Fg.n;have k3:=Fg.t;unfold tD;have g9:cE [aD alb 2 (aW rc.aH)] (aG alb rc.aH.length) rc.aH.length (aW rc.aH):=bG .z qQ;have Pd:cE [aD al5 9 (cn rc.texts)] (aG al5 rc.texts.length) rc.texts.length (cn rc.texts):=bG .z k3;refine gy 3 ?_;refine ya (aB zeroValue88 rfl) rfl ?_;rintro v L' ⟨b16,rfl,rfl⟩;refine bA (ai rfl rfl (by(simp only[List.forall_mem_cons,List.not_mem_nil,false_implies,implies_true,bN,and_true,true_and,and_self];first|done|simp[Value.oneCell'])) sizeOf88 bc (by rfl) (by rfl)) ?_;refine gy 8 ?_;refine cv 102 rfl (fun uD=>?_) (fun uD=>?_)
  ·have wm:fact n.f.text=none:=sF sQ (.inl (by simpa using uD));refine gy 28 ?_;have uJ:hh=(0,{n with lost:=true}):=by rw[HF];unfold gG;rw[wm]
   refine gy 3 ?_;refine bA (an rfl rfl (by rfl) sizeOf4 bc rfl rfl) ?_;refine gy 10 ?_;refine bm results19 rfl rfl (L1:=ao F ⟨none,none,vp,none,vl⟩ {n with lost:=true}++R) ae ?_;rw[uJ];exact⟨_,.inr ⟨rfl,F,⟨none,none,vp,none,vl⟩,hq,rfl,⟨wT.out,wT.sw,wT.si,wT.sl⟩,rfl⟩,rfl⟩
  have her:er=0:=by simpa using uD
  refine gy 5 ?_;refine cv 107 rfl (fun Hf=>?_) (fun Hf=>?_)
  ·have wm:fact n.f.text=none:=sF sQ (.inr (.inl (by simpa using Hf)));refine gy 23 ?_;have uJ:hh=(0,{n with lost:=true}):=by rw[HF];unfold gG;rw[wm]
   refine gy 3 ?_;refine bA (an rfl rfl (by rfl) sizeOf4 bc rfl rfl) ?_;refine gy 10 ?_;refine bm results19 rfl rfl (L1:=ao F ⟨none,none,vp,none,vl⟩ {n with lost:=true}++R) ae ?_;rw[uJ];exact⟨_,.inr ⟨rfl,F,⟨none,none,vp,none,vl⟩,hq,rfl,⟨wT.out,wT.sw,wT.si,wT.sl⟩,rfl⟩,rfl⟩
  have apf:rc.kind=50:=by simpa using Hf
  refine gy 2 ?_;refine bV ?_;refine y (bH rfl underlying57 (by assumption)) rfl ?_;refine gy 3 ?_;refine cv 113 rfl (fun Ef=>?_) (fun Ef=>?_)
  ·have wm:fact n.f.text=none:=sF sQ (.inr (.inr (.inl (by omega))));refine gy 17 ?_;have uJ:hh=(0,{n with lost:=true}):=by rw[HF];unfold gG;rw[wm]
   refine gy 3 ?_;refine bA (an rfl rfl (by rfl) sizeOf4 bc rfl rfl) ?_;refine gy 10 ?_;refine bm results19 rfl rfl (L1:=ao F ⟨none,none,vp,none,vl⟩ {n with lost:=true}++R) ae ?_;rw[uJ];exact⟨_,.inr ⟨rfl,F,⟨none,none,vp,none,vl⟩,hq,rfl,⟨wT.out,wT.sw,wT.si,wT.sl⟩,rfl⟩,rfl⟩
  obtain⟨kk,ns,ts⟩:=rc;dsimp only at*;obtain⟨x0,rfl⟩: ∃z,ns=[z]:=List.length_eq_one_iff.1 (by omega);subst her;refine gy 2 ?_;refine bV ?_;refine y (bH rfl underlying86 (by assumption)) rfl ?_;refine gy 3 ?_;refine cv 119 rfl (fun YC=>?_) (fun YC=>?_)
  ·have wm:fact n.f.text=none:=sF sQ (.inr (.inr (.inr (by simpa using YC))));refine gy 11 ?_;have uJ:hh=(0,{n with lost:=true}):=by rw[HF];unfold gG;rw[wm]
   refine gy 3 ?_;refine bA (an rfl rfl (by rfl) sizeOf4 bc rfl rfl) ?_;refine gy 10 ?_;refine bm results19 rfl rfl (L1:=ao F ⟨none,none,vp,none,vl⟩ {n with lost:=true}++R) ae ?_;rw[uJ];exact⟨_,.inr ⟨rfl,F,⟨none,none,vp,none,vl⟩,hq,rfl,⟨wT.out,wT.sw,wT.si,wT.sl⟩,rfl⟩,rfl⟩
  have uH:=Oe sQ apf (by simpa using YC);refine gy 2 ?_;refine bV ?_;refine y (aK g9 rfl rfl underlying57 sizeOf2 (by simp) (by simp)) rfl ?_;refine bV ?_;refine y (au 0 g9 ae rfl isAgg2 (by rfl) rfl) rfl ?_;refine bV ?_;refine bK (qm) call41 ?_;refine gy 4 ?_;refine cc rfl (fun YG=>?_) (fun YG=>?_)
  ·have wm:fact n.f.text=none:=uH.trans (if_neg (by rw[show aI x0 0 4611686018427387904=false by simpa using YG];exact Bool.false_ne_true));refine gc 1 ?_;have uJ:hh=(0,{n with lost:=true}):=by rw[HF];unfold gG;rw[wm]
   refine gy 3 ?_;refine bA (an rfl rfl (by rfl) sizeOf4 bc rfl rfl) ?_;refine gy 10 ?_;refine bm results19 rfl rfl (L1:=ao F ⟨none,none,vp,none,vl⟩ {n with lost:=true}++R) ae ?_;rw[uJ];exact⟨_,.inr ⟨rfl,F,⟨none,none,vp,none,vl⟩,hq,rfl,⟨wT.out,wT.sw,wT.si,wT.sl⟩,rfl⟩,rfl⟩
  have SJ:aI x0 0 4611686018427387904=true:=by simpa using YG
  have wm:fact n.f.text=some x0:=uH.trans (if_pos SJ);have uJ:hh=aa.iF {n with ah:=x0} x0:=by rw[HF];unfold gG;rw[wm]
  have agZ:=BS wm;refine gc 6 ?_;refine y (aK g9 rfl rfl underlying57 sizeOf2 (by simp) (by simp)) rfl ?_;refine y (au 0 g9 ae rfl isAgg2 (by rfl) rfl) rfl ?_;refine gy 2 ?_;refine bA (an rfl rfl (by rfl) sizeOf2 bc rfl rfl) ?_;refine gy 9 ?_;refine aA (WS (V:=⟨none,none,vp,none,vl⟩) (n:={n with ah:=x0}) ?aaZ ?adn ?ah6) rfl call49 aZ rfl ?_
  case aaZ=>exact⟨nX.a,nX.p,⟨nX.n.left,agZ,nX.n.mask,(by have:=nX.n.clock;show 0≤n.clock∧n.clock≤((990000:Nat):Int);omega),nX.n.born,(by have:=nX.n.change;show 0≤n.change∧n.change≤((990000:Nat):Int);omega),(by have:=nX.n.cT;show 0≤n.cT∧n.cT≤((990000:Nat):Int);omega),nX.n.role,nX.n.want,nX.n.cm,(by have:=nX.n.quiet;show 0≤n.quiet∧n.quiet≤((990000:Nat):Int);omega)⟩,nX.t,nX.o,nX.w.le (by decide),nX.s.le (by decide),by have:=nX.out;show n.out.length≤990000;omega⟩
  case adn=>exact⟨wT.out,wT.sw,wT.si,wT.sl⟩
  case ah6=>exact agZ
  rintro v L' ⟨adP,rfl,Xb,rfl⟩;obtain⟨r2,hR2⟩: ∃z,aa.iF {n with ah:=x0} x0=z:=⟨_,rfl⟩;rw[hR2]at uJ Xb ⊢;refine gy 8 ?_;refine cc rfl (fun Hj=>?_) (fun Hj=>?_)
  ·refine gc 8 ?_;refine bm results19 rfl rfl (L1:=[dev F.q r2.2.d]++R) ae ?_;rw[uJ,hq];exact⟨_,.inl ⟨by omega,rfl,rfl⟩,rfl⟩
  refine gc 9 ?_;refine bm results19 rfl rfl (L1:=ao F adP r2.2++R) ae ?_;rw[uJ];exact⟨_,.inr ⟨by omega,F,adP,hq,rfl,Xb,rfl⟩,rfl⟩
 clear El;refine gc 1 ?_;have ZB:=agC.trans (if_neg (by omega));obtain⟨r,hR⟩: ∃z,bQ D 6 ((D.l.length:Int)- 6) 4 5 bl=z:=⟨_,rfl⟩;rw[hR]at ZB;refine gy 3 ?_;refine bK (oy) call46 ?_;refine gy 1 ?_;rw[wr (by omega) (by omega)];refine gy 1 ?_;refine aA (ahe (first:=6) (n:=(D.l.length:Int)- 6) (a:=4) (b:=5) (bl:=bl) hD (by decide) (by decide)) rfl call45 aZ rfl ?_;rintro v L' WB;rw[hR]at WB;rcases WB with⟨OX,rfl,rfl⟩|⟨OX,A82,asV,rfl,ari,rfl⟩
 ·refine gy 5 ?_;refine bA (an rfl rfl (by rfl) sizeOf98 bc rfl rfl) ?_;refine gy 6 ?_;rw[show(!decide (r.1=0))=true by simp[OX]];refine gy 4 ?_;have pF:hh=(r.1,oU r.2.2):=ZB.trans (if_pos OX);refine gy 7 ?_;refine bm results19 rfl rfl (L1:=[dev q r.2.2]++R) ae ?_;exact⟨_,dO _ _ pF (by assumption),rfl⟩
 refine gy 5 ?_;refine bA (an rfl rfl (by rfl) sizeOf98 bc rfl rfl) ?_;refine gy 6 ?_
 skip
 refine gy 5 ?_;subst hR;exact aV aq ae (afH (⟨F9,q,c55,l67,MT,A82⟩,⟨none,none,p51,none,asV⟩) ⟨ZB.trans (if_neg (fun hx=>hx OX)),rfl,rfl,rfl,rfl,ari,by obtain⟨g1,g2⟩:=Fm hD he6 he9 OX;exact A6 AP g2 g1⟩)
theorem E4 [Env]{R:List ax}{F:NF}{V:NV}{n:aa}{K:Nat}(hn:n.ok K)(hK:K≤1000000)(hV:ct V n):
   bC Tryz.prog 20 [ptr F.p] (ao F V n) R (Is (.agg n.view.cells.toArray) (ao F V n)):=by
 have ZF:cE [iK V n] (aG V.sw n.waits.length) n.waits.length (a6 n.waits):=bG .z hV.sw;refine ag func20 ntmps20 rfl rfl ?_;unfold ao bB;refine gc 1 ?_;refine ya (aB zeroValue52 rfl) rfl ?_;rintro v L' ⟨b2,rfl,rfl⟩;refine gy 3 ?_;refine aS 54 [(0,true),(1,true),(2,true),(3,true),(4,true),(5,true),(6,true),(7,true),(8,true),(9,true),(10,true),(11,true),(12,true),(13,true),(14,true),(15,true),(16,true),(17,true),(18,true),(19,true),(20,true),(21,true),(22,true),(23,true),(24,true),(25,true),(26,true),(27,true),(28,true),(29,true),(30,true),(31,true),(32,true),(33,true),(34,true),(35,true),(36,true),(37,true),(38,true),(39,true),(41,true),(42,true),(43,true),(44,true),(45,true),(47,true),(48,true),(49,true),(50,true),(51,true),(40,false),(46,false),(52,false),(53,true)] ([sc F.p _ 106]++R) Tryz.mixed (by kernel_rfl) ae ?_;refine gh 36 ?_;refine hr rfl (bu rfl underlying101 (cE.bo (by assumption))) rfl ?_;refine gh 13 ?_;refine bg rfl (P6 (V:=V) (n:=n)) rfl call50 aZ rfl ?_;rintro v L' ⟨rfl,rfl⟩;refine⟨ae,?_⟩;unfold bB;refine bg rfl (nu ?alh ?alw) rfl call51 aZ rfl ?_
 case alh=>exact hn.s.fit hK
 case alw=>exact hV.si
 rintro v L' ⟨rfl,rfl⟩;refine⟨ae,?_⟩;refine bg rfl (H6) rfl call52 aZ rfl ?_;rintro v L' ⟨rfl,rfl⟩;refine⟨ae,?_⟩;refine hr rfl (cA ([.bool n.down,.bool n.lost,i64 n.ah,i64 n.role,i64 n.mask,i64 n.want,i64 n.cm,i64 n.waits.length,i64 n.left,i64 n.s.last,i64 n.s.dV])) rfl ?_;refine gh 1 ?_;refine bA (ai rfl rfl (by simp[Value.oneCell']) sizeOf52 bc (by rfl) (by rfl)) ?_;refine gy 3 ?_;refine yk results20 rfl isAgg52 sizeOf52 aL (rfl) (L1:=ao F V n++R) ae ?_;exact⟨_,⟨rfl,rfl⟩,rfl⟩
theorem PU [Env]{R:List ax}{F:NF}{V:NV}{n:aa}(hb:n.c.bl≤32):
   bC Tryz.prog 25 [ptr F.p] (ao F V n) R (zx 127 n.c.all.length 7 (dZ n.c.all) (ao F V n)):=by
 refine ag func25 ntmps25 rfl rfl ?_;unfold ao bB;refine gc 9 ?_;refine aA (HT ?anh) rfl call59 aZ rfl ?_
 case anh=>exact hb
 rintro v L' ⟨s7,rfl,Gk,rfl⟩;refine gy 4 ?_;refine aj results25 rfl (L1:=aD s7 127 (dZ n.c.all)::ao F V n++R) ae ?_;exact⟨_,⟨s7,rfl,Gk,rfl⟩,rfl⟩
theorem UU [Env]{R:List ax}{F:NF}{V:NV}{n:aa}(hd:n.dr.ok n.d):
   bC Tryz.prog 32 [ptr F.p] (ao F V n) R (zx 3 n.dr.GK.length 1 (aW n.dr.GK) (ao F V n)):=by
 refine ag func32 ntmps32 rfl rfl ?_;unfold ao bB;refine gc 9 ?_;refine aA (S9 ?anQ ?anF) rfl call65 aZ rfl ?_
 case anQ=>exact hd.n
 case anF=>exact hd.bits
 rintro v L' ⟨s7,rfl,Gk,rfl⟩;refine gy 4 ?_;refine aj results32 rfl (L1:=aD s7 3 (aW n.dr.GK)::ao F V n++R) ae ?_;exact⟨_,⟨s7,rfl,Gk,rfl⟩,rfl⟩
theorem J2 [Env]{R:List ax}{q:Q3}{D:az}(hD:D.ok):bC Tryz.prog 24 [dp q] [dev q D] R (Is (i64 (cQ D).1) [dev q (cQ D).2]):=by
 refine ag func24 ntmps24 rfl rfl ?_;refine gc 6 ?_;refine aA (Jh hD) rfl call43 aZ rfl ?_;rintro v L' gj;rcases gj with⟨he,rfl,rfl⟩|⟨he,c7,rfl,rfl⟩
 ·refine gy 11 ?_;rw[show(!decide (cg D 0 1=0))=true by simp[he]];refine gy 4 ?_;have TU:cQ D=(cg D 0 1,D):=if_pos he;refine gy 6 ?_;refine aj results24 rfl (L1:=[dev q D]++R) ae ?_;rw[TU];exact⟨_,⟨rfl,rfl⟩,rfl⟩
 refine gy 11 ?_
 skip
 refine gy 6 ?_;have TU:cQ D=(((aF D 0 1).put D (cR 0)).1,((aF D 0 1).put D (cR 0)).2.2):=if_neg (by omega);refine gy 1 ?_;refine bK (P9 ?atg) call58 ?_
 case atg=>exact aa.wE
 refine bK (NN (C:=aF D 0 1) (D:=D) (s:=cR 0) ?aeL ?aa6) call57 ?_
 case aeL=>exact(eW he).1
 case aa6=>exact hD
 refine gy 4 ?_;refine aj results24 rfl (L1:=[dev q _]++R) ae ?_;rw[TU];exact⟨_,⟨rfl,rfl⟩,rfl⟩
theorem asC [Env]{R:List ax}{r:RecM}{nv tv:Value}(hn:cE R nv r.aH.length (aW r.aH))(ht:cE R tv r.texts.length (cn r.texts)):
   bC Tryz.prog 89 [.agg #[i64 r.kind,nv,tv]] [] R (Is (.bool r.kD) []):=by
 have Di:=hn.bo;have Gi:=ht.bo;refine ag func89 ntmps89 rfl rfl ?_;refine gc 1 ?_;refine ya (a7 rfl rfl) rfl ?_;rintro v L' ⟨b1,rfl,rfl⟩;refine gy 9 ?_;refine cv 7 rfl (fun Lg=>?_) (fun Lg=>?_)
 ·refine gy 20 ?_;have dj:r.kD=false:=by unfold RecM.kD;simp;intros;exfalso;omega
  refine gy 5 ?_;refine aj results89 rfl (L1:=R) ae ?_;exact⟨_,⟨by rw[dj],rfl⟩,by rfl⟩
 refine gy 5 ?_;refine cv 12 rfl (fun Hm=>?_) (fun Hm=>?_)
 ·refine gy 15 ?_;have dj:r.kD=false:=by unfold RecM.kD;simp;intros;exfalso;omega
  refine gy 5 ?_;refine aj results89 rfl (L1:=R) ae ?_;exact⟨_,⟨by rw[dj],rfl⟩,by rfl⟩
 refine gy 2 ?_;refine bV ?_;refine y (bu rfl underlying57 (cE.bo (by assumption))) rfl ?_;refine gy 3 ?_;refine cv 18 rfl (fun MX=>?_) (fun MX=>?_)
 ·refine gy 9 ?_;have dj:r.kD=false:=by unfold RecM.kD;simp;intros;exfalso;omega
  refine gy 5 ?_;refine aj results89 rfl (L1:=R) ae ?_;exact⟨_,⟨by rw[dj],rfl⟩,by rfl⟩
 refine gy 2 ?_;refine bV ?_;refine y (bu rfl underlying86 (cE.bo (by assumption))) rfl ?_;refine gy 4 ?_;refine cc rfl (fun h95=>?_) (fun h95=>?_)
 ·refine gc 1 ?_;have dj:r.kD=false:=by unfold RecM.kD;simp;intros;exfalso;omega
  refine gy 5 ?_;refine aj results89 rfl (L1:=R) ae ?_;exact⟨_,⟨by rw[dj],rfl⟩,by rfl⟩
 refine gc 2 ?_;refine bq ?_;intro K8 qN;refine gc 4 ?_
 have fQ: ∀x:Nat,((x≤r.texts.length∧(r.texts.take x).any (fun t=>decide (200<(t.length:Int)))=false)∧(x=r.texts.length))→Sk 38 K8 ([(3,i64 x),(1,ptr b1)]) ([sc b1 [i64 r.kind,nv,tv] 88]++R):=by
  rintro k ⟨bJ,eK⟩;refine qN _ _ ?_;obtain⟨hk,eF⟩:=bJ;subst eK;rw[List.take_length]at eF;have dj:r.kD=true:=by unfold RecM.kD;rw[eF];simp;omega
  refine gc 5 ?_;refine aj results89 rfl (L1:=R) ae ?_;exact⟨_,⟨by rw[dj],rfl⟩,by rfl⟩
 clear qN;refine gc 1 ?_;refine bO (A:=Nat) (fun x=>[(3,i64 x),(1,ptr b1)]) (fun x=>[sc b1 [i64 r.kind,nv,tv] 88]++R) (fun x=>x≤r.texts.length∧(r.texts.take x).any (fun t=>decide (200<(t.length:Int)))=false) (fun x=>r.texts.length-x) (0) ?_ aq ae ?_
 · exact⟨Nat.zero_le _,by simp⟩
 rintro k bJ kt cI;have cC:=bJ;obtain⟨hk,eF⟩:=bJ;refine gc 5 ?_;refine y (bu rfl underlying86 (cE.bo (by assumption))) rfl ?_;refine gy 3 ?_;refine cc rfl (fun rl=>?_) (fun rl=>?_)
 ·obtain⟨t,vE⟩: ∃t,r.texts[k]? =some t:=⟨_,List.getElem?_eq_getElem (by omega)⟩;refine gc 8 ?_;refine y (aK ht rfl rfl underlying86 sizeOf9 (by omega) (by omega)) rfl ?_;refine y (au k ht ae rfl isAgg9 (by simp) (fR vE)) rfl ?_;refine y (cP rfl underlying9) rfl ?_;refine gy 3 ?_;refine cc rfl (fun zL=>?_) (fun zL=>?_)
  ·have dj:r.kD=false:=by
     have:r.texts.any (fun t=>decide (200<(t.length:Int)))=true:=List.any_eq_true.2 ⟨t,List.mem_of_getElem? vE,by simpa using zL⟩;unfold RecM.kD;rw[this];simp
   refine gc 10 ?_;refine aj results89 rfl (L1:=R) ae ?_;exact⟨_,⟨by rw[dj],rfl⟩,by rfl⟩
  have j7:(r.texts.take (k+1)).any (fun t=>decide (200<(t.length:Int)))=false:=by rw[dg vE,List.any_append,eF];simp;omega
  refine gc 6 ?_;rw[show IntKind.i64.wrap ((k:Int)+1)=((k+1:Nat):Int)by rw[wr (by omega) (by omega)];rfl];refine gy 3 ?_;exact cI (k+1) (⟨by omega,j7⟩) (by omega) _ _ aq ae
 refine gc 5 ?_;exact aV aq ae (fQ k ⟨cC,by omega⟩)
theorem am0{n:Int}(h1: -9223372036854775808≤n)(h2:n≤9223372036854775807)(h: ¬n<0):IntKind.u64.wrap (IntKind.u64.wrap n*2)=(mT n:Int):=by
 unfold mT;rw[iN,iN,if_pos (by omega)];omega
theorem am1{n:Int}(h1: -9223372036854775808≤n)(h2:n≤9223372036854775807)(h:n<0):IntKind.u64.wrap (IntKind.u64.wrap (0-IntKind.u64.wrap (IntKind.u64.wrap n*2))- 1)=(mT n:Int):=by
 unfold mT;rw[iN,iN,iN,iN,if_neg (by omega)];omega
theorem akO [Env]{R:List ax}{n:Int}(h1: -9223372036854775808≤n)(h2:n≤9223372036854775807):
   bC Tryz.prog 90 [i64 n] [] R (zx 5 (fN (mT n)).length 1 (av (fN (mT n))) []):=by
 have hz:=oC h1 h2;have hl:=il hz;refine ag func90 ntmps90 rfl rfl ?_;refine gc 6 ?_;refine y (aR rfl underlying2 underlying138) rfl ?_;refine y (gS rfl rfl) rfl ?_;refine gy 9 ?_;refine cc rfl (fun h8=>?_) (fun h8=>?_)
 ·have Cl:=am1 h1 h2 h8;refine gc 2 ?_;refine y (aR rfl underlying2 underlying138) rfl ?_;refine y (gS rfl rfl) rfl ?_;refine gy 2 ?_;rw[Cl];refine gy 4 ?_;refine ya (jh underlying55 sizeOf5) rfl ?_;rintro v L' ⟨b15,rfl,rfl⟩;refine gy 3 ?_;refine bq ?_;intro K6 ma
  have fQ: ∀x:Nat × Bytes × Sv,((bW x.2.2 x.2.1.length 1 (av x.2.1)∧fN (mT n)=x.2.1++fN x.1∧x.1<18446744073709551616)∧(x.1<128))→Sk 32 K6 ([(4,aG x.2.2 x.2.1.length),(3,.int .u64 (x.1:Nat))]) ([aD x.2.2 5 (av x.2.1)]++R):=by
   rintro⟨u,b,s⟩ ⟨bJ,eK⟩;refine ma _ _ ?_;obtain⟨Fh,hb,HJ⟩:=bJ;dsimp only at Fh hb HJ ⊢;have sP:b.length≤10:=by rw[hb]at hl;simp at hl;omega
   dsimp only at eK;rw[nA eK]at hb;refine gc 3 ?_;refine y (aR rfl underlying138 underlying5) rfl ?_;rw[r4,show((u:Nat):Int) % 256=((u:Nat):Int)by omega];refine ya (aE rfl underlying55 sizeOf5 zeroValue5 rfl rfl rfl rfl ⟨⟨_,_,rfl,(by rfl),(by decide)⟩,trivial⟩ (by dsimp[bt,aX,aY,bS]<;>rfl)) rfl ?_;rintro v L' ⟨b30,rfl,rfl⟩;refine ya (aO (xs:=av b) (m:=b.length) (k:=1) (us:=[.int .u8 ((u:Nat):Int)]) (size:=1) rfl rfl (by repeat first|exact .z|apply Pk.s) underlying55 underlying55 (by intro q hq;cases hq) typeInfo5 rfl rfl rfl ?aa1 ?alH ?ajZ ?adZ) rfl ?_
   case aa1=>exact Fh
   case alH=>exact cz aL rfl rfl
   case ajZ=>simp[Value.oneCell']
   case adZ=>show(b.length+1)*2≤_;omega
   rintro v L' ⟨s31,rfl,Ae,rfl⟩;have hlen:b.length+1=(fN (mT n)).length:=by rw[hb];simp
   rw[fS _ _ (by omega),←hb,hlen]at Ae ⊢;refine gy 4 ?_;refine aj results90 rfl (L1:=[aD _ _ _]++R) ae ?_;exact⟨_,⟨s31,rfl,Ae,rfl⟩,rfl⟩
  clear ma;refine gc 1 ?_;refine bO (A:=Nat × Bytes × Sv) (fun x=>[(4,aG x.2.2 x.2.1.length),(3,.int .u64 (x.1:Nat))]) (fun x=>[aD x.2.2 5 (av x.2.1)]++R) (fun x=>bW x.2.2 x.2.1.length 1 (av x.2.1)∧fN (mT n)=x.2.1++fN x.1∧x.1<18446744073709551616) (fun x=>x.1) ((mT n,[],some (b15,0,[]))) ?_ aq ae ?_
  · exact⟨⟨Nat.le_refl _,Nat.zero_le _,rfl,rfl⟩,rfl,hz⟩
  rintro⟨u,b,s⟩ bJ kt cI;have cC:=bJ;obtain⟨Fh,hb,HJ⟩:=bJ;dsimp only at Fh hb HJ ⊢;have sP:b.length≤10:=by rw[hb]at hl;simp at hl;omega
  refine gc 6 ?_;refine cc rfl (fun TA=>?_) (fun TA=>?_)
  ·refine gc 6 ?_;refine y (iH rfl rfl (by decide)) rfl ?_;rw[show((u:Nat):Int).tmod 128=((u % 128:Nat):Int)from rfl];refine gy 1 ?_;rw[iN,show(((u % 128:Nat):Int)+128) % 18446744073709551616=((u % 128+128:Nat):Int)by omega];refine y (aR rfl underlying138 underlying5) rfl ?_;rw[r4,show((u % 128+128:Nat):Int) % 256=((u % 128+128:Nat):Int)by omega];refine ya (aE rfl underlying55 sizeOf5 zeroValue5 rfl rfl rfl rfl ⟨⟨_,_,rfl,(by rfl),(by decide)⟩,trivial⟩ (by dsimp[bt,aX,aY,bS]<;>rfl)) rfl ?_;rintro v L' ⟨b23,rfl,rfl⟩;refine ya (aO (xs:=av b) (m:=b.length) (k:=1) (us:=[.int .u8 ((u % 128+128:Nat):Int)]) (size:=1) rfl rfl (by repeat first|exact .z|apply Pk.s) underlying55 underlying55 (by intro q hq;cases hq) typeInfo5 rfl rfl rfl ?tg ?RJ ?QV ?ND) rfl ?_
   case tg=>exact Fh
   case RJ=>exact cz aL rfl rfl
   case QV=>simp[Value.oneCell']
   case ND=>show(b.length+1)*2≤_;omega
   rintro v L' ⟨s24,rfl,yI,rfl⟩;rw[fS _ _ (by omega)]at yI ⊢;refine gy 5 ?_;refine y (ie rfl rfl (by decide)) rfl ?_;rw[iN,show((u:Nat):Int).tdiv 128=((u / 128:Nat):Int)from rfl,show((u / 128:Nat):Int) % 18446744073709551616=((u / 128:Nat):Int)by omega];refine gy 4 ?_;exact aV aq ae (cI (u / 128,b++[UInt8.ofNat (u % 128+128)],s24) ⟨by rw[List.length_append];exact yI,by rw[hb,nB (by omega)];simp,by dsimp only;omega⟩ (by dsimp only;omega) [(4,aG s24 (b++[UInt8.ofNat (u % 128+128)]).length),(3,.int .u64 ((u / 128:Nat):Int))] _ aq .refl)
  refine gc 5 ?_;exact aV aq ae (fQ ⟨u,b,s⟩ ⟨cC,by dsimp only;omega⟩)
 rw[am0 h1 h2 (by omega)];refine gc 3 ?_;refine ya (jh underlying55 sizeOf5) rfl ?_;rintro v L' ⟨b15,rfl,rfl⟩;refine gy 3 ?_;refine bq ?_;intro K12 xQ
 have fQ: ∀x:Nat × Bytes × Sv,((bW x.2.2 x.2.1.length 1 (av x.2.1)∧fN (mT n)=x.2.1++fN x.1∧x.1<18446744073709551616)∧(x.1<128))→Sk 32 K12 ([(4,aG x.2.2 x.2.1.length),(3,.int .u64 (x.1:Nat))]) ([aD x.2.2 5 (av x.2.1)]++R):=by
  rintro⟨u,b,s⟩ ⟨bJ,eK⟩;refine xQ _ _ ?_;obtain⟨Fh,hb,HJ⟩:=bJ;dsimp only at Fh hb HJ ⊢;have sP:b.length≤10:=by rw[hb]at hl;simp at hl;omega
  dsimp only at eK;rw[nA eK]at hb;refine gc 3 ?_;refine y (aR rfl underlying138 underlying5) rfl ?_;rw[r4,show((u:Nat):Int) % 256=((u:Nat):Int)by omega];refine ya (aE rfl underlying55 sizeOf5 zeroValue5 rfl rfl rfl rfl ⟨⟨_,_,rfl,(by rfl),(by decide)⟩,trivial⟩ (by dsimp[bt,aX,aY,bS]<;>rfl)) rfl ?_;rintro v L' ⟨b30,rfl,rfl⟩;refine ya (aO (xs:=av b) (m:=b.length) (k:=1) (us:=[.int .u8 ((u:Nat):Int)]) (size:=1) rfl rfl (by repeat first|exact .z|apply Pk.s) underlying55 underlying55 (by intro q hq;cases hq) typeInfo5 rfl rfl rfl ?aa2 ?RK ?QW ?NG) rfl ?_
  case aa2=>exact Fh
  case RK=>exact cz aL rfl rfl
  case QW=>simp[Value.oneCell']
  case NG=>show(b.length+1)*2≤_;omega
  rintro v L' ⟨s31,rfl,Ae,rfl⟩;have hlen:b.length+1=(fN (mT n)).length:=by rw[hb];simp
  rw[fS _ _ (by omega),←hb,hlen]at Ae ⊢;refine gy 4 ?_;refine aj results90 rfl (L1:=[aD _ _ _]++R) ae ?_;exact⟨_,⟨s31,rfl,Ae,rfl⟩,rfl⟩
 clear xQ;refine gc 1 ?_;refine bO (A:=Nat × Bytes × Sv) (fun x=>[(4,aG x.2.2 x.2.1.length),(3,.int .u64 (x.1:Nat))]) (fun x=>[aD x.2.2 5 (av x.2.1)]++R) (fun x=>bW x.2.2 x.2.1.length 1 (av x.2.1)∧fN (mT n)=x.2.1++fN x.1∧x.1<18446744073709551616) (fun x=>x.1) ((mT n,[],some (b15,0,[]))) ?_ aq ae ?_
 · exact⟨⟨Nat.le_refl _,Nat.zero_le _,rfl,rfl⟩,rfl,hz⟩
 rintro⟨u,b,s⟩ bJ kt cI;have cC:=bJ;obtain⟨Fh,hb,HJ⟩:=bJ;dsimp only at Fh hb HJ ⊢;have sP:b.length≤10:=by rw[hb]at hl;simp at hl;omega
 refine gc 6 ?_;refine cc rfl (fun TE=>?_) (fun TE=>?_)
 ·refine gc 6 ?_;refine y (iH rfl rfl (by decide)) rfl ?_;rw[show((u:Nat):Int).tmod 128=((u % 128:Nat):Int)from rfl];refine gy 1 ?_;rw[iN,show(((u % 128:Nat):Int)+128) % 18446744073709551616=((u % 128+128:Nat):Int)by omega];refine y (aR rfl underlying138 underlying5) rfl ?_;rw[r4,show((u % 128+128:Nat):Int) % 256=((u % 128+128:Nat):Int)by omega];refine ya (aE rfl underlying55 sizeOf5 zeroValue5 rfl rfl rfl rfl ⟨⟨_,_,rfl,(by rfl),(by decide)⟩,trivial⟩ (by dsimp[bt,aX,aY,bS]<;>rfl)) rfl ?_;rintro v L' ⟨b23,rfl,rfl⟩;refine ya (aO (xs:=av b) (m:=b.length) (k:=1) (us:=[.int .u8 ((u % 128+128:Nat):Int)]) (size:=1) rfl rfl (by repeat first|exact .z|apply Pk.s) underlying55 underlying55 (by intro q hq;cases hq) typeInfo5 rfl rfl rfl ?Vc ?alP ?aj7 ?ad7) rfl ?_
  case Vc=>exact Fh
  case alP=>exact cz aL rfl rfl
  case aj7=>simp[Value.oneCell']
  case ad7=>show(b.length+1)*2≤_;omega
  rintro v L' ⟨s24,rfl,yI,rfl⟩;rw[fS _ _ (by omega)]at yI ⊢;refine gy 5 ?_;refine y (ie rfl rfl (by decide)) rfl ?_;rw[iN,show((u:Nat):Int).tdiv 128=((u / 128:Nat):Int)from rfl,show((u / 128:Nat):Int) % 18446744073709551616=((u / 128:Nat):Int)by omega];refine gy 4 ?_;exact aV aq ae (cI (u / 128,b++[UInt8.ofNat (u % 128+128)],s24) ⟨by rw[List.length_append];exact yI,by rw[hb,nB (by omega)];simp,by dsimp only;omega⟩ (by dsimp only;omega) [(4,aG s24 (b++[UInt8.ofNat (u % 128+128)]).length),(3,.int .u64 ((u / 128:Nat):Int))] _ aq .refl)
 refine gc 5 ?_;exact aV aq ae (fQ ⟨u,b,s⟩ ⟨cC,by dsimp only;omega⟩)
theorem Vm [Env]{R:List ax}{r:RecM}{nv tv:Value}(hn:cE R nv r.aH.length (aW r.aH))(ht:cE R tv r.texts.length (cn r.texts))(hI:Dm r.aH):
   bC Tryz.prog 55 [.agg #[i64 r.kind,nv,tv]] [] R (fun v L'=> ∃s,v= .tuple #[aG s (kQ r).1.length,i64 (kQ r).2]∧bW s (kQ r).1.length 1 (av (kQ r).1)∧L'=[aD s 5 (av (kQ r).1)]):=by
 have Di:=hn.bo;have Gi:=ht.bo;refine ag func55 ntmps55 rfl rfl ?_;refine gc 1 ?_;refine ya (a7 rfl rfl) rfl ?_;rintro v L' ⟨b1,rfl,rfl⟩;refine gy 6 ?_;refine y (ak rfl isAgg88 sizeOf88 aL (by rfl)) rfl ?_;refine bK (asC (r:=r) ?apB ?apU) call89 ?_
 case apB=>exact hn.mono ae
 case apU=>exact ht.mono ae
 refine gy 3 ?_;refine cc rfl (fun TH=>?_) (fun TH=>?_)
 ·have iW:kQ r=([],4):=by unfold kQ;rw[if_neg (by simp_all)]
  refine gc 7 ?_;refine bm results55 rfl rfl (L1:=[aD none 5 []]++R) ae ?_;exact⟨_,⟨none,by rw[iW];rfl,by rw[iW];exact⟨rfl,rfl⟩,by rw[iW];rfl⟩,rfl⟩
 have hmB:r.kD=true:=by simp_all
 have dj:=PI hmB hI;have iW:kQ r=(bL r,0):=by unfold kQ;rw[if_pos hmB]
 have hk0:=dj.k0;have M1:=dj.k1;have hns:=dj.ns;have hts:=dj.ts;have hhb:=AL hns hts;refine gc 5 ?_;refine y (bu rfl underlying57 (cE.bo (by assumption))) rfl ?_;refine gy 2 ?_;refine y (bu rfl underlying86 (cE.bo (by assumption))) rfl ?_;refine y (gS rfl rfl) rfl ?_;rw[wr (by omega) (by omega)];refine gy 1 ?_;rw[wr (by omega) (by omega)];refine gy 7 ?_;refine y (bu rfl underlying57 (cE.bo (by assumption))) rfl ?_;refine gy 3 ?_;refine cc rfl (fun Gf=>?_) (fun Gf=>?_)
 ·refine gc 3 ?_;refine y (bu rfl underlying86 (cE.bo (by assumption))) rfl ?_;refine gy 1 ?_;rw[wr (by omega) (by omega)];refine gy 3 ?_;refine bq ?_;intro K8 qN
  have pC: ∀x:Nat,(True)→Sk 73 K8 ([(5,aG (some (x,2,[])) 2),(1,ptr b1)]) ([sc x [.int .u8 ((r.kind.toNat % 256:Nat):Int),.int .u8 ((oH r.aH.length r.texts.length).toNat:Nat)] 5,sc b1 [i64 r.kind,nv,tv] 88]++R):=by
   rintro MS B1;refine qN _ _ ?_;refine bq ?_;intro K9 Wm;refine gc 4 ?_
   have fQ: ∀x:Nat × Sv,((bW x.2 (fC r x.1).length 1 (av (fC r x.1))∧x.1≤r.aH.length)∧(x.1=r.aH.length))→Sk 73 K9 ([(6,i64 x.1),(5,aG x.2 (fC r x.1).length),(1,ptr b1)]) ([aD x.2 5 (av (fC r x.1)),sc b1 [i64 r.kind,nv,tv] 88]++R):=by
    rintro⟨k,s⟩ ⟨bJ,eK⟩;refine Wm _ _ ?_;obtain⟨Bb,hk⟩:=bJ;dsimp only at Bb hk ⊢;have zT:=lM dj k;dsimp only at eK;subst eK;refine bq ?_;intro VX wh;refine gc 2 ?_;rw[←ux]at Bb ⊢;refine gy 2 ?_
    have B2: ∀x:Nat × Sv,((bW x.2 (fc r x.1).length 1 (av (fc r x.1))∧x.1≤r.texts.length)∧(x.1=r.texts.length))→Sk 73 VX ([(7,i64 x.1),(5,aG x.2 (fc r x.1).length),(1,ptr b1)]) ([aD x.2 5 (av (fc r x.1)),sc b1 [i64 r.kind,nv,tv] 88]++R):=by
     rintro⟨z,st⟩ ⟨qc,Dh⟩;refine wh _ _ ?_;obtain⟨k3,hz⟩:=qc;dsimp only at k3 hz ⊢;have sP:=gJ dj z;have Ht:=gJ dj (z+1);dsimp only at Dh;subst Dh;rw[xA]at k3 ⊢;refine gc 7 ?_;refine bm results55 rfl rfl (L1:=[aD _ _ _]++R) ae ?_;exact⟨_,⟨st,by rw[iW],by rw[iW];exact k3,by rw[iW]⟩,rfl⟩
    clear wh;refine gc 1 ?_;refine bO (A:=Nat × Sv) (fun x=>[(7,i64 x.1),(5,aG x.2 (fc r x.1).length),(1,ptr b1)]) (fun x=>[aD x.2 5 (av (fc r x.1)),sc b1 [i64 r.kind,nv,tv] 88]++R) (fun x=>bW x.2 (fc r x.1).length 1 (av (fc r x.1))∧x.1≤r.texts.length) (fun x=>r.texts.length-x.1) ((0,s)) ?_ aq ae ?_
    · exact⟨Bb,Nat.zero_le _⟩
    rintro⟨z,st⟩ qc KL2 Lm;have uE:=qc;obtain⟨k3,hz⟩:=qc;dsimp only at k3 hz ⊢;have sP:=gJ dj z;have Ht:=gJ dj (z+1);refine gc 5 ?_;refine y (bu rfl underlying86 (cE.bo (by assumption))) rfl ?_;refine gy 3 ?_;refine cc rfl (fun YX=>?_) (fun YX=>?_)
    ·obtain⟨tt,vE⟩: ∃x,r.texts[z]? =some x:=⟨_,List.getElem?_eq_getElem (by omega)⟩;have Tw:=dj.len tt (List.mem_of_getElem? vE);have TQ:=uw vE;refine gc 9 ?_;refine y (aK ht rfl rfl underlying86 sizeOf9 (by omega) (by omega)) rfl ?_;refine y (au z ht ae rfl isAgg9 (by simp) (fR vE)) rfl ?_;refine y (cP rfl underlying9) rfl ?_;refine y (aR rfl underlying3 underlying5) rfl ?_;rw[r4,show((tt.length:Nat):Int) % 256=((tt.length:Nat):Int)by omega];refine ya (aE rfl underlying55 sizeOf5 zeroValue5 rfl rfl rfl rfl ⟨⟨_,_,rfl,(by rfl),(by decide)⟩,trivial⟩ (by dsimp[bt,aX,aY,bS]<;>rfl)) rfl ?_;rintro v L' ⟨b63,rfl,rfl⟩;refine ya (aO (xs:=av (fc r z)) (m:=(fc r z).length) (k:=1) (us:=[.int .u8 ((tt.length:Nat):Int)]) (size:=1) rfl rfl (by repeat first|exact .z|apply Pk.s) underlying55 underlying55 (by intro q hq;cases hq) typeInfo5 rfl rfl rfl ?aiR ?acy ?abh ?Xu) rfl ?_
     case aiR=>exact k3
     case acy=>exact cz aL rfl rfl
     case abh=>simp[Value.oneCell']
     case Xu=>show(_+_)*2≤_;omega
     rintro v L' ⟨s64,rfl,CG,rfl⟩;rw[fS _ _ (by omega)]at CG ⊢;refine gy 8 ?_;refine y (aK ht rfl rfl underlying86 sizeOf9 (by omega) (by omega)) rfl ?_;refine y (au z ht ae rfl isAgg9 (by simp) (fR vE)) rfl ?_;refine ya (aO (xs:=av (fc r z++[UInt8.ofNat tt.length])) (m:=(fc r z).length+1) (k:=tt.length) (us:=av tt) (size:=1) rfl rfl (by repeat first|exact .z|apply Pk.s) underlying55 underlying9 (by intro q hq;cases hq) typeInfo5 rfl rfl rfl ?QB ?IT ?Iy ?GI) rfl ?_
     case QB=>exact CG
     case IT=>exact za
     case Iy=>exact cL _
     case GI=>show(_+_)*2≤_;omega
     rintro v L' ⟨SO,rfl,CH,rfl⟩;rw[←dD,←TQ,show(fc r z).length+1+tt.length=(fc r (z+1)).length by rw[TQ];simp;omega]at CH ⊢;refine gy 7 ?_;rw[show IntKind.i64.wrap ((z:Int)+1)=((z+1:Nat):Int)by rw[wr (by omega) (by omega)];rfl];refine gy 3 ?_;exact Lm ((z+1,SO)) (⟨CH,by dsimp only;omega⟩) (by dsimp only;omega) _ _ aq ae
    refine gc 5 ?_;exact aV aq ae (B2 ⟨z,st⟩ ⟨uE,by dsimp only;omega⟩)
   clear Wm;refine gc 1 ?_;refine bO (A:=Nat × Sv) (fun x=>[(6,i64 x.1),(5,aG x.2 (fC r x.1).length),(1,ptr b1)]) (fun x=>[aD x.2 5 (av (fC r x.1)),sc b1 [i64 r.kind,nv,tv] 88]++R) (fun x=>bW x.2 (fC r x.1).length 1 (av (fC r x.1))∧x.1≤r.aH.length) (fun x=>r.aH.length-x.1) ((0,some (MS,2,[]))) ?_ aq ae ?_
   · exact⟨⟨by simp[fC,eZ],by decide,by simp[fC,eZ],by simp[fC,eZ]⟩,Nat.zero_le _⟩
   rintro⟨k,s⟩ bJ kt cI;have cC:=bJ;obtain⟨Bb,hk⟩:=bJ;dsimp only at Bb hk ⊢;have zT:=lM dj k;refine gc 5 ?_;refine y (bu rfl underlying57 (cE.bo (by assumption))) rfl ?_;refine gy 3 ?_;refine cc rfl (fun xL=>?_) (fun xL=>?_)
   ·obtain⟨nn,AP⟩: ∃x,r.aH[k]? =some x:=⟨_,List.getElem?_eq_getElem (by omega)⟩;obtain⟨Cd,Wv⟩:=hI nn (List.mem_of_getElem? AP);have agc:=il (oC Cd Wv);refine gc 9 ?_;refine y (aK hn rfl rfl underlying57 sizeOf2 (by omega) (by omega)) rfl ?_;refine y (au k hn ae rfl isAgg2 (by simp) (dk AP)) rfl ?_;refine aA (akO ?ahH ?af9) rfl call90 aZ rfl ?_
    case ahH=>exact Cd
    case af9=>exact Wv
    rintro v L' ⟨s46,rfl,Ff,rfl⟩;refine ya (aO (xs:=av (fC r k)) (m:=(fC r k).length) (k:=(fN (mT nn)).length) (us:=av (fN (mT nn))) (size:=1) rfl rfl (by repeat first|exact .z|apply Pk.s) underlying55 underlying55 (by intro q hq;cases hq) typeInfo5 rfl rfl rfl ?aiX ?acD ?abm ?Xz) rfl ?_
    case aiX=>exact Bb
    case acD=>exact rQ aL Ff
    case abm=>exact cL _
    case Xz=>show(_+_)*2≤_;omega
    rintro v L' ⟨s47,rfl,Af,rfl⟩;rw[←dD,←List.length_append,←uv AP]at Af ⊢;refine gy 7 ?_;rw[show IntKind.i64.wrap ((k:Int)+1)=((k+1:Nat):Int)by rw[wr (by omega) (by omega)];rfl];refine gy 3 ?_;exact cI ((k+1,s47)) (⟨Af,by dsimp only;omega⟩) (by dsimp only;omega) _ _ aq ae
   refine gc 5 ?_;exact aV aq ae (fQ ⟨k,s⟩ ⟨cC,by dsimp only;omega⟩)
  clear qN;refine gc 3 ?_;refine y (aR rfl underlying3 underlying5) rfl ?_;rw[r4,show r.kind % 256=((r.kind.toNat % 256:Nat):Int)by omega];refine gy 1 ?_;refine y (aR rfl underlying3 underlying5) rfl ?_;rw[r4];(rw[show((240:Int)+(r.texts.length:Int)) % 256=(((oH r.aH.length r.texts.length).toNat:Nat):Int)by rw[hhb,if_pos (by omega)];omega]);refine ya (aE rfl underlying55 sizeOf5 zeroValue5 rfl rfl rfl rfl ⟨⟨_,_,rfl,(by rfl),(by decide)⟩,⟨⟨_,_,rfl,(by rfl),(by decide)⟩,trivial⟩⟩ (by dsimp[bt,aX,aY,bS]<;>rfl)) rfl ?_;rintro v L' ⟨MS,rfl,rfl⟩;refine gy 3 ?_;exact aV aq ae (pC MS (trivial))
 refine gc 2 ?_;refine bq ?_;intro K21 OO
 have pC: ∀x:Nat,(True)→Sk 73 K21 ([(5,aG (some (x,2,[])) 2),(1,ptr b1)]) ([sc x [.int .u8 ((r.kind.toNat % 256:Nat):Int),.int .u8 ((oH r.aH.length r.texts.length).toNat:Nat)] 5,sc b1 [i64 r.kind,nv,tv] 88]++R):=by
  rintro MS B1;refine OO _ _ ?_;refine bq ?_;intro K22 El;refine gc 4 ?_
  have fQ: ∀x:Nat × Sv,((bW x.2 (fC r x.1).length 1 (av (fC r x.1))∧x.1≤r.aH.length)∧(x.1=r.aH.length))→Sk 73 K22 ([(6,i64 x.1),(5,aG x.2 (fC r x.1).length),(1,ptr b1)]) ([aD x.2 5 (av (fC r x.1)),sc b1 [i64 r.kind,nv,tv] 88]++R):=by
   rintro⟨k,s⟩ ⟨bJ,eK⟩;refine El _ _ ?_;obtain⟨Bb,hk⟩:=bJ;dsimp only at Bb hk ⊢;have zT:=lM dj k;dsimp only at eK;subst eK;refine bq ?_;intro K24 Em;refine gc 2 ?_;rw[←ux]at Bb ⊢;refine gy 2 ?_
   have B2: ∀x:Nat × Sv,((bW x.2 (fc r x.1).length 1 (av (fc r x.1))∧x.1≤r.texts.length)∧(x.1=r.texts.length))→Sk 73 K24 ([(7,i64 x.1),(5,aG x.2 (fc r x.1).length),(1,ptr b1)]) ([aD x.2 5 (av (fc r x.1)),sc b1 [i64 r.kind,nv,tv] 88]++R):=by
    rintro⟨z,st⟩ ⟨qc,Dh⟩;refine Em _ _ ?_;obtain⟨k3,hz⟩:=qc;dsimp only at k3 hz ⊢;have sP:=gJ dj z;have Ht:=gJ dj (z+1);dsimp only at Dh;subst Dh;rw[xA]at k3 ⊢;refine gc 7 ?_;refine bm results55 rfl rfl (L1:=[aD _ _ _]++R) ae ?_;exact⟨_,⟨st,by rw[iW],by rw[iW];exact k3,by rw[iW]⟩,rfl⟩
   clear Em;refine gc 1 ?_;refine bO (A:=Nat × Sv) (fun x=>[(7,i64 x.1),(5,aG x.2 (fc r x.1).length),(1,ptr b1)]) (fun x=>[aD x.2 5 (av (fc r x.1)),sc b1 [i64 r.kind,nv,tv] 88]++R) (fun x=>bW x.2 (fc r x.1).length 1 (av (fc r x.1))∧x.1≤r.texts.length) (fun x=>r.texts.length-x.1) ((0,s)) ?_ aq ae ?_
   · exact⟨Bb,Nat.zero_le _⟩
   rintro⟨z,st⟩ qc KL2 Lm;have uE:=qc;obtain⟨k3,hz⟩:=qc;dsimp only at k3 hz ⊢;have sP:=gJ dj z;have Ht:=gJ dj (z+1);refine gc 5 ?_;refine y (bu rfl underlying86 (cE.bo (by assumption))) rfl ?_;refine gy 3 ?_;refine cc rfl (fun aof=>?_) (fun aof=>?_)
   ·obtain⟨tt,vE⟩: ∃x,r.texts[z]? =some x:=⟨_,List.getElem?_eq_getElem (by omega)⟩;have Tw:=dj.len tt (List.mem_of_getElem? vE);have TQ:=uw vE;refine gc 9 ?_;refine y (aK ht rfl rfl underlying86 sizeOf9 (by omega) (by omega)) rfl ?_;refine y (au z ht ae rfl isAgg9 (by simp) (fR vE)) rfl ?_;refine y (cP rfl underlying9) rfl ?_;refine y (aR rfl underlying3 underlying5) rfl ?_;rw[r4,show((tt.length:Nat):Int) % 256=((tt.length:Nat):Int)by omega];refine ya (aE rfl underlying55 sizeOf5 zeroValue5 rfl rfl rfl rfl ⟨⟨_,_,rfl,(by rfl),(by decide)⟩,trivial⟩ (by dsimp[bt,aX,aY,bS]<;>rfl)) rfl ?_;rintro v L' ⟨b63,rfl,rfl⟩;refine ya (aO (xs:=av (fc r z)) (m:=(fc r z).length) (k:=1) (us:=[.int .u8 ((tt.length:Nat):Int)]) (size:=1) rfl rfl (by repeat first|exact .z|apply Pk.s) underlying55 underlying55 (by intro q hq;cases hq) typeInfo5 rfl rfl rfl ?ai1 ?acG ?abp ?XC) rfl ?_
    case ai1=>exact k3
    case acG=>exact cz aL rfl rfl
    case abp=>simp[Value.oneCell']
    case XC=>show(_+_)*2≤_;omega
    rintro v L' ⟨s64,rfl,CG,rfl⟩;rw[fS _ _ (by omega)]at CG ⊢;refine gy 8 ?_;refine y (aK ht rfl rfl underlying86 sizeOf9 (by omega) (by omega)) rfl ?_;refine y (au z ht ae rfl isAgg9 (by simp) (fR vE)) rfl ?_;refine ya (aO (xs:=av (fc r z++[UInt8.ofNat tt.length])) (m:=(fc r z).length+1) (k:=tt.length) (us:=av tt) (size:=1) rfl rfl (by repeat first|exact .z|apply Pk.s) underlying55 underlying9 (by intro q hq;cases hq) typeInfo5 rfl rfl rfl ?ai4 ?acJ ?abt ?XF) rfl ?_
    case ai4=>exact CG
    case acJ=>exact za
    case abt=>exact cL _
    case XF=>show(_+_)*2≤_;omega
    rintro v L' ⟨SO,rfl,CH,rfl⟩;rw[←dD,←TQ,show(fc r z).length+1+tt.length=(fc r (z+1)).length by rw[TQ];simp;omega]at CH ⊢;refine gy 7 ?_;rw[show IntKind.i64.wrap ((z:Int)+1)=((z+1:Nat):Int)by rw[wr (by omega) (by omega)];rfl];refine gy 3 ?_;exact Lm ((z+1,SO)) (⟨CH,by dsimp only;omega⟩) (by dsimp only;omega) _ _ aq ae
   refine gc 5 ?_;exact aV aq ae (B2 ⟨z,st⟩ ⟨uE,by dsimp only;omega⟩)
  clear El;refine gc 1 ?_;refine bO (A:=Nat × Sv) (fun x=>[(6,i64 x.1),(5,aG x.2 (fC r x.1).length),(1,ptr b1)]) (fun x=>[aD x.2 5 (av (fC r x.1)),sc b1 [i64 r.kind,nv,tv] 88]++R) (fun x=>bW x.2 (fC r x.1).length 1 (av (fC r x.1))∧x.1≤r.aH.length) (fun x=>r.aH.length-x.1) ((0,some (MS,2,[]))) ?_ aq ae ?_
  · exact⟨⟨by simp[fC,eZ],by decide,by simp[fC,eZ],by simp[fC,eZ]⟩,Nat.zero_le _⟩
  rintro⟨k,s⟩ bJ kt cI;have cC:=bJ;obtain⟨Bb,hk⟩:=bJ;dsimp only at Bb hk ⊢;have zT:=lM dj k;refine gc 5 ?_;refine y (bu rfl underlying57 (cE.bo (by assumption))) rfl ?_;refine gy 3 ?_;refine cc rfl (fun aop=>?_) (fun aop=>?_)
  ·obtain⟨nn,AP⟩: ∃x,r.aH[k]? =some x:=⟨_,List.getElem?_eq_getElem (by omega)⟩;obtain⟨Cd,Wv⟩:=hI nn (List.mem_of_getElem? AP);have agc:=il (oC Cd Wv);refine gc 9 ?_;refine y (aK hn rfl rfl underlying57 sizeOf2 (by omega) (by omega)) rfl ?_;refine y (au k hn ae rfl isAgg2 (by simp) (dk AP)) rfl ?_;refine aA (akO ?ahI ?aga) rfl call90 aZ rfl ?_
   case ahI=>exact Cd
   case aga=>exact Wv
   rintro v L' ⟨s46,rfl,Ff,rfl⟩;refine ya (aO (xs:=av (fC r k)) (m:=(fC r k).length) (k:=(fN (mT nn)).length) (us:=av (fN (mT nn))) (size:=1) rfl rfl (by repeat first|exact .z|apply Pk.s) underlying55 underlying55 (by intro q hq;cases hq) typeInfo5 rfl rfl rfl ?ai9 ?acN ?abx ?XJ) rfl ?_
   case ai9=>exact Bb
   case acN=>exact rQ aL Ff
   case abx=>exact cL _
   case XJ=>show(_+_)*2≤_;omega
   rintro v L' ⟨s47,rfl,Af,rfl⟩;rw[←dD,←List.length_append,←uv AP]at Af ⊢;refine gy 7 ?_;rw[show IntKind.i64.wrap ((k:Int)+1)=((k+1:Nat):Int)by rw[wr (by omega) (by omega)];rfl];refine gy 3 ?_;exact cI ((k+1,s47)) (⟨Af,by dsimp only;omega⟩) (by dsimp only;omega) _ _ aq ae
  refine gc 5 ?_;exact aV aq ae (fQ ⟨k,s⟩ ⟨cC,by dsimp only;omega⟩)
 clear OO;refine gc 3 ?_;refine y (aR rfl underlying3 underlying5) rfl ?_;rw[r4,show r.kind % 256=((r.kind.toNat % 256:Nat):Int)by omega];refine gy 1 ?_;refine y (aR rfl underlying3 underlying5) rfl ?_;rw[r4];(rw[show((r.aH.length:Int)+16*(r.texts.length:Int)) % 256=(((oH r.aH.length r.texts.length).toNat:Nat):Int)by rw[hhb,if_neg (by omega)];omega]);refine ya (aE rfl underlying55 sizeOf5 zeroValue5 rfl rfl rfl rfl ⟨⟨_,_,rfl,(by rfl),(by decide)⟩,⟨⟨_,_,rfl,(by rfl),(by decide)⟩,trivial⟩⟩ (by dsimp[bt,aX,aY,bS]<;>rfl)) rfl ?_;rintro v L' ⟨MS,rfl,rfl⟩;refine gy 3 ?_;exact aV aq ae (pC MS (trivial))
end W
end Go.Proofs