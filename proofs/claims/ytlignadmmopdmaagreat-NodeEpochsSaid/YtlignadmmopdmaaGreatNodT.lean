/- A part of the proof. -/
import Derived.Test.YtlignadmmopdmaaGreatN45
import Derived.Test.YtlignadmmopdmaaGreatGF
set_option linter.unusedVariables false
set_option linter.unusedSimpArgs false
set_option linter.constructorNameAsVariable false
namespace Go.Sl
def aa.eE(n:aa):Int × Int × Bool:=(n.id,n.serial,n.lost)
namespace aa
variable {n : aa}
theorem eJ{r:Bool × aa}{f:aa→aa}{w:Int × Int × Bool}(h:r.2.eE=w)(hf: ∀n,n.eE=w→(f n).eE=w):(andThen r f).eE=w:=by
 unfold andThen;split;exact hf _ h;exact h
theorem kK{r:Bool × aa}{f:aa→Bool × aa}{w:Int × Int × Bool}(h:r.2.eE=w)(hf: ∀n,n.eE=w→(f n).2.eE=w):(gz r f).2.eE=w:=by
 unfold gz;split;exact hf _ h;exact h
theorem tS{α:Type}{f:aa→α→Bool × aa}(hf: ∀n x,(f n x).2.eE=n.eE): ∀(l:List α) (n:aa),(ia f l n).2.eE=n.eE
 | [],n=>rfl
 |x::l,n=>by
  unfold ia;split
  · exact hf n x
  · exact(tS hf l _).trans (hf n x)
theorem tT{α:Type}{f:aa→α→aa}(hf: ∀n x,(f n x).eE=n.eE): ∀(l:List α) (n:aa),(l.foldl f n).eE=n.eE
 | [],n=>rfl
 |x::l,n=>(tT hf l _).trans (hf n x)
theorem uX{α β:Type}{f:β × aa→α→β × aa}(hf: ∀n x,(f n x).2.eE=n.2.eE): ∀(l:List α) (n:β × aa),(l.foldl f n).2.eE=n.2.eE
 | [],n=>rfl
 |x::l,n=>(uX hf l _).trans (hf n x)
theorem tR{p:aa→ar→Bool}{f:aa→ar→aa}(hf: ∀n x,(f n x).eE=n.eE): ∀(l:List ar) (n:aa),(hY p f l n).2.eE=n.eE
 | [],n=>rfl
 |x::l,n=>by
  unfold hY;split
  · exact(tR hf l _).trans (hf n x)
  · exact tR hf l _
theorem Aq(e:Int):(n.eC e).2.eE=n.eE:=by
 unfold eC;split
 · rfl
 · exact kK rfl fun _ h=>h
theorem Gw(n:aa)(x:bd):(n.eS x).2.eE=n.eE:=by
 unfold eS;split
 ·rfl
 split
 ·rfl
 ·refine kK rfl fun n' h=>?_
  show(n'.mc _ _).eE=_;unfold mc;split<;>exact h
theorem PJ(b:Int)(f:ar→ar):(n.mc b f).eE=n.eE:=by unfold mc;split<;>rfl
theorem tz(n:aa):n.kW.eE=n.eE:=tT (f:=aa.put) (fun _ _=>rfl) _ _
theorem ph(mk:Int):(n.changes mk).eE=n.eE:=by unfold changes;dsimp only;split<;>rfl
theorem yF(n:aa):n.note.2.eE=n.eE:=by
 unfold note;split
 · rfl
 · exact kK rfl fun _ h=>h
theorem Ar(n:aa):n.again.2.eE=n.eE:=tS Gw _ _
theorem AW(n:aa):n.marks.2.eE=n.eE:=tS (fun n x=>by unfold gE;split<;>rfl) _ _
theorem AE(n:aa)(w:ar)(b:Bytes):(n.given w b).eE=n.eE:=by unfold given;split<;>rfl
theorem qw(n:aa):n.reads.eE=n.eE:=uX (f:=n.fP) (fun a w=>by
 unfold fP;split
 ·split
  · exact AE _ _ _
  · rfl
 ·split<;>rfl) n.waits ([],n)
theorem lX(n:aa):n.settle.eE=n.eE:=by
 unfold settle;have h1:n.fv.eE=n.eE:=tR (p:=fW) (f:=je) (fun _ _=>rfl) _ _;have h2:n.fv.eo.eE=n.eE:=by unfold eo;split<;>exact h1
 have h3:=(qw n.fv.eo).trans h2;generalize n.fv.eo.reads=k at*;unfold eP;split
 · exact h3
 split
 · exact(ph _).trans h3
 · exact eJ ((yF _).trans h3) fun n h=>(tz n).trans h
theorem Fz(t:T4):(n.recover t).eE=n.eE:=by
 unfold recover;refine eJ (by unfold gO;split<;>rfl) fun n h=>eJ (by unfold cF;split;exact(AW _).trans h;exact h) fun n h=>eJ ((Ar _).trans h) fun n h=>?_
 unfold dX;split
 · exact eJ ((yF _).trans h) fun n h=>(tz _).trans h
 · exact eJ h fun n h=>h
theorem Mp(n:aa):n.ready.eE=n.eE:=
 eJ ((Ar _).trans rfl) fun n h=>eJ ((yF _).trans h) fun n h=>(tz _).trans h
theorem MD(n:aa):n.k6.eE=n.eE:=by
 unfold k6 ze;split
 · exact ph _
 · exact lX _
theorem DR(n:aa):n.iw.eE=n.eE:=uX (f:=dt) (fun a b=>by
 unfold dt;split
 ·rfl
 ·split
  · dsimp only;split<;>rfl
  · split<;>rfl) _ (0,n)
theorem RW(n:aa):n.rS.eE=n.eE:=by
 unfold rS;have h1:n.iD.eE=n.eE:=by unfold iD;split;exact tz _;rfl
 generalize n.iD=k at*
 have h2:k.jv.eE=n.eE:=by
  unfold jv;split
  · exact(MD _).trans h1
  split
  · exact(ph _).trans h1
  · exact h1
 generalize k.jv=j at*;unfold tQ;split
 ·exact h2
 ·refine(tT (f:=k7) (fun n w=>by unfold k7;split<;>rfl) _ _).trans ((DR _).trans ?_);unfold mD;split<;>exact h2
theorem RV(n:aa):n.tick.eE=n.eE:=by
 unfold tick;split
 · rfl
 unfold tO;split
 · rfl
 unfold tP;split
 · rfl
 split
 · exact RW _
 · rfl
theorem IV(m:aM):(n.stored m).eE=n.eE:=by
 unfold stored;have h1:(n.eG m).settle.eE=n.eE:=(lX _).trans (by unfold eG;split;split;exact PJ _ _;rfl;rfl);generalize (n.eG m).settle=k at*;unfold cX;split
 ·exact h1
 split
 ·exact h1
 ·refine eJ h1 fun n h=>(qw _).trans ?_
  unfold gC;split<;>exact h
theorem GA(m:aM):(n.cZ m).eE=n.eE:=by
 unfold cZ;split
 · rfl
 split
 · rfl
 split
 · rfl
 split
 · exact Fz _
 split
 · exact tR (p:=eg m) (f:=fun n w=>n.given w m.data) (fun _ _=>AE _ _ _) _ _
 split
 · exact IV _
 · rfl
theorem zj(n:aa)(w:ar)(x:bd):(n.gp w x).eE=n.eE:=by unfold gp;split<;>rfl
theorem MP(w:ar)(b:Bytes):(n.write w b).eE=n.eE:=by
 unfold write;split
 · rfl
 refine eJ (by unfold iL;split<;>rfl) fun n h=>?_
 unfold iM;split
 · exact h
 refine eJ h fun n h=>eJ h fun n h=>?_
 unfold jo;refine(zj _ _ _).trans ?_;unfold jM;split<;>exact h
theorem GN(jr:Int)(m:aM):(n.called jr m).eE=n.eE:=by
 unfold called;split
 ·rfl
 split
 ·rfl
 split
 ·unfold g4;split
  · rfl
  split
  · rfl
  · exact zj _ _ _
 unfold kh;split
 ·rfl
 split
 ·rfl
 unfold ki;split
 ·exact qw _
 split
 ·exact qw _
 split<;>exact MP _ _
theorem zb(n:aa):n.fY.eE=n.eE:=tT (f:=dz) (fun n w=>by
 unfold dz;split
 · rfl
 · split<;>rfl) _ _
theorem DJ(mk:Int):(n.changed mk).eE=n.eE:=by
 unfold changed mX;split
 · exact eJ rfl fun n h=>(lX n).trans h
 split
 · exact eJ (AW _) fun n h=>(lX _).trans ((zb _).trans (by unfold gx;split<;>exact h))
 · rfl
theorem Ec(m:aM):(n.granted m).eE=n.eE:=by
 unfold granted;split
 · split<;>rfl
 unfold gL;split
 · rfl
 split
 · exact eJ (Aq _) fun n h=>h
 split<;>rfl
theorem Lu(hl:n.lost=false)(m:aM):(n.heard m).eE=n.eE:=by
 unfold heard;rw[if_neg (by rw[hl];exact Bool.false_ne_true)];split
 · exact Ec _
 split
 · rfl
 split
 · rfl
 split
 · exact DJ _
 · rfl
theorem Uw(m:aM):(n.lay m).2.eE=n.eE:=by
 unfold lay;refine kK (by unfold wB;split<;>rfl) fun n h=>?_
 split
 ·exact h
 ·refine kK (by unfold Aa;split<;>exact h) fun n h=>?_
  unfold wC;split<;>exact h
theorem KD(m:aM):(n.begun m).eE=n.eE:=by
 unfold begun;split
 · rfl
 split
 · rfl
 refine eJ ?_ fun n h=>h
 unfold cM;split
 · rfl
 · exact kK (tS (fun n x=>by unfold eT;split<;>rfl) _ _) fun n h=>kK h fun n h=>h
theorem UD(m:aM):(n.met m).eE=n.eE:=by
 unfold met;split
 ·split
  ·rfl
  ·refine eJ (Aq _) fun n h=>?_
   unfold H4;split
   ·exact h
   split
   ·unfold taken;split
    · exact h
    split
    · exact eJ (kK ((Uw _).trans h) fun n h=>h) fun n h=>h
    · exact h
   ·exact(KD _).trans h
 split
 ·unfold LZ;split
  ·exact(lX _).trans ((zb _).trans rfl)
  ·rfl
 split
 ·unfold L2;split
  ·exact Mp _
  ·rfl
 split
 ·unfold LY;split
  ·split<;>rfl
  ·rfl
 ·rfl
theorem RU(hl:n.lost=false)(l:gI):(n.take l).2.eE=n.eE:=by
 unfold take tN;split
 ·rfl
 split
 ·rfl
 split
 ·rfl
 split
 ·rfl
 ·have h:(n.clear.nW l.jr (bF l.body).1).eE=n.eE:=by
   unfold nW;split
   · exact Lu (n:=n.clear) hl _
   split
   · exact GA (n:=n.clear) _
   split
   · exact UD (n:=n.clear) _
   · exact GN (n:=n.clear) _ _
  unfold oQ;split<;>exact h
theorem RQ(hl:n.lost=false)(a:gu):(n.step a).eE=n.eE:=by
 unfold step;split
 · exact RU hl _
 split
 · exact RV _
 · rfl
end aa
theorem D9: ∀k:Nat,k<41→(cQ (az.new k)).1=0→fact (aF (cQ (az.new k)).2 0 1).text=some 0:=by decide+kernel
theorem NL(n:aa)(e:Int):(n.iF e).2.eE=n.eE:=by
 unfold aa.iF;dsimp only;split
 · rfl
 split<;>rfl
theorem GH{x:hG}{n:aa}(h:iE x=some n):n.eE=(x.id,x.serial,false):=by
 unfold iE at h;split at h
 · cases h
 split at h
 · cases h
 split at h
 · cases h
 rename_i h1 h2 h3
 cases h;have hf:=D9 x.ek.toNat (by omega) (Classical.not_not.1 h2);revert h3;generalize (cQ (az.new x.ek.toNat)).2=D at*;intro h3;unfold cO at h3 ⊢;split
 · rename_i c;rw[if_pos c]at h3;exact absurd (show(1:Int)≠0 by decide) h3
 rename_i c1;rw[if_neg c1]at h3
 split
 · rename_i c;rw[if_pos c]at h3;exact absurd (fun h=>c h) h3
 rename_i c2;rw[if_neg c2]at h3
 split
 · rename_i c;rw[if_pos c]at h3;exact absurd (fun h=>c h) h3
 rename_i c3;rw[if_neg c3]at h3
 split
 · rename_i c;rw[if_pos c]at h3;exact absurd (fun h=>c h) h3
 unfold gG;rw[show(ka x.id x.serial x.lease x.patience x.blocks (aF D 0 1) (mJ D 2 3 x.blocks.toNat) (bQ D 6 ((D.l.length:Int)- 6) 4 5 x.blocks).2.1 (bQ D 6 ((D.l.length:Int)- 6) 4 5 x.blocks).2.2).f.text=(aF D 0 1).text from rfl,hf];exact NL _ _
end Go.Sl