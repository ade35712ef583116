/- A part of the proof. -/
import Derived.Test.YtlignadmmopdmaaGreatNoeB
set_option linter.unusedVariables false
set_option linter.unusedSimpArgs false
set_option linter.constructorNameAsVariable false
namespace Go.Sl
namespace aa
variable {n : aa}
structure Rl(n n':aa):Prop where
 up:n.ah≤n'.ah
 role:0<n'.role→0<n.role∧n'.ah=n.ah
def gk(n:aa):Int × Int:=(n.role,n.ah)
theorem Rl.of{n n':aa}(h:n'.gk=n.gk):Rl n n':=by
 simp only[gk,Prod.mk.injEq]at h;exact⟨by rw[h.2];exact Int.le_refl _,fun q=>⟨by rw[←h.1];exact q,h.2⟩⟩
theorem Rl.zero{n n':aa}(h:n'.role=0)(he:n.ah≤n'.ah):Rl n n':=⟨he,fun q=>by omega⟩
theorem Rl.pos{n n':aa}(h:0<n.role)(he:n'.ah=n.ah):Rl n n':=⟨by omega,fun _=>⟨h,he⟩⟩
theorem Rl.trans{a b c:aa}(h:Rl a b)(g:Rl b c):Rl a c:=
 ⟨Int.le_trans h.up g.up,fun q=>by obtain⟨q1,q2⟩:=g.role q;obtain⟨q3,q4⟩:=h.role q1;exact⟨q3,q2.trans q4⟩⟩
theorem Rl.go{a b c:aa}(h:Rl a b)(g:c.gk=b.gk):Rl a c:=h.trans (.of g)
theorem Rl.from{a b c:aa}(g:Rl b c)(h:b.gk=a.gk):Rl a c:=Rl.trans (.of h) g
theorem tF{a:aa}{r:Bool × aa}{f:aa→aa}(h:Rl a r.2)(hf: ∀n,Rl a n→Rl a (f n)):Rl a (andThen r f):=by unfold andThen;split;exact hf _ h;exact h
theorem kT{β:Type}{g:aa→β}{r:Bool × aa}{f:aa→aa}{w:β}(h:g r.2=w)(hf: ∀n,g n=w→g (f n)=w):g (andThen r f)=w:=by unfold andThen;split;exact hf _ h;exact h
theorem rD{β:Type}{g:aa→β}{r:Bool × aa}{f:aa→Bool × aa}{w:β}(h:g r.2=w)(hf: ∀n,g n=w→g (f n).2=w):g (gz r f).2=w:=by unfold gz;split;exact hf _ h;exact h
theorem Cn{β α:Type}{g:aa→β}{f:aa→α→Bool × aa}(hf: ∀n x,g (f n x).2=g n): ∀(l:List α) (n:aa),g (ia f l n).2=g n
 | [],n=>rfl
 |x::l,n=>by
  unfold ia;split
  · exact hf n x
  · exact(Cn hf l _).trans (hf n x)
theorem Co{β α:Type}{g:aa→β}{f:aa→α→aa}(hf: ∀n x,g (f n x)=g n): ∀(l:List α) (n:aa),g (l.foldl f n)=g n
 | [],n=>rfl
 |x::l,n=>(Co hf l _).trans (hf n x)
theorem Cp{β α γ:Type}{g:aa→β}{f:γ × aa→α→γ × aa}(hf: ∀n x,g (f n x).2=g n.2): ∀(l:List α) (n:γ × aa),g (l.foldl f n).2=g n.2
 | [],n=>rfl
 |x::l,n=>(Cp hf l _).trans (hf n x)
theorem Cm{β:Type}{g:aa→β}{p:aa→ar→Bool}{f:aa→ar→aa}(hf: ∀n x,g (f n x)=g n): ∀(l:List ar) (n:aa),g (hY p f l n).2=g n
 | [],n=>rfl
 |x::l,n=>by
  unfold hY;split
  · exact(Cm hf l _).trans (hf n x)
  · exact Cm hf l _
theorem JZ(n:aa)(b:Int)(f:ar→ar):(n.mc b f).gk=n.gk:=by unfold mc;split<;>rfl
theorem wX(n:aa):n.kW.gk=n.gk:=Co (g:=gk) (f:=aa.put) (fun _ _=>rfl) _ _
theorem qZ(n:aa)(mk:Int):(n.changes mk).gk=n.gk:=by unfold changes;dsimp only;split<;>rfl
theorem CD(n:aa):n.note.2.gk=n.gk:=by
 unfold note;split
 · rfl
 · exact rD (g:=gk) rfl fun _ h=>h
theorem DB(n:aa):n.again.2.gk=n.gk:=Cn (g:=gk) (f:=eS) (fun n x=>by
 unfold eS;split
 · rfl
 split
 · rfl
 · exact rD (g:=gk) rfl fun n h=>(JZ _ _ _).trans h) _ _
theorem EX(n:aa):n.marks.2.gk=n.gk:=Cn (g:=gk) (f:=gE) (fun n x=>by unfold gE;split<;>rfl) _ _
theorem Ea(n:aa)(w:ar)(b:Bytes):(n.given w b).gk=n.gk:=by unfold given;split<;>rfl
theorem tC(n:aa):n.reads.gk=n.gk:=Cp (g:=gk) (f:=n.fP) (fun a w=>by
 unfold fP;split
 ·split
  · exact Ea _ _ _
  · rfl
 ·split<;>rfl) n.waits ([],n)
theorem nG(n:aa):Rl n n.settle:=by
 have h1:n.fv.gk=n.gk:=Cm (g:=gk) (p:=fW) (f:=je) (fun _ _=>rfl) _ _
 have h2:Rl n n.fv.eo:=by
  unfold eo;split
  · rename_i c;exact(Rl.of h1).trans (.pos (by have:=c.1;omega) rfl)
  · exact .of h1
 have h3:=h2.go (tC _);unfold settle;generalize n.fv.eo.reads=k at*;unfold eP;split
 ·exact h3
 split
 ·exact h3.go (qZ _ _)
 ·exact tF (h3.go (CD _)) fun n h=>h.go (wX n)
theorem IM(hr:0<n.role)(t:T4):Rl n (n.recover t):=by
 refine .pos hr ?_;have e1: ∀{a b:aa},a.gk=b.gk→a.ah=b.ah:=fun h=>congrArg Prod.snd h
 unfold recover;refine kT (g:=ah) (by unfold gO;split<;>rfl) fun n h=>kT (g:=ah) (by unfold cF;split;exact(e1 (EX _)).trans h;exact h) fun n h=>kT (g:=ah) ((e1 (DB _)).trans h) fun n h=>?_
 unfold dX;split
 · exact kT (g:=ah) ((e1 (CD _)).trans h) fun n h=>(e1 (wX _)).trans h
 · exact kT (g:=ah) h fun n h=>h
theorem Rt(n:aa):n.ready.gk=n.gk:=
 kT (g:=gk) ((DB _).trans rfl) fun n h=>kT (g:=gk) ((CD _).trans h) fun n h=>(wX _).trans h
theorem GY(n:aa):n.iw.gk=n.gk:=Cp (g:=gk) (f:=dt) (fun a b=>by
 unfold dt;split
 ·rfl
 ·split
  · dsimp only;split<;>rfl
  · split<;>rfl) _ (0,n)
theorem VI(n:aa):Rl n n.tick:=by
 unfold tick;split
 ·exact .of rfl
 unfold tO;split
 ·exact .of rfl
 have h0:Rl n (n.clear.k5.send 2 n.clear.k5.sj):= .of rfl;generalize n.clear.k5.send 2 n.clear.k5.sj=k at*;unfold tP;split
 ·exact h0.go rfl
 split
 ·unfold rS;have h1:=h0.go (show k.iD.gk=k.gk by unfold iD;split;exact wX _;rfl);generalize k.iD=k at*
  have h2:Rl n k.jv:=by
   unfold jv;split
   ·unfold k6 ze;split
    · exact h1.go ((qZ _ _).trans rfl)
    · exact(h1.go (show k.df.mR.gk=k.gk from rfl)).trans (nG _)
   split
   ·exact h1.go (qZ _ _)
   ·exact h1
  generalize k.jv=k at*;refine h2.go ?_;unfold tQ;split
  ·rfl
  ·refine(Co (g:=gk) (f:=k7) (fun n w=>by unfold k7;split<;>rfl) _ _).trans ((GY _).trans ?_);unfold mD;split<;>rfl
 ·exact h0
theorem MB(q:aM):Rl n (n.stored q):=by
 have h1:Rl n (n.eG q).settle:=(nG _).from (by unfold eG;split;split;exact JZ _ _ _;rfl;rfl)
 unfold stored;generalize (n.eG q).settle=k at*;unfold cX;split
 · exact h1
 split
 · exact h1
 · exact tF (h1.go rfl) fun n h=>h.go ((tC _).trans (by unfold gC;split<;>rfl))
theorem Kz(q:aM):Rl n (n.cZ q):=by
 unfold cZ;split
 · exact .of rfl
 split
 · exact .zero rfl (Int.le_refl _)
 split
 · exact .of rfl
 split
 · rename_i c;exact IM (by have:=c.2.1;omega) _
 split
 · exact .of (Cm (g:=gk) (p:=eg q) (f:=fun n w=>n.given w q.data) (fun _ _=>Ea _ _ _) _ _)
 split
 · exact MB _
 · exact .of rfl
theorem Bs(n:aa)(w:ar)(x:bd):(n.gp w x).gk=n.gk:=by unfold gp;split<;>rfl
theorem Se(w:ar)(b:Bytes):(n.write w b).gk=n.gk:=by
 unfold write;split
 · rfl
 refine kT (g:=gk) (by unfold iL;split<;>rfl) fun n h=>?_
 unfold iM;split
 · exact h
 refine kT (g:=gk) h fun n h=>kT (g:=gk) h fun n h=>?_
 unfold jo;refine(Bs _ _ _).trans ?_;unfold jM;split<;>exact h
theorem KI(jr:Int)(q:aM):(n.called jr q).gk=n.gk:=by
 unfold called;split
 ·rfl
 split
 ·rfl
 split
 ·unfold g4;split
  · rfl
  split
  · rfl
  · exact Bs _ _ _
 unfold kh;split
 ·rfl
 split
 ·rfl
 unfold ki;split
 ·exact tC _
 split
 ·exact tC _
 split<;>exact Se _ _
theorem Bn(n:aa):n.fY.gk=n.gk:=Co (g:=gk) (f:=dz) (fun n w=>by
 unfold dz;split
 · rfl
 · split<;>rfl) _ _
theorem GO(mk:Int):Rl n (n.changed mk):=by
 have h:Rl n (n.cj mk):= .of rfl;unfold changed mX;generalize n.cj mk=k at*;split
 ·exact tF (h.go rfl) fun n h=>h.trans (nG n)
 split
 ·refine tF (h.go (EX _)) fun n h=>?_
  have h2:=h.go (show n.kM.gk=n.gk from rfl)
  have h3:Rl _ n.kM.gx:=h2.trans (by
   unfold gx;split
   · rename_i c;exact .pos (by omega) rfl
   · exact .of rfl)
  exact(h3.go (Bn _)).trans (nG _)
 ·exact h.trans (.zero rfl (Int.le_refl _))
theorem Dy(e:Int):Rl n (n.eC e).2∧((n.eC e).1=true→n.ah<e→(n.eC e).2.ah=e):=by
 unfold eC
 by_cases c:e≤n.ah
 ·rw[if_pos c];exact⟨.of rfl,fun _ h=>by omega⟩
 ·rw[if_neg c];unfold gz To;dsimp only;split
  · exact⟨.zero rfl (by show n.ah≤e;omega),fun _ _=>rfl⟩
  · rename_i h;exact⟨.zero rfl (Int.le_refl _),fun q=>absurd q h⟩
theorem G9(q:aM):Rl n (n.granted q)∨(n.ah≤(n.granted q).ah∧(n.granted q).ah=q.ah∧q.e=0∧q.eU=n.id):=by
 unfold granted;split
 ·split
  ·exact .inl (.zero rfl (Int.le_refl _))
  ·exact .inl (.of rfl)
 rename_i h1
 unfold gL;split
 ·exact .inl (.of rfl)
 split
 ·rename_i h2
  obtain⟨r1,r2⟩:=Dy (n:=n) q.ah;unfold andThen;split
  ·rename_i h3
   have r2:=r2 h3 h2;refine .inr ⟨?_,r2,by omega,by omega⟩;have e:(((n.eC q.ah).2.vn q.seq).lS (q.n-n.born*4294967296)).ah=(n.eC q.ah).2.ah:=rfl;rw[e,r2];omega
  ·exact .inl r1
 split
 ·exact .inl (.of rfl)
 ·exact .inl (.of rfl)
theorem aae(q:aM):(n.lay q).2.gk=n.gk:=by
 unfold lay;refine rD (g:=gk) (by unfold wB;split<;>rfl) fun n h=>?_
 split
 ·exact h
 ·refine rD (g:=gk) (by unfold Aa;split<;>exact h) fun n h=>?_
  unfold wC;split<;>exact h
theorem aan(q:aM):Rl n (n.met q):=by
 unfold met;split
 ·split
  ·exact .of rfl
  refine tF (Dy _).1 fun n h=>h.go ?_
  unfold H4;split
  ·rfl
  split
  ·unfold taken;split
   · rfl
   split
   · exact kT (g:=gk) (rD (g:=gk) (aae q) fun n h=>h) fun n h=>h
   · rfl
  ·unfold begun;split
   · rfl
   split
   · rfl
   refine kT (g:=gk) ?_ fun n h=>h
   unfold cM;split
   · rfl
   · exact rD (g:=gk) (Cn (g:=gk) (f:=eT ((dJ q.row).1,(dJ q.row).2.1)) (fun n x=>by unfold eT;split<;>rfl) _ _) fun n h=>rD (g:=gk) h fun n h=>h
 split
 ·unfold LZ;split
  ·exact(nG _).from ((Bn _).trans rfl)
  ·exact .of rfl
 split
 ·unfold L2;split
  ·exact .of (Rt _)
  ·exact .of rfl
 split
 ·unfold LY;split
  ·split<;>exact .of rfl
  ·exact .of rfl
 ·exact .of rfl
def jA(i:Int)(a:gu):Prop:=a.kind=0∧a.fr=2∧(bF (fh a).body).2=0∧(bF (fh a).body).1.kind=2∧(bF (fh a).body).1.e=0∧(bF (fh a).body).1.eU=i
theorem VC(hl:n.lost=false)(a:gu):Rl n (n.step a)∨(n.ah≤(n.step a).ah∧(n.step a).ah=(bF (fh a).body).1.ah∧jA n.id a):=by
 unfold step;split;rotate_left
 ·split
  ·exact .inl (VI n)
  ·exact .inl (.of rfl)
 rename_i h0
 unfold take tN;split
 ·exact .inl (.of rfl)
 split
 ·exact .inl (.of rfl)
 split
 ·exact .inl (.of rfl)
 rename_i h1 h2 h3
 have hd:(bF (fh a).body).2=0:=by simpa using h3
 split
 ·exact .inl (.of rfl)
 have hh: ∀k:aa,k.oQ.gk=k.gk:=fun k=>by unfold oQ;split<;>rfl
 have g:Rl n (n.clear.nW (fh a).jr (bF (fh a).body).1)∨(n.ah≤(n.clear.nW (fh a).jr (bF (fh a).body).1).ah∧(n.clear.nW (fh a).jr (bF (fh a).body).1).ah=(bF (fh a).body).1.ah∧jA n.id a):=by
  have hc:n.clear.gk=n.gk:=rfl;unfold nW;split
  ·rename_i hf
   unfold heard;rw[if_neg (by rw[show n.clear.lost=n.lost from rfl,hl];exact Bool.false_ne_true)];split
   ·rename_i hk
    rcases G9 (n:=n.clear) (bF (fh a).body).1 with q|⟨q1,q2,q3,q4⟩
    · exact .inl (q.from hc)
    · exact .inr ⟨q1,q2,h0,hf,hd,hk,q3,q4⟩
   split
   ·exact .inl (.of rfl)
   split
   ·exact .inl (.zero rfl (Int.le_refl _))
   split
   ·exact .inl ((GO _).from hc)
   ·exact .inl (.of rfl)
  split
  ·exact .inl ((Kz _).from hc)
  split
  ·exact .inl ((aan _).from hc)
  ·exact .inl (.of (KI _ _))
 dsimp only;have hg:=hh (n.clear.nW (fh a).jr (bF (fh a).body).1);rcases g with g|⟨g1,g2,g3⟩
 ·exact .inl (g.go hg)
 ·have he:(n.clear.nW (fh a).jr (bF (fh a).body).1).oQ.ah=_:=congrArg Prod.snd hg;exact .inr ⟨by rw[he];exact g1,by rw[he];exact g2,g3⟩
end aa
end Go.Sl