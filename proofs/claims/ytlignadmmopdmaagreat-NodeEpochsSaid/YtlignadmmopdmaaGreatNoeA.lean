/- A part of the proof. -/
import Derived.Test.YtlignadmmopdmaaGreatNodZ
set_option linter.unusedVariables false
set_option linter.unusedSimpArgs false
set_option linter.constructorNameAsVariable false
namespace Go.Sl
structure NJ(m N j:Nat)(n:aa):Prop where
 i: ∃W k,k≤3000*j∧NI m N k W n
 len:n.d.l.length=N
 ok:n.d.ok
 dc:n.dr.c.ok N
 dn:1≤n.dr.n∧n.dr.n≤32
 cb:n.c.bl≤32
 big:14≤N
def aa.core(n:aa):aQ × az × a8 × eX × Int:=(n.c,n.d,n.f,n.dr,n.ah)
namespace aa
variable {n : aa} {m N j : Nat}
theorem _root_.Go.Sl.NJ.mv{n':aa}(h:NJ m N j n)(e:n'.core=n.core):NJ m N j n':=by
 simp only[core,Prod.mk.injEq]at e;obtain⟨e1,e2,e3,e4,e5⟩:=e;obtain⟨⟨W,k,hk,hi⟩,a,b,c,d,f,g14⟩:=h;refine⟨⟨W,k,hk,?_⟩,by rw[e2];exact a,by rw[e2];exact b,by rw[e4];exact c,by rw[e4];exact d,by rw[e1];exact f,g14⟩;rcases hi with g|g
 · exact .inl ⟨by rw[e1,e2];exact g.go,by rw[e3,e2];exact g.fo,by rw[e2];exact g.fs,by rw[e3,e5];exact g.ft,by rw[e4];exact g.da⟩
 · exact .inr ⟨by rw[e2];exact g.go,by rw[e2,e5];exact g.ft⟩
theorem _root_.Go.Sl.NJ.le{j':Nat}(h:NJ m N j n)(hj:j≤j'):NJ m N j' n:=by
 obtain⟨⟨W,k,hk,hi⟩,a,b,c,d,f,g14⟩:=h;exact⟨⟨W,k,by omega,hi⟩,a,b,c,d,f,g14⟩
theorem _root_.Go.Sl.NJ.act(h:NJ m N j n)(hj:j≤1000000)(kind:Int)(x:bd)(ns:List Int):NJ m N (j+1) (n.iO (m0 n.c n.d kind x ns)).2:=by
 obtain⟨⟨W,k,hk,hi⟩,a,b,c,d,f,g14⟩:=h;have r:=hi.cache (by omega) kind x ns (W':=(W++JX n.c)++[((m0 n.c n.d kind x ns).2.1.all,(m0 n.c n.d kind x ns).2.1.k)]) (fun y hy=>by simp[hy]) (fun _ y hy=>by simp[hy]) (by simp)
 have cq:(m0 n.c n.d kind x ns).2.2.ok:=by
  rcases hi with g|g
  · exact(N3 (g.go.ok.1) kind x ns).d
  · rw[ur g.go.dead];exact b
 refine NJ.mv (n:=n.bf (m0 n.c n.d kind x ns)) ⟨⟨_,_,by omega,r⟩,?_,cq,c,d,?_,g14⟩ rfl
 ·show(m0 n.c n.d kind x ns).2.2.l.length=N;rw[Wf];exact a
 ·show(m0 n.c n.d kind x ns).2.1.bl≤32;rw[Jj];exact f
theorem _root_.Go.Sl.NJ.put(h:NJ m N j n)(hj:j≤1000000)(x:bd):NJ m N (j+1) (n.iO (n.c.put n.d x)).2:=h.act hj 0 x []
theorem _root_.Go.Sl.NJ.clean(h:NJ m N j n)(hj:j≤1000000)(b e s:Int):NJ m N (j+1) (n.iO (n.c.clean n.d b e s)).2:=h.act hj 1 ⟨b,e,s,[],false,0,0⟩ []
theorem _root_.Go.Sl.NJ.drop(h:NJ m N j n)(hj:j≤1000000)(b:Int):NJ m N (j+1) (n.iO (n.c.drop n.d b)).2:=h.act hj 2 ⟨b,0,0,[],false,0,0⟩ []
theorem _root_.Go.Sl.NJ.fj(h:NJ m N j n)(hj:j≤1000000)(e s:Int)(ns:List Int):NJ m N (j+1) (n.iO (n.c.note n.d e s ns)).2:=h.act hj 3 ⟨0,e,s,[],false,0,0⟩ ns
theorem _root_.Go.Sl.NJ.reset(h:NJ m N j n)(hj:j≤1000000)(e s:Int)(ns:List Int):NJ m N (j+1) (n.iO (n.c.reset n.d e s ns)).2:=h.act hj 8 ⟨0,e,s,[],false,0,0⟩ ns
theorem _root_.Go.Sl.NJ.sync(h:NJ m N j n)(hj:j≤1000000):NJ m N (j+1) n.sync.2:=h.act hj 4 .zero []
theorem _root_.Go.Sl.NJ.oz(h:NJ m N j n)(hj:j≤1000000)(v:Nat):NJ m N (j+1) (n.BM (n.dr.set n.d v)).2:=by
 obtain⟨⟨W,k,hk,hi⟩,a,b,c,d,f,g14⟩:=h;have r:=hi.bits (by omega) (by rw[a];exact c) d v;have p:=Go.Sl.mO (C:=n.dr.c) (D:=n.d) (by rw[a];exact c) b (iC (ef n.dr.n) v);refine NJ.mv (n:=n.iG (n.dr.set n.d v)) ⟨⟨W,k,by omega,r⟩,?_,p.2,?_,d,f,g14⟩ rfl
 · show(n.dr.c.put n.d _).2.2.l.length=N;rw[vO];exact a
 · rw[a]at p;exact p.1
theorem _root_.Go.Sl.NJ.mark(h:NJ m N j n)(hj:j≤1000000)(b:Int):NJ m N (j+1) (n.BM (n.dr.mark n.d b)).2:=by
 unfold eX.mark;split
 · exact(h.mv (n':=(n.BM (2,n.dr,n.d)).2) rfl).le (by omega)
 split
 · exact(h.mv (n':=(n.BM (0,n.dr,n.d)).2) rfl).le (by omega)
 · exact h.oz hj _
theorem _root_.Go.Sl.NJ.BK(h:NJ m N j n)(hj:j≤1000000):NJ m N (j+1) (n.BM (n.dr.clear n.d)).2:=by
 unfold eX.clear;split
 · exact(h.mv (n':=(n.BM (0,n.dr,n.d)).2) rfl).le (by omega)
 · exact h.oz hj _
theorem fK{r:Bool × aa}{f:aa→aa}{c:Nat}(h:NJ m N j r.2)(hf: ∀n,NJ m N j n→NJ m N (j+c) (f n)):NJ m N (j+c) (andThen r f):=by
 unfold andThen;split
 · exact hf _ h
 · exact h.le (by omega)
theorem oe{r:Bool × aa}{f:aa→Bool × aa}{c:Nat}(h:NJ m N j r.2)(hf: ∀n,NJ m N j n→NJ m N (j+c) (f n).2):NJ m N (j+c) (gz r f).2:=by
 unfold gz;split
 · exact hf _ h
 · exact h.le (by omega)
theorem wW{α:Type}{f:aa→α→Bool × aa}(hf: ∀n j x,j≤1000000→NJ m N j n→NJ m N (j+1) (f n x).2): ∀(l:List α) {n:aa} {j:Nat},j+l.length≤1000000→NJ m N j n→NJ m N (j+l.length) (ia f l n).2
 | [],_,_,_,h=>h
 |x::l,n,j,hj,h=>by
  rw[List.length_cons]at hj ⊢;have h1:=hf n j x (by omega) h;unfold ia;split
  · exact h1.le (by omega)
  · exact(wW hf l (by omega) h1).le (by omega)
theorem p8{α:Type}{f:aa→α→aa}(hf: ∀n x,(f n x).core=n.core): ∀(l:List α) (n:aa),(l.foldl f n).core=n.core
 | [],n=>rfl
 |x::l,n=>(p8 hf l _).trans (hf n x)
theorem rh{α β:Type}{f:β × aa→α→β × aa}(hf: ∀n x,(f n x).2.core=n.2.core): ∀(l:List α) (n:β × aa),(l.foldl f n).2.core=n.2.core
 | [],n=>rfl
 |x::l,n=>(rh hf l _).trans (hf n x)
theorem p7{p:aa→ar→Bool}{f:aa→ar→aa}(hf: ∀n x,(f n x).core=n.core): ∀(l:List ar) (n:aa),(hY p f l n).2.core=n.core
 | [],n=>rfl
 |x::l,n=>by
  unfold hY;split
  · exact(p7 hf l _).trans (hf n x)
  · exact p7 hf l _
theorem A0(n:aa)(b:Int)(f:ar→ar):(n.mc b f).core=n.core:=by unfold mc;split<;>rfl
theorem qt(n:aa):n.kW.core=n.core:=p8 (f:=aa.put) (fun _ _=>rfl) _ _
theorem nQ(n:aa)(mk:Int):(n.changes mk).core=n.core:=by unfold changes;dsimp only;split<;>rfl
theorem xK(n:aa)(w:ar)(b:Bytes):(n.given w b).core=n.core:=by unfold given;split<;>rfl
theorem ou(n:aa):n.reads.core=n.core:=rh (f:=n.fP) (fun a w=>by
 unfold fP;split
 ·split
  · exact xK _ _ _
  · rfl
 ·split<;>rfl) n.waits ([],n)
theorem CB(h:NJ m N j n)(hj:j+2≤1000000):NJ m N (j+2) n.note.2:=by
 unfold note;split
 · exact h.le (by omega)
 · exact oe (c:=1) ((h.mv (n':=n.td) rfl).fj (by omega) _ _ _) fun n h=>(h.mv (n':={n with fj:=n.done}) rfl).sync (by omega)
theorem L7(n:aa)(j:Nat)(x:bd)(hj:j≤1000000)(h:NJ m N j n):NJ m N (j+1) (n.eS x).2:=by
 unfold eS;split
 ·exact h.le (by omega)
 split
 ·exact(h.mv (n':=(n.nM x).err (n.s.add (jw x)).1.2) rfl).le (by omega)
 ·have g:=(h.mv (n':=n.nM x) rfl).put hj {x with ve:=n.ah,vs:=(n.s.add (jw x)).1.1};exact oe (c:=0) g fun n h=>h.mv (A0 _ _ _)
theorem Nu(h:NJ m N j n):n.c.all.length≤32:=Nat.le_trans (mV _ _) h.cb
theorem E7(h:NJ m N j n)(hj:j+32≤1000000):NJ m N (j+32) n.again.2:=by
 have:=Nu h;exact(wW L7 n.c.all (by omega) h).le (by omega)
theorem E8(h:NJ m N j n)(hj:j+32≤1000000):NJ m N (j+32) n.marks.2:=by
 have:=Nu h;exact(wW (f:=gE) (fun n j x hj h=>by unfold gE;split;exact h.le (by omega);exact h.mark hj _) n.c.all (by omega) h).le (by omega)
theorem ny(h:NJ m N j n)(hj:j+2≤1000000):NJ m N (j+2) n.settle:=by
 unfold settle;have h1:n.fv.core=n.core:=p7 (p:=fW) (f:=je) (fun _ _=>rfl) _ _;have h2:n.fv.eo.core=n.core:=by unfold eo;split;exact h1;exact h1
 have h3:=(ou n.fv.eo).trans h2;have g:=h.mv h3;generalize n.fv.eo.reads=k at*;unfold eP;split
 · exact g.le (by omega)
 split
 · exact(g.mv (nQ _ _)).le (by omega)
 · exact(fK (c:=0) (CB g hj) fun n h=>h.mv (qt n))
theorem Ie(h:NJ m N j n)(hj:j+70≤1000000)(t:T4):NJ m N (j+70) (n.recover t):=by
 have g1:NJ m N (j+1) (n.gO t).2:=by unfold gO;split;exact h.fj (by omega) _ _ _;exact h.le (by omega)
 refine NJ.le (fK (c:=66) (j:=j+1) g1 fun n h=>?_) (by omega);have g2:NJ m N (j+1+32) n.cF.2:=by unfold cF;split;exact E8 h (by omega);exact h.le (by omega)
 refine NJ.le (fK (c:=34) (j:=j+1+32) g2 fun n h=>?_) (by omega);refine NJ.le (fK (c:=2) (j:=j+1+32+32) (E7 (h.mv (n':=n.qK) rfl) (by omega)) fun n h=>?_) (by omega);have h:=h.mv (n':=n.bP) rfl;unfold dX;split
 · exact fK (c:=0) (j:=j+1+32+32+2) (CB h (by omega)) fun n h=>(h.mv (n':={n with role:=2}) rfl).mv (qt _)
 · exact NJ.le (fK (c:=0) (j:=j+1+32+32+1) (h.sync (by omega)) fun n h=>h.mv rfl) (by omega)
theorem Qg(h:NJ m N j n)(hj:j+40≤1000000):NJ m N (j+40) n.ready:=
 (fK (c:=2) (E7 (h.mv (n':=n.jl) rfl) (by omega)) fun n h=>fK (c:=0) (CB h (by omega)) fun n h=>h.mv (qt n)).le (by omega)
theorem Qh(h:NJ m N j n)(hj:j+2≤1000000):NJ m N (j+2) n.k6:=by
 have h:=h.mv (n':=n.df) rfl;unfold k6 ze;split
 · exact(h.mv (nQ _ _)).le (by omega)
 · exact ny (h.mv (n':=n.df.mR) rfl) hj
theorem BO(n:aa):n.iw.core=n.core:=rh (f:=dt) (fun a b=>by
 unfold dt;split
 ·rfl
 ·split
  · dsimp only;split<;>rfl
  · split<;>rfl) _ (0,n)
theorem UZ(h:NJ m N j n)(hj:j+2≤1000000):NJ m N (j+2) n.tick:=by
 unfold tick;split
 ·exact(h.mv (n':=n.clear) rfl).le (by omega)
 have h:=h.mv (n':=n.clear.k5) rfl;generalize n.clear.k5=n at*;unfold tO;split
 ·exact(h.mv (n':=n.send 2 {lT with kind:=4,n:=n.serial}) rfl).le (by omega)
 have h:=h.mv (n':=n.send 2 n.sj) rfl;generalize n.send 2 n.sj=n at*;unfold tP;split
 ·exact(h.mv (n':=n.load (-1) 0) rfl).le (by omega)
 split
 ·unfold rS;have g1:NJ m N j n.iD:=h.mv (by unfold iD;split;exact qt _;rfl);generalize n.iD=n at*
  have g2:NJ m N (j+2) n.jv:=by
   unfold jv;split
   · exact Qh g1 hj
   split
   · exact(g1.mv (nQ _ _)).le (by omega)
   · exact g1.le (by omega)
  generalize n.jv=n at*;refine g2.mv ?_;unfold tQ;split
  ·rfl
  ·refine(p8 (f:=k7) (fun n w=>by unfold k7;split<;>rfl) _ _).trans ((BO _).trans ?_);unfold mD;split<;>rfl
 ·exact h.le (by omega)
theorem Ma(h:NJ m N j n)(hj:j+5≤1000000)(q:aM):NJ m N (j+5) (n.stored q):=by
 unfold stored;have g:=ny (h.mv (n':=n.eG q) (by unfold eG;split;split;exact A0 _ _ _;rfl;rfl)) (by omega);generalize (n.eG q).settle=n at*;unfold cX;split
 · exact g.le (by omega)
 split
 · exact g.le (by omega)
 · exact NJ.le (fK (c:=0) (g.clean (by omega) _ _ _) fun n h=>h.mv ((ou _).trans (by unfold gC;split<;>rfl))) (by omega)
theorem L8(h:NJ m N j n)(hj:j+70≤1000000)(q:aM):NJ m N (j+70) (n.cZ q):=by
 unfold cZ;split
 · exact h.le (by omega)
 split
 · exact(h.mv (n':=n.du) rfl).le (by omega)
 split
 · exact h.le (by omega)
 split
 · exact Ie h hj _
 split
 · exact(h.mv (n':=n.kU q) (p7 (p:=eg q) (f:=fun n w=>n.given w q.data) (fun _ _=>xK _ _ _) _ _)).le (by omega)
 split
 · exact(Ma h (by omega) q).le (by omega)
 · exact h.le (by omega)
theorem vY(n:aa)(w:ar)(x:bd):(n.gp w x).core=n.core:=by unfold gp;split<;>rfl
theorem Qi(h:NJ m N j n)(hj:j+3≤1000000)(w:ar)(b:Bytes):NJ m N (j+3) (n.write w b):=by
 unfold write;split
 · exact(h.mv (n':=n.answer w 23 []) rfl).le (by omega)
 have g1:NJ m N (j+1) (n.iL w).2:=by unfold iL;split;exact h.mark (by omega) _;exact h.le (by omega)
 refine fK (c:=2) g1 fun n h=>?_
 unfold iM;split
 · exact((h.put (by omega) _).mv (n':=(n.bf (n.c.put n.d (n.dL w b))).answer w 12 []) rfl).le (by omega)
 refine fK (c:=1) (h.put (by omega) _) fun n h=>fK (c:=0) (h.sync (by omega)) fun n h=>h.mv ?_
 unfold jo;refine(vY _ _ _).trans ?_;unfold jM;split<;>rfl
theorem L9(h:NJ m N j n)(hj:j+3≤1000000)(jr:Int)(q:aM):NJ m N (j+3) (n.called jr q):=by
 have h0:=h.le (show j≤j+3 by omega);unfold called;split
 ·exact h0
 split
 ·exact h0
 split
 ·unfold g4;split
  · exact h0.mv rfl
  split
  · exact h0.mv rfl
  · exact h0.mv (vY _ _ _)
 unfold kh;split
 ·exact h0.mv rfl
 split
 ·exact h0.mv rfl
 unfold ki;split
 ·exact h0.mv (ou _)
 split
 ·exact h0.mv (ou _)
 split<;>exact Qi h hj _ _
theorem vW(n:aa):n.fY.core=n.core:=p8 (f:=dz) (fun n w=>by
 unfold dz;split
 · rfl
 · split<;>rfl) _ _
theorem Ic(h:NJ m N j n)(hj:j+40≤1000000)(mk:Int):NJ m N (j+40) (n.changed mk):=by
 have h:=h.mv (n':=n.cj mk) rfl;unfold changed mX;generalize n.cj mk=n at*;split
 · exact NJ.le (fK (c:=2) (h.BK (by omega)) fun n h=>ny h (by omega)) (by omega)
 split
 · exact NJ.le (fK (c:=2) (E8 h (by omega)) fun n h=>ny (h.mv ((vW _).trans (by unfold gx;split<;>rfl))) (by omega)) (by omega)
 · exact(h.mv (n':=n.du) rfl).le (by omega)
theorem E6(h:NJ m N j n)(hj:j+1≤1000000){e:Int}(he:gg e):NJ m N (j+1) (n.eC e).2:=by
 unfold eC;split
 ·exact h.le (by omega)
 rename_i EH
 obtain⟨⟨W,k,hk,hi⟩,a,b,c,d,f,g14⟩:=h;obtain⟨r1,r2⟩:=hi.facts (by omega) he (by omega);have hl:(n.f.put n.d (cR e)).2.2.l.length=N:=by rw[vO];exact a
 have cq:(n.f.put n.d (cR e)).2.2.ok:=by
  rcases hi with g|g
  ·have hE:cg n.d 0 1=0:=tm (by decide) (by decide) (by rw[a];have:=g.len.2;omega) (by rw[g.len.1.live];decide);exact(Go.Sl.mO (C:=n.f) (by rw[g.fo];exact(eW hE).1) b _).2
  ·rw[(uS g.go.dead n.f (cR e)).1];exact b
 unfold gz To;dsimp only
 by_cases h0:(n.f.put n.d (cR e)).1=0
 ·rw[if_pos (by rw[h0];rfl)];obtain⟨al,ht⟩:=r2 h0;refine NJ.mv (n:={n.k8 (n.f.put n.d (cR e))with ah:=e}) ⟨⟨W,k,by omega,.inl ⟨al.go,al.fo,al.fs,⟨e,?_,Int.le_refl _⟩,al.da⟩⟩,hl,cq,c,d,f,g14⟩ rfl;show fact (n.f.put n.d (cR e)).2.1.text=some e;rw[ht];exact nU he
 ·rw[if_neg (by simpa using h0)];exact NJ.mv (n:=n.k8 (n.f.put n.d (cR e))) ⟨⟨W,k,by omega,r1⟩,hl,cq,c,d,f,g14⟩ rfl
theorem Qf(h:NJ m N j n)(hj:j+40≤1000000)(hl:n.lost=false){q:aM}(hm:q.ok):NJ m N (j+40) (n.heard q):=by
 unfold heard;rw[if_neg (by rw[hl];exact Bool.false_ne_true)];split
 ·unfold granted;split
  ·split
   · exact(h.mv (n':=n.du) rfl).le (by omega)
   · exact h.le (by omega)
  unfold gL;split
  ·exact h.le (by omega)
  split
  ·exact NJ.le (fK (c:=0) (j:=j+1) (E6 h (by omega) hm.ah) fun n h=>h.mv rfl) (by omega)
  split
  ·exact h.le (by omega)
  ·exact(h.mv (n':=n.lS _) rfl).le (by omega)
 split
 ·exact h.le (by omega)
 split
 ·exact(h.mv (n':=n.du) rfl).le (by omega)
 split
 ·exact Ic h hj _
 ·exact h.le (by omega)
theorem aaC(h:NJ m N j n)(hj:j+4≤1000000)(q:aM):NJ m N (j+4) (n.lay q).2:=by
 unfold lay;refine NJ.le (oe (c:=2) (j:=j+1) (by unfold wB;split;exact h.reset (by omega) _ _ _;exact h.le (by omega)) fun n h=>?_) (by omega);split
 ·exact(h.fj (by omega) _ _ _).le (by omega)
 ·refine oe (c:=1) (by unfold Aa;split;exact h.fj (by omega) _ _ _;exact h.le (by omega)) fun n h=>?_
  unfold wC;split
  · exact(h.put (by omega) (uL q)).mv (n':=n.bf (n.c.put n.d (uL q))) rfl
  · exact h.put (by omega) _
theorem aaD(h:NJ m N j n)(hj:j+60≤1000000){q:aM}(hm:q.ok):NJ m N (j+60) (n.met q):=by
 have h0:=h.le (show j≤j+60 by omega);unfold met;split
 ·split
  ·exact h0
  refine NJ.le (fK (c:=40) (j:=j+1) (E6 h (by omega) hm.ah) fun n h=>?_) (by omega);have h1:=h.le (show j+1≤j+1+40 by omega);unfold H4;split
  ·exact h1
  split
  ·unfold taken;split
   ·exact h1
   split
   ·exact NJ.le (fK (c:=0) (j:=j+1+4+1) (oe (c:=1) (j:=j+1+4) (aaC h (by omega) q) fun n h=>h.sync (by omega)) fun n h=>h.mv rfl) (by omega)
   ·exact h1.mv rfl
  ·unfold begun;split
   ·exact h1
   split
   ·exact h1.mv rfl
   refine NJ.le (fK (c:=0) (j:=j+1+34) ?_ fun n h=>h.mv rfl) (by omega);unfold cM;split
   ·exact h.le (by omega)
   ·have Hk:=Nu h;have g:=(wW (f:=eT ((dJ q.row).1,(dJ q.row).2.1)) (fun n j x hj h=>by unfold eT;split;exact h.drop hj _;exact h.le (by omega)) n.c.all (show j+1+n.c.all.length≤1000000 by omega) h).le (show j+1+n.c.all.length≤j+1+32 by omega);exact oe (c:=2) (j:=j+1+32) g fun n h=>oe (c:=1) (j:=j+1+32+1) (h.reset (by omega) _ _ _) fun n h=>h.sync (by omega)
 split
 ·unfold LZ;split
  ·exact(ny ((h.mv (n':=n.yu q.seq) rfl).mv (vW _)) (by omega)).le (by omega)
  ·exact h0
 split
 ·unfold L2;split
  ·exact(Qg h (by omega)).le (by omega)
  ·exact h0
 split
 ·unfold LY;split
  ·split
   ·exact((h.clean (by omega) q.block q.ah q.seq).mv (n':=n.bf (n.c.clean n.d q.block q.ah q.seq)) rfl).le (by omega)
   ·exact(h.clean (by omega) _ _ _).le (by omega)
  ·exact h0
 ·exact h0
theorem UY(h:NJ m N j n)(hj:j+100≤1000000)(hl:n.lost=false)(a:gu):NJ m N (j+100) (n.step a):=by
 have h0:=h.le (show j≤j+100 by omega);unfold step;split
 ·unfold take tN;split
  ·exact h0.mv rfl
  split
  ·exact h0.mv rfl
  split
  ·exact h0.mv rfl
  rename_i h1 h2 h3
  have hm:=mY (s:=(fh a).body) (by simpa using h3);split
  ·exact h0.mv rfl
  have hc:NJ m N j n.clear:=h.mv rfl
  have g:NJ m N (j+100) (n.clear.nW (fh a).jr (bF (fh a).body).1):=by
   unfold nW;split
   · exact(Qf hc (by omega) hl hm).le (by omega)
   split
   · exact(L8 hc (by omega) _).le (by omega)
   split
   · exact(aaD hc (by omega) hm).le (by omega)
   · exact(L9 hc (by omega) _ _).le (by omega)
  unfold oQ;split
  ·exact g.mv rfl
  ·exact g
 split
 ·exact(UZ h (by omega)).le (by omega)
 ·exact h0
end aa
end Go.Sl