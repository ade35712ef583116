/- A part of the proof. -/
import Derived.Test.YtlignadmmopdmaaGreatNodU
import Derived.Test.YtlignadmmopdmaaGreatNodY
import Derived.Test.YtlignadmmopdmaaGreatNodV
set_option linter.unusedVariables false
set_option linter.unusedSimpArgs false
set_option linter.constructorNameAsVariable false
namespace Go.Sl
def Nc(N:Nat)(m:Nat):jW:=⟨6,N- 6,4,5,N,m⟩
variable {N m k : Nat} {W : List (List bd × bT)}
theorem cf.beside{C:aQ}{D D':az}(g:cf (Nc N m) k C D W)(hA:o3 D' N)(hs: ∀j:Int,0≤j→j<N→4≤j→D'.sec j=D.sec j)(hu: ∀j,D'.k4 j=D.k4 j):cf (Nc N m) k C D' W:=by
 obtain⟨⟨p,h,hS⟩,h8⟩:=g;have hl:=h.lx.aw.len
 obtain⟨x1,x2⟩:=h.lx.beside hA (fun j a b c=>hs j a b (by
  rcases c with c|c|c
  · rw[c];show(4:Int)≤4;decide
  · rw[c];show(4:Int)≤5;decide
  · have:=c.1;have e:(Nc N m).first=6:=rfl;omega)) hu
 exact⟨⟨p,⟨h.ok.at hA.ok (by rw[hA.len,hl];rfl),x1,by rw[x2];exact h.lg,h.bl,h.nn,h.rp⟩,hS⟩,h8⟩
theorem cf.bar{C:aQ}{D D':az}(g:cf (Nc N m) k C D W)(hk:k<4611686018427387000)(hL:Live D' N)(hs: ∀j:Int,0≤j→j<N→D'.sec j=D.sec j):cf (Nc N m) k C D' W:=by
 obtain⟨⟨p,h,hS⟩,h8⟩:=g;have hl:=h.lx.aw.len;obtain⟨x1,x2⟩:=h.lx.FQ hk hL hs;exact⟨⟨C.l.l.length,⟨h.ok.at hL.ok (by rw[hL.len,hl];rfl),x1,by rw[x2];exact h.lg,h.bl,h.nn,h.rp⟩,fun q a b=>hS q (Nat.le_trans h.lx.pl a) b⟩,h8⟩
theorem cf.lk{C:aQ}{D:az}(g:cf (Nc N m) k C D W):Lk C.l∧o3 D N∧14≤N:=by
 obtain⟨⟨p,h,hS⟩,h8⟩:=g;have h8:8≤N- 6:=h8;rw[h.lg];have e:=im D 4 5;exact⟨⟨by show(4:Int)≤6;decide,by show 0<N- 6;omega,by show 4≤(aF D 4 5).a;rw[e.1];decide,by show 4≤(aF D 4 5).b;rw[e.2];decide⟩,h.lx.aw,by omega⟩
def Nh(D:az)(ep:Int):Prop:= ∀ks:dq,(∀x∈ks,x.1≠2)→ ∃e,fact (aF (D.bD ks) 0 1).text=some e∧ep≤e
structure Gq(m N k:Nat)(W:List (List bd × bT))(n:aa):Prop where
 go:cf (Nc N m) k n.c n.d W
 fo:n.f=aF n.d 0 1
 fs: ∀j:Int,0≤j→j<2→n.d.k4 j=n.d.sec j
 ft: ∃e,fact n.f.text=some e∧n.ah≤e
 da:n.dr.c.a=2∧n.dr.c.b=3
structure NDe(m N k:Nat)(W:List (List bd × bT))(n:aa):Prop where
 go:iQ (Nc N m) k n.d W
 ft:Nh n.d n.ah
def NI(m N k:Nat)(W:List (List bd × bT))(n:aa):Prop:=Gq m N k W n∨NDe m N k W n
theorem yM{D:az}{N:Nat}{e ep:Int}(h:D.ok)(hl:D.l.length=N)(hN:2≤N){D0:az}(hs: ∀j:Int,0≤j→j<2→D.sec j=D0.sec j∧D.k4 j=D0.sec j)(hf:fact (aF D0 0 1).text=some e)(he:ep≤e):Nh D ep:=fun ks kn=>by
 have hp: ∀j:Int,0≤j→j<2→(D.bD ks).sec j=D0.sec j:=fun j a b=>by
  rcases ri h hl kn a (by omega)with q|q
  · rw[q];exact(hs j a b).2
  · rw[q];exact(hs j a b).1
 have ho:aF (D.bD ks) 0 1=aF D0 0 1:=gm (hp 0 (by decide) (by decide)) (hp 1 (by decide) (by decide));exact⟨e,by rw[ho];exact hf,he⟩
theorem Gq.len{n:aa}(h:Gq m N k W n):o3 n.d N∧14≤N:=⟨h.go.lk.2.1,h.go.lk.2.2⟩
theorem NI.cache{n:aa}(h:NI m N k W n)(hk:k+4000<4611686018427387000)(kind:Int)(x:bd)(ns:List Int){W':List (List bd × bT)}(hw: ∀y∈W,y∈W')(hm:kind=0→ ∀y∈JX n.c,y∈W')(ee:((m0 n.c n.d kind x ns).2.1.all,(m0 n.c n.d kind x ns).2.1.k)∈W'):
  NI m N (k+2200) W' (n.bf (m0 n.c n.d kind x ns)):=by
 rcases h with h|h
 ·obtain⟨hA,hN⟩:=h.len;have hlk:=h.go.lk.1;have G5:=(Te hA.ok (by rw[hA.len];omega) hlk kind x ns).G5
  have hs: ∀j:Int,0≤j→j<2→(m0 n.c n.d kind x ns).2.2.sec j=n.d.sec j∧(m0 n.c n.d kind x ns).2.2.k4 j=n.d.sec j:=fun j a b=>by
   have e1:=G5.sec j a (by omega);exact⟨e1,by rw[G5.k4 j a (by omega) (h.fs j a b)];exact e1⟩
  obtain⟨e,f1,f2⟩:=h.ft;rcases(rY.m0 (.inl h.go) hk kind x ns hw (fun a _=>hm a) ee).1 with g|g
  ·refine .inl ⟨g,?_,fun j a b=>?_,⟨e,f1,f2⟩,h.da⟩
   · show n.f=_;rw[h.fo];exact(gm (hs 0 (by decide) (by decide)).1 (hs 1 (by decide) (by decide)).1).symm
   · have:=hs j a b;show(m0 n.c n.d kind x ns).2.2.k4 j=_;rw[this.2];exact this.1.symm
  ·exact .inr ⟨g,yM G5.ok (G5.len.trans hA.len) (by omega) hs (by rw[←h.fo];exact f1) f2⟩
 ·have gw:=ur h.go.dead n.c kind x ns;refine .inr ⟨?_,?_⟩
  ·show iQ _ _ (m0 n.c n.d kind x ns).2.2 _;rw[gw];exact(h.go.more hw).le (by omega)
  ·show Nh (m0 n.c n.d kind x ns).2.2 n.ah;rw[gw];exact h.ft
theorem uS{D:az}(hd:D.dead=true)(C:a8)(s:Bytes):(C.put D s).2.2=D∧(C.put D s).1≠0:=by
 unfold a8.put;split
 · exact⟨rfl,by show(3:Int)≠0;decide⟩
 split
 · exact⟨rfl,by show(23:Int)≠0;decide⟩
 dsimp only;rw[v8 hd,if_pos (show(30:Int)≠0 by decide)];exact⟨rfl,by show(30:Int)≠0;decide⟩
theorem abZ{C:a8}{D:az}{s:Bytes}(h:o3 D N)(hC:C.ok N)(hs:s.length≤100):Dq C D N s (C.put D s):=by
 by_cases hg:C.gen=4611686018427387904
 ·have:C.put D s=(23,C,D):=by unfold a8.put;rw[if_neg (by omega),if_pos hg]
  rw[this];exact .no (by decide)
 ·exact ar4 h hC hs (by have:=hC.gen;omega)
theorem Gq.dead{n n':aa}(h:Gq m N k W n)(hk:k<4611686018427387000){D1:az}(Sz:n'.ah=n.ah)(hdd:n'.d.dead=true)(ht:Twin n'.d D1)(hg:cf (Nc N m) k n.c D1 W)(hs: ∀j:Int,0≤j→j<2→D1.sec j=n.d.sec j∧D1.k4 j=n.d.sec j):NDe m N k W n':=by
 obtain⟨e,f1,f2⟩:=h.ft;have g:=hg.RY hk ht hdd;refine⟨g,?_⟩;rw[Sz];exact yM (D0:=n.d) ht.ok g.len (by have:=h.len.2;show 2≤N;omega) (fun j a b=>by rw[ht.sec,ht.k4];exact hs j a b) (by rw[←h.fo];exact f1) f2
theorem Gq.kW{n n':aa}{s:Bytes}{r:Int × a8 × az}(h:Gq m N k W n)(hk:k<4611686018427387000)(hp:Dq n.dr.c n.d N s r)(hd:n'.d=r.2.2)(hf:n'.f=n.f)(hc:n'.c=n.c)(Sz:n'.ah=n.ah)(vA:n'.dr.c=r.2.1):NI m N k W n':=by
 have hN:=h.len.2;have ho:n.dr.c.other=2∨n.dr.c.other=3:=by unfold a8.other;have:=h.da;split<;>omega
 have al:n'.dr.c.a=n.dr.c.a∧n'.dr.c.b=n.dr.c.b→cf (Nc N m) k n.c n'.d W→(∀j:Int,0≤j→j<2→n'.d.sec j=n.d.sec j∧n'.d.k4 j=n.d.sec j)→Gq m N k W n':=fun e2 e3 e4=>by
  obtain⟨e,f1,f2⟩:=h.ft;refine⟨by rw[hc];exact e3,?_,fun j a b=>by rw[(e4 j a b).2,(e4 j a b).1],⟨e,by rw[hf];exact f1,by rw[Sz];exact f2⟩,by rw[e2.1,e2.2];exact h.da⟩;rw[hf,h.fo];exact(gm (e4 0 (by decide) (by decide)).1 (e4 1 (by decide) (by decide)).1).symm
 cases hp with
 |no _=>exact .inl (al (by rw[vA];exact⟨rfl,rfl⟩) (by rw[hd];exact h.go) fun j a b=>by rw[hd];exact⟨rfl,h.fs j a b⟩)
 |N1 _ q1 q2=>exact .inr (h.dead hk Sz (by rw[hd];exact q1) (by rw[hd];exact q2) h.go fun j a b=>⟨rfl,h.fs j a b⟩)
 |N2 _ _ q1 w1 w2 w3 w4 q2=>
  exact .inr (h.dead hk Sz (by rw[hd];exact q1) (by rw[hd];exact q2) (h.go.beside w1 (fun j a b c=>w4 j (by omega)) w2) fun j a b=>⟨w4 j (by omega),by rw[w2];exact h.fs j a b⟩)
 |ok _ w1 w2 w3 w4 q1 q2=>
  refine .inl (al (by rw[vA];exact⟨rfl,rfl⟩) (by rw[hd];exact(h.go.beside w1 (fun j a b c=>w4 j (by omega)) w2).bar hk q1 q2) fun j a b=>?_);have e1:=(q2 j a (by omega)).trans (w4 j (by omega));rw[hd];exact⟨e1,by rw[←lz q1.es];exact e1⟩
theorem NI.bits{n:aa}(h:NI m N k W n)(hk:k<4611686018427387000)(hC:n.dr.c.ok n.d.l.length)(hn:1≤n.dr.n∧n.dr.n≤32)(b:Nat):NI m N k W (n.iG (n.dr.set n.d b)):=by
 rcases h with h|h
 ·obtain⟨hA,hN⟩:=h.len;rw[hA.len]at hC;exact h.kW hk (abZ (s:=iC (ef n.dr.n) b) hA hC (FV hn)) rfl rfl rfl rfl rfl
 ·have gw:=uS h.go.dead n.dr.c (iC (ef n.dr.n) b);refine .inr ⟨?_,?_⟩
  ·show iQ _ _ (n.dr.c.put n.d _).2.2 _;rw[gw.1];exact h.go
  ·show Nh (n.dr.c.put n.d _).2.2 n.ah;rw[gw.1];exact h.ft
theorem Gq.Wh{n n':aa}{r:Int × a8 × az}{ep:Int}(h:Gq m N k W n)(hk:k<4611686018427387000)(he:gg ep)(Sz:n.ah≤ep)(hC:n.f.ok N)(hp:Dq n.f n.d N (cR ep) r)(hd:n'.d=r.2.2)(hf:n'.f=r.2.1)(hc:n'.c=n.c)(TT:n'.ah=n.ah)(vA:n'.dr=n.dr):
  NI m N k W n'∧(r.1=0→Gq m N k W n'∧r.2.1.text=cR ep):=by
 have hN:=h.len.2;have e2:=im n.d 0 1;rw[←h.fo]at e2;have ho:n.f.other=0∨n.f.other=1:=by unfold a8.other;split<;>omega
 obtain⟨e,f1,f2⟩:=h.ft
 -- the cell, with the other slot written
 have next:n.f.gen<4611686018427387904→ ∀D':az,D'.sec n.f.other=pad (cG (n.f.gen+1) (cR ep))→(∀j:Int,0≤j→j<2→j≠n.f.other→D'.sec j=n.d.sec j)→aF D' 0 1=n.f.next (cR ep):=fun hg D' q1 q2=>by
  have hC2:n.f.ok 2:=⟨by rw[e2.1];decide,by rw[e2.2];decide,hC.ab,hC.now,hC.gen,hC.text⟩;have EB:=hC.gen;have hr:=qu (dy.2 ⟨show 1≤n.f.gen+1 by omega,by omega,j6 he⟩);rw[h.fo]at q1 q2 hg hC2 hr ⊢;exact rJ hC2 (j6 he) hg (by rw[q1];exact hr) (fun j a b c=>q2 j a (by omega) c)
 have same: ∀D':az,(∀j:Int,0≤j→j<2→D'.sec j=n.d.sec j)→aF D' 0 1=n.f:=fun D' q=>by
  rw[h.fo];exact gm (q 0 (by decide) (by decide)) (q 1 (by decide) (by decide))
 have nz: ∀{α:Prop} {e':Int},e'≠0→e'=0→α:=fun a b=>absurd b a
 cases hp with
 |no q=>exact⟨.inl ⟨by rw[hc,hd];exact h.go,by rw[hf,hd];exact h.fo,by rw[hd];exact h.fs,⟨e,by rw[hf];exact f1,by rw[TT];exact f2⟩,by rw[vA];exact h.da⟩,fun a=>nz q a⟩
 |N1 q q1 q2=>exact⟨.inr (h.dead hk TT (by rw[hd];exact q1) (by rw[hd];exact q2) h.go fun j a b=>⟨rfl,h.fs j a b⟩),fun a=>nz q a⟩
 |N2 hg q q1 w1 w2 w3 w4 q2=>
  have g:=(h.go.beside w1 (fun j a b c=>w4 j (by omega)) w2).RY hk q2 q1;refine⟨.inr ⟨by rw[hd];exact g,?_⟩,fun a=>nz q a⟩;rw[hd,TT];intro ks kn;have hl:=g.len
  have pick: ∀j:Int,0≤j→j<2→((_:az).bD ks).sec j=n.d.sec j∨(j=n.f.other∧((_:az).bD ks).sec j=pad (cG (n.f.gen+1) (cR ep))):=fun j a b=>by
   rcases ri q2.ok hl kn a (by show j<(N:Int);omega)with z|z
   ·left;rw[z,q2.k4,w2];exact h.fs j a b
   ·by_cases c:j=n.f.other
    · right;refine⟨c,?_⟩;rw[z,q2.sec,c];exact w3
    · left;rw[z,q2.sec];exact w4 j c
  rcases pick n.f.other (by omega) (by omega)with z|⟨-,z⟩
  ·refine⟨e,?_,f2⟩;rw[same _ fun j a b=>?_]
   ·exact f1
   ·rcases pick j a b with y|⟨y,-⟩
    · exact y
    · rw[y];exact z
  ·refine⟨ep,?_,Sz⟩;rw[next hg _ z fun j a b c=>?_]
   ·exact nU he
   ·rcases pick j a b with y|⟨y,-⟩
    · exact y
    · exact absurd y c
 |ok hg w1 w2 w3 w4 q1 q2=>
  have ho':=next hg _ ((q2 n.f.other (by omega) (by omega)).trans w3) (fun j a b c=>(q2 j a (by omega)).trans (w4 j c));have al:Gq m N k W n':=⟨by rw[hc,hd];exact(h.go.beside w1 (fun j a b c=>w4 j (by omega)) w2).bar hk q1 q2,by rw[hf,hd];exact ho'.symm,fun j a b=>by rw[hd];exact(lz q1.es j).symm,⟨ep,by rw[hf];exact nU he,by rw[TT];exact Sz⟩,by rw[vA];exact h.da⟩;exact⟨.inl al,fun _=>⟨al,rfl⟩⟩
theorem NI.facts{n:aa}(h:NI m N k W n)(hk:k<4611686018427387000){ep:Int}(he:gg ep)(Sz:n.ah≤ep):
  NI m N k W (n.k8 (n.f.put n.d (cR ep)))∧((n.f.put n.d (cR ep)).1=0→Gq m N k W (n.k8 (n.f.put n.d (cR ep)))∧(n.f.put n.d (cR ep)).2.1.text=cR ep):=by
 rcases h with h|h
 ·obtain⟨hA,hN⟩:=h.len;have hE:cg n.d 0 1=0:=tm (by decide) (by decide) (by rw[hA.len];omega) (by rw[hA.live];decide);have hC:n.f.ok N:=by rw[h.fo,←hA.len];exact(eW hE).1
  exact h.Wh hk he Sz hC (abZ (s:=cR ep) hA hC (j6 he)) rfl rfl rfl rfl rfl
 ·have gw:=uS h.go.dead n.f (cR ep);refine⟨.inr ⟨?_,?_⟩,fun h0=>absurd h0 gw.2⟩
  ·show iQ _ _ (n.f.put n.d _).2.2 _;rw[gw.1];exact h.go
  ·show Nh (n.f.put n.d _).2.2 n.ah;rw[gw.1];exact h.ft
end Go.Sl