/- A part of the proof. -/
import Derived.Test.YtlignadmmopdmaaGreatNodT
import Derived.Test.YtlignadmmopdmaaGreatGR
set_option linter.unusedVariables false
set_option linter.unusedSimpArgs false
set_option linter.constructorNameAsVariable false
namespace Go.Sl
structure MQ(D D':az):Prop where
 ok:D'.ok
 len:D'.l.length=D.l.length
 sec: ∀j:Int,0≤j→j<4→D'.sec j=D.sec j
 k4: ∀j:Int,0≤j→j<4→D.k4 j=D.sec j→D'.k4 j=D'.sec j
theorem MQ.refl{D:az}(h:D.ok):MQ D D:=⟨h,rfl,fun _ _ _=>rfl,fun _ _ _ h=>h⟩
theorem MQ.trans{A B C:az}(h:MQ A B)(g:MQ B C):MQ A C:=
 ⟨g.ok,g.len.trans h.len,fun j a b=>(g.sec j a b).trans (h.sec j a b),fun j a b q=>g.k4 j a b (h.k4 j a b q)⟩
theorem MQ.of{D D':az}(h:D'.ok)(hl:D'.l=D.l)(he:D'.es=D.es):MQ D D':=
 ⟨h,by rw[hl],fun j _ _=>by unfold az.sec;rw[hl,he],fun j _ _ q=>by unfold az.k4 az.sec at*;rw[hl,he];exact q⟩
theorem Nq(D:az):D.act.2.l=D.l∧D.act.2.es=D.es:=by unfold az.act;split;exact⟨rfl,rfl⟩;dsimp only;split<;>exact⟨rfl,rfl⟩
theorem Bx{D:az}(h:D.ok){i:Int}(hi:4≤i)(bs:Bytes):MQ D (D.write i bs).2:=by
 have cq:=az.jN h i bs;obtain⟨a1,a2⟩:=Nq D;unfold az.write at cq ⊢;split
 ·exact .refl h
 split
 ·exact .refl h
 split
 ·rename_i c1 c2 c3
  rw[if_neg c1,if_neg c2,if_pos c3]at cq;exact .of cq a1 a2
 ·rename_i c1 c2 c3
  rw[if_neg c1,if_neg c2,if_neg c3]at cq;refine⟨cq,by dsimp only;rw[a1],fun j h0 h4=>?_,fun j h0 h4 q=>?_⟩
  · unfold az.sec;dsimp only;rw[ja _ _ (by omega),a1,a2]
  · unfold az.k4 az.sec at*;dsimp only;rw[ja _ _ (by omega),a1,a2];exact q
theorem pd{D:az}(h:D.ok)(h4:4≤D.l.length):MQ D D.aJ.2:=by
 have cq:=az.gA h;obtain⟨a1,a2⟩:=Nq D;unfold az.aJ at cq ⊢;split
 ·exact .refl h
 split
 ·rename_i c1 c2
  rw[if_neg c1,if_pos c2]at cq;exact .of cq a1 a2
 ·rename_i c1 c2
  rw[if_neg c1,if_neg c2]at cq
  have hs: ∀j:Int,0≤j→j<4→({D.act.2 with l:=eQ D.act.2.es D.act.2.l,es:=[]}:az).sec j=D.sec j:=fun j h0 hj=>by
   unfold az.sec;dsimp only;rw[a1,a2,mA h.uniq (fun x hx=>(h.keys x hx).1) h0 (by omega)];cases ix D.es j with
   |none=>rfl
   |some s=>rfl
  refine⟨cq,by dsimp only;rw[a1,a2,←fA (D:=D)];unfold az.aJ;rw[if_neg c1,if_neg c2,a1,a2],hs,fun j _ _ _=>(lz rfl j).symm⟩
structure Lk(L:aU):Prop where
 f:4≤L.first
 n:0<L.n
 a:4≤L.c.a
 b:4≤L.c.b
theorem Vi{C:a8}{D:az}(h:D.ok)(h4:4≤D.l.length)(ha:4≤C.a)(hb:4≤C.b)(s:Bytes):MQ D (C.put D s).2.2∧(C.put D s).2.1.a=C.a∧(C.put D s).2.1.b=C.b:=by
 have ho:4≤C.other:=by unfold a8.other;split<;>assumption
 have w:=Bx h ho (cG (IntKind.i64.wrap (C.gen+1)) s);have b:=pd w.ok (by rw[w.len];exact h4);unfold a8.put;split
 · exact⟨.refl h,rfl,rfl⟩
 split
 · exact⟨.refl h,rfl,rfl⟩
 dsimp only;split
 · exact⟨w,rfl,rfl⟩
 split
 · exact⟨w.trans b,rfl,rfl⟩
 · exact⟨w.trans b,rfl,rfl⟩
structure r5(D D':az)(L:aU):Prop where
 G5:MQ D D'
 lk:Lk L
theorem Gx{L:aU}{D:az}(h:D.ok)(hL:Lk L)(s:Bytes):r5 D (L.append D s).2.2 (L.append D s).2.1:=by
 have hn:=hL.n;have hp:4≤L.place L.tail:=by unfold aU.place;have:=Int.emod_nonneg L.tail (show(L.n:Int)≠0 by omega);have:=hL.f;omega
 unfold aU.append;split
 ·exact⟨.refl h,hL⟩
 split
 ·exact⟨.refl h,hL⟩
 split
 ·exact⟨.refl h,hL⟩
 ·refine⟨Bx h hp _,?_⟩;dsimp only;split
  · exact⟨hL.f,hL.n,hL.a,hL.b⟩
  · exact hL
theorem RX{L:aU}{D:az}(h:D.ok)(h4:4≤D.l.length)(hL:Lk L)(k:Int):r5 D (L.trim D k).2.2 (L.trim D k).2.1:=by
 have b:=pd h h4;obtain⟨p,pa,pb⟩:=Vi (C:=L.c) b.ok (by rw[b.len];exact h4) hL.a hL.b (bL (fE k L.time (L.dP k)));unfold aU.trim;split
 ·exact⟨.refl h,hL⟩
 split
 ·exact⟨b,hL⟩
 ·refine⟨b.trans p,?_⟩;have l0:Lk (L.put D.aJ.2 k (L.dP k)).2.1:=⟨hL.f,hL.n,by show 4≤(L.c.put _ _).2.1.a;rw[pa];exact hL.a,by show 4≤(L.c.put _ _).2.1.b;rw[pb];exact hL.b⟩;dsimp only;split
  · exact⟨l0.f,l0.n,l0.a,l0.b⟩
  · exact l0
theorem BA{C:aQ}{D:az}(h:D.ok)(hL:Lk C.l)(r:bI):r5 D (C.add D r).2.2 (C.add D r).2.1.l:=by
 have a:=Gx h hL (bL r.rc);unfold aQ.add;refine⟨a.G5,?_⟩;dsimp only;split
 · rw[(aQ.pj _ _ _).1];exact a.lk
 · exact a.lk
theorem Kt{C:aQ}{D:az}(h:D.ok)(hL:Lk C.l):r5 D (C.again D).2.2 (C.again D).2.1.l:=by
 unfold aQ.again;split
 · exact BA h hL _
 · exact⟨.refl h,hL⟩
theorem r5.then{A B C:az}{L M:aU}(h:r5 A B L)(g:r5 B C M):r5 A C M:=⟨h.G5.trans g.G5,g.lk⟩
theorem JY: ∀(f:Nat) {C:aQ} {D:az},D.ok→4≤D.l.length→Lk C.l→r5 D (aQ.oS f C D).2.2 (aQ.oS f C D).2.1.l
 |0,C,D,h,_,hL=>⟨.refl h,hL⟩
 |f+1,C,D,h,h4,hL=>by
  have a:=Kt h hL;have l4:4≤(C.again D).2.2.l.length:=by rw[a.G5.len];exact h4
  have t:r5 _ ((C.again D).2.1.cut (C.again D).2.2 (C.l.head+1)).2.2 ((C.again D).2.1.cut (C.again D).2.2 (C.l.head+1)).2.1.l:=RX a.G5.ok l4 a.lk (C.l.head+1);unfold aQ.oS;split
  · exact⟨.refl h,hL⟩
  split
  · exact a
  split
  · exact a.then t
  · exact(a.then t).then (JY f t.G5.ok (by rw[t.G5.len];exact l4) t.lk)
theorem NW{C:aQ}{D:az}(h:D.ok)(h4:4≤D.l.length)(hL:Lk C.l)(r:bI):r5 D (C.eH D r).2.2 (C.eH D r).2.1.l:=by
 have m:r5 D (C.make D).2.2 (C.make D).2.1.l:=JY C.n h h4 hL;unfold aQ.eH;split
 · exact m
 · exact m.then (BA m.G5.ok m.lk r)
theorem Te{C:aQ}{D:az}(h:D.ok)(h4:4≤D.l.length)(hL:Lk C.l)(kind:Int)(x:bd)(ns:List Int):r5 D (m0 C D kind x ns).2.2 (m0 C D kind x ns).2.1.l:=by
 have r0:r5 D D C.l:=⟨.refl h,hL⟩;have rc:=fun r=>NW h h4 hL r
 unfold m0;split
 ·unfold aQ.put;split
  · exact r0
  split
  · exact r0
  split
  · exact r0
  split
  · exact rc _
  split
  · exact r0
  split
  · exact rc _
  · exact(rc _).then (BA (rc _).G5.ok (rc _).lk _)
 split
 ·unfold aQ.clean;split
  · exact r0
  split
  · exact r0
  split
  · exact r0
  · exact rc _
 split
 ·unfold aQ.drop;split
  · exact rc _
  · exact r0
 split
 ·unfold aQ.note;split
  · exact r0
  · exact rc _
 split
 ·unfold aQ.reset;split
  · exact r0
  · exact rc _
 split
 ·exact⟨pd h h4,hL⟩
 ·exact r0
inductive Dq(C:a8)(D:az)(N:Nat)(s:Bytes):Int × a8 × az→Prop
 |no {e:Int} (h:e≠0):Dq C D N s (e,C,D)
 |N1 {e:Int} {D':az} (h:e≠0) (hd:D'.dead=true) (ht:Twin D' D):Dq C D N s (e,C,D')
 |N2 {e:Int} {D1 D':az} (hg:C.gen<4611686018427387904) (h:e≠0) (hd:D'.dead=true) (h1:o3 D1 N) (hs: ∀j,D1.k4 j=D.k4 j) (hw:D1.sec C.other=pad (cG (C.gen+1) s)) (ho: ∀j,j≠C.other→D1.sec j=D.sec j) (ht:Twin D' D1):Dq C D N s (e,C,D')
 |ok {D1 D':az} (hg:C.gen<4611686018427387904) (h1:o3 D1 N) (hs: ∀j,D1.k4 j=D.k4 j) (hw:D1.sec C.other=pad (cG (C.gen+1) s)) (ho: ∀j,j≠C.other→D1.sec j=D.sec j) (hl:Live D' N) (hb: ∀j:Int,0≤j→j<N→D'.sec j=D1.sec j):Dq C D N s (0,C.next s,D')
theorem ar4{C:a8}{D:az}{N:Nat}{s:Bytes}(h:o3 D N)(hC:C.ok N)(hs:s.length≤100)(hg:C.gen<4611686018427387904):Dq C D N s (C.put D s):=by
 have ho:0≤C.other∧C.other<N:=by unfold a8.other;have:=hC.a;have:=hC.b;split<;>omega
 have EB:=hC.gen;have JI:IntKind.i64.wrap (C.gen+1)=C.gen+1:=wr (by omega) (by omega);have SG:=y7 (C.gen+1) s;unfold a8.put;rw[if_neg (by omega),if_neg (by omega),JI];dsimp only;rcases h.write (i:=C.other) (bs:=cG (C.gen+1) s) ho.1 ho.2 (by omega)with⟨w0,w1,w2,w3,w4⟩|⟨w0,w1,w2⟩
 ·rw[if_neg (by rw[w0];decide)];rcases w1.aJ with⟨b0,b1,b2⟩|⟨b0,b1,b2⟩
  ·rw[if_neg (by rw[b0];decide)];exact .ok hg w1 w2 w3 w4 b1 b2
  ·rw[if_pos (by rw[b0];decide)];exact .N2 hg (by rw[b0];decide) b1 w1 w2 w3 w4 b2
 ·rw[if_pos (by rw[w0];decide)];exact .N1 (by rw[w0];decide) w1 w2
theorem LX.beside{first:Int}{n:Nat}{a b:Int}{D D':az}{N k:Nat}{h T le:Int}{l:List (Bytes × Int)}{p:Nat}(g:LX first n a b D N k h T le l p)(hA:o3 D' N)
  (hs: ∀j:Int,0≤j→j<N→(j=a∨j=b∨eN first n j)→D'.sec j=D.sec j) (hu: ∀j,D'.k4 j=D.k4 j):LX first n a b D' N k h T le l p∧aF D' a b=aF D a b:=by
 obtain⟨l1,l2,l3,l4,l5,l6⟩:=g.lim;obtain⟨hC,ha,hb,uF⟩:=g.ab;have ho:aF D' a b=aF D a b:=gm (hs a ha.1 ha.2 (.inl rfl)) (hs b hb.1 hb.2 (.inr (.inl rfl)));have hr: ∀x:Int,0≤x→x<n→D'.sec (first+x)=D.sec (first+x):=fun x h0 h1=>hs _ (by omega) (by omega) (.inr (.inr ⟨by omega,by omega⟩))
 have hm: ∀x:Int,0≤x % (n:Int)∧x % (n:Int)<n:=fun x=>⟨Int.emod_nonneg _ (by omega),Int.emod_lt_of_pos _ (by omega)⟩
 refine⟨⟨hA,?_,by rw[ho];exact g.gen,by rw[ho];exact g.hd,?_,g.h1,g.ht,g.t0,g.Cv,g.ll,g.ch,g.sl,g.pl,?_,fun i x hx=>?_,g.here,fun j h0 h1 q=>?_,fun j h0 h1 q t s hq=>?_,fun t s hq=>?_⟩,ho⟩
 ·have:=g.e;unfold cg at this ⊢;rw[hA.len,hA.live];rw[g.aw.len]at this
  by_cases c:a=b∨min a b<0∨(N:Int)≤max a b
  · rw[if_pos c]at this;cases this
  · rw[if_neg c,if_neg (by decide)]
 ·have:=g.arg;unfold eO at this ⊢;rw[hA.len];rw[g.aw.len]at this;exact this
 ·rw[hs a ha.1 ha.2 (.inl rfl),hs b hb.1 hb.2 (.inr (.inl rfl)),hu,hu];exact g.cell
 ·rw[hr _ (hm _).1 (hm _).2];exact g.ring i x hx
 ·rw[hr j h0 h1,hu];exact g.sure j h0 h1 q
 ·rw[hu]at hq;exact g.old j h0 h1 q t s hq
 ·rw[hu]at hq;exact g.Js t s hq
end Go.Sl