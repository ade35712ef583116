/- A part of the proof. -/
import Derived.Test.YtlignadmmopdmaaGreatNoeA
set_option linter.unusedVariables false
set_option linter.unusedSimpArgs false
set_option linter.constructorNameAsVariable false
namespace Go.Sl
variable {N m k : Nat}
theorem LR.beside{first:Int}{n:Nat}{a b:Int}{D D':az}{h T le:Int}{l:List (Bytes × Int)}(g:LR first n a b D N k h T le l)(hA:Up D' N)(he:D'.es=[])
  (hs: ∀j:Int,0≤j→j<N→(j=a∨j=b∨eN first n j)→D'.sec j=D.sec j):LR first n a b D' N k h T le l:=by
 have rq:=g.arg;unfold eO at rq;have hl:=g.up.len;have hn:=g.up.ok.n;have hC:=(eW g.e).1;have e2:=im D a b;have ha:=hC.a;have hb:=hC.b;rw[e2.1,hl]at ha;rw[e2.2,hl]at hb;rw[hl]at rq;have ho:aF D' a b=aF D a b:=gm (hs a ha.1 ha.2 (.inl rfl)) (hs b hb.1 hb.2 (.inr (.inl rfl)));have hr: ∀x:Int,0≤x→x<n→D'.sec (first+x)=D.sec (first+x):=fun x h0 h1=>hs _ (by omega) (by omega) (.inr (.inr ⟨by omega,by omega⟩))
 have hm: ∀x:Int,0≤x % (n:Int)∧x % (n:Int)<n:=fun x=>⟨Int.emod_nonneg _ (by omega),Int.emod_lt_of_pos _ (by omega)⟩
 refine⟨⟨hA.ok,hA.len,hA.live,he⟩,hA,RZ g.up hA g.e,by rw[ho];exact g.gen,by rw[ho];exact g.hd,?_,g.h1,g.ht,g.t0,g.Cv,g.ll,g.ch,g.sl,fun i x hx=>?_,fun j h0 h1 q t s hq=>?_,fun t s hq=>?_⟩
 ·have:=g.arg;unfold eO at this ⊢;rw[hA.len];rw[hl]at this;exact this
 ·rw[hr _ (hm _).1 (hm _).2];exact g.ring i x hx
 ·rw[hr j h0 h1]at hq;exact g.old j h0 h1 q t s hq
 ·rw[hr _ (hm _).1 (hm _).2]at hq;exact g.Js t s hq
theorem GL{D:az}{first n a b bl:Int}(h: ¬(bl<1∨32<bl∨n<8)):(bQ D first n a b bl).2.2=(bh D first n a b).2.2:=by
 unfold bQ;rw[if_neg h];split
 · rfl
 · split<;>rfl
structure adL(id serial:Int)(m N k:Nat)(e:Int)(r:Int × aa):Prop where
 z:r.1=0∨r.1=23
 i:r.1=0→ ∃W,Gq m N (k+2) W r.2
 dc:r.1=0→r.2.dr.c.ok N∧(1≤r.2.dr.n∧r.2.dr.n≤32)∧r.2.c.bl≤32
 ep:r.1=0→r.2.ah=e∧r.2.role=0∧r.2.eE=(id,serial,false)
theorem Ka{D:az}{id serial lease patience h T le e:Int}{l:List (Bytes × Int)}{V:zw}(hR:LR 6 (N- 6) 4 5 D N k h T le l)(hV:replay m l h zeroV=some V)(hk:k+100<4611686018427387000)(KZ:14≤N)(hm:1≤m∧m≤32)
  (ha: ¬gT id serial lease patience) (ft:fact (aF D 0 1).text=some e):adL id serial m N k e (cO id serial D m lease patience):=by
 have hU:=hR.up;have he:=BS ft;obtain⟨C,D',c1,c2,c3⟩:=LR.cache (P:=Nc N m) hR (by omega) (show 8≤N- 6 by omega) hm hV;obtain⟨D2,d1,d2,d3,d4,d5⟩:=hR.opened (by omega)
 have hDD:D'=D2:=by
  have h1:(bQ D 6 ((N- 6:Nat):Int) 4 5 (m:Int)).2.2=D':=congrArg (·.2.2) c1;rw[GL (by omega),d1]at h1;exact h1.symm
 subst hDD;have hl:((D.l.length:Int)- 6)=((N- 6:Nat):Int):=by rw[hU.len];omega
 have hs: ∀j:Int,0≤j→j<4→D'.sec j=D.sec j:=fun j a b=>d5 j a (by omega) (by omega) (by omega)
 have ho:aF D' 0 1=aF D 0 1:=gm (hs 0 (by decide) (by decide)) (hs 1 (by decide) (by decide));have hE:cg D 0 1=0:=nD hU (by decide) (by omega) (by omega);have hE2:cg D 2 3=0:=nD hU (by decide) (by omega) (by omega);have hC:(aF D 0 1).ok N:=by rw[←hU.len];exact(eW hE).1
 have hC2:(aF D 2 3).ok N:=by rw[←hU.len];exact(eW hE2).1
 have e1:cO id serial D m lease patience=gG (ka id serial lease patience m (aF D 0 1) (mJ D 2 3 (m:Int).toNat) C D'):=by
  unfold cO;have c1':bQ D 6 ((N- 6:Nat):Int) 4 5 (m:Int)=(0,C,D'):=c1;rw[if_neg ha,if_neg (by rw[hE];decide),if_neg (by unfold nS;rw[if_neg (by omega),hE2];decide),hl,c1',if_neg (by simp)]
 rw[e1,CC ft];have hb:=c2.ok.2.1;have sP:C.bl≤32:=by rw[hb];exact hm.2
 generalize HD:({ka id serial lease patience m (aF D 0 1) (mJ D 2 3 (m:Int).toNat) C D' with ah:=e}:aa)=n0;have q1:n0.f=aF D 0 1:=by rw[←HD];rfl
 have q2:n0.d=D':=by rw[←HD];rfl
 have q3:n0.c=C:=by rw[←HD];rfl
 have q4:n0.dr=mJ D 2 3 (m:Int).toNat:=by rw[←HD];rfl
 have q5:n0.ah=e:=by rw[←HD]
 have q6:n0.role=0∧n0.eE=(id,serial,false):=by rw[←HD];exact⟨rfl,rfl⟩
 have e2:=im D 2 3;have al:Gq m N (k+1) [(C.all,C.k)] n0:=⟨by rw[q3,q2];exact c2,by rw[q1,q2];exact ho.symm,fun j _ _=>by rw[q2];exact(lz d3 j).symm,⟨e,by rw[q1];exact ft,by rw[q5];exact Int.le_refl _⟩,by rw[q4];exact e2⟩
 have TS:n0.dr.c.ok N∧(1≤n0.dr.n∧n0.dr.n≤32)∧n0.c.bl≤32:=by
  rw[q4,q3];exact⟨hC2,⟨by show 1≤(m:Int).toNat;omega,by show(m:Int).toNat≤32;omega⟩,sP⟩
 have hfC:n0.f.ok N:=by rw[q1];exact hC
 by_cases hg:n0.f.gen=4611686018427387904
 ·have hp:n0.f.put n0.d (cR e)=(23,n0.f,n0.d):=by unfold a8.put;rw[if_neg (by have:=j6 he;omega),if_pos hg]
  have xS:(n0.iF e).1=23:=by unfold aa.iF;rw[hp];rfl
  exact⟨.inr xS,fun h=>(by rw[xS]at h;cases h),fun h=>(by rw[xS]at h;cases h),fun h=>(by rw[xS]at h;cases h)⟩
 have EB:=hfC.gen;have hpa:=abZ (s:=cR e) (o3.WX d4) hfC (j6 he);obtain⟨D3,g1,-⟩:=Fu d4 hfC (j6 he) (by omega);have hp0:(n0.f.put n0.d (cR e)).1=0:=by rw[q2,g1]
 rw[←q2]at hpa;obtain⟨al2,-⟩:=(al.Wh (by omega) he (by rw[q5];exact Int.le_refl _) hfC hpa (n':=n0.k8 (n0.f.put n0.d (cR e))) rfl rfl rfl rfl rfl).2 hp0
 by_cases nf:16384≤(n0.f.put n0.d (cR e)).2.1.gen
 ·have xS:(n0.iF e).1=23:=by unfold aa.iF;dsimp only;rw[if_neg (by rw[hp0];decide),if_pos nf]
  exact⟨.inr xS,fun h=>(by rw[xS]at h;cases h),fun h=>(by rw[xS]at h;cases h),fun h=>(by rw[xS]at h;cases h)⟩
 ·have xS:n0.iF e=(0,{n0.k8 (n0.f.put n0.d (cR e))with ah:=e,born:=(n0.f.put n0.d (cR e)).2.1.gen+16384*(n0.serial.tmod 16384)}):=by
   unfold aa.iF;dsimp only;rw[if_neg (by rw[hp0];decide),if_neg nf]
  rw[xS];obtain⟨e',f1,f2⟩:=al2.ft;have f2:e≤e':=by rw[←q5];exact f2
  refine⟨.inl rfl,fun _=>⟨[(C.all,C.k)],⟨al2.go.FZ,al2.fo,al2.fs,⟨e',f1,f2⟩,al2.da⟩⟩,fun _=>TS,fun _=>⟨rfl,q6.1,?_⟩⟩;exact q6.2
theorem NJ.bD{n:aa}{j:Nat}(h:NJ m N j n)(hj:j≤1000000)(hm:1≤m∧m≤32){ks:dq}(kn: ∀x∈ks,x.1≠2){id serial lease patience:Int}(ha: ¬gT id serial lease patience):
  ((cO id serial (n.d.bD ks) m lease patience).1=0∨(cO id serial (n.d.bD ks) m lease patience).1=23)∧
  ((cO id serial (n.d.bD ks) m lease patience).1=0→NJ m N (j+1) (cO id serial (n.d.bD ks) m lease patience).2∧n.ah≤(cO id serial (n.d.bD ks) m lease patience).2.ah∧(cO id serial (n.d.bD ks) m lease patience).2.role=0∧(cO id serial (n.d.bD ks) m lease patience).2.eE=(id,serial,false)):=by
 obtain⟨⟨W,k,hk,hi⟩,a,b,c,d,f,KZ⟩:=h
 obtain⟨hft,hh,T,le,l,hR,V,hV,-⟩:(∃e,fact (aF (n.d.bD ks) 0 1).text=some e∧n.ah≤e)∧ ∃h T le l,LR 6 (N- 6) 4 5 (n.d.bD ks) N k h T le l∧Dr (Nc N m) W h l:=by
  rcases hi with g|g
  ·obtain⟨e,f1,f2⟩:=g.ft;exact⟨yM (D0:=n.d) b a (by omega) (fun j x y=>⟨rfl,g.fs j x y⟩) (by rw[←g.fo];exact f1) f2 ks kn,g.go.bD (by omega) ⟨b,rfl,rfl⟩ kn⟩
  ·exact⟨g.ft ks kn,g.go.out ks kn⟩
 obtain⟨e,he,hle⟩:=hft;have o:=Ka (m:=m) hR hV (by omega) KZ hm ha he;refine⟨o.z,fun h0=>?_⟩;obtain⟨W',al⟩:=o.i h0;obtain⟨d1,d2,d3⟩:=o.dc h0;obtain⟨p1,p2,p3⟩:=o.ep h0;exact⟨⟨⟨W',k+2,by omega,.inl al⟩,al.len.1.len,al.len.1.ok,d1,d2,d3,KZ⟩,by rw[p1];exact hle,p2,p3⟩
theorem KA{x:hG}{n:aa}(h:iE x=some n):NJ x.blocks.toNat x.ek.toNat 1 n∧n.role=0∧n.ah=0∧(1≤x.blocks.toNat∧x.blocks.toNat≤32)∧x.blocks=(x.blocks.toNat:Int)∧ ¬gT x.id x.serial x.lease x.patience:=by
 unfold iE at h;split at h
 ·cases h
 split at h
 ·cases h
 split at h
 ·cases h
 rename_i h1 h2 h3
 cases h;obtain⟨N,hN,at2⟩: ∃N:Nat,x.ek.toNat=N∧N≤40:=⟨_,rfl,by omega⟩;rw[hN]at h2 h3 ⊢;have h2:=Classical.not_not.1 h2;have h3:=Classical.not_not.1 h3;have hU0:=Qe (n:=N) (by omega)
 -- what M9 arguments are
 have hE0:cg (az.new N) 0 1=0:=by
  unfold cQ at h2
  by_cases c:cg (az.new N) 0 1≠0
  · rw[if_pos c]at h2;exact absurd h2 c
  · exact Classical.not_not.1 c
 have TU:cQ (az.new N)=(((aF (az.new N) 0 1).put (az.new N) (cR 0)).1,((aF (az.new N) 0 1).put (az.new N) (cR 0)).2.2):=if_neg (by rw[hE0];decide)
 have hN2:2≤N:=by
  unfold cg at hE0;rw[hU0.len]at hE0
  by_cases c:(0:Int)=1∨min (0:Int) 1<0∨(N:Int)≤max 0 1
  · rw[if_pos c]at hE0;cases hE0
  · omega
 have Zv:aF (az.new N) 0 1=a8.init 0 1:=Fl (by decide) (by omega) (by decide) (by omega);obtain⟨D1,p1,p2,p3,p4,p5⟩:=PC (a:=0) (b:=1) (s:=cR 0) hU0 hE0 (j6 aa.wE) (by rw[Zv];decide);rw[p1]at TU;rw[TU]at h3 ⊢
 have ha: ¬gT x.id x.serial x.lease x.patience:=by
  intro c;unfold cO at h3;rw[if_pos c]at h3;cases h3
 have fg:(cO x.id x.serial D1 x.blocks x.lease x.patience).1=0:=h3
 have vA:1≤x.blocks∧x.blocks≤32∧14≤N:=by
  unfold cO at fg;rw[if_neg ha]at fg;split at fg
  · rename_i c;exact absurd fg c
  split at fg
  · rename_i c;exact absurd fg c
  rename_i c2
  split at fg
  · rename_i c;exact absurd fg c
  rename_i c3
  have c2:=Classical.not_not.1 c2;have c3:=Classical.not_not.1 c3;unfold nS at c2;split at c2
  · cases c2
  unfold bQ at c3;split at c3
  · cases c3
  rename_i _ c4
  rw[p2.len]at c4;omega
 have Lo:x.blocks=(x.blocks.toNat:Int):=by omega
 have hR0:=aaA (N:=N) (n:=N- 6) (first:=6) (a:=4) (b:=5) (by omega) (by omega) (by omega) (by decide) (by omega) (by omega) (by unfold eN;omega) (by unfold eN;omega)
 have hR:=hR0.beside p2 p3 (fun j a b c=>p5 j a b (by
  rcases c with c|c|c
  · omega
  · omega
  · unfold eN at c;omega) (by
  rcases c with c|c|c
  · omega
  · omega
  · unfold eN at c;omega))
 have o:=Ka (m:=x.blocks.toNat) (V:=zeroV) (e:=0) hR rfl (by decide) vA.2.2 (by omega) ha (by rw[p4];exact nU aa.wE);rw[←Lo]at o;obtain⟨W',al⟩:=o.i fg;obtain⟨d1,d2,d3⟩:=o.dc fg;obtain⟨q1,q2,q3⟩:=o.ep fg;exact⟨⟨⟨W',0+2,by decide,.inl al⟩,al.len.1.len,al.len.1.ok,d1,d2,d3,vA.2.2⟩,q2,q1,by omega,Lo,ha⟩
end Go.Sl