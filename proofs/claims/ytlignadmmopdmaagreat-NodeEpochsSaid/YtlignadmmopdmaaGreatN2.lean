/- A part of the proof. -/
import Derived.Test.YtlignadmmopdmaaGreatNodC
import Derived.Test.YtlignadmmopdmaaGreatL2
import Derived.Test.YtlignadmmopdmaaGreatUn
import Derived.Test.YtlignadmmopdmaaGreatW1
set_option linter.unusedVariables false
set_option linter.unusedSimpArgs false
set_option linter.constructorNameAsVariable false
namespace Go.Sl
namespace aa
variable {n : aa} {K : Nat}
theorem DQ{a:Int × aa}(h:a.2.ok K)(b:Nat):(dt a b).2.ok (K+1):=by
 have g:=h.le (show K≤K+1 by omega);unfold dt;split
 ·exact g
 ·split
  ·dsimp only;split
   · exact h.store _ _ _
   · exact g
  ·split
   · exact h.store _ _ _
   · exact g
theorem sz: ∀(l:List Nat) {K:Nat} {a:Int × aa},a.2.ok K→(l.foldl dt a).2.ok (K+l.length)
 | [],_,_,h=>h
 |b::l,K,a,h=>by
  have:=sz l (DQ h b);rw[List.length_cons,show K+(l.length+1)=K+1+l.length by omega];exact this
theorem ok.iw(h:n.ok K):n.iw.ok (K+32):=by
 have hb:=h.a.blocks;have:=sz (List.range n.blocks.toNat) (a:=(0,n)) h;exact this.le (by rw[List.length_range];omega)
theorem ok.k7(h:n.ok K)(w:ar):(n.k7 w).ok (K+1):=by
 unfold aa.k7;split
 · exact h.load _ _
 · exact h.le (by omega)
theorem ok.iD(h:n.ok K):n.iD.ok (K+9):=by
 have hq:=h.n.quiet;unfold aa.iD;split
 ·have g0:=h.le (show K≤K+1 by omega);exact(show aa.ok {n with quiet:=n.quiet+1} (K+1)from⟨g0.a,g0.p,⟨g0.n.left,g0.n.ah,g0.n.mask,g0.n.clock,g0.n.born,g0.n.change,g0.n.cT,g0.n.role,g0.n.want,g0.n.cm,by dsimp only;omega⟩,g0.t,g0.o,g0.w,g0.s,g0.out⟩).kW
 ·exact h.df.le (by omega)
theorem ok.jv(h:n.ok K):n.jv.ok (K+50):=by
 unfold aa.jv;split
 · exact h.k6
 split
 · exact(h.changes h.n.want).le (by omega)
 · exact h.le (by omega)
theorem ok.mD(h:n.ok K):n.mD.ok (K+1):=by
 unfold aa.mD;split
 · exact(show n.uj.ok K from⟨h.a,h.p,⟨h.n.left,h.n.ah,h.n.mask,h.n.clock,h.n.born,h.n.change,h.n.cT,h.n.role,h.n.want,(by decide:(0:Int)≤1∧(1:Int)≤2),h.n.quiet⟩,h.t,h.o,h.w,h.s,h.out⟩).send _ _
 · exact h.le (by omega)
theorem ok.zg(h:n.ok K):n.zg.ok (K+16):=by
 have hw:=h.w.n;exact(tj aa.k7 (fun n K w h=>h.k7 w) n.waits h).le (by omega)
theorem ok.tQ(h:n.ok K):n.tQ.ok (K+49):=by
 unfold aa.tQ;split
 · exact h.le (by omega)
 · exact h.mD.iw.zg
theorem ok.rS(h:n.ok K):n.rS.ok (K+130):=h.iD.jv.tQ.le (by omega)
theorem ok.clear(h:n.ok K):n.clear.ok K:=⟨h.a,h.p,h.n,h.t,h.o,h.w,h.s,Nat.zero_le _⟩
theorem ok.k5(h:n.ok K):n.k5.ok (K+1):=by
 have gk:=h.le (show K≤K+1 by omega);have h1:=h.n.left;have h2:=h.n.clock;exact⟨gk.a,gk.p,⟨by show 0≤max (n.left- 1) 0∧max (n.left- 1) 0≤1048576;omega,gk.n.ah,gk.n.mask,by show 0≤n.clock+1∧n.clock+1≤((K+1:Nat):Int);omega,gk.n.born,gk.n.change,gk.n.cT,gk.n.role,gk.n.want,gk.n.cm,gk.n.quiet⟩,gk.t,gk.o,gk.w,gk.s,gk.out⟩
theorem ok.tP(h:n.ok K):n.tP.ok (K+130):=by
 unfold aa.tP;split
 · exact(h.load _ _).le (by omega)
 split
 · exact h.rS
 · exact h.le (by omega)
theorem ok.tO(h:n.ok K):n.tO.ok (K+131):=by
 unfold aa.tO;split
 · exact(h.send _ _).le (by omega)
 · exact(h.send 2 n.sj).tP.le (by omega)
theorem ok.tick(h:n.ok K):n.tick.ok (K+140):=by
 unfold aa.tick;split
 · exact h.clear.le (by omega)
 · exact h.clear.k5.tO.le (by omega)
theorem ok.kU(h:n.ok K)(m:aM):(n.kU m).ok (K+16):=
 h.hY (p:=eg m) (f:=fun n w=>n.given w m.data) (P:=fun _=>True) (fun n K w _ h=>h.given w m.data) (fun _ _=>trivial)
theorem ok.eG(h:n.ok K)(m:aM):(n.eG m).ok K:=by
 unfold aa.eG;split
 ·split
  · exact h.mc _ fun w hw=>⟨hw.cl,hw.n,hw.op,hw.bE,hw.seq,hw.load⟩
  · exact h
 ·exact h
theorem ok.gC(h:n.ok K)(m:aM):(n.gC m).ok (K+1):=by
 unfold aa.gC;split
 · exact h.send _ _
 · exact h.le (by omega)
theorem ok.cX(h:n.ok K)(m:aM):(n.cX m).ok (K+17):=by
 unfold aa.cX;split
 · exact h.le (by omega)
 split
 · exact h.le (by omega)
 · exact fq (c:=17) (h.iO (nR h.p.c _ _ _)) fun g=>(g.gC m).reads
theorem ok.stored(h:n.ok K)(m:aM):(n.stored m).ok (K+70):=((h.eG m).settle.cX m).le (by omega)
theorem ok.cZ(h:n.ok K)(m:aM):(n.cZ m).ok (K+70):=by
 unfold aa.cZ;split
 ·exact h.le (by omega)
 ·split
  ·exact h.du.le (by omega)
  ·split
   ·exact h.le (by omega)
   ·split
    ·exact(h.recover _).le (by omega)
    ·split
     ·exact(h.kU m).le (by omega)
     ·split
      · exact(h.stored m)
      · exact h.le (by omega)
theorem ok.l8(h:n.ok K){w:ar}(hw:w.ok K)(hn:n.waits.length<16):({n with waits:=n.waits++[w]}:aa).ok K:=
 ⟨h.a,h.p,h.n,h.t,h.o,⟨by simp;omega,fun y hy=>by
  rcases List.mem_append.1 hy with hy|hy
  · exact h.w.all y hy
  · simp at hy;subst hy;exact hw⟩,h.s,h.out⟩
theorem ok.gp(h:n.ok K)(w:ar)(x:bd):(n.gp w x).ok (K+1):=by
 unfold aa.gp;split
 · exact h.store _ _ _
 · exact h.le (by omega)
theorem ok.g4(h:n.ok K){w:ar}(hw:w.ok K):(n.g4 w).ok (K+1):=by
 unfold aa.g4;split
 ·exact h.answer _ _ _
 ·rename_i x hx
  have oZ:=ui h x (List.mem_of_find?_eq_some hx);have hb:=oZ.bE;have Hk:=h.p.c.bl;split
  ·exact h.answer _ _ _
  ·rename_i hc
   simp only[not_or]at hc;exact(h.l8 (w:={w with op:=2,bE:=x.bE,seq:=x.vs}) ⟨hw.cl,hw.n,(by decide:(0:Int)≤2∧(2:Int)≤4),⟨by dsimp only;omega,by dsimp only;omega⟩,⟨by have:=oZ.vs;dsimp only;omega,oZ.vs.2⟩,hw.load⟩ (by omega)).gp _ _
theorem _root_.Go.Sl.mG.wb{s:dC}(h:mG K s)(q:Int):mG K (s.wb q).2:=by
 unfold dC.wb;split
 ·exact h
 ·rename_i hc
  simp only[not_or]at hc;have hl:=h.last;have ha:=h.dV;have hn:=h.n;have e:s.last=s.dV+s.l.length:=rfl;unfold gg at ha;refine⟨⟨by dsimp only;omega,by dsimp only;omega⟩,?_,by simp;omega,fun x hx=>h.all x (List.mem_of_mem_drop hx)⟩;unfold dC.last;simp only[List.length_drop];omega
theorem ok.iL(h:n.ok K)(w:ar):(n.iL w).2.ok K∧(n.iL w).2.waits=n.waits:=by
 unfold aa.iL;split
 · exact⟨h.mark _,rfl⟩
 · exact⟨h,rfl⟩
theorem ok.jo(h:n.ok K){w:ar}(hw:w.ok K)(hn:n.waits.length<16){x:bd}(hx:(jw x).ok):(n.jo w x).ok (K+3):=by
 have hq:=h.s.wL (jw x)
 have g:(n.zq {w with seq:=(n.s.add (jw x)).1.1} (jw x)).ok (K+1):=
  ((h.le (show K≤K+1 by omega)).y5 (h.s.add hx)).l8 (w:={w with seq:=(n.s.add (jw x)).1.1}) ⟨hw.cl,hw.n,hw.op,hw.bE,hq,by have:=hw.load;dsimp only;omega⟩ hn
 unfold aa.jo
 have g2:((n.zq {w with seq:=(n.s.add (jw x)).1.1} (jw x)).jM {jw x with seq:=(n.s.add (jw x)).1.1}).ok (K+2):=by
  unfold aa.jM;split
  · exact g.put _
  · exact(g.y5 (mG.wb g.s _)).le (by omega)
 exact g2.gp _ _
theorem ok.iM(h:n.ok K){w:ar}(hw:w.ok K)(hn:n.waits.length<16){x:bd}(hx:(jw x).ok):(n.iM w x).ok (K+3):=by
 unfold aa.iM;split
 · exact((h.bf (lJ h.p.c x)).answer _ _ _).le (by omega)
 · exact fq (c:=3) (h.iO (lJ h.p.c x)) fun g=>fq (c:=3) g.sync fun g=>g.jo hw hn hx
theorem ok.write(h:n.ok K){w:ar}(hw:w.ok K)(hn:n.waits.length<16){data:Bytes}(hd:data.length=8):(n.write w data).ok (K+5):=by
 unfold aa.write;split
 ·exact(h.answer _ _ _).le (by omega)
 ·obtain⟨g,g2⟩:=h.iL w;exact(fq (c:=3) g fun g=>aa.ok.iM (x:=(n.iL w).2.dL w data) g hw (by rw[g2];exact hn) ⟨wE,hw.bE,by show data.length≤8;omega,⟨by have:=hw.cl;show-1≤w.cl;omega,hw.cl.2⟩,⟨by have:=hw.n;show 0≤w.n;omega,hw.n.2⟩⟩).le (by omega)
theorem ok.ki(h:n.ok K){w:ar}(hw:w.ok K)(hn:n.waits.length<16){data:Bytes}(hd:w.op=2→data.length=8)(ho:1≤w.op):(n.ki w data).ok (K+20):=by
 have hle:=h.s.last;have ho4:=hw.op;unfold aa.ki;split
 ·exact(h.l8 hw hn).reads.le (by omega)
 split
 ·have ha:=h.s.dV;have e:n.s.last=n.s.dV+n.s.l.length:=rfl;exact(aa.ok.reads (h.l8 (w:={w with seq:=n.s.last}) ⟨hw.cl,hw.n,hw.op,hw.bE,⟨by unfold gg at ha;dsimp only;omega,hle⟩,hw.load⟩ hn)).le (by omega)
 split
 ·exact(h.write (w:={w with op:=2}) ⟨hw.cl,hw.n,(by decide:(0:Int)≤2∧(2:Int)≤4),hw.bE,hw.seq,hw.load⟩ hn rfl).le (by omega)
 ·exact(h.write hw hn (hd (by omega))).le (by omega)
theorem ok.kh(h:n.ok K){w:ar}(hw:w.ok K){e:Int}{data:Bytes}(hd:e=0→1≤w.op∧(w.op=2→data.length=8)):(n.kh w e data).ok (K+20):=by
 unfold aa.kh;split
 ·exact(h.answer _ _ _).le (by omega)
 split
 ·exact(h.answer _ _ _).le (by omega)
 ·rename_i h1 h2
  have he:e=0:=by simpa using h2
  exact h.ki hw (by omega) (hd he).2 (hd he).1
theorem tE{m:aM}(hr:n.refused m=0):1≤m.seq∧m.seq≤4∧(m.seq=2→(m.data.length:Int)=8):=by
 unfold aa.refused at hr;split at hr
 · cases hr
 split at hr
 · cases hr
 split at hr
 · cases hr
 split at hr
 · cases hr
 split at hr
 · cases hr
 · omega
theorem BH{w:ar}{m:aM}(h:n.gX w m=some 0):n.refused m=0:=by
 unfold aa.gX at h;dsimp only at h
 by_cases c:n.refused m=0
 ·exact c
 ·rw[if_neg (fun hx=>c hx.1)]at h;simpa using h
theorem ok.called(h:n.ok K){jr:Int}(hf:4≤jr∧jr≤7){m:aM}(hm:m.ok):(n.called jr m).ok (K+20):=by
 unfold aa.called;split
 ·exact h.le (by omega)
 rename_i hc
 simp only[not_or]at hc;have hw:(mh jr m).ok K:=⟨⟨by show 0≤jr- 4;omega,by show jr- 4≤3;omega⟩,⟨by show 1≤m.n;omega,hm.n.2⟩,⟨by have:=hm.seq;show 0≤min m.seq 4;omega,by show min m.seq 4≤4;omega⟩,hm.block,wE,zk K⟩;split
 ·exact h.le (by omega)
 rename_i e he
 split
 ·exact(h.g4 hw).le (by omega)
 ·refine h.kh hw fun e0=>?_
  subst e0;obtain⟨r1,r2,r3⟩:=tE (BH he);exact⟨by show 1≤min m.seq 4;omega,fun ho=>by have:min m.seq 4=2:=ho;have:=r3 (by omega);omega⟩
theorem ok.dz(h:n.ok K)(w:ar):(n.dz w).ok (K+1):=by
 unfold aa.dz;split
 ·exact h.le (by omega)
 ·split
  · exact h.store _ _ _
  · exact h.le (by omega)
theorem ok.fY(h:n.ok K):n.fY.ok (K+16):=by
 have hw:=h.w.n;exact(tj aa.dz (fun n K w h=>h.dz w) n.waits h).le (by omega)
theorem ok.BK(h:n.ok K):(n.BM (n.dr.clear n.d)).2.ok K:=by
 refine h.BM ?_;unfold eX.clear;split
 · exact⟨h.p.dr,rfl,rfl⟩
 · exact AB h.p.dr (Nat.two_pow_pos _)
theorem ok.gx(h:n.ok K):n.gx.ok K:=by unfold aa.gx;split;exact h.leads;exact h
theorem ok.nN(h:n.ok K):n.nN.ok (K+66):=fq (c:=66) h.marks fun g=>(show aa.ok (n.marks.2.kM) K from g.y5 (.new _ _)).gx.fY.settle
theorem ok.cj(h:n.ok K){mk:Int}(hm:gg mk):(n.cj mk).ok K:=⟨h.a,h.p,⟨h.n.left,h.n.ah,hm,h.n.clock,h.n.born,h.n.change,h.n.cT,h.n.role,z03,z02,zk K⟩,h.t,h.o,h.w,h.s,h.out⟩
theorem ok.changed(h:n.ok K){mk:Int}(hm:gg mk):(n.changed mk).ok (K+66):=by
 have g:=h.cj hm;unfold aa.changed aa.mX;split
 · exact(fq (c:=50) g.BK fun g=>g.settle).le (by omega)
 split
 · exact g.nN
 · exact g.du.le (by omega)
theorem ok.lS(h:n.ok K){z:Int}(hz:z≤n.clock):(n.lS z).ok K:=by
 have h1:=h.n.left;have h2:=h.a.lease;exact⟨h.a,h.p,⟨⟨by show 0≤max (max n.left (n.lease-(n.clock-z))) 0;omega,by show max (max n.left (n.lease-(n.clock-z))) 0≤1048576;omega⟩,h.n.ah,h.n.mask,h.n.clock,h.n.born,h.n.change,h.n.cT,h.n.role,h.n.want,h.n.cm,h.n.quiet⟩,h.t,h.o,h.w,h.s,h.out⟩
theorem ok.vn(h:n.ok K){mk:Int}(hm:gg mk):(n.vn mk).ok (K+1):=
 (show aa.ok {n with role:=1,mask:=mk,change:=0} K from⟨h.a,h.p,⟨h.n.left,h.n.ah,hm,h.n.clock,h.n.born,zk K,h.n.cT,(by decide:(0:Int)≤1∧(1:Int)≤3),h.n.want,h.n.cm,h.n.quiet⟩,h.t,h.o,h.w,h.s,h.out⟩).load (-1) 0
theorem u5(n:aa)(e:Int):(n.eC e).2.clock=n.clock:=by
 unfold aa.eC gz;split
 · rfl
 · split<;>rfl
theorem ok.granted(h:n.ok K){m:aM}(hm:m.ok):(n.granted m).ok (K+2):=by
 unfold aa.granted;split
 ·split
  · exact h.du.le (by omega)
  · exact h.le (by omega)
 unfold aa.gL;split
 ·exact h.le (by omega)
 rename_i h1 h2
 split
 ·exact(fq (c:=1) (h.eC hm.ah) fun g=>(g.vn hm.seq).lS (by show _≤(n.eC m.ah).2.clock;rw[u5];omega)).le (by omega)
 split
 ·exact h.le (by omega)
 ·exact(h.lS (by omega)).le (by omega)
theorem ok.found(h:n.ok K){e:Int}(he:gg e):(n.found e).ok K:=by
 have g1:(ia pB (List.range n.blocks.toNat) n).2.ok K:=(ti pB 0 (fun _=>True) (fun n K x _ h=>(h.mark _)) _ (fun _ _=>trivial) h).le (by omega);refine fq (c:=0) g1 fun g=>?_
 have g2:=(g.iF he).err (aa.iF (ia pB (List.range n.blocks.toNat) n).2 e).1;unfold aa.G6;split
 · exact⟨g2.a,g2.p,g2.n,g2.t,g2.o,g2.w,g2.s,g2.out⟩
 · exact g2
theorem ok.heard(h:n.ok K){m:aM}(hm:m.ok):(n.heard m).ok (K+66):=by
 unfold aa.heard;split
 ·split
  · exact(h.found hm.ah).le (by omega)
  · exact h.le (by omega)
 split
 ·exact(h.granted hm).le (by omega)
 split
 ·exact h.le (by omega)
 split
 ·exact h.du.le (by omega)
 split
 ·exact h.changed hm.seq
 ·exact h.le (by omega)
theorem ok.lay(h:n.ok K)(m:aM):(n.lay m).2.ok K:=by
 refine mw (c:=0) (show(n.wB m).2.ok K by unfold aa.wB;split;exact h.iO (ow h.p.c _ _ _);exact h) fun g1=>?_
 split
 ·exact g1.iO (kb g1.p.c _ _ _)
 ·refine mw (c:=0) (show(aa.Aa (n.wB m).2 m).2.ok K by unfold aa.Aa;split;exact g1.iO (kb g1.p.c _ _ _);exact g1) fun g2=>?_
  unfold aa.wC;split
  · exact g2.bf (lJ g2.p.c _)
  · exact g2.iO (lJ g2.p.c _)
theorem ok.wk(h:n.ok K)(m:aM):(n.wk m).ok (K+1):=h.send _ _
theorem ok.taken(h:n.ok K)(m:aM):(n.taken m).ok (K+1):=by
 unfold aa.taken;split
 · exact h.le (by omega)
 split
 · exact fq (c:=1) (mw (c:=0) (h.lay m) fun g=>g.sync) fun g=>g.wk m
 · exact h.wk m
theorem ok.cM(h:n.ok K)(m:aM):(n.cM m).2.ok K:=by
 unfold aa.cM;split
 · exact h
 have g1:(ia (eT ((dJ m.row).1,(dJ m.row).2.1)) n.c.all n).2.ok K:=(ti (eT ((dJ m.row).1,(dJ m.row).2.1)) 0 (fun _=>True) (fun n K x _ h=>by unfold eT;split;exact h.iO (AA h.p.c _);exact h) _ (fun _ _=>trivial) h).le (by omega);exact mw (c:=0) g1 fun g=>mw (c:=0) (g.iO (ow g.p.c _ _ _)) fun g=>g.sync
theorem ok.gV(h:n.ok K)(m:aM):(n.gV m).ok (K+1):=h.send _ _
theorem ok.begun(h:n.ok K)(m:aM):(n.begun m).ok (K+1):=by
 unfold aa.begun;split
 · exact h.le (by omega)
 split
 · exact h.gV m
 · exact fq (c:=1) (h.cM m) fun g=>g.gV m
theorem ok.yu(h:n.ok K)(q:Int):(n.yu q).ok K:=⟨h.a,h.p,⟨h.n.left,h.n.ah,h.n.mask,h.n.clock,h.n.born,h.n.change,h.n.cT,h.n.role,h.n.want,h.n.cm,zk K⟩,h.t,h.o,h.w,mG.wb h.s q,h.out⟩
theorem ok.met(h:n.ok K){m:aM}(hm:m.ok):(n.met m).ok (K+70):=by
 unfold aa.met;split
 ·split
  ·exact h.le (by omega)
  ·refine(fq (c:=1) (h.eC hm.ah) fun g=>?_).le (show K+1≤K+70 by omega);unfold aa.H4;split
   · exact g.le (by omega)
   split
   · exact g.taken m
   · exact g.begun m
 split
 ·unfold aa.LZ;split
  ·exact(h.yu m.seq).fY.settle.le (by omega)
  ·exact h.le (by omega)
 split
 ·unfold aa.L2;split
  ·exact h.ready.le (by omega)
  ·exact h.le (by omega)
 split
 ·unfold aa.LY;split
  ·split
   · exact(h.bf (nR h.p.c _ _ _)).le (by omega)
   · exact(h.iO (nR h.p.c _ _ _)).le (by omega)
  ·exact h.le (by omega)
 ·exact h.le (by omega)
theorem mY{s:Bytes}(h:(bF s).2=0):(bF s).1.ok:=by
 unfold bF at h ⊢;split
 ·rename_i hi
  unfold A2 at hi;simp only[Bool.and_eq_true]at hi;exact aM.W2 hi.2
 ·rename_i hi
  rw[if_neg hi]at h;cases h
theorem ok.oQ(h:n.ok K):n.oQ.ok K:=by unfold aa.oQ;split;exact h.clear;exact h
theorem ok.nW(h:n.ok K){m:aM}(hm:m.ok){jr:Int}(h1:0≤jr∧jr<8∧ ¬jr=n.id):(n.nW jr m).ok (K+70):=by
 unfold aa.nW;split
 ·exact(h.heard hm).le (by omega)
 split
 ·exact h.cZ m
 split
 ·exact h.met hm
 ·rename_i c1 c2 c3
  have hid:=h.a.id;have c3: ¬jr=1-n.id:=c3;exact(h.called ⟨by omega,by omega⟩ hm).le (by omega)
theorem ok.tN(h:n.ok K)(l:gI):(n.tN l).2.ok (K+70):=by
 unfold aa.tN;split
 · exact h.le (by omega)
 split
 · exact h.le (by omega)
 rename_i h1 h2
 simp only[not_or]at h2;split
 · exact h.le (by omega)
 rename_i h3
 have hm:=mY (s:=l.body) (by simpa using h3);split
 · exact h.le (by omega)
 · exact(h.nW hm ⟨by omega,by omega,h2.2.2.2⟩).oQ
theorem ok.take(h:n.ok K)(l:gI):(n.take l).2.ok (K+70):=h.clear.tN l
end aa
end Go.Sl
namespace Go.Sl
theorem JW{m:aM}(h:m.may=true):m.row.length≤10:=by
 unfold aM.may at h;simp only[Bool.and_eq_true,decide_eq_true_eq]at h;omega
theorem ahQ{m:aM}(h:m.may=true):0≤m.e∧m.e≤31:=by
 unfold aM.may aI at h;simp only[Bool.and_eq_true,decide_eq_true_eq]at h;omega
theorem s6{m:aM}(h:m.may=true):(H5 m).may:=by
 have h1:=aM.W2 h;have h2:=JW h;have h3:=ahQ h;obtain⟨k,ep,sq,n,bl,cl,t0,t1,t2,t3,dl⟩:=h1;refine⟨by show 0≤m.kind;omega,by show m.kind≤255;omega,by show 10≤16;decide,by show 2≤4;decide,?_,?_⟩
 ·intro t ht;simp only[H5,List.mem_cons,List.not_mem_nil,or_false]at ht;rcases ht with rfl|rfl<;>omega
 ·intro z hz;simp only[H5,List.mem_cons,List.not_mem_nil,or_false]at hz;rcases hz with rfl|rfl|rfl|rfl|rfl|rfl|rfl|rfl|rfl|rfl<;>omega
theorem xC{m:aM}(h:m.may=true):kQ (H5 m)=(dF m,0):=by
 rw[qa (s6 h)];unfold dF;rw[if_pos h]
theorem uy{m:aM}(h:m.may=false):dF m=[]:=by
 unfold dF;rw[if_neg (by rw[h];simp)]
def Dk(s:Bytes):Prop:=(bX s).2≠0∨((bX s).1.aH.length:Int)≠10∨((bX s).1.texts.length:Int)≠2
theorem j3{s:Bytes}(h:Dk s):bF s=(.zero,4):=by
 unfold bF;rw[if_neg];intro hi;unfold A2 at hi;simp only[Bool.and_eq_true,decide_eq_true_eq]at hi;unfold Dk at h;omega
theorem WR{α:Type}{l:List α}(h:l.length=10): ∃a b c d e f g i j k,l=[a,b,c,d,e,f,g,i,j,k]:=by
 match l,h with
 | [a,b,c,d,e,f,g,i,j,k],_=>exact⟨a,b,c,d,e,f,g,i,j,k,rfl⟩
theorem ahv{α:Type}{l:List α}(h:l.length=2): ∃a b,l=[a,b]:=by
 match l,h with
 | [a,b],_=>exact⟨a,b,rfl⟩
theorem Ay{s:Bytes}{k a b c d e f g i j l:Int}{x y:Bytes}(h:bX s=(⟨k,[a,b,c,d,e,f,g,i,j,l],[x,y]⟩,0)):
  bF s=if(⟨k,a,b,c,d,e,f,g,i,j,l,x,y⟩:aM).may=true then(⟨k,a,b,c,d,e,f,g,i,j,l,x,y⟩,0)else(.zero,4):=by
 unfold bF A2;rw[h];simp[PL]
theorem mY{s:Bytes}(h:(bF s).2=0):(bF s).1.may=true:=by
 unfold bF at h ⊢
 by_cases c:A2 s=true
 ·rw[if_pos c];unfold A2 at c;simp only[Bool.and_eq_true]at c;exact c.2
 ·rw[if_neg c]at h;cases h
end Go.Sl
namespace Go.Proofs
open _root_.Go.Proofs.Tryz
open Go Go.Sl
namespace W
theorem UP [Env]{R:List ax}{m:aM}:bC Tryz.prog 123 [.agg m.cells.toArray] [] R (Is (.tuple #[str (dF m),i64 (if m.may=true then 0 else 4)]) []):=by
 refine ag func123 ntmps123 rfl rfl ?_;refine gc 1 ?_;refine ya (a7 (vs:=m.cells) rfl rfl) rfl ?_;rintro v L' ⟨b1,rfl,rfl⟩;refine gy 6 ?_;refine y (ak rfl isAgg34 sizeOf34 aL (by rfl)) rfl ?_;refine bK (ahP) call72 ?_;refine gy 3 ?_;refine cc rfl (fun h7=>?_) (fun h7=>?_)
 ·refine gc 1 ?_;have eF:m.may=false:=by assumption
  refine gy 6 ?_;refine bm results123 rfl rfl (L1:=R) ae ?_;exact⟨_,⟨by(rw[uy eF,eF];rfl),rfl⟩,by rfl⟩
 refine gc 3 ?_;refine aS 15 [(0,true),(1,true),(2,true),(3,true),(4,true),(5,true),(6,true),(7,true),(8,true),(9,true),(10,true),(11,true),(13,true),(14,true),(12,false)] (_) Tryz.mixed (by kernel_rfl) .refl ?_;have dj:m.may=true:=by assumption
 have iW:=xC dj;refine gh 13 ?_;refine hr rfl (iJ rfl underlying32 sizeOf2) rfl ?_;refine ha rfl (aE rfl underlying57 sizeOf2 zeroValue2 rfl rfl rfl rfl ⟨⟨_,_,rfl,(by rfl),(by decide)⟩,⟨⟨_,_,rfl,(by rfl),(by decide)⟩,⟨⟨_,_,rfl,(by rfl),(by decide)⟩,⟨⟨_,_,rfl,(by rfl),(by decide)⟩,⟨⟨_,_,rfl,(by rfl),(by decide)⟩,⟨⟨_,_,rfl,(by rfl),(by decide)⟩,trivial⟩⟩⟩⟩⟩⟩ (by dsimp[bt,aX,aY,bS]<;>rfl)) rfl ?_;rintro v L' ⟨b22,rfl,rfl⟩;refine⟨ae,?_⟩;refine gh 1 ?_;refine ya (aO (s:=some (b22,6,[])) (xs:=[i64 m.ah,i64 m.seq,i64 m.n,i64 m.block,i64 m.eU,i64 m.e]) (m:=6) (k:=4) (us:=[i64 m.t0,i64 m.t1,i64 m.t2,i64 m.t3]) (size:=1) rfl rfl (by repeat first|exact .z|apply Pk.s) underlying57 underlying57 (by intro q hq;cases hq) typeInfo2 rfl rfl rfl ?CF ?alJ ?aj1 ?ad1) rfl ?_
 case CF=>exact⟨Nat.le_refl _,by decide,rfl,rfl⟩
 case alJ=>exact cz aL rfl rfl
 case aj1=>simp[Value.oneCell']
 case ad1=>decide
 rintro v L' ⟨s25,rfl,CF,rfl⟩;obtain⟨b25,c25,as6,rfl,at4⟩:=w6 CF (by decide);refine gy 11 ?_;refine ya (aE rfl underlying86 sizeOf9 zeroValue9 rfl rfl rfl rfl ⟨⟨_,_,rfl,(by rfl),(by decide)⟩,⟨⟨_,_,rfl,(by rfl),(by decide)⟩,trivial⟩⟩ (by dsimp[bt,aX,aY,bS]<;>rfl)) rfl ?_;rintro v L' ⟨b34,rfl,rfl⟩;refine y (bU rfl) rfl ?_;refine aA (p6 (r:=H5 m) ?apz ?apS ?atd) rfl call94 aZ rfl ?_
 case apz=>exact bG (s:=some (b25,c25,as6)) aL CF
 case apS=>exact eh aL rfl rfl
 case atd=>exact(s6 dj).num
 rintro v L' ⟨CS,rfl,jQ,rfl⟩;rw[iW]at jQ ⊢;dsimp only at jQ ⊢;generalize dF m=rb at*;refine gy 9 ?_;refine y (jq (pT (L:=[aD CS 5 (av rb)]) .z jQ).rd.bytes ae rfl underlying55 underlying9 underlying5) rfl ?_;refine gy 6 ?_;refine bm results123 rfl rfl (L1:=R) ae ?_;exact⟨_,⟨by rw[if_pos dj],rfl⟩,by rfl⟩
set_option maxHeartbeats 4000000 in
theorem J1 [Env]{R:List ax}{s:Bytes}(hs:s.length≤1000):bC Tryz.prog 37 [str s] [] R (Is (.tuple #[.agg (bF s).1.cells.toArray,i64 (bF s).2]) []):=by
 refine ag func37 ntmps37 rfl rfl ?_;refine gc 1 ?_;refine ya (aB zeroValue34 rfl) rfl ?_;rintro v L' ⟨b2,rfl,rfl⟩;refine gy 5 ?_;refine ya (ku rfl underlying9 underlying55 underlying5) rfl ?_;rintro v L' ⟨Nx,c10,as5,an6,rfl,Y8,rfl⟩;refine aA (pZ (bs:=s) ?aoZ) rfl call47 aZ rfl ?_
 case aoZ=>exact yO aL Y8
 rintro v L' ⟨IS,RN,rfl,CE,rfl⟩;obtain⟨de,sQ⟩: ∃z,bX s=z:=⟨_,rfl⟩;have Di:=sy s;obtain⟨rc,er⟩:=de;rw[sQ]at CE Di ⊢;dsimp only at CE Di ⊢;have qQ:=CE.n;have k3:=CE.t;unfold tD;have g9:cE [aD IS 2 (aW rc.aH)] (aG IS rc.aH.length) rc.aH.length (aW rc.aH):=bG .z qQ;have Pd:cE [aD RN 9 (cn rc.texts)] (aG RN rc.texts.length) rc.texts.length (cn rc.texts):=bG .z k3;have Hu:=vX qQ;refine gy 3 ?_;refine ya (aB zeroValue88 rfl) rfl ?_;rintro v L' ⟨b4,rfl,rfl⟩;refine bA (ai rfl rfl (by(simp only[List.forall_mem_cons,List.not_mem_nil,false_implies,implies_true,bN,and_true,true_and,and_self];first|done|simp[Value.oneCell'])) sizeOf88 bc (by rfl) (by rfl)) ?_;refine gy 8 ?_;refine cv 16 rfl (fun xP=>?_) (fun xP=>?_)
 ·refine gy 15 ?_;have dO:bF s=(.zero,4):=j3 (by unfold Dk;rw[sQ];dsimp only;omega);refine y (bU rfl) rfl ?_;refine bA (aP rfl rfl (qj .zero) sizeOf34 bc rfl (by simp[aM.cells]) rfl) ?_;refine gy 5 ?_;refine cx results37 rfl rfl isAgg34 sizeOf34 aL (rfl) (L1:=R) ae ?_;exact⟨_,⟨by(rw[dO];rfl),rfl⟩,by rfl⟩
 refine gy 2 ?_;refine bV ?_;refine y (bH rfl underlying57 (by assumption)) rfl ?_;refine gy 3 ?_;refine cv 22 rfl (fun YS=>?_) (fun YS=>?_)
 ·refine gy 9 ?_;have dO:bF s=(.zero,4):=j3 (by unfold Dk;rw[sQ];dsimp only;omega);refine y (bU rfl) rfl ?_;refine bA (aP rfl rfl (qj .zero) sizeOf34 bc rfl (by simp[aM.cells]) rfl) ?_;refine gy 5 ?_;refine cx results37 rfl rfl isAgg34 sizeOf34 aL (rfl) (L1:=R) ae ?_;exact⟨_,⟨by(rw[dO];rfl),rfl⟩,by rfl⟩
 refine gy 2 ?_;refine bV ?_;refine y (bH rfl underlying86 (by assumption)) rfl ?_;refine gy 4 ?_;refine cc rfl (fun h84=>?_) (fun h84=>?_)
 ·refine gc 1 ?_;have dO:bF s=(.zero,4):=j3 (by unfold Dk;rw[sQ];dsimp only;omega);refine y (bU rfl) rfl ?_;refine bA (aP rfl rfl (qj .zero) sizeOf34 bc rfl (by simp[aM.cells]) rfl) ?_;refine gy 5 ?_;refine cx results37 rfl rfl isAgg34 sizeOf34 aL (rfl) (L1:=R) ae ?_;exact⟨_,⟨by(rw[dO];rfl),rfl⟩,by rfl⟩
 refine gc 3 ?_;obtain⟨k,ns,ts⟩:=rc;dsimp only at*;obtain⟨n0,n1,n2,n3,n4,n5,n6,n7,n8,n9,rfl⟩:=WR (l:=ns) (by omega);obtain⟨x0,x1,rfl⟩:=ahv (l:=ts) (by omega);have her:er=0:=by omega
 subst her;have Ew:=Ay sQ;refine gy 6 ?_;refine aS 30 (od [29] 30 0) (_) Tryz.mixed (by kernel_rfl) .refl ?_;refine gh 3 ?_;refine hr rfl (aK (by assumption) rfl rfl underlying57 sizeOf2 (by omega) (by omega)) rfl ?_;refine hr rfl (au 0 g9 ae rfl isAgg2 (by rfl) rfl) rfl ?_;refine gh 1 ?_;refine hr rfl (aK (by assumption) rfl rfl underlying57 sizeOf2 (by omega) (by omega)) rfl ?_;refine hr rfl (au 1 g9 ae rfl isAgg2 (by rfl) rfl) rfl ?_;refine gh 1 ?_;refine hr rfl (aK (by assumption) rfl rfl underlying57 sizeOf2 (by omega) (by omega)) rfl ?_;refine hr rfl (au 2 g9 ae rfl isAgg2 (by rfl) rfl) rfl ?_;refine gh 1 ?_;refine hr rfl (aK (by assumption) rfl rfl underlying57 sizeOf2 (by omega) (by omega)) rfl ?_;refine hr rfl (au 3 g9 ae rfl isAgg2 (by rfl) rfl) rfl ?_;refine gh 1 ?_;refine hr rfl (aK (by assumption) rfl rfl underlying57 sizeOf2 (by omega) (by omega)) rfl ?_;refine hr rfl (au 4 g9 ae rfl isAgg2 (by rfl) rfl) rfl ?_;refine gh 1 ?_;refine hr rfl (aK (by assumption) rfl rfl underlying57 sizeOf2 (by omega) (by omega)) rfl ?_;refine hr rfl (au 5 g9 ae rfl isAgg2 (by rfl) rfl) rfl ?_;refine gh 2 ?_;refine hr rfl (aK (by assumption) rfl rfl underlying86 sizeOf9 (by omega) (by omega)) rfl ?_;refine hr rfl (au 0 Pd ae rfl isAgg9 (by simp) rfl) rfl ?_;refine gh 2 ?_;refine hr rfl (aK (by assumption) rfl rfl underlying86 sizeOf9 (by omega) (by omega)) rfl ?_;refine hr rfl (au 1 Pd ae rfl isAgg9 (by simp) rfl) rfl ?_;refine hr rfl (cA ([i64 k,i64 n0,i64 n1,i64 n2,i64 n3,i64 n4,i64 n5,i64 0,i64 0,i64 0,i64 0,str x0,str x1])) rfl ?_;refine ha rfl (aB zeroValue34 rfl) rfl ?_;rintro v L' ⟨b7,rfl,rfl⟩;refine⟨ae,?_⟩;refine gh 1 ?_;refine bA (aP rfl rfl (qj ⟨k,n0,n1,n2,n3,n4,n5,0,0,0,0,x0,x1⟩) sizeOf34 bc rfl (by simp[aM.cells]) rfl) ?_;refine gy 3 ?_;refine aS 4 (od [] 4 0) (_) Tryz.mixed (by kernel_rfl) .refl ?_;refine gh 1 ?_;refine hr rfl (iJ rfl underlying32 sizeOf2) rfl ?_;refine gh 1 ?_;refine hr rfl (mi g9 rfl rfl underlying57 sizeOf2 (by simp) (by simp)) rfl ?_;have hd6:cE [aD IS 2 (aW [n0,n1,n2,n3,n4,n5,n6,n7,n8,n9])] (qB (aG IS [n0,n1,n2,n3,n4,n5,n6,n7,n8,n9].length) 6 10 1) 4 [i64 n6,i64 n7,i64 n8,i64 n9]:=g9.sl Hu (lo:=6) (hi:=10) (s:=1) (by simp) (by simp) (by simp[aW]);refine gh 1 ?_;refine ya (r8 (m:=4) (us:=[i64 n6,i64 n7,i64 n8,i64 n9]) (vs':=aM.cells ⟨k,n0,n1,n2,n3,n4,n5,n6,n7,n8,n9,x0,x1⟩) rfl rfl underlying57 sizeOf2 ((hd6.mono ae).src rfl) (by simp[Value.oneCell']) (by decide) bc (by simp[aM.cells]) rfl) rfl ?_;rintro v L' ⟨rfl,rfl⟩;refine gy 4 ?_;refine y (ak rfl isAgg34 sizeOf34 aL (by rfl)) rfl ?_;refine bK (ahP (m:=⟨k,n0,n1,n2,n3,n4,n5,n6,n7,n8,n9,x0,x1⟩)) call72 ?_;refine gy 3 ?_;refine cc rfl (fun xM=>?_) (fun xM=>?_)
 ·refine gc 1 ?_;refine y (bU rfl) rfl ?_;refine bA (aP rfl rfl (qj .zero) sizeOf34 bc rfl (by simp[aM.cells]) rfl) ?_;refine gy 5 ?_;refine cx results37 rfl rfl isAgg34 sizeOf34 aL (rfl) (L1:=R) ae ?_;exact⟨_,⟨by(rw[Ew,if_neg (by simp_all)];rfl),rfl⟩,by rfl⟩
 refine gc 3 ?_;refine y (ak rfl isAgg34 sizeOf34 aL (by rfl)) rfl ?_;refine bA (aP rfl rfl (qj _) sizeOf34 bc rfl (by simp[aM.cells]) rfl) ?_;refine gy 4 ?_;refine cx results37 rfl rfl isAgg34 sizeOf34 aL (rfl) (L1:=R) ae ?_;exact⟨_,⟨by(rw[Ew,if_pos (by assumption)];rfl),rfl⟩,by rfl⟩
end W
end Go.Proofs
namespace Go.Sl
def qF{α:Type}(f:α→List Value)(l:List α):List Value:=(l.map f).flatten
section
variable {α : Type} {f : α → List Value} {s : Nat}
theorem kA(x:α)(l:List α):qF f (x::l)=f x++qF f l:=by simp[qF]
theorem Jp(l m:List α):qF f (l++m)=qF f l++qF f m:=by simp[qF]
theorem xI(l:List α)(x:α):qF f (l++[x])=qF f l++f x:=by simp[qF]
theorem BT(hs: ∀x,(f x).length=s)(l:List α):(qF f l).length=l.length*s:=by
 induction l with
 |nil=>simp[qF]
 |cons x l ih=>rw[kA,List.length_append,ih,hs,List.length_cons,Nat.succ_mul];omega
theorem pz(hs: ∀x,(f x).length=s)(l:List α)(k:Nat):(qF f l).drop (k*s)=qF f (l.drop k):=by
 induction k generalizing l with
 |zero=>simp
 |succ k ih=>
  cases l with
  |nil=>simp[qF]
  |cons x l=>rw[kA,List.drop_succ_cons,show(k+1)*s=(f x).length+k*s by rw[hs,Nat.succ_mul];omega,←List.drop_drop,List.drop_left,ih]
theorem sI(hs: ∀x,(f x).length=s)(l:List α)(k:Nat):(qF f l).take (k*s)=qF f (l.take k):=by
 induction k generalizing l with
 |zero=>simp[qF]
 |succ k ih=>
  cases l with
  |nil=>simp[qF]
  |cons x l=>rw[kA,List.take_succ_cons,kA,show(k+1)*s=(f x).length+k*s by rw[hs,Nat.succ_mul];omega,List.take_length_add_append,ih]
theorem lb(hs: ∀x,(f x).length=s){l:List α}{k:Nat}{x:α}(h:l[k]? =some x):((qF f l).drop (k*s)).take s=f x:=by
 rw[pz hs,List.drop_eq_getElem_cons (by exact(List.getElem?_eq_some_iff.1 h).1),(List.getElem?_eq_some_iff.1 h).2,kA,←hs x,List.take_left]
theorem xH(hs: ∀x,(f x).length=s){l:List α}{k r:Nat}{x:α}{v:Value}(h:l[k]? =some x)(hr:(f x)[r]? =some v):(qF f l)[k*s+r]? =some v:=by
 rw[←List.getElem?_drop,pz hs,List.drop_eq_getElem_cons (by exact(List.getElem?_eq_some_iff.1 h).1),(List.getElem?_eq_some_iff.1 h).2,kA,List.getElem?_append_left (List.getElem?_eq_some_iff.1 hr).1];exact hr
theorem Ts(h1: ∀x,∀u∈f x,u.oneCell'=true)(l:List α): ∀u∈qF f l,u.oneCell'=true:=by
 intro u hu;simp only[qF,List.mem_flatten,List.mem_map]at hu;obtain⟨x,⟨y,_,rfl⟩,hx⟩:=hu;exact h1 y u hx
theorem KV{l:List α}{k:Nat}{x:α}(h:l[k]? =some x):l=l.take k++x::l.drop (k+1):=by
 obtain⟨h1,h2⟩:=List.getElem?_eq_some_iff.1 h;rw[←h2,←List.drop_eq_getElem_cons h1,List.take_append_drop]
theorem Jq(hs: ∀x,(f x).length=s){l:List α}{k:Nat}(y:α)(h:k<l.length):(qF f l).take (k*s)++f y++(qF f l).drop ((k+1)*s)=qF f (l.set k y):=by
 rw[sI hs,pz hs,List.set_eq_take_append_cons_drop,if_pos h,Jp,kA,List.append_assoc]
theorem Tt(hs: ∀x,(f x).length=s){l:List α}{k r:Nat}{x y:α}{v:Value}(h:l[k]? =some x)(hy:(f x).set r v=f y)(hr:r<s):(qF f l).set (k*s+r) v=qF f (l.set k y):=by
 have hl:=(List.getElem?_eq_some_iff.1 h).1;have e:=KV h;rw[←Jq hs y hl]
 have h1:qF f l=qF f (l.take k)++(f x++qF f (l.drop (k+1))):=by
  conv=>lhs;rw[e]
  rw[Jp,kA]
 rw[sI hs,pz hs,h1];have hlen:(qF f (l.take k)).length=k*s:=by rw[BT hs,List.length_take,Nat.min_eq_left (by omega)]
 rw[List.set_append_right _ _ (by omega),hlen,Nat.add_sub_cancel_left,List.set_append_left _ _ (by rw[hs];omega),hy,List.append_assoc]
end
structure dC.fit(S:dC):Prop where
 dV:0≤S.dV∧S.dV≤4611686018427387904
 last:S.last≤4611686018427387904
 n:S.l.length≤1000000
theorem mG.fit{K:Nat}{S:dC}(h:mG K S)(hK:K≤1000000):S.fit:=⟨h.dV,h.last,Nat.le_trans h.n hK⟩
theorem MM(l:List ar):a6 l=qF ar.cells l:=rfl
theorem JK(x:dY):x.cells.length=5:=rfl
theorem kJ(x:ar):x.cells.length=7:=rfl
theorem Uz(x:gI): ∀u∈x.cells,u.oneCell'=true:=by
 intro u hu;simp only[gI.cells,List.mem_cons,List.not_mem_nil,or_false]at hu;rcases hu with rfl|rfl|rfl<;>rfl
theorem pG(x:dY): ∀u∈x.cells,u.oneCell'=true:=by
 intro u hu;simp only[dY.cells,List.mem_cons,List.not_mem_nil,or_false]at hu;rcases hu with rfl|rfl|rfl|rfl|rfl<;>rfl
theorem cY(x:ar): ∀u∈x.cells,u.oneCell'=true:=by
 intro u hu;simp only[ar.cells,List.mem_cons,List.not_mem_nil,or_false]at hu;rcases hu with rfl|rfl|rfl|rfl|rfl|rfl|rfl<;>rfl
theorem sU(l:List dY):(kS l).length=l.length*5:=BT JK l
theorem cW(l:List ar):(a6 l).length=l.length*7:=BT kJ l
theorem Pp(l:List dY): ∀u∈kS l,u.oneCell'=true:=Ts pG l
theorem HZ(l:List gI)(x:gI):fG (l++[x])=fG l++x.cells:=xI l x
theorem LK(l:List dY)(x:dY):kS (l++[x])=kS l++x.cells:=xI l x
theorem cJ(l:List ar)(x:ar):a6 (l++[x])=a6 l++x.cells:=xI l x
theorem LJ(l:List dY)(k:Nat):(kS l).drop (k*5)=kS (l.drop k):=pz JK l k
theorem LL(l:List dY)(k:Nat):(kS l).take (k*5)=kS (l.take k):=sI JK l k
end Go.Sl
namespace Go.Proofs
open _root_.Go.Proofs.Tryz
open Go Go.Sl
namespace W
def eu(p:Nat)(s:Sv)(S:dC):ax:=sc p [aG s S.l.length,i64 S.dV] 170
def iZ(s:Sv)(S:dC):ax:=aD s 228 (kS S.l)
def qS(s:Sv)(S:dC):Prop:=bW s S.l.length 5 (kS S.l)
def itC(x:dY):Value:= .agg x.cells.toArray
theorem A3 [Env]{R:List ax}{b:Int}:bC Tryz.prog 74 [i64 b] [] R (fun v L'=> ∃p,v=ptr p∧L'=[eu p none (dC.new b),iZ none (dC.new b)]):=by
 have hmx:(if 4611686018427387904<(if 0>b then 0 else b)then 4611686018427387904 else(if 0>b then 0 else b))=min (max b 0) 4611686018427387904:=by split<;>split<;>omega
 refine ag func74 ntmps74 rfl rfl ?_;refine gc 6 ?_;refine y (mK rfl rfl) rfl ?_;refine y (xF rfl rfl) rfl ?_;rw[hmx];refine y (bU rfl) rfl ?_;refine ya (a7 rfl rfl) rfl ?_;rintro v L' ⟨b7,rfl,rfl⟩;refine gy 4 ?_;refine aj results74 rfl (L1:=[sc _ _ 170,aD none 228 []]++R) ae ?_;exact⟨_,⟨_,rfl,rfl⟩,rfl⟩
theorem nu [Env]{R:List ax}{p:Nat}{s:Sv}{S:dC}(h:S.fit)(hs:qS s S):bC Tryz.prog 51 [ptr p] [eu p s S] R (Is (i64 S.last) [eu p s S]):=by
 have h1:=h.dV;have h2:=h.last;unfold dC.last at h2 ⊢;have hb:bW s S.l.length 5 (kS S.l):=hs;refine ag func51 ntmps51 rfl rfl ?_;unfold eu;refine gc 5 ?_;refine aS 10 (od [] 10 0) (_) Tryz.mixed (by kernel_rfl) .refl ?_;refine gh 8 ?_;refine hr rfl (bH rfl underlying168 (by assumption)) rfl ?_;refine gh 1 ?_;rw[wr (by omega) (by omega)];refine gh 5 ?_;refine aj results51 rfl (L1:=[sc p _ 170]++R) ae ?_;exact⟨_,⟨by rfl,rfl⟩,by rfl⟩
theorem H6 [Env]{R:List ax}{p:Nat}{s:Sv}{S:dC}:bC Tryz.prog 52 [ptr p] [eu p s S] R (Is (i64 S.dV) [eu p s S]):=by
 refine ag func52 ntmps52 rfl rfl ?_;unfold eu;refine gc 13 ?_;refine aj results52 rfl (L1:=[sc p _ 170]++R) ae ?_;exact⟨_,⟨by rfl,rfl⟩,by rfl⟩
theorem UM [Env]{R:List ax}{a:Addr}{m c:Nat}{xs:List dY}(hm:m=xs.length)(hb:cE R (.slice (some a) m c) m (kS xs))(hl:m≤1000000):
   bC Tryz.prog 177 [.slice (some a) m c] [] R (zx 228 m 5 (kS xs) []):=by
 have hlen:=sU xs;refine ag func177 ntmps177 rfl rfl ?_;refine gc 7 ?_;refine y (lO rfl rfl underlying168) rfl ?_;refine gy 2 ?_;refine cc rfl (fun Ss=>?_) (fun Ss=>?_)
 ·exact absurd Ss (by simp)
 refine gc 3 ?_;refine ya (jh underlying168 sizeOf228) rfl ?_;rintro v L' ⟨b5,rfl,rfl⟩;refine gy 1 ?_;refine ya (aO (k:=m) (us:=kS xs) (size:=5) rfl rfl (by repeat first|exact .z|apply Pk.s) underlying168 underlying168 (by intro q hq;cases hq) typeInfo228 rfl rfl rfl ?tg ?RJ ?QV ?ND) rfl ?_
 case tg=>exact⟨Nat.le_refl _,by decide,rfl,rfl⟩
 case RJ=>exact al0 (hb.mono ae) (by omega)
 case QV=>exact Pp _
 case ND=>show(_+_)*49≤_;omega
 rintro v L' ⟨s7,rfl,Gk,rfl⟩;rw[Nat.zero_add]at Gk;rw[Nat.zero_add];refine gy 4 ?_;refine aj results177 rfl (L1:=_) ae ?_;exact⟨_,⟨s7,rfl,Gk,rfl⟩,rfl⟩
theorem UL [Env]{R:List ax}:
   bC Tryz.prog 177 [fp] [] R (zx 228 0 5 [] []):=by
 refine ag func177 ntmps177 rfl rfl ?_;refine gc 7 ?_;refine y (lO rfl rfl underlying168) rfl ?_;refine gy 2 ?_;refine cc rfl (fun zN=>?_) (fun zN=>?_)
 ·refine gc 6 ?_;refine aj results177 rfl (L1:=[aD none 228 []]++R) ae ?_;exact⟨_,⟨none,rfl,⟨rfl,rfl⟩,rfl⟩,rfl⟩
 cases zN
theorem PS [Env]{R:List ax}{v:Value}{xs:List dY}(hb:cE R v xs.length (kS xs))(hl:xs.length≤1000000):
   bC Tryz.prog 177 [v] [] R (zx 228 xs.length 5 (kS xs) []):=by
 rcases hb with⟨rfl,h2,h3⟩|⟨a,c,rfl,h4⟩
 · rw[h2,h3];exact UL
 exact UM rfl (.inr ⟨a,c,rfl,h4⟩) hl
theorem J3 [Env]{R:List ax}{p:Nat}{s:Sv}{S:dC}(hs:qS s S)(hn:S.l.length≤1000000):
   bC Tryz.prog 124 [ptr p] [eu p s S,iZ s S] R (zx 228 S.l.length 5 (kS S.l) [eu p s S,iZ s S]):=by
 refine ag func124 ntmps124 rfl rfl ?_;unfold eu iZ;refine gc 9 ?_;refine aA (PS (xs:=S.l) ?anz ?anB) rfl call177 aZ rfl ?_
 case anz=>exact bG aL hs
 case anB=>exact hn
 rintro v L' ⟨s7,rfl,Gk,rfl⟩;refine gy 4 ?_;refine aj results124 rfl (L1:=_) ae ?_;exact⟨_,⟨s7,rfl,Gk,rfl⟩,rfl⟩
def Xi(p:Nat)(S:dC)(x:dY)(v:Value)(L':List ax):Prop:=
 ∃s',v= .tuple #[i64 (S.add x).1.1,i64 (S.add x).1.2]∧qS s' (S.add x).2∧L'=[eu p s' (S.add x).2,iZ s' (S.add x).2]
theorem UH [Env]{R:List ax}{p:Nat}{s:Sv}{S:dC}{x:dY}(h:S.fit)(hs:qS s S):
   bC Tryz.prog 159 [ptr p,itC x] [eu p s S,iZ s S] R (Xi p S x):=by
 have h1:=h.dV;have h2:=h.last;have h3:=h.n;have h4:S.last=S.dV+S.l.length:=rfl;have hb:bW s S.l.length 5 (kS S.l):=hs;refine ag func159 ntmps159 rfl rfl ?_;refine gc 1 ?_;refine ya (a7 (vs:=x.cells) rfl rfl) rfl ?_;rintro v L' ⟨b3,rfl,rfl⟩;refine gy 7 ?_;refine bK (nu ?alg ?alv) call51 ?_
 case alg=>exact h
 case alv=>exact hs
 refine gy 3 ?_;refine cc rfl (fun TF=>?_) (fun TF=>?_)
 ·have Hq:S.add x=((0,23),S):=by unfold dC.add;rw[if_pos (by simpa using TF)]
  refine gc 7 ?_;refine bm results159 rfl rfl (L1:=[eu p s S,iZ s S]++R) ae ?_;unfold Xi;rw[Hq];exact⟨_,⟨s,rfl,hs,rfl⟩,rfl⟩
 have Hq:S.add x=((S.last+1,0),{S with l:=S.l++[{x with seq:=S.last+1}]}):=by unfold dC.add;rw[if_neg (by simpa using TF)]
 refine gc 4 ?_;refine bK (nu ?ali ?alx) call51 ?_
 case ali=>exact h
 case alx=>exact hs
 refine gy 1 ?_;rw[wr (by omega) (by omega)];refine gy 1 ?_;refine bA (an rfl rfl (by rfl) sizeOf2 bc rfl rfl) ?_;refine gy 3 ?_;refine aS 10 (od [6,7] 10 0) ([sc b3 _ 228,sc p _ 170]++R) Tryz.mixed (by kernel_rfl) ae ?_;unfold eu iZ;refine gh 5 ?_;refine hr rfl (ak rfl isAgg228 sizeOf228 aL (by rfl)) rfl ?_;refine ha rfl (aE rfl underlying168 sizeOf228 zeroValue228 rfl rfl rfl rfl ⟨⟨_,_,rfl,(by rfl),(by decide)⟩,trivial⟩ (by dsimp[bt,aX,aY,bS]<;>rfl)) rfl ?_;rintro v L' ⟨b19,rfl,rfl⟩;refine⟨ae,?_⟩;refine ha rfl (aO (s:=s) (xs:=kS S.l) (m:=S.l.length) (k:=1) (us:=dY.cells {x with seq:=S.last+1}) (size:=5) rfl rfl (by repeat first|exact .z|apply Pk.s) underlying168 underlying168 (by intro q hq;cases hq) typeInfo228 rfl rfl rfl ?aa3 ?RM ?QY ?NK) rfl ?_
 case aa3=>exact hb
 case RM=>exact cz aL rfl rfl
 case QY=>exact pG _
 case NK=>show(_+_)*49≤_;omega
 rintro v L' ⟨s20,rfl,aja,rfl⟩;refine⟨ae,?_⟩;rw[←LK]at aja ⊢;refine gh 3 ?_;refine bA (an rfl rfl (by exact bN _ _) sizeOf168 bc rfl rfl) ?_;refine gy 10 ?_;refine bm results159 rfl rfl (L1:=[sc p _ 170,aD s20 _ _]++R) ae ?_;unfold Xi eu iZ qS;rw[Hq];dsimp only;rw[List.length_append];exact⟨_,⟨s20,rfl,aja,rfl⟩,rfl⟩
def SQ(p:Nat)(S:dC)(q:Int)(v:Value)(L':List ax):Prop:=
 ∃s',v= .bool (S.wb q).1∧qS s' (S.wb q).2∧L'=[eu p s' (S.wb q).2,iZ s' (S.wb q).2]
theorem aao [Env]{R:List ax}{p:Nat}{s:Sv}{S:dC}{q:Int}(h:S.fit)(hs:qS s S):
   bC Tryz.prog 115 [ptr p,i64 q] [eu p s S,iZ s S] R (SQ p S q):=by
 have h1:=h.dV;have h2:=h.last;have h3:=h.n;have h4:S.last=S.dV+S.l.length:=rfl;have hb:bW s S.l.length 5 (kS S.l):=hs;refine ag func115 ntmps115 rfl rfl ?_;unfold iZ;refine gc 13 ?_;refine cv 11 rfl (fun YU=>?_) (fun YU=>?_)
 ·refine gy 9 ?_;have Hq:S.wb q=(false,S):=by unfold dC.wb;rw[if_pos (by omega)]
  refine gy 5 ?_;refine aj results115 rfl (L1:=[eu p s S,aD s _ _]++R) ae ?_;unfold SQ;rw[Hq];exact⟨_,⟨s,rfl,hs,rfl⟩,rfl⟩
 refine gy 2 ?_;refine bV ?_;refine bK (nu ?aln ?alC) call51 ?_
 case aln=>exact h
 case alC=>exact hs
 refine gy 4 ?_;refine cc rfl (fun TI=>?_) (fun TI=>?_)
 ·refine gc 1 ?_;have Hq:S.wb q=(false,S):=by unfold dC.wb;rw[if_pos (by omega)]
  refine gy 5 ?_;refine aj results115 rfl (L1:=[eu p s S,aD s _ _]++R) ae ?_;unfold SQ;rw[Hq];exact⟨_,⟨s,rfl,hs,rfl⟩,rfl⟩
 have Hq:S.wb q=(true,⟨S.l.drop (q-S.dV).toNat,q⟩):=by unfold dC.wb;rw[if_neg (by omega)]
 obtain⟨j,hj⟩: ∃j:Nat,q-S.dV=j:=⟨(q-S.dV).toNat,by omega⟩;rw[show(q-S.dV).toNat=j by omega]at Hq;refine gc 3 ?_;refine aS 15 (od [12] 15 0) (_) Tryz.mixed (by kernel_rfl) .refl ?_;unfold eu;have jt:cE [aD s 228 (kS S.l)] (aG s S.l.length) S.l.length (kS S.l):=bG .z hb;have SF:=jt.sl (vX hb) (s:=5) (lo:=j) (hi:=S.l.length) (by omega) (Nat.le_refl _) (sU _);have Ls:(S.l.drop j).length=S.l.length-j:=by simp
 rw[LJ,←Ls,←sU,List.take_length]at SF;refine gh 11 ?_;rw[wr (by omega) (by omega),hj];refine hr rfl (mi jt rfl rfl underlying168 sizeOf228 (by omega) (by omega)) rfl ?_;refine bg rfl (PS (xs:=S.l.drop j) ?aew ?aex) rfl call177 aZ rfl ?_
 case aew=>exact SF.mono ae
 case aex=>omega
 rintro v L' ⟨s29,rfl,ard,rfl⟩;refine⟨ae,?_⟩;refine gh 3 ?_;refine bA (an rfl rfl (by exact bN _ _) sizeOf168 bc rfl rfl) ?_;refine gy 7 ?_;refine bA (an rfl rfl (by rfl) sizeOf2 bc rfl rfl) ?_;refine gy 7 ?_;refine aj results115 rfl (L1:=[sc p _ 170,aD s29 _ _]++R) ae ?_;unfold SQ eu iZ qS;rw[Hq];exact⟨_,⟨s29,rfl,ard,rfl⟩,rfl⟩
theorem ahX [Env]{R:List ax}{le ls e s:Int}(h1: -1≤ls)(hs:0≤s∧s≤4611686018427387904):bC Tryz.prog 173 [.agg #[i64 le,i64 ls],i64 e,i64 s] [] R (Is (i64 (pN le ls e s)) []):=by
 refine ag func173 ntmps173 rfl rfl ?_;refine gc 1 ?_;refine ya (a7 (vs:=[i64 le,i64 ls]) rfl rfl) rfl ?_;rintro v L' ⟨b3,rfl,rfl⟩;refine gy 11 ?_;refine cc rfl (fun Ed=>?_) (fun Ed=>?_)
 ·refine gc 2 ?_;refine bA (an rfl rfl (by rfl) sizeOf2 bc rfl rfl) ?_;refine gy 7 ?_;refine cc rfl (fun B0=>?_) (fun B0=>?_)
  ·refine gc 6 ?_;refine aj results173 rfl (L1:=R) ae ?_;exact⟨_,⟨by(unfold pN;(repeat' split)<;>first|rfl|omega),rfl⟩,by rfl⟩
  refine gc 12 ?_;refine cc rfl (fun Om=>?_) (fun Om=>?_)
  ·refine gc 7 ?_;exfalso;omega
  refine gc 8 ?_;refine cc rfl (fun K0=>?_) (fun K0=>?_)
  ·refine gc 7 ?_;exfalso;omega
  refine gc 3 ?_;rw[wr (by omega) (by omega)];refine gy 6 ?_;refine cc rfl (fun uD=>?_) (fun uD=>?_)
  ·refine gc 7 ?_;refine aj results173 rfl (L1:=R) ae ?_;exact⟨_,⟨by(unfold pN;(repeat' split)<;>first|rfl|omega),rfl⟩,by rfl⟩
  refine gc 8 ?_;refine aj results173 rfl (L1:=R) ae ?_;exact⟨_,⟨by(unfold pN;(repeat' split)<;>first|rfl|omega),rfl⟩,by rfl⟩
 refine gc 12 ?_;refine cc rfl (fun He=>?_) (fun He=>?_)
 ·refine gc 7 ?_;refine aj results173 rfl (L1:=R) ae ?_;exact⟨_,⟨by(unfold pN;(repeat' split)<;>first|rfl|omega),rfl⟩,by rfl⟩
 refine gc 8 ?_;refine cc rfl (fun La=>?_) (fun La=>?_)
 ·refine gc 7 ?_;refine aj results173 rfl (L1:=R) ae ?_;exact⟨_,⟨by(unfold pN;(repeat' split)<;>first|rfl|omega),rfl⟩,by rfl⟩
 refine gc 3 ?_;rw[wr (by omega) (by omega)];refine gy 6 ?_;refine cc rfl (fun Hg=>?_) (fun Hg=>?_)
 ·refine gc 7 ?_;refine aj results173 rfl (L1:=R) ae ?_;exact⟨_,⟨by(unfold pN;(repeat' split)<;>first|rfl|omega),rfl⟩,by rfl⟩
 refine gc 8 ?_;refine aj results173 rfl (L1:=R) ae ?_;exact⟨_,⟨by(unfold pN;(repeat' split)<;>first|rfl|omega),rfl⟩,by rfl⟩
end W
end Go.Proofs