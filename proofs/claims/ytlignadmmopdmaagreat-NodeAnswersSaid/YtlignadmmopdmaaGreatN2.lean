/- A part of the proof. -/
import Derived.Test.YtlignadmmopdmaaGreatNodC
import Derived.Test.YtlignadmmopdmaaGreatGM
import Derived.Test.YtlignadmmopdmaaGreatUn
import Derived.Test.YtlignadmmopdmaaGreatGK
set_option linter.unusedVariables false
set_option linter.unusedSimpArgs false
set_option linter.constructorNameAsVariable false
namespace Go.Sl
namespace NodM
variable {n : NodM} {K : Nat}
theorem destage1_ok{a:Int × NodM}(h:a.2.ok K)(b:Nat):(destage1 a b).2.ok (K+1):=by
 have g:=h.le (show K≤K+1 by omega);unfold destage1;split
 ·exact g
 ·split
  ·dsimp only;split
   · exact h.store _ _ _
   · exact g
  ·split
   · exact h.store _ _ _
   · exact g
theorem destage_fold: ∀(l:List Nat) {K:Nat} {a:Int × NodM},a.2.ok K→(l.foldl destage1 a).2.ok (K+l.length)
 | [],_,_,h=>h
 |b::l,K,a,h=>by
  have:=destage_fold l (destage1_ok h b);rw[List.length_cons,show K+(l.length+1)=K+1+l.length by omega];exact this
theorem ok.destage(h:n.ok K):n.destage.ok (K+32):=by
 have hb:=h.a.blocks;have:=destage_fold (List.range n.blocks.toNat) (a:=(0,n)) h;exact this.le (by rw[List.length_range];omega)
theorem ok.tockL(h:n.ok K)(w:WaitM):(n.tockL w).ok (K+1):=by
 unfold NodM.tockL;split
 · exact h.load _ _
 · exact h.le (by omega)
theorem ok.tock1(h:n.ok K):n.tock1.ok (K+9):=by
 have hq:=h.n.quiet;unfold NodM.tock1;split
 ·have g0:=h.le (show K≤K+1 by omega);exact(show NodM.ok {n with quiet:=n.quiet+1} (K+1)from⟨g0.a,g0.p,⟨g0.n.left,g0.n.epoch,g0.n.mask,g0.n.clock,g0.n.born,g0.n.change,g0.n.loads,g0.n.role,g0.n.want,g0.n.resync,by dsimp only;omega⟩,g0.t,g0.o,g0.w,g0.s,g0.out⟩).puts
 ·exact h.quiet0.le (by omega)
theorem ok.tock2(h:n.ok K):n.tock2.ok (K+50):=by
 unfold NodM.tock2;split
 · exact h.tired
 split
 · exact(h.changes h.n.want).le (by omega)
 · exact h.le (by omega)
theorem ok.tock3(h:n.ok K):n.tock3.ok (K+1):=by
 unfold NodM.tock3;split
 · exact(show n.askedQ.ok K from⟨h.a,h.p,⟨h.n.left,h.n.epoch,h.n.mask,h.n.clock,h.n.born,h.n.change,h.n.loads,h.n.role,h.n.want,(by decide:(0:Int)≤1∧(1:Int)≤2),h.n.quiet⟩,h.t,h.o,h.w,h.s,h.out⟩).send _ _
 · exact h.le (by omega)
theorem ok.tock5(h:n.ok K):n.tock5.ok (K+16):=by
 have hw:=h.w.n;exact(ok_foldl NodM.tockL (fun n K w h=>h.tockL w) n.waits h).le (by omega)
theorem ok.tock4(h:n.ok K):n.tock4.ok (K+49):=by
 unfold NodM.tock4;split
 · exact h.le (by omega)
 · exact h.tock3.destage.tock5
theorem ok.tock(h:n.ok K):n.tock.ok (K+130):=h.tock1.tock2.tock4.le (by omega)
theorem ok.clear(h:n.ok K):n.clear.ok K:=⟨h.a,h.p,h.n,h.t,h.o,h.w,h.s,Nat.zero_le _⟩
theorem ok.tick0(h:n.ok K):n.tick0.ok (K+1):=by
 have gk:=h.le (show K≤K+1 by omega);have h1:=h.n.left;have h2:=h.n.clock;exact⟨gk.a,gk.p,⟨by show 0≤max (n.left- 1) 0∧max (n.left- 1) 0≤1048576;omega,gk.n.epoch,gk.n.mask,by show 0≤n.clock+1∧n.clock+1≤((K+1:Nat):Int);omega,gk.n.born,gk.n.change,gk.n.loads,gk.n.role,gk.n.want,gk.n.resync,gk.n.quiet⟩,gk.t,gk.o,gk.w,gk.s,gk.out⟩
theorem ok.tick2(h:n.ok K):n.tick2.ok (K+130):=by
 unfold NodM.tick2;split
 · exact(h.load _ _).le (by omega)
 split
 · exact h.tock
 · exact h.le (by omega)
theorem ok.tick1(h:n.ok K):n.tick1.ok (K+131):=by
 unfold NodM.tick1;split
 · exact(h.send _ _).le (by omega)
 · exact(h.send 2 n.askM).tick2.le (by omega)
theorem ok.tick(h:n.ok K):n.tick.ok (K+140):=by
 unfold NodM.tick;split
 · exact h.clear.le (by omega)
 · exact h.clear.tick0.tick1.le (by omega)
theorem ok.loaded(h:n.ok K)(m:MsgM):(n.loaded m).ok (K+16):=
 h.delW (p:=loadedP m) (f:=fun n w=>n.given w m.data) (P:=fun _=>True) (fun n K w _ h=>h.given w m.data) (fun _ _=>trivial)
theorem ok.stored1(h:n.ok K)(m:MsgM):(n.stored1 m).ok K:=by
 unfold NodM.stored1;split
 ·split
  · exact h.modW _ fun w hw=>⟨hw.cl,hw.n,hw.op,hw.blk,hw.seq,hw.load⟩
  · exact h
 ·exact h
theorem ok.cleanM(h:n.ok K)(m:MsgM):(n.cleanM m).ok (K+1):=by
 unfold NodM.cleanM;split
 · exact h.send _ _
 · exact h.le (by omega)
theorem ok.stored2(h:n.ok K)(m:MsgM):(n.stored2 m).ok (K+17):=by
 unfold NodM.stored2;split
 · exact h.le (by omega)
 split
 · exact h.le (by omega)
 · exact ok_then (c:=17) (h.cOk (clean_done h.p.c _ _ _)) fun g=>(g.cleanM m).reads
theorem ok.stored(h:n.ok K)(m:MsgM):(n.stored m).ok (K+70):=((h.stored1 m).settle.stored2 m).le (by omega)
theorem ok.backed(h:n.ok K)(m:MsgM):(n.backed m).ok (K+70):=by
 unfold NodM.backed;split
 ·exact h.le (by omega)
 ·split
  ·exact h.demote.le (by omega)
  ·split
   ·exact h.le (by omega)
   ·split
    ·exact(h.recover _).le (by omega)
    ·split
     ·exact(h.loaded m).le (by omega)
     ·split
      · exact(h.stored m)
      · exact h.le (by omega)
theorem ok.addW(h:n.ok K){w:WaitM}(hw:w.ok K)(hn:n.waits.length<16):({n with waits:=n.waits++[w]}:NodM).ok K:=
 ⟨h.a,h.p,h.n,h.t,h.o,⟨by simp;omega,fun y hy=>by
  rcases List.mem_append.1 hy with hy|hy
  · exact h.w.all y hy
  · simp at hy;subst hy;exact hw⟩,h.s,h.out⟩
theorem ok.twice2(h:n.ok K)(w:WaitM)(x:EntM):(n.twice2 w x).ok (K+1):=by
 unfold NodM.twice2;split
 · exact h.store _ _ _
 · exact h.le (by omega)
theorem ok.twice(h:n.ok K){w:WaitM}(hw:w.ok K):(n.twice w).ok (K+1):=by
 unfold NodM.twice;split
 ·exact h.answer _ _ _
 ·rename_i x hx
  have hxo:=all_ok h x (List.mem_of_find?_eq_some hx);have hb:=hxo.blk;have h32:=h.p.c.bl;split
  ·exact h.answer _ _ _
  ·rename_i hc
   simp only[not_or]at hc;exact(h.addW (w:={w with op:=2,blk:=x.blk,seq:=x.vs}) ⟨hw.cl,hw.n,(by decide:(0:Int)≤2∧(2:Int)≤4),⟨by dsimp only;omega,by dsimp only;omega⟩,⟨by have:=hxo.vs;dsimp only;omega,hxo.vs.2⟩,hw.load⟩ (by omega)).twice2 _ _
theorem _root_.Go.Sl.NokS.ack{s:SndM}(h:NokS K s)(q:Int):NokS K (s.ack q).2:=by
 unfold SndM.ack;split
 ·exact h
 ·rename_i hc
  simp only[not_or]at hc;have hl:=h.last;have ha:=h.acked;have hn:=h.n;have e:s.last=s.acked+s.l.length:=rfl;unfold N62 at ha;refine⟨⟨by dsimp only;omega,by dsimp only;omega⟩,?_,by simp;omega,fun x hx=>h.all x (List.mem_of_mem_drop hx)⟩;unfold SndM.last;simp only[List.length_drop];omega
theorem ok.write1(h:n.ok K)(w:WaitM):(n.write1 w).2.ok K∧(n.write1 w).2.waits=n.waits:=by
 unfold NodM.write1;split
 · exact⟨h.mark _,rfl⟩
 · exact⟨h,rfl⟩
theorem ok.write3(h:n.ok K){w:WaitM}(hw:w.ok K)(hn:n.waits.length<16){x:EntM}(hx:(itOf x).ok):(n.write3 w x).ok (K+3):=by
 have hq:=h.s.add_seq (itOf x)
 have g:(n.writeS {w with seq:=(n.s.add (itOf x)).1.1} (itOf x)).ok (K+1):=
  ((h.le (show K≤K+1 by omega)).setS (h.s.add hx)).addW (w:={w with seq:=(n.s.add (itOf x)).1.1}) ⟨hw.cl,hw.n,hw.op,hw.blk,hq,by have:=hw.load;dsimp only;omega⟩ hn
 unfold NodM.write3
 have g2:((n.writeS {w with seq:=(n.s.add (itOf x)).1.1} (itOf x)).writeP {itOf x with seq:=(n.s.add (itOf x)).1.1}).ok (K+2):=by
  unfold NodM.writeP;split
  · exact g.put _
  · exact(g.setS (NokS.ack g.s _)).le (by omega)
 exact g2.twice2 _ _
theorem ok.write2(h:n.ok K){w:WaitM}(hw:w.ok K)(hn:n.waits.length<16){x:EntM}(hx:(itOf x).ok):(n.write2 w x).ok (K+3):=by
 unfold NodM.write2;split
 · exact((h.cDid (put_done' h.p.c x)).answer _ _ _).le (by omega)
 · exact ok_then (c:=3) (h.cOk (put_done' h.p.c x)) fun g=>ok_then (c:=3) g.sync fun g=>g.write3 hw hn hx
theorem ok.write(h:n.ok K){w:WaitM}(hw:w.ok K)(hn:n.waits.length<16){data:Bytes}(hd:data.length=8):(n.write w data).ok (K+5):=by
 unfold NodM.write;split
 ·exact(h.answer _ _ _).le (by omega)
 ·obtain⟨g,g2⟩:=h.write1 w;exact(ok_then (c:=3) g fun g=>NodM.ok.write2 (x:=(n.write1 w).2.writeX w data) g hw (by rw[g2];exact hn) ⟨n620,hw.blk,by show data.length≤8;omega,⟨by have:=hw.cl;show-1≤w.cl;omega,hw.cl.2⟩,⟨by have:=hw.n;show 0≤w.n;omega,hw.n.2⟩⟩).le (by omega)
theorem ok.called2(h:n.ok K){w:WaitM}(hw:w.ok K)(hn:n.waits.length<16){data:Bytes}(hd:w.op=2→data.length=8)(ho:1≤w.op):(n.called2 w data).ok (K+20):=by
 have hle:=h.s.last;have ho4:=hw.op;unfold NodM.called2;split
 ·exact(h.addW hw hn).reads.le (by omega)
 split
 ·have ha:=h.s.acked;have e:n.s.last=n.s.acked+n.s.l.length:=rfl;exact(NodM.ok.reads (h.addW (w:={w with seq:=n.s.last}) ⟨hw.cl,hw.n,hw.op,hw.blk,⟨by unfold N62 at ha;dsimp only;omega,hle⟩,hw.load⟩ hn)).le (by omega)
 split
 ·exact(h.write (w:={w with op:=2}) ⟨hw.cl,hw.n,(by decide:(0:Int)≤2∧(2:Int)≤4),hw.blk,hw.seq,hw.load⟩ hn rfl).le (by omega)
 ·exact(h.write hw hn (hd (by omega))).le (by omega)
theorem ok.called1(h:n.ok K){w:WaitM}(hw:w.ok K){e:Int}{data:Bytes}(hd:e=0→1≤w.op∧(w.op=2→data.length=8)):(n.called1 w e data).ok (K+20):=by
 unfold NodM.called1;split
 ·exact(h.answer _ _ _).le (by omega)
 split
 ·exact(h.answer _ _ _).le (by omega)
 ·rename_i h1 h2
  have he:e=0:=by simpa using h2
  exact h.called2 hw (by omega) (hd he).2 (hd he).1
theorem refused_zero{m:MsgM}(hr:n.refused m=0):1≤m.seq∧m.seq≤4∧(m.seq=2→(m.data.length:Int)=8):=by
 unfold NodM.refused at hr;split at hr
 · cases hr
 split at hr
 · cases hr
 split at hr
 · cases hr
 split at hr
 · cases hr
 split at hr
 · cases hr
 · omega
theorem calledE_zero{w:WaitM}{m:MsgM}(h:n.calledE w m=some 0):n.refused m=0:=by
 unfold NodM.calledE at h;dsimp only at h
 by_cases c:n.refused m=0
 ·exact c
 ·rw[if_neg (fun hx=>c hx.1)]at h;simpa using h
theorem ok.called(h:n.ok K){frm:Int}(hf:4≤frm∧frm≤7){m:MsgM}(hm:m.ok):(n.called frm m).ok (K+20):=by
 unfold NodM.called;split
 ·exact h.le (by omega)
 rename_i hc
 simp only[not_or]at hc;have hw:(callW frm m).ok K:=⟨⟨by show 0≤frm- 4;omega,by show frm- 4≤3;omega⟩,⟨by show 1≤m.n;omega,hm.n.2⟩,⟨by have:=hm.seq;show 0≤min m.seq 4;omega,by show min m.seq 4≤4;omega⟩,hm.block,n620,zk K⟩;split
 ·exact h.le (by omega)
 rename_i e he
 split
 ·exact(h.twice hw).le (by omega)
 ·refine h.called1 hw fun e0=>?_
  subst e0;obtain⟨r1,r2,r3⟩:=refused_zero (calledE_zero he);exact⟨by show 1≤min m.seq 4;omega,fun ho=>by have:min m.seq 4=2:=ho;have:=r3 (by omega);omega⟩
theorem ok.stores1(h:n.ok K)(w:WaitM):(n.stores1 w).ok (K+1):=by
 unfold NodM.stores1;split
 ·exact h.le (by omega)
 ·split
  · exact h.store _ _ _
  · exact h.le (by omega)
theorem ok.stores(h:n.ok K):n.stores.ok (K+16):=by
 have hw:=h.w.n;exact(ok_foldl NodM.stores1 (fun n K w h=>h.stores1 w) n.waits h).le (by omega)
theorem ok.clearD(h:n.ok K):(n.dOk (n.dr.clear n.d)).2.ok K:=by
 refine h.dOk ?_;unfold DrlM.clear;split
 · exact⟨h.p.dr,rfl,rfl⟩
 · exact dset_done h.p.dr (Nat.two_pow_pos _)
theorem ok.alones1(h:n.ok K):n.alones1.ok K:=by unfold NodM.alones1;split;exact h.leads;exact h
theorem ok.alones(h:n.ok K):n.alones.ok (K+66):=ok_then (c:=66) h.marks fun g=>(show NodM.ok (n.marks.2.aloneS) K from g.setS (.new _ _)).alones1.stores.settle
theorem ok.changedM(h:n.ok K){mk:Int}(hm:N62 mk):(n.changedM mk).ok K:=⟨h.a,h.p,⟨h.n.left,h.n.epoch,hm,h.n.clock,h.n.born,h.n.change,h.n.loads,h.n.role,z03,z02,zk K⟩,h.t,h.o,h.w,h.s,h.out⟩
theorem ok.changed(h:n.ok K){mk:Int}(hm:N62 mk):(n.changed mk).ok (K+66):=by
 have g:=h.changedM hm;unfold NodM.changed NodM.changed1;split
 · exact(ok_then (c:=50) g.clearD fun g=>g.settle).le (by omega)
 split
 · exact g.alones
 · exact g.demote.le (by omega)
theorem ok.leaseT(h:n.ok K){z:Int}(hz:z≤n.clock):(n.leaseT z).ok K:=by
 have h1:=h.n.left;have h2:=h.a.lease;exact⟨h.a,h.p,⟨⟨by show 0≤max (max n.left (n.lease-(n.clock-z))) 0;omega,by show max (max n.left (n.lease-(n.clock-z))) 0≤1048576;omega⟩,h.n.epoch,h.n.mask,h.n.clock,h.n.born,h.n.change,h.n.loads,h.n.role,h.n.want,h.n.resync,h.n.quiet⟩,h.t,h.o,h.w,h.s,h.out⟩
theorem ok.fence(h:n.ok K){mk:Int}(hm:N62 mk):(n.fence mk).ok (K+1):=
 (show NodM.ok {n with role:=1,mask:=mk,change:=0} K from⟨h.a,h.p,⟨h.n.left,h.n.epoch,hm,h.n.clock,h.n.born,zk K,h.n.loads,(by decide:(0:Int)≤1∧(1:Int)≤3),h.n.want,h.n.resync,h.n.quiet⟩,h.t,h.o,h.w,h.s,h.out⟩).load (-1) 0
theorem adopt_clock(n:NodM)(e:Int):(n.adopt e).2.clock=n.clock:=by
 unfold NodM.adopt andB;split
 · rfl
 · split<;>rfl
theorem ok.granted(h:n.ok K){m:MsgM}(hm:m.ok):(n.granted m).ok (K+2):=by
 unfold NodM.granted;split
 ·split
  · exact h.demote.le (by omega)
  · exact h.le (by omega)
 unfold NodM.granted1;split
 ·exact h.le (by omega)
 rename_i h1 h2
 split
 ·exact(ok_then (c:=1) (h.adopt hm.epoch) fun g=>(g.fence hm.seq).leaseT (by show _≤(n.adopt m.epoch).2.clock;rw[adopt_clock];omega)).le (by omega)
 split
 ·exact h.le (by omega)
 ·exact(h.leaseT (by omega)).le (by omega)
theorem ok.found(h:n.ok K){e:Int}(he:N62 e):(n.found e).ok K:=by
 have g1:(eachB found1 (List.range n.blocks.toNat) n).2.ok K:=(ok_each found1 0 (fun _=>True) (fun n K x _ h=>(h.mark _)) _ (fun _ _=>trivial) h).le (by omega);refine ok_then (c:=0) g1 fun g=>?_
 have g2:=(g.boot he).err (NodM.boot (eachB found1 (List.range n.blocks.toNat) n).2 e).1;unfold NodM.found2;split
 · exact⟨g2.a,g2.p,g2.n,g2.t,g2.o,g2.w,g2.s,g2.out⟩
 · exact g2
theorem ok.heard(h:n.ok K){m:MsgM}(hm:m.ok):(n.heard m).ok (K+66):=by
 unfold NodM.heard;split
 ·split
  · exact(h.found hm.epoch).le (by omega)
  · exact h.le (by omega)
 split
 ·exact(h.granted hm).le (by omega)
 split
 ·exact h.le (by omega)
 split
 ·exact h.demote.le (by omega)
 split
 ·exact h.changed hm.seq
 ·exact h.le (by omega)
theorem ok.lay(h:n.ok K)(m:MsgM):(n.lay m).2.ok K:=by
 refine ok_andB (c:=0) (show(n.lay1 m).2.ok K by unfold NodM.lay1;split;exact h.cOk (reset_done h.p.c _ _ _);exact h) fun g1=>?_
 split
 ·exact g1.cOk (note_done g1.p.c _ _ _)
 ·refine ok_andB (c:=0) (show(NodM.lay2 (n.lay1 m).2 m).2.ok K by unfold NodM.lay2;split;exact g1.cOk (note_done g1.p.c _ _ _);exact g1) fun g2=>?_
  unfold NodM.lay3;split
  · exact g2.cDid (put_done' g2.p.c _)
  · exact g2.cOk (put_done' g2.p.c _)
theorem ok.hadM(h:n.ok K)(m:MsgM):(n.hadM m).ok (K+1):=h.send _ _
theorem ok.taken(h:n.ok K)(m:MsgM):(n.taken m).ok (K+1):=by
 unfold NodM.taken;split
 · exact h.le (by omega)
 split
 · exact ok_then (c:=1) (ok_andB (c:=0) (h.lay m) fun g=>g.sync) fun g=>g.hadM m
 · exact h.hadM m
theorem ok.cleared(h:n.ok K)(m:MsgM):(n.cleared m).2.ok K:=by
 unfold NodM.cleared;split
 · exact h
 have g1:(eachB (cleared1 ((loadP m.row).1,(loadP m.row).2.1)) n.c.all n).2.ok K:=(ok_each (cleared1 ((loadP m.row).1,(loadP m.row).2.1)) 0 (fun _=>True) (fun n K x _ h=>by unfold cleared1;split;exact h.cOk (drop_done h.p.c _);exact h) _ (fun _ _=>trivial) h).le (by omega);exact ok_andB (c:=0) g1 fun g=>ok_andB (c:=0) (g.cOk (reset_done g.p.c _ _ _)) fun g=>g.sync
theorem ok.readyM(h:n.ok K)(m:MsgM):(n.readyM m).ok (K+1):=h.send _ _
theorem ok.begun(h:n.ok K)(m:MsgM):(n.begun m).ok (K+1):=by
 unfold NodM.begun;split
 · exact h.le (by omega)
 split
 · exact h.readyM m
 · exact ok_then (c:=1) (h.cleared m) fun g=>g.readyM m
theorem ok.metA(h:n.ok K)(q:Int):(n.metA q).ok K:=⟨h.a,h.p,⟨h.n.left,h.n.epoch,h.n.mask,h.n.clock,h.n.born,h.n.change,h.n.loads,h.n.role,h.n.want,h.n.resync,zk K⟩,h.t,h.o,h.w,NokS.ack h.s q,h.out⟩
theorem ok.met(h:n.ok K){m:MsgM}(hm:m.ok):(n.met m).ok (K+70):=by
 unfold NodM.met;split
 ·split
  ·exact h.le (by omega)
  ·refine(ok_then (c:=1) (h.adopt hm.epoch) fun g=>?_).le (show K+1≤K+70 by omega);unfold NodM.met1;split
   · exact g.le (by omega)
   split
   · exact g.taken m
   · exact g.begun m
 split
 ·unfold NodM.metH;split
  ·exact(h.metA m.seq).stores.settle.le (by omega)
  ·exact h.le (by omega)
 split
 ·unfold NodM.metR;split
  ·exact h.ready.le (by omega)
  ·exact h.le (by omega)
 split
 ·unfold NodM.metC;split
  ·split
   · exact(h.cDid (clean_done h.p.c _ _ _)).le (by omega)
   · exact(h.cOk (clean_done h.p.c _ _ _)).le (by omega)
  ·exact h.le (by omega)
 ·exact h.le (by omega)
theorem decMsg_ok{s:Bytes}(h:(decMsg s).2=0):(decMsg s).1.ok:=by
 unfold decMsg at h ⊢;split
 ·rename_i hi
  unfold msgIs at hi;simp only[Bool.and_eq_true]at hi;exact MsgM.ok_of hi.2
 ·rename_i hi
  rw[if_neg hi]at h;cases h
theorem ok.hush(h:n.ok K):n.hush.ok K:=by unfold NodM.hush;split;exact h.clear;exact h
theorem ok.hear(h:n.ok K){m:MsgM}(hm:m.ok){frm:Int}(h1:0≤frm∧frm<8∧ ¬frm=n.id):(n.hear frm m).ok (K+70):=by
 unfold NodM.hear;split
 ·exact(h.heard hm).le (by omega)
 split
 ·exact h.backed m
 split
 ·exact h.met hm
 ·rename_i c1 c2 c3
  have hid:=h.a.id;have c3: ¬frm=1-n.id:=c3;exact(h.called ⟨by omega,by omega⟩ hm).le (by omega)
theorem ok.take1(h:n.ok K)(l:LetM):(n.take1 l).2.ok (K+70):=by
 unfold NodM.take1;split
 · exact h.le (by omega)
 split
 · exact h.le (by omega)
 rename_i h1 h2
 simp only[not_or]at h2;split
 · exact h.le (by omega)
 rename_i h3
 have hm:=decMsg_ok (s:=l.body) (by simpa using h3);split
 · exact h.le (by omega)
 · exact(h.hear hm ⟨by omega,by omega,h2.2.2.2⟩).hush
theorem ok.take(h:n.ok K)(l:LetM):(n.take l).2.ok (K+70):=h.clear.take1 l
end NodM
end Go.Sl
namespace Go.Sl
theorem may_row{m:MsgM}(h:m.may=true):m.row.length≤10:=by
 unfold MsgM.may at h;simp only[Bool.and_eq_true,decide_eq_true_eq]at h;omega
theorem may_e{m:MsgM}(h:m.may=true):0≤m.e∧m.e≤31:=by
 unfold MsgM.may within3 at h;simp only[Bool.and_eq_true,decide_eq_true_eq]at h;omega
theorem msgR_may{m:MsgM}(h:m.may=true):(msgR m).may:=by
 have h1:=MsgM.ok_of h;have h2:=may_row h;have h3:=may_e h;obtain⟨k,ep,sq,n,bl,cl,t0,t1,t2,t3,dl⟩:=h1;refine⟨by show 0≤m.kind;omega,by show m.kind≤255;omega,by show 10≤16;decide,by show 2≤4;decide,?_,?_⟩
 ·intro t ht;simp only[msgR,List.mem_cons,List.not_mem_nil,or_false]at ht;rcases ht with rfl|rfl<;>omega
 ·intro z hz;simp only[msgR,List.mem_cons,List.not_mem_nil,or_false]at hz;rcases hz with rfl|rfl|rfl|rfl|rfl|rfl|rfl|rfl|rfl|rfl<;>omega
theorem encMsg_may{m:MsgM}(h:m.may=true):encM (msgR m)=(encMsg m,0):=by
 rw[enc_may (msgR_may h)];unfold encMsg;rw[if_pos h]
theorem encMsg_no{m:MsgM}(h:m.may=false):encMsg m=[]:=by
 unfold encMsg;rw[if_neg (by rw[h];simp)]
/-- What of a letter can't be a message ahead of its numbers. -/
def BadM(s:Bytes):Prop:=(decM s).2≠0∨((decM s).1.nums.length:Int)≠10∨((decM s).1.texts.length:Int)≠2
theorem decMsg_bad{s:Bytes}(h:BadM s):decMsg s=(.zero,4):=by
 unfold decMsg;rw[if_neg];intro hi;unfold msgIs at hi;simp only[Bool.and_eq_true,decide_eq_true_eq]at hi;unfold BadM at h;omega
theorem len10{α:Type}{l:List α}(h:l.length=10): ∃a b c d e f g i j k,l=[a,b,c,d,e,f,g,i,j,k]:=by
 match l,h with
 | [a,b,c,d,e,f,g,i,j,k],_=>exact⟨a,b,c,d,e,f,g,i,j,k,rfl⟩
theorem len2{α:Type}{l:List α}(h:l.length=2): ∃a b,l=[a,b]:=by
 match l,h with
 | [a,b],_=>exact⟨a,b,rfl⟩
theorem decMsg_is{s:Bytes}{k a b c d e f g i j l:Int}{x y:Bytes}(h:decM s=(⟨k,[a,b,c,d,e,f,g,i,j,l],[x,y]⟩,0)):
  decMsg s=if(⟨k,a,b,c,d,e,f,g,i,j,l,x,y⟩:MsgM).may=true then(⟨k,a,b,c,d,e,f,g,i,j,l,x,y⟩,0)else(.zero,4):=by
 unfold decMsg msgIs;rw[h];simp[msgOf]
theorem decMsg_ok{s:Bytes}(h:(decMsg s).2=0):(decMsg s).1.may=true:=by
 unfold decMsg at h ⊢
 by_cases c:msgIs s=true
 ·rw[if_pos c];unfold msgIs at c;simp only[Bool.and_eq_true]at c;exact c.2
 ·rw[if_neg c]at h;cases h
end Go.Sl
namespace Go.Proofs
open _root_.Go.Proofs.Tryz
open Go Go.Sl
namespace W
theorem nEncode [Env]{R:List Seg}{m:MsgM}:Con Tryz.prog 123 [.agg m.cells.toArray] [] R (Is (.tuple #[str (encMsg m),i64 (if m.may=true then 0 else 4)]) []):=by
 refine con_enter func123 ntmps123 rfl rfl ?_;refine gc 1 ?_;refine ya (ac_box (vs:=m.cells) rfl rfl) rfl ?_;rintro v L' ⟨b1,rfl,rfl⟩;refine gy 6 ?_;refine y (ev_loadAll rfl isAgg34 sizeOf34 zin (by rfl)) rfl ?_;refine yci (mMay) call72 ?_;refine gy 3 ?_;refine cc rfl (fun h7=>?_) (fun h7=>?_)
 ·refine gc 1 ?_;have hno:m.may=false:=by assumption
  refine gy 6 ?_;refine kretv2 results123 rfl rfl (L1:=R) zge ?_;exact⟨_,⟨by(rw[encMsg_no hno,hno];rfl),rfl⟩,by rfl⟩
 refine gc 3 ?_;refine cdraw 15 [(0,true),(1,true),(2,true),(3,true),(4,true),(5,true),(6,true),(7,true),(8,true),(9,true),(10,true),(11,true),(13,true),(14,true),(12,false)] (_) Tryz.mixed (by kernel_rfl) .refl ?_;have hmay:m.may=true:=by assumption
 have henc:=encMsg_may hmay;refine gh 13 ?_;refine hr rfl (ev_slA rfl underlying32 sizeOf2) rfl ?_;refine ha rfl (ac_bsliceR rfl underlying57 sizeOf2 zeroValue2 rfl rfl rfl rfl ⟨⟨_,_,rfl,(by rfl),(by decide)⟩,⟨⟨_,_,rfl,(by rfl),(by decide)⟩,⟨⟨_,_,rfl,(by rfl),(by decide)⟩,⟨⟨_,_,rfl,(by rfl),(by decide)⟩,⟨⟨_,_,rfl,(by rfl),(by decide)⟩,⟨⟨_,_,rfl,(by rfl),(by decide)⟩,trivial⟩⟩⟩⟩⟩⟩ (by dsimp[fillL,splice,vcells,reps]<;>rfl)) rfl ?_;rintro v L' ⟨b22,rfl,rfl⟩;refine⟨zge,?_⟩;refine gh 1 ?_;refine ya (ac_append (s:=some (b22,6,[])) (xs:=[i64 m.epoch,i64 m.seq,i64 m.n,i64 m.block,i64 m.client,i64 m.e]) (m:=6) (k:=4) (us:=[i64 m.t0,i64 m.t1,i64 m.t2,i64 m.t3]) (size:=1) rfl rfl (by repeat first|exact .z|apply Pk.s) underlying57 underlying57 (by intro q hq;cases hq) typeInfo2 rfl rfl rfl ?ok25 ?src25 ?one25 ?big25) rfl ?_
 case ok25=>exact⟨Nat.le_refl _,by decide,rfl,rfl⟩
 case src25=>exact src_at zin rfl rfl
 case one25=>simp[Value.oneCell']
 case big25=>decide
 rintro v L' ⟨s25,rfl,ok25,rfl⟩;obtain⟨b25,c25,sp25,rfl,hc25⟩:=sv_some ok25 (by decide);refine gy 11 ?_;refine ya (ac_bsliceR rfl underlying86 sizeOf9 zeroValue9 rfl rfl rfl rfl ⟨⟨_,_,rfl,(by rfl),(by decide)⟩,⟨⟨_,_,rfl,(by rfl),(by decide)⟩,trivial⟩⟩ (by dsimp[fillL,splice,vcells,reps]<;>rfl)) rfl ?_;rintro v L' ⟨b34,rfl,rfl⟩;refine y (ev_be rfl) rfl ?_;refine ycall (cEncode (r:=msgR m) ?hn36 ?ht36 ?sx36) rfl call94 ztk rfl ?_
 case hn36=>exact rdV_sv (s:=some (b25,c25,sp25)) zin ok25
 case ht36=>exact rdV_in zin rfl rfl
 case sx36=>exact(msgR_may hmay).num
 rintro v L' ⟨s36,rfl,ok36,rfl⟩;rw[henc]at ok36 ⊢;dsimp only at ok36 ⊢;generalize encMsg m=rb at*;refine gy 9 ?_;refine y (ev_toStrB (rdY_sv (L:=[svSeg s36 5 (bytesV rb)]) .z ok36).rd.bytes zge rfl underlying55 underlying9 underlying5) rfl ?_;refine gy 6 ?_;refine kretv2 results123 rfl rfl (L1:=R) zge ?_;exact⟨_,⟨by rw[if_pos hmay],rfl⟩,by rfl⟩
set_option maxHeartbeats 4000000 in
theorem nDecode [Env]{R:List Seg}{s:Bytes}(hs:s.length≤1000):Con Tryz.prog 37 [str s] [] R (Is (.tuple #[.agg (decMsg s).1.cells.toArray,i64 (decMsg s).2]) []):=by
 refine con_enter func37 ntmps37 rfl rfl ?_;refine gc 1 ?_;refine ya (ac_alloc zeroValue34 rfl) rfl ?_;rintro v L' ⟨b2,rfl,rfl⟩;refine gy 5 ?_;refine ya (ac_toBytesY rfl underlying9 underlying55 underlying5) rfl ?_;rintro v L' ⟨b10,c10,sp10,fr10,rfl,hc10,rfl⟩;refine ycall (cDecode (bs:=s) ?hb51) rfl call47 ztk rfl ?_
 case hb51=>exact rdY_in zin hc10
 rintro v L' ⟨sn11,st11,rfl,ok11,rfl⟩;obtain⟨de,hde⟩: ∃z,decM s=z:=⟨_,rfl⟩;have hnl:=decM_len s;obtain⟨rc,er⟩:=de;rw[hde]at ok11 hnl ⊢;dsimp only at ok11 hnl ⊢;have okn:=ok11.n;have okt:=ok11.t;unfold recV;have hvn:RdV [svSeg sn11 2 (intsV rc.nums)] (svVal sn11 rc.nums.length) rc.nums.length (intsV rc.nums):=rdV_sv .z okn;have htn:RdV [svSeg st11 9 (strsV rc.texts)] (svVal st11 rc.texts.length) rc.texts.length (strsV rc.texts):=rdV_sv .z okt;have hcap:=svCap okn;refine gy 3 ?_;refine ya (ac_alloc zeroValue88 rfl) rfl ?_;rintro v L' ⟨b4,rfl,rfl⟩;refine yst (ac_storeAll rfl rfl (by(simp only[List.forall_mem_cons,List.not_mem_nil,false_implies,implies_true,svVal_one,and_true,true_and,and_self];first|done|simp[Value.oneCell'])) sizeOf88 zrp (by rfl) (by rfl)) ?_;refine gy 8 ?_;refine ysp 16 rfl (fun h61=>?_) (fun h61=>?_)
 ·refine gy 15 ?_;have hbad:decMsg s=(.zero,4):=decMsg_bad (by unfold BadM;rw[hde];dsimp only;omega);refine y (ev_be rfl) rfl ?_;refine yst (ac_storeN rfl rfl (msg_one .zero) sizeOf34 zrp rfl (by simp[MsgM.cells]) rfl) ?_;refine gy 5 ?_;refine kretct results37 rfl rfl isAgg34 sizeOf34 zin (rfl) (L1:=R) zge ?_;exact⟨_,⟨by(rw[hbad];rfl),rfl⟩,by rfl⟩
 refine gy 2 ?_;refine ygo ?_;refine y (ev_lenSv rfl underlying57 (by assumption)) rfl ?_;refine gy 3 ?_;refine ysp 22 rfl (fun h74=>?_) (fun h74=>?_)
 ·refine gy 9 ?_;have hbad:decMsg s=(.zero,4):=decMsg_bad (by unfold BadM;rw[hde];dsimp only;omega);refine y (ev_be rfl) rfl ?_;refine yst (ac_storeN rfl rfl (msg_one .zero) sizeOf34 zrp rfl (by simp[MsgM.cells]) rfl) ?_;refine gy 5 ?_;refine kretct results37 rfl rfl isAgg34 sizeOf34 zin (rfl) (L1:=R) zge ?_;exact⟨_,⟨by(rw[hbad];rfl),rfl⟩,by rfl⟩
 refine gy 2 ?_;refine ygo ?_;refine y (ev_lenSv rfl underlying86 (by assumption)) rfl ?_;refine gy 4 ?_;refine cc rfl (fun h84=>?_) (fun h84=>?_)
 ·refine gc 1 ?_;have hbad:decMsg s=(.zero,4):=decMsg_bad (by unfold BadM;rw[hde];dsimp only;omega);refine y (ev_be rfl) rfl ?_;refine yst (ac_storeN rfl rfl (msg_one .zero) sizeOf34 zrp rfl (by simp[MsgM.cells]) rfl) ?_;refine gy 5 ?_;refine kretct results37 rfl rfl isAgg34 sizeOf34 zin (rfl) (L1:=R) zge ?_;exact⟨_,⟨by(rw[hbad];rfl),rfl⟩,by rfl⟩
 refine gc 3 ?_;obtain⟨k,ns,ts⟩:=rc;dsimp only at*;obtain⟨n0,n1,n2,n3,n4,n5,n6,n7,n8,n9,rfl⟩:=len10 (l:=ns) (by omega);obtain⟨x0,x1,rfl⟩:=len2 (l:=ts) (by omega);have her:er=0:=by omega
 subst her;have hdec:=decMsg_is hde;refine gy 6 ?_;refine cdraw 30 (od [29] 30 0) (_) Tryz.mixed (by kernel_rfl) .refl ?_;refine gh 3 ?_;refine hr rfl (ev_ixV (by assumption) rfl rfl underlying57 sizeOf2 (by omega) (by omega)) rfl ?_;refine hr rfl (ev_loadV 0 hvn zge rfl isAgg2 (by rfl) rfl) rfl ?_;refine gh 1 ?_;refine hr rfl (ev_ixV (by assumption) rfl rfl underlying57 sizeOf2 (by omega) (by omega)) rfl ?_;refine hr rfl (ev_loadV 1 hvn zge rfl isAgg2 (by rfl) rfl) rfl ?_;refine gh 1 ?_;refine hr rfl (ev_ixV (by assumption) rfl rfl underlying57 sizeOf2 (by omega) (by omega)) rfl ?_;refine hr rfl (ev_loadV 2 hvn zge rfl isAgg2 (by rfl) rfl) rfl ?_;refine gh 1 ?_;refine hr rfl (ev_ixV (by assumption) rfl rfl underlying57 sizeOf2 (by omega) (by omega)) rfl ?_;refine hr rfl (ev_loadV 3 hvn zge rfl isAgg2 (by rfl) rfl) rfl ?_;refine gh 1 ?_;refine hr rfl (ev_ixV (by assumption) rfl rfl underlying57 sizeOf2 (by omega) (by omega)) rfl ?_;refine hr rfl (ev_loadV 4 hvn zge rfl isAgg2 (by rfl) rfl) rfl ?_;refine gh 1 ?_;refine hr rfl (ev_ixV (by assumption) rfl rfl underlying57 sizeOf2 (by omega) (by omega)) rfl ?_;refine hr rfl (ev_loadV 5 hvn zge rfl isAgg2 (by rfl) rfl) rfl ?_;refine gh 2 ?_;refine hr rfl (ev_ixV (by assumption) rfl rfl underlying86 sizeOf9 (by omega) (by omega)) rfl ?_;refine hr rfl (ev_loadV 0 htn zge rfl isAgg9 (by simp) rfl) rfl ?_;refine gh 2 ?_;refine hr rfl (ev_ixV (by assumption) rfl rfl underlying86 sizeOf9 (by omega) (by omega)) rfl ?_;refine hr rfl (ev_loadV 1 htn zge rfl isAgg9 (by simp) rfl) rfl ?_;refine hr rfl (ev_bd ([i64 k,i64 n0,i64 n1,i64 n2,i64 n3,i64 n4,i64 n5,i64 0,i64 0,i64 0,i64 0,str x0,str x1])) rfl ?_;refine ha rfl (ac_alloc zeroValue34 rfl) rfl ?_;rintro v L' ⟨b7,rfl,rfl⟩;refine⟨zge,?_⟩;refine gh 1 ?_;refine yst (ac_storeN rfl rfl (msg_one ⟨k,n0,n1,n2,n3,n4,n5,0,0,0,0,x0,x1⟩) sizeOf34 zrp rfl (by simp[MsgM.cells]) rfl) ?_;refine gy 3 ?_;refine cdraw 4 (od [] 4 0) (_) Tryz.mixed (by kernel_rfl) .refl ?_;refine gh 1 ?_;refine hr rfl (ev_slA rfl underlying32 sizeOf2) rfl ?_;refine gh 1 ?_;refine hr rfl (ev_slLV hvn rfl rfl underlying57 sizeOf2 (by simp) (by simp)) rfl ?_;have hd6:RdV [svSeg sn11 2 (intsV [n0,n1,n2,n3,n4,n5,n6,n7,n8,n9])] (vSl (svVal sn11 [n0,n1,n2,n3,n4,n5,n6,n7,n8,n9].length) 6 10 1) 4 [i64 n6,i64 n7,i64 n8,i64 n9]:=hvn.sl hcap (lo:=6) (hi:=10) (s:=1) (by simp) (by simp) (by simp[intsV]);refine gh 1 ?_;refine ya (ac_copyV (m:=4) (us:=[i64 n6,i64 n7,i64 n8,i64 n9]) (vs':=MsgM.cells ⟨k,n0,n1,n2,n3,n4,n5,n6,n7,n8,n9,x0,x1⟩) rfl rfl underlying57 sizeOf2 ((hd6.mono zge).src rfl) (by simp[Value.oneCell']) (by decide) zrp (by simp[MsgM.cells]) rfl) rfl ?_;rintro v L' ⟨rfl,rfl⟩;refine gy 4 ?_;refine y (ev_loadAll rfl isAgg34 sizeOf34 zin (by rfl)) rfl ?_;refine yci (mMay (m:=⟨k,n0,n1,n2,n3,n4,n5,n6,n7,n8,n9,x0,x1⟩)) call72 ?_;refine gy 3 ?_;refine cc rfl (fun h130=>?_) (fun h130=>?_)
 ·refine gc 1 ?_;refine y (ev_be rfl) rfl ?_;refine yst (ac_storeN rfl rfl (msg_one .zero) sizeOf34 zrp rfl (by simp[MsgM.cells]) rfl) ?_;refine gy 5 ?_;refine kretct results37 rfl rfl isAgg34 sizeOf34 zin (rfl) (L1:=R) zge ?_;exact⟨_,⟨by(rw[hdec,if_neg (by simp_all)];rfl),rfl⟩,by rfl⟩
 refine gc 3 ?_;refine y (ev_loadAll rfl isAgg34 sizeOf34 zin (by rfl)) rfl ?_;refine yst (ac_storeN rfl rfl (msg_one _) sizeOf34 zrp rfl (by simp[MsgM.cells]) rfl) ?_;refine gy 4 ?_;refine kretct results37 rfl rfl isAgg34 sizeOf34 zin (rfl) (L1:=R) zge ?_;exact⟨_,⟨by(rw[hdec,if_pos (by assumption)];rfl),rfl⟩,by rfl⟩
end W
end Go.Proofs
namespace Go.Sl
def flV{α:Type}(f:α→List Value)(l:List α):List Value:=(l.map f).flatten
section
variable {α : Type} {f : α → List Value} {s : Nat}
theorem flV_cons(x:α)(l:List α):flV f (x::l)=f x++flV f l:=by simp[flV]
theorem flV_app(l m:List α):flV f (l++m)=flV f l++flV f m:=by simp[flV]
theorem flV_snoc(l:List α)(x:α):flV f (l++[x])=flV f l++f x:=by simp[flV]
theorem flV_len(hs: ∀x,(f x).length=s)(l:List α):(flV f l).length=l.length*s:=by
 induction l with
 |nil=>simp[flV]
 |cons x l ih=>rw[flV_cons,List.length_append,ih,hs,List.length_cons,Nat.succ_mul];omega
theorem flV_drop(hs: ∀x,(f x).length=s)(l:List α)(k:Nat):(flV f l).drop (k*s)=flV f (l.drop k):=by
 induction k generalizing l with
 |zero=>simp
 |succ k ih=>
  cases l with
  |nil=>simp[flV]
  |cons x l=>rw[flV_cons,List.drop_succ_cons,show(k+1)*s=(f x).length+k*s by rw[hs,Nat.succ_mul];omega,←List.drop_drop,List.drop_left,ih]
theorem flV_take(hs: ∀x,(f x).length=s)(l:List α)(k:Nat):(flV f l).take (k*s)=flV f (l.take k):=by
 induction k generalizing l with
 |zero=>simp[flV]
 |succ k ih=>
  cases l with
  |nil=>simp[flV]
  |cons x l=>rw[flV_cons,List.take_succ_cons,flV_cons,show(k+1)*s=(f x).length+k*s by rw[hs,Nat.succ_mul];omega,List.take_length_add_append,ih]
theorem flV_get(hs: ∀x,(f x).length=s){l:List α}{k:Nat}{x:α}(h:l[k]? =some x):((flV f l).drop (k*s)).take s=f x:=by
 rw[flV_drop hs,List.drop_eq_getElem_cons (by exact(List.getElem?_eq_some_iff.1 h).1),(List.getElem?_eq_some_iff.1 h).2,flV_cons,←hs x,List.take_left]
theorem flV_at(hs: ∀x,(f x).length=s){l:List α}{k r:Nat}{x:α}{v:Value}(h:l[k]? =some x)(hr:(f x)[r]? =some v):(flV f l)[k*s+r]? =some v:=by
 rw[←List.getElem?_drop,flV_drop hs,List.drop_eq_getElem_cons (by exact(List.getElem?_eq_some_iff.1 h).1),(List.getElem?_eq_some_iff.1 h).2,flV_cons,List.getElem?_append_left (List.getElem?_eq_some_iff.1 hr).1];exact hr
theorem flV_one(h1: ∀x,∀u∈f x,u.oneCell'=true)(l:List α): ∀u∈flV f l,u.oneCell'=true:=by
 intro u hu;simp only[flV,List.mem_flatten,List.mem_map]at hu;obtain⟨x,⟨y,_,rfl⟩,hx⟩:=hu;exact h1 y u hx
theorem flV_split{l:List α}{k:Nat}{x:α}(h:l[k]? =some x):l=l.take k++x::l.drop (k+1):=by
 obtain⟨h1,h2⟩:=List.getElem?_eq_some_iff.1 h;rw[←h2,←List.drop_eq_getElem_cons h1,List.take_append_drop]
theorem flV_put(hs: ∀x,(f x).length=s){l:List α}{k:Nat}(y:α)(h:k<l.length):(flV f l).take (k*s)++f y++(flV f l).drop ((k+1)*s)=flV f (l.set k y):=by
 rw[flV_take hs,flV_drop hs,List.set_eq_take_append_cons_drop,if_pos h,flV_app,flV_cons,List.append_assoc]
/-- One of a thing's cells is set. -/
theorem flV_set(hs: ∀x,(f x).length=s){l:List α}{k r:Nat}{x y:α}{v:Value}(h:l[k]? =some x)(hy:(f x).set r v=f y)(hr:r<s):(flV f l).set (k*s+r) v=flV f (l.set k y):=by
 have hl:=(List.getElem?_eq_some_iff.1 h).1;have e:=flV_split h;rw[←flV_put hs y hl]
 have h1:flV f l=flV f (l.take k)++(f x++flV f (l.drop (k+1))):=by
  conv=>lhs;rw[e]
  rw[flV_app,flV_cons]
 rw[flV_take hs,flV_drop hs,h1];have hlen:(flV f (l.take k)).length=k*s:=by rw[flV_len hs,List.length_take,Nat.min_eq_left (by omega)]
 rw[List.set_append_right _ _ (by omega),hlen,Nat.add_sub_cancel_left,List.set_append_left _ _ (by rw[hs];omega),hy,List.append_assoc]
end
/-- A sender whose numbers are numbers, and whose list is no long one. -/
structure SndM.fit(S:SndM):Prop where
 acked:0≤S.acked∧S.acked≤4611686018427387904
 last:S.last≤4611686018427387904
 n:S.l.length≤1000000
theorem NokS.fit{K:Nat}{S:SndM}(h:NokS K S)(hK:K≤1000000):S.fit:=⟨h.acked,h.last,Nat.le_trans h.n hK⟩
theorem waitsV_eq(l:List WaitM):waitsV l=flV WaitM.cells l:=rfl
theorem let3(x:LetM):x.cells.length=3:=rfl
theorem item5(x:ItemM):x.cells.length=5:=rfl
theorem wait7(x:WaitM):x.cells.length=7:=rfl
theorem let_one(x:LetM): ∀u∈x.cells,u.oneCell'=true:=by
 intro u hu;simp only[LetM.cells,List.mem_cons,List.not_mem_nil,or_false]at hu;rcases hu with rfl|rfl|rfl<;>rfl
theorem item_one(x:ItemM): ∀u∈x.cells,u.oneCell'=true:=by
 intro u hu;simp only[ItemM.cells,List.mem_cons,List.not_mem_nil,or_false]at hu;rcases hu with rfl|rfl|rfl|rfl|rfl<;>rfl
theorem wait_one(x:WaitM): ∀u∈x.cells,u.oneCell'=true:=by
 intro u hu;simp only[WaitM.cells,List.mem_cons,List.not_mem_nil,or_false]at hu;rcases hu with rfl|rfl|rfl|rfl|rfl|rfl|rfl<;>rfl
theorem itsV_len(l:List ItemM):(itsV l).length=l.length*5:=flV_len item5 l
theorem waitsV_len(l:List WaitM):(waitsV l).length=l.length*7:=flV_len wait7 l
theorem itsV_one(l:List ItemM): ∀u∈itsV l,u.oneCell'=true:=flV_one item_one l
theorem letsV_snoc(l:List LetM)(x:LetM):letsV (l++[x])=letsV l++x.cells:=flV_snoc l x
theorem itsV_snoc(l:List ItemM)(x:ItemM):itsV (l++[x])=itsV l++x.cells:=flV_snoc l x
theorem waitsV_snoc(l:List WaitM)(x:WaitM):waitsV (l++[x])=waitsV l++x.cells:=flV_snoc l x
theorem itsV_drop(l:List ItemM)(k:Nat):(itsV l).drop (k*5)=itsV (l.drop k):=flV_drop item5 l k
theorem itsV_take(l:List ItemM)(k:Nat):(itsV l).take (k*5)=itsV (l.take k):=flV_take item5 l k
end Go.Sl
namespace Go.Proofs
open _root_.Go.Proofs.Tryz
open Go Go.Sl
namespace W
def sndC(p:Nat)(s:Sv)(S:SndM):Seg:=sc p [svVal s S.l.length,i64 S.acked] 170
def sndI(s:Sv)(S:SndM):Seg:=svSeg s 228 (itsV S.l)
def sndOk(s:Sv)(S:SndM):Prop:=svOk s S.l.length 5 (itsV S.l)
def itC(x:ItemM):Value:= .agg x.cells.toArray
theorem nSNew [Env]{R:List Seg}{b:Int}:Con Tryz.prog 74 [i64 b] [] R (fun v L'=> ∃p,v=ptr p∧L'=[sndC p none (SndM.new b),sndI none (SndM.new b)]):=by
 have hmx:(if 4611686018427387904<(if 0>b then 0 else b)then 4611686018427387904 else(if 0>b then 0 else b))=min (max b 0) 4611686018427387904:=by split<;>split<;>omega
 refine con_enter func74 ntmps74 rfl rfl ?_;refine gc 6 ?_;refine y (ev_max rfl rfl) rfl ?_;refine y (ev_min rfl rfl) rfl ?_;rw[hmx];refine y (ev_be rfl) rfl ?_;refine ya (ac_box rfl rfl) rfl ?_;rintro v L' ⟨b7,rfl,rfl⟩;refine gy 4 ?_;refine kretv results74 rfl (L1:=[sc _ _ 170,svSeg none 228 []]++R) zge ?_;exact⟨_,⟨_,rfl,rfl⟩,rfl⟩
theorem nLast [Env]{R:List Seg}{p:Nat}{s:Sv}{S:SndM}(h:S.fit)(hs:sndOk s S):Con Tryz.prog 51 [ptr p] [sndC p s S] R (Is (i64 S.last) [sndC p s S]):=by
 have h1:=h.acked;have h2:=h.last;unfold SndM.last at h2 ⊢;have hb:svOk s S.l.length 5 (itsV S.l):=hs;refine con_enter func51 ntmps51 rfl rfl ?_;unfold sndC;refine gc 5 ?_;refine cdraw 10 (od [] 10 0) (_) Tryz.mixed (by kernel_rfl) .refl ?_;refine gh 8 ?_;refine hr rfl (ev_lenSv rfl underlying168 (by assumption)) rfl ?_;refine gh 1 ?_;rw[wr (by omega) (by omega)];refine gh 5 ?_;refine kretv results51 rfl (L1:=[sc p _ 170]++R) zge ?_;exact⟨_,⟨by rfl,rfl⟩,by rfl⟩
theorem nAcked [Env]{R:List Seg}{p:Nat}{s:Sv}{S:SndM}:Con Tryz.prog 52 [ptr p] [sndC p s S] R (Is (i64 S.acked) [sndC p s S]):=by
 refine con_enter func52 ntmps52 rfl rfl ?_;unfold sndC;refine gc 13 ?_;refine kretv results52 rfl (L1:=[sc p _ 170]++R) zge ?_;exact⟨_,⟨by rfl,rfl⟩,by rfl⟩
theorem nClone1 [Env]{R:List Seg}{a:Addr}{m c:Nat}{xs:List ItemM}(hm:m=xs.length)(hb:RdV R (.slice (some a) m c) m (itsV xs))(hl:m≤1000000):
   Con Tryz.prog 177 [.slice (some a) m c] [] R (KSv 228 m 5 (itsV xs) []):=by
 have hlen:=itsV_len xs;refine con_enter func177 ntmps177 rfl rfl ?_;refine gc 7 ?_;refine y (ev_eqlLnil rfl rfl underlying168) rfl ?_;refine gy 2 ?_;refine cc rfl (fun h29=>?_) (fun h29=>?_)
 ·exact absurd h29 (by simp)
 refine gc 3 ?_;refine ya (ac_bslice0 underlying168 sizeOf228) rfl ?_;rintro v L' ⟨b5,rfl,rfl⟩;refine gy 1 ?_;refine ya (ac_append (k:=m) (us:=itsV xs) (size:=5) rfl rfl (by repeat first|exact .z|apply Pk.s) underlying168 underlying168 (by intro q hq;cases hq) typeInfo228 rfl rfl rfl ?ok32 ?src32 ?one32 ?big32) rfl ?_
 case ok32=>exact⟨Nat.le_refl _,by decide,rfl,rfl⟩
 case src32=>exact srcV (hb.mono zge) (by omega)
 case one32=>exact itsV_one _
 case big32=>show(_+_)*49≤_;omega
 rintro v L' ⟨s7,rfl,ok7,rfl⟩;rw[Nat.zero_add]at ok7;rw[Nat.zero_add];refine gy 4 ?_;refine kretv results177 rfl (L1:=_) zge ?_;exact⟨_,⟨s7,rfl,ok7,rfl⟩,rfl⟩
theorem nClone0 [Env]{R:List Seg}:
   Con Tryz.prog 177 [nilS] [] R (KSv 228 0 5 [] []):=by
 refine con_enter func177 ntmps177 rfl rfl ?_;refine gc 7 ?_;refine y (ev_eqlLnil rfl rfl underlying168) rfl ?_;refine gy 2 ?_;refine cc rfl (fun h37=>?_) (fun h37=>?_)
 ·refine gc 6 ?_;refine kretv results177 rfl (L1:=[svSeg none 228 []]++R) zge ?_;exact⟨_,⟨none,rfl,⟨rfl,rfl⟩,rfl⟩,rfl⟩
 cases h37
theorem nClone [Env]{R:List Seg}{v:Value}{xs:List ItemM}(hb:RdV R v xs.length (itsV xs))(hl:xs.length≤1000000):
   Con Tryz.prog 177 [v] [] R (KSv 228 xs.length 5 (itsV xs) []):=by
 rcases hb with⟨rfl,h2,h3⟩|⟨a,c,rfl,h4⟩
 · rw[h2,h3];exact nClone0
 exact nClone1 rfl (.inr ⟨a,c,rfl,h4⟩) hl
theorem nLeft [Env]{R:List Seg}{p:Nat}{s:Sv}{S:SndM}(hs:sndOk s S)(hn:S.l.length≤1000000):
   Con Tryz.prog 124 [ptr p] [sndC p s S,sndI s S] R (KSv 228 S.l.length 5 (itsV S.l) [sndC p s S,sndI s S]):=by
 refine con_enter func124 ntmps124 rfl rfl ?_;unfold sndC sndI;refine gc 9 ?_;refine ycall (nClone (xs:=S.l) ?ci44 ?cj44) rfl call177 ztk rfl ?_
 case ci44=>exact rdV_sv zin hs
 case cj44=>exact hn
 rintro v L' ⟨s7,rfl,ok7,rfl⟩;refine gy 4 ?_;refine kretv results124 rfl (L1:=_) zge ?_;exact⟨_,⟨s7,rfl,ok7,rfl⟩,rfl⟩
/-- Something is added to what is to be sent. -/
def KAdd(p:Nat)(S:SndM)(x:ItemM)(v:Value)(L':List Seg):Prop:=
 ∃s',v= .tuple #[i64 (S.add x).1.1,i64 (S.add x).1.2]∧sndOk s' (S.add x).2∧L'=[sndC p s' (S.add x).2,sndI s' (S.add x).2]
theorem nAdd [Env]{R:List Seg}{p:Nat}{s:Sv}{S:SndM}{x:ItemM}(h:S.fit)(hs:sndOk s S):
   Con Tryz.prog 159 [ptr p,itC x] [sndC p s S,sndI s S] R (KAdd p S x):=by
 have h1:=h.acked;have h2:=h.last;have h3:=h.n;have h4:S.last=S.acked+S.l.length:=rfl;have hb:svOk s S.l.length 5 (itsV S.l):=hs;refine con_enter func159 ntmps159 rfl rfl ?_;refine gc 1 ?_;refine ya (ac_box (vs:=x.cells) rfl rfl) rfl ?_;rintro v L' ⟨b3,rfl,rfl⟩;refine gy 7 ?_;refine yci (nLast ?sok50 ?sov50) call51 ?_
 case sok50=>exact h
 case sov50=>exact hs
 refine gy 3 ?_;refine cc rfl (fun h52=>?_) (fun h52=>?_)
 ·have had:S.add x=((0,23),S):=by unfold SndM.add;rw[if_pos (by simpa using h52)]
  refine gc 7 ?_;refine kretv2 results159 rfl rfl (L1:=[sndC p s S,sndI s S]++R) zge ?_;unfold KAdd;rw[had];exact⟨_,⟨s,rfl,hs,rfl⟩,rfl⟩
 have had:S.add x=((S.last+1,0),{S with l:=S.l++[{x with seq:=S.last+1}]}):=by unfold SndM.add;rw[if_neg (by simpa using h52)]
 refine gc 4 ?_;refine yci (nLast ?sok56 ?sov56) call51 ?_
 case sok56=>exact h
 case sov56=>exact hs
 refine gy 1 ?_;rw[wr (by omega) (by omega)];refine gy 1 ?_;refine yst (ac_store rfl rfl (by rfl) sizeOf2 zrp rfl rfl) ?_;refine gy 3 ?_;refine cdraw 10 (od [6,7] 10 0) ([sc b3 _ 228,sc p _ 170]++R) Tryz.mixed (by kernel_rfl) zge ?_;unfold sndC sndI;refine gh 5 ?_;refine hr rfl (ev_loadAll rfl isAgg228 sizeOf228 zin (by rfl)) rfl ?_;refine ha rfl (ac_bsliceR rfl underlying168 sizeOf228 zeroValue228 rfl rfl rfl rfl ⟨⟨_,_,rfl,(by rfl),(by decide)⟩,trivial⟩ (by dsimp[fillL,splice,vcells,reps]<;>rfl)) rfl ?_;rintro v L' ⟨b19,rfl,rfl⟩;refine⟨zge,?_⟩;refine ha rfl (ac_append (s:=s) (xs:=itsV S.l) (m:=S.l.length) (k:=1) (us:=ItemM.cells {x with seq:=S.last+1}) (size:=5) rfl rfl (by repeat first|exact .z|apply Pk.s) underlying168 underlying168 (by intro q hq;cases hq) typeInfo228 rfl rfl rfl ?ok67 ?src67 ?one67 ?big67) rfl ?_
 case ok67=>exact hb
 case src67=>exact src_at zin rfl rfl
 case one67=>exact item_one _
 case big67=>show(_+_)*49≤_;omega
 rintro v L' ⟨s20,rfl,ok20,rfl⟩;refine⟨zge,?_⟩;rw[←itsV_snoc]at ok20 ⊢;refine gh 3 ?_;refine yst (ac_store rfl rfl (by exact svVal_one _ _) sizeOf168 zrp rfl rfl) ?_;refine gy 10 ?_;refine kretv2 results159 rfl rfl (L1:=[sc p _ 170,svSeg s20 _ _]++R) zge ?_;unfold KAdd sndC sndI sndOk;rw[had];dsimp only;rw[List.length_append];exact⟨_,⟨s20,rfl,ok20,rfl⟩,rfl⟩
/-- What the other one has goes. -/
def KAck(p:Nat)(S:SndM)(q:Int)(v:Value)(L':List Seg):Prop:=
 ∃s',v= .bool (S.ack q).1∧sndOk s' (S.ack q).2∧L'=[sndC p s' (S.ack q).2,sndI s' (S.ack q).2]
theorem nAck [Env]{R:List Seg}{p:Nat}{s:Sv}{S:SndM}{q:Int}(h:S.fit)(hs:sndOk s S):
   Con Tryz.prog 115 [ptr p,i64 q] [sndC p s S,sndI s S] R (KAck p S q):=by
 have h1:=h.acked;have h2:=h.last;have h3:=h.n;have h4:S.last=S.acked+S.l.length:=rfl;have hb:svOk s S.l.length 5 (itsV S.l):=hs;refine con_enter func115 ntmps115 rfl rfl ?_;unfold sndI;refine gc 13 ?_;refine ysp 11 rfl (fun h83=>?_) (fun h83=>?_)
 ·refine gy 9 ?_;have had:S.ack q=(false,S):=by unfold SndM.ack;rw[if_pos (by omega)]
  refine gy 5 ?_;refine kretv results115 rfl (L1:=[sndC p s S,svSeg s _ _]++R) zge ?_;unfold KAck;rw[had];exact⟨_,⟨s,rfl,hs,rfl⟩,rfl⟩
 refine gy 2 ?_;refine ygo ?_;refine yci (nLast ?sok88 ?sov88) call51 ?_
 case sok88=>exact h
 case sov88=>exact hs
 refine gy 4 ?_;refine cc rfl (fun h91=>?_) (fun h91=>?_)
 ·refine gc 1 ?_;have had:S.ack q=(false,S):=by unfold SndM.ack;rw[if_pos (by omega)]
  refine gy 5 ?_;refine kretv results115 rfl (L1:=[sndC p s S,svSeg s _ _]++R) zge ?_;unfold KAck;rw[had];exact⟨_,⟨s,rfl,hs,rfl⟩,rfl⟩
 have had:S.ack q=(true,⟨S.l.drop (q-S.acked).toNat,q⟩):=by unfold SndM.ack;rw[if_neg (by omega)]
 obtain⟨j,hj⟩: ∃j:Nat,q-S.acked=j:=⟨(q-S.acked).toNat,by omega⟩;rw[show(q-S.acked).toNat=j by omega]at had;refine gc 3 ?_;refine cdraw 15 (od [12] 15 0) (_) Tryz.mixed (by kernel_rfl) .refl ?_;unfold sndC;have hrd:RdV [svSeg s 228 (itsV S.l)] (svVal s S.l.length) S.l.length (itsV S.l):=rdV_sv .z hb;have hrs:=hrd.sl (svCap hb) (s:=5) (lo:=j) (hi:=S.l.length) (by omega) (Nat.le_refl _) (itsV_len _);have hdl:(S.l.drop j).length=S.l.length-j:=by simp
 rw[itsV_drop,←hdl,←itsV_len,List.take_length]at hrs;refine gh 11 ?_;rw[wr (by omega) (by omega),hj];refine hr rfl (ev_slLV hrd rfl rfl underlying168 sizeOf228 (by omega) (by omega)) rfl ?_;refine hcall rfl (nClone (xs:=S.l.drop j) ?ci105 ?cj105) rfl call177 ztk rfl ?_
 case ci105=>exact hrs.mono zge
 case cj105=>omega
 rintro v L' ⟨s29,rfl,ok29,rfl⟩;refine⟨zge,?_⟩;refine gh 3 ?_;refine yst (ac_store rfl rfl (by exact svVal_one _ _) sizeOf168 zrp rfl rfl) ?_;refine gy 7 ?_;refine yst (ac_store rfl rfl (by rfl) sizeOf2 zrp rfl rfl) ?_;refine gy 7 ?_;refine kretv results115 rfl (L1:=[sc p _ 170,svSeg s29 _ _]++R) zge ?_;unfold KAck sndC sndI sndOk;rw[had];exact⟨_,⟨s29,rfl,ok29,rfl⟩,rfl⟩
theorem nNext [Env]{R:List Seg}{le ls e s:Int}(h1: -1≤ls)(hs:0≤s∧s≤4611686018427387904):Con Tryz.prog 173 [.agg #[i64 le,i64 ls],i64 e,i64 s] [] R (Is (i64 (nextM le ls e s)) []):=by
 refine con_enter func173 ntmps173 rfl rfl ?_;refine gc 1 ?_;refine ya (ac_box (vs:=[i64 le,i64 ls]) rfl rfl) rfl ?_;rintro v L' ⟨b3,rfl,rfl⟩;refine gy 11 ?_;refine cc rfl (fun h121=>?_) (fun h121=>?_)
 ·refine gc 2 ?_;refine yst (ac_store rfl rfl (by rfl) sizeOf2 zrp rfl rfl) ?_;refine gy 7 ?_;refine cc rfl (fun h126=>?_) (fun h126=>?_)
  ·refine gc 6 ?_;refine kretv results173 rfl (L1:=R) zge ?_;exact⟨_,⟨by(unfold nextM;(repeat' split)<;>first|rfl|omega),rfl⟩,by rfl⟩
  refine gc 12 ?_;refine cc rfl (fun h133=>?_) (fun h133=>?_)
  ·refine gc 7 ?_;exfalso;omega
  refine gc 8 ?_;refine cc rfl (fun h140=>?_) (fun h140=>?_)
  ·refine gc 7 ?_;exfalso;omega
  refine gc 3 ?_;rw[wr (by omega) (by omega)];refine gy 6 ?_;refine cc rfl (fun h148=>?_) (fun h148=>?_)
  ·refine gc 7 ?_;refine kretv results173 rfl (L1:=R) zge ?_;exact⟨_,⟨by(unfold nextM;(repeat' split)<;>first|rfl|omega),rfl⟩,by rfl⟩
  refine gc 8 ?_;refine kretv results173 rfl (L1:=R) zge ?_;exact⟨_,⟨by(unfold nextM;(repeat' split)<;>first|rfl|omega),rfl⟩,by rfl⟩
 refine gc 12 ?_;refine cc rfl (fun h156=>?_) (fun h156=>?_)
 ·refine gc 7 ?_;refine kretv results173 rfl (L1:=R) zge ?_;exact⟨_,⟨by(unfold nextM;(repeat' split)<;>first|rfl|omega),rfl⟩,by rfl⟩
 refine gc 8 ?_;refine cc rfl (fun h163=>?_) (fun h163=>?_)
 ·refine gc 7 ?_;refine kretv results173 rfl (L1:=R) zge ?_;exact⟨_,⟨by(unfold nextM;(repeat' split)<;>first|rfl|omega),rfl⟩,by rfl⟩
 refine gc 3 ?_;rw[wr (by omega) (by omega)];refine gy 6 ?_;refine cc rfl (fun h171=>?_) (fun h171=>?_)
 ·refine gc 7 ?_;refine kretv results173 rfl (L1:=R) zge ?_;exact⟨_,⟨by(unfold nextM;(repeat' split)<;>first|rfl|omega),rfl⟩,by rfl⟩
 refine gc 8 ?_;refine kretv results173 rfl (L1:=R) zge ?_;exact⟨_,⟨by(unfold nextM;(repeat' split)<;>first|rfl|omega),rfl⟩,by rfl⟩
end W
end Go.Proofs