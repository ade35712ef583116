/- A part of the proof. -/
import Derived.Test.YtlignadmmopdmaaGreatNodA
set_option linter.unusedVariables false
set_option linter.unusedSimpArgs false
set_option linter.constructorNameAsVariable false
namespace Go.Sl
theorem lapp_l{L:LogM}{D:Dev}{s:Bytes}:(L.append D s).2.2.l.length=D.l.length:=by
 unfold LogM.append;split
 ·rfl
 ·split
  ·rfl
  ·split
   · rfl
   · dsimp only;rw[write_l]
theorem ltrim_l{L:LogM}{D:Dev}{m:Int}:(L.trim D m).2.2.l.length=D.l.length:=by
 unfold LogM.trim;split
 ·rfl
 ·split
  · exact barrier_l
  · dsimp only;unfold LogM.put;dsimp only;rw[put_l];exact barrier_l
theorem cadd_l{C:CaM}{D:Dev}{r:CrecM}:(C.add D r).2.2.l.length=D.l.length:=lapp_l
theorem cagain_l{C:CaM}{D:Dev}:(C.again D).2.2.l.length=D.l.length:=by
 unfold CaM.again;split
 · exact cadd_l
 · rfl
theorem ccut_l{C:CaM}{D:Dev}{m:Int}:(C.cut D m).2.2.l.length=D.l.length:=ltrim_l
theorem cmkF_l: ∀(f:Nat) (C:CaM) (D:Dev),(CaM.mkF f C D).2.2.l.length=D.l.length
 |0,C,D=>rfl
 |f+1,C,D=>by
  unfold CaM.mkF;split
  ·rfl
  ·split
   ·exact cagain_l
   ·split
    · exact ccut_l.trans cagain_l
    · exact(cmkF_l f _ _).trans (ccut_l.trans cagain_l)
theorem ccome_l{C:CaM}{D:Dev}{r:CrecM}:(C.come D r).2.2.l.length=D.l.length:=by
 unfold CaM.come;split
 · exact cmkF_l _ _ _
 · exact cadd_l.trans (cmkF_l _ _ _)
/-- What an act leaves of a cache. -/
structure CDone(C:CaM)(D:Dev)(r:Int × CaM × Dev):Prop where
 ok:r.2.1.ok r.2.2
 bl:r.2.1.bl=C.bl
 l:r.2.2.l.length=D.l.length
theorem doM_l(C:CaM)(D:Dev)(kind:Int)(x:EntM)(ns:List Int):(doM C D kind x ns).2.2.l.length=D.l.length:=by
 unfold doM;split
 ·unfold CaM.put;split
  ·rfl
  ·split
   ·rfl
   ·split
    ·rfl
    ·split
     ·exact ccome_l
     ·split
      ·rfl
      ·split
       · exact ccome_l
       · exact cadd_l.trans ccome_l
 ·split
  ·unfold CaM.clean;split
   ·rfl
   ·split
    ·rfl
    ·split
     ·rfl
     ·exact ccome_l
  ·split
   ·unfold CaM.drop;split
    ·exact ccome_l
    ·rfl
   ·split
    ·unfold CaM.note;split
     ·rfl
     ·exact ccome_l
    ·split
     ·unfold CaM.reset;split
      ·rfl
      ·exact ccome_l
     ·split
      ·exact barrier_l
      ·rfl
theorem doM_bl'(C:CaM)(D:Dev)(kind:Int)(x:EntM)(ns:List Int):(doM C D kind x ns).2.1.bl=C.bl:=by
 unfold doM;split
 ·unfold CaM.put;split
  ·rfl
  ·split
   ·rfl
   ·split
    ·rfl
    ·split
     ·exact CaM.come_bl.1
     ·split
      ·rfl
      ·split
       · exact CaM.come_bl.1
       · exact CaM.add_bl.1.trans CaM.come_bl.1
 ·split
  ·unfold CaM.clean;split
   ·rfl
   ·split
    ·rfl
    ·split
     ·rfl
     ·exact CaM.come_bl.1
  ·split
   ·unfold CaM.drop;split
    ·exact CaM.come_bl.1
    ·rfl
   ·split
    ·unfold CaM.note;split
     ·rfl
     ·exact CaM.come_bl.1
    ·split
     ·unfold CaM.reset;split
      ·rfl
      ·exact CaM.come_bl.1
     ·split<;>rfl
theorem doM_done{C:CaM}{D:Dev}(h:C.ok D)(kind:Int)(x:EntM)(ns:List Int):CDone C D (doM C D kind x ns):=⟨doM_ok h kind x ns,doM_bl' C D kind x ns,doM_l C D kind x ns⟩
section
variable {C : CaM} {D : Dev} (h : C.ok D)
theorem put_done'(h:C.ok D)(x:EntM):CDone C D (C.put D x):=doM_done h 0 x []
theorem clean_done(h:C.ok D)(b e s:Int):CDone C D (C.clean D b e s):=doM_done h 1 ⟨b,e,s,[],false,0,0⟩ []
theorem drop_done(h:C.ok D)(b:Int):CDone C D (C.drop D b):=doM_done h 2 ⟨b,0,0,[],false,0,0⟩ []
theorem note_done(h:C.ok D)(e s:Int)(ns:List Int):CDone C D (C.note D e s ns):=doM_done h 3 ⟨0,e,s,[],false,0,0⟩ ns
theorem reset_done(h:C.ok D)(e s:Int)(ns:List Int):CDone C D (C.reset D e s ns):=doM_done h 8 ⟨0,e,s,[],false,0,0⟩ ns
theorem sync_done(h:C.ok D):CDone C D (C.sync D):=doM_done h 4 .zero []
end
structure NokA(id serial lease patience blocks:Int):Prop where
 id:id=0∨id=1
 serial:N62 serial
 lease:1≤lease∧lease≤1048576
 patience:1≤patience∧patience≤1048576
 blocks:1≤blocks∧blocks≤32
structure NokP(blocks:Int)(f:CellM)(dr:DrlM)(c:CaM)(d:Dev):Prop where
 f:f.ok d.l.length
 dn:(dr.n:Int)=blocks
 bl:(c.bl:Int)=blocks
 dr:dr.ok d
 c:c.ok d
structure NokN(K:Nat)(left epoch mask clock born change loads role want resync quiet:Int):Prop where
 left:0≤left∧left≤1048576
 epoch:N62 epoch
 mask:N62 mask
 clock:0≤clock∧clock≤K
 born:0≤born∧born≤536870912
 change:0≤change∧change≤K
 loads:0≤loads∧loads≤K
 role:0≤role∧role≤3
 want:0≤want∧want≤3
 resync:0≤resync∧resync≤2
 quiet:0≤quiet∧quiet≤K
structure NokT(t:T4):Prop where
 a:N62 t.a
 b:N62 t.b
 c:N62 t.c
 d:N62 t.d
structure WaitM.ok(K:Nat)(w:WaitM):Prop where
 cl:0≤w.cl∧w.cl≤3
 n:1≤w.n∧w.n≤4611686018427387904
 op:0≤w.op∧w.op≤4
 blk: -1≤w.blk∧w.blk≤31
 seq:N62 w.seq
 load:0≤w.load∧w.load≤K
structure NokW(K:Nat)(l:List WaitM):Prop where
 n:l.length≤16
 all: ∀w∈l,w.ok K
structure ItemM.ok(x:ItemM):Prop where
 seq:N62 x.seq
 blk: -1≤x.blk∧x.blk≤31
 data:x.data.length≤8
 cl: -1≤x.cl∧x.cl≤3
 n:N62 x.n
structure NokS(K:Nat)(s:SndM):Prop where
 acked:N62 s.acked
 last:s.last≤4611686018427387904
 n:s.l.length≤K
 all: ∀x∈s.l,x.ok
structure NodM.ok(x:NodM)(K:Nat):Prop where
 a:NokA x.id x.serial x.lease x.patience x.blocks
 p:NokP x.blocks x.f x.dr x.c x.d
 n:NokN K x.left x.epoch x.mask x.clock x.born x.change x.loads x.role x.want x.resync x.quiet
 t:NokT x.done
 o:NokT x.noted
 w:NokW K x.waits
 s:NokS K x.s
 out:x.out.length≤K
theorem WaitM.ok.le{K K':Nat}{w:WaitM}(h:w.ok K)(hk:K≤K'):w.ok K':=⟨h.cl,h.n,h.op,h.blk,h.seq,by have:=h.load;omega⟩
theorem NokN.le{K K':Nat}{left epoch mask clock born change loads role want resync quiet:Int}(h:NokN K left epoch mask clock born change loads role want resync quiet)(hk:K≤K'):NokN K' left epoch mask clock born change loads role want resync quiet:=
 ⟨h.left,h.epoch,h.mask,by have:=h.clock;omega,h.born,by have:=h.change;omega,by have:=h.loads;omega,h.role,h.want,h.resync,by have:=h.quiet;omega⟩
theorem NokW.le{K K':Nat}{l:List WaitM}(h:NokW K l)(hk:K≤K'):NokW K' l:=⟨h.n,fun w hw=>(h.all w hw).le hk⟩
theorem NokS.le{K K':Nat}{s:SndM}(h:NokS K s)(hk:K≤K'):NokS K' s:=⟨h.acked,h.last,by have:=h.n;omega,h.all⟩
theorem NodM.ok.le{n:NodM}{K K':Nat}(h:n.ok K)(hk:K≤K'):n.ok K':=⟨h.a,h.p,h.n.le hk,h.t,h.o,h.w.le hk,h.s.le hk,by have:=h.out;omega⟩
theorem NokS.new(K:Nat)(b:Int):NokS K (SndM.new b):=⟨by unfold SndM.new N62;dsimp only;omega,by unfold SndM.new SndM.last;simp only[List.length_nil];omega,Nat.zero_le _,fun x hx=>by simp[SndM.new]at hx⟩
theorem NokP.cache{blocks:Int}{f:CellM}{dr:DrlM}{c:CaM}{d:Dev}(h:NokP blocks f dr c d){r:Int × CaM × Dev}(hr:CDone c d r):NokP blocks f dr r.2.1 r.2.2:=
 ⟨by rw[hr.l];exact h.f,h.dn,by rw[hr.bl];exact h.bl,⟨by rw[hr.l];exact h.dr.c,h.dr.n,h.dr.bits,hr.ok.d⟩,hr.ok⟩
theorem CaM.ok.at{c:CaM}{d d':Dev}(h:c.ok d)(hd:d'.ok)(hl:d'.l.length=d.l.length):c.ok d':=by
 have l:=h.l;exact⟨⟨l.n,by rw[hl];exact l.first,by rw[hl];exact l.c,l.head,l.time,l.least,l.l,l.its,l.tail,hd⟩,h.bl,h.n,h.n8,h.m,h.k,h.en,h.keys,h.pv,h.pn⟩
theorem NokP.facts{blocks:Int}{f:CellM}{dr:DrlM}{c:CaM}{d:Dev}(h:NokP blocks f dr c d)(s:Bytes):NokP blocks (f.put d s).2.1 dr c (f.put d s).2.2:=by
 have hp:=Go.Sl.put_ok h.f h.c.d s;have hl:(f.put d s).2.2.l.length=d.l.length:=put_l;exact⟨by rw[hl];exact hp.1,h.dn,h.bl,⟨by rw[hl];exact h.dr.c,h.dr.n,h.dr.bits,hp.2⟩,h.c.at hp.2 hl⟩
theorem dset_done{L:DrlM}{D:Dev}(h:L.ok D){b:Nat}(hb:b<2^regs L.n):(L.set D b).2.1.ok (L.set D b).2.2∧(L.set D b).2.1.n=L.n∧(L.set D b).2.2.l.length=D.l.length:=by
 have hp:=Go.Sl.put_ok h.c h.d (textR (regs L.n) b);have hl:(L.c.put D (textR (regs L.n) b)).2.2.l.length=D.l.length:=put_l;unfold DrlM.set;refine⟨⟨?_,h.n,?_,hp.2⟩,rfl,hl⟩
 ·dsimp only;rw[hl];exact hp.1
 ·dsimp only;split
  · exact hb
  · exact h.bits
theorem NokP.marks{blocks:Int}{f:CellM}{dr:DrlM}{c:CaM}{d:Dev}(h:NokP blocks f dr c d){r:Int × DrlM × Dev}(hr:r.2.1.ok r.2.2∧r.2.1.n=dr.n∧r.2.2.l.length=d.l.length):NokP blocks f r.2.1 c r.2.2:=
 ⟨by rw[hr.2.2];exact h.f,by rw[hr.2.1];exact h.dn,h.bl,hr.1,h.c.at hr.1.d hr.2.2⟩
end Go.Sl
namespace Go.Sl
namespace NodM
variable {n : NodM} {K : Nat}
theorem z03:(0:Int)≤0∧(0:Int)≤3:=by decide
theorem z02:(0:Int)≤0∧(0:Int)≤2:=by decide
theorem zl:(0:Int)≤0∧(0:Int)≤1048576:=by decide
theorem zk(K:Nat):(0:Int)≤0∧(0:Int)≤K:=by omega
theorem ok.err(h:n.ok K)(e:Int):(n.err e).ok K:=⟨h.a,h.p,h.n,h.t,h.o,h.w,h.s,h.out⟩
theorem ok.send(h:n.ok K)(to:Int)(m:MsgM):(n.send to m).ok (K+1):=
 ⟨h.a,h.p,h.n.le (by omega),h.t,h.o,h.w.le (by omega),h.s.le (by omega),by have:=h.out;simp only[NodM.send,List.length_append,List.length_singleton];omega⟩
theorem ok.cDid(h:n.ok K){r:Int × CaM × Dev}(hr:CDone n.c n.d r):(n.cDid r).ok K:=⟨h.a,h.p.cache hr,h.n,h.t,h.o,h.w,h.s,h.out⟩
theorem ok.cOk(h:n.ok K){r:Int × CaM × Dev}(hr:CDone n.c n.d r):(n.cOk r).2.ok K:=(h.cDid hr).err _
theorem ok.dOk(h:n.ok K){r:Int × DrlM × Dev}(hr:r.2.1.ok r.2.2∧r.2.1.n=n.dr.n∧r.2.2.l.length=n.d.l.length):(n.dOk r).2.ok K:=⟨h.a,h.p.marks hr,h.n,h.t,h.o,h.w,h.s,h.out⟩
theorem ok.mark(h:n.ok K)(b:Int):(n.dOk (n.dr.mark n.d b)).2.ok K:=by
 refine h.dOk ?_;have hd:=h.p.dr;unfold DrlM.mark;split
 ·exact⟨hd,rfl,rfl⟩
 ·rename_i hi
  split
  ·exact⟨hd,rfl,rfl⟩
  ·refine dset_done hd ?_;have hin:inR n.dr.n b=true:=by simpa using hi
   unfold inR at hin;simp only[Bool.and_eq_true,decide_eq_true_eq]at hin;exact putR_lt hd.bits (by unfold inR regs;simp only[Bool.and_eq_true,decide_eq_true_eq];omega)
theorem ok.fOk(h:n.ok K)(s:Bytes):(n.fOk (n.f.put n.d s)).2.ok K:=⟨h.a,h.p.facts s,h.n,h.t,h.o,h.w,h.s,h.out⟩
theorem ok.sync(h:n.ok K):n.sync.2.ok K:=h.cOk (sync_done h.p.c)
theorem ok.forget(h:n.ok K):n.forget.ok K:=
 ⟨h.a,h.p,⟨h.n.left,h.n.epoch,h.n.mask,h.n.clock,h.n.born,h.n.change,h.n.loads,z03,z03,z02,zk K⟩,h.t,h.o,⟨Nat.zero_le _,fun w hw=>by cases hw⟩,.new K 0,h.out⟩
theorem ok.demote(h:n.ok K):n.demote.ok K:=by
 have g:=h.forget;exact⟨g.a,g.p,⟨zl,g.n.epoch,g.n.mask,g.n.clock,g.n.born,g.n.change,g.n.loads,g.n.role,g.n.want,g.n.resync,g.n.quiet⟩,g.t,g.o,g.w,g.s,g.out⟩
theorem ok.table(h:n.ok K):NokT n.table:=by
 have k:=h.p.c.k;exact⟨k.a,k.b,k.c,k.d⟩
theorem ok_then{r:Bool × NodM}{f:NodM→NodM}{K c:Nat}(h:r.2.ok K)(hf:r.2.ok K→(f r.2).ok (K+c)):(andThen r f).ok (K+c):=by
 unfold andThen;split
 · exact hf h
 · exact h.le (by omega)
theorem ok_andB{r:Bool × NodM}{f:NodM→Bool × NodM}{K c:Nat}(h:r.2.ok K)(hf:r.2.ok K→(f r.2).2.ok (K+c)):(andB r f).2.ok (K+c):=by
 unfold andB;split
 · exact hf h
 · exact h.le (by omega)
theorem ok.adopt(h:n.ok K){e:Int}(he:N62 e):(n.adopt e).2.ok K:=by
 unfold NodM.adopt;split
 · exact h
 · exact ok_andB (c:=0) (h.demote.fOk (factB e)) fun g=>⟨g.a,g.p,⟨g.n.left,he,g.n.mask,g.n.clock,g.n.born,g.n.change,g.n.loads,g.n.role,g.n.want,g.n.resync,g.n.quiet⟩,g.t,g.o,g.w,g.s,g.out⟩
theorem tmod_14{s:Int}(h:N62 s):0≤s.tmod 16384∧s.tmod 16384≤16383:=by
 unfold N62 at h;rw[Int.tmod_eq_emod_of_nonneg h.1];omega
theorem ok.boot(h:n.ok K){e:Int}(he:N62 e):(n.boot e).2.ok K:=by
 have g:(n.fDid (n.f.put n.d (factB e))).ok K:=⟨h.a,h.p.facts _,h.n,h.t,h.o,h.w,h.s,h.out⟩;unfold NodM.boot;dsimp only;split
 ·exact g
 ·split
  ·exact g
  ·rename_i h1 h2
   have h3:=tmod_14 h.a.serial;have h4:=(h.p.facts (factB e)).f.gen;exact⟨g.a,g.p,⟨g.n.left,he,g.n.mask,g.n.clock,⟨by dsimp only;omega,by dsimp only;omega⟩,g.n.change,g.n.loads,g.n.role,g.n.want,g.n.resync,g.n.quiet⟩,g.t,g.o,g.w,g.s,g.out⟩
theorem ok.load(h:n.ok K)(b q:Int):(n.load b q).ok (K+1):=h.send _ _
theorem ok.store(h:n.ok K)(x:EntM)(cl q:Int):(n.store x cl q).ok (K+1):=h.send _ _
theorem ok.put(h:n.ok K)(x:ItemM):(n.put x).ok (K+1):=h.send _ _
theorem ok.answer(h:n.ok K)(w:WaitM)(e:Int)(b:Bytes):(n.answer w e b).ok (K+1):=h.send _ _
theorem ok.given(h:n.ok K)(w:WaitM)(b:Bytes):(n.given w b).ok (K+1):=by unfold NodM.given;split<;>exact h.answer _ _ _
theorem ok_foldl{α:Type}(f:NodM→α→NodM)(hf: ∀n K x,NodM.ok n K→(f n x).ok (K+1)): ∀(l:List α) {n:NodM} {K:Nat},n.ok K→(l.foldl f n).ok (K+l.length)
 | [],_,_,h=>h
 |x::l,n,K,h=>by
  have:=ok_foldl f hf l (hf n K x h);rw[List.length_cons,show K+(l.length+1)=K+1+l.length by omega];exact this
theorem ok.puts(h:n.ok K):n.puts.ok (K+8):=by
 have:=ok_foldl NodM.put (fun n K x h=>h.put x) (n.s.l.take 8) h;exact this.le (by rw[List.length_take];omega)
theorem ok.setWant(h:n.ok K){mk:Int}(hm:0≤mk∧mk≤3):({n with change:=n.change+1,want:=mk}:NodM).ok (K+1):=by
 have g:=h.le (show K≤K+1 by omega);exact⟨g.a,g.p,⟨g.n.left,g.n.epoch,g.n.mask,g.n.clock,g.n.born,by have:=h.n.change;dsimp only;omega,g.n.loads,g.n.role,hm,g.n.resync,g.n.quiet⟩,g.t,g.o,g.w,g.s,g.out⟩
theorem ok.changes(h:n.ok K){mk:Int}(hm:0≤mk∧mk≤3):(n.changes mk).ok (K+2):=by
 unfold NodM.changes;dsimp only;split
 · exact(h.setWant hm).send _ _
 · exact(h.le (show K≤K+1 by omega)).send _ _
theorem n620:N62 0:=⟨by decide,by decide⟩
theorem _root_.Go.Sl.NokS.add{K:Nat}{s:SndM}(h:NokS K s){x:ItemM}(hx:x.ok):NokS (K+1) (s.add x).2:=by
 unfold SndM.add;split
 ·exact h.le (by omega)
 ·rename_i hn
  have hl:=h.last;have ha:=h.acked;have hk:=h.n;have e:s.last=s.acked+s.l.length:=rfl;unfold N62 at ha;refine⟨h.acked,?_,by simp;omega,fun y hy=>?_⟩
  ·unfold SndM.last;simp only[List.length_append,List.length_singleton];omega
  ·rcases List.mem_append.1 hy with hy|hy
   · exact h.all y hy
   · simp at hy;subst hy;exact⟨by unfold N62;dsimp only;omega,hx.blk,hx.data,hx.cl,hx.n⟩
theorem _root_.Go.Sl.NokS.add_seq{K:Nat}{s:SndM}(h:NokS K s)(x:ItemM):N62 (s.add x).1.1:=by
 have hl:=h.last;have ha:=h.acked;have e:s.last=s.acked+s.l.length:=rfl;unfold SndM.add N62 at*;split
 · dsimp only;omega
 · dsimp only;omega
theorem ok.setS(h:n.ok K){s:SndM}(hs:NokS K s):({n with s:=s}:NodM).ok K:=⟨h.a,h.p,h.n,h.t,h.o,h.w,hs,h.out⟩
theorem ok.noteS(h:n.ok K):n.noteS.ok (K+1):=(h.le (show K≤K+1 by omega)).setS (h.s.add ⟨n620,by decide,by decide,by decide,n620⟩)
theorem ok.note(h:n.ok K):n.note.2.ok (K+1):=by
 unfold NodM.note;split
 · exact h.le (by omega)
 · exact ok_andB (c:=0) (h.noteS.cOk (note_done h.p.c _ _ _)) fun g=>(show NodM.ok {(n.noteS.cOk (n.c.note n.d n.epoch (n.s.add ⟨0,-1,[],-1,0⟩).1.1 n.done.l)).2 with noted:=(n.noteS.cOk (n.c.note n.d n.epoch (n.s.add ⟨0,-1,[],-1,0⟩).1.1 n.done.l)).2.done} (K+1)from⟨g.a,g.p,g.n,g.t,g.t,g.w,g.s,g.out⟩).sync
theorem ok_each{α:Type}(f:NodM→α→Bool × NodM)(c:Nat)(P:α→Prop)(hf: ∀n K x,P x→NodM.ok n K→(f n x).2.ok (K+c)): ∀(l:List α) {n:NodM} {K:Nat},(∀x∈l,P x)→n.ok K→(eachB f l n).2.ok (K+c*l.length)
 | [],_,_,_,h=>h
 |x::l,n,K,hp,h=>by
  have h1:=hf n K x (hp x (by simp)) h;have e:K+c*(x::l).length=K+c+c*l.length:=by rw[List.length_cons,Nat.mul_succ];omega
  unfold eachB;split
  · exact h1.le (by rw[e];omega)
  · rw[e];exact ok_each f c P hf l (fun y hy=>hp y (by simp[hy])) h1
theorem ok.modW(h:n.ok K)(b:Int){f:WaitM→WaitM}(hf: ∀w,w.ok K→(f w).ok K):(n.modW b f).ok K:=by
 unfold NodM.modW;split
 ·refine⟨h.a,h.p,h.n,h.t,h.o,⟨by dsimp only;rw[List.length_modify];exact h.w.n,fun w hw=>?_⟩,h.s,h.out⟩;dsimp only at hw
  rename_i i _
  obtain⟨j,hj,e⟩:=List.mem_iff_getElem.1 hw;rw[List.getElem_modify]at e;have hj':j<n.waits.length:=by simpa using hj
  have hm:=h.w.all _ (List.getElem_mem hj');split at e
  · rw[←e];exact hf _ hm
  · rw[←e];exact hm
 ·exact h
theorem all_ok(h:n.ok K): ∀x∈n.c.all,x.ok n.c.bl:=by
 intro x hx;unfold CaM.all allTo at hx;obtain⟨i,_,e⟩:=List.mem_filterMap.1 hx;exact(ok_get h.p.c e).1
theorem all_len(h:n.ok K):n.c.all.length≤32:=by
 have h1:=allTo_len n.c n.c.bl;have h2:=h.p.c.bl;show(allTo n.c n.c.bl).length≤32;omega
theorem it_ok{x:EntM}{m:Nat}(hx:x.ok m)(hm:m≤32):(itOf x).ok:=by
 have hb:=hx.blk;exact⟨n620,⟨by show-1≤x.blk;omega,by show x.blk≤31;omega⟩,Nat.le_of_eq hx.data,hx.cl,hx.n⟩
theorem ok.againS(h:n.ok K){x:EntM}(hx:(itOf x).ok):(n.againS x).ok (K+1):=(h.le (show K≤K+1 by omega)).setS (h.s.add hx)
theorem ok.again1(h:n.ok K){x:EntM}{m:Nat}(hx:x.ok m)(hm:m≤32):(n.again1 x).2.ok (K+1):=by
 have g:=h.againS (it_ok hx hm);have hq:=h.s.add_seq (itOf x);unfold NodM.again1;split
 · exact h.le (by omega)
 split
 · exact g.err _
 · exact ok_andB (c:=0) (g.cOk (put_done' h.p.c _)) fun g2=>g2.modW _ fun w hw=>⟨hw.cl,hw.n,hw.op,hw.blk,hq,hw.load⟩
theorem ok.again(h:n.ok K):n.again.2.ok (K+32):=by
 have:=ok_each NodM.again1 1 (fun x=>x.ok n.c.bl) (fun n' K x hx h'=>h'.again1 hx h.p.c.bl.2) n.c.all (all_ok h) h;exact this.le (by have:=all_len h;omega)
theorem ok.marks(h:n.ok K):n.marks.2.ok K:=by
 have:=ok_each NodM.marks1 0 (fun _=>True) (fun n' K x _ h'=>by unfold NodM.marks1;split;exact h';exact h'.mark _) n.c.all (fun _ _=>trivial) h;exact this.le (by omega)
theorem delW_ok{p:NodM→WaitM→Bool}{f:NodM→WaitM→NodM}{P:WaitM→Prop}(hf: ∀n K w,P w→NodM.ok n K→(f n w).ok (K+1)): ∀(l:List WaitM) {n:NodM} {K:Nat},(∀w∈l,P w)→n.ok K→(delW p f l n).2.ok (K+l.length)∧(delW p f l n).1.length≤l.length∧ ∀w∈(delW p f l n).1,w∈l
 | [],_,_,_,h=>⟨h,Nat.le_refl _,fun w hw=>by cases hw⟩
 |w::l,n,K,hP,h=>by
  have hP2: ∀w∈l,P w:=fun y hy=>hP y (by simp[hy])
  unfold delW;split
  ·have:=delW_ok hf l hP2 (hf n K w (hP w (by simp)) h) (p:=p);refine⟨this.1.le (by rw[List.length_cons];omega),by rw[List.length_cons];omega,fun x hx=>by simp[this.2.2 x hx]⟩
  ·have:=delW_ok hf l hP2 h (p:=p);refine⟨this.1.le (by rw[List.length_cons];omega),by dsimp only;rw[List.length_cons,List.length_cons];omega,fun x hx=>?_⟩;rcases List.mem_cons.1 hx with rfl|hx
   · simp
   · simp[this.2.2 x hx]
theorem ok.delW{p:NodM→WaitM→Bool}{f:NodM→WaitM→NodM}{P:WaitM→Prop}(hf: ∀n K w,P w→NodM.ok n K→(f n w).ok (K+1))(hP: ∀w∈n.waits,P w)(h:n.ok K):({(NodM.delW p f n.waits n).2 with waits:=(NodM.delW p f n.waits n).1}:NodM).ok (K+16):=by
 have hw:=h.w.n;obtain⟨g,h2,h3⟩:=delW_ok hf n.waits hP h (p:=p);have g:=g.le (show K+n.waits.length≤K+16 by omega);exact⟨g.a,g.p,g.n,g.t,g.o,⟨by dsimp only;omega,fun w hw=>((h.w.all w (h3 w hw)).le (by omega))⟩,g.s,g.out⟩
theorem nokT_set{t:T4}(h:NokT t)(i:Int){v:Int}(hv:N62 v):NokT (t.set i v):=by
 unfold T4.set;split
 ·exact⟨hv,h.b,h.c,h.d⟩
 ·split
  ·exact⟨h.a,hv,h.c,h.d⟩
  ·split
   · exact⟨h.a,h.b,hv,h.d⟩
   · exact⟨h.a,h.b,h.c,hv⟩
theorem ok.settleF(h:n.ok K){w:WaitM}(hw:1≤w.n∧w.n≤4611686018427387904):(n.settleF w).ok (K+1):=by
 have hg:=T4.get_n h.t.a h.t.b h.t.c h.t.d w.cl;have hm:N62 (max (n.done.get w.cl) w.n):=n62_max hg ⟨by omega,hw.2⟩;exact(show NodM.ok {n with done:=n.done.set w.cl (max (n.done.get w.cl) w.n)} K from⟨h.a,h.p,h.n,nokT_set h.t w.cl hm,h.o,h.w,h.s,h.out⟩).answer _ _ _
theorem ok.leads(h:n.ok K):n.leads.ok K:=⟨h.a,h.p,⟨h.n.left,h.n.epoch,h.n.mask,h.n.clock,h.n.born,h.n.change,h.n.loads,(by decide:(0:Int)≤3∧(3:Int)≤3),h.n.want,h.n.resync,h.n.quiet⟩,h.table,h.o,h.w,h.s,h.out⟩
structure RdOk(K:Nat)(j:Nat)(a:List WaitM × NodM):Prop where
 n:a.2.ok K
 len:a.1.length≤j
 all: ∀w∈a.1,w.ok K
theorem reads1_ok{n:NodM}{K j:Nat}{a:List WaitM × NodM}(h:RdOk K j a){w:WaitM}(hw:w.ok K):RdOk (K+1) (j+1) (n.reads1 a w):=by
 have g:=h.n.le (show K≤K+1 by omega);have hk: ∀w∈a.1,w.ok (K+1):=fun w hw=>(h.all w hw).le (by omega)
 have hlen:=h.len
 have keep:RdOk (K+1) (j+1) (a.1++[w],a.2):=⟨g,by simp;omega,fun y hy=>by
  rcases List.mem_append.1 hy with hy|hy
  ·exact hk y hy
  ·simp at hy;subst hy;exact hw.le (by omega)⟩
 unfold NodM.reads1;split
 ·split
  ·exact⟨h.n.given _ _,by dsimp only;omega,hk⟩
  ·have hl:=h.n.n.loads;have g2:NodM.ok {a.2 with loads:=a.2.loads+1} (K+1):=⟨g.a,g.p,⟨g.n.left,g.n.epoch,g.n.mask,g.n.clock,g.n.born,g.n.change,by dsimp only;omega,g.n.role,g.n.want,g.n.resync,g.n.quiet⟩,g.t,g.o,g.w,g.s,g.out⟩;have g3:NodM.ok ({a.2 with loads:=a.2.loads+1}.load w.blk (a.2.loads+1)) (K+1):=⟨g2.a,g2.p,g2.n,g2.t,g2.o,g2.w,g2.s,by have:=h.n.out;simp only[NodM.load,NodM.send,List.length_append,List.length_singleton];omega⟩;refine⟨g3,by simp;omega,fun y hy=>?_⟩;rcases List.mem_append.1 hy with hy|hy
   · exact hk y hy
   · simp at hy;subst hy;exact⟨hw.cl,hw.n,hw.op,hw.blk,hw.seq,by dsimp only;omega⟩
 ·split
  ·exact⟨h.n.answer _ _ _,by dsimp only;omega,hk⟩
  ·exact keep
theorem reads_fold{n:NodM}: ∀(l:List WaitM) {K j:Nat} {a:List WaitM × NodM},(∀w∈l,w.ok K)→RdOk K j a→RdOk (K+l.length) (j+l.length) (l.foldl n.reads1 a)
 | [],_,_,_,_,h=>h
 |w::l,K,j,a,hl,h=>by
  have:=reads_fold (n:=n) l (fun y hy=>(hl y (by simp[hy])).le (show K≤K+1 by omega)) (reads1_ok (n:=n) h (hl w (by simp)));rw[List.length_cons,show K+(l.length+1)=K+1+l.length by omega,show j+(l.length+1)=j+1+l.length by omega];exact this
theorem ok.reads(h:n.ok K):n.reads.ok (K+16):=by
 have hn:=h.w.n;have r:=reads_fold (n:=n) n.waits h.w.all (j:=0) (a:=([],n)) ⟨h,Nat.le_refl _,fun w hw=>by cases hw⟩;have g:=r.n.le (show K+n.waits.length≤K+16 by omega);have hl:=r.len;exact⟨g.a,g.p,g.n,g.t,g.o,⟨by show(n.waits.foldl n.reads1 ([],n)).1.length≤16;omega,fun w hw=>(r.all w hw).le (by omega)⟩,g.s,g.out⟩
theorem ok.settle1(h:n.ok K):n.settle1.ok (K+16):=h.delW (p:=settleP) (f:=NodM.settleF) (P:=fun w=>1≤w.n∧w.n≤4611686018427387904) (fun n K w hw h=>h.settleF hw) (fun w hw=>(h.w.all w hw).n)
theorem ok.settle2(h:n.ok K):n.settle2.ok K:=by unfold NodM.settle2;split;exact h.leads;exact h
theorem ok.settle4(h:n.ok K):n.settle4.ok (K+10):=by
 unfold NodM.settle4;split
 · exact h.le (by omega)
 split
 · exact(h.changes (mk:=3) (by decide)).le (by omega)
 · exact(ok_then (c:=8) h.note fun g=>g.puts).le (by omega)
theorem ok.settle(h:n.ok K):n.settle.ok (K+50):=h.settle1.settle2.reads.settle4.le (by omega)
theorem ok.setQ(h:n.ok K){rs q:Int}(hr:0≤rs∧rs≤2)(hq:0≤q∧q≤K):({n with resync:=rs,quiet:=q}:NodM).ok K:=
 ⟨h.a,h.p,⟨h.n.left,h.n.epoch,h.n.mask,h.n.clock,h.n.born,h.n.change,h.n.loads,h.n.role,h.n.want,hr,hq⟩,h.t,h.o,h.w,h.s,h.out⟩
theorem ok.setRole(h:n.ok K){r:Int}(hr:0≤r∧r≤3):({n with role:=r}:NodM).ok K:=
 ⟨h.a,h.p,⟨h.n.left,h.n.epoch,h.n.mask,h.n.clock,h.n.born,h.n.change,h.n.loads,hr,h.n.want,h.n.resync,h.n.quiet⟩,h.t,h.o,h.w,h.s,h.out⟩
theorem ok.ready(h:n.ok K):n.ready.ok (K+50):=by
 have g:=(h.setQ (rs:=2) (q:=0) (by decide) (zk K)).again;exact(ok_then (c:=10) g fun g=>(ok_then (c:=8) g.note fun g=>g.puts).le (by omega)).le (by omega)
theorem ok.recover1(h:n.ok K)(t:T4):(n.recover1 t).2.ok K:=by unfold NodM.recover1;split;exact h.cOk (note_done h.p.c _ _ _);exact h
theorem ok.recover2(h:n.ok K):n.recover2.2.ok K:=by unfold NodM.recover2;split;exact h.marks;exact h
theorem ok.recM(h:n.ok K):n.recM.ok (K+8):=(h.setRole (r:=2) (by decide)).puts
theorem ok.recA(h:n.ok K):n.recA.ok K:=(h.setS (.new _ n.s.last)).setRole (r:=3) (by decide)
theorem ok.recover3(h:n.ok K):n.recover3.ok (K+10):=by
 unfold NodM.recover3;split
 · exact(ok_then (c:=8) h.note fun g=>g.recM).le (by omega)
 · exact(ok_then (c:=0) h.sync fun g=>g.recA).le (by omega)
theorem ok.recDone(h:n.ok K):n.recDone.ok K:=⟨h.a,h.p,h.n,h.table,h.o,h.w,h.s,h.out⟩
theorem ok.recover(h:n.ok K)(t:T4):(n.recover t).ok (K+50):=
 ok_then (c:=50) (h.recover1 t) fun g=>ok_then (c:=50) g.recover2 fun g=>(ok_then (c:=10) (g.setS (.new K 0)).again fun g=>g.recDone.recover3).le (by omega)
theorem own_in(h:n.ok K):0≤n.own∧n.own≤3:=by unfold NodM.own;have:=h.a.id;omega
theorem ok.quiet0(h:n.ok K):n.quiet0.ok K:=⟨h.a,h.p,⟨h.n.left,h.n.epoch,h.n.mask,h.n.clock,h.n.born,h.n.change,h.n.loads,h.n.role,h.n.want,h.n.resync,zk K⟩,h.t,h.o,h.w,h.s,h.out⟩
theorem ok.tiredS(h:n.ok K):n.tiredS.ok K:=⟨h.a,h.p,⟨h.n.left,h.n.epoch,h.n.mask,h.n.clock,h.n.born,h.n.change,h.n.loads,h.n.role,h.n.want,z02,h.n.quiet⟩,h.t,h.o,h.w,.new _ _,h.out⟩
theorem ok.tired(h:n.ok K):n.tired.ok (K+50):=by
 have g:=h.quiet0;unfold NodM.tired NodM.tired1;split
 · exact(g.changes (own_in g)).le (by omega)
 · exact g.tiredS.settle
end NodM
end Go.Sl