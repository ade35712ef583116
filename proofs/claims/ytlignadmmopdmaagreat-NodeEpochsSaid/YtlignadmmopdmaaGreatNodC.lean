/- A part of the proof. -/
import Derived.Test.YtlignadmmopdmaaGreatNodA
set_option linter.unusedVariables false
set_option linter.unusedSimpArgs false
set_option linter.constructorNameAsVariable false
namespace Go.Sl
theorem aad{L:aU}{D:az}{s:Bytes}:(L.append D s).2.2.l.length=D.l.length:=by
 unfold aU.append;split
 ·rfl
 ·split
  ·rfl
  ·split
   · rfl
   · dsimp only;rw[kq]
theorem UA{L:aU}{D:az}{m:Int}:(L.trim D m).2.2.l.length=D.l.length:=by
 unfold aU.trim;split
 ·rfl
 ·split
  · exact fA
  · dsimp only;unfold aU.put;dsimp only;rw[vO];exact fA
theorem GM{C:aQ}{D:az}{r:bI}:(C.add D r).2.2.l.length=D.l.length:=aad
theorem xo{C:aQ}{D:az}:(C.again D).2.2.l.length=D.l.length:=by
 unfold aQ.again;split
 · exact GM
 · rfl
theorem NQ{C:aQ}{D:az}{m:Int}:(C.cut D m).2.2.l.length=D.l.length:=UA
theorem GP: ∀(f:Nat) (C:aQ) (D:az),(aQ.oS f C D).2.2.l.length=D.l.length
 |0,C,D=>rfl
 |f+1,C,D=>by
  unfold aQ.oS;split
  ·rfl
  ·split
   ·exact xo
   ·split
    · exact NQ.trans xo
    · exact(GP f _ _).trans (NQ.trans xo)
theorem nO{C:aQ}{D:az}{r:bI}:(C.eH D r).2.2.l.length=D.l.length:=by
 unfold aQ.eH;split
 · exact GP _ _ _
 · exact GM.trans (GP _ _ _)
structure jR(C:aQ)(D:az)(r:Int × aQ × az):Prop where
 ok:r.2.1.ok r.2.2
 bl:r.2.1.bl=C.bl
 l:r.2.2.l.length=D.l.length
theorem Wf(C:aQ)(D:az)(kind:Int)(x:bd)(ns:List Int):(m0 C D kind x ns).2.2.l.length=D.l.length:=by
 unfold m0;split
 ·unfold aQ.put;split
  ·rfl
  ·split
   ·rfl
   ·split
    ·rfl
    ·split
     ·exact nO
     ·split
      ·rfl
      ·split
       · exact nO
       · exact GM.trans nO
 ·split
  ·unfold aQ.clean;split
   ·rfl
   ·split
    ·rfl
    ·split
     ·rfl
     ·exact nO
  ·split
   ·unfold aQ.drop;split
    ·exact nO
    ·rfl
   ·split
    ·unfold aQ.note;split
     ·rfl
     ·exact nO
    ·split
     ·unfold aQ.reset;split
      ·rfl
      ·exact nO
     ·split
      ·exact fA
      ·rfl
theorem Jj(C:aQ)(D:az)(kind:Int)(x:bd)(ns:List Int):(m0 C D kind x ns).2.1.bl=C.bl:=by
 unfold m0;split
 ·unfold aQ.put;split
  ·rfl
  ·split
   ·rfl
   ·split
    ·rfl
    ·split
     ·exact aQ.kl.1
     ·split
      ·rfl
      ·split
       · exact aQ.kl.1
       · exact aQ.xe.1.trans aQ.kl.1
 ·split
  ·unfold aQ.clean;split
   ·rfl
   ·split
    ·rfl
    ·split
     ·rfl
     ·exact aQ.kl.1
  ·split
   ·unfold aQ.drop;split
    ·exact aQ.kl.1
    ·rfl
   ·split
    ·unfold aQ.note;split
     ·rfl
     ·exact aQ.kl.1
    ·split
     ·unfold aQ.reset;split
      ·rfl
      ·exact aQ.kl.1
     ·split<;>rfl
theorem m7{C:aQ}{D:az}(h:C.ok D)(kind:Int)(x:bd)(ns:List Int):jR C D (m0 C D kind x ns):=⟨N3 h kind x ns,Jj C D kind x ns,Wf C D kind x ns⟩
section
variable {C : aQ} {D : az} (h : C.ok D)
theorem lJ(h:C.ok D)(x:bd):jR C D (C.put D x):=m7 h 0 x []
theorem nR(h:C.ok D)(b e s:Int):jR C D (C.clean D b e s):=m7 h 1 ⟨b,e,s,[],false,0,0⟩ []
theorem AA(h:C.ok D)(b:Int):jR C D (C.drop D b):=m7 h 2 ⟨b,0,0,[],false,0,0⟩ []
theorem kb(h:C.ok D)(e s:Int)(ns:List Int):jR C D (C.note D e s ns):=m7 h 3 ⟨0,e,s,[],false,0,0⟩ ns
theorem ow(h:C.ok D)(e s:Int)(ns:List Int):jR C D (C.reset D e s ns):=m7 h 8 ⟨0,e,s,[],false,0,0⟩ ns
theorem uV(h:C.ok D):jR C D (C.sync D):=m7 h 4 .zero []
end
structure am6(id serial lease patience blocks:Int):Prop where
 id:id=0∨id=1
 serial:gg serial
 lease:1≤lease∧lease≤1048576
 patience:1≤patience∧patience≤1048576
 blocks:1≤blocks∧blocks≤32
structure wa(blocks:Int)(f:a8)(dr:eX)(c:aQ)(d:az):Prop where
 f:f.ok d.l.length
 dn:(dr.n:Int)=blocks
 bl:(c.bl:Int)=blocks
 dr:dr.ok d
 c:c.ok d
structure SS(K:Nat)(left ah mask clock born change cT role want cm quiet:Int):Prop where
 left:0≤left∧left≤1048576
 ah:gg ah
 mask:gg mask
 clock:0≤clock∧clock≤K
 born:0≤born∧born≤536870912
 change:0≤change∧change≤K
 cT:0≤cT∧cT≤K
 role:0≤role∧role≤3
 want:0≤want∧want≤3
 cm:0≤cm∧cm≤2
 quiet:0≤quiet∧quiet≤K
structure Nm(t:T4):Prop where
 a:gg t.a
 b:gg t.b
 c:gg t.c
 d:gg t.d
structure ar.ok(K:Nat)(w:ar):Prop where
 cl:0≤w.cl∧w.cl≤3
 n:1≤w.n∧w.n≤4611686018427387904
 op:0≤w.op∧w.op≤4
 bE: -1≤w.bE∧w.bE≤31
 seq:gg w.seq
 load:0≤w.load∧w.load≤K
structure SU(K:Nat)(l:List ar):Prop where
 n:l.length≤16
 all: ∀w∈l,w.ok K
structure dY.ok(x:dY):Prop where
 seq:gg x.seq
 bE: -1≤x.bE∧x.bE≤31
 data:x.data.length≤8
 cl: -1≤x.cl∧x.cl≤3
 n:gg x.n
structure mG(K:Nat)(s:dC):Prop where
 dV:gg s.dV
 last:s.last≤4611686018427387904
 n:s.l.length≤K
 all: ∀x∈s.l,x.ok
structure aa.ok(x:aa)(K:Nat):Prop where
 a:am6 x.id x.serial x.lease x.patience x.blocks
 p:wa x.blocks x.f x.dr x.c x.d
 n:SS K x.left x.ah x.mask x.clock x.born x.change x.cT x.role x.want x.cm x.quiet
 t:Nm x.done
 o:Nm x.fj
 w:SU K x.waits
 s:mG K x.s
 out:x.out.length≤K
theorem ar.ok.le{K K':Nat}{w:ar}(h:w.ok K)(hk:K≤K'):w.ok K':=⟨h.cl,h.n,h.op,h.bE,h.seq,by have:=h.load;omega⟩
theorem SS.le{K K':Nat}{left ah mask clock born change cT role want cm quiet:Int}(h:SS K left ah mask clock born change cT role want cm quiet)(hk:K≤K'):SS K' left ah mask clock born change cT role want cm quiet:=
 ⟨h.left,h.ah,h.mask,by have:=h.clock;omega,h.born,by have:=h.change;omega,by have:=h.cT;omega,h.role,h.want,h.cm,by have:=h.quiet;omega⟩
theorem SU.le{K K':Nat}{l:List ar}(h:SU K l)(hk:K≤K'):SU K' l:=⟨h.n,fun w hw=>(h.all w hw).le hk⟩
theorem mG.le{K K':Nat}{s:dC}(h:mG K s)(hk:K≤K'):mG K' s:=⟨h.dV,h.last,by have:=h.n;omega,h.all⟩
theorem aa.ok.le{n:aa}{K K':Nat}(h:n.ok K)(hk:K≤K'):n.ok K':=⟨h.a,h.p,h.n.le hk,h.t,h.o,h.w.le hk,h.s.le hk,by have:=h.out;omega⟩
theorem mG.new(K:Nat)(b:Int):mG K (dC.new b):=⟨by unfold dC.new gg;dsimp only;omega,by unfold dC.new dC.last;simp only[List.length_nil];omega,Nat.zero_le _,fun x hx=>by simp[dC.new]at hx⟩
theorem wa.cache{blocks:Int}{f:a8}{dr:eX}{c:aQ}{d:az}(h:wa blocks f dr c d){r:Int × aQ × az}(hr:jR c d r):wa blocks f dr r.2.1 r.2.2:=
 ⟨by rw[hr.l];exact h.f,h.dn,by rw[hr.bl];exact h.bl,⟨by rw[hr.l];exact h.dr.c,h.dr.n,h.dr.bits,hr.ok.d⟩,hr.ok⟩
theorem aQ.ok.at{c:aQ}{d d':az}(h:c.ok d)(hd:d'.ok)(hl:d'.l.length=d.l.length):c.ok d':=by
 have l:=h.l;exact⟨⟨l.n,by rw[hl];exact l.first,by rw[hl];exact l.c,l.head,l.time,l.least,l.l,l.M9,l.tail,hd⟩,h.bl,h.n,h.n8,h.m,h.k,h.en,h.keys,h.pv,h.pn⟩
theorem wa.facts{blocks:Int}{f:a8}{dr:eX}{c:aQ}{d:az}(h:wa blocks f dr c d)(s:Bytes):wa blocks (f.put d s).2.1 dr c (f.put d s).2.2:=by
 have hp:=Go.Sl.mO h.f h.c.d s;have hl:(f.put d s).2.2.l.length=d.l.length:=vO;exact⟨by rw[hl];exact hp.1,h.dn,h.bl,⟨by rw[hl];exact h.dr.c,h.dr.n,h.dr.bits,hp.2⟩,h.c.at hp.2 hl⟩
theorem AB{L:eX}{D:az}(h:L.ok D){b:Nat}(hb:b<2^ef L.n):(L.set D b).2.1.ok (L.set D b).2.2∧(L.set D b).2.1.n=L.n∧(L.set D b).2.2.l.length=D.l.length:=by
 have hp:=Go.Sl.mO h.c h.d (iC (ef L.n) b);have hl:(L.c.put D (iC (ef L.n) b)).2.2.l.length=D.l.length:=vO;unfold eX.set;refine⟨⟨?_,h.n,?_,hp.2⟩,rfl,hl⟩
 ·dsimp only;rw[hl];exact hp.1
 ·dsimp only;split
  · exact hb
  · exact h.bits
theorem wa.marks{blocks:Int}{f:a8}{dr:eX}{c:aQ}{d:az}(h:wa blocks f dr c d){r:Int × eX × az}(hr:r.2.1.ok r.2.2∧r.2.1.n=dr.n∧r.2.2.l.length=d.l.length):wa blocks f r.2.1 c r.2.2:=
 ⟨by rw[hr.2.2];exact h.f,by rw[hr.2.1];exact h.dn,h.bl,hr.1,h.c.at hr.1.d hr.2.2⟩
end Go.Sl
namespace Go.Sl
namespace aa
variable {n : aa} {K : Nat}
theorem z03:(0:Int)≤0∧(0:Int)≤3:=by decide
theorem z02:(0:Int)≤0∧(0:Int)≤2:=by decide
theorem zl:(0:Int)≤0∧(0:Int)≤1048576:=by decide
theorem zk(K:Nat):(0:Int)≤0∧(0:Int)≤K:=by omega
theorem ok.err(h:n.ok K)(e:Int):(n.err e).ok K:=⟨h.a,h.p,h.n,h.t,h.o,h.w,h.s,h.out⟩
theorem ok.send(h:n.ok K)(to:Int)(m:aM):(n.send to m).ok (K+1):=
 ⟨h.a,h.p,h.n.le (by omega),h.t,h.o,h.w.le (by omega),h.s.le (by omega),by have:=h.out;simp only[aa.send,List.length_append,List.length_singleton];omega⟩
theorem ok.bf(h:n.ok K){r:Int × aQ × az}(hr:jR n.c n.d r):(n.bf r).ok K:=⟨h.a,h.p.cache hr,h.n,h.t,h.o,h.w,h.s,h.out⟩
theorem ok.iO(h:n.ok K){r:Int × aQ × az}(hr:jR n.c n.d r):(n.iO r).2.ok K:=(h.bf hr).err _
theorem ok.BM(h:n.ok K){r:Int × eX × az}(hr:r.2.1.ok r.2.2∧r.2.1.n=n.dr.n∧r.2.2.l.length=n.d.l.length):(n.BM r).2.ok K:=⟨h.a,h.p.marks hr,h.n,h.t,h.o,h.w,h.s,h.out⟩
theorem ok.mark(h:n.ok K)(b:Int):(n.BM (n.dr.mark n.d b)).2.ok K:=by
 refine h.BM ?_;have hd:=h.p.dr;unfold eX.mark;split
 ·exact⟨hd,rfl,rfl⟩
 ·rename_i hi
  split
  ·exact⟨hd,rfl,rfl⟩
  ·refine AB hd ?_;have ee:zF n.dr.n b=true:=by simpa using hi
   unfold zF at ee;simp only[Bool.and_eq_true,decide_eq_true_eq]at ee;exact Kf hd.bits (by unfold zF ef;simp only[Bool.and_eq_true,decide_eq_true_eq];omega)
theorem ok.To(h:n.ok K)(s:Bytes):(n.To (n.f.put n.d s)).2.ok K:=⟨h.a,h.p.facts s,h.n,h.t,h.o,h.w,h.s,h.out⟩
theorem ok.sync(h:n.ok K):n.sync.2.ok K:=h.iO (uV h.p.c)
theorem ok.forget(h:n.ok K):n.forget.ok K:=
 ⟨h.a,h.p,⟨h.n.left,h.n.ah,h.n.mask,h.n.clock,h.n.born,h.n.change,h.n.cT,z03,z03,z02,zk K⟩,h.t,h.o,⟨Nat.zero_le _,fun w hw=>by cases hw⟩,.new K 0,h.out⟩
theorem ok.du(h:n.ok K):n.du.ok K:=by
 have g:=h.forget;exact⟨g.a,g.p,⟨zl,g.n.ah,g.n.mask,g.n.clock,g.n.born,g.n.change,g.n.cT,g.n.role,g.n.want,g.n.cm,g.n.quiet⟩,g.t,g.o,g.w,g.s,g.out⟩
theorem ok.table(h:n.ok K):Nm n.table:=by
 have k:=h.p.c.k;exact⟨k.a,k.b,k.c,k.d⟩
theorem fq{r:Bool × aa}{f:aa→aa}{K c:Nat}(h:r.2.ok K)(hf:r.2.ok K→(f r.2).ok (K+c)):(andThen r f).ok (K+c):=by
 unfold andThen;split
 · exact hf h
 · exact h.le (by omega)
theorem mw{r:Bool × aa}{f:aa→Bool × aa}{K c:Nat}(h:r.2.ok K)(hf:r.2.ok K→(f r.2).2.ok (K+c)):(gz r f).2.ok (K+c):=by
 unfold gz;split
 · exact hf h
 · exact h.le (by omega)
theorem ok.eC(h:n.ok K){e:Int}(he:gg e):(n.eC e).2.ok K:=by
 unfold aa.eC;split
 · exact h
 · exact mw (c:=0) (h.du.To (cR e)) fun g=>⟨g.a,g.p,⟨g.n.left,he,g.n.mask,g.n.clock,g.n.born,g.n.change,g.n.cT,g.n.role,g.n.want,g.n.cm,g.n.quiet⟩,g.t,g.o,g.w,g.s,g.out⟩
theorem Kn{s:Int}(h:gg s):0≤s.tmod 16384∧s.tmod 16384≤16383:=by
 unfold gg at h;rw[Int.tmod_eq_emod_of_nonneg h.1];omega
theorem ok.iF(h:n.ok K){e:Int}(he:gg e):(n.iF e).2.ok K:=by
 have g:(n.k8 (n.f.put n.d (cR e))).ok K:=⟨h.a,h.p.facts _,h.n,h.t,h.o,h.w,h.s,h.out⟩;unfold aa.iF;dsimp only;split
 ·exact g
 ·split
  ·exact g
  ·rename_i h1 h2
   have h3:=Kn h.a.serial;have h4:=(h.p.facts (cR e)).f.gen;exact⟨g.a,g.p,⟨g.n.left,he,g.n.mask,g.n.clock,⟨by dsimp only;omega,by dsimp only;omega⟩,g.n.change,g.n.cT,g.n.role,g.n.want,g.n.cm,g.n.quiet⟩,g.t,g.o,g.w,g.s,g.out⟩
theorem ok.load(h:n.ok K)(b q:Int):(n.load b q).ok (K+1):=h.send _ _
theorem ok.store(h:n.ok K)(x:bd)(cl q:Int):(n.store x cl q).ok (K+1):=h.send _ _
theorem ok.put(h:n.ok K)(x:dY):(n.put x).ok (K+1):=h.send _ _
theorem ok.answer(h:n.ok K)(w:ar)(e:Int)(b:Bytes):(n.answer w e b).ok (K+1):=h.send _ _
theorem ok.given(h:n.ok K)(w:ar)(b:Bytes):(n.given w b).ok (K+1):=by unfold aa.given;split<;>exact h.answer _ _ _
theorem tj{α:Type}(f:aa→α→aa)(hf: ∀n K x,aa.ok n K→(f n x).ok (K+1)): ∀(l:List α) {n:aa} {K:Nat},n.ok K→(l.foldl f n).ok (K+l.length)
 | [],_,_,h=>h
 |x::l,n,K,h=>by
  have:=tj f hf l (hf n K x h);rw[List.length_cons,show K+(l.length+1)=K+1+l.length by omega];exact this
theorem ok.kW(h:n.ok K):n.kW.ok (K+8):=by
 have:=tj aa.put (fun n K x h=>h.put x) (n.s.l.take 8) h;exact this.le (by rw[List.length_take];omega)
theorem ok.Vs(h:n.ok K){mk:Int}(hm:0≤mk∧mk≤3):({n with change:=n.change+1,want:=mk}:aa).ok (K+1):=by
 have g:=h.le (show K≤K+1 by omega);exact⟨g.a,g.p,⟨g.n.left,g.n.ah,g.n.mask,g.n.clock,g.n.born,by have:=h.n.change;dsimp only;omega,g.n.cT,g.n.role,hm,g.n.cm,g.n.quiet⟩,g.t,g.o,g.w,g.s,g.out⟩
theorem ok.changes(h:n.ok K){mk:Int}(hm:0≤mk∧mk≤3):(n.changes mk).ok (K+2):=by
 unfold aa.changes;dsimp only;split
 · exact(h.Vs hm).send _ _
 · exact(h.le (show K≤K+1 by omega)).send _ _
theorem wE:gg 0:=⟨by decide,by decide⟩
theorem _root_.Go.Sl.mG.add{K:Nat}{s:dC}(h:mG K s){x:dY}(hx:x.ok):mG (K+1) (s.add x).2:=by
 unfold dC.add;split
 ·exact h.le (by omega)
 ·rename_i hn
  have hl:=h.last;have ha:=h.dV;have hk:=h.n;have e:s.last=s.dV+s.l.length:=rfl;unfold gg at ha;refine⟨h.dV,?_,by simp;omega,fun y hy=>?_⟩
  ·unfold dC.last;simp only[List.length_append,List.length_singleton];omega
  ·rcases List.mem_append.1 hy with hy|hy
   · exact h.all y hy
   · simp at hy;subst hy;exact⟨by unfold gg;dsimp only;omega,hx.bE,hx.data,hx.cl,hx.n⟩
theorem _root_.Go.Sl.mG.wL{K:Nat}{s:dC}(h:mG K s)(x:dY):gg (s.add x).1.1:=by
 have hl:=h.last;have ha:=h.dV;have e:s.last=s.dV+s.l.length:=rfl;unfold dC.add gg at*;split
 · dsimp only;omega
 · dsimp only;omega
theorem ok.y5(h:n.ok K){s:dC}(hs:mG K s):({n with s:=s}:aa).ok K:=⟨h.a,h.p,h.n,h.t,h.o,h.w,hs,h.out⟩
theorem ok.td(h:n.ok K):n.td.ok (K+1):=(h.le (show K≤K+1 by omega)).y5 (h.s.add ⟨wE,by decide,by decide,by decide,wE⟩)
theorem ok.note(h:n.ok K):n.note.2.ok (K+1):=by
 unfold aa.note;split
 · exact h.le (by omega)
 · exact mw (c:=0) (h.td.iO (kb h.p.c _ _ _)) fun g=>(show aa.ok {(n.td.iO (n.c.note n.d n.ah (n.s.add ⟨0,-1,[],-1,0⟩).1.1 n.done.l)).2 with fj:=(n.td.iO (n.c.note n.d n.ah (n.s.add ⟨0,-1,[],-1,0⟩).1.1 n.done.l)).2.done} (K+1)from⟨g.a,g.p,g.n,g.t,g.t,g.w,g.s,g.out⟩).sync
theorem ti{α:Type}(f:aa→α→Bool × aa)(c:Nat)(P:α→Prop)(hf: ∀n K x,P x→aa.ok n K→(f n x).2.ok (K+c)): ∀(l:List α) {n:aa} {K:Nat},(∀x∈l,P x)→n.ok K→(ia f l n).2.ok (K+c*l.length)
 | [],_,_,_,h=>h
 |x::l,n,K,hp,h=>by
  have h1:=hf n K x (hp x (by simp)) h;have e:K+c*(x::l).length=K+c+c*l.length:=by rw[List.length_cons,Nat.mul_succ];omega
  unfold ia;split
  · exact h1.le (by rw[e];omega)
  · rw[e];exact ti f c P hf l (fun y hy=>hp y (by simp[hy])) h1
theorem ok.mc(h:n.ok K)(b:Int){f:ar→ar}(hf: ∀w,w.ok K→(f w).ok K):(n.mc b f).ok K:=by
 unfold aa.mc;split
 ·refine⟨h.a,h.p,h.n,h.t,h.o,⟨by dsimp only;rw[List.length_modify];exact h.w.n,fun w hw=>?_⟩,h.s,h.out⟩;dsimp only at hw
  rename_i i _
  obtain⟨j,hj,e⟩:=List.mem_iff_getElem.1 hw;rw[List.getElem_modify]at e;have MZ:j<n.waits.length:=by simpa using hj
  have hm:=h.w.all _ (List.getElem_mem MZ);split at e
  · rw[←e];exact hf _ hm
  · rw[←e];exact hm
 ·exact h
theorem ui(h:n.ok K): ∀x∈n.c.all,x.ok n.c.bl:=by
 intro x hx;unfold aQ.all fL at hx;obtain⟨i,_,e⟩:=List.mem_filterMap.1 hx;exact(jG h.p.c e).1
theorem pY(h:n.ok K):n.c.all.length≤32:=by
 have h1:=mV n.c n.c.bl;have h2:=h.p.c.bl;show(fL n.c n.c.bl).length≤32;omega
theorem WG{x:bd}{m:Nat}(hx:x.ok m)(hm:m≤32):(jw x).ok:=by
 have hb:=hx.bE;exact⟨wE,⟨by show-1≤x.bE;omega,by show x.bE≤31;omega⟩,Nat.le_of_eq hx.data,hx.cl,hx.n⟩
theorem ok.nM(h:n.ok K){x:bd}(hx:(jw x).ok):(n.nM x).ok (K+1):=(h.le (show K≤K+1 by omega)).y5 (h.s.add hx)
theorem ok.eS(h:n.ok K){x:bd}{m:Nat}(hx:x.ok m)(hm:m≤32):(n.eS x).2.ok (K+1):=by
 have g:=h.nM (WG hx hm);have hq:=h.s.wL (jw x);unfold aa.eS;split
 · exact h.le (by omega)
 split
 · exact g.err _
 · exact mw (c:=0) (g.iO (lJ h.p.c _)) fun g2=>g2.mc _ fun w hw=>⟨hw.cl,hw.n,hw.op,hw.bE,hq,hw.load⟩
theorem ok.again(h:n.ok K):n.again.2.ok (K+32):=by
 have:=ti aa.eS 1 (fun x=>x.ok n.c.bl) (fun n' K x hx h'=>h'.eS hx h.p.c.bl.2) n.c.all (ui h) h;exact this.le (by have:=pY h;omega)
theorem ok.marks(h:n.ok K):n.marks.2.ok K:=by
 have:=ti aa.gE 0 (fun _=>True) (fun n' K x _ h'=>by unfold aa.gE;split;exact h';exact h'.mark _) n.c.all (fun _ _=>trivial) h;exact this.le (by omega)
theorem BN{p:aa→ar→Bool}{f:aa→ar→aa}{P:ar→Prop}(hf: ∀n K w,P w→aa.ok n K→(f n w).ok (K+1)): ∀(l:List ar) {n:aa} {K:Nat},(∀w∈l,P w)→n.ok K→(hY p f l n).2.ok (K+l.length)∧(hY p f l n).1.length≤l.length∧ ∀w∈(hY p f l n).1,w∈l
 | [],_,_,_,h=>⟨h,Nat.le_refl _,fun w hw=>by cases hw⟩
 |w::l,n,K,hP,h=>by
  have hP2: ∀w∈l,P w:=fun y hy=>hP y (by simp[hy])
  unfold hY;split
  ·have:=BN hf l hP2 (hf n K w (hP w (by simp)) h) (p:=p);refine⟨this.1.le (by rw[List.length_cons];omega),by rw[List.length_cons];omega,fun x hx=>by simp[this.2.2 x hx]⟩
  ·have:=BN hf l hP2 h (p:=p);refine⟨this.1.le (by rw[List.length_cons];omega),by dsimp only;rw[List.length_cons,List.length_cons];omega,fun x hx=>?_⟩;rcases List.mem_cons.1 hx with rfl|hx
   · simp
   · simp[this.2.2 x hx]
theorem ok.hY{p:aa→ar→Bool}{f:aa→ar→aa}{P:ar→Prop}(hf: ∀n K w,P w→aa.ok n K→(f n w).ok (K+1))(hP: ∀w∈n.waits,P w)(h:n.ok K):({(aa.hY p f n.waits n).2 with waits:=(aa.hY p f n.waits n).1}:aa).ok (K+16):=by
 have hw:=h.w.n;obtain⟨g,h2,h3⟩:=BN hf n.waits hP h (p:=p);have g:=g.le (show K+n.waits.length≤K+16 by omega);exact⟨g.a,g.p,g.n,g.t,g.o,⟨by dsimp only;omega,fun w hw=>((h.w.all w (h3 w hw)).le (by omega))⟩,g.s,g.out⟩
theorem Qt{t:T4}(h:Nm t)(i:Int){v:Int}(hv:gg v):Nm (t.set i v):=by
 unfold T4.set;split
 ·exact⟨hv,h.b,h.c,h.d⟩
 ·split
  ·exact⟨h.a,hv,h.c,h.d⟩
  ·split
   · exact⟨h.a,h.b,hv,h.d⟩
   · exact⟨h.a,h.b,h.c,hv⟩
theorem ok.je(h:n.ok K){w:ar}(hw:1≤w.n∧w.n≤4611686018427387904):(n.je w).ok (K+1):=by
 have hg:=T4.Wj h.t.a h.t.b h.t.c h.t.d w.cl;have hm:gg (max (n.done.get w.cl) w.n):=qk hg ⟨by omega,hw.2⟩;exact(show aa.ok {n with done:=n.done.set w.cl (max (n.done.get w.cl) w.n)} K from⟨h.a,h.p,h.n,Qt h.t w.cl hm,h.o,h.w,h.s,h.out⟩).answer _ _ _
theorem ok.leads(h:n.ok K):n.leads.ok K:=⟨h.a,h.p,⟨h.n.left,h.n.ah,h.n.mask,h.n.clock,h.n.born,h.n.change,h.n.cT,(by decide:(0:Int)≤3∧(3:Int)≤3),h.n.want,h.n.cm,h.n.quiet⟩,h.table,h.o,h.w,h.s,h.out⟩
structure No(K:Nat)(j:Nat)(a:List ar × aa):Prop where
 n:a.2.ok K
 len:a.1.length≤j
 all: ∀w∈a.1,w.ok K
theorem Mo{n:aa}{K j:Nat}{a:List ar × aa}(h:No K j a){w:ar}(hw:w.ok K):No (K+1) (j+1) (n.fP a w):=by
 have g:=h.n.le (show K≤K+1 by omega);have hk: ∀w∈a.1,w.ok (K+1):=fun w hw=>(h.all w hw).le (by omega)
 have hlen:=h.len
 have Pu:No (K+1) (j+1) (a.1++[w],a.2):=⟨g,by simp;omega,fun y hy=>by
  rcases List.mem_append.1 hy with hy|hy
  ·exact hk y hy
  ·simp at hy;subst hy;exact hw.le (by omega)⟩
 unfold aa.fP;split
 ·split
  ·exact⟨h.n.given _ _,by dsimp only;omega,hk⟩
  ·have hl:=h.n.n.cT;have g2:aa.ok {a.2 with cT:=a.2.cT+1} (K+1):=⟨g.a,g.p,⟨g.n.left,g.n.ah,g.n.mask,g.n.clock,g.n.born,g.n.change,by dsimp only;omega,g.n.role,g.n.want,g.n.cm,g.n.quiet⟩,g.t,g.o,g.w,g.s,g.out⟩;have g3:aa.ok ({a.2 with cT:=a.2.cT+1}.load w.bE (a.2.cT+1)) (K+1):=⟨g2.a,g2.p,g2.n,g2.t,g2.o,g2.w,g2.s,by have:=h.n.out;simp only[aa.load,aa.send,List.length_append,List.length_singleton];omega⟩;refine⟨g3,by simp;omega,fun y hy=>?_⟩;rcases List.mem_append.1 hy with hy|hy
   · exact hk y hy
   · simp at hy;subst hy;exact⟨hw.cl,hw.n,hw.op,hw.bE,hw.seq,by dsimp only;omega⟩
 ·split
  ·exact⟨h.n.answer _ _ _,by dsimp only;omega,hk⟩
  ·exact Pu
theorem yQ{n:aa}: ∀(l:List ar) {K j:Nat} {a:List ar × aa},(∀w∈l,w.ok K)→No K j a→No (K+l.length) (j+l.length) (l.foldl n.fP a)
 | [],_,_,_,_,h=>h
 |w::l,K,j,a,hl,h=>by
  have:=yQ (n:=n) l (fun y hy=>(hl y (by simp[hy])).le (show K≤K+1 by omega)) (Mo (n:=n) h (hl w (by simp)));rw[List.length_cons,show K+(l.length+1)=K+1+l.length by omega,show j+(l.length+1)=j+1+l.length by omega];exact this
theorem ok.reads(h:n.ok K):n.reads.ok (K+16):=by
 have hn:=h.w.n;have r:=yQ (n:=n) n.waits h.w.all (j:=0) (a:=([],n)) ⟨h,Nat.le_refl _,fun w hw=>by cases hw⟩;have g:=r.n.le (show K+n.waits.length≤K+16 by omega);have hl:=r.len;exact⟨g.a,g.p,g.n,g.t,g.o,⟨by show(n.waits.foldl n.fP ([],n)).1.length≤16;omega,fun w hw=>(r.all w hw).le (by omega)⟩,g.s,g.out⟩
theorem ok.fv(h:n.ok K):n.fv.ok (K+16):=h.hY (p:=fW) (f:=aa.je) (P:=fun w=>1≤w.n∧w.n≤4611686018427387904) (fun n K w hw h=>h.je hw) (fun w hw=>(h.w.all w hw).n)
theorem ok.eo(h:n.ok K):n.eo.ok K:=by unfold aa.eo;split;exact h.leads;exact h
theorem ok.eP(h:n.ok K):n.eP.ok (K+10):=by
 unfold aa.eP;split
 · exact h.le (by omega)
 split
 · exact(h.changes (mk:=3) (by decide)).le (by omega)
 · exact(fq (c:=8) h.note fun g=>g.kW).le (by omega)
theorem ok.settle(h:n.ok K):n.settle.ok (K+50):=h.fv.eo.reads.eP.le (by omega)
theorem ok.ak2(h:n.ok K){rs q:Int}(hr:0≤rs∧rs≤2)(hq:0≤q∧q≤K):({n with cm:=rs,quiet:=q}:aa).ok K:=
 ⟨h.a,h.p,⟨h.n.left,h.n.ah,h.n.mask,h.n.clock,h.n.born,h.n.change,h.n.cT,h.n.role,h.n.want,hr,hq⟩,h.t,h.o,h.w,h.s,h.out⟩
theorem ok.Kk(h:n.ok K){r:Int}(hr:0≤r∧r≤3):({n with role:=r}:aa).ok K:=
 ⟨h.a,h.p,⟨h.n.left,h.n.ah,h.n.mask,h.n.clock,h.n.born,h.n.change,h.n.cT,hr,h.n.want,h.n.cm,h.n.quiet⟩,h.t,h.o,h.w,h.s,h.out⟩
theorem ok.ready(h:n.ok K):n.ready.ok (K+50):=by
 have g:=(h.ak2 (rs:=2) (q:=0) (by decide) (zk K)).again;exact(fq (c:=10) g fun g=>(fq (c:=8) g.note fun g=>g.kW).le (by omega)).le (by omega)
theorem ok.gO(h:n.ok K)(t:T4):(n.gO t).2.ok K:=by unfold aa.gO;split;exact h.iO (kb h.p.c _ _ _);exact h
theorem ok.cF(h:n.ok K):n.cF.2.ok K:=by unfold aa.cF;split;exact h.marks;exact h
theorem ok.Mq(h:n.ok K):n.Mq.ok (K+8):=(h.Kk (r:=2) (by decide)).kW
theorem ok.mf(h:n.ok K):n.mf.ok K:=(h.y5 (.new _ n.s.last)).Kk (r:=3) (by decide)
theorem ok.dX(h:n.ok K):n.dX.ok (K+10):=by
 unfold aa.dX;split
 · exact(fq (c:=8) h.note fun g=>g.Mq).le (by omega)
 · exact(fq (c:=0) h.sync fun g=>g.mf).le (by omega)
theorem ok.bP(h:n.ok K):n.bP.ok K:=⟨h.a,h.p,h.n,h.table,h.o,h.w,h.s,h.out⟩
theorem ok.recover(h:n.ok K)(t:T4):(n.recover t).ok (K+50):=
 fq (c:=50) (h.gO t) fun g=>fq (c:=50) g.cF fun g=>(fq (c:=10) (g.y5 (.new K 0)).again fun g=>g.bP.dX).le (by omega)
theorem Q7(h:n.ok K):0≤n.own∧n.own≤3:=by unfold aa.own;have:=h.a.id;omega
theorem ok.df(h:n.ok K):n.df.ok K:=⟨h.a,h.p,⟨h.n.left,h.n.ah,h.n.mask,h.n.clock,h.n.born,h.n.change,h.n.cT,h.n.role,h.n.want,h.n.cm,zk K⟩,h.t,h.o,h.w,h.s,h.out⟩
theorem ok.mR(h:n.ok K):n.mR.ok K:=⟨h.a,h.p,⟨h.n.left,h.n.ah,h.n.mask,h.n.clock,h.n.born,h.n.change,h.n.cT,h.n.role,h.n.want,z02,h.n.quiet⟩,h.t,h.o,h.w,.new _ _,h.out⟩
theorem ok.k6(h:n.ok K):n.k6.ok (K+50):=by
 have g:=h.df;unfold aa.k6 aa.ze;split
 · exact(g.changes (Q7 g)).le (by omega)
 · exact g.mR.settle
end aa
end Go.Sl