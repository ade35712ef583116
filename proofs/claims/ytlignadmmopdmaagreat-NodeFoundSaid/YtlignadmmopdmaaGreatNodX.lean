/- A part of the proof. -/
import Derived.Test.YtlignadmmopdmaaGreatNodU
import Derived.Test.YtlignadmmopdmaaGreatNodV
set_option linter.unusedVariables false
set_option linter.unusedSimpArgs false
set_option linter.constructorNameAsVariable false
namespace Go.Sl
theorem ca_one{n N k:Nat}{D:Dev}{h t le bl:Int}(g:LDev 6 n 4 5 D N k h t le [])(hk:k<1000)(hn:8≤n)(hb:1≤bl∧bl≤32):
  (caOpen D 6 n 4 5 bl).1=0∧LDev 6 n 4 5 (caOpen D 6 n 4 5 bl).2.2 N (k+1) h (t+1) le []∧ ∀j:Int,0≤j→j<N→j≠4→j≠5→(caOpen D 6 n 4 5 bl).2.2.sec j=D.sec j:=by
 obtain⟨D',h1,h2,h3⟩:=g.opened (by omega);unfold caOpen;rw[if_neg (by omega),h1];exact⟨rfl,h2,h3⟩
theorem ca_es: ∀b:Nat,b<10→(caOpen (Dev.new 20) 6 14 4 5 b).2.2.es.isEmpty=true:=by decide+kernel
/-- A device as a node without records leaves it. -/
structure NdF(D:Dev)(k:Nat):Prop where
 g: ∃h t le,LDev 6 14 4 5 D 20 k h t le []
 g0:(openC D 0 1).gen≤k
 g2:(openC D 2 3).gen≤k
theorem NdF.up{D:Dev}{k:Nat}(g:NdF D k):Up D 20:=by obtain⟨h,t,le,h1⟩:=g.g;exact h1.up
theorem NdF.aside{D D':Dev}{k:Nat}(g:NdF D k)(hU:Up D' 20)(hs: ∀j:Int,0≤j→j<20→4≤j→D'.sec j=D.sec j)(h0:(openC D' 0 1).gen≤k+1)(h2:(openC D' 2 3).gen≤k+1):NdF D' (k+1):=by
 obtain⟨h,t,le,h1⟩:=g.g;refine⟨⟨h,t,le,(h1.aside hU fun j a b hc=>hs j a b ?_).1.up1⟩,h0,h2⟩;rcases hc with hc|hc|hc
 · omega
 · omega
 · unfold inRing at hc;omega
theorem nf_put{D:Dev}{k:Nat}(g:NdF D k)(hk:k<1000){e:Int}(he:N62 e):
  ((openC D 0 1).put D (factB e)).1=0∧((openC D 0 1).put D (factB e)).2.1.gen≤k+1∧NdF ((openC D 0 1).put D (factB e)).2.2 (k+1)∧((openC D 0 1).put D (factB e)).2.2.es=[]∧(openC ((openC D 0 1).put D (factB e)).2.2 0 1).text=factB e∧openC ((openC D 0 1).put D (factB e)).2.2 2 3=openC D 2 3:=by
 have hg:=g.g0;have hg2:=g.g2;have hU:=g.up;obtain⟨D',h1,h2,h3,h4,h5⟩:=lg_put (a:=0) (b:=1) (s:=factB e) hU (openE_up hU (by decide) (by omega) (by omega)) (factB_len he) (by omega);rw[h1];have h6:openC D' 2 3=openC D 2 3:=open_same (h5 2 (by decide) (by decide) (by decide) (by decide)) (h5 3 (by decide) (by decide) (by decide) (by decide));refine⟨rfl,by show(openC D 0 1).gen+1≤_;omega,g.aside h2 (fun j a b c=>h5 j a b (by omega) (by omega)) ?_ (by rw[h6];omega),h3,?_,h6⟩
 ·rw[h4];show(openC D 0 1).gen+1≤_;omega
 ·rw[h4];rfl
structure FoundO(id serial bl:Int)(D:Dev)(k:Nat)(r:Int × NodM):Prop where
 e:r.1=0
 lost:r.2.lost=(fact (openC D 0 1).text).isNone
 epoch:r.2.epoch=(fact (openC D 0 1).text).getD 0
 dr:r.2.dr=drlO D 2 3 bl.toNat
 g:NdF r.2.d (k+2)
 same:openC r.2.d 2 3=openC D 2 3
 no:fact (openC D 0 1).text=none→r.2.f=openC D 0 1∧openC r.2.d 0 1=openC D 0 1∧r.2.d=(caOpen D 6 14 4 5 bl).2.2∧r.2.down=false∧r.2.id=id∧r.2.serial=serial∧r.2.blocks=bl
theorem nf_open{id serial bl:Int}{D:Dev}{k:Nat}(g:NdF D k)(hk:k<900)(ha: ¬nodArg id serial 5 5)(hb:1≤bl∧bl≤32):FoundO id serial bl D k (nodOpen id serial D bl 5 5):=by
 obtain⟨h,t,le,g1⟩:=g.g;have hU:=g.up;obtain⟨a1,a2,a3⟩:=ca_one g1 (by omega) (by omega) hb;have hl:((D.l.length:Int)- 6)=((14:Nat):Int):=by rw[hU.len];rfl
 unfold nodOpen;rw[if_neg ha,if_neg (by rw[openE_up hU (by decide) (by omega) (by omega)];decide),if_neg (by unfold drlE;rw[if_neg (by omega),openE_up hU (by decide) (by omega) (by omega)];decide),hl,if_neg (by rw[a1];decide)];generalize hD':caOpen D 6 ((14:Nat):Int) 4 5 bl=r at*;obtain⟨_,C,D'⟩:=r;dsimp only at a1 a2 a3 ⊢;have hs:=open_same (D:=D) (D':=D') (a:=0) (b:=1) (a3 0 (by decide) (by omega) (by decide) (by decide)) (a3 1 (by decide) (by omega) (by decide) (by decide));have hs2:=open_same (D:=D) (D':=D') (a:=2) (b:=3) (a3 2 (by decide) (by omega) (by decide) (by decide)) (a3 3 (by decide) (by omega) (by decide) (by decide));have g2:NdF D' (k+1):=⟨⟨h,t+1,le,a2⟩,by rw[hs];have:=g.g0;omega,by rw[hs2];have:=g.g2;omega⟩;cases hf:fact (openC D 0 1).text with
 |none=>
  rw[nodFact_none hf];refine⟨rfl,by rw[hf];rfl,by rw[hf];rfl,rfl,?_,hs2,fun _=>⟨rfl,hs,by show D'=(caOpen D 6 14 4 5 bl).2.2;rw[show caOpen D 6 14 4 5 bl=caOpen D 6 ((14:Nat):Int) 4 5 bl from rfl,hD'],rfl,rfl,rfl,rfl⟩⟩;obtain⟨⟨h,t,le,g3⟩,g4,g5⟩:=g2;exact⟨⟨h,t,le,g3.up1⟩,by show(openC D' 0 1).gen≤_;omega,by show(openC D' 2 3).gen≤_;omega⟩
 |some e=>
  have he:=fact_in hf;obtain⟨p1,p2,p3,p4,p5,p6⟩:=nf_put g2 (by omega) he;rw[hs]at p1 p2 p3 p4 p5 p6;rw[nodFact_some hf];have hb2:=p2;refine⟨?_,?_,?_,?_,?_,?_,fun h=>by rw[hf]at h;cases h⟩
  ·show(NodM.boot _ e).1=0;unfold NodM.boot;dsimp only[nodNew];rw[if_neg (by rw[p1];decide),if_neg (by omega)]
  ·rw[hf];exact congrArg (·.2.2) (boot_who _ e)
  ·rw[hf];show(NodM.boot _ e).2.epoch=e;unfold NodM.boot;dsimp only[nodNew];rw[if_neg (by rw[p1];decide),if_neg (by omega)]
  ·show(NodM.boot _ e).2.dr=_;unfold NodM.boot;dsimp only[nodNew];rw[if_neg (by rw[p1];decide),if_neg (by omega)];rfl
  ·show NdF (NodM.boot _ e).2.d (k+2);unfold NodM.boot;dsimp only[nodNew];rw[if_neg (by rw[p1];decide),if_neg (by omega)];exact p3
  ·show openC (NodM.boot _ e).2.d 2 3=_;unfold NodM.boot;dsimp only[nodNew];rw[if_neg (by rw[p1];decide),if_neg (by omega)];exact p6.trans hs2
theorem nf_new:NdF (Dev.new 20) 0:=
 ⟨⟨0+1,0,0,new_ldev (by decide) (by decide) (by decide) (by decide) (by decide) (by decide) (by decide) (by decide)⟩,by rw[open_new (by decide) (by decide) (by decide) (by decide)];exact Int.le_refl _,by rw[open_new (by decide) (by decide) (by decide) (by decide)];exact Int.le_refl _⟩
namespace NodM
/-- A node on such a device. -/
structure FR(n:NodM)(B k:Nat):Prop where
 dr:n.dr=drlO n.d 2 3 B
 f:n.f=openC n.d 0 1
 g:NdF n.d k
 es:n.d.es=[]
 dn:n.down=false
 bl:n.blocks=B
 b:1≤B∧B≤32
theorem FR.one{n:NodM}{B k:Nat}(h:FR n B k)(hk:k<1000){i:Nat}(hi:i<B):(found1 n i).1=true∧FR (found1 n i).2 B (k+1)∧(found1 n i).2.dr.bits=putR n.dr.bits ((i:Int) / 4):=by
 have hg:DGood 2 3 B n.d 20 k:=⟨h.g.up,h.es,openE_up h.g.up (by decide) (by decide) (by decide),h.b,h.g.g2⟩;have hin:inR B (i:Int)=true:=inR_iff.2 ⟨by omega,by omega⟩;obtain⟨D',h1,h2,h3,h4⟩:=hg.mark (by omega) (i:Int);rw[hin,if_pos rfl]at h1 h3;have e:n.dr.mark n.d (i:Int)=(0,drlO D' 2 3 B,D'):=by rw[h.dr];exact h1
 have h5:=fun(j:Int) a b c d=>(h4:_) j a b c d
 have hs:openC D' 0 1=openC n.d 0 1:=open_same (h5 0 (by decide) (by decide) (by decide) (by decide)) (h5 1 (by decide) (by decide) (by decide) (by decide));unfold found1 dOk dDid;rw[e];refine⟨rfl,⟨rfl,?_,?_,h2.es,?_,h.bl,h.b⟩,?_⟩
 · show n.f=openC D' 0 1;rw[hs];exact h.f
 · exact h.g.aside h2.up (fun j a b c=>h5 j a b (by omega) (by omega)) (by show(openC D' 0 1).gen≤_;rw[hs];have:=h.g.g0;omega) h2.gen
 · show(n.down|| !decide ((0:Int)=0))=false;rw[h.dn];rfl
 · show(drlO D' 2 3 B).bits=_;rw[h3,h.dr]
theorem putR_keep{b:Nat}{i:Int}{r:Nat}(h:b.testBit r=true):(putR b i).testBit r=true:=by unfold putR;rw[Nat.testBit_or,h];rfl
theorem putR_self{b:Nat}{i:Nat}:(putR b ((i:Int) / 4)).testBit (i / 4)=true:=by
 unfold putR;rw[show((i:Int) / 4).toNat=i / 4 by omega,Nat.testBit_or,Nat.testBit_two_pow_self];simp
theorem FR.marks{B:Nat}: ∀(l:List Nat) {n:NodM} {k:Nat},FR n B k→k+l.length<1000→(∀i∈l,i<B)→
  (eachB found1 l n).1=true∧FR (eachB found1 l n).2 B (k+l.length)∧(∀r,n.dr.bits.testBit r=true→(eachB found1 l n).2.dr.bits.testBit r=true)∧ ∀i∈l,(eachB found1 l n).2.dr.bits.testBit (i / 4)=true
 | [],n,k,h,_,_=>⟨rfl,h,fun _ h=>h,fun i hi=>by cases hi⟩
 |i::l,n,k,h,hk,hl=>by
  rw[List.length_cons]at hk;obtain⟨a1,a2,a3⟩:=h.one (by omega) (hl i (by simp));obtain⟨b1,b2,b3,b4⟩:=FR.marks l a2 (by omega) (fun j hj=>hl j (by simp[hj]));unfold eachB;rw[if_neg (by rw[a1];decide)];refine⟨b1,by rw[List.length_cons,show k+(l.length+1)=k+1+l.length by omega];exact b2,fun r hr=>b3 r (by rw[a3];exact putR_keep hr),fun j hj=>?_⟩;rcases List.mem_cons.1 hj with rfl|hj
  · exact b3 _ (by rw[a3];exact putR_self)
  · exact b4 j hj
theorem blks_all{L:DrlM}(h: ∀i,i<L.n→L.bits.testBit (i / 4)=true):L.blks.length=L.n:=by
 have: ∀k,k≤L.n→(blksTo L k).length=k:=by
  intro k;induction k with
  |zero=>intro _;rfl
  |succ k ih=>
   intro hk
   have hh:L.has (k:Int)=true:=by
    have hi:inR L.n (k:Int)=true:=inR_iff.2 ⟨by omega,by omega⟩;unfold DrlM.has hasR;rw[hi,inR_reg hi,show((k:Int) / 4).toNat=k / 4 by omega,h k (by omega)];rfl
   rw[blksTo_succ,if_pos hh,List.length_append,ih (by omega)];rfl
 exact this L.n (Nat.le_refl _)
/-- What the witness' word makes of it. -/
theorem FR.found{n:NodM}{B k:Nat}(h:FR n B k)(hk:k<900){e:Int}(he:N62 e):
  (n.found e).lost=false∧(n.found e).down=false∧(n.found e).epoch=e∧(n.found e).dr.blks.length=B∧
  ∃k',k'≤k+B+1∧NdF (n.found e).d k'∧(n.found e).d.es=[]∧(openC (n.found e).d 0 1).text=factB e∧(drlO (n.found e).d 2 3 B).blks.length=B:=by
 have hb:=h.b;obtain⟨a1,a2,-,a4⟩:=FR.marks (List.range n.blocks.toNat) h (by rw[List.length_range,h.bl];omega) (fun i hi=>by rw[List.mem_range,h.bl]at hi;omega);have hlen:(List.range n.blocks.toNat).length=B:=by rw[List.length_range,h.bl];omega
 rw[hlen]at a2;unfold NodM.found andThen;rw[if_pos a1];have a4: ∀i,i<B→(eachB found1 (List.range n.blocks.toNat) n).2.dr.bits.testBit (i / 4)=true:=fun i hi=>a4 i (by rw[List.mem_range,h.bl];omega)
 generalize (eachB found1 (List.range n.blocks.toNat) n).2=m at*;obtain⟨p1,p2,p3,p4,p5,p6⟩:=nf_put a2.g (by omega) he;rw[←a2.f]at p1 p2 p3 p4 p5 p6
 have hbo:m.boot e=(0,{m.fDid (m.f.put m.d (factB e))with epoch:=e,born:=(m.f.put m.d (factB e)).2.1.gen+16384*(m.serial.tmod 16384)}):=by
  unfold NodM.boot;dsimp only;rw[if_neg (by rw[p1];decide),if_neg (by omega)]
 have hbl:m.dr.blks.length=B:=by
  have hn:m.dr.n=B:=by rw[a2.dr];rfl
  rw[←hn];exact blks_all (by rw[hn];exact a4)
 have hbl2:(drlO (m.f.put m.d (factB e)).2.2 2 3 B).blks.length=B:=by
  have:drlO (m.f.put m.d (factB e)).2.2 2 3 B=m.dr:=by rw[a2.dr];unfold drlO;rw[p6]
  rw[this];exact hbl
 unfold NodM.found2;dsimp only;rw[hbo,if_pos rfl];refine⟨rfl,?_,rfl,hbl,k+B+1,Nat.le_refl _,p3,p4,p5,hbl2⟩;show(m.down|| !decide ((0:Int)=0))=false;rw[a2.dn];rfl
/-- A letter of the witness', to one that has lost all. -/
theorem lost_take{n:NodM}(hd:n.down=false)(hl:n.lost=true)(hid:n.id=0∨n.id=1){m:MsgM}(hm:m.may=true):
  n.take ⟨2,n.id,encMsg m⟩=(0,if m.kind=4∧m.e=0∧m.n=n.serial then(n.clear.found m.epoch).hush else n.clear):=by
 unfold take take1;rw[if_neg (by rw[show n.clear.down=n.down from rfl,hd];exact Bool.false_ne_true),if_neg (by show¬(¬n.id=n.id∨(2:Int)<0∨(8:Int)≤2∨(2:Int)=n.id);omega)];dsimp only;rw[decMsg_enc hm,if_neg (by simp),if_neg (fun h=>h.1 rfl)];unfold hear;rw[if_pos rfl];unfold heard;rw[if_pos (show n.clear.lost=true from hl)]
 by_cases c:m.kind=4∧m.e=0∧m.n=n.serial
 ·rw[if_pos c,if_pos (show m.kind=4∧m.e=0∧m.n=n.clear.serial from c)]
 ·rw[if_neg c,if_neg (show¬(m.kind=4∧m.e=0∧m.n=n.clear.serial)from c)];unfold hush;rw[if_neg (by rw[show n.clear.down=n.down from rfl,hd];exact Bool.false_ne_true)]
end NodM
def lostE(epoch s e:Int):MsgM:=⟨4,epoch,0,s,-1,-1,e,0,0,0,0,[],[]⟩
theorem lostE_may{epoch s e:Int}(h1:N62 epoch)(h2:N62 s)(h3:0≤e∧e≤31):(lostE epoch s e).may=true:=
 mayMk (by decide) h1 NodM.n620 ⟨by have:=h2.1;omega,h2.2⟩ (by decide) (by decide) h3 (by decide) (by decide) NodM.n620 NodM.n620 NodM.n620 NodM.n620
/-- One that is lost, opened on a new device, or told what isn't its own. -/
structure FoundL(id serial:Int)(B:Nat)(n:NodM):Prop where
 r: ∃k,k<800∧NodM.FR n B k
 lost:n.lost=true
 id:n.id=id
 serial:n.serial=serial
theorem FoundL.clear{id serial:Int}{B:Nat}{n:NodM}(h:FoundL id serial B n):FoundL id serial B n.clear:=by
 obtain⟨⟨k,hk,r⟩,h2,h3,h4⟩:=h;exact⟨⟨k,hk,r.dr,r.f,r.g,r.es,r.dn,r.bl,r.b⟩,h2,h3,h4⟩
theorem FoundL.tick{id serial:Int}{B:Nat}{n:NodM}(h:FoundL id serial B n):FoundL id serial B n.tick∧n.tick.out.length=1:=by
 obtain⟨⟨k,hk,r⟩,h2,h3,h4⟩:=h;unfold NodM.tick;rw[if_neg (by rw[r.dn];exact Bool.false_ne_true)];unfold NodM.tick1;rw[if_pos (show n.clear.tick0.lost=true from h2)];exact⟨⟨⟨k,hk,r.dr,r.f,r.g,r.es,r.dn,r.bl,r.b⟩,h2,h3,h4⟩,rfl⟩
theorem FoundL.other{id serial:Int}{B:Nat}{n:NodM}(h:FoundL id serial B n)(hid:id=0∨id=1){ep s e:Int}(he:N62 ep)(hs:N62 s)(h3:0≤e∧e≤31)(hne: ¬(e=0∧s=serial)):n.take ⟨2,id,encMsg (lostE ep s e)⟩=(0,n.clear):=by
 obtain⟨⟨k,hk,r⟩,h2,h4,h5⟩:=h;rw[←h4,NodM.lost_take r.dn h2 (by rw[h4];exact hid) (lostE_may he hs h3),if_neg];intro c;exact hne ⟨c.2.1,by rw[←h5];exact c.2.2⟩
/-- Found: all is marked, the epoch is the witness', and behind a crash too. -/
structure FoundN(id serial ep:Int)(B:Nat)(n:NodM):Prop where
 lost:n.lost=false
 down:n.down=false
 epoch:n.epoch=ep
 blks:n.dr.blks.length=B
 out:n.out=[]
 e:(nodOpen id serial (n.d.crash []) B 5 5).1=0
 alost:(nodOpen id serial (n.d.crash []) B 5 5).2.lost=false
 aepoch:(nodOpen id serial (n.d.crash []) B 5 5).2.epoch=ep
 ablks:(nodOpen id serial (n.d.crash []) B 5 5).2.dr.blks.length=B
theorem FoundL.found{id serial:Int}{B:Nat}{n:NodM}(h:FoundL id serial B n)(hid:id=0∨id=1)(hse:N62 serial){ep:Int}(he:N62 ep):
  (n.take ⟨2,id,encMsg (lostE ep serial 0)⟩).1=0∧FoundN id serial ep B (n.take ⟨2,id,encMsg (lostE ep serial 0)⟩).2:=by
 obtain⟨⟨k,hk,r⟩,h2,h4,h5⟩:=h;subst h4;rw[NodM.lost_take r.dn h2 hid (lostE_may he hse (by decide)),if_pos ⟨rfl,rfl,h5.symm⟩];have rc:NodM.FR n.clear B k:=⟨r.dr,r.f,r.g,r.es,r.dn,r.bl,r.b⟩;obtain⟨a1,a2,a3,a4,k',hk',b1,b2,b3,b4⟩:=rc.found (by omega) he;have hout:(n.clear.found ep).out=[]:=NodM.found_out ep;refine⟨rfl,?_⟩;show FoundN _ _ _ _ (n.clear.found ep).hush;have hh:(n.clear.found ep).hush=n.clear.found ep:=by unfold NodM.hush;rw[if_neg (by rw[a2];exact Bool.false_ne_true)]
 rw[hh];generalize n.clear.found ep=m at*;have hs: ∀j,(m.d.crash []).sec j=m.d.sec j:=fun j=>sec_crash_nil b2 [] j
 have hU:=crash_up b1.up.ok [];rw[b1.up.len]at hU;have ho:=open_same (D:=m.d) (D':=m.d.crash []) (hs 0) (hs 1);have ho2:=open_same (D:=m.d) (D':=m.d.crash []) (hs 2) (hs 3);have g:NdF (m.d.crash []) (k'+1):=b1.aside hU (fun j _ _ _=>hs j) (by rw[ho];have:=b1.g0;omega) (by rw[ho2];have:=b1.g2;omega);have hB:=r.b;have hn: ¬nodArg n.id serial 5 5:=by unfold nodArg;have:=hse.1;have:=hse.2;omega
 have fo:=nf_open (id:=n.id) (serial:=serial) (bl:=(B:Int)) g (by omega) hn (by omega);have hf:fact (openC (m.d.crash []) 0 1).text=some ep:=by rw[ho,b3,fact_factB he]
 refine⟨a1,a2,a3,a4,hout,fo.e,by rw[fo.lost,hf];rfl,by rw[fo.epoch,hf];rfl,?_⟩;rw[fo.dr,show((B:Int)).toNat=B by omega,show drlO (m.d.crash []) 2 3 B=drlO m.d 2 3 B by unfold drlO;rw[ho2]];exact b4
theorem found_new{id serial:Int}{B:Nat}(hid:id=0∨id=1)(hse:N62 serial)(hB:1≤B∧B≤9):(nodOpen id serial (Dev.new 20) B 5 5).1=0∧FoundL id serial B (nodOpen id serial (Dev.new 20) B 5 5).2:=by
 have hn: ¬nodArg id serial 5 5:=by unfold nodArg;have:=hse.1;have:=hse.2;omega
 have fo:=nf_open (id:=id) (serial:=serial) (bl:=(B:Int)) nf_new (by decide) hn (by omega);have ho:fact (openC (Dev.new 20) 0 1).text=none:=by rw[open_new (by decide) (by decide) (by decide) (by decide)];decide
 obtain⟨f1,f2,f3,f4,f5,f6,f7⟩:=fo.no ho;refine⟨fo.e,⟨0+2,by decide,?_,f1.trans f2.symm,fo.g,?_,f4,f7,by omega⟩,by rw[fo.lost,ho];rfl,f5,f6⟩
 · rw[fo.dr,show((B:Int)).toNat=B by omega];unfold drlO;rw[fo.same]
 · rw[f3];exact List.isEmpty_iff.1 (ca_es B (by omega))
end Go.Sl