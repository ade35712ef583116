/- A part of the proof. -/
import Derived.Test.YtlignadmmopdmaaGreatUn
import Derived.Test.YtlignadmmopdmaaGreatN43
set_option linter.unusedVariables false
set_option linter.unusedSimpArgs false
set_option linter.constructorNameAsVariable false
namespace Go.Proofs
open _root_.Go.Proofs.Tryz
open Go Go.Sl
namespace W
set_option maxHeartbeats 4000000
theorem nNewAny [Env]{R:List Seg}{z:Int}(hz:z≤512):Con Tryz.prog 18 [i64 z] [] R (fun u L'=>(z<0∧u=nilP∧L'=[])∨(0≤z∧ ∃q,u=dp q∧L'=[dev q (Dev.new z.toNat)])):=by
 by_cases h:z<0
 · exact(secNewNil (.inl h)).mono fun v L' ⟨h1,h2⟩=> .inl ⟨h,h1,h2⟩
 obtain⟨n,rfl⟩: ∃n:Nat,z=n:=⟨z.toNat,by omega⟩;exact(secNew (n:=n) (by omega)).mono fun v L' ⟨q,h1,h2⟩=> .inr ⟨by omega,q,h1,by rw[h2,Int.toNat_natCast]⟩
def KBegin(x:ShapeM)(u:Value)(L':List Seg):Prop:=
 (beginN x=none∧ ∃dv,u= .tuple #[dv,nilP]∧L'=[])∨(∃n F V,beginN x=some n∧NVok V n∧u= .tuple #[dp F.q,ptr F.p]∧L'=nodL F V n)
theorem nBegin [Env]{R:List Seg}{x:ShapeM}:Con Tryz.prog 13 [.agg x.cells.toArray] [] R (KBegin x):=by
 have hbg:beginN x=if 40<x.sectors∨x.sectors<0 then none else if(nodFormat (Dev.new x.sectors.toNat)).1≠0 then none else if(nodOpen x.id x.serial (nodFormat (Dev.new x.sectors.toNat)).2 x.blocks x.lease x.patience).1≠0 then none else some (nodOpen x.id x.serial (nodFormat (Dev.new x.sectors.toNat)).2 x.blocks x.lease x.patience).2:=rfl
 refine con_enter func13 ntmps13 rfl rfl ?_;refine gc 1 ?_;refine ya (ac_box (vs:=x.cells) rfl rfl) rfl ?_;rintro v L' ⟨b1,rfl,rfl⟩;refine gy 11 ?_;refine cc rfl (fun h7=>?_) (fun h7=>?_)
 ·have hb0:beginN x=none:=hbg.trans (if_pos (.inl h7));refine gc 7 ?_;refine kretv2 results13 rfl rfl (L1:=R) zge ?_;exact⟨_,.inl ⟨hb0,_,rfl,rfl⟩,rfl⟩
 refine gc 5 ?_;refine ycall (nNewAny (by omega)) rfl call18 ztk rfl ?_;rintro v L' hnw;rcases hnw with⟨hs0,rfl,rfl⟩|⟨hs0,q12,rfl,rfl⟩
 ·refine gy 5 ?_;have hb0:beginN x=none:=hbg.trans (if_pos (.inr hs0));refine gy 1 ?_;refine y (ev_eqlPnil rfl rfl underlying26) rfl ?_;refine gy 15 ?_;refine kretv2 results13 rfl rfl (L1:=R) zge ?_;exact⟨_,.inl ⟨hb0,_,rfl,rfl⟩,rfl⟩
 refine gy 5 ?_
 (have hD:(Dev.new x.sectors.toNat).ok:=Dev.new_ok (by omega);have hb1:=hbg.trans (if_neg (show¬(40<x.sectors∨x.sectors<0)by omega)))
 refine gy 1 ?_;refine y (ev_eqlPnil rfl rfl underlying26) rfl ?_;refine gy 2 ?_;refine ygo ?_;refine yci (nFormat (D:=Dev.new x.sectors.toNat) ?dok25) call24 ?_
 case dok25=>exact hD
 obtain⟨fm,hfm⟩: ∃z,nodFormat (Dev.new x.sectors.toNat)=z:=⟨_,rfl⟩;have hDf:fm.2.ok:=hfm▸nodFormat_ok hD;rw[hfm]at hb1 ⊢;refine gy 4 ?_;refine cc rfl (fun h28=>?_) (fun h28=>?_)
 ·have hb0:beginN x=none:=hb1.trans (if_pos h28);refine gc 7 ?_;refine kretv2 results13 rfl rfl (L1:=R) zge ?_;exact⟨_,.inl ⟨hb0,_,rfl,rfl⟩,rfl⟩
 have hb2:=hb1.trans (if_neg (by simpa using h28));refine gc 14 ?_;refine ycall (nOpen (D:=fm.2) (id:=x.id) (serial:=x.serial) (bl:=x.blocks) (lease:=x.lease) (patience:=x.patience) hDf) rfl call19 ztk rfl ?_;rintro v L' hop;obtain⟨r,hr1⟩: ∃z,nodOpen x.id x.serial fm.2 x.blocks x.lease x.patience=z:=⟨_,rfl⟩;rw[hr1]at hb2 hop;rcases hop with⟨hne,rfl,rfl⟩|⟨he,F,V,hFq,rfl,hV,rfl⟩
 ·refine gy 1 ?_;have hb0:beginN x=none:=hb2.trans (if_pos hne);refine gy 14 ?_;refine kretv2 results13 rfl rfl (L1:=R) zge ?_;exact⟨_,.inl ⟨hb0,_,rfl,rfl⟩,rfl⟩
 refine gy 1 ?_
 (subst hFq;have hb3:=hb2.trans (if_neg (by omega)))
 refine gy 14 ?_;refine kretv2 results13 rfl rfl (L1:=nodL F V r.2++R) zge ?_;exact⟨_,.inr ⟨r.2,F,V,hb3,hV,rfl,rfl⟩,rfl⟩
def KStep [Env](F:NF)(n:NodM)(a:ActN)(v:Value)(L':List Seg):Prop:= ∃V',NVok V' (n.step a)∧L'=nodL F V' (n.step a)∧RdV [outS V' (n.step a)] v (n.told a).length (letsV (n.told a))
theorem nStep [Env]{R:List Seg}{F:NF}{V:NV}{n:NodM}{a:ActN}(hn:n.ok 950000)(hV:NVok V n)(hl:largeB a=false)(ha: ∃b c,a.kv= .slice b a.ks.length c):
   Con Tryz.prog 17 [ptr F.p,acV a] (nodL F V n) R (KStep F n a):=by
 refine con_enter func17 ntmps17 rfl rfl ?_;refine gc 1 ?_;refine ya (ac_box (vs:=a.cells) rfl rfl) rfl ?_;rintro v L' ⟨b3,rfl,rfl⟩;refine gy 15 ?_;refine cc rfl (fun h67=>?_) (fun h67=>?_)
 ·have hst:n.step a=(n.take (letN a)).2:=if_pos h67;have hto:n.told a=(n.step a).out:=if_pos (.inl h67);refine gc 2 ?_;refine y (ev_loadN (u:=a.cells) rfl isAgg37 sizeOf37 zin rfl rfl) rfl ?_;refine yci (nLetter (x:=a)) call16 ?_;refine ycall (nTake (V:=V) (n:=n) (l:=letN a) hn hV (letN_len hl)) rfl call27 ztk rfl ?_;rintro v L' ⟨V1,rfl,hV1,rfl⟩;refine gy 15 ?_;refine kretv results17 rfl (L1:=nodL F V1 (n.take (letN a)).2++R) zge ?_;refine⟨_,⟨V1,by rw[hst];exact hV1,by rw[hst],?_⟩,rfl⟩;rw[hto,hst];exact rdV_sv .z hV1.out
 have hk0: ¬a.kind=0:=h67;refine gc 5 ?_;refine cc rfl (fun h81=>?_) (fun h81=>?_)
 ·have hst:n.step a=n.tick:=(if_neg hk0).trans (if_pos h81);have hto:n.told a=(n.step a).out:=if_pos (.inr h81);refine gc 2 ?_;refine ycall (nTick (V:=V) (n:=n) hn hV) rfl call34 ztk rfl ?_;rintro v L' ⟨V2,rfl,hV2,rfl⟩;refine gy 6 ?_;refine kretv results17 rfl (L1:=nodL F V2 n.tick++R) zge ?_;refine⟨_,⟨V2,by rw[hst];exact hV2,by rw[hst],?_⟩,rfl⟩;rw[hto,hst];exact rdV_sv .z hV2.out
 have hst:n.step a=n:=(if_neg hk0).trans (if_neg h81);have hto:n.told a=[]:=if_neg (by omega);refine gc 8 ?_;refine kretv results17 rfl (L1:=nodL F V n++R) zge ?_;refine⟨_,⟨V,by rw[hst];exact hV,by rw[hst],?_⟩,rfl⟩;rw[hto];exact rdV_nil
end W
end Go.Proofs
namespace Go.Sl
def nwL0:LetM:=⟨0,0,[]⟩
def nwF:Int × Dev:=nodFormat (Dev.new 20)
def nwO:Int × NodM:=nodOpen 0 0 nwF.2 4 5 3
def nw1:NodM:=nwO.2.tick
def nwAsk:MsgM:=(decMsg (nw1.out.headD nwL0).body).1
def nwM1:MsgM:=⟨2,1,3,nwAsk.n,-1,0,0,0,0,0,0,[],[]⟩
def nwM2:MsgM:=⟨13,1,0,0,-1,-1,0,0,0,0,0,[],[]⟩
def nwM3:MsgM:=⟨6,1,1,0,-1,-1,0,0,0,0,0,[],[]⟩
def nwM4:MsgM:=⟨14,0,2,1,3,-1,0,0,0,0,0,[97,98,99,100,101,102,103,104],[]⟩
def nwM5:MsgM:=⟨6,1,2,0,-1,-1,0,0,0,0,0,[],[]⟩
def nw2:NodM:=(nw1.take ⟨2,0,encMsg nwM1⟩).2
def nw3:NodM:=(nw2.take ⟨3,0,encMsg nwM2⟩).2
def nw4:NodM:=(nw3.take ⟨1,0,encMsg nwM3⟩).2
def nw5:NodM:=(nw4.take ⟨4,0,encMsg nwM4⟩).2
def nw6:NodM:=(nw5.take ⟨1,0,encMsg nwM5⟩).2
structure NwFacts:Prop where
 f:nwF.1=0
 o:nwO.1=0
 l:nwO.2.lost=false
 e:nwO.2.epoch=0
 t1:nw1.out.map (·.to)=[2]
 a1:nwAsk.kind=1
 a2:nwAsk.seq=1
 t2:nw2.out.map (·.to)=[3]
 t3:nw3.out.map (·.to)=[1]
 r3:nw3.role=2
 t4:nw4.out.map (·.to)=[]
 t5:nw5.out.map (·.to)=[1]
 t6:nw6.out.map (·.to)=[4]
 r6:nw6.role=3
 e6:nw6.epoch=1
 l6:nw6.left=5
 n6:nw6.c.all.length=1
 b6:nw6.dr.blks.length=0
 y1:(nw1.out.headD nwL0).body.length≤1000
theorem nwFacts:NwFacts:=by
 have h:nwF.1=0∧nwO.1=0∧nwO.2.lost=false∧nwO.2.epoch=0∧nw1.out.map (·.to)=[2]∧nwAsk.kind=1∧nwAsk.seq=1∧nw2.out.map (·.to)=[3]∧nw3.out.map (·.to)=[1]∧nw3.role=2∧nw4.out.map (·.to)=[]∧nw5.out.map (·.to)=[1]∧nw6.out.map (·.to)=[4]∧nw6.role=3∧nw6.epoch=1∧nw6.left=5∧nw6.c.all.length=1∧nw6.dr.blks.length=0∧(nw1.out.headD nwL0).body.length≤1000:=by decide+kernel
 obtain⟨a,b,c,d,e,f,g,i,j,k,l,m,n,o,p,q,r,s,t⟩:=h;exact⟨a,b,c,d,e,f,g,i,j,k,l,m,n,o,p,q,r,s,t⟩
theorem to_one{l:List LetM}{z:Int}(h:l.map (·.to)=[z]): ∃x,l=[x]∧x.to=z:=by
 match l,h with
 | [x],h=>exact⟨x,rfl,by simpa using h⟩
end Go.Sl
namespace Go.Proofs
open _root_.Go.Proofs.Tryz
open Go Go.Sl
namespace W
set_option maxHeartbeats 4000000
theorem nOpenBad [Env]{R:List Seg}{q:Q3}{D:Dev}{id serial bl lease patience:Int}(hD:D.ok)(h:nodArg id serial lease patience):
   Con Tryz.prog 19 [i64 id,i64 serial,dp q,i64 bl,i64 lease,i64 patience] [dev q D] R (Is (.tuple #[nilP,i64 1]) [dev q D]):=by
 have e:nodOpen id serial D bl lease patience=(1,nod0 D):=if_pos h;refine(nOpen (id:=id) (serial:=serial) (bl:=bl) (lease:=lease) (patience:=patience) hD).mono ?_;rw[e];rintro v L' (⟨-,rfl,rfl⟩|⟨h1,-⟩)
 · exact⟨rfl,rfl⟩
 cases h1
theorem nOpenGood [Env]{R:List Seg}{q:Q3}{D:Dev}{id serial bl lease patience:Int}{r:Int × NodM}(hD:D.ok)(hr:nodOpen id serial D bl lease patience=r)(h:r.1=0):
   Con Tryz.prog 19 [i64 id,i64 serial,dp q,i64 bl,i64 lease,i64 patience] [dev q D] R (fun v L'=> ∃F V,F.q=q∧v= .tuple #[ptr F.p,i64 0]∧NVok V r.2∧L'=nodL F V r.2):=by
 refine(nOpen (id:=id) (serial:=serial) (bl:=bl) (lease:=lease) (patience:=patience) hD).mono ?_;rw[hr];rintro v L' (⟨h1,-⟩|⟨-,h2⟩)
 · exact absurd h h1
 exact h2
/-- A letter is handed over. -/
theorem nSay [Env]{R:List Seg}{F:NF}{V:NV}{n:NodM}{fr:Int}{m:MsgM}{pb:Nat}(hn:n.ok 950000)(hV:NVok V n):
   Con Tryz.prog 36 ([i64 fr,.agg m.cells.toArray]++[ptr pb]) (sc pb [ptr F.p] 27::nodB F V n) R (fun v L'=> ∃V',v=svVal V'.out (n.take ⟨fr,0,encMsg m⟩).2.out.length∧NVok V' (n.take ⟨fr,0,encMsg m⟩).2∧L'=sc pb [ptr F.p] 27::nodL F V' (n.take ⟨fr,0,encMsg m⟩).2):=by
 refine con_enter func36 ntmps36 rfl rfl ?_;refine gc 1 ?_;refine ya (ac_box (vs:=m.cells) rfl rfl) rfl ?_;rintro v L' ⟨b4,rfl,rfl⟩;refine gy 4 ?_;refine y (ev_loadAll rfl isAgg34 sizeOf34 zin (by rfl)) rfl ?_;refine yci (x11Encode (m:=m)) call26 ?_;refine gy 11 ?_;refine y (ev_bd (LetM.cells ⟨fr,0,encMsg m⟩)) rfl ?_;refine ycall (nTakeB (V:=V) (n:=n) (l:=⟨fr,0,encMsg m⟩) hn hV (encMsg_len m)) rfl call27 ztk rfl ?_;rintro v L' ⟨V1,rfl,hV1,rfl⟩;refine gy 13 ?_;refine kretv results36 rfl (L1:=sc pb [ptr F.p] 27::nodL F V1 (n.take ⟨fr,0,encMsg m⟩).2++R) zge ?_;exact⟨_,⟨V1,rfl,hV1,rfl⟩,rfl⟩
set_option maxRecDepth 20000 in
theorem awake16 [Env]{R:List Seg}:Con Tryz.prog 12 [] [] R (Is (.bool true) []):=by
 obtain⟨fF,fO,fl,fe,ft1,fa1,fa2,ft2,ft3,fr3,ft4,ft5,ft6,fr6,fe6,fl6,fn6,fb6,fy1⟩:=nwFacts;have hF:(nodFormat (Dev.new 20)).2.ok:=nodFormat_ok (Dev.new_ok (by decide));have ho:nwO.2.ok 0:=nodOpen_ok hF fO;have ho1:nw1.ok 140:=ho.tick;have ho2:nw2.ok 210:=ho1.take _;have ho3:nw3.ok 280:=ho2.take _;have ho4:nw4.ok 350:=ho3.take _;have ho5:nw5.ok 420:=ho4.take _;have ho6:nw6.ok 490:=ho5.take _;have hfm:nodFormat (Dev.new 20)=nwF:=rfl;have hop:nodOpen 0 0 nwF.2 4 5 3=nwO:=rfl;have e1:nwO.2.tick=nw1:=rfl;have e2:(nw1.take ⟨2,0,encMsg ⟨2,1,3,nwAsk.n,-1,0,0,0,0,0,0,[],[]⟩⟩).2=nw2:=rfl;have e3:(nw2.take ⟨3,0,encMsg ⟨13,1,0,0,-1,-1,0,0,0,0,0,[],[]⟩⟩).2=nw3:=rfl;have e4:(nw3.take ⟨1,0,encMsg ⟨6,1,1,0,-1,-1,0,0,0,0,0,[],[]⟩⟩).2=nw4:=rfl;have e5:(nw4.take ⟨4,0,encMsg ⟨14,0,2,1,3,-1,0,0,0,0,0,[97,98,99,100,101,102,103,104],[]⟩⟩).2=nw5:=rfl;have e6:(nw5.take ⟨1,0,encMsg ⟨6,1,2,0,-1,-1,0,0,0,0,0,[],[]⟩⟩).2=nw6:=rfl;have ea:(decMsg (nw1.out.headD nwL0).body).1=nwAsk:=rfl;rw[hfm]at hF;generalize nwF=wf at*;generalize nwO=wo at*;generalize nw1=n1 at*;generalize nwAsk=ask at*;generalize nw2=n2 at*;generalize nw3=n3 at*;generalize nw4=n4 at*;generalize nw5=n5 at*;generalize nw6=n6 at*;obtain⟨x1,hx1,hz1⟩:=to_one ft1;obtain⟨x2,hx2,hz2⟩:=to_one ft2;obtain⟨x3,hx3,hz3⟩:=to_one ft3;obtain⟨x5,hx5,hz5⟩:=to_one ft5;obtain⟨x6,hx6,hz6⟩:=to_one ft6;have hx4:n4.out=[]:=List.map_eq_nil_iff.1 ft4;rw[hx1]at fy1 ea;have fy1:x1.body.length≤1000:=fy1;have ea:(decMsg x1.body).1=ask:=ea;refine con_enter func12 ntmps12 rfl rfl ?_;refine gc 5 ?_;refine ycall (secNew (n:=20) (by omega)) rfl call18 ztk rfl ?_;rintro v L' ⟨q17,rfl,rfl⟩;refine gy 6 ?_
 skip
 ·refine y (ev_eqlPnil rfl rfl underlying26) rfl ?_;refine gy 2 ?_;refine ygo ?_;refine yci (nFormat (D:=Dev.new 20) ?dok29) call24 ?_
  case dok29=>exact Dev.new_ok (by decide)
  rw[hfm];refine gy 4 ?_;refine cc rfl (fun h32=>?_) (fun h32=>?_)
  ·exfalso;exact absurd fF (by simpa using h32)
  refine gc 4 ?_;refine ycall (nOpenGood (D:=wf.2) (id:=0) (serial:=0) (bl:=4) (lease:=5) (patience:=3) hF hop fO) rfl call19 ztk rfl ?_;rintro v L' ⟨F,V27,hFq,rfl,vk27,rfl⟩;subst hFq;refine gy 3 ?_;refine ya (ac_alloc zeroValue27 rfl) rfl ?_;rintro v L' ⟨b2,rfl,rfl⟩;refine yst (ac_store rfl rfl (by rfl) sizeOf27 zrp rfl rfl) ?_;refine gy 5 ?_;refine yci (nOpenBad (D:=wo.2.d) (id:=2) (serial:=0) (bl:=4) (lease:=5) (patience:=3) ho.p.c.d (by decide)) call19 ?_;refine gy 10 ?_
  skip
  ·refine y (ev_eqlPnil rfl rfl underlying27) rfl ?_;refine gy 10 ?_;refine ygo ?_;refine yci (nView (V:=V27) (n:=wo.2) (K:=0) ?nok60 ?nk60 ?vok60) call20 ?_
   case nok60=>exact ho
   case nk60=>decide
   case vok60=>exact vk27
   refine ygo ?_;refine y (ev_field1 1 rfl underlying52 rfl isAgg4 rfl) rfl ?_;rw[show wo.2.view.lost=false from fl];refine gy 3 ?_;refine ygo ?_;refine yci (nView (V:=V27) (n:=wo.2) (K:=0) ?nok65 ?nk65 ?vok65) call20 ?_
   case nok65=>exact ho
   case nk65=>decide
   case vok65=>exact vk27
   refine ygo ?_;refine y (ev_field1 2 rfl underlying52 rfl isAgg2 rfl) rfl ?_;rw[show wo.2.view.epoch=0 from fe];refine gy 8 ?_
   refine y (ev_mkFunc (vs:= #[ptr b2]) (fun a hf=>by
       have h1:a.eval (.tmp 2)=ptr b2:=hf.ev rfl;simp[h1])) rfl ?_
   refine gy 5 ?_;refine ycall (nTickB (V:=V27) (n:=wo.2) (ho.le (by decide)) vk27) rfl call34 ztk rfl ?_;rintro v L' ⟨V58,rfl,vk58,rfl⟩;rw[e1]at vk58 ⊢;have hr1:RdV [outS V58 n1] (svVal V58.out 1) 1 (letsV [x1]):=by have h9:=rdV_sv (L:=[outS V58 n1]) .z vk58.out;rw[hx1]at h9;exact h9
   rw[show n1.out.length=1 by rw[hx1];rfl];refine gy 5 ?_
   skip
   ·refine gy 1 ?_;refine y (ev_lenV rfl underlying45 (RdV.lenVal (by assumption))) rfl ?_;refine gy 3 ?_;refine ygo ?_;refine y (ev_ixV hr1 rfl rfl underlying45 sizeOf42 (by decide) (by decide)) rfl ?_;refine gy 1 ?_;refine ygo ?_;refine y (ev_loadV 1 hr1 zge rfl isAgg3 (by rfl) rfl) rfl ?_;rw[hz1];refine gy 9 ?_;refine y (ev_ixV hr1 rfl rfl underlying45 sizeOf42 (by decide) (by decide)) rfl ?_;refine gy 1 ?_;refine y (ev_loadV 2 hr1 zge rfl isAgg9 (by rfl) rfl) rfl ?_;refine yci (nDecode ?nlen88) call37 ?_
    case nlen88=>exact fy1
    rw[ea];refine gy 3 ?_;refine ya (ac_alloc zeroValue34 rfl) rfl ?_;rintro v L' ⟨b8,rfl,rfl⟩;refine yst (ac_storeAll rfl rfl (msgC_one _) sizeOf34 zrp rfl rfl) ?_;refine gy 7 ?_;refine y (ev_bd (MsgM.cells ⟨2,1,3,ask.n,-1,0,0,0,0,0,0,[],[]⟩)) rfl ?_;refine ycallF rfl (nSay (V:=V58) (n:=n1) (F:=F) (pb:=b2) (fr:=2) (m:=⟨2,1,3,ask.n,-1,0,0,0,0,0,0,[],[]⟩) (ho1.le (by decide)) vk58) rfl call36 ztk rfl ?_;rintro v L' ⟨V81,rfl,vk81,rfl⟩;rw[e2]at vk81 ⊢;have hr2:RdV [outS V81 n2] (svVal V81.out 1) 1 (letsV [x2]):=by have h9:=rdV_sv (L:=[outS V81 n2]) .z vk81.out;rw[hx2]at h9;exact h9
    rw[show n2.out.length=1 by rw[hx2];rfl];refine gy 5 ?_;refine y (ev_bd (MsgM.cells ⟨13,1,0,0,-1,-1,0,0,0,0,0,[],[]⟩)) rfl ?_;refine ycallF rfl (nSay (V:=V81) (n:=n2) (F:=F) (pb:=b2) (fr:=3) (m:=⟨13,1,0,0,-1,-1,0,0,0,0,0,[],[]⟩) (ho2.le (by decide)) vk81) rfl call36 ztk rfl ?_;rintro v L' ⟨V84,rfl,vk84,rfl⟩;rw[e3]at vk84 ⊢;have hr3:RdV [outS V84 n3] (svVal V84.out 1) 1 (letsV [x3]):=by have h9:=rdV_sv (L:=[outS V84 n3]) .z vk84.out;rw[hx3]at h9;exact h9
    rw[show n3.out.length=1 by rw[hx3];rfl];refine gy 5 ?_;refine yci (nView (V:=V84) (n:=n3) (K:=280) ?nok106 ?nk106 ?vok106) call20 ?_
    case nok106=>exact ho3
    case nk106=>decide
    case vok106=>exact vk84
    refine y (ev_field1 3 rfl underlying52 rfl isAgg3 rfl) rfl ?_;rw[show n3.view.role=2 from fr3];refine gy 5 ?_;refine y (ev_bd (MsgM.cells ⟨6,1,1,0,-1,-1,0,0,0,0,0,[],[]⟩)) rfl ?_;refine ycallF rfl (nSay (V:=V84) (n:=n3) (F:=F) (pb:=b2) (fr:=1) (m:=⟨6,1,1,0,-1,-1,0,0,0,0,0,[],[]⟩) (ho3.le (by decide)) vk84) rfl call36 ztk rfl ?_;rintro v L' ⟨V90,rfl,vk90,rfl⟩;rw[e4]at vk90 ⊢;have hr4:RdV [outS V90 n4] (svVal V90.out 0) 0 (letsV []):=by have h9:=rdV_sv (L:=[outS V90 n4]) .z vk90.out;rw[hx4]at h9;exact h9
    rw[show n4.out.length=0 by rw[hx4];rfl];refine gy 5 ?_;refine y (ev_bd (MsgM.cells ⟨14,0,2,1,3,-1,0,0,0,0,0,[97,98,99,100,101,102,103,104],[]⟩)) rfl ?_;refine ycallF rfl (nSay (V:=V90) (n:=n4) (F:=F) (pb:=b2) (fr:=4) (m:=⟨14,0,2,1,3,-1,0,0,0,0,0,[97,98,99,100,101,102,103,104],[]⟩) (ho4.le (by decide)) vk90) rfl call36 ztk rfl ?_;rintro v L' ⟨V93,rfl,vk93,rfl⟩;rw[e5]at vk93 ⊢;have hr5:RdV [outS V93 n5] (svVal V93.out 1) 1 (letsV [x5]):=by have h9:=rdV_sv (L:=[outS V93 n5]) .z vk93.out;rw[hx5]at h9;exact h9
    rw[show n5.out.length=1 by rw[hx5];rfl];refine gy 5 ?_;refine y (ev_bd (MsgM.cells ⟨6,1,2,0,-1,-1,0,0,0,0,0,[],[]⟩)) rfl ?_;refine ycallF rfl (nSay (V:=V93) (n:=n5) (F:=F) (pb:=b2) (fr:=1) (m:=⟨6,1,2,0,-1,-1,0,0,0,0,0,[],[]⟩) (ho5.le (by decide)) vk93) rfl call36 ztk rfl ?_;rintro v L' ⟨V96,rfl,vk96,rfl⟩;rw[e6]at vk96 ⊢;have hr6:RdV [outS V96 n6] (svVal V96.out 1) 1 (letsV [x6]):=by have h9:=rdV_sv (L:=[outS V96 n6]) .z vk96.out;rw[hx6]at h9;exact h9
    rw[show n6.out.length=1 by rw[hx6];rfl];refine gy 5 ?_;refine yci (nView (V:=V96) (n:=n6) (K:=490) ?nok122 ?nk122 ?vok122) call20 ?_
    case nok122=>exact ho6
    case nk122=>decide
    case vok122=>exact vk96
    refine ya (ac_alloc zeroValue52 rfl) rfl ?_;rintro v L' ⟨b16,rfl,rfl⟩;refine yst (ac_storeAll rfl rfl (view_one _) sizeOf52 zrp rfl rfl) ?_;refine gy 3 ?_
    skip
    ·refine gy 2 ?_;rw[fa1];refine gy 4 ?_;rw[fa2];refine gy 4 ?_;refine ygo ?_;refine y (ev_lenV rfl underlying45 (RdV.lenVal (by assumption))) rfl ?_;refine gy 4 ?_;refine ygo ?_;refine y (ev_ixV hr2 rfl rfl underlying45 sizeOf42 (by decide) (by decide)) rfl ?_;refine gy 1 ?_;refine ygo ?_;refine y (ev_loadV 1 hr2 zge rfl isAgg3 (by rfl) rfl) rfl ?_;rw[hz2];refine gy 4 ?_;refine ygo ?_;refine y (ev_lenV rfl underlying45 (RdV.lenVal (by assumption))) rfl ?_;refine gy 4 ?_;refine ygo ?_;refine y (ev_ixV hr3 rfl rfl underlying45 sizeOf42 (by decide) (by decide)) rfl ?_;refine gy 1 ?_;refine ygo ?_;refine y (ev_loadV 1 hr3 zge rfl isAgg3 (by rfl) rfl) rfl ?_;rw[hz3];refine gy 8 ?_;refine ygo ?_;refine y (ev_lenV rfl underlying45 (RdV.lenVal (by assumption))) rfl ?_;refine gy 4 ?_;refine ygo ?_;refine y (ev_lenV rfl underlying45 (RdV.lenVal (by assumption))) rfl ?_;refine gy 4 ?_;refine ygo ?_;refine y (ev_ixV hr5 rfl rfl underlying45 sizeOf42 (by decide) (by decide)) rfl ?_;refine gy 1 ?_;refine ygo ?_;refine y (ev_loadV 1 hr5 zge rfl isAgg3 (by rfl) rfl) rfl ?_;rw[hz5];refine gy 4 ?_;refine ygo ?_;refine y (ev_lenV rfl underlying45 (RdV.lenVal (by assumption))) rfl ?_;refine gy 4 ?_;refine ygo ?_;refine y (ev_ixV hr6 rfl rfl underlying45 sizeOf42 (by decide) (by decide)) rfl ?_;refine gy 1 ?_;refine ygo ?_;refine y (ev_loadV 1 hr6 zge rfl isAgg3 (by rfl) rfl) rfl ?_;rw[hz6];refine gy 5 ?_;rw[show n6.view.role=3 from fr6];refine gy 5 ?_;rw[show n6.view.epoch=1 from fe6];refine gy 5 ?_;rw[show n6.view.left=5 from fl6];refine gy 4 ?_;refine ygo ?_;refine ycall (nEntries (V:=V96) (n:=n6) ?bl207) rfl call25 ztk rfl ?_
     case bl207=>have:=ho6.p.bl;have:=ho6.a.blocks;omega
     rintro v L' ⟨s181,rfl,ok181,rfl⟩;rw[fn6]at ok181 ⊢;refine ygo ?_;refine y (ev_lenSv rfl underlying61 (by assumption)) rfl ?_;refine gy 4 ?_;refine ygo ?_;refine ycall (nMarked (V:=V96) (n:=n6) ?dok213) rfl call32 ztk rfl ?_
     case dok213=>exact ho6.p.dr
     rintro v L' ⟨s187,rfl,ok187,rfl⟩;rw[fb6]at ok187 ⊢;refine ygo ?_;refine y (ev_lenSv rfl underlying73 (by assumption)) rfl ?_;refine gy 6 ?_;refine kretv results12 rfl (L1:=R) zge ?_;exact⟨_,⟨by rfl,rfl⟩,by rfl⟩
end W
end Go.Proofs