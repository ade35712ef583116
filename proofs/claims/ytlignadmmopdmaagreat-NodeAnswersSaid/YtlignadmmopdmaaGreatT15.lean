/- A part of the proof. -/
import Derived.Test.YtlignadmmopdmaaGreatUn
import Derived.Test.YtlignadmmopdmaaGreatNodO
import Derived.Test.YtlignadmmopdmaaGreatT10
import Derived.Test.YtlignadmmopdmaaGreatGE
set_option linter.unusedVariables false
set_option linter.unusedSimpArgs false
set_option linter.constructorNameAsVariable false
namespace Go.Proofs
open _root_.Go.Proofs.Tryz
open Go Go.Sl
namespace W
set_option maxHeartbeats 4000000
abbrev rawC(id serial lease patience bl:Int)(pf pl pc:Value)(s:Value):List Value:=[i64 id,i64 serial,i64 lease,i64 patience,i64 bl,pf,pl,pc,i64 0,.bool false,.bool false,i64 0,i64 0,i64 0,i64 0,i64 0,i64 0,i64 0,i64 0,i64 0,i64 0,i64 0,i64 0,i64 0,i64 0,nilS,i64 0,i64 0,i64 0,i64 0,nilS,s]
theorem nForget0 [Env]{R:List Seg}{p:Nat}{id serial lease patience bl:Int}:Con Tryz.prog 42 [ptr p] [sc p (rawC id serial lease patience bl nilP nilP nilP nilP) 106] R (fun v L'=> ∃p3,v= .tuple #[]∧L'=[sc p (rawC id serial lease patience bl nilP nilP nilP (ptr p3)) 106,sndC p3 none (SndM.new 0),sndI none (SndM.new 0)]):=by
 refine con_enter func42 ntmps42 rfl rfl ?_;refine gc 2 ?_;refine ycall (nSNew) rfl call74 ztk rfl ?_;rintro v L' ⟨p3,rfl,rfl⟩;refine y (ev_be rfl) rfl ?_;refine gy 2 ?_;refine yst (ac_storeN (us:=[i64 0,i64 0,i64 0,i64 0,nilS,ptr p3]) (vs':=rawC id serial lease patience bl nilP nilP nilP (ptr p3)) rfl rfl (by simp[Value.oneCell']) sizeOf104 zrp rfl (by simp) rfl) ?_;refine gy 1 ?_;refine kendv0 results42 (L1:=[sc p _ 106,sndC _ _ _,sndI _ _]++R) zge ?_;exact⟨_,⟨p3,rfl,rfl⟩,rfl⟩
def KNOpen(r:Int × NodM)(q:Q3)(u:Value)(L':List Seg):Prop:=
 (r.1≠0∧u= .tuple #[nilP,i64 r.1]∧L'=[dev q r.2.d])∨(r.1=0∧ ∃F V,F.q=q∧u= .tuple #[ptr F.p,i64 0]∧NVok V r.2∧L'=nodL F V r.2)
theorem w3n{n lo hi:Int}(h:within3 n lo hi=false):n<lo∨hi<n:=by
 rw[←Bool.not_eq_true,within3_iff]at h;omega
theorem fact_bad{s:Bytes}{rc:RecM}{er:Int}(h:decM s=(rc,er))(hb: ¬er=0∨ ¬rc.kind=50∨ ¬rc.nums.length=1∨ ¬rc.texts.length=0):fact s=none:=by
 unfold fact;rw[h];exact if_neg (fun hh=>by dsimp only at hh;omega)
theorem fact_one{s:Bytes}{k x0:Int}{ts:List Bytes}(h:decM s=(⟨k,[x0],ts⟩,0))(hk:k=50)(ht:ts.length=0):fact s=if within3 x0 0 4611686018427387904=true then some x0 else none:=by
 unfold fact;rw[h];subst hk
 by_cases c:within3 x0 0 4611686018427387904=true
 · have:=within3_iff.1 c;rw[if_pos c,if_pos ⟨rfl,rfl,rfl,ht,this.1,this.2⟩];rfl
 rw[if_neg c,if_neg (fun hh=>c (within3_iff.2 ⟨hh.2.2.2.2.1,hh.2.2.2.2.2⟩))]
theorem nOpen [Env]{R:List Seg}{q:Q3}{D:Dev}{id serial bl lease patience:Int}(hD:D.ok):
   Con Tryz.prog 19 [i64 id,i64 serial,dp q,i64 bl,i64 lease,i64 patience] [dev q D] R (KNOpen (nodOpen id serial D bl lease patience) q):=by
 obtain⟨hh,hh0⟩: ∃z,nodOpen id serial D bl lease patience=z:=⟨_,rfl⟩
 have hop0:hh=if nodArg id serial lease patience then(1,nod0 D)else if openE D 0 1≠0 then(openE D 0 1,nod0 D)else if drlE D 2 3 bl≠0 then(drlE D 2 3 bl,nod0 D)else
   if(caOpen D 6 ((D.l.length:Int)- 6) 4 5 bl).1≠0 then((caOpen D 6 ((D.l.length:Int)- 6) 4 5 bl).1,nod0 (caOpen D 6 ((D.l.length:Int)- 6) 4 5 bl).2.2)else
   nodFact (nodNew id serial lease patience bl (openC D 0 1) (drlO D 2 3 bl.toNat) (caOpen D 6 ((D.l.length:Int)- 6) 4 5 bl).2.1 (caOpen D 6 ((D.l.length:Int)- 6) 4 5 bl).2.2):=hh0▸rfl
 rw[hh0];have hDn:=hD.n;have hbad: ∀e:Int,∀D',hh=(e,nod0 D')→e≠0→KNOpen hh q (.tuple #[nilP,i64 e]) [dev q D']:=fun e D' h1 h2=> .inl ⟨by rw[h1];exact h2,by rw[h1],by rw[h1];rfl⟩
 refine con_enter func19 ntmps19 rfl rfl ?_;refine gc 10 ?_;refine ysp 20 rfl (fun h12=>?_) (fun h12=>?_)
 ·have hna:nodArg id serial lease patience:= .inl (by simpa using h12);refine gy 26 ?_;have hop9:hh=(1,nod0 D):=hop0.trans (if_pos hna);refine gy 6 ?_;refine kretv2 results19 rfl rfl (L1:=[dev q D]++R) zge ?_;exact⟨_,hbad _ _ hop9 (by decide),rfl⟩
 refine gy 4 ?_;refine ysp 24 rfl (fun h28=>?_) (fun h28=>?_)
 ·have hna:nodArg id serial lease patience:= .inr (.inl (by simpa using h28));refine gy 22 ?_;have hop9:hh=(1,nod0 D):=hop0.trans (if_pos hna);refine gy 6 ?_;refine kretv2 results19 rfl rfl (L1:=[dev q D]++R) zge ?_;exact⟨_,hbad _ _ hop9 (by decide),rfl⟩
 refine gy 1 ?_;refine ygo ?_;refine yci (nWithin) call41 ?_;refine gy 3 ?_;refine ysp 29 rfl (fun h43=>?_) (fun h43=>?_)
 ·have hna:nodArg id serial lease patience:= .inr (.inr (.inl (w3n (by simpa using h43))));refine gy 17 ?_;have hop9:hh=(1,nod0 D):=hop0.trans (if_pos hna);refine gy 6 ?_;refine kretv2 results19 rfl rfl (L1:=[dev q D]++R) zge ?_;exact⟨_,hbad _ _ hop9 (by decide),rfl⟩
 have hsr:=within3_iff.1 (by simpa using h43:within3 serial 0 4611686018427387904=true);refine gy 1 ?_;refine ygo ?_;refine y (ev_eqlPnil rfl rfl underlying26) rfl ?_;refine gy 2 ?_;refine ysp 33 rfl (fun h55=>?_) (fun h55=>?_)
 ·(exfalso;simp at h55)
 refine gy 1 ?_;refine ygo ?_;refine yci (nWithin) call41 ?_;refine gy 3 ?_;refine ysp 38 rfl (fun h61=>?_) (fun h61=>?_)
 ·have hna:nodArg id serial lease patience:= .inr (.inr (.inr (.inl (w3n (by simpa using h61)))));refine gy 8 ?_;have hop9:hh=(1,nod0 D):=hop0.trans (if_pos hna);refine gy 6 ?_;refine kretv2 results19 rfl rfl (L1:=[dev q D]++R) zge ?_;exact⟨_,hbad _ _ hop9 (by decide),rfl⟩
 have hlr:=within3_iff.1 (by simpa using h61:within3 lease 1 1048576=true);refine gy 1 ?_;refine ygo ?_;refine yci (nWithin) call41 ?_;refine gy 4 ?_;refine cc rfl (fun h69=>?_) (fun h69=>?_)
 ·have hna:nodArg id serial lease patience:= .inr (.inr (.inr (.inr (w3n (by simpa using h69)))));refine gc 1 ?_;have hop9:hh=(1,nod0 D):=hop0.trans (if_pos hna);refine gy 6 ?_;refine kretv2 results19 rfl rfl (L1:=[dev q D]++R) zge ?_;exact⟨_,hbad _ _ hop9 (by decide),rfl⟩
 have hpr:=within3_iff.1 (by simpa using h69:within3 patience 1 1048576=true);have hnn: ¬nodArg id serial lease patience:=by unfold nodArg;omega
 have hop1:=hop0.trans (if_neg hnn);refine gc 8 ?_;refine y (ev_bd (rawC id serial lease patience bl nilP nilP nilP nilP)) rfl ?_;refine ya (ac_box (vs:=rawC id serial lease patience bl nilP nilP nilP nilP) rfl rfl) rfl ?_;rintro v L' ⟨b49,rfl,rfl⟩;refine gy 5 ?_;refine ycall (nForget0) rfl call42 ztk rfl ?_;rintro v L' ⟨p51,rfl,rfl⟩;refine gy 10 ?_;refine ycall (cOpen hD) rfl call43 ztk rfl ?_;rintro v L' hop6;rcases hop6 with⟨he6,rfl,rfl⟩|⟨he6,c55,rfl,rfl⟩
 ·refine gy 5 ?_;refine yst (ac_store rfl rfl (by rfl) sizeOf96 zrp rfl rfl) ?_;refine gy 6 ?_;rw[show(!decide (openE D 0 1=0))=true by simp[he6]];refine gy 4 ?_;have hop9:hh=(openE D 0 1,nod0 D):=hop1.trans (if_pos he6);refine gy 7 ?_;refine kretv2 results19 rfl rfl (L1:=[dev q D]++R) zge ?_;exact⟨_,hbad _ _ hop9 (by assumption),rfl⟩
 refine gy 5 ?_;refine yst (ac_store rfl rfl (by rfl) sizeOf96 zrp rfl rfl) ?_;refine gy 6 ?_
 skip
 refine gy 7 ?_;have hop2:=hop1.trans (if_neg (by omega));refine gy 3 ?_;refine ycall (dOpen hD) rfl call44 ztk rfl ?_;rintro v L' hop9;rcases hop9 with⟨he9,rfl,rfl⟩|⟨he9,l67,c67,rfl,rfl⟩
 ·refine gy 5 ?_;refine yst (ac_store rfl rfl (by rfl) sizeOf97 zrp rfl rfl) ?_;refine gy 6 ?_;rw[show(!decide (drlE D 2 3 bl=0))=true by simp[he9]];refine gy 4 ?_;have hop9:hh=(drlE D 2 3 bl,nod0 D):=hop2.trans (if_pos he9);refine gy 7 ?_;refine kretv2 results19 rfl rfl (L1:=[dev q D]++R) zge ?_;exact⟨_,hbad _ _ hop9 (by assumption),rfl⟩
 refine gy 5 ?_;refine yst (ac_store rfl rfl (by rfl) sizeOf97 zrp rfl rfl) ?_;refine gy 6 ?_
 skip
 refine gy 5 ?_;refine cseqT ?_;intro K22 hK22
 have hJr15: ∀x:NF × NV,(hh=nodFact (nodNew id serial lease patience bl (openC D 0 1) (drlO D 2 3 bl.toNat) (caOpen D 6 ((D.l.length:Int)- 6) 4 5 bl).2.1 (caOpen D 6 ((D.l.length:Int)- 6) 4 5 bl).2.2)∧x.1.q=q∧x.2.out=none∧x.2.sw=none∧x.2.si=none∧itOk x.2.sl (caOpen D 6 ((D.l.length:Int)- 6) 4 5 bl).2.1.l∧(nodNew id serial lease patience bl (openC D 0 1) (drlO D 2 3 bl.toNat) (caOpen D 6 ((D.l.length:Int)- 6) 4 5 bl).2.1 (caOpen D 6 ((D.l.length:Int)- 6) 4 5 bl).2.2).ok 0)→Sk 148 K22 ([(14,ptr x.1.p)]) ([ndC x.1 x.2 (nodNew id serial lease patience bl (openC D 0 1) (drlO D 2 3 bl.toNat) (caOpen D 6 ((D.l.length:Int)- 6) 4 5 bl).2.1 (caOpen D 6 ((D.l.length:Int)- 6) 4 5 bl).2.2),svSeg none 42 [],svSeg none 177 [],sndC x.2.ps none (SndM.new 0),sndI none (SndM.new 0),celP x.1.pf x.1.q (openC D 0 1),drlP x.1.pl x.1.pc (drlO D 2 3 bl.toNat),celP x.1.pc x.1.q (drlO D 2 3 bl.toNat).c,caP x.1.A (caOpen D 6 ((D.l.length:Int)- 6) 4 5 bl).2.1,enS x.1.A (caOpen D 6 ((D.l.length:Int)- 6) 4 5 bl).2.1,puS x.1.A (caOpen D 6 ((D.l.length:Int)- 6) 4 5 bl).2.1,lgS x.1.A x.1.q x.2.sl (caOpen D 6 ((D.l.length:Int)- 6) 4 5 bl).2.1,dev x.1.q (caOpen D 6 ((D.l.length:Int)- 6) 4 5 bl).2.2]++R):=by
  rintro⟨F,⟨vo,vw,vp,vi,vl⟩⟩ hIr15;refine hK22 _ _ ?_;obtain⟨hopN,hq,ho,hw,hi,hok82,hokN⟩:=hIr15;dsimp only at hopN hq ho hw hi hok82 hokN ⊢;subst ho;subst hw;subst hi;show Sk _ _ _ (nodL F ⟨none,none,vp,none,vl⟩ (nodNew id serial lease patience bl (openC D 0 1) (drlO D 2 3 bl.toNat) (caOpen D 6 ((D.l.length:Int)- 6) 4 5 bl).2.1 (caOpen D 6 ((D.l.length:Int)- 6) 4 5 bl).2.2)++R);have hVN:NVok ⟨none,none,vp,none,vl⟩ (nodNew id serial lease patience bl (openC D 0 1) (drlO D 2 3 bl.toNat) (caOpen D 6 ((D.l.length:Int)- 6) 4 5 bl).2.1 (caOpen D 6 ((D.l.length:Int)- 6) 4 5 bl).2.2):=⟨⟨rfl,rfl⟩,⟨rfl,rfl⟩,⟨rfl,rfl⟩,hok82⟩;generalize nodNew id serial lease patience bl (openC D 0 1) (drlO D 2 3 bl.toNat) (caOpen D 6 ((D.l.length:Int)- 6) 4 5 bl).2.1 (caOpen D 6 ((D.l.length:Int)- 6) 4 5 bl).2.2=n at*;have htl:=hokN.p.f.text;unfold nodL ndC;refine gc 5 ?_;refine yci (cGet (C:=n.f)) call48 ?_;refine ya (ac_toBytesY rfl underlying9 underlying55 underlying5) rfl ?_;rintro v L' ⟨b96,c96,sp96,fr96,rfl,hc96,rfl⟩;refine ycall (cDecode (bs:=n.f.text) ?hb138) rfl call47 ztk rfl ?_
  case hb138=>exact rdY_in zin hc96
  rintro v L' ⟨sn97,st97,rfl,ok97,rfl⟩;obtain⟨de,hde⟩: ∃z,decM n.f.text=z:=⟨_,rfl⟩;have hnl:=decM_len n.f.text;obtain⟨rc,er⟩:=de;rw[hde]at ok97 hnl ⊢;dsimp only at ok97 hnl ⊢;have okn:=ok97.n;have okt:=ok97.t;unfold recV;have hvn:RdV [svSeg sn97 2 (intsV rc.nums)] (svVal sn97 rc.nums.length) rc.nums.length (intsV rc.nums):=rdV_sv .z okn;have htn:RdV [svSeg st97 9 (strsV rc.texts)] (svVal st97 rc.texts.length) rc.texts.length (strsV rc.texts):=rdV_sv .z okt;refine gy 3 ?_;refine ya (ac_alloc zeroValue88 rfl) rfl ?_;rintro v L' ⟨b16,rfl,rfl⟩;refine yst (ac_storeAll rfl rfl (by(simp only[List.forall_mem_cons,List.not_mem_nil,false_implies,implies_true,svVal_one,and_true,true_and,and_self];first|done|simp[Value.oneCell'])) sizeOf88 zrp (by rfl) (by rfl)) ?_;refine gy 8 ?_;refine ysp 102 rfl (fun h148=>?_) (fun h148=>?_)
  ·have hfa:fact n.f.text=none:=fact_bad hde (.inl (by simpa using h148));refine gy 28 ?_;have hopF:hh=(0,{n with lost:=true}):=by rw[hopN];unfold nodFact;rw[hfa]
   refine gy 3 ?_;refine yst (ac_store rfl rfl (by rfl) sizeOf4 zrp rfl rfl) ?_;refine gy 10 ?_;refine kretv2 results19 rfl rfl (L1:=nodL F ⟨none,none,vp,none,vl⟩ {n with lost:=true}++R) zge ?_;rw[hopF];exact⟨_,.inr ⟨rfl,F,⟨none,none,vp,none,vl⟩,hq,rfl,⟨hVN.out,hVN.sw,hVN.si,hVN.sl⟩,rfl⟩,rfl⟩
  have her:er=0:=by simpa using h148
  refine gy 5 ?_;refine ysp 107 rfl (fun h168=>?_) (fun h168=>?_)
  ·have hfa:fact n.f.text=none:=fact_bad hde (.inr (.inl (by simpa using h168)));refine gy 23 ?_;have hopF:hh=(0,{n with lost:=true}):=by rw[hopN];unfold nodFact;rw[hfa]
   refine gy 3 ?_;refine yst (ac_store rfl rfl (by rfl) sizeOf4 zrp rfl rfl) ?_;refine gy 10 ?_;refine kretv2 results19 rfl rfl (L1:=nodL F ⟨none,none,vp,none,vl⟩ {n with lost:=true}++R) zge ?_;rw[hopF];exact⟨_,.inr ⟨rfl,F,⟨none,none,vp,none,vl⟩,hq,rfl,⟨hVN.out,hVN.sw,hVN.si,hVN.sl⟩,rfl⟩,rfl⟩
  have hk50:rc.kind=50:=by simpa using h168
  refine gy 2 ?_;refine ygo ?_;refine y (ev_lenSv rfl underlying57 (by assumption)) rfl ?_;refine gy 3 ?_;refine ysp 113 rfl (fun h187=>?_) (fun h187=>?_)
  ·have hfa:fact n.f.text=none:=fact_bad hde (.inr (.inr (.inl (by omega))));refine gy 17 ?_;have hopF:hh=(0,{n with lost:=true}):=by rw[hopN];unfold nodFact;rw[hfa]
   refine gy 3 ?_;refine yst (ac_store rfl rfl (by rfl) sizeOf4 zrp rfl rfl) ?_;refine gy 10 ?_;refine kretv2 results19 rfl rfl (L1:=nodL F ⟨none,none,vp,none,vl⟩ {n with lost:=true}++R) zge ?_;rw[hopF];exact⟨_,.inr ⟨rfl,F,⟨none,none,vp,none,vl⟩,hq,rfl,⟨hVN.out,hVN.sw,hVN.si,hVN.sl⟩,rfl⟩,rfl⟩
  obtain⟨kk,ns,ts⟩:=rc;dsimp only at*;obtain⟨x0,rfl⟩: ∃z,ns=[z]:=List.length_eq_one_iff.1 (by omega);subst her;refine gy 2 ?_;refine ygo ?_;refine y (ev_lenSv rfl underlying86 (by assumption)) rfl ?_;refine gy 3 ?_;refine ysp 119 rfl (fun h204=>?_) (fun h204=>?_)
  ·have hfa:fact n.f.text=none:=fact_bad hde (.inr (.inr (.inr (by simpa using h204))));refine gy 11 ?_;have hopF:hh=(0,{n with lost:=true}):=by rw[hopN];unfold nodFact;rw[hfa]
   refine gy 3 ?_;refine yst (ac_store rfl rfl (by rfl) sizeOf4 zrp rfl rfl) ?_;refine gy 10 ?_;refine kretv2 results19 rfl rfl (L1:=nodL F ⟨none,none,vp,none,vl⟩ {n with lost:=true}++R) zge ?_;rw[hopF];exact⟨_,.inr ⟨rfl,F,⟨none,none,vp,none,vl⟩,hq,rfl,⟨hVN.out,hVN.sw,hVN.si,hVN.sl⟩,rfl⟩,rfl⟩
  have hf1:=fact_one hde hk50 (by simpa using h204);refine gy 2 ?_;refine ygo ?_;refine y (ev_ixV hvn rfl rfl underlying57 sizeOf2 (by simp) (by simp)) rfl ?_;refine ygo ?_;refine y (ev_loadV 0 hvn zge rfl isAgg2 (by rfl) rfl) rfl ?_;refine ygo ?_;refine yci (nWithin) call41 ?_;refine gy 4 ?_;refine cc rfl (fun h220=>?_) (fun h220=>?_)
  ·have hfa:fact n.f.text=none:=hf1.trans (if_neg (by rw[show within3 x0 0 4611686018427387904=false by simpa using h220];exact Bool.false_ne_true));refine gc 1 ?_;have hopF:hh=(0,{n with lost:=true}):=by rw[hopN];unfold nodFact;rw[hfa]
   refine gy 3 ?_;refine yst (ac_store rfl rfl (by rfl) sizeOf4 zrp rfl rfl) ?_;refine gy 10 ?_;refine kretv2 results19 rfl rfl (L1:=nodL F ⟨none,none,vp,none,vl⟩ {n with lost:=true}++R) zge ?_;rw[hopF];exact⟨_,.inr ⟨rfl,F,⟨none,none,vp,none,vl⟩,hq,rfl,⟨hVN.out,hVN.sw,hVN.si,hVN.sl⟩,rfl⟩,rfl⟩
  have hx0:within3 x0 0 4611686018427387904=true:=by simpa using h220
  have hfa:fact n.f.text=some x0:=hf1.trans (if_pos hx0);have hopF:hh=NodM.boot {n with epoch:=x0} x0:=by rw[hopN];unfold nodFact;rw[hfa]
  have hx62:=fact_in hfa;refine gc 6 ?_;refine y (ev_ixV hvn rfl rfl underlying57 sizeOf2 (by simp) (by simp)) rfl ?_;refine y (ev_loadV 0 hvn zge rfl isAgg2 (by rfl) rfl) rfl ?_;refine gy 2 ?_;refine yst (ac_store rfl rfl (by rfl) sizeOf2 zrp rfl rfl) ?_;refine gy 9 ?_;refine ycall (nBoot (V:=⟨none,none,vp,none,vl⟩) (n:={n with epoch:=x0}) ?nok241 ?vok241 ?ne241) rfl call49 ztk rfl ?_
  case nok241=>exact⟨hokN.a,hokN.p,⟨hokN.n.left,hx62,hokN.n.mask,(by have:=hokN.n.clock;show 0≤n.clock∧n.clock≤((990000:Nat):Int);omega),hokN.n.born,(by have:=hokN.n.change;show 0≤n.change∧n.change≤((990000:Nat):Int);omega),(by have:=hokN.n.loads;show 0≤n.loads∧n.loads≤((990000:Nat):Int);omega),hokN.n.role,hokN.n.want,hokN.n.resync,(by have:=hokN.n.quiet;show 0≤n.quiet∧n.quiet≤((990000:Nat):Int);omega)⟩,hokN.t,hokN.o,hokN.w.le (by decide),hokN.s.le (by decide),by have:=hokN.out;show n.out.length≤990000;omega⟩
  case vok241=>exact⟨hVN.out,hVN.sw,hVN.si,hVN.sl⟩
  case ne241=>exact hx62
  rintro v L' ⟨V143,rfl,vk143,rfl⟩;obtain⟨r2,hR2⟩: ∃z,NodM.boot {n with epoch:=x0} x0=z:=⟨_,rfl⟩;rw[hR2]at hopF vk143 ⊢;refine gy 8 ?_;refine cc rfl (fun h245=>?_) (fun h245=>?_)
  ·refine gc 8 ?_;refine kretv2 results19 rfl rfl (L1:=[dev F.q r2.2.d]++R) zge ?_;rw[hopF,hq];exact⟨_,.inl ⟨by omega,rfl,rfl⟩,rfl⟩
  refine gc 9 ?_;refine kretv2 results19 rfl rfl (L1:=nodL F V143 r2.2++R) zge ?_;rw[hopF];exact⟨_,.inr ⟨by omega,F,V143,hq,rfl,vk143,rfl⟩,rfl⟩
 clear hK22;refine gc 1 ?_;have hop3:=hop2.trans (if_neg (by omega));obtain⟨r,hR⟩: ∃z,caOpen D 6 ((D.l.length:Int)- 6) 4 5 bl=z:=⟨_,rfl⟩;rw[hR]at hop3;refine gy 3 ?_;refine yci (secSectors) call46 ?_;refine gy 1 ?_;rw[wr (by omega) (by omega)];refine gy 1 ?_;refine ycall (kOpen (first:=6) (n:=(D.l.length:Int)- 6) (a:=4) (b:=5) (bl:=bl) hD (by decide) (by decide)) rfl call45 ztk rfl ?_;rintro v L' hop12;rw[hR]at hop12;rcases hop12 with⟨he12,rfl,rfl⟩|⟨he12,A82,sl82,rfl,ok82,rfl⟩
 ·refine gy 5 ?_;refine yst (ac_store rfl rfl (by rfl) sizeOf98 zrp rfl rfl) ?_;refine gy 6 ?_;rw[show(!decide (r.1=0))=true by simp[he12]];refine gy 4 ?_;have hop9:hh=(r.1,nod0 r.2.2):=hop3.trans (if_pos he12);refine gy 7 ?_;refine kretv2 results19 rfl rfl (L1:=[dev q r.2.2]++R) zge ?_;exact⟨_,hbad _ _ hop9 (by assumption),rfl⟩
 refine gy 5 ?_;refine yst (ac_store rfl rfl (by rfl) sizeOf98 zrp rfl rfl) ?_;refine gy 6 ?_
 skip
 refine gy 5 ?_;subst hR;exact ksub zsub zge (hJr15 (⟨b49,q,c55,l67,c67,A82⟩,⟨none,none,p51,none,sl82⟩) ⟨hop3.trans (if_neg (fun hx=>hx he12)),rfl,rfl,rfl,rfl,ok82,by obtain⟨g1,g2⟩:=parts_ok hD he6 he9 he12;exact nodNew_ok hnn g2 g1⟩)
theorem nView [Env]{R:List Seg}{F:NF}{V:NV}{n:NodM}{K:Nat}(hn:n.ok K)(hK:K≤1000000)(hV:NVok V n):
   Con Tryz.prog 20 [ptr F.p] (nodL F V n) R (Is (.agg n.view.cells.toArray) (nodL F V n)):=by
 have hrdw:RdV [waiS V n] (svVal V.sw n.waits.length) n.waits.length (waitsV n.waits):=rdV_sv .z hV.sw;refine con_enter func20 ntmps20 rfl rfl ?_;unfold nodL ndC;refine gc 1 ?_;refine ya (ac_alloc zeroValue52 rfl) rfl ?_;rintro v L' ⟨b2,rfl,rfl⟩;refine gy 3 ?_;refine cdraw 54 [(0,true),(1,true),(2,true),(3,true),(4,true),(5,true),(6,true),(7,true),(8,true),(9,true),(10,true),(11,true),(12,true),(13,true),(14,true),(15,true),(16,true),(17,true),(18,true),(19,true),(20,true),(21,true),(22,true),(23,true),(24,true),(25,true),(26,true),(27,true),(28,true),(29,true),(30,true),(31,true),(32,true),(33,true),(34,true),(35,true),(36,true),(37,true),(38,true),(39,true),(41,true),(42,true),(43,true),(44,true),(45,true),(47,true),(48,true),(49,true),(50,true),(51,true),(40,false),(46,false),(52,false),(53,true)] ([sc F.p _ 106]++R) Tryz.mixed (by kernel_rfl) zge ?_;refine gh 36 ?_;refine hr rfl (ev_lenV rfl underlying101 (RdV.lenVal (by assumption))) rfl ?_;refine gh 13 ?_;refine hcall rfl (nTLeft (V:=V) (n:=n)) rfl call50 ztk rfl ?_;rintro v L' ⟨rfl,rfl⟩;refine⟨zge,?_⟩;unfold ndC;refine hcall rfl (nLast ?sok53 ?sov53) rfl call51 ztk rfl ?_
 case sok53=>exact hn.s.fit hK
 case sov53=>exact hV.si
 rintro v L' ⟨rfl,rfl⟩;refine⟨zge,?_⟩;refine hcall rfl (nAcked) rfl call52 ztk rfl ?_;rintro v L' ⟨rfl,rfl⟩;refine⟨zge,?_⟩;refine hr rfl (ev_bd ([.bool n.down,.bool n.lost,i64 n.epoch,i64 n.role,i64 n.mask,i64 n.want,i64 n.resync,i64 n.waits.length,i64 n.left,i64 n.s.last,i64 n.s.acked])) rfl ?_;refine gh 1 ?_;refine yst (ac_storeAll rfl rfl (by simp[Value.oneCell']) sizeOf52 zrp (by rfl) (by rfl)) ?_;refine gy 3 ?_;refine kretc results20 rfl isAgg52 sizeOf52 zin (rfl) (L1:=nodL F V n++R) zge ?_;exact⟨_,⟨rfl,rfl⟩,rfl⟩
theorem nEntries [Env]{R:List Seg}{F:NF}{V:NV}{n:NodM}(hb:n.c.bl≤32):
   Con Tryz.prog 25 [ptr F.p] (nodL F V n) R (KSv 127 n.c.all.length 7 (entsV n.c.all) (nodL F V n)):=by
 refine con_enter func25 ntmps25 rfl rfl ?_;unfold nodL ndC;refine gc 9 ?_;refine ycall (kAll ?bl62) rfl call59 ztk rfl ?_
 case bl62=>exact hb
 rintro v L' ⟨s7,rfl,ok7,rfl⟩;refine gy 4 ?_;refine kretv results25 rfl (L1:=svSeg s7 127 (entsV n.c.all)::nodL F V n++R) zge ?_;exact⟨_,⟨s7,rfl,ok7,rfl⟩,rfl⟩
theorem nMarked [Env]{R:List Seg}{F:NF}{V:NV}{n:NodM}(hd:n.dr.ok n.d):
   Con Tryz.prog 32 [ptr F.p] (nodL F V n) R (KSv 3 n.dr.blks.length 1 (intsV n.dr.blks) (nodL F V n)):=by
 refine con_enter func32 ntmps32 rfl rfl ?_;unfold nodL ndC;refine gc 9 ?_;refine ycall (dBlocks ?dn69 ?db69) rfl call65 ztk rfl ?_
 case dn69=>exact hd.n
 case db69=>exact hd.bits
 rintro v L' ⟨s7,rfl,ok7,rfl⟩;refine gy 4 ?_;refine kretv results32 rfl (L1:=svSeg s7 3 (intsV n.dr.blks)::nodL F V n++R) zge ?_;exact⟨_,⟨s7,rfl,ok7,rfl⟩,rfl⟩
theorem nFormat [Env]{R:List Seg}{q:Q3}{D:Dev}(hD:D.ok):Con Tryz.prog 24 [dp q] [dev q D] R (Is (i64 (nodFormat D).1) [dev q (nodFormat D).2]):=by
 refine con_enter func24 ntmps24 rfl rfl ?_;refine gc 6 ?_;refine ycall (cOpen hD) rfl call43 ztk rfl ?_;rintro v L' hop;rcases hop with⟨he,rfl,rfl⟩|⟨he,c7,rfl,rfl⟩
 ·refine gy 11 ?_;rw[show(!decide (openE D 0 1=0))=true by simp[he]];refine gy 4 ?_;have hfo:nodFormat D=(openE D 0 1,D):=if_pos he;refine gy 6 ?_;refine kretv results24 rfl (L1:=[dev q D]++R) zge ?_;rw[hfo];exact⟨_,⟨rfl,rfl⟩,rfl⟩
 refine gy 11 ?_
 skip
 refine gy 6 ?_;have hfo:nodFormat D=(((openC D 0 1).put D (factB 0)).1,((openC D 0 1).put D (factB 0)).2.2):=if_neg (by omega);refine gy 1 ?_;refine yci (nText ?te91) call58 ?_
 case te91=>exact NodM.n620
 refine yci (cPut (C:=openC D 0 1) (D:=D) (s:=factB 0) ?cok92 ?ok92) call57 ?_
 case cok92=>exact(openC_ok he).1
 case ok92=>exact hD
 refine gy 4 ?_;refine kretv results24 rfl (L1:=[dev q _]++R) zge ?_;rw[hfo];exact⟨_,⟨rfl,rfl⟩,rfl⟩
theorem rMay [Env]{R:List Seg}{r:RecM}{nv tv:Value}(hn:RdV R nv r.nums.length (intsV r.nums))(ht:RdV R tv r.texts.length (strsV r.texts)):
   Con Tryz.prog 89 [.agg #[i64 r.kind,nv,tv]] [] R (Is (.bool r.mayB) []):=by
 have hnl:=hn.lenVal;have htl:=ht.lenVal;refine con_enter func89 ntmps89 rfl rfl ?_;refine gc 1 ?_;refine ya (ac_box rfl rfl) rfl ?_;rintro v L' ⟨b1,rfl,rfl⟩;refine gy 9 ?_;refine ysp 7 rfl (fun h64=>?_) (fun h64=>?_)
 ·refine gy 20 ?_;have hmay:r.mayB=false:=by unfold RecM.mayB;simp;intros;exfalso;omega
  refine gy 5 ?_;refine kretv results89 rfl (L1:=R) zge ?_;exact⟨_,⟨by rw[hmay],rfl⟩,by rfl⟩
 refine gy 5 ?_;refine ysp 12 rfl (fun h76=>?_) (fun h76=>?_)
 ·refine gy 15 ?_;have hmay:r.mayB=false:=by unfold RecM.mayB;simp;intros;exfalso;omega
  refine gy 5 ?_;refine kretv results89 rfl (L1:=R) zge ?_;exact⟨_,⟨by rw[hmay],rfl⟩,by rfl⟩
 refine gy 2 ?_;refine ygo ?_;refine y (ev_lenV rfl underlying57 (RdV.lenVal (by assumption))) rfl ?_;refine gy 3 ?_;refine ysp 18 rfl (fun h87=>?_) (fun h87=>?_)
 ·refine gy 9 ?_;have hmay:r.mayB=false:=by unfold RecM.mayB;simp;intros;exfalso;omega
  refine gy 5 ?_;refine kretv results89 rfl (L1:=R) zge ?_;exact⟨_,⟨by rw[hmay],rfl⟩,by rfl⟩
 refine gy 2 ?_;refine ygo ?_;refine y (ev_lenV rfl underlying86 (RdV.lenVal (by assumption))) rfl ?_;refine gy 4 ?_;refine cc rfl (fun h95=>?_) (fun h95=>?_)
 ·refine gc 1 ?_;have hmay:r.mayB=false:=by unfold RecM.mayB;simp;intros;exfalso;omega
  refine gy 5 ?_;refine kretv results89 rfl (L1:=R) zge ?_;exact⟨_,⟨by rw[hmay],rfl⟩,by rfl⟩
 refine gc 2 ?_;refine cseqT ?_;intro K8 hK8;refine gc 4 ?_
 have hJ1: ∀x:Nat,((x≤r.texts.length∧(r.texts.take x).any (fun t=>decide (200<(t.length:Int)))=false)∧(x=r.texts.length))→Sk 38 K8 ([(3,i64 x),(1,ptr b1)]) ([sc b1 [i64 r.kind,nv,tv] 88]++R):=by
  rintro k ⟨hI1,hX1⟩;refine hK8 _ _ ?_;obtain⟨hk,hno⟩:=hI1;subst hX1;rw[List.take_length]at hno;have hmay:r.mayB=true:=by unfold RecM.mayB;rw[hno];simp;omega
  refine gc 5 ?_;refine kretv results89 rfl (L1:=R) zge ?_;exact⟨_,⟨by rw[hmay],rfl⟩,by rfl⟩
 clear hK8;refine gc 1 ?_;refine cloopT (A:=Nat) (fun x=>[(3,i64 x),(1,ptr b1)]) (fun x=>[sc b1 [i64 r.kind,nv,tv] 88]++R) (fun x=>x≤r.texts.length∧(r.texts.take x).any (fun t=>decide (200<(t.length:Int)))=false) (fun x=>r.texts.length-x) (0) ?_ zsub zge ?_
 · exact⟨Nat.zero_le _,by simp⟩
 rintro k hI1 KL1 hL1;have hI1o:=hI1;obtain⟨hk,hno⟩:=hI1;refine gc 5 ?_;refine y (ev_lenV rfl underlying86 (RdV.lenVal (by assumption))) rfl ?_;refine gy 3 ?_;refine cc rfl (fun h104=>?_) (fun h104=>?_)
 ·obtain⟨t,htt⟩: ∃t,r.texts[k]? =some t:=⟨_,List.getElem?_eq_getElem (by omega)⟩;refine gc 8 ?_;refine y (ev_ixV ht rfl rfl underlying86 sizeOf9 (by omega) (by omega)) rfl ?_;refine y (ev_loadV k ht zge rfl isAgg9 (by simp) (strsV_get htt)) rfl ?_;refine y (ev_lenStr rfl underlying9) rfl ?_;refine gy 3 ?_;refine cc rfl (fun h112=>?_) (fun h112=>?_)
  ·have hmay:r.mayB=false:=by
     have:r.texts.any (fun t=>decide (200<(t.length:Int)))=true:=List.any_eq_true.2 ⟨t,List.mem_of_getElem? htt,by simpa using h112⟩;unfold RecM.mayB;rw[this];simp
   refine gc 10 ?_;refine kretv results89 rfl (L1:=R) zge ?_;exact⟨_,⟨by rw[hmay],rfl⟩,by rfl⟩
  have hno2:(r.texts.take (k+1)).any (fun t=>decide (200<(t.length:Int)))=false:=by rw[take_snoc htt,List.any_append,hno];simp;omega
  refine gc 6 ?_;rw[show IntKind.i64.wrap ((k:Int)+1)=((k+1:Nat):Int)by rw[wr (by omega) (by omega)];rfl];refine gy 3 ?_;exact hL1 (k+1) (⟨by omega,hno2⟩) (by omega) _ _ zsub zge
 refine gc 5 ?_;exact ksub zsub zge (hJ1 k ⟨hI1o,by omega⟩)
end W
end Go.Proofs