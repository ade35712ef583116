/- A part of the proof. -/
import Derived.Test.YtlignadmmopdmaaGreatUn
import Derived.Test.YtlignadmmopdmaaGreatN8
set_option linter.unusedVariables false
set_option linter.unusedSimpArgs false
set_option linter.constructorNameAsVariable false
namespace Go.Proofs
open _root_.Go.Proofs.Tryz
open Go Go.Sl
namespace W
set_option maxHeartbeats 1000000
theorem PZ [Env]{R:List ax}{F:NF}{V:NV}{n:aa}(hn:n.ok 990000)(hV:ct V n):
   bC Tryz.prog 170 [ptr F.p] (ao F V n) R (KN F n.note.2 (.bool n.note.1)):=by
 obtain⟨ad,hA⟩: ∃z,n.s.add ⟨0,-1,[],-1,0⟩=z:=⟨_,rfl⟩;have hns:n.td={n with s:=ad.2}:=by unfold aa.td;rw[hA]
 obtain⟨r,hR⟩: ∃z,n.c.note n.d n.ah ad.1.1 n.done.l=z:=⟨_,rfl⟩;have qd:jR n.c n.d r:=by rw[←hR];exact kb hn.p.c _ _ _
 have eF:n.note=if ad.1.2≠0 then(true,n)else aa.gz (({n with s:=ad.2}:aa).iO r) aa.Im:=by
   unfold aa.note;rw[hA,hns];show(if _ then _ else aa.gz (aa.iO _ (n.c.note n.d n.ah ad.1.1 n.done.l)) _)=_;rw[hR]
 have af7:ad.1.2≠0→ad.2=n.s:=by
   intro h;rw[←hA]at h ⊢;unfold dC.add at h ⊢;split
   · rfl
   rename_i hx;rw[if_neg hx]at h;exact absurd rfl h
 refine ag func170 ntmps170 rfl rfl ?_;unfold ao bB;refine gc 10 ?_;refine y (cA (dY.cells ⟨0,-1,[],-1,0⟩)) rfl ?_;refine aA (UH (S:=n.s) (x:=⟨0,-1,[],-1,0⟩) ?as1 ?as4) rfl call159 aZ rfl ?_
 case as1=>exact hn.s.fit (by decide)
 case as4=>exact hV.si
 rintro v L' ⟨Gl,rfl,Fe,rfl⟩;rw[hA]at Fe ⊢;refine gy 13 ?_;refine cc rfl (fun nf=>?_) (fun nf=>?_)
 ·rw[if_pos (by assumption)]at eF;have Pb:=af7 (by assumption);rw[Pb]at Fe ⊢;refine gc 6 ?_;refine aj results170 rfl (L1:=ao F {V with si:=Gl} n++R) ae ?_;rw[eF];exact⟨_,⟨{V with si:=Gl},rfl,⟨hV.out,hV.sw,Fe,hV.sl⟩,rfl⟩,rfl⟩
 rw[if_neg (by simpa using nf)]at eF;refine gc 4 ?_;refine aS 16 (od [15] 16 0) ([sc F.p _ 106]++R) Tryz.mixed (by kernel_rfl) ae ?_;refine gh 10 ?_;refine hr rfl (cA ([i64 n.ah,i64 ad.1.1])) rfl ?_;refine gh 3 ?_;refine hr rfl (iJ rfl underlying32 sizeOf2) rfl ?_;refine bg rfl (JL (C:=n.c) (D:=n.d) (ns:=n.done.l) ?NU ?Pn ?ap1 ?aph) rfl call166 aZ rfl ?_
 case NU=>exact hn.p.c
 case Pn=>exact hV.sl
 case ap1=>exact eh aL rfl rfl
 case aph=>show 4<1000000;decide
 rintro v L' ⟨Mw,rfl,tg,rfl⟩;refine⟨ae,?_⟩;rw[hR]at tg ⊢;refine gh 1 ?_;refine bK (qP (V:={V with si:=Gl,sl:=Mw}) (n:=({n with s:=ad.2}:aa).bf r)) call121 ?_;refine gy 3 ?_;refine cc rfl (fun TD=>?_) (fun TD=>?_)
 ·have j7:n.note=(false,(({n with s:=ad.2}:aa).bf r).err r.1):=by rw[eF];unfold aa.gz aa.iO;simp_all
  refine gc 6 ?_;refine aj results170 rfl (L1:=ao F {V with si:=Gl,sl:=Mw} ((({n with s:=ad.2}:aa).bf r).err r.1)++R) ae ?_;rw[j7];exact⟨_,⟨{V with si:=Gl,sl:=Mw},rfl,⟨hV.out,hV.sw,Fe,tg⟩,rfl⟩,rfl⟩
 have j7:n.note=aa.Im ((({n with s:=ad.2}:aa).bf r).err r.1):=by rw[eF];unfold aa.gz aa.iO;simp_all
 refine gc 3 ?_;unfold bB;refine gy 4 ?_;refine y (ay (u:=qL n.done) rfl isAgg32 sizeOf32 aL rfl rfl) rfl ?_;refine gy 2 ?_;refine bA (aP (us:=qL n.done) rfl rfl (by simp[Value.oneCell']) sizeOf32 bc rfl (by simp) rfl) ?_;refine gy 8 ?_;refine bK (AS (C:=r.2.1) (D:=r.2.2) ?N4) call158 ?_
 case N4=>exact qd.ok.d
 refine bK (qP (V:={V with si:=Gl,sl:=Mw}) (n:=({(({n with s:=ad.2}:aa).bf r).err r.1 with fj:=n.done}:aa).bf (r.2.1.sync r.2.2))) call121 ?_;refine gy 4 ?_;refine aj results170 rfl (L1:=ao F {V with si:=Gl,sl:=Mw} ((({(({n with s:=ad.2}:aa).bf r).err r.1 with fj:=n.done}:aa).bf (r.2.1.sync r.2.2)).err (r.2.1.sync r.2.2).1)++R) ae ?_;rw[j7];exact⟨_,⟨{V with si:=Gl,sl:=Mw},rfl,⟨hV.out,hV.sw,Fe,tg⟩,rfl⟩,rfl⟩
end W
end Go.Proofs
namespace Go.Sl
open aa
theorem uW{l:List ar}{i r:Nat}{w w':ar}{v:Value}{sp:List Value}(h:l[i]? =some w)(hy:w.cells.set r v=w'.cells)(hr:r<7):
  (a6 l++sp).set (i*7+r) v=a6 (l.set i w')++sp:=by
 have hl:=(List.getElem?_eq_some_iff.1 h).1;rw[List.set_append_left _ _ (by rw[cW];omega)];congr 1;exact Tt kJ h hy hr
theorem yv{α:Type}{l:List α}{i:Nat}{f:α→α}{x:α}(h:l[i]? =some x):l.modify i f=l.set i (f x):=by
 obtain⟨h1,h2⟩:=List.getElem?_eq_some_iff.1 h;apply List.ext_getElem?;intro j;rw[List.getElem?_modify,List.getElem?_set]
 by_cases e:i=j
 · subst e;rw[if_pos rfl,if_pos h1,h];simp
 · rw[if_neg e];simp[e]
theorem qA{s:Sv}{m m' k:Nat}{xs xs':List Value}(h:bW s m k xs)(hm:m'=m)(hl:xs'.length=xs.length):bW s m' k xs':=by
 subst hm;cases s with
 |none=>obtain⟨h1,h2⟩:=h;subst h2;exact⟨h1,List.eq_nil_of_length_eq_zero hl⟩
 |some p=>obtain⟨h1,h2,h3,h4⟩:=h;exact⟨h1,h2,by rw[hl];exact h3,by rw[List.length_append,hl,←List.length_append];exact h4⟩
theorem Ks{n:aa}{x:bd}(h:x.bZ=false):eS n x=(true,n):=by unfold eS;rw[if_pos h]
theorem Dz{n:aa}{x:bd}(h:x.bZ=true){ad:(Int × Int) × dC}(hA:n.s.add (jw x)=ad)(he: ¬ad.1.2=0):eS n x=(false,({n with s:=ad.2}:aa).err ad.1.2):=by
 unfold eS nM;rw[if_neg (by rw[h];simp),hA,if_pos he]
theorem xg{n:aa}{x:bd}(h:x.bZ=true){ad:(Int × Int) × dC}(hA:n.s.add (jw x)=ad)(he:ad.1.2=0){r:Int × aQ × az}(hR:n.c.put n.d {x with ve:=n.ah,vs:=ad.1.1}=r):
  eS n x=if r.1=0 then(true,((({n with s:=ad.2}:aa).bf r).err r.1).mc x.bE fun w=>{w with seq:=ad.1.1,stored:=false})else(false,(({n with s:=ad.2}:aa).bf r).err r.1):=by
 unfold eS nM;rw[if_neg (by rw[h];simp),hA,if_neg (by simpa using he),hR];unfold gz iO
 by_cases c:r.1=0
 ·rw[if_pos c,if_pos (by simpa using c)]
 ·rw[if_neg c,if_neg (by simpa using c)];simp[c]
theorem A1{n:aa}{b:Int}{f:ar→ar}{i:Nat}(h:bY n.waits b=some i):n.mc b f={n with waits:=n.waits.modify i f}:=by unfold mc;rw[h]
theorem L3{n:aa}{b:Int}{f:ar→ar}(h:bY n.waits b=none):n.mc b f=n:=by unfold mc;rw[h]
theorem N9{n:aa}{e:Int}(h:e=0):n.err e=n:=by
 subst h;unfold aa.err;simp
end Go.Sl
namespace Go.Proofs
open _root_.Go.Proofs.Tryz
open Go Go.Sl
namespace W
set_option maxHeartbeats 1000000
def wpV(V:NV)(m:Nat):Option Nat→Value
 |none=> .pointer none
 |some i=> .pointer (some ⟨sB (aG V.sw m),i*7,none⟩)
theorem oB{V:NV}{n:aa}{b:Int}{o:Option Nat}(h:aa.bY n.waits b=o):wrP V n b=wpV V n.waits.length o:=by
 unfold wrP;rw[h];cases o<;>rfl
theorem PN [Env]{R:List ax}{F:NF}{V:NV}{n:aa}(hn:n.ok 980000)(hV:ct V n):
   bC Tryz.prog 168 [ptr F.p] (ao F V n) R (KN F n.again.2 (.bool n.again.1)):=by
 have sP:=hn.p.bl;have B7:=hn.a.blocks;have lQ:=aa.ui hn;have hlen:=aa.pY hn;refine ag func168 ntmps168 rfl rfl ?_;unfold ao bB;refine gc 4 ?_;refine bq ?_;intro K2 gM;refine gc 5 ?_;refine aA (HT ?bl6) rfl call59 aZ rfl ?_
 case bl6=>omega
 rintro v L' ⟨Gl,rfl,Fe,rfl⟩;have jt:cE [aD Gl 127 (dZ n.c.all)] (aG Gl n.c.all.length) n.c.all.length (dZ n.c.all):=bG .z Fe;refine y (bH rfl underlying61 (by assumption)) rfl ?_;refine gy 3 ?_
 have fQ: ∀x:Nat × NV × aa,((x.1≤n.c.all.length∧fx aa.eS n.c.all n x.1 x.2.2∧x.2.2.ok (980000+x.1)∧ct x.2.1 x.2.2)∧(x.1=n.c.all.length))→Sk 75 K2 ([(14,i64 x.1),(13,i64 n.c.all.length),(12,aG Gl n.c.all.length),(0,ptr F.p)]) (aD Gl 127 (dZ n.c.all)::ao F x.2.1 x.2.2++R):=by
  rintro⟨k,⟨vo,vw,vp,vi,vl⟩,m⟩ ⟨bJ,eK⟩;refine gM _ _ ?_;obtain⟨hk,hE,hm,mm⟩:=bJ;dsimp only at hk hE hm mm ⊢;unfold ao bB;dsimp only at eK;rw[eK]at hE;have Ly:n.again=(true,m):=hE.done;refine gc 5 ?_;refine aj results168 rfl (L1:=ao F ⟨vo,vw,vp,vi,vl⟩ m++R) ae ?_;rw[Ly];exact⟨_,⟨⟨vo,vw,vp,vi,vl⟩,rfl,mm,rfl⟩,rfl⟩
 clear gM;refine gc 1 ?_;refine bO (A:=Nat × NV × aa) (fun x=>[(14,i64 x.1),(13,i64 n.c.all.length),(12,aG Gl n.c.all.length),(0,ptr F.p)]) (fun x=>aD Gl 127 (dZ n.c.all)::ao F x.2.1 x.2.2++R) (fun x=>x.1≤n.c.all.length∧fx aa.eS n.c.all n x.1 x.2.2∧x.2.2.ok (980000+x.1)∧ct x.2.1 x.2.2) (fun x=>n.c.all.length-x.1) ((0,V,n)) ?_ aq ae ?_
 · exact⟨Nat.zero_le _,fx.zero,hn,hV⟩
 rintro⟨k,⟨vo,vw,vp,vi,vl⟩,m⟩ bJ kt cI;have cC:=bJ;obtain⟨hk,hE,hm,mm⟩:=bJ;dsimp only at hk hE hm mm ⊢;unfold ao bB;refine gc 5 ?_;refine cc rfl (fun zK=>?_) (fun zK=>?_)
 ·refine gc 5 ?_;obtain⟨x,hx⟩: ∃x,n.c.all[k]? =some x:=⟨_,List.getElem?_eq_getElem (by omega)⟩;have oZ:=lQ x (List.mem_of_getElem? hx);have at7:=aa.WG oZ (show n.c.bl≤32 by omega);refine y (aK jt rfl rfl underlying61 sizeOf127 (by omega) (by omega)) rfl ?_;refine y (dB (us:=x.cells) (k*7) jt ae rfl isAgg127 sizeOf127 (by simp) (lD hx) rfl) rfl ?_;refine ya (aB zeroValue127 rfl) rfl ?_;rintro v L' ⟨b4,rfl,rfl⟩;refine bA (aP (vs':=x.cells) rfl rfl (gi x) sizeOf127 bc rfl (by decide) rfl) ?_;refine gy 9 ?_;refine cc rfl (fun Sr=>?_) (fun Sr=>?_)
  ·have JA:aa.eS m x=(true,m):=Ks (by simpa using Sr);have qf:k+1≤n.c.all.length∧fx aa.eS n.c.all n (k+1) m∧m.ok (980000+(k+1))∧ct ⟨vo,vw,vp,vi,vl⟩ m:=⟨by omega,hE.step hx JA,hm.le (by omega),mm⟩;refine gc 5 ?_;have qf:=qf;refine gy 1 ?_;rw[show IntKind.i64.wrap ((k:Int)+1)=((k+1:Nat):Int)by rw[wr (by omega) (by omega)];rfl];refine gy 3 ?_;exact cI (k+1,_,_) qf (by dsimp only;omega) _ _ aq ae
  have hd:x.bZ=true:=by simpa using Sr
  obtain⟨ad,hA⟩: ∃z,m.s.add (aa.jw x)=z:=⟨_,rfl⟩;obtain⟨r,hR⟩: ∃z,m.c.put m.d {x with ve:=m.ah,vs:=ad.1.1}=z:=⟨_,rfl⟩;refine gc 3 ?_;refine aS 19 (od [14] 19 0) ([sc b4 _ 127,sc F.p _ 106]++R) Tryz.mixed (by kernel_rfl) ae ?_;refine gh 13 ?_;refine hr rfl (cA (dY.cells (aa.jw x))) rfl ?_;refine bg rfl (UH (S:=m.s) (x:=aa.jw x) ?ale ?alu) rfl call159 aZ rfl ?_
  case ale=>exact hm.s.fit (by omega)
  case alu=>exact mm.si
  rintro v L' ⟨CS,rfl,jQ,rfl⟩;refine⟨ae,?_⟩;rw[hA]at jQ ⊢;refine gh 14 ?_;refine y (cA ([i64 m.ah,i64 ad.1.1])) rfl ?_;refine gy 1 ?_;refine bA (aP (us:=[i64 m.ah,i64 ad.1.1]) (vs':=bd.cells {x with ve:=m.ah,vs:=ad.1.1}) rfl rfl (by simp[Value.oneCell']) sizeOf84 bc rfl (by simp[bd.cells]) rfl) ?_;refine gy 4 ?_;refine aS 12 [(0,true),(1,true),(2,false),(3,true),(4,true),(5,true),(6,true),(7,true),(8,true),(10,true),(9,false),(11,false)] ([sc b4 _ 127]++R) Tryz.mixed (by kernel_rfl) ae ?_
  by_cases he:ad.1.2=0
  ·refine gh 2 ?_;refine bg rfl (qP (V:=⟨vo,vw,vp,CS,vl⟩) (n:={m with s:=ad.2})) rfl call121 aZ rfl ?_;rintro v L' ⟨rfl,rfl⟩;refine⟨ae,?_⟩;rw[decide_eq_true he,N9 he];refine gh 6 ?_;refine ko rfl rfl rfl (ak rfl isAgg127 sizeOf127 aL (by rfl)) rfl ?_;refine ha1 rfl rfl rfl (fi (bR rfl isAgg98 aL rfl)) rfl ?_;rintro v L' ⟨rfl,rfl⟩;refine⟨ae,?_⟩;refine fk rfl rfl rfl (Un (C:=m.c) (D:=m.d) (x:={x with ve:=m.ah,vs:=ad.1.1}) ?aeE ?ag6) rfl call157 aZ rfl ?_
   case aeE=>exact hm.p.c
   case ag6=>exact mm.sl
   rintro v L' ⟨oW,rfl,qJ,rfl⟩;refine⟨ae,?_⟩;rw[hR]at qJ ⊢;refine gh 1 ?_;refine bV ?_;refine bK (qP (V:=⟨vo,vw,vp,CS,oW⟩) (n:=({m with s:=ad.2}:aa).bf r)) call121 ?_;refine gy 4 ?_;refine cc rfl (fun TH=>?_) (fun TH=>?_)
   ·have ko: ¬r.1=0:=by simpa using TH
    refine gc 11 ?_;refine aj results168 rfl (L1:=ao F ⟨vo,vw,vp,CS,oW⟩ ((({m with s:=ad.2}:aa).bf r).err r.1)++R) ae ?_;rw[show n.again=_ from hE.stop hx ((xg hd hA he hR).trans (if_neg ko))];exact⟨_,⟨⟨vo,vw,vp,CS,oW⟩,rfl,⟨mm.out,mm.sw,jQ,qJ⟩,rfl⟩,rfl⟩
   have ko:r.1=0:=by simpa using TH
   obtain⟨m3,hm3⟩: ∃z,(({m with s:=ad.2}:aa).bf r).err r.1=z:=⟨_,rfl⟩;have JA:aa.eS m x=(true,m3.mc x.bE fun w=>{w with seq:=ad.1.1,stored:=false}):=by rw[xg hd hA he hR,if_pos ko,hm3]
   have lf:(m3.mc x.bE fun w=>{w with seq:=ad.1.1,stored:=false}).ok (980000+(k+1)):=by have:=aa.ok.eS (x:=x) hm oZ (show n.c.bl≤32 by omega);rw[JA]at this;exact this
   obtain⟨wp,l7⟩: ∃z,aa.bY m.waits x.bE=z:=⟨_,rfl⟩;subst hm3;have wx:bW vw m.waits.length 7 (a6 m.waits):=mm.sw;have zE:=hm.w.n;refine gc 6 ?_;refine bK (jF (V:=⟨vo,vw,vp,CS,oW⟩) (n:=(({m with s:=ad.2}:aa).bf r).err r.1) ?amP ?atv) call100 ?_
   case amP=>exact mm.sw
   case atv=>show m.waits.length≤1000000;omega
   rw[oB (n:=(({m with s:=ad.2}:aa).bf r).err r.1) (o:=wp) l7];refine gy 4 ?_;rcases wp with _|i
   ·refine gy 1 ?_;refine y (dw rfl rfl underlying183) rfl ?_;refine gy 7 ?_
    (rw[L3 (n:=(({m with s:=ad.2}:aa).bf r).err r.1) l7]at JA lf;have qf:k+1≤n.c.all.length∧fx aa.eS n.c.all n (k+1) ((({m with s:=ad.2}:aa).bf r).err r.1)∧((({m with s:=ad.2}:aa).bf r).err r.1).ok (980000+(k+1))∧ct ⟨vo,vw,vp,CS,oW⟩ ((({m with s:=ad.2}:aa).bf r).err r.1):=⟨by omega,hE.step hx JA,lf,⟨mm.out,mm.sw,jQ,qJ⟩⟩)
    refine gy 1 ?_;rw[show IntKind.i64.wrap ((k:Int)+1)=((k+1:Nat):Int)by rw[wr (by omega) (by omega)];rfl];refine gy 3 ?_;exact cI (k+1,_,_) qf (by dsimp only;omega) _ _ aq ae
   refine gy 1 ?_;refine y (dw rfl rfl underlying183) rfl ?_;refine gy 4 ?_;obtain⟨w,Dj,-,-⟩:=eR l7;have SC:=(List.getElem?_eq_some_iff.1 Dj).1;obtain⟨bw,cw,qT,rfl,hcw⟩:=w6 wx (by omega);unfold iK;simp only[aD];obtain⟨ws,ZS⟩: ∃z,(m.waits.set i {w with seq:=ad.1.1}).set i {w with seq:=ad.1.1,stored:=false}=z:=⟨_,rfl⟩;have HO:ws.length=m.waits.length:=by rw[←ZS];simp
   rw[A1 (n:=(({m with s:=ad.2}:aa).bf r).err r.1) l7,show(aa.err (({m with s:=ad.2}:aa).bf r) r.1).waits.modify i _=ws by rw[show(aa.err (({m with s:=ad.2}:aa).bf r) r.1).waits=m.waits from rfl,yv Dj,←ZS,List.set_set]]at JA lf;refine gy 5 ?_;refine bA (an (vs':=a6 (m.waits.set i {w with seq:=ad.1.1})++qT) rfl rfl rfl sizeOf2 bc (by rw[Nat.blt_eq,List.length_append,cW];show i*7+4<m.waits.length*7+qT.length;omega) (uW Dj rfl (by decide))) ?_;refine gy 2 ?_;refine bA (an (vs':=a6 ws++qT) rfl rfl rfl sizeOf4 bc (by rw[Nat.blt_eq,List.length_append,cW,List.length_set];omega) (by rw[←ZS];exact uW (w:={w with seq:=ad.1.1}) (by rw[List.getElem?_set_self SC]) rfl (by decide))) ?_;have oJ:bB F ⟨vo,some (bw,cw,qT),vp,CS,oW⟩ ((({m with s:=ad.2}:aa).bf r).err r.1)=bB F ⟨vo,some (bw,cw,qT),vp,CS,oW⟩ {(({m with s:=ad.2}:aa).bf r).err r.1 with waits:=ws}:=by unfold bB;dsimp only[aa.err,aa.bf];rw[HO]
   rw[oJ];have qf:k+1≤n.c.all.length∧fx aa.eS n.c.all n (k+1) {(({m with s:=ad.2}:aa).bf r).err r.1 with waits:=ws}∧({(({m with s:=ad.2}:aa).bf r).err r.1 with waits:=ws}:aa).ok (980000+(k+1))∧ct ⟨vo,some (bw,cw,qT),vp,CS,oW⟩ {(({m with s:=ad.2}:aa).bf r).err r.1 with waits:=ws}:=⟨by omega,hE.step hx JA,lf,⟨mm.out,qA wx HO (by rw[cW,cW,HO]),jQ,qJ⟩⟩;refine gy 4 ?_;have qf:=qf;refine gy 1 ?_;rw[show IntKind.i64.wrap ((k:Int)+1)=((k+1:Nat):Int)by rw[wr (by omega) (by omega)];rfl];refine gy 3 ?_;exact cI (k+1,_,_) qf (by dsimp only;omega) _ _ aq ae
  refine gh 2 ?_;refine bg rfl (qP (V:=⟨vo,vw,vp,CS,vl⟩) (n:={m with s:=ad.2})) rfl call121 aZ rfl ?_;rintro v L' ⟨rfl,rfl⟩;refine⟨ae,?_⟩;rw[decide_eq_false he];refine gh 7 ?_;refine lF rfl rfl rfl rfl rfl ae ?_;refine lF rfl rfl rfl rfl rfl ae ?_;refine gh 18 ?_;refine aj results168 rfl (L1:=ao F ⟨vo,vw,vp,CS,vl⟩ (({m with s:=ad.2}:aa).err ad.1.2)++R) ae ?_;rw[show n.again=_ from hE.stop hx (Dz hd hA he)];exact⟨_,⟨⟨vo,vw,vp,CS,vl⟩,rfl,⟨mm.out,mm.sw,jQ,mm.sl⟩,rfl⟩,rfl⟩
 refine gc 5 ?_;exact aV aq ae (fQ ⟨k,⟨vo,vw,vp,vi,vl⟩,m⟩ ⟨cC,by dsimp only;omega⟩)
end W
end Go.Proofs
namespace Go.Sl
open aa
def dK(n:aa)(l:List gI):aa:={n with out:=l}
def qz(n:aa)(k:Nat):aa:=(n.waits.take k).foldl dz n
theorem C4{n:aa}{k:Nat}{w:ar}(h:n.waits[k]? =some w):qz n (k+1)=dz (qz n k) w:=by
 unfold qz;rw[dg h,List.foldl_append];rfl
theorem FO(n:aa):qz n n.waits.length=n.fY:=by unfold qz fY;rw[List.take_length]
theorem tL{n:aa}{w:ar}(h:bM n.c.en w.bE=none):dz n w=n:=by unfold dz;rw[h]
theorem tM{n:aa}{w:ar}{x:bd}(h:bM n.c.en w.bE=some x)(h2:w.op=2)(h3:n.wD w=true):dz n w=n.store x w.cl w.n:=by unfold dz;rw[h];dsimp only;rw[if_pos ⟨h2,h3⟩]
theorem mC{n:aa}{w:ar}(h: ¬(w.op=2∧n.wD w=true)):dz n w=n:=by
 unfold dz;split
 · rfl
 · rw[if_neg h]
end Go.Sl
namespace Go.Proofs
open _root_.Go.Proofs.Tryz
open Go Go.Sl
namespace W
set_option maxHeartbeats 1000000
theorem J5 [Env]{R:List ax}{F:NF}{V:NV}{n:aa}(hn:n.ok 990000)(hV:ct V n):
   bC Tryz.prog 116 [ptr F.p] (ao F V n) R (KN F n.fY (.tuple #[])):=by
 have zE:=hn.w.n;have WA:=hn.out;have wx:bW V.sw n.waits.length 7 (a6 n.waits):=hV.sw;refine ag func116 ntmps116 rfl rfl ?_;unfold ao bB;refine gc 6 ?_;refine y (bH rfl underlying101 (by assumption)) rfl ?_;refine gy 4 ?_;refine bO (A:=Nat × Sv × List gI) (fun x=>[(12,i64 x.1),(11,i64 n.waits.length),(10,aG V.sw n.waits.length),(0,ptr F.p)]) (fun x=>ao F {V with out:=x.2.1} (dK n x.2.2)++R) (fun x=>x.1≤n.waits.length∧qz n x.1=dK n x.2.2∧bW x.2.1 x.2.2.length 3 (fG x.2.2)∧x.2.2.length≤990000+x.1) (fun x=>n.waits.length-x.1) ((0,V.out,n.out)) ?_ aq ae ?_
 · exact⟨Nat.zero_le _,rfl,hV.out,by dsimp only;omega⟩
 rintro⟨k,o,l⟩ bJ kt cI;obtain⟨hk,hE,lh,oI⟩:=bJ;dsimp only at hk hE lh oI ⊢;unfold ao bB;have jt:cE [iK V n] (aG V.sw n.waits.length) n.waits.length (a6 n.waits):=bG .z hV.sw;refine gc 5 ?_;refine cc rfl (fun h9=>?_) (fun h9=>?_)
 ·refine gc 5 ?_;obtain⟨w,hw⟩: ∃w,n.waits[k]? =some w:=⟨_,List.getElem?_eq_getElem (by omega)⟩;have iP:=C4 hw;rw[hE]at iP;obtain⟨ox,qg⟩: ∃z,bM (dK n l).c.en w.bE=z:=⟨_,rfl⟩;refine y (aK jt rfl rfl underlying101 sizeOf177 (by omega) (by omega)) rfl ?_;refine y (dB (us:=w.cells) (k*7) jt ae rfl isAgg177 sizeOf177 (by simp) (lb kJ hw) rfl) rfl ?_;refine ya (aB zeroValue177 rfl) rfl ?_;rintro v L' ⟨b3,rfl,rfl⟩;refine bA (aP (vs':=w.cells) rfl rfl (cY w) sizeOf177 bc rfl (by decide) rfl) ?_;refine gy 3 ?_;refine kO 12 (.op 0 0 (.op 1 0 (.op 2 0 (.op 3 1 (.op 4 0 (.op 5 1 (.fork 6 (.op 7 0 (.op 8 0 (.op 9 0 (.op 10 2 (.op 11 2 (.nil)))))) 10 (.op 6 2 (.op 7 0 (.op 8 0 (.op 9 0 (.op 11 2 (.nil))))))))))))) ([sc b3 _ 177,sc F.p _ 106,cU F.A n.c,ga F.A n.c]++R) Tryz.mixed (by kernel_rfl) ae ?_;refine nz rfl (ba rfl) rfl ?_;refine nz rfl (fD rfl) rfl ?_;refine nz rfl (aT 7 rfl underlying106 rfl sizeOf98) rfl ?_;refine nr rfl (bR rfl isAgg98 aL rfl) rfl ?_;refine nz rfl (aT 3 rfl underlying177 rfl sizeOf3) rfl ?_;refine nr rfl (bR rfl isAgg3 aL rfl) rfl ?_;refine mu ?_ ?_
  ·refine fy rfl (HV) rfl call153 aZ rfl ?_;rintro v L' ⟨rfl,rfl⟩;refine⟨ae,?_⟩;rw[qg];refine nz rfl (ba rfl) rfl ?_;refine nz rfl (cV rfl rfl) rfl ?_;refine nz rfl (cV rfl rfl) rfl ?_;refine na rfl (aB zeroValue127 rfl) rfl ?_;rintro v L' ⟨b4,rfl,rfl⟩;refine⟨ae,?_⟩;refine UX rfl (aP (vs':=bd.cells (ox.getD .zero)) rfl rfl (gi _) sizeOf127 bc rfl (by decide) rfl) ?_;rintro v L' ⟨rfl,rfl⟩;refine⟨ae,?_⟩;refine ik ?_;refine gy 8 ?_;refine cv 29 rfl (fun Su=>?_) (fun Su=>?_)
   ·have sS:w.op=2:=by assumption
    refine gy 1 ?_;refine bV ?_;refine y (ak rfl isAgg177 sizeOf177 aL (by rfl)) rfl ?_;refine bV ?_;refine bK (L5 (V:={V with out:=o}) (n:=dK n l) (w:=w)) call151 ?_;refine gy 2 ?_;refine cv 34 rfl (fun zN=>?_) (fun zN=>?_)
    ·refine gy 4 ?_;refine cc rfl (fun Lc=>?_) (fun Lc=>?_)
     ·refine gc 1 ?_
      obtain⟨ex,rfl⟩: ∃z,ox=some z:=by
        rcases ox with _|ex
        · simp_all
        exact⟨ex,rfl⟩
      refine gy 1 ?_;refine y (ak rfl isAgg127 sizeOf127 aL (by rfl)) rfl ?_;refine gy 4 ?_;refine aA (rH (V:={V with out:=o}) (n:=dK n l) (x:=ex) ?Fk ?QU) rfl call152 aZ rfl ?_
      case Fk=>exact lh
      case QU=>show l.length≤1000000;omega
      rintro v L' ⟨o43,rfl,QM,rfl⟩;refine gy 5 ?_;rw[show IntKind.i64.wrap ((k:Int)+1)=((k+1:Nat):Int)by rw[wr (by omega) (by omega)];rfl];refine gy 3 ?_;exact cI (k+1,o43,((dK n l).store ex w.cl w.n).out) ⟨by dsimp only;omega,by rw[iP,tM qg (by assumption) (by assumption)];rfl,QM,by show(l++[_]).length≤_;simp;omega⟩ (by dsimp only;omega) _ _ aq ae
     have fg:aa.dz (dK n l) w=dK n l:=tL (qg.trans (by simpa using Lc));refine gc 5 ?_;rw[show IntKind.i64.wrap ((k:Int)+1)=((k+1:Nat):Int)by rw[wr (by omega) (by omega)];rfl];refine gy 3 ?_;exact cI (k+1,o,l) ⟨by dsimp only;omega,iP.trans fg,lh,by dsimp only;omega⟩ (by dsimp only;omega) _ _ aq ae
    have fg:aa.dz (dK n l) w=dK n l:=mC (fun hh=>by rw[zN]at hh;cases hh.2);refine gy 10 ?_;rw[show IntKind.i64.wrap ((k:Int)+1)=((k+1:Nat):Int)by rw[wr (by omega) (by omega)];rfl];refine gy 3 ?_;exact cI (k+1,o,l) ⟨by dsimp only;omega,iP.trans fg,lh,by dsimp only;omega⟩ (by dsimp only;omega) _ _ aq ae
   have fg:aa.dz (dK n l) w=dK n l:=mC (fun hh=>Su hh.1);refine gy 15 ?_;rw[show IntKind.i64.wrap ((k:Int)+1)=((k+1:Nat):Int)by rw[wr (by omega) (by omega)];rfl];refine gy 3 ?_;exact cI (k+1,o,l) ⟨by dsimp only;omega,iP.trans fg,lh,by dsimp only;omega⟩ (by dsimp only;omega) _ _ aq ae
  refine na rfl (aB zeroValue127 rfl) rfl ?_;rintro v L' ⟨b4,rfl,rfl⟩;refine⟨ae,?_⟩;refine fy rfl (HV) rfl call153 aZ rfl ?_;rintro v L' ⟨rfl,rfl⟩;refine⟨ae,?_⟩;rw[qg];refine nz rfl (ba rfl) rfl ?_;refine nz rfl (cV rfl rfl) rfl ?_;refine nz rfl (cV rfl rfl) rfl ?_;refine UX rfl (aP (vs':=bd.cells (ox.getD .zero)) rfl rfl (gi _) sizeOf127 bc rfl (by decide) rfl) ?_;rintro v L' ⟨rfl,rfl⟩;refine⟨ae,?_⟩;refine ik ?_;refine gy 8 ?_;refine cv 29 rfl (fun MW=>?_) (fun MW=>?_)
  ·have sS:w.op=2:=by assumption
   refine gy 1 ?_;refine bV ?_;refine y (ak rfl isAgg177 sizeOf177 aL (by rfl)) rfl ?_;refine bV ?_;refine bK (L5 (V:={V with out:=o}) (n:=dK n l) (w:=w)) call151 ?_;refine gy 2 ?_;refine cv 34 rfl (fun h77=>?_) (fun h77=>?_)
   ·refine gy 4 ?_;refine cc rfl (fun Dg=>?_) (fun Dg=>?_)
    ·refine gc 1 ?_
     obtain⟨ex,rfl⟩: ∃z,ox=some z:=by
       rcases ox with _|ex
       · simp_all
       exact⟨ex,rfl⟩
     refine gy 1 ?_;refine y (ak rfl isAgg127 sizeOf127 aL (by rfl)) rfl ?_;refine gy 4 ?_;refine aA (rH (V:={V with out:=o}) (n:=dK n l) (x:=ex) ?Q5 ?abg) rfl call152 aZ rfl ?_
     case Q5=>exact lh
     case abg=>show l.length≤1000000;omega
     rintro v L' ⟨o43,rfl,QM,rfl⟩;refine gy 5 ?_;rw[show IntKind.i64.wrap ((k:Int)+1)=((k+1:Nat):Int)by rw[wr (by omega) (by omega)];rfl];refine gy 3 ?_;exact cI (k+1,o43,((dK n l).store ex w.cl w.n).out) ⟨by dsimp only;omega,by rw[iP,tM qg (by assumption) (by assumption)];rfl,QM,by show(l++[_]).length≤_;simp;omega⟩ (by dsimp only;omega) _ _ aq ae
    have fg:aa.dz (dK n l) w=dK n l:=tL (qg.trans (by simpa using Dg));refine gc 5 ?_;rw[show IntKind.i64.wrap ((k:Int)+1)=((k+1:Nat):Int)by rw[wr (by omega) (by omega)];rfl];refine gy 3 ?_;exact cI (k+1,o,l) ⟨by dsimp only;omega,iP.trans fg,lh,by dsimp only;omega⟩ (by dsimp only;omega) _ _ aq ae
   have fg:aa.dz (dK n l) w=dK n l:=mC (fun hh=>by rw[h77]at hh;cases hh.2);refine gy 10 ?_;rw[show IntKind.i64.wrap ((k:Int)+1)=((k+1:Nat):Int)by rw[wr (by omega) (by omega)];rfl];refine gy 3 ?_;exact cI (k+1,o,l) ⟨by dsimp only;omega,iP.trans fg,lh,by dsimp only;omega⟩ (by dsimp only;omega) _ _ aq ae
  have fg:aa.dz (dK n l) w=dK n l:=mC (fun hh=>MW hh.1);refine gy 15 ?_;rw[show IntKind.i64.wrap ((k:Int)+1)=((k+1:Nat):Int)by rw[wr (by omega) (by omega)];rfl];refine gy 3 ?_;exact cI (k+1,o,l) ⟨by dsimp only;omega,iP.trans fg,lh,by dsimp only;omega⟩ (by dsimp only;omega) _ _ aq ae
 have TY:k=n.waits.length:=by omega
 have Ly:n.fY=dK n l:=by rw[←FO,←TY];exact hE
 refine gc 4 ?_;refine aN results116 (L1:=ao F {V with out:=o} (dK n l)++R) ae ?_;rw[Ly];exact⟨_,⟨{V with out:=o},rfl,⟨lh,hV.sw,hV.si,hV.sl⟩,rfl⟩,rfl⟩
theorem UR [Env]{R:List ax}{P:ax}{v:Value}{es:List bd}{g:FuncId}{cs:Array Value}{p:bd→Bool}(hv:cE R v es.length (dZ es))(hl:es.length<1000000)
   (bg: ∀(args:Array Value) (w:World),(callFunc g args).run Tryz.prog w= .ok (.enter g args) w) (hp: ∀(R:List ax) (x:bd),bC Tryz.prog g ([ib x]++cs.toList) [P] R (Is (.bool (p x)) [P])):
   bC Tryz.prog 220 [v,.func (.func g) #[] cs] [P] R (fun u L'=> ∃i:Int,u=i64 i∧decide (0≤i)=es.any p∧L'=[P]):=by
 refine ag func220 ntmps220 rfl rfl ?_;refine gc 4 ?_;refine bq ?_;intro K2 gM;refine gc 2 ?_;refine y (bu rfl underlying61 (cE.bo (by assumption))) rfl ?_;refine gy 3 ?_
 have fQ: ∀x:Nat,((x≤es.length∧(es.take x).any p=false)∧(x=es.length))→Sk 19 K2 ([(8,i64 x),(7,i64 es.length),(0,v),(1,.func (.func g) #[] cs)]) ([P]++R):=by
  rintro k ⟨bJ,eK⟩;refine gM _ _ ?_;obtain⟨hk,eF⟩:=bJ;subst eK;rw[List.take_length]at eF;refine gc 5 ?_;refine aj results220 rfl (L1:=[P]++R) ae ?_
  first
    |exact⟨_,⟨_,rfl,by rw[yc];simp,rfl⟩,rfl⟩
    |exact⟨_,⟨_,rfl,by rw[eF];simp,rfl⟩,rfl⟩
 clear gM;refine gc 1 ?_;refine bO (A:=Nat) (fun x=>[(8,i64 x),(7,i64 es.length),(0,v),(1,.func (.func g) #[] cs)]) (fun x=>[P]++R) (fun x=>x≤es.length∧(es.take x).any p=false) (fun x=>es.length-x) (0) ?_ aq ae ?_
 · exact⟨Nat.zero_le _,by simp⟩
 rintro k bJ kt cI;have cC:=bJ;obtain⟨hk,eF⟩:=bJ;refine gc 5 ?_;refine cc rfl (fun h7=>?_) (fun h7=>?_)
 ·obtain⟨x,hx⟩: ∃t,es[k]? =some t:=⟨_,List.getElem?_eq_getElem (by omega)⟩;refine gc 13 ?_;refine y (aK hv rfl rfl underlying61 sizeOf127 (by omega) (by omega)) rfl ?_;refine y (dB (us:=x.cells) (k*7) hv ae rfl isAgg127 sizeOf127 (by simp) (lD hx) rfl) rfl ?_;refine lZ rfl (hp _ x) rfl bg aZ rfl ?_;rintro v L' ⟨rfl,rfl⟩;refine gy 2 ?_;refine cc rfl (fun nf=>?_) (fun nf=>?_)
  ·have yc:es.any p=true:=List.any_eq_true.2 ⟨x,List.mem_of_getElem? hx,nf⟩;refine gc 11 ?_
   first
     |(exfalso;omega;done)
     | (refine aj results220 rfl (L1:=[P]++R) ae ?_
        first
          |exact⟨_,⟨_,rfl,by rw[yc];simp,rfl⟩,rfl⟩
          |exact⟨_,⟨_,rfl,by rw[eF];simp,rfl⟩,rfl⟩)
  have j7:(es.take (k+1)).any p=false:=by rw[dg hx];simp[eF,nf]
  refine gc 5 ?_;rw[show IntKind.i64.wrap ((k:Int)+1)=((k+1:Nat):Int)by rw[wr (by omega) (by omega)];rfl];refine gy 3 ?_;exact cI (k+1) (⟨by omega,j7⟩) (by omega) _ _ aq ae
 refine gc 5 ?_;exact aV aq ae (fQ k ⟨cC,by omega⟩)
theorem aaq [Env]{R:List ax}{P:ax}{v:Value}{es:List bd}{g:FuncId}{cs:Array Value}{p:bd→Bool}(hv:cE R v es.length (dZ es))(hl:es.length<1000000)
   (bg: ∀(args:Array Value) (w:World),(callFunc g args).run Tryz.prog w= .ok (.enter g args) w) (hp: ∀(R:List ax) (x:bd),bC Tryz.prog g ([ib x]++cs.toList) [P] R (Is (.bool (p x)) [P])):
   bC Tryz.prog 199 [v,.func (.func g) #[] cs] [P] R (Is (.bool (es.any p)) [P]):=by
 refine ag func199 ntmps199 rfl rfl ?_;refine gc 7 ?_;refine aA (UR hv hl bg hp) rfl call220 aZ rfl ?_;rintro v L' ⟨i7,rfl,Zg,rfl⟩;refine gy 1 ?_;rw[Zg];refine gy 4 ?_;refine aj results199 rfl (L1:=[P]++R) ae ?_;exact⟨_,⟨by rfl,rfl⟩,by rfl⟩
theorem UT [Env]{R:List ax}{P:ax}{v:Value}{ws:List ar}{g:FuncId}{cs:Array Value}{p:ar→Bool}(hv:cE R v ws.length (a6 ws))(hl:ws.length<1000000)
   (bg: ∀(args:Array Value) (w:World),(callFunc g args).run Tryz.prog w= .ok (.enter g args) w) (hp: ∀(R:List ax) (x:ar),bC Tryz.prog g ([I4 x]++cs.toList) [P] R (Is (.bool (p x)) [P])):
   bC Tryz.prog 149 [v,.func (.func g) #[] cs] [P] R (fun u L'=> ∃i:Int,u=i64 i∧decide (0≤i)=ws.any p∧L'=[P]):=by
 refine ag func149 ntmps149 rfl rfl ?_;refine gc 4 ?_;refine bq ?_;intro K2 gM;refine gc 2 ?_;refine y (bu rfl underlying101 (cE.bo (by assumption))) rfl ?_;refine gy 3 ?_
 have fQ: ∀x:Nat,((x≤ws.length∧(ws.take x).any p=false)∧(x=ws.length))→Sk 19 K2 ([(8,i64 x),(7,i64 ws.length),(0,v),(1,.func (.func g) #[] cs)]) ([P]++R):=by
  rintro k ⟨bJ,eK⟩;refine gM _ _ ?_;obtain⟨hk,eF⟩:=bJ;subst eK;rw[List.take_length]at eF;refine gc 5 ?_;refine aj results149 rfl (L1:=[P]++R) ae ?_
  first
    |exact⟨_,⟨_,rfl,by rw[yc];simp,rfl⟩,rfl⟩
    |exact⟨_,⟨_,rfl,by rw[eF];simp,rfl⟩,rfl⟩
 clear gM;refine gc 1 ?_;refine bO (A:=Nat) (fun x=>[(8,i64 x),(7,i64 ws.length),(0,v),(1,.func (.func g) #[] cs)]) (fun x=>[P]++R) (fun x=>x≤ws.length∧(ws.take x).any p=false) (fun x=>ws.length-x) (0) ?_ aq ae ?_
 · exact⟨Nat.zero_le _,by simp⟩
 rintro k bJ kt cI;have cC:=bJ;obtain⟨hk,eF⟩:=bJ;refine gc 5 ?_;refine cc rfl (fun OC=>?_) (fun OC=>?_)
 ·obtain⟨x,hx⟩: ∃t,ws[k]? =some t:=⟨_,List.getElem?_eq_getElem (by omega)⟩;refine gc 13 ?_;refine y (aK hv rfl rfl underlying101 sizeOf177 (by omega) (by omega)) rfl ?_;refine y (dB (us:=x.cells) (k*7) hv ae rfl isAgg177 sizeOf177 (by simp) (lb kJ hx) rfl) rfl ?_;refine lZ rfl (hp _ x) rfl bg aZ rfl ?_;rintro v L' ⟨rfl,rfl⟩;refine gy 2 ?_;refine cc rfl (fun YP=>?_) (fun YP=>?_)
  ·have yc:ws.any p=true:=List.any_eq_true.2 ⟨x,List.mem_of_getElem? hx,YP⟩;refine gc 11 ?_
   first
     |(exfalso;omega;done)
     | (refine aj results149 rfl (L1:=[P]++R) ae ?_
        first
          |exact⟨_,⟨_,rfl,by rw[yc];simp,rfl⟩,rfl⟩
          |exact⟨_,⟨_,rfl,by rw[eF];simp,rfl⟩,rfl⟩)
  have j7:(ws.take (k+1)).any p=false:=by rw[dg hx];simp[eF,YP]
  refine gc 5 ?_;rw[show IntKind.i64.wrap ((k:Int)+1)=((k+1:Nat):Int)by rw[wr (by omega) (by omega)];rfl];refine gy 3 ?_;exact cI (k+1) (⟨by omega,j7⟩) (by omega) _ _ aq ae
 refine gc 5 ?_;exact aV aq ae (fQ k ⟨cC,by omega⟩)
theorem aar [Env]{R:List ax}{P:ax}{v:Value}{ws:List ar}{g:FuncId}{cs:Array Value}{p:ar→Bool}(hv:cE R v ws.length (a6 ws))(hl:ws.length<1000000)
   (bg: ∀(args:Array Value) (w:World),(callFunc g args).run Tryz.prog w= .ok (.enter g args) w) (hp: ∀(R:List ax) (x:ar),bC Tryz.prog g ([I4 x]++cs.toList) [P] R (Is (.bool (p x)) [P])):
   bC Tryz.prog 95 [v,.func (.func g) #[] cs] [P] R (Is (.bool (ws.any p)) [P]):=by
 refine ag func95 ntmps95 rfl rfl ?_;refine gc 7 ?_;refine aA (UT hv hl bg hp) rfl call149 aZ rfl ?_;rintro v L' ⟨i7,rfl,Zg,rfl⟩;refine gy 1 ?_;rw[Zg];refine gy 4 ?_;refine aj results95 rfl (L1:=[P]++R) ae ?_;exact⟨_,⟨by rfl,rfl⟩,by rfl⟩
theorem iU(Ps R:List ax):(Ps++R).flatten.Perm ([Ps.flatten]++R).flatten:=by simp
theorem UN [Env]{R Ps:List ax}{v:Value}{es:List bd}{g:FuncId}{cs:Array Value}{p:bd→Bool}(hv:cE R v es.length (dZ es))(hl:es.length<1000000)
   (bg: ∀(args:Array Value) (w:World),(callFunc g args).run Tryz.prog w= .ok (.enter g args) w) (hp: ∀(R:List ax) (x:bd),bC Tryz.prog g ([ib x]++cs.toList) Ps R (Is (.bool (p x)) Ps)):
   bC Tryz.prog 199 [v,.func (.func g) #[] cs] Ps R (Is (.bool (es.any p)) Ps):=
 (aaq (P:=Ps.flatten) hv hl bg (fun R x=>(hp R x).via (iU Ps R).symm fun v L' ⟨h1,h2⟩=>⟨_,⟨h1,rfl⟩,h2▸iU Ps R⟩)).via (iU Ps R) fun v L' ⟨h1,h2⟩=>⟨_,⟨h1,rfl⟩,h2▸(iU Ps R).symm⟩
theorem J0 [Env]{R Ps:List ax}{v:Value}{ws:List ar}{g:FuncId}{cs:Array Value}{p:ar→Bool}(hv:cE R v ws.length (a6 ws))(hl:ws.length<1000000)
   (bg: ∀(args:Array Value) (w:World),(callFunc g args).run Tryz.prog w= .ok (.enter g args) w) (hp: ∀(R:List ax) (x:ar),bC Tryz.prog g ([I4 x]++cs.toList) Ps R (Is (.bool (p x)) Ps)):
   bC Tryz.prog 95 [v,.func (.func g) #[] cs] Ps R (Is (.bool (ws.any p)) Ps):=
 (aar (P:=Ps.flatten) hv hl bg (fun R x=>(hp R x).via (iU Ps R).symm fun v L' ⟨h1,h2⟩=>⟨_,⟨h1,rfl⟩,h2▸iU Ps R⟩)).via (iU Ps R) fun v L' ⟨h1,h2⟩=>⟨_,⟨h1,rfl⟩,h2▸(iU Ps R).symm⟩
theorem L4 [Env]{R:List ax}{F:NF}{V:NV}{n:aa}{x:bd}{q:Int}{p1 p2:Nat}:bC Tryz.prog 200 [ib x,ptr p1,ptr p2] [sc p1 [ptr F.p] 27,sc p2 [i64 q] 2,bB F V n] R
   (Is (.bool (x.bZ&&(decide (x.ve<n.ah)||decide (x.vs≤q)))) [sc p1 [ptr F.p] 27,sc p2 [i64 q] 2,bB F V n]):=by
 refine ag func200 ntmps200 rfl rfl ?_;unfold bB;refine gc 1 ?_;refine ya (a7 (vs:=x.cells) rfl rfl) rfl ?_;rintro v L' ⟨b3,rfl,rfl⟩;refine gy 4 ?_;refine aS 19 (od [] 19 0) (_) Tryz.mixed (by kernel_rfl) .refl ?_;refine gh 3 ?_;refine fZ 7 rfl (fun h6=>?_) (fun h6=>?_)
 ·refine gh 9 ?_;refine fZ 16 rfl (fun nf=>?_) (fun nf=>?_)
  ·refine gh 12 ?_;refine aj results200 rfl (L1:=[sc p1 _ _,sc p2 _ _,sc F.p _ _]++R) ae ?_;exact⟨_,⟨by simp_all,rfl⟩,by rfl⟩
  refine gh 12 ?_;refine aj results200 rfl (L1:=[sc p1 _ _,sc p2 _ _,sc F.p _ _]++R) ae ?_;exact⟨_,⟨by(simp_all;intro;omega),rfl⟩,by rfl⟩
 refine gh 21 ?_;refine aj results200 rfl (L1:=[sc p1 _ _,sc p2 _ _,sc F.p _ _]++R) ae ?_;exact⟨_,⟨by simp_all,rfl⟩,by rfl⟩
theorem pL [Env]{R:List ax}{F:NF}{V:NV}{n:aa}{q:Int}(hw:R8 V n)(zE:n.waits.length≤16)(hb:n.c.bl≤32)(zT:n.c.all.length≤32):
   bC Tryz.prog 155 [ptr F.p,i64 q] [bB F V n,iK V n,cU F.A n.c,ga F.A n.c] R (Is (.bool (n.fT q)) [bB F V n,iK V n,cU F.A n.c,ga F.A n.c]):=by
 have wx:bW V.sw n.waits.length 7 (a6 n.waits):=hw;have jt:cE [iK V n] (aG V.sw n.waits.length) n.waits.length (a6 n.waits):=bG .z wx;refine ag func155 ntmps155 rfl rfl ?_;unfold bB;refine gc 1 ?_;refine ya (a7 rfl rfl) rfl ?_;rintro v L' ⟨b2,rfl,rfl⟩;refine ya (a7 rfl rfl) rfl ?_;rintro v L' ⟨b3,rfl,rfl⟩;refine gy 3 ?_;refine bq ?_;intro K2 gM;refine gc 6 ?_;refine y (bH rfl underlying101 (by assumption)) rfl ?_;refine gy 3 ?_
 have fQ: ∀x:Nat,((x≤n.waits.length∧((n.waits.take x).any fun w=>decide (w.op=2)&&decide (w.seq≤q))=false)∧(x=n.waits.length))→Sk 35 K2 ([(13,i64 x),(12,i64 n.waits.length),(11,aG V.sw n.waits.length),(2,ptr b2),(3,ptr b3)]) ([sc b2 [ptr F.p] 27,sc b3 [i64 q] 2,bB F V n,iK V n,cU F.A n.c,ga F.A n.c]++R):=by
  rintro k ⟨bJ,eK⟩;refine gM _ _ ?_;obtain⟨hk,eF⟩:=bJ;subst eK;rw[List.take_length]at eF;unfold bB;refine gc 5 ?_;refine aA (HT ?anc) rfl call59 aZ rfl ?_
  case anc=>exact hb
  rintro v L' ⟨s31,rfl,Ae,rfl⟩;have sR:cE [aD s31 127 (dZ n.c.all)] (aG s31 n.c.all.length) n.c.all.length (dZ n.c.all):=bG .z Ae
  refine y (lE (vs:= #[ptr b2,ptr b3]) (fun a hf=>by
      have h1:a.eval (.tmp 2)=ptr b2:=hf.ev rfl;have h2:a.eval (.tmp 3)=ptr b3:=hf.ev rfl;simp[h1,h2])) rfl ?_
  refine bK (UN (es:=n.c.all) (Ps:=[sc b2 [ptr F.p] 27,sc b3 [i64 q] 2,bB F V n]) (cs:= #[ptr b2,ptr b3]) (p:=fun x=>x.bZ&&(decide (x.ve<n.ah)||decide (x.vs≤q))) ?agJ (by omega) call200 (fun R x=>L4)) call199 ?_
  case agJ=>exact sR.mono ae
  refine gy 5 ?_;refine aj results155 rfl (L1:=[bB F V n,iK V n,cU F.A n.c,ga F.A n.c]++R) ae ?_;refine⟨_,⟨?_,rfl⟩,rfl⟩;unfold aa.fT;rw[eF];rfl
 clear gM;refine gc 1 ?_;refine bO (A:=Nat) (fun x=>[(13,i64 x),(12,i64 n.waits.length),(11,aG V.sw n.waits.length),(2,ptr b2),(3,ptr b3)]) (fun x=>[sc b2 [ptr F.p] 27,sc b3 [i64 q] 2,bB F V n,iK V n,cU F.A n.c,ga F.A n.c]++R) (fun x=>x≤n.waits.length∧((n.waits.take x).any fun w=>decide (w.op=2)&&decide (w.seq≤q))=false) (fun x=>n.waits.length-x) (0) ?_ aq ae ?_
 · exact⟨Nat.zero_le _,by simp⟩
 rintro k bJ kt cI;have cC:=bJ;obtain⟨hk,eF⟩:=bJ;refine gc 5 ?_;refine cc rfl (fun OG=>?_) (fun OG=>?_)
 ·refine gc 5 ?_;obtain⟨w,Uh⟩: ∃w,n.waits[k]? =some w:=⟨_,List.getElem?_eq_getElem (by omega)⟩;have lR: ¬(w.op=2∧w.seq≤q)→((n.waits.take (k+1)).any fun w=>decide (w.op=2)&&decide (w.seq≤q))=false:=by intro hh;rw[dg Uh,List.any_append,eF];simp;omega
  refine y (aK jt rfl rfl underlying101 sizeOf177 (by omega) (by omega)) rfl ?_;refine y (dB (us:=w.cells) (k*7) jt ae rfl isAgg177 sizeOf177 (by simp) (lb kJ Uh) rfl) rfl ?_;refine ya (aB zeroValue177 rfl) rfl ?_;rintro v L' ⟨b6,rfl,rfl⟩;refine bA (aP (vs':=w.cells) rfl rfl (cY w) sizeOf177 bc rfl (by decide) rfl) ?_;refine gy 7 ?_;refine cv 20 rfl (fun YQ=>?_) (fun YQ=>?_)
  ·refine gy 7 ?_;refine cc rfl (fun TH=>?_) (fun TH=>?_)
   ·refine gc 1 ?_
    have hfl:n.fT q=false:=by
      have hy:(n.waits.any fun w=>decide (w.op=2)&&decide (w.seq≤q))=true:=List.any_eq_true.2 ⟨w,List.mem_of_getElem? Uh,by simp;omega⟩;unfold aa.fT;rw[hy];rfl
    refine gy 9 ?_;refine aj results155 rfl (L1:=[bB F V n,iK V n,cU F.A n.c,ga F.A n.c]++R) ae ?_;rw[hfl];exact⟨_,⟨rfl,rfl⟩,rfl⟩
   refine gc 4 ?_;have j7:=lR (by omega);refine gy 1 ?_;rw[show IntKind.i64.wrap ((k:Int)+1)=((k+1:Nat):Int)by rw[wr (by omega) (by omega)];rfl];refine gy 3 ?_;exact cI (k+1) (⟨by omega,j7⟩) (by omega) _ _ aq ae
  refine gy 12 ?_;have j7:=lR (by omega);refine gy 1 ?_;rw[show IntKind.i64.wrap ((k:Int)+1)=((k+1:Nat):Int)by rw[wr (by omega) (by omega)];rfl];refine gy 3 ?_;exact cI (k+1) (⟨by omega,j7⟩) (by omega) _ _ aq ae
 refine gc 5 ?_;exact aV aq ae (fQ k ⟨cC,by omega⟩)
end W
end Go.Proofs
namespace Go.Sl
open aa
def kL(n:aa)(l:List gI)(q:Int):aa:={n with out:=l,cT:=q}
def rN(n:aa)(k:Nat):List ar × aa:=(n.waits.take k).foldl n.fP ([],n)
theorem Fx{n:aa}{k:Nat}{w:ar}(h:n.waits[k]? =some w):rN n (k+1)=n.fP (rN n k) w:=by
 unfold rN;rw[dg h,List.foldl_append];rfl
theorem IL{n:aa}{ks:List ar}{m:aa}(h:rN n n.waits.length=(ks,m)):n.reads={m with waits:=ks}:=by
 unfold rN at h;rw[List.take_length]at h;unfold reads;rw[h]
section
variable {n : aa} {ks : List ar} {l : List gI} {q : Int} {w : ar}
theorem tB{x:bd}(h1:w.op=1)(h2:w.load=0)(h3:bY n.waits w.bE=none)(h4:bM n.c.en w.bE=some x):n.fP (ks,kL n l q) w=(ks,(kL n l q).given w x.data):=by
 unfold fP;rw[if_pos ⟨h1,h2,dm h3⟩];show(match bM n.c.en w.bE with|some x=>_|none=>_)=_;rw[h4]
theorem vP(h1:w.op=1)(h2:w.load=0)(h3:bY n.waits w.bE=none)(h4:bM n.c.en w.bE=none):n.fP (ks,kL n l q) w=(ks++[{w with load:=q+1}],(kL n l (q+1)).load w.bE (q+1)):=by
 unfold fP;rw[if_pos ⟨h1,h2,dm h3⟩];show(match bM n.c.en w.bE with|some x=>_|none=>_)=_;rw[h4];rfl
theorem kF(h1: ¬(w.op=1∧w.load=0∧n.ew w.bE=none))(h2:w.op=4)(h3:n.fT w.seq=true):n.fP (ks,kL n l q) w=(ks,(kL n l q).answer w 0 []):=by
 unfold fP;rw[if_neg h1,if_pos ⟨h2,h3⟩]
theorem fz(h1: ¬(w.op=1∧w.load=0∧n.ew w.bE=none))(h2: ¬(w.op=4∧n.fT w.seq=true)):n.fP (ks,kL n l q) w=(ks++[w],kL n l q):=by
 unfold fP;rw[if_neg h1,if_neg h2]
theorem AF(n:aa)(l:List gI)(q:Int)(w:ar)(d:Bytes): ∃l2,(kL n l q).given w d=kL n l2 q∧l2.length=l.length+1:=by
 unfold given;split
 · exact⟨_,rfl,by show(l++[_]).length=_;simp⟩
 · exact⟨_,rfl,by show(l++[_]).length=_;simp⟩
theorem I5{b:Int}{i:Nat}(h:bY n.waits b=some i): ¬n.ew b=none:=by
 obtain⟨w,hw,_⟩:=eR h;rw[fw h hw];simp
end
end Go.Sl