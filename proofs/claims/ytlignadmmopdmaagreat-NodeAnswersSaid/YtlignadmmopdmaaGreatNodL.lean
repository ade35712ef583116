/- A part of the proof. -/
import Derived.Test.YtlignadmmopdmaaGreatUn
import Derived.Test.YtlignadmmopdmaaGreatN8
set_option linter.unusedVariables false
set_option linter.unusedSimpArgs false
set_option linter.constructorNameAsVariable false
namespace Go.Proofs
open _root_.Go.Proofs.Tryz
open Go Go.Sl
namespace W
set_option maxHeartbeats 1000000
theorem nNote [Env]{R:List Seg}{F:NF}{V:NV}{n:NodM}(hn:n.ok 990000)(hV:NVok V n):
   Con Tryz.prog 170 [ptr F.p] (nodL F V n) R (KN F n.note.2 (.bool n.note.1)):=by
 obtain⟨ad,hA⟩: ∃z,n.s.add ⟨0,-1,[],-1,0⟩=z:=⟨_,rfl⟩;have hns:n.noteS={n with s:=ad.2}:=by unfold NodM.noteS;rw[hA]
 obtain⟨r,hR⟩: ∃z,n.c.note n.d n.epoch ad.1.1 n.done.l=z:=⟨_,rfl⟩;have hcd:CDone n.c n.d r:=by rw[←hR];exact note_done hn.p.c _ _ _
 have hno:n.note=if ad.1.2≠0 then(true,n)else NodM.andB (({n with s:=ad.2}:NodM).cOk r) NodM.noted1:=by
   unfold NodM.note;rw[hA,hns];show(if _ then _ else NodM.andB (NodM.cOk _ (n.c.note n.d n.epoch ad.1.1 n.done.l)) _)=_;rw[hR]
 have hfull:ad.1.2≠0→ad.2=n.s:=by
   intro h;rw[←hA]at h ⊢;unfold SndM.add at h ⊢;split
   · rfl
   rename_i hx;rw[if_neg hx]at h;exact absurd rfl h
 refine con_enter func170 ntmps170 rfl rfl ?_;unfold nodL ndC;refine gc 10 ?_;refine y (ev_bd (ItemM.cells ⟨0,-1,[],-1,0⟩)) rfl ?_;refine ycall (nAdd (S:=n.s) (x:=⟨0,-1,[],-1,0⟩) ?sok8 ?sov8) rfl call159 ztk rfl ?_
 case sok8=>exact hn.s.fit (by decide)
 case sov8=>exact hV.si
 rintro v L' ⟨s12,rfl,ok12,rfl⟩;rw[hA]at ok12 ⊢;refine gy 13 ?_;refine cc rfl (fun h16=>?_) (fun h16=>?_)
 ·rw[if_pos (by assumption)]at hno;have hsn:=hfull (by assumption);rw[hsn]at ok12 ⊢;refine gc 6 ?_;refine kretv results170 rfl (L1:=nodL F {V with si:=s12} n++R) zge ?_;rw[hno];exact⟨_,⟨{V with si:=s12},rfl,⟨hV.out,hV.sw,ok12,hV.sl⟩,rfl⟩,rfl⟩
 rw[if_neg (by simpa using h16)]at hno;refine gc 4 ?_;refine cdraw 16 (od [15] 16 0) ([sc F.p _ 106]++R) Tryz.mixed (by kernel_rfl) zge ?_;refine gh 10 ?_;refine hr rfl (ev_bd ([i64 n.epoch,i64 ad.1.1])) rfl ?_;refine gh 3 ?_;refine hr rfl (ev_slA rfl underlying32 sizeOf2) rfl ?_;refine hcall rfl (kNote (C:=n.c) (D:=n.d) (ns:=n.done.l) ?cok33 ?its33 ?hv33 ?hl33) rfl call166 ztk rfl ?_
 case cok33=>exact hn.p.c
 case its33=>exact hV.sl
 case hv33=>exact rdV_in zin rfl rfl
 case hl33=>show 4<1000000;decide
 rintro v L' ⟨sl32,rfl,ok32,rfl⟩;refine⟨zge,?_⟩;rw[hR]at ok32 ⊢;refine gh 1 ?_;refine yci (nOk (V:={V with si:=s12,sl:=sl32}) (n:=({n with s:=ad.2}:NodM).cDid r)) call121 ?_;refine gy 3 ?_;refine cc rfl (fun h36=>?_) (fun h36=>?_)
 ·have hno2:n.note=(false,(({n with s:=ad.2}:NodM).cDid r).err r.1):=by rw[hno];unfold NodM.andB NodM.cOk;simp_all
  refine gc 6 ?_;refine kretv results170 rfl (L1:=nodL F {V with si:=s12,sl:=sl32} ((({n with s:=ad.2}:NodM).cDid r).err r.1)++R) zge ?_;rw[hno2];exact⟨_,⟨{V with si:=s12,sl:=sl32},rfl,⟨hV.out,hV.sw,ok12,ok32⟩,rfl⟩,rfl⟩
 have hno2:n.note=NodM.noted1 ((({n with s:=ad.2}:NodM).cDid r).err r.1):=by rw[hno];unfold NodM.andB NodM.cOk;simp_all
 refine gc 3 ?_;unfold ndC;refine gy 4 ?_;refine y (ev_loadN (u:=t4V n.done) rfl isAgg32 sizeOf32 zin rfl rfl) rfl ?_;refine gy 2 ?_;refine yst (ac_storeN (us:=t4V n.done) rfl rfl (by simp[Value.oneCell']) sizeOf32 zrp rfl (by simp) rfl) ?_;refine gy 8 ?_;refine yci (kSync (C:=r.2.1) (D:=r.2.2) ?dok51) call158 ?_
 case dok51=>exact hcd.ok.d
 refine yci (nOk (V:={V with si:=s12,sl:=sl32}) (n:=({(({n with s:=ad.2}:NodM).cDid r).err r.1 with noted:=n.done}:NodM).cDid (r.2.1.sync r.2.2))) call121 ?_;refine gy 4 ?_;refine kretv results170 rfl (L1:=nodL F {V with si:=s12,sl:=sl32} ((({(({n with s:=ad.2}:NodM).cDid r).err r.1 with noted:=n.done}:NodM).cDid (r.2.1.sync r.2.2)).err (r.2.1.sync r.2.2).1)++R) zge ?_;rw[hno2];exact⟨_,⟨{V with si:=s12,sl:=sl32},rfl,⟨hV.out,hV.sw,ok12,ok32⟩,rfl⟩,rfl⟩
end W
end Go.Proofs
namespace Go.Sl
open NodM
theorem waits_set{l:List WaitM}{i r:Nat}{w w':WaitM}{v:Value}{sp:List Value}(h:l[i]? =some w)(hy:w.cells.set r v=w'.cells)(hr:r<7):
  (waitsV l++sp).set (i*7+r) v=waitsV (l.set i w')++sp:=by
 have hl:=(List.getElem?_eq_some_iff.1 h).1;rw[List.set_append_left _ _ (by rw[waitsV_len];omega)];congr 1;exact flV_set wait7 h hy hr
theorem modify_set{α:Type}{l:List α}{i:Nat}{f:α→α}{x:α}(h:l[i]? =some x):l.modify i f=l.set i (f x):=by
 obtain⟨h1,h2⟩:=List.getElem?_eq_some_iff.1 h;apply List.ext_getElem?;intro j;rw[List.getElem?_modify,List.getElem?_set]
 by_cases e:i=j
 · subst e;rw[if_pos rfl,if_pos h1,h];simp
 · rw[if_neg e];simp[e]
theorem svOk_like{s:Sv}{m m' k:Nat}{xs xs':List Value}(h:svOk s m k xs)(hm:m'=m)(hl:xs'.length=xs.length):svOk s m' k xs':=by
 subst hm;cases s with
 |none=>obtain⟨h1,h2⟩:=h;subst h2;exact⟨h1,List.eq_nil_of_length_eq_zero hl⟩
 |some p=>obtain⟨h1,h2,h3,h4⟩:=h;exact⟨h1,h2,by rw[hl];exact h3,by rw[List.length_append,hl,←List.length_append];exact h4⟩
theorem again1_no{n:NodM}{x:EntM}(h:x.dirty=false):again1 n x=(true,n):=by unfold again1;rw[if_pos h]
/-- An item's number and place, put. -/
theorem again1_full{n:NodM}{x:EntM}(h:x.dirty=true){ad:(Int × Int) × SndM}(hA:n.s.add (itOf x)=ad)(he: ¬ad.1.2=0):again1 n x=(false,({n with s:=ad.2}:NodM).err ad.1.2):=by
 unfold again1 againS;rw[if_neg (by rw[h];simp),hA,if_pos he]
theorem again1_put{n:NodM}{x:EntM}(h:x.dirty=true){ad:(Int × Int) × SndM}(hA:n.s.add (itOf x)=ad)(he:ad.1.2=0){r:Int × CaM × Dev}(hR:n.c.put n.d {x with ve:=n.epoch,vs:=ad.1.1}=r):
  again1 n x=if r.1=0 then(true,((({n with s:=ad.2}:NodM).cDid r).err r.1).modW x.blk fun w=>{w with seq:=ad.1.1,stored:=false})else(false,(({n with s:=ad.2}:NodM).cDid r).err r.1):=by
 unfold again1 againS;rw[if_neg (by rw[h];simp),hA,if_neg (by simpa using he),hR];unfold andB cOk
 by_cases c:r.1=0
 ·rw[if_pos c,if_pos (by simpa using c)]
 ·rw[if_neg c,if_neg (by simpa using c)];simp[c]
theorem modW_some{n:NodM}{b:Int}{f:WaitM→WaitM}{i:Nat}(h:writingAt n.waits b=some i):n.modW b f={n with waits:=n.waits.modify i f}:=by unfold modW;rw[h]
theorem modW_none{n:NodM}{b:Int}{f:WaitM→WaitM}(h:writingAt n.waits b=none):n.modW b f=n:=by unfold modW;rw[h]
theorem err_zero{n:NodM}{e:Int}(h:e=0):n.err e=n:=by
 subst h;unfold NodM.err;simp
end Go.Sl
namespace Go.Proofs
open _root_.Go.Proofs.Tryz
open Go Go.Sl
namespace W
set_option maxHeartbeats 1000000
def wpV(V:NV)(m:Nat):Option Nat→Value
 |none=> .pointer none
 |some i=> .pointer (some ⟨sB (svVal V.sw m),i*7,none⟩)
theorem wrP_eq{V:NV}{n:NodM}{b:Int}{o:Option Nat}(h:NodM.writingAt n.waits b=o):wrP V n b=wpV V n.waits.length o:=by
 unfold wrP;rw[h];cases o<;>rfl
theorem nAgain [Env]{R:List Seg}{F:NF}{V:NV}{n:NodM}(hn:n.ok 980000)(hV:NVok V n):
   Con Tryz.prog 168 [ptr F.p] (nodL F V n) R (KN F n.again.2 (.bool n.again.1)):=by
 have hbl:=hn.p.bl;have hblk:=hn.a.blocks;have hall:=NodM.all_ok hn;have hlen:=NodM.all_len hn;refine con_enter func168 ntmps168 rfl rfl ?_;unfold nodL ndC;refine gc 4 ?_;refine cseqT ?_;intro K2 hK2;refine gc 5 ?_;refine ycall (kAll ?bl6) rfl call59 ztk rfl ?_
 case bl6=>omega
 rintro v L' ⟨s12,rfl,ok12,rfl⟩;have hrd:RdV [svSeg s12 127 (entsV n.c.all)] (svVal s12 n.c.all.length) n.c.all.length (entsV n.c.all):=rdV_sv .z ok12;refine y (ev_lenSv rfl underlying61 (by assumption)) rfl ?_;refine gy 3 ?_
 have hJ1: ∀x:Nat × NV × NodM,((x.1≤n.c.all.length∧EachI NodM.again1 n.c.all n x.1 x.2.2∧x.2.2.ok (980000+x.1)∧NVok x.2.1 x.2.2)∧(x.1=n.c.all.length))→Sk 75 K2 ([(14,i64 x.1),(13,i64 n.c.all.length),(12,svVal s12 n.c.all.length),(0,ptr F.p)]) (svSeg s12 127 (entsV n.c.all)::nodL F x.2.1 x.2.2++R):=by
  rintro⟨k,⟨vo,vw,vp,vi,vl⟩,m⟩ ⟨hI1,hX1⟩;refine hK2 _ _ ?_;obtain⟨hk,hE,hm,hVm⟩:=hI1;dsimp only at hk hE hm hVm ⊢;unfold nodL ndC;dsimp only at hX1;rw[hX1]at hE;have hma:n.again=(true,m):=hE.done;refine gc 5 ?_;refine kretv results168 rfl (L1:=nodL F ⟨vo,vw,vp,vi,vl⟩ m++R) zge ?_;rw[hma];exact⟨_,⟨⟨vo,vw,vp,vi,vl⟩,rfl,hVm,rfl⟩,rfl⟩
 clear hK2;refine gc 1 ?_;refine cloopT (A:=Nat × NV × NodM) (fun x=>[(14,i64 x.1),(13,i64 n.c.all.length),(12,svVal s12 n.c.all.length),(0,ptr F.p)]) (fun x=>svSeg s12 127 (entsV n.c.all)::nodL F x.2.1 x.2.2++R) (fun x=>x.1≤n.c.all.length∧EachI NodM.again1 n.c.all n x.1 x.2.2∧x.2.2.ok (980000+x.1)∧NVok x.2.1 x.2.2) (fun x=>n.c.all.length-x.1) ((0,V,n)) ?_ zsub zge ?_
 · exact⟨Nat.zero_le _,EachI.zero,hn,hV⟩
 rintro⟨k,⟨vo,vw,vp,vi,vl⟩,m⟩ hI1 KL1 hL1;have hI1o:=hI1;obtain⟨hk,hE,hm,hVm⟩:=hI1;dsimp only at hk hE hm hVm ⊢;unfold nodL ndC;refine gc 5 ?_;refine cc rfl (fun h11=>?_) (fun h11=>?_)
 ·refine gc 5 ?_;obtain⟨x,hx⟩: ∃x,n.c.all[k]? =some x:=⟨_,List.getElem?_eq_getElem (by omega)⟩;have hxo:=hall x (List.mem_of_getElem? hx);have hito:=NodM.it_ok hxo (show n.c.bl≤32 by omega);refine y (ev_ixV hrd rfl rfl underlying61 sizeOf127 (by omega) (by omega)) rfl ?_;refine y (ev_loadNV (us:=x.cells) (k*7) hrd zge rfl isAgg127 sizeOf127 (by simp) (entsV_get hx) rfl) rfl ?_;refine ya (ac_alloc zeroValue127 rfl) rfl ?_;rintro v L' ⟨b4,rfl,rfl⟩;refine yst (ac_storeN (vs':=x.cells) rfl rfl (entM_one x) sizeOf127 zrp rfl (by decide) rfl) ?_;refine gy 9 ?_;refine cc rfl (fun h19=>?_) (fun h19=>?_)
  ·have hm1:NodM.again1 m x=(true,m):=again1_no (by simpa using h19);have hnx:k+1≤n.c.all.length∧EachI NodM.again1 n.c.all n (k+1) m∧m.ok (980000+(k+1))∧NVok ⟨vo,vw,vp,vi,vl⟩ m:=⟨by omega,hE.step hx hm1,hm.le (by omega),hVm⟩;refine gc 5 ?_;have hnx:=hnx;refine gy 1 ?_;rw[show IntKind.i64.wrap ((k:Int)+1)=((k+1:Nat):Int)by rw[wr (by omega) (by omega)];rfl];refine gy 3 ?_;exact hL1 (k+1,_,_) hnx (by dsimp only;omega) _ _ zsub zge
  have hd:x.dirty=true:=by simpa using h19
  obtain⟨ad,hA⟩: ∃z,m.s.add (NodM.itOf x)=z:=⟨_,rfl⟩;obtain⟨r,hR⟩: ∃z,m.c.put m.d {x with ve:=m.epoch,vs:=ad.1.1}=z:=⟨_,rfl⟩;refine gc 3 ?_;refine cdraw 19 (od [14] 19 0) ([sc b4 _ 127,sc F.p _ 106]++R) Tryz.mixed (by kernel_rfl) zge ?_;refine gh 13 ?_;refine hr rfl (ev_bd (ItemM.cells (NodM.itOf x))) rfl ?_;refine hcall rfl (nAdd (S:=m.s) (x:=NodM.itOf x) ?sok36 ?sov36) rfl call159 ztk rfl ?_
  case sok36=>exact hm.s.fit (by omega)
  case sov36=>exact hVm.si
  rintro v L' ⟨s36,rfl,ok36,rfl⟩;refine⟨zge,?_⟩;rw[hA]at ok36 ⊢;refine gh 14 ?_;refine y (ev_bd ([i64 m.epoch,i64 ad.1.1])) rfl ?_;refine gy 1 ?_;refine yst (ac_storeN (us:=[i64 m.epoch,i64 ad.1.1]) (vs':=EntM.cells {x with ve:=m.epoch,vs:=ad.1.1}) rfl rfl (by simp[Value.oneCell']) sizeOf84 zrp rfl (by simp[EntM.cells]) rfl) ?_;refine gy 4 ?_;refine cdraw 12 [(0,true),(1,true),(2,false),(3,true),(4,true),(5,true),(6,true),(7,true),(8,true),(10,true),(9,false),(11,false)] ([sc b4 _ 127]++R) Tryz.mixed (by kernel_rfl) zge ?_
  by_cases he:ad.1.2=0
  ·refine gh 2 ?_;refine hcall rfl (nOk (V:=⟨vo,vw,vp,s36,vl⟩) (n:={m with s:=ad.2})) rfl call121 ztk rfl ?_;rintro v L' ⟨rfl,rfl⟩;refine⟨zge,?_⟩;rw[decide_eq_true he,err_zero he];refine gh 6 ?_;refine hr1 rfl rfl rfl (ev_loadAll rfl isAgg127 sizeOf127 zin (by rfl)) rfl ?_;refine ha1 rfl rfl rfl (ac_of_ev (ev_load rfl isAgg98 zin rfl)) rfl ?_;rintro v L' ⟨rfl,rfl⟩;refine⟨zge,?_⟩;refine hcall1 rfl rfl rfl (kPut (C:=m.c) (D:=m.d) (x:={x with ve:=m.epoch,vs:=ad.1.1}) ?cok61 ?its61) rfl call157 ztk rfl ?_
   case cok61=>exact hm.p.c
   case its61=>exact hVm.sl
   rintro v L' ⟨sl57,rfl,ok57,rfl⟩;refine⟨zge,?_⟩;rw[hR]at ok57 ⊢;refine gh 1 ?_;refine ygo ?_;refine yci (nOk (V:=⟨vo,vw,vp,s36,sl57⟩) (n:=({m with s:=ad.2}:NodM).cDid r)) call121 ?_;refine gy 4 ?_;refine cc rfl (fun h65=>?_) (fun h65=>?_)
   ·have hr1: ¬r.1=0:=by simpa using h65
    refine gc 11 ?_;refine kretv results168 rfl (L1:=nodL F ⟨vo,vw,vp,s36,sl57⟩ ((({m with s:=ad.2}:NodM).cDid r).err r.1)++R) zge ?_;rw[show n.again=_ from hE.stop hx ((again1_put hd hA he hR).trans (if_neg hr1))];exact⟨_,⟨⟨vo,vw,vp,s36,sl57⟩,rfl,⟨hVm.out,hVm.sw,ok36,ok57⟩,rfl⟩,rfl⟩
   have hr1:r.1=0:=by simpa using h65
   obtain⟨m3,hm3⟩: ∃z,(({m with s:=ad.2}:NodM).cDid r).err r.1=z:=⟨_,rfl⟩;have hm1:NodM.again1 m x=(true,m3.modW x.blk fun w=>{w with seq:=ad.1.1,stored:=false}):=by rw[again1_put hd hA he hR,if_pos hr1,hm3]
   have hok4:(m3.modW x.blk fun w=>{w with seq:=ad.1.1,stored:=false}).ok (980000+(k+1)):=by have:=NodM.ok.again1 (x:=x) hm hxo (show n.c.bl≤32 by omega);rw[hm1]at this;exact this
   obtain⟨wp,hwp⟩: ∃z,NodM.writingAt m.waits x.blk=z:=⟨_,rfl⟩;subst hm3;have hsw:svOk vw m.waits.length 7 (waitsV m.waits):=hVm.sw;have hwn:=hm.w.n;refine gc 6 ?_;refine yci (nWriting (V:=⟨vo,vw,vp,s36,sl57⟩) (n:=(({m with s:=ad.2}:NodM).cDid r).err r.1) ?wok70 ?wl70) call100 ?_
   case wok70=>exact hVm.sw
   case wl70=>show m.waits.length≤1000000;omega
   rw[wrP_eq (n:=(({m with s:=ad.2}:NodM).cDid r).err r.1) (o:=wp) hwp];refine gy 4 ?_;rcases wp with _|i
   ·refine gy 1 ?_;refine y (ev_neqPnil rfl rfl underlying183) rfl ?_;refine gy 7 ?_
    (rw[modW_none (n:=(({m with s:=ad.2}:NodM).cDid r).err r.1) hwp]at hm1 hok4;have hnx:k+1≤n.c.all.length∧EachI NodM.again1 n.c.all n (k+1) ((({m with s:=ad.2}:NodM).cDid r).err r.1)∧((({m with s:=ad.2}:NodM).cDid r).err r.1).ok (980000+(k+1))∧NVok ⟨vo,vw,vp,s36,sl57⟩ ((({m with s:=ad.2}:NodM).cDid r).err r.1):=⟨by omega,hE.step hx hm1,hok4,⟨hVm.out,hVm.sw,ok36,ok57⟩⟩)
    refine gy 1 ?_;rw[show IntKind.i64.wrap ((k:Int)+1)=((k+1:Nat):Int)by rw[wr (by omega) (by omega)];rfl];refine gy 3 ?_;exact hL1 (k+1,_,_) hnx (by dsimp only;omega) _ _ zsub zge
   refine gy 1 ?_;refine y (ev_neqPnil rfl rfl underlying183) rfl ?_;refine gy 4 ?_;obtain⟨w,hwi,-,-⟩:=writingAt_get hwp;have hil:=(List.getElem?_eq_some_iff.1 hwi).1;obtain⟨bw,cw,spw,rfl,hcw⟩:=sv_some hsw (by omega);unfold waiS;simp only[svSeg];obtain⟨ws,hws⟩: ∃z,(m.waits.set i {w with seq:=ad.1.1}).set i {w with seq:=ad.1.1,stored:=false}=z:=⟨_,rfl⟩;have hwsl:ws.length=m.waits.length:=by rw[←hws];simp
   rw[modW_some (n:=(({m with s:=ad.2}:NodM).cDid r).err r.1) hwp,show(NodM.err (({m with s:=ad.2}:NodM).cDid r) r.1).waits.modify i _=ws by rw[show(NodM.err (({m with s:=ad.2}:NodM).cDid r) r.1).waits=m.waits from rfl,modify_set hwi,←hws,List.set_set]]at hm1 hok4;refine gy 5 ?_;refine yst (ac_store (vs':=waitsV (m.waits.set i {w with seq:=ad.1.1})++spw) rfl rfl rfl sizeOf2 zrp (by rw[Nat.blt_eq,List.length_append,waitsV_len];show i*7+4<m.waits.length*7+spw.length;omega) (waits_set hwi rfl (by decide))) ?_;refine gy 2 ?_;refine yst (ac_store (vs':=waitsV ws++spw) rfl rfl rfl sizeOf4 zrp (by rw[Nat.blt_eq,List.length_append,waitsV_len,List.length_set];omega) (by rw[←hws];exact waits_set (w:={w with seq:=ad.1.1}) (by rw[List.getElem?_set_self hil]) rfl (by decide))) ?_;have hnd:ndC F ⟨vo,some (bw,cw,spw),vp,s36,sl57⟩ ((({m with s:=ad.2}:NodM).cDid r).err r.1)=ndC F ⟨vo,some (bw,cw,spw),vp,s36,sl57⟩ {(({m with s:=ad.2}:NodM).cDid r).err r.1 with waits:=ws}:=by unfold ndC;dsimp only[NodM.err,NodM.cDid];rw[hwsl]
   rw[hnd];have hnx:k+1≤n.c.all.length∧EachI NodM.again1 n.c.all n (k+1) {(({m with s:=ad.2}:NodM).cDid r).err r.1 with waits:=ws}∧({(({m with s:=ad.2}:NodM).cDid r).err r.1 with waits:=ws}:NodM).ok (980000+(k+1))∧NVok ⟨vo,some (bw,cw,spw),vp,s36,sl57⟩ {(({m with s:=ad.2}:NodM).cDid r).err r.1 with waits:=ws}:=⟨by omega,hE.step hx hm1,hok4,⟨hVm.out,svOk_like hsw hwsl (by rw[waitsV_len,waitsV_len,hwsl]),ok36,ok57⟩⟩;refine gy 4 ?_;have hnx:=hnx;refine gy 1 ?_;rw[show IntKind.i64.wrap ((k:Int)+1)=((k+1:Nat):Int)by rw[wr (by omega) (by omega)];rfl];refine gy 3 ?_;exact hL1 (k+1,_,_) hnx (by dsimp only;omega) _ _ zsub zge
  refine gh 2 ?_;refine hcall rfl (nOk (V:=⟨vo,vw,vp,s36,vl⟩) (n:={m with s:=ad.2})) rfl call121 ztk rfl ?_;rintro v L' ⟨rfl,rfl⟩;refine⟨zge,?_⟩;rw[decide_eq_false he];refine gh 7 ?_;refine ha0 rfl rfl rfl rfl rfl zge ?_;refine ha0 rfl rfl rfl rfl rfl zge ?_;refine gh 18 ?_;refine kretv results168 rfl (L1:=nodL F ⟨vo,vw,vp,s36,vl⟩ (({m with s:=ad.2}:NodM).err ad.1.2)++R) zge ?_;rw[show n.again=_ from hE.stop hx (again1_full hd hA he)];exact⟨_,⟨⟨vo,vw,vp,s36,vl⟩,rfl,⟨hVm.out,hVm.sw,ok36,hVm.sl⟩,rfl⟩,rfl⟩
 refine gc 5 ?_;exact ksub zsub zge (hJ1 ⟨k,⟨vo,vw,vp,vi,vl⟩,m⟩ ⟨hI1o,by dsimp only;omega⟩)
end W
end Go.Proofs
namespace Go.Sl
open NodM
/-- The same node, with other letters. -/
def wout(n:NodM)(l:List LetM):NodM:={n with out:=l}
/-- Behind k of the waits. -/
def storesN(n:NodM)(k:Nat):NodM:=(n.waits.take k).foldl stores1 n
theorem storesN_succ{n:NodM}{k:Nat}{w:WaitM}(h:n.waits[k]? =some w):storesN n (k+1)=stores1 (storesN n k) w:=by
 unfold storesN;rw[take_snoc h,List.foldl_append];rfl
theorem storesN_all(n:NodM):storesN n n.waits.length=n.stores:=by unfold storesN stores;rw[List.take_length]
theorem stores1_none{n:NodM}{w:WaitM}(h:aget n.c.en w.blk=none):stores1 n w=n:=by unfold stores1;rw[h]
theorem stores1_some{n:NodM}{w:WaitM}{x:EntM}(h:aget n.c.en w.blk=some x)(h2:w.op=2)(h3:n.mayW w=true):stores1 n w=n.store x w.cl w.n:=by unfold stores1;rw[h];dsimp only;rw[if_pos ⟨h2,h3⟩]
theorem stores1_not{n:NodM}{w:WaitM}(h: ¬(w.op=2∧n.mayW w=true)):stores1 n w=n:=by
 unfold stores1;split
 · rfl
 · rw[if_neg h]
end Go.Sl
namespace Go.Proofs
open _root_.Go.Proofs.Tryz
open Go Go.Sl
namespace W
set_option maxHeartbeats 1000000
theorem nStores [Env]{R:List Seg}{F:NF}{V:NV}{n:NodM}(hn:n.ok 990000)(hV:NVok V n):
   Con Tryz.prog 116 [ptr F.p] (nodL F V n) R (KN F n.stores (.tuple #[])):=by
 have hwn:=hn.w.n;have hon:=hn.out;have hsw:svOk V.sw n.waits.length 7 (waitsV n.waits):=hV.sw;refine con_enter func116 ntmps116 rfl rfl ?_;unfold nodL ndC;refine gc 6 ?_;refine y (ev_lenSv rfl underlying101 (by assumption)) rfl ?_;refine gy 4 ?_;refine cloopT (A:=Nat × Sv × List LetM) (fun x=>[(12,i64 x.1),(11,i64 n.waits.length),(10,svVal V.sw n.waits.length),(0,ptr F.p)]) (fun x=>nodL F {V with out:=x.2.1} (wout n x.2.2)++R) (fun x=>x.1≤n.waits.length∧storesN n x.1=wout n x.2.2∧svOk x.2.1 x.2.2.length 3 (letsV x.2.2)∧x.2.2.length≤990000+x.1) (fun x=>n.waits.length-x.1) ((0,V.out,n.out)) ?_ zsub zge ?_
 · exact⟨Nat.zero_le _,rfl,hV.out,by dsimp only;omega⟩
 rintro⟨k,o,l⟩ hI1 KL1 hL1;obtain⟨hk,hE,hol,hll⟩:=hI1;dsimp only at hk hE hol hll ⊢;unfold nodL ndC;have hrd:RdV [waiS V n] (svVal V.sw n.waits.length) n.waits.length (waitsV n.waits):=rdV_sv .z hV.sw;refine gc 5 ?_;refine cc rfl (fun h9=>?_) (fun h9=>?_)
 ·refine gc 5 ?_;obtain⟨w,hw⟩: ∃w,n.waits[k]? =some w:=⟨_,List.getElem?_eq_getElem (by omega)⟩;have hsu:=storesN_succ hw;rw[hE]at hsu;obtain⟨ox,hox⟩: ∃z,aget (wout n l).c.en w.blk=z:=⟨_,rfl⟩;refine y (ev_ixV hrd rfl rfl underlying101 sizeOf177 (by omega) (by omega)) rfl ?_;refine y (ev_loadNV (us:=w.cells) (k*7) hrd zge rfl isAgg177 sizeOf177 (by simp) (flV_get wait7 hw) rfl) rfl ?_;refine ya (ac_alloc zeroValue177 rfl) rfl ?_;rintro v L' ⟨b3,rfl,rfl⟩;refine yst (ac_storeN (vs':=w.cells) rfl rfl (wait_one w) sizeOf177 zrp rfl (by decide) rfl) ?_;refine gy 3 ?_;refine cdrawN 12 (.op 0 0 (.op 1 0 (.op 2 0 (.op 3 1 (.op 4 0 (.op 5 1 (.fork 6 (.op 7 0 (.op 8 0 (.op 9 0 (.op 10 2 (.op 11 2 (.nil)))))) 10 (.op 6 2 (.op 7 0 (.op 8 0 (.op 9 0 (.op 11 2 (.nil))))))))))))) ([sc b3 _ 177,sc F.p _ 106,caP F.A n.c,enS F.A n.c]++R) Tryz.mixed (by kernel_rfl) zge ?_;refine nz rfl (ev_move rfl) rfl ?_;refine nz rfl (ev_nil rfl) rfl ?_;refine nz rfl (ev_fieldAddr 7 rfl underlying106 rfl sizeOf98) rfl ?_;refine nr rfl (ev_load rfl isAgg98 zin rfl) rfl ?_;refine nz rfl (ev_fieldAddr 3 rfl underlying177 rfl sizeOf3) rfl ?_;refine nr rfl (ev_load rfl isAgg3 zin rfl) rfl ?_;refine nfork ?_ ?_
  ·refine ncall rfl (kGet) rfl call153 ztk rfl ?_;rintro v L' ⟨rfl,rfl⟩;refine⟨zge,?_⟩;rw[hox];refine nz rfl (ev_move rfl) rfl ?_;refine nz rfl (ev_extract rfl rfl) rfl ?_;refine nz rfl (ev_extract rfl rfl) rfl ?_;refine na rfl (ac_alloc zeroValue127 rfl) rfl ?_;rintro v L' ⟨b4,rfl,rfl⟩;refine⟨zge,?_⟩;refine naN rfl (ac_storeN (vs':=EntM.cells (ox.getD .zero)) rfl rfl (entM_one _) sizeOf127 zrp rfl (by decide) rfl) ?_;rintro v L' ⟨rfl,rfl⟩;refine⟨zge,?_⟩;refine nnil ?_;refine gy 8 ?_;refine ysp 29 rfl (fun h31=>?_) (fun h31=>?_)
   ·have hw2:w.op=2:=by assumption
    refine gy 1 ?_;refine ygo ?_;refine y (ev_loadAll rfl isAgg177 sizeOf177 zin (by rfl)) rfl ?_;refine ygo ?_;refine yci (nMay (V:={V with out:=o}) (n:=wout n l) (w:=w)) call151 ?_;refine gy 2 ?_;refine ysp 34 rfl (fun h37=>?_) (fun h37=>?_)
    ·refine gy 4 ?_;refine cc rfl (fun h40=>?_) (fun h40=>?_)
     ·refine gc 1 ?_
      obtain⟨ex,rfl⟩: ∃z,ox=some z:=by
        rcases ox with _|ex
        · simp_all
        exact⟨ex,rfl⟩
      refine gy 1 ?_;refine y (ev_loadAll rfl isAgg127 sizeOf127 zin (by rfl)) rfl ?_;refine gy 4 ?_;refine ycall (nStore (V:={V with out:=o}) (n:=wout n l) (x:=ex) ?ook47 ?ol47) rfl call152 ztk rfl ?_
      case ook47=>exact hol
      case ol47=>show l.length≤1000000;omega
      rintro v L' ⟨o43,rfl,oko43,rfl⟩;refine gy 5 ?_;rw[show IntKind.i64.wrap ((k:Int)+1)=((k+1:Nat):Int)by rw[wr (by omega) (by omega)];rfl];refine gy 3 ?_;exact hL1 (k+1,o43,((wout n l).store ex w.cl w.n).out) ⟨by dsimp only;omega,by rw[hsu,stores1_some hox (by assumption) (by assumption)];rfl,oko43,by show(l++[_]).length≤_;simp;omega⟩ (by dsimp only;omega) _ _ zsub zge
     have hs1:NodM.stores1 (wout n l) w=wout n l:=stores1_none (hox.trans (by simpa using h40));refine gc 5 ?_;rw[show IntKind.i64.wrap ((k:Int)+1)=((k+1:Nat):Int)by rw[wr (by omega) (by omega)];rfl];refine gy 3 ?_;exact hL1 (k+1,o,l) ⟨by dsimp only;omega,hsu.trans hs1,hol,by dsimp only;omega⟩ (by dsimp only;omega) _ _ zsub zge
    have hs1:NodM.stores1 (wout n l) w=wout n l:=stores1_not (fun hh=>by rw[h37]at hh;cases hh.2);refine gy 10 ?_;rw[show IntKind.i64.wrap ((k:Int)+1)=((k+1:Nat):Int)by rw[wr (by omega) (by omega)];rfl];refine gy 3 ?_;exact hL1 (k+1,o,l) ⟨by dsimp only;omega,hsu.trans hs1,hol,by dsimp only;omega⟩ (by dsimp only;omega) _ _ zsub zge
   have hs1:NodM.stores1 (wout n l) w=wout n l:=stores1_not (fun hh=>h31 hh.1);refine gy 15 ?_;rw[show IntKind.i64.wrap ((k:Int)+1)=((k+1:Nat):Int)by rw[wr (by omega) (by omega)];rfl];refine gy 3 ?_;exact hL1 (k+1,o,l) ⟨by dsimp only;omega,hsu.trans hs1,hol,by dsimp only;omega⟩ (by dsimp only;omega) _ _ zsub zge
  refine na rfl (ac_alloc zeroValue127 rfl) rfl ?_;rintro v L' ⟨b4,rfl,rfl⟩;refine⟨zge,?_⟩;refine ncall rfl (kGet) rfl call153 ztk rfl ?_;rintro v L' ⟨rfl,rfl⟩;refine⟨zge,?_⟩;rw[hox];refine nz rfl (ev_move rfl) rfl ?_;refine nz rfl (ev_extract rfl rfl) rfl ?_;refine nz rfl (ev_extract rfl rfl) rfl ?_;refine naN rfl (ac_storeN (vs':=EntM.cells (ox.getD .zero)) rfl rfl (entM_one _) sizeOf127 zrp rfl (by decide) rfl) ?_;rintro v L' ⟨rfl,rfl⟩;refine⟨zge,?_⟩;refine nnil ?_;refine gy 8 ?_;refine ysp 29 rfl (fun h71=>?_) (fun h71=>?_)
  ·have hw2:w.op=2:=by assumption
   refine gy 1 ?_;refine ygo ?_;refine y (ev_loadAll rfl isAgg177 sizeOf177 zin (by rfl)) rfl ?_;refine ygo ?_;refine yci (nMay (V:={V with out:=o}) (n:=wout n l) (w:=w)) call151 ?_;refine gy 2 ?_;refine ysp 34 rfl (fun h77=>?_) (fun h77=>?_)
   ·refine gy 4 ?_;refine cc rfl (fun h80=>?_) (fun h80=>?_)
    ·refine gc 1 ?_
     obtain⟨ex,rfl⟩: ∃z,ox=some z:=by
       rcases ox with _|ex
       · simp_all
       exact⟨ex,rfl⟩
     refine gy 1 ?_;refine y (ev_loadAll rfl isAgg127 sizeOf127 zin (by rfl)) rfl ?_;refine gy 4 ?_;refine ycall (nStore (V:={V with out:=o}) (n:=wout n l) (x:=ex) ?ook87 ?ol87) rfl call152 ztk rfl ?_
     case ook87=>exact hol
     case ol87=>show l.length≤1000000;omega
     rintro v L' ⟨o43,rfl,oko43,rfl⟩;refine gy 5 ?_;rw[show IntKind.i64.wrap ((k:Int)+1)=((k+1:Nat):Int)by rw[wr (by omega) (by omega)];rfl];refine gy 3 ?_;exact hL1 (k+1,o43,((wout n l).store ex w.cl w.n).out) ⟨by dsimp only;omega,by rw[hsu,stores1_some hox (by assumption) (by assumption)];rfl,oko43,by show(l++[_]).length≤_;simp;omega⟩ (by dsimp only;omega) _ _ zsub zge
    have hs1:NodM.stores1 (wout n l) w=wout n l:=stores1_none (hox.trans (by simpa using h80));refine gc 5 ?_;rw[show IntKind.i64.wrap ((k:Int)+1)=((k+1:Nat):Int)by rw[wr (by omega) (by omega)];rfl];refine gy 3 ?_;exact hL1 (k+1,o,l) ⟨by dsimp only;omega,hsu.trans hs1,hol,by dsimp only;omega⟩ (by dsimp only;omega) _ _ zsub zge
   have hs1:NodM.stores1 (wout n l) w=wout n l:=stores1_not (fun hh=>by rw[h77]at hh;cases hh.2);refine gy 10 ?_;rw[show IntKind.i64.wrap ((k:Int)+1)=((k+1:Nat):Int)by rw[wr (by omega) (by omega)];rfl];refine gy 3 ?_;exact hL1 (k+1,o,l) ⟨by dsimp only;omega,hsu.trans hs1,hol,by dsimp only;omega⟩ (by dsimp only;omega) _ _ zsub zge
  have hs1:NodM.stores1 (wout n l) w=wout n l:=stores1_not (fun hh=>h71 hh.1);refine gy 15 ?_;rw[show IntKind.i64.wrap ((k:Int)+1)=((k+1:Nat):Int)by rw[wr (by omega) (by omega)];rfl];refine gy 3 ?_;exact hL1 (k+1,o,l) ⟨by dsimp only;omega,hsu.trans hs1,hol,by dsimp only;omega⟩ (by dsimp only;omega) _ _ zsub zge
 have hke:k=n.waits.length:=by omega
 have hma:n.stores=wout n l:=by rw[←storesN_all,←hke];exact hE
 refine gc 4 ?_;refine kendv0 results116 (L1:=nodL F {V with out:=o} (wout n l)++R) zge ?_;rw[hma];exact⟨_,⟨{V with out:=o},rfl,⟨hol,hV.sw,hV.si,hV.sl⟩,rfl⟩,rfl⟩
theorem nIndexE [Env]{R:List Seg}{P:Seg}{v:Value}{es:List EntM}{g:FuncId}{cs:Array Value}{p:EntM→Bool}(hv:RdV R v es.length (entsV es))(hl:es.length<1000000)
   (hcall: ∀(args:Array Value) (w:World),(callFunc g args).run Tryz.prog w= .ok (.enter g args) w) (hp: ∀(R:List Seg) (x:EntM),Con Tryz.prog g ([entV x]++cs.toList) [P] R (Is (.bool (p x)) [P])):
   Con Tryz.prog 220 [v,.func (.func g) #[] cs] [P] R (fun u L'=> ∃i:Int,u=i64 i∧decide (0≤i)=es.any p∧L'=[P]):=by
 refine con_enter func220 ntmps220 rfl rfl ?_;refine gc 4 ?_;refine cseqT ?_;intro K2 hK2;refine gc 2 ?_;refine y (ev_lenV rfl underlying61 (RdV.lenVal (by assumption))) rfl ?_;refine gy 3 ?_
 have hJ1: ∀x:Nat,((x≤es.length∧(es.take x).any p=false)∧(x=es.length))→Sk 19 K2 ([(8,i64 x),(7,i64 es.length),(0,v),(1,.func (.func g) #[] cs)]) ([P]++R):=by
  rintro k ⟨hI1,hX1⟩;refine hK2 _ _ ?_;obtain⟨hk,hno⟩:=hI1;subst hX1;rw[List.take_length]at hno;refine gc 5 ?_;refine kretv results220 rfl (L1:=[P]++R) zge ?_
  first
    |exact⟨_,⟨_,rfl,by rw[hyes];simp,rfl⟩,rfl⟩
    |exact⟨_,⟨_,rfl,by rw[hno];simp,rfl⟩,rfl⟩
 clear hK2;refine gc 1 ?_;refine cloopT (A:=Nat) (fun x=>[(8,i64 x),(7,i64 es.length),(0,v),(1,.func (.func g) #[] cs)]) (fun x=>[P]++R) (fun x=>x≤es.length∧(es.take x).any p=false) (fun x=>es.length-x) (0) ?_ zsub zge ?_
 · exact⟨Nat.zero_le _,by simp⟩
 rintro k hI1 KL1 hL1;have hI1o:=hI1;obtain⟨hk,hno⟩:=hI1;refine gc 5 ?_;refine cc rfl (fun h7=>?_) (fun h7=>?_)
 ·obtain⟨x,hx⟩: ∃t,es[k]? =some t:=⟨_,List.getElem?_eq_getElem (by omega)⟩;refine gc 13 ?_;refine y (ev_ixV hv rfl rfl underlying61 sizeOf127 (by omega) (by omega)) rfl ?_;refine y (ev_loadNV (us:=x.cells) (k*7) hv zge rfl isAgg127 sizeOf127 (by simp) (entsV_get hx) rfl) rfl ?_;refine ycallF rfl (hp _ x) rfl hcall ztk rfl ?_;rintro v L' ⟨rfl,rfl⟩;refine gy 2 ?_;refine cc rfl (fun h16=>?_) (fun h16=>?_)
  ·have hyes:es.any p=true:=List.any_eq_true.2 ⟨x,List.mem_of_getElem? hx,h16⟩;refine gc 11 ?_
   first
     |(exfalso;omega;done)
     | (refine kretv results220 rfl (L1:=[P]++R) zge ?_
        first
          |exact⟨_,⟨_,rfl,by rw[hyes];simp,rfl⟩,rfl⟩
          |exact⟨_,⟨_,rfl,by rw[hno];simp,rfl⟩,rfl⟩)
  have hno2:(es.take (k+1)).any p=false:=by rw[take_snoc hx];simp[hno,h16]
  refine gc 5 ?_;rw[show IntKind.i64.wrap ((k:Int)+1)=((k+1:Nat):Int)by rw[wr (by omega) (by omega)];rfl];refine gy 3 ?_;exact hL1 (k+1) (⟨by omega,hno2⟩) (by omega) _ _ zsub zge
 refine gc 5 ?_;exact ksub zsub zge (hJ1 k ⟨hI1o,by omega⟩)
theorem nContE [Env]{R:List Seg}{P:Seg}{v:Value}{es:List EntM}{g:FuncId}{cs:Array Value}{p:EntM→Bool}(hv:RdV R v es.length (entsV es))(hl:es.length<1000000)
   (hcall: ∀(args:Array Value) (w:World),(callFunc g args).run Tryz.prog w= .ok (.enter g args) w) (hp: ∀(R:List Seg) (x:EntM),Con Tryz.prog g ([entV x]++cs.toList) [P] R (Is (.bool (p x)) [P])):
   Con Tryz.prog 199 [v,.func (.func g) #[] cs] [P] R (Is (.bool (es.any p)) [P]):=by
 refine con_enter func199 ntmps199 rfl rfl ?_;refine gc 7 ?_;refine ycall (nIndexE hv hl hcall hp) rfl call220 ztk rfl ?_;rintro v L' ⟨i7,rfl,hi7,rfl⟩;refine gy 1 ?_;rw[hi7];refine gy 4 ?_;refine kretv results199 rfl (L1:=[P]++R) zge ?_;exact⟨_,⟨by rfl,rfl⟩,by rfl⟩
theorem nIndexW [Env]{R:List Seg}{P:Seg}{v:Value}{ws:List WaitM}{g:FuncId}{cs:Array Value}{p:WaitM→Bool}(hv:RdV R v ws.length (waitsV ws))(hl:ws.length<1000000)
   (hcall: ∀(args:Array Value) (w:World),(callFunc g args).run Tryz.prog w= .ok (.enter g args) w) (hp: ∀(R:List Seg) (x:WaitM),Con Tryz.prog g ([waV x]++cs.toList) [P] R (Is (.bool (p x)) [P])):
   Con Tryz.prog 149 [v,.func (.func g) #[] cs] [P] R (fun u L'=> ∃i:Int,u=i64 i∧decide (0≤i)=ws.any p∧L'=[P]):=by
 refine con_enter func149 ntmps149 rfl rfl ?_;refine gc 4 ?_;refine cseqT ?_;intro K2 hK2;refine gc 2 ?_;refine y (ev_lenV rfl underlying101 (RdV.lenVal (by assumption))) rfl ?_;refine gy 3 ?_
 have hJ1: ∀x:Nat,((x≤ws.length∧(ws.take x).any p=false)∧(x=ws.length))→Sk 19 K2 ([(8,i64 x),(7,i64 ws.length),(0,v),(1,.func (.func g) #[] cs)]) ([P]++R):=by
  rintro k ⟨hI1,hX1⟩;refine hK2 _ _ ?_;obtain⟨hk,hno⟩:=hI1;subst hX1;rw[List.take_length]at hno;refine gc 5 ?_;refine kretv results149 rfl (L1:=[P]++R) zge ?_
  first
    |exact⟨_,⟨_,rfl,by rw[hyes];simp,rfl⟩,rfl⟩
    |exact⟨_,⟨_,rfl,by rw[hno];simp,rfl⟩,rfl⟩
 clear hK2;refine gc 1 ?_;refine cloopT (A:=Nat) (fun x=>[(8,i64 x),(7,i64 ws.length),(0,v),(1,.func (.func g) #[] cs)]) (fun x=>[P]++R) (fun x=>x≤ws.length∧(ws.take x).any p=false) (fun x=>ws.length-x) (0) ?_ zsub zge ?_
 · exact⟨Nat.zero_le _,by simp⟩
 rintro k hI1 KL1 hL1;have hI1o:=hI1;obtain⟨hk,hno⟩:=hI1;refine gc 5 ?_;refine cc rfl (fun h33=>?_) (fun h33=>?_)
 ·obtain⟨x,hx⟩: ∃t,ws[k]? =some t:=⟨_,List.getElem?_eq_getElem (by omega)⟩;refine gc 13 ?_;refine y (ev_ixV hv rfl rfl underlying101 sizeOf177 (by omega) (by omega)) rfl ?_;refine y (ev_loadNV (us:=x.cells) (k*7) hv zge rfl isAgg177 sizeOf177 (by simp) (flV_get wait7 hx) rfl) rfl ?_;refine ycallF rfl (hp _ x) rfl hcall ztk rfl ?_;rintro v L' ⟨rfl,rfl⟩;refine gy 2 ?_;refine cc rfl (fun h42=>?_) (fun h42=>?_)
  ·have hyes:ws.any p=true:=List.any_eq_true.2 ⟨x,List.mem_of_getElem? hx,h42⟩;refine gc 11 ?_
   first
     |(exfalso;omega;done)
     | (refine kretv results149 rfl (L1:=[P]++R) zge ?_
        first
          |exact⟨_,⟨_,rfl,by rw[hyes];simp,rfl⟩,rfl⟩
          |exact⟨_,⟨_,rfl,by rw[hno];simp,rfl⟩,rfl⟩)
  have hno2:(ws.take (k+1)).any p=false:=by rw[take_snoc hx];simp[hno,h42]
  refine gc 5 ?_;rw[show IntKind.i64.wrap ((k:Int)+1)=((k+1:Nat):Int)by rw[wr (by omega) (by omega)];rfl];refine gy 3 ?_;exact hL1 (k+1) (⟨by omega,hno2⟩) (by omega) _ _ zsub zge
 refine gc 5 ?_;exact ksub zsub zge (hJ1 k ⟨hI1o,by omega⟩)
theorem nContW [Env]{R:List Seg}{P:Seg}{v:Value}{ws:List WaitM}{g:FuncId}{cs:Array Value}{p:WaitM→Bool}(hv:RdV R v ws.length (waitsV ws))(hl:ws.length<1000000)
   (hcall: ∀(args:Array Value) (w:World),(callFunc g args).run Tryz.prog w= .ok (.enter g args) w) (hp: ∀(R:List Seg) (x:WaitM),Con Tryz.prog g ([waV x]++cs.toList) [P] R (Is (.bool (p x)) [P])):
   Con Tryz.prog 95 [v,.func (.func g) #[] cs] [P] R (Is (.bool (ws.any p)) [P]):=by
 refine con_enter func95 ntmps95 rfl rfl ?_;refine gc 7 ?_;refine ycall (nIndexW hv hl hcall hp) rfl call149 ztk rfl ?_;rintro v L' ⟨i7,rfl,hi7,rfl⟩;refine gy 1 ?_;rw[hi7];refine gy 4 ?_;refine kretv results95 rfl (L1:=[P]++R) zge ?_;exact⟨_,⟨by rfl,rfl⟩,by rfl⟩
theorem flat_one(Ps R:List Seg):(Ps++R).flatten.Perm ([Ps.flatten]++R).flatten:=by simp
theorem nContEs [Env]{R Ps:List Seg}{v:Value}{es:List EntM}{g:FuncId}{cs:Array Value}{p:EntM→Bool}(hv:RdV R v es.length (entsV es))(hl:es.length<1000000)
   (hcall: ∀(args:Array Value) (w:World),(callFunc g args).run Tryz.prog w= .ok (.enter g args) w) (hp: ∀(R:List Seg) (x:EntM),Con Tryz.prog g ([entV x]++cs.toList) Ps R (Is (.bool (p x)) Ps)):
   Con Tryz.prog 199 [v,.func (.func g) #[] cs] Ps R (Is (.bool (es.any p)) Ps):=
 (nContE (P:=Ps.flatten) hv hl hcall (fun R x=>(hp R x).via (flat_one Ps R).symm fun v L' ⟨h1,h2⟩=>⟨_,⟨h1,rfl⟩,h2▸flat_one Ps R⟩)).via (flat_one Ps R) fun v L' ⟨h1,h2⟩=>⟨_,⟨h1,rfl⟩,h2▸(flat_one Ps R).symm⟩
theorem nContWs [Env]{R Ps:List Seg}{v:Value}{ws:List WaitM}{g:FuncId}{cs:Array Value}{p:WaitM→Bool}(hv:RdV R v ws.length (waitsV ws))(hl:ws.length<1000000)
   (hcall: ∀(args:Array Value) (w:World),(callFunc g args).run Tryz.prog w= .ok (.enter g args) w) (hp: ∀(R:List Seg) (x:WaitM),Con Tryz.prog g ([waV x]++cs.toList) Ps R (Is (.bool (p x)) Ps)):
   Con Tryz.prog 95 [v,.func (.func g) #[] cs] Ps R (Is (.bool (ws.any p)) Ps):=
 (nContW (P:=Ps.flatten) hv hl hcall (fun R x=>(hp R x).via (flat_one Ps R).symm fun v L' ⟨h1,h2⟩=>⟨_,⟨h1,rfl⟩,h2▸flat_one Ps R⟩)).via (flat_one Ps R) fun v L' ⟨h1,h2⟩=>⟨_,⟨h1,rfl⟩,h2▸(flat_one Ps R).symm⟩
theorem nFlushed1 [Env]{R:List Seg}{F:NF}{V:NV}{n:NodM}{x:EntM}{q:Int}{p1 p2:Nat}:Con Tryz.prog 200 [entV x,ptr p1,ptr p2] [sc p1 [ptr F.p] 27,sc p2 [i64 q] 2,ndC F V n] R
   (Is (.bool (x.dirty&&(decide (x.ve<n.epoch)||decide (x.vs≤q)))) [sc p1 [ptr F.p] 27,sc p2 [i64 q] 2,ndC F V n]):=by
 refine con_enter func200 ntmps200 rfl rfl ?_;unfold ndC;refine gc 1 ?_;refine ya (ac_box (vs:=x.cells) rfl rfl) rfl ?_;rintro v L' ⟨b3,rfl,rfl⟩;refine gy 4 ?_;refine cdraw 19 (od [] 19 0) (_) Tryz.mixed (by kernel_rfl) .refl ?_;refine gh 3 ?_;refine hsp 7 rfl (fun h6=>?_) (fun h6=>?_)
 ·refine gh 9 ?_;refine hsp 16 rfl (fun h16=>?_) (fun h16=>?_)
  ·refine gh 12 ?_;refine kretv results200 rfl (L1:=[sc p1 _ _,sc p2 _ _,sc F.p _ _]++R) zge ?_;exact⟨_,⟨by simp_all,rfl⟩,by rfl⟩
  refine gh 12 ?_;refine kretv results200 rfl (L1:=[sc p1 _ _,sc p2 _ _,sc F.p _ _]++R) zge ?_;exact⟨_,⟨by(simp_all;intro;omega),rfl⟩,by rfl⟩
 refine gh 21 ?_;refine kretv results200 rfl (L1:=[sc p1 _ _,sc p2 _ _,sc F.p _ _]++R) zge ?_;exact⟨_,⟨by simp_all,rfl⟩,by rfl⟩
theorem nFlushed [Env]{R:List Seg}{F:NF}{V:NV}{n:NodM}{q:Int}(hw:waiOk V n)(hwn:n.waits.length≤16)(hb:n.c.bl≤32)(hal:n.c.all.length≤32):
   Con Tryz.prog 155 [ptr F.p,i64 q] [ndC F V n,waiS V n,caP F.A n.c,enS F.A n.c] R (Is (.bool (n.flushed q)) [ndC F V n,waiS V n,caP F.A n.c,enS F.A n.c]):=by
 have hsw:svOk V.sw n.waits.length 7 (waitsV n.waits):=hw;have hrd:RdV [waiS V n] (svVal V.sw n.waits.length) n.waits.length (waitsV n.waits):=rdV_sv .z hsw;refine con_enter func155 ntmps155 rfl rfl ?_;unfold ndC;refine gc 1 ?_;refine ya (ac_box rfl rfl) rfl ?_;rintro v L' ⟨b2,rfl,rfl⟩;refine ya (ac_box rfl rfl) rfl ?_;rintro v L' ⟨b3,rfl,rfl⟩;refine gy 3 ?_;refine cseqT ?_;intro K2 hK2;refine gc 6 ?_;refine y (ev_lenSv rfl underlying101 (by assumption)) rfl ?_;refine gy 3 ?_
 have hJ1: ∀x:Nat,((x≤n.waits.length∧((n.waits.take x).any fun w=>decide (w.op=2)&&decide (w.seq≤q))=false)∧(x=n.waits.length))→Sk 35 K2 ([(13,i64 x),(12,i64 n.waits.length),(11,svVal V.sw n.waits.length),(2,ptr b2),(3,ptr b3)]) ([sc b2 [ptr F.p] 27,sc b3 [i64 q] 2,ndC F V n,waiS V n,caP F.A n.c,enS F.A n.c]++R):=by
  rintro k ⟨hI1,hX1⟩;refine hK2 _ _ ?_;obtain⟨hk,hno⟩:=hI1;subst hX1;rw[List.take_length]at hno;unfold ndC;refine gc 5 ?_;refine ycall (kAll ?bl44) rfl call59 ztk rfl ?_
  case bl44=>exact hb
  rintro v L' ⟨s31,rfl,ok31,rfl⟩;have hre:RdV [svSeg s31 127 (entsV n.c.all)] (svVal s31 n.c.all.length) n.c.all.length (entsV n.c.all):=rdV_sv .z ok31
  refine y (ev_mkFunc (vs:= #[ptr b2,ptr b3]) (fun a hf=>by
      have h1:a.eval (.tmp 2)=ptr b2:=hf.ev rfl;have h2:a.eval (.tmp 3)=ptr b3:=hf.ev rfl;simp[h1,h2])) rfl ?_
  refine yci (nContEs (es:=n.c.all) (Ps:=[sc b2 [ptr F.p] 27,sc b3 [i64 q] 2,ndC F V n]) (cs:= #[ptr b2,ptr b3]) (p:=fun x=>x.dirty&&(decide (x.ve<n.epoch)||decide (x.vs≤q))) ?hre46 (by omega) call200 (fun R x=>nFlushed1)) call199 ?_
  case hre46=>exact hre.mono zge
  refine gy 5 ?_;refine kretv results155 rfl (L1:=[ndC F V n,waiS V n,caP F.A n.c,enS F.A n.c]++R) zge ?_;refine⟨_,⟨?_,rfl⟩,rfl⟩;unfold NodM.flushed;rw[hno];rfl
 clear hK2;refine gc 1 ?_;refine cloopT (A:=Nat) (fun x=>[(13,i64 x),(12,i64 n.waits.length),(11,svVal V.sw n.waits.length),(2,ptr b2),(3,ptr b3)]) (fun x=>[sc b2 [ptr F.p] 27,sc b3 [i64 q] 2,ndC F V n,waiS V n,caP F.A n.c,enS F.A n.c]++R) (fun x=>x≤n.waits.length∧((n.waits.take x).any fun w=>decide (w.op=2)&&decide (w.seq≤q))=false) (fun x=>n.waits.length-x) (0) ?_ zsub zge ?_
 · exact⟨Nat.zero_le _,by simp⟩
 rintro k hI1 KL1 hL1;have hI1o:=hI1;obtain⟨hk,hno⟩:=hI1;refine gc 5 ?_;refine cc rfl (fun h50=>?_) (fun h50=>?_)
 ·refine gc 5 ?_;obtain⟨w,hwk⟩: ∃w,n.waits[k]? =some w:=⟨_,List.getElem?_eq_getElem (by omega)⟩;have hstep: ¬(w.op=2∧w.seq≤q)→((n.waits.take (k+1)).any fun w=>decide (w.op=2)&&decide (w.seq≤q))=false:=by intro hh;rw[take_snoc hwk,List.any_append,hno];simp;omega
  refine y (ev_ixV hrd rfl rfl underlying101 sizeOf177 (by omega) (by omega)) rfl ?_;refine y (ev_loadNV (us:=w.cells) (k*7) hrd zge rfl isAgg177 sizeOf177 (by simp) (flV_get wait7 hwk) rfl) rfl ?_;refine ya (ac_alloc zeroValue177 rfl) rfl ?_;rintro v L' ⟨b6,rfl,rfl⟩;refine yst (ac_storeN (vs':=w.cells) rfl rfl (wait_one w) sizeOf177 zrp rfl (by decide) rfl) ?_;refine gy 7 ?_;refine ysp 20 rfl (fun h59=>?_) (fun h59=>?_)
  ·refine gy 7 ?_;refine cc rfl (fun h65=>?_) (fun h65=>?_)
   ·refine gc 1 ?_
    have hfl:n.flushed q=false:=by
      have hy:(n.waits.any fun w=>decide (w.op=2)&&decide (w.seq≤q))=true:=List.any_eq_true.2 ⟨w,List.mem_of_getElem? hwk,by simp;omega⟩;unfold NodM.flushed;rw[hy];rfl
    refine gy 9 ?_;refine kretv results155 rfl (L1:=[ndC F V n,waiS V n,caP F.A n.c,enS F.A n.c]++R) zge ?_;rw[hfl];exact⟨_,⟨rfl,rfl⟩,rfl⟩
   refine gc 4 ?_;have hno2:=hstep (by omega);refine gy 1 ?_;rw[show IntKind.i64.wrap ((k:Int)+1)=((k+1:Nat):Int)by rw[wr (by omega) (by omega)];rfl];refine gy 3 ?_;exact hL1 (k+1) (⟨by omega,hno2⟩) (by omega) _ _ zsub zge
  refine gy 12 ?_;have hno2:=hstep (by omega);refine gy 1 ?_;rw[show IntKind.i64.wrap ((k:Int)+1)=((k+1:Nat):Int)by rw[wr (by omega) (by omega)];rfl];refine gy 3 ?_;exact hL1 (k+1) (⟨by omega,hno2⟩) (by omega) _ _ zsub zge
 refine gc 5 ?_;exact ksub zsub zge (hJ1 k ⟨hI1o,by omega⟩)
end W
end Go.Proofs
namespace Go.Sl
open NodM
def wol(n:NodM)(l:List LetM)(q:Int):NodM:={n with out:=l,loads:=q}
def readsN(n:NodM)(k:Nat):List WaitM × NodM:=(n.waits.take k).foldl n.reads1 ([],n)
theorem readsN_succ{n:NodM}{k:Nat}{w:WaitM}(h:n.waits[k]? =some w):readsN n (k+1)=n.reads1 (readsN n k) w:=by
 unfold readsN;rw[take_snoc h,List.foldl_append];rfl
theorem readsN_all{n:NodM}{ks:List WaitM}{m:NodM}(h:readsN n n.waits.length=(ks,m)):n.reads={m with waits:=ks}:=by
 unfold readsN at h;rw[List.take_length]at h;unfold reads;rw[h]
section
variable {n : NodM} {ks : List WaitM} {l : List LetM} {q : Int} {w : WaitM}
theorem reads1_given{x:EntM}(h1:w.op=1)(h2:w.load=0)(h3:writingAt n.waits w.blk=none)(h4:aget n.c.en w.blk=some x):n.reads1 (ks,wol n l q) w=(ks,(wol n l q).given w x.data):=by
 unfold reads1;rw[if_pos ⟨h1,h2,writing_none h3⟩];show(match aget n.c.en w.blk with|some x=>_|none=>_)=_;rw[h4]
theorem reads1_load(h1:w.op=1)(h2:w.load=0)(h3:writingAt n.waits w.blk=none)(h4:aget n.c.en w.blk=none):n.reads1 (ks,wol n l q) w=(ks++[{w with load:=q+1}],(wol n l (q+1)).load w.blk (q+1)):=by
 unfold reads1;rw[if_pos ⟨h1,h2,writing_none h3⟩];show(match aget n.c.en w.blk with|some x=>_|none=>_)=_;rw[h4];rfl
theorem reads1_sync(h1: ¬(w.op=1∧w.load=0∧n.writing w.blk=none))(h2:w.op=4)(h3:n.flushed w.seq=true):n.reads1 (ks,wol n l q) w=(ks,(wol n l q).answer w 0 []):=by
 unfold reads1;rw[if_neg h1,if_pos ⟨h2,h3⟩]
theorem reads1_keep(h1: ¬(w.op=1∧w.load=0∧n.writing w.blk=none))(h2: ¬(w.op=4∧n.flushed w.seq=true)):n.reads1 (ks,wol n l q) w=(ks++[w],wol n l q):=by
 unfold reads1;rw[if_neg h1,if_neg h2]
theorem given_wol(n:NodM)(l:List LetM)(q:Int)(w:WaitM)(d:Bytes): ∃l2,(wol n l q).given w d=wol n l2 q∧l2.length=l.length+1:=by
 unfold given;split
 · exact⟨_,rfl,by show(l++[_]).length=_;simp⟩
 · exact⟨_,rfl,by show(l++[_]).length=_;simp⟩
theorem writing_ne{b:Int}{i:Nat}(h:writingAt n.waits b=some i): ¬n.writing b=none:=by
 obtain⟨w,hw,_⟩:=writingAt_get h;rw[writing_some h hw];simp
end
end Go.Sl