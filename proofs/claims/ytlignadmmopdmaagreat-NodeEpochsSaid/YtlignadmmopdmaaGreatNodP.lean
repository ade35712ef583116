/- A part of the proof. -/
import Derived.Test.YtlignadmmopdmaaGreatUn
import Derived.Test.YtlignadmmopdmaaGreatT16
import Derived.Test.YtlignadmmopdmaaGreatGG
import Derived.Test.YtlignadmmopdmaaGreatGE
import Derived.Test.YtlignadmmopdmaaGreatNodO
set_option linter.unusedVariables false
set_option linter.unusedSimpArgs false
set_option linter.constructorNameAsVariable false
namespace Go.Proofs
open _root_.Go.Proofs.Tryz
open Go Go.Sl
namespace W
theorem Vo [Env]{R:List ax}{v:Value}{bs:Bytes}{oF:Nat}(hb:cE R v bs.length (av bs))(hl:bs.length≤100000)(ha:oF≤bs.length):
   bC Tryz.prog 73 [v,i64 oF] [] R (Is (.tuple #[i64 (kV bs oF).1,i64 (kV bs oF).2.1,.bool (kV bs oF).2.2]) []):=by
 refine ag func73 ntmps73 rfl rfl ?_;refine gc 20 ?_;refine bO (A:=Nat × Nat × Nat) (fun x=>[(9,i64 x.1),(8,.int .u64 ((2^(7*x.1):Nat):Int)),(7,.int .u64 (x.2.1:Nat)),(1,i64 x.2.2),(0,v)]) (fun x=>R) (fun x=>o4 (bs.drop oF) x.1 x.2.1 (bs.drop x.2.2)∧oF≤x.2.2∧x.2.2≤bs.length) (fun x=>10-x.1) ((0,0,oF)) ?_ aq ae ?_
 · exact⟨.zero _,Nat.le_refl _,ha⟩
 rintro⟨k,u,p⟩ bJ kt cI;obtain⟨hi,hp0,hp1⟩:=bJ;dsimp only at hi hp0 hp1 ⊢;have TX:=hi.k9;refine gc 6 ?_;refine cc rfl (fun h9=>?_) (fun h9=>?_)
 ·refine gc 8 ?_;refine y (bu rfl underlying55 (cE.bo (by assumption))) rfl ?_;refine gy 3 ?_;refine cc rfl (fun KZ=>?_) (fun KZ=>?_)
  ·refine gc 1 ?_;have zC:kV bs oF=(0,0,false):=by unfold kV;rw[o4.none (k:=k) (u:=u) (by rw[List.drop_eq_nil_of_le (show bs.length≤p by omega)]at hi;exact hi)]
   refine gy 12 ?_;refine gl results73 rfl rfl rfl (L1:=[]++R) ae ?_;rw[zC];exact⟨_,⟨rfl,rfl⟩,rfl⟩
  refine gc 3 ?_;have TS:=drop_cons (bs:=bs) (k:=p) (by omega);rw[TS]at hi;obtain⟨x,hx⟩: ∃x:UInt8,bs[p]?.getD 0=x:=⟨_,rfl⟩;rw[hx]at hi TS;have yb:=x.toNat_lt;refine gy 2 ?_;refine y (aK hb rfl rfl underlying55 sizeOf5 (by omega) (by omega)) rfl ?_;refine y (au p hb ae rfl isAgg5 (by simp) (lL (by omega))) rfl ?_;rw[hx];refine y (aR rfl underlying5 underlying138) rfl ?_;rw[iN,show((x.toNat:Nat):Int) % 18446744073709551616=((x.toNat:Nat):Int)by omega];refine gy 6 ?_;rw[show IntKind.i64.wrap ((p:Int)+1)=((p+1:Nat):Int)by rw[wr (by omega) (by omega)];rfl];refine gy 8 ?_;refine cv 28 rfl (fun YO=>?_) (fun YO=>?_)
  ·refine gy 4 ?_;refine cv 32 rfl (fun OD=>?_) (fun OD=>?_)
   ·refine gy 11 ?_;have zC:kV bs oF=(0,0,false):=by unfold kV;rw[hi.bad (by omega)]
    refine gy 12 ?_;refine gl results73 rfl rfl rfl (L1:=[]++R) ae ?_;rw[zC];exact⟨_,⟨rfl,rfl⟩,rfl⟩
   refine gy 3 ?_;refine cv 35 rfl (fun MV=>?_) (fun MV=>?_)
   ·refine gy 6 ?_;refine cc rfl (fun OF=>?_) (fun OF=>?_)
    ·refine gc 1 ?_;have zC:kV bs oF=(0,0,false):=by unfold kV;rw[hi.bad (by omega)]
     refine gy 12 ?_;refine gl results73 rfl rfl rfl (L1:=[]++R) ae ?_;rw[zC];exact⟨_,⟨rfl,rfl⟩,rfl⟩
    refine gc 3 ?_;have cq: ¬((k=9∧1<x.toNat)∨(0<k∧x.toNat=0)):=by omega
    obtain⟨uH,AN⟩:=hi.fit cq;refine gy 2 ?_;refine y (iH rfl rfl (by decide)) rfl ?_;rw[show((x.toNat:Nat):Int).tmod 128=((x.toNat % 128:Nat):Int)from rfl];refine gy 1 ?_;refine y (gS rfl rfl) rfl ?_;refine gy 1 ?_;rw[Jo hi cq];obtain⟨uu,HK⟩: ∃uu,u+x.toNat % 128*2^(7*k)=uu:=⟨_,rfl⟩;rw[HK]at AN ⊢;refine gy 5 ?_;refine y (gS rfl rfl) rfl ?_;refine gy 8 ?_;refine cc rfl (fun Lg=>?_) (fun Lg=>?_)
    ·refine gc 2 ?_;have pE:=hi.last cq (by omega);rw[HK]at pE;have zC:kV bs oF=(An uu,((p+1:Nat):Int),true):=by unfold kV;rw[pE];simp only[List.length_drop];rw[show bs.length-(bs.length-(p+1))=p+1 by omega]
     refine gy 1 ?_;refine y (iH rfl rfl (by decide)) rfl ?_;rw[show((uu:Nat):Int).tmod 2=((uu % 2:Nat):Int)from rfl];refine gy 3 ?_;refine cc rfl (fun Gd=>?_) (fun Gd=>?_)
     ·have Cl:=xa (u:=uu) (by omega);refine gc 2 ?_;refine y (ie rfl rfl (by decide)) rfl ?_;rw[iN,show((uu:Nat):Int).tdiv 2=((uu / 2:Nat):Int)from rfl,show((uu / 2:Nat):Int) % 18446744073709551616=((uu / 2:Nat):Int)by omega];refine y (aR rfl underlying138 underlying2) rfl ?_;rw[wr (by omega) (by omega)];refine y (pr rfl) rfl ?_;rw[wr (by omega) (by omega)];refine gy 1 ?_;rw[wr (by omega) (by omega),←Cl];refine gy 13 ?_;refine gl results73 rfl rfl rfl (L1:=[]++R) ae ?_;rw[zC];exact⟨_,⟨rfl,rfl⟩,rfl⟩
     have Cl:=xb (u:=uu) (by omega);refine gc 4 ?_;refine y (ie rfl rfl (by decide)) rfl ?_;rw[iN,show((uu:Nat):Int).tdiv 2=((uu / 2:Nat):Int)from rfl,show((uu / 2:Nat):Int) % 18446744073709551616=((uu / 2:Nat):Int)by omega];refine y (aR rfl underlying138 underlying2) rfl ?_;rw[wr (by omega) (by omega),←Cl];refine gy 12 ?_;refine gl results73 rfl rfl rfl (L1:=[]++R) ae ?_;rw[zC];exact⟨_,⟨rfl,rfl⟩,rfl⟩
    have Ww:k≤8:=by omega
    have qf:=hi.next cq (by omega);rw[HK]at qf;rw[qq Ww];refine gc 6 ?_;rw[show IntKind.i64.wrap ((k:Int)+1)=((k+1:Nat):Int)by rw[wr (by omega) (by omega)];rfl];refine gy 3 ?_;exact cI (k+1,uu,p+1) ⟨qf,by dsimp only;omega,by dsimp only;omega⟩ (by dsimp only;omega) _ _ aq ae
   refine gy 10 ?_;have cq: ¬((k=9∧1<x.toNat)∨(0<k∧x.toNat=0)):=by omega
   obtain⟨uH,AN⟩:=hi.fit cq;refine gy 2 ?_;refine y (iH rfl rfl (by decide)) rfl ?_;rw[show((x.toNat:Nat):Int).tmod 128=((x.toNat % 128:Nat):Int)from rfl];refine gy 1 ?_;refine y (gS rfl rfl) rfl ?_;refine gy 1 ?_;rw[Jo hi cq];obtain⟨uu,HK⟩: ∃uu,u+x.toNat % 128*2^(7*k)=uu:=⟨_,rfl⟩;rw[HK]at AN ⊢;refine gy 5 ?_;refine y (gS rfl rfl) rfl ?_;refine gy 8 ?_;refine cc rfl (fun Hb=>?_) (fun Hb=>?_)
   ·refine gc 2 ?_;have pE:=hi.last cq (by omega);rw[HK]at pE;have zC:kV bs oF=(An uu,((p+1:Nat):Int),true):=by unfold kV;rw[pE];simp only[List.length_drop];rw[show bs.length-(bs.length-(p+1))=p+1 by omega]
    refine gy 1 ?_;refine y (iH rfl rfl (by decide)) rfl ?_;rw[show((uu:Nat):Int).tmod 2=((uu % 2:Nat):Int)from rfl];refine gy 3 ?_;refine cc rfl (fun BY=>?_) (fun BY=>?_)
    ·have Cl:=xa (u:=uu) (by omega);refine gc 2 ?_;refine y (ie rfl rfl (by decide)) rfl ?_;rw[iN,show((uu:Nat):Int).tdiv 2=((uu / 2:Nat):Int)from rfl,show((uu / 2:Nat):Int) % 18446744073709551616=((uu / 2:Nat):Int)by omega];refine y (aR rfl underlying138 underlying2) rfl ?_;rw[wr (by omega) (by omega)];refine y (pr rfl) rfl ?_;rw[wr (by omega) (by omega)];refine gy 1 ?_;rw[wr (by omega) (by omega),←Cl];refine gy 13 ?_;exfalso;omega
    have Cl:=xb (u:=uu) (by omega);refine gc 4 ?_;refine y (ie rfl rfl (by decide)) rfl ?_;rw[iN,show((uu:Nat):Int).tdiv 2=((uu / 2:Nat):Int)from rfl,show((uu / 2:Nat):Int) % 18446744073709551616=((uu / 2:Nat):Int)by omega];refine y (aR rfl underlying138 underlying2) rfl ?_;rw[wr (by omega) (by omega),←Cl];refine gy 12 ?_;exfalso;omega
   have Ww:k≤8:=by omega
   have qf:=hi.next cq (by omega);rw[HK]at qf;rw[qq Ww];refine gc 6 ?_;rw[show IntKind.i64.wrap ((k:Int)+1)=((k+1:Nat):Int)by rw[wr (by omega) (by omega)];rfl];refine gy 3 ?_;exact cI (k+1,uu,p+1) ⟨qf,by dsimp only;omega,by dsimp only;omega⟩ (by dsimp only;omega) _ _ aq ae
  refine gy 7 ?_;refine cv 35 rfl (fun xN=>?_) (fun xN=>?_)
  ·refine gy 6 ?_;refine cc rfl (fun On=>?_) (fun On=>?_)
   ·refine gc 1 ?_;have zC:kV bs oF=(0,0,false):=by unfold kV;rw[hi.bad (by omega)]
    refine gy 12 ?_;refine gl results73 rfl rfl rfl (L1:=[]++R) ae ?_;rw[zC];exact⟨_,⟨rfl,rfl⟩,rfl⟩
   refine gc 3 ?_;have cq: ¬((k=9∧1<x.toNat)∨(0<k∧x.toNat=0)):=by omega
   obtain⟨uH,AN⟩:=hi.fit cq;refine gy 2 ?_;refine y (iH rfl rfl (by decide)) rfl ?_;rw[show((x.toNat:Nat):Int).tmod 128=((x.toNat % 128:Nat):Int)from rfl];refine gy 1 ?_;refine y (gS rfl rfl) rfl ?_;refine gy 1 ?_;rw[Jo hi cq];obtain⟨uu,HK⟩: ∃uu,u+x.toNat % 128*2^(7*k)=uu:=⟨_,rfl⟩;rw[HK]at AN ⊢;refine gy 5 ?_;refine y (gS rfl rfl) rfl ?_;refine gy 8 ?_;refine cc rfl (fun Ot=>?_) (fun Ot=>?_)
   ·refine gc 2 ?_;have pE:=hi.last cq (by omega);rw[HK]at pE;have zC:kV bs oF=(An uu,((p+1:Nat):Int),true):=by unfold kV;rw[pE];simp only[List.length_drop];rw[show bs.length-(bs.length-(p+1))=p+1 by omega]
    refine gy 1 ?_;refine y (iH rfl rfl (by decide)) rfl ?_;rw[show((uu:Nat):Int).tmod 2=((uu % 2:Nat):Int)from rfl];refine gy 3 ?_;refine cc rfl (fun He=>?_) (fun He=>?_)
    ·have Cl:=xa (u:=uu) (by omega);refine gc 2 ?_;refine y (ie rfl rfl (by decide)) rfl ?_;rw[iN,show((uu:Nat):Int).tdiv 2=((uu / 2:Nat):Int)from rfl,show((uu / 2:Nat):Int) % 18446744073709551616=((uu / 2:Nat):Int)by omega];refine y (aR rfl underlying138 underlying2) rfl ?_;rw[wr (by omega) (by omega)];refine y (pr rfl) rfl ?_;rw[wr (by omega) (by omega)];refine gy 1 ?_;rw[wr (by omega) (by omega),←Cl];refine gy 13 ?_;refine gl results73 rfl rfl rfl (L1:=[]++R) ae ?_;rw[zC];exact⟨_,⟨rfl,rfl⟩,rfl⟩
    have Cl:=xb (u:=uu) (by omega);refine gc 4 ?_;refine y (ie rfl rfl (by decide)) rfl ?_;rw[iN,show((uu:Nat):Int).tdiv 2=((uu / 2:Nat):Int)from rfl,show((uu / 2:Nat):Int) % 18446744073709551616=((uu / 2:Nat):Int)by omega];refine y (aR rfl underlying138 underlying2) rfl ?_;rw[wr (by omega) (by omega),←Cl];refine gy 12 ?_;refine gl results73 rfl rfl rfl (L1:=[]++R) ae ?_;rw[zC];exact⟨_,⟨rfl,rfl⟩,rfl⟩
   have Ww:k≤8:=by omega
   have qf:=hi.next cq (by omega);rw[HK]at qf;rw[qq Ww];refine gc 6 ?_;rw[show IntKind.i64.wrap ((k:Int)+1)=((k+1:Nat):Int)by rw[wr (by omega) (by omega)];rfl];refine gy 3 ?_;exact cI (k+1,uu,p+1) ⟨qf,by dsimp only;omega,by dsimp only;omega⟩ (by dsimp only;omega) _ _ aq ae
  refine gy 10 ?_;have cq: ¬((k=9∧1<x.toNat)∨(0<k∧x.toNat=0)):=by omega
  obtain⟨uH,AN⟩:=hi.fit cq;refine gy 2 ?_;refine y (iH rfl rfl (by decide)) rfl ?_;rw[show((x.toNat:Nat):Int).tmod 128=((x.toNat % 128:Nat):Int)from rfl];refine gy 1 ?_;refine y (gS rfl rfl) rfl ?_;refine gy 1 ?_;rw[Jo hi cq];obtain⟨uu,HK⟩: ∃uu,u+x.toNat % 128*2^(7*k)=uu:=⟨_,rfl⟩;rw[HK]at AN ⊢;refine gy 5 ?_;refine y (gS rfl rfl) rfl ?_;refine gy 8 ?_;refine cc rfl (fun Yz=>?_) (fun Yz=>?_)
  ·refine gc 2 ?_;have pE:=hi.last cq (by omega);rw[HK]at pE;have zC:kV bs oF=(An uu,((p+1:Nat):Int),true):=by unfold kV;rw[pE];simp only[List.length_drop];rw[show bs.length-(bs.length-(p+1))=p+1 by omega]
   refine gy 1 ?_;refine y (iH rfl rfl (by decide)) rfl ?_;rw[show((uu:Nat):Int).tmod 2=((uu % 2:Nat):Int)from rfl];refine gy 3 ?_;refine cc rfl (fun Ow=>?_) (fun Ow=>?_)
   ·have Cl:=xa (u:=uu) (by omega);refine gc 2 ?_;refine y (ie rfl rfl (by decide)) rfl ?_;rw[iN,show((uu:Nat):Int).tdiv 2=((uu / 2:Nat):Int)from rfl,show((uu / 2:Nat):Int) % 18446744073709551616=((uu / 2:Nat):Int)by omega];refine y (aR rfl underlying138 underlying2) rfl ?_;rw[wr (by omega) (by omega)];refine y (pr rfl) rfl ?_;rw[wr (by omega) (by omega)];refine gy 1 ?_;rw[wr (by omega) (by omega),←Cl];refine gy 13 ?_;refine gl results73 rfl rfl rfl (L1:=[]++R) ae ?_;rw[zC];exact⟨_,⟨rfl,rfl⟩,rfl⟩
   have Cl:=xb (u:=uu) (by omega);refine gc 4 ?_;refine y (ie rfl rfl (by decide)) rfl ?_;rw[iN,show((uu:Nat):Int).tdiv 2=((uu / 2:Nat):Int)from rfl,show((uu / 2:Nat):Int) % 18446744073709551616=((uu / 2:Nat):Int)by omega];refine y (aR rfl underlying138 underlying2) rfl ?_;rw[wr (by omega) (by omega),←Cl];refine gy 12 ?_;refine gl results73 rfl rfl rfl (L1:=[]++R) ae ?_;rw[zC];exact⟨_,⟨rfl,rfl⟩,rfl⟩
  have Ww:k≤8:=by omega
  have qf:=hi.next cq (by omega);rw[HK]at qf;rw[qq Ww];refine gc 6 ?_;rw[show IntKind.i64.wrap ((k:Int)+1)=((k+1:Nat):Int)by rw[wr (by omega) (by omega)];rfl];refine gy 3 ?_;exact cI (k+1,uu,p+1) ⟨qf,by dsimp only;omega,by dsimp only;omega⟩ (by dsimp only;omega) _ _ aq ae
 exfalso;omega
theorem Vl [Env]{R:List ax}{v:Value}{bs:Bytes}(hb:oD R v bs)(hl:bs.length≤100000):
   bC Tryz.prog 38 [v] [] R (fun u L'=> ∃sn st,u= .tuple #[tD (bX bs).1 sn st,i64 (bX bs).2]∧I9 (bX bs).1 sn st∧L'=jd (bX bs).1 sn st):=by
 have hv:=hb.rd;refine ag func38 ntmps38 rfl rfl ?_;refine gc 1 ?_;refine ya (aB zeroValue88 rfl) rfl ?_;rintro v L' ⟨b2,rfl,rfl⟩;refine gy 4 ?_;refine y (bU rfl) rfl ?_;refine ya (aB zeroValue88 rfl) rfl ?_;rintro v L' ⟨b4,rfl,rfl⟩;refine bA (ai rfl rfl (by simp[Value.oneCell']) sizeOf88 bc (by rfl) (by rfl)) ?_;refine gy 5 ?_;refine y (bu rfl underlying55 (cE.bo (by assumption))) rfl ?_;refine gy 3 ?_;refine cc rfl (fun h9=>?_) (fun h9=>?_)
 ·refine gc 1 ?_;have Lt:=iv (rO (b:=bs) (by omega));refine y (ak rfl isAgg88 sizeOf88 aL (by rfl)) rfl ?_;refine bA (ai rfl rfl (by simp[Value.oneCell']) sizeOf88 bc (by rfl) (by rfl)) ?_;refine gy 5 ?_;refine cx results38 rfl rfl isAgg88 sizeOf88 aL (rfl) (L1:=[[],[]]++R) ae ?_;rw[Lt];exact⟨_,⟨none,none,rfl,⟨⟨rfl,rfl⟩,⟨rfl,rfl⟩⟩,rfl⟩,rfl⟩
 refine gc 3 ?_;obtain⟨k0,h0,r,rfl⟩: ∃k h r,bs=k::h::r:=by match bs,(show 2≤bs.length by omega)with|k::h::r,_=>exact⟨k,h,r,rfl⟩
 have TZ:=k0.toNat_lt;have hhl:=h0.toNat_lt;have hlr:(k0::h0::r).length=r.length+2:=rfl;have at6:(k0::h0::r).drop 2=r:=rfl;refine gy 1 ?_;refine y (aK hv rfl rfl underlying55 sizeOf5 (by omega) (by omega)) rfl ?_;refine y (au 1 hv ae rfl isAgg5 rfl rfl) rfl ?_;refine y (aR rfl underlying5 underlying3) rfl ?_;rw[wr (by omega) (by omega)];refine y (iH rfl rfl (by decide)) rfl ?_;rw[show((h0.toNat:Nat):Int).tmod 16=((h0.toNat % 16:Nat):Int)from rfl];refine gy 5 ?_;refine y (aK hv rfl rfl underlying55 sizeOf5 (by omega) (by omega)) rfl ?_;refine y (au 1 hv ae rfl isAgg5 rfl rfl) rfl ?_;refine y (aR rfl underlying5 underlying3) rfl ?_;rw[wr (by omega) (by omega)];refine y (ie rfl rfl (by decide)) rfl ?_;rw[show((h0.toNat:Nat):Int).tdiv 16=((h0.toNat / 16:Nat):Int)from rfl,wr (by omega) (by omega)];refine gy 3 ?_;refine bq ?_;intro K8 qN
 have zR: ∀x:Nat × Nat,(x.1=kX h0.toNat∧x.2=js h0.toNat)→Sk 129 K8 ([(6,i64 x.2),(5,i64 x.1),(4,ptr b4),(2,ptr b2),(0,v)]) ([sc b4 [i64 0,fp,fp] 88,sc b2 [i64 0,fp,fp] 88]++R):=by
  rintro⟨nm,tx⟩ Lj;refine qN _ _ ?_;obtain⟨T5,Pe⟩:=Lj;dsimp only at T5 Pe ⊢;have Zt:=Ex h0;rw[←T5]at Zt;refine gc 6 ?_;refine cc rfl (fun Gb=>?_) (fun Gb=>?_)
  ·refine gc 1 ?_;have Lt:=iv (Bf (k:=k0) (h:=h0) (r:=r) (by omega));refine y (ak rfl isAgg88 sizeOf88 aL (by rfl)) rfl ?_;refine bA (ai rfl rfl (by simp[Value.oneCell']) sizeOf88 bc (by rfl) (by rfl)) ?_;refine gy 5 ?_;refine cx results38 rfl rfl isAgg88 sizeOf88 aL (rfl) (L1:=[[],[]]++R) ae ?_;rw[Lt];exact⟨_,⟨none,none,rfl,⟨⟨rfl,rfl⟩,⟨rfl,rfl⟩⟩,rfl⟩,rfl⟩
  have LG: ¬4<js h0.toNat:=by omega
  refine gc 4 ?_;refine y (aK hv rfl rfl underlying55 sizeOf5 (by omega) (by omega)) rfl ?_;refine y (au 0 hv ae rfl isAgg5 rfl rfl) rfl ?_;refine y (aR rfl underlying5 underlying3) rfl ?_;rw[wr (by omega) (by omega)];refine y (bU rfl) rfl ?_;refine ya (aB zeroValue88 rfl) rfl ?_;rintro v L' ⟨b7,rfl,rfl⟩;refine bA (ai rfl rfl (by simp[Value.oneCell']) sizeOf88 bc (by rfl) (by rfl)) ?_;refine gy 6 ?_;refine bq ?_;intro K14 Ej;refine gc 4 ?_
  have fQ: ∀x:Nat × Sv × List Int × Nat,((bW x.2.1 x.1 1 (aW x.2.2.1)∧mU r nm x.1 x.2.2.1 ((k0::h0::r).drop x.2.2.2)∧x.2.2.2≤(k0::h0::r).length)∧(x.1=nm))→Sk 129 K14 ([(9,i64 x.1),(8,i64 x.2.2.2),(7,ptr b7),(6,i64 tx),(5,i64 nm),(4,ptr b4),(2,ptr b2),(0,v)]) ([oV b7 k0.toNat x.2.1 x.1 none 0,aD x.2.1 2 (aW x.2.2.1),sc b4 [i64 0,fp,fp] 88,sc b2 [i64 0,fp,fp] 88]++R):=by
   rintro⟨k,sn,ns,p⟩ ⟨bJ,eK⟩;refine Ej _ _ ?_;obtain⟨qQ,tY,hp⟩:=bJ;dsimp only at qQ tY hp ⊢;have Wx:=tY.le;unfold oV;dsimp only at eK;subst eK;have oJ:=tY.done;rw[T5]at oJ;refine bq ?_;intro K16 Ek;refine gc 4 ?_
   have B2: ∀x:Nat × Sv × List Bytes × Nat,((bW x.2.1 x.1 1 (cn x.2.2.1)∧jf ((k0::h0::r).drop p) tx x.1 x.2.2.1 ((k0::h0::r).drop x.2.2.2)∧x.2.2.2≤(k0::h0::r).length)∧(x.1=tx))→Sk 129 K16 ([(13,i64 x.1),(8,i64 x.2.2.2),(7,ptr b7),(6,i64 tx),(4,ptr b4),(2,ptr b2),(0,v)]) ([oV b7 k0.toNat sn k x.2.1 x.1,aD x.2.1 9 (cn x.2.2.1),aD sn 2 (aW ns),sc b4 [i64 0,fp,fp] 88,sc b2 [i64 0,fp,fp] 88]++R):=by
    rintro⟨z,st,ts,g⟩ ⟨qc,Dh⟩;refine Ek _ _ ?_;obtain⟨k3,ry,hg⟩:=qc;dsimp only at k3 ry hg ⊢;have hkt:=ry.le;unfold oV;dsimp only at Dh;subst Dh;have SH:=ry.done;rw[Pe]at SH;refine gc 4 ?_;refine y (bu rfl underlying55 (cE.bo (by assumption))) rfl ?_;refine gy 3 ?_;refine cc rfl (fun De=>?_) (fun De=>?_)
    ·refine gc 1 ?_;have Lt:=iv (Bg (k:=k0) (h:=h0) (r:=r) LG oJ SH (by intro e;have:=congrArg List.length e;simp only[List.length_drop,List.length_nil]at this;omega));refine y (ak rfl isAgg88 sizeOf88 aL (by rfl)) rfl ?_;refine bA (ai rfl rfl (by simp[Value.oneCell']) sizeOf88 bc (by rfl) (by rfl)) ?_;refine gy 5 ?_;refine cx results38 rfl rfl isAgg88 sizeOf88 aL (rfl) (L1:=[[],[]]++R) ae ?_;rw[Lt];exact⟨_,⟨none,none,rfl,⟨⟨rfl,rfl⟩,⟨rfl,rfl⟩⟩,rfl⟩,rfl⟩
    refine gc 3 ?_;have hge:(k0::h0::r).drop g=[]:=List.drop_eq_nil_of_le (by omega);rw[hge]at SH;have hds:=lC (Bi (k:=k0) LG oJ SH);refine y (ak rfl isAgg88 sizeOf88 aL (by rfl)) rfl ?_;refine bA (ai rfl rfl (by(simp only[List.forall_mem_cons,List.not_mem_nil,false_implies,implies_true,bN,and_true,true_and,and_self];first|done|simp[Value.oneCell'])) sizeOf88 bc (by rfl) (by rfl)) ?_;refine gy 4 ?_;refine cx results38 rfl rfl isAgg88 sizeOf88 aL (rfl) (L1:=[aD sn 2 (aW ns),aD st 9 (cn ts)]++R) ae ?_;rw[hds];exact⟨_,⟨sn,st,by unfold tD;rw[tY.len,ry.len],⟨by rw[tY.len];exact qQ,by rw[ry.len];exact k3⟩,rfl⟩,rfl⟩
   clear Ek;refine gc 1 ?_;refine bO (A:=Nat × Sv × List Bytes × Nat) (fun x=>[(13,i64 x.1),(8,i64 x.2.2.2),(7,ptr b7),(6,i64 tx),(4,ptr b4),(2,ptr b2),(0,v)]) (fun x=>[oV b7 k0.toNat sn k x.2.1 x.1,aD x.2.1 9 (cn x.2.2.1),aD sn 2 (aW ns),sc b4 [i64 0,fp,fp] 88,sc b2 [i64 0,fp,fp] 88]++R) (fun x=>bW x.2.1 x.1 1 (cn x.2.2.1)∧jf ((k0::h0::r).drop p) tx x.1 x.2.2.1 ((k0::h0::r).drop x.2.2.2)∧x.2.2.2≤(k0::h0::r).length) (fun x=>tx-x.1) ((0,none,[],p)) ?_ aq ae ?_
   · exact⟨⟨rfl,rfl⟩,.zero _ tx,hp⟩
   rintro⟨z,st,ts,g⟩ qc KL2 Lm;have uE:=qc;obtain⟨k3,ry,hg⟩:=qc;dsimp only at k3 ry hg ⊢;have hkt:=ry.le;unfold oV;refine gc 7 ?_;refine cc rfl (fun Gc=>?_) (fun Gc=>?_)
   ·refine gc 8 ?_;refine y (bu rfl underlying55 (cE.bo (by assumption))) rfl ?_;refine gy 2 ?_;refine cv 78 rfl (fun xP=>?_) (fun xP=>?_)
    ·refine gy 24 ?_;have Lt:=iv (kc (k:=k0) (h:=h0) (r:=r) LG oJ (by rw[←Pe];(rw[List.drop_eq_nil_of_le (show(k0::h0::r).length≤g by omega)]at ry;exact ry.adW (by omega))));refine y (ak rfl isAgg88 sizeOf88 aL (by rfl)) rfl ?_;refine bA (ai rfl rfl (by simp[Value.oneCell']) sizeOf88 bc (by rfl) (by rfl)) ?_;refine gy 10 ?_;refine cx results38 rfl rfl isAgg88 sizeOf88 aL (rfl) (L1:=[[],[]]++R) ae ?_;rw[Lt];exact⟨_,⟨none,none,rfl,⟨⟨rfl,rfl⟩,⟨rfl,rfl⟩⟩,rfl⟩,rfl⟩
    have TS:=drop_cons (bs:=k0::h0::r) (k:=g) (by omega);obtain⟨x,hx⟩: ∃x:UInt8,(k0::h0::r)[g]?.getD 0=x:=⟨_,rfl⟩;rw[hx]at TS;have yb:=x.toNat_lt;have Ls:((k0::h0::r).drop (g+1)).length=(k0::h0::r).length-(g+1):=List.length_drop;refine gy 2 ?_;refine bV ?_;refine y (aK hv rfl rfl underlying55 sizeOf5 (by omega) (by omega)) rfl ?_;refine bV ?_;refine y (au g hv ae rfl isAgg5 (by simp) (lL (by omega))) rfl ?_;rw[hx];refine bV ?_;refine y (aR rfl underlying5 underlying3) rfl ?_;rw[wr (by omega) (by omega)];refine gy 3 ?_;refine cv 86 rfl (fun Hm=>?_) (fun Hm=>?_)
    ·refine gy 16 ?_;have Lt:=iv (kc (k:=k0) (h:=h0) (r:=r) LG oJ (by rw[←Pe];(rw[TS]at ry;exact ry.bad (by omega) (by omega))));refine y (ak rfl isAgg88 sizeOf88 aL (by rfl)) rfl ?_;refine bA (ai rfl rfl (by simp[Value.oneCell']) sizeOf88 bc (by rfl) (by rfl)) ?_;refine gy 10 ?_;refine cx results38 rfl rfl isAgg88 sizeOf88 aL (rfl) (L1:=[[],[]]++R) ae ?_;rw[Lt];exact⟨_,⟨none,none,rfl,⟨⟨rfl,rfl⟩,⟨rfl,rfl⟩⟩,rfl⟩,rfl⟩
    refine gy 2 ?_;rw[wr (by omega) (by omega)];refine gy 2 ?_;refine bV ?_;refine y (aK hv rfl rfl underlying55 sizeOf5 (by omega) (by omega)) rfl ?_;refine bV ?_;refine y (au g hv ae rfl isAgg5 (by simp) (lL (by omega))) rfl ?_;rw[hx];refine bV ?_;refine y (aR rfl underlying5 underlying3) rfl ?_;rw[wr (by omega) (by omega)];refine gy 1 ?_;rw[wr (by omega) (by omega)];refine gy 1 ?_;refine bV ?_;refine y (bu rfl underlying55 (cE.bo (by assumption))) rfl ?_;refine gy 4 ?_;refine cc rfl (fun YW=>?_) (fun YW=>?_)
    ·refine gc 1 ?_;have Lt:=iv (kc (k:=k0) (h:=h0) (r:=r) LG oJ (by rw[←Pe];(rw[TS]at ry;exact ry.bad (by omega) (by omega))));refine y (ak rfl isAgg88 sizeOf88 aL (by rfl)) rfl ?_;refine bA (ai rfl rfl (by simp[Value.oneCell']) sizeOf88 bc (by rfl) (by rfl)) ?_;refine gy 10 ?_;refine cx results38 rfl rfl isAgg88 sizeOf88 aL (rfl) (L1:=[[],[]]++R) ae ?_;rw[Lt];exact⟨_,⟨none,none,rfl,⟨⟨rfl,rfl⟩,⟨rfl,rfl⟩⟩,rfl⟩,rfl⟩
    refine gc 5 ?_;refine y (aK hv rfl rfl underlying55 sizeOf5 (by omega) (by omega)) rfl ?_;refine y (au g hv ae rfl isAgg5 (by simp) (lL (by omega))) rfl ?_;rw[hx];refine y (aR rfl underlying5 underlying3) rfl ?_;rw[wr (by omega) (by omega)];refine gy 4 ?_;refine aS 14 (od [11,12] 14 0) ([sc b7 _ 88]++R) Tryz.mixed (by kernel_rfl) ae ?_
    have SG:oD R (qB v (g+1) (g+1+x.toNat) 1) (((k0::h0::r).drop (g+1)).take x.toNat):=by
      have:=hb.sl (lo:=g+1) (hi:=g+1+x.toNat) (by omega) (by omega)
      rwa[show g+1+x.toNat-(g+1)=x.toNat by omega]at this
    refine gh 5 ?_;rw[wr (by omega) (by omega),show(g:Int)+1=((g+1:Nat):Int)by omega];refine gh 2 ?_;rw[wr (by omega) (by omega)];refine gh 2 ?_;rw[wr (by omega) (by omega),show(g:Int)+1+((x.toNat:Nat):Int)=((g+1+x.toNat:Nat):Int)by omega];refine hr rfl (pt hv hb.cap rfl rfl rfl underlying55 sizeOf5 (by omega) (by omega) (by omega)) rfl ?_;refine hr rfl (jq SG.rd.bytes ae rfl underlying55 underlying9 underlying5) rfl ?_;refine ha rfl (aE rfl underlying86 sizeOf9 zeroValue9 rfl rfl rfl rfl ⟨⟨_,_,rfl,(by rfl),(by decide)⟩,trivial⟩ (by dsimp[bt,aX,aY,bS]<;>rfl)) rfl ?_;rintro v L' ⟨atV,rfl,rfl⟩;refine⟨ae,?_⟩;refine ha rfl (aO (s:=st) (xs:=cn ts) (m:=z) (k:=1) (us:=[str (((k0::h0::r).drop (g+1)).take x.toNat)]) (size:=1) rfl rfl (by repeat first|exact .z|apply Pk.s) underlying86 underlying86 (by intro q hq;cases hq) typeInfo9 rfl rfl rfl ?QB ?IT ?Iy ?GI) rfl ?_
    case QB=>exact k3
    case IT=>exact cz aL rfl rfl
    case Iy=>simp[Value.oneCell']
    case GI=>show(z+1)*17≤_;omega
    rintro v L' ⟨asL,rfl,WZ,rfl⟩;refine⟨ae,?_⟩;rw[zd]at WZ ⊢;refine gh 2 ?_;refine bA (an rfl rfl (by exact bN _ _) sizeOf86 bc rfl rfl) ?_;refine gy 6 ?_;rw[wr (by omega) (by omega)];refine gy 1 ?_;rw[wr (by omega) (by omega),show(g:Int)+(1+((x.toNat:Nat):Int))=((g+1+x.toNat:Nat):Int)by omega];rw[TS]at ry;have Ud:=ry.step (by omega) (by omega) (by omega);rw[List.drop_drop]at Ud;refine gy 7 ?_;rw[show IntKind.i64.wrap ((z:Int)+1)=((z+1:Nat):Int)by rw[wr (by omega) (by omega)];rfl];refine gy 3 ?_;exact Lm (z+1,asL,ts++[((k0::h0::r).drop (g+1)).take x.toNat],g+1+x.toNat) ⟨WZ,Ud,by dsimp only;omega⟩ (by dsimp only;omega) _ _ aq ae
   refine gc 5 ?_;exact aV aq ae (B2 ⟨z,st,ts,g⟩ ⟨uE,by dsimp only;omega⟩)
  clear Ej;refine gc 1 ?_;refine bO (A:=Nat × Sv × List Int × Nat) (fun x=>[(9,i64 x.1),(8,i64 x.2.2.2),(7,ptr b7),(6,i64 tx),(5,i64 nm),(4,ptr b4),(2,ptr b2),(0,v)]) (fun x=>[oV b7 k0.toNat x.2.1 x.1 none 0,aD x.2.1 2 (aW x.2.2.1),sc b4 [i64 0,fp,fp] 88,sc b2 [i64 0,fp,fp] 88]++R) (fun x=>bW x.2.1 x.1 1 (aW x.2.2.1)∧mU r nm x.1 x.2.2.1 ((k0::h0::r).drop x.2.2.2)∧x.2.2.2≤(k0::h0::r).length) (fun x=>nm-x.1) ((0,none,[],2)) ?_ aq ae ?_
  · exact⟨⟨rfl,rfl⟩,.zero r nm,by simp⟩
  rintro⟨k,sn,ns,p⟩ bJ kt cI;have cC:=bJ;obtain⟨qQ,tY,hp⟩:=bJ;dsimp only at qQ tY hp ⊢;have Wx:=tY.le;unfold oV;refine gc 7 ?_;refine cc rfl (fun Ol=>?_) (fun Ol=>?_)
  ·refine gc 7 ?_;refine bK (Vo (bs:=k0::h0::r) ?afX ?aag ?afU) call73 ?_
   case afX=>exact hv.mono ae
   case aag=>exact hl
   case afU=>exact hp
   obtain⟨nt,zC⟩: ∃nt,kV (k0::h0::r) p=nt:=⟨_,rfl⟩;rw[zC];have apG:=zC;unfold kV at apG;refine gy 15 ?_;refine cc rfl (fun Yr=>?_) (fun Yr=>?_)
   ·refine gc 1 ?_;have Lt:=iv (Bh (k:=k0) (h:=h0) (r:=r) LG (by rw[←T5];exact tY.bad (by omega) (Qv zC (by assumption))));refine y (ak rfl isAgg88 sizeOf88 aL (by rfl)) rfl ?_;refine bA (ai rfl rfl (by simp[Value.oneCell']) sizeOf88 bc (by rfl) (by rfl)) ?_;refine gy 10 ?_;refine cx results38 rfl rfl isAgg88 sizeOf88 aL (rfl) (L1:=[[],[]]++R) ae ?_;rw[Lt];exact⟨_,⟨none,none,rfl,⟨⟨rfl,rfl⟩,⟨rfl,rfl⟩⟩,rfl⟩,rfl⟩
   refine gc 3 ?_;obtain⟨q,hq,hq1,hq2,hq3,WC⟩:=Qw zC hp (by assumption);rw[hq1];refine gy 3 ?_;refine ya (aE rfl underlying57 sizeOf2 zeroValue2 rfl rfl rfl rfl ⟨⟨_,_,rfl,(by rfl),(by decide)⟩,trivial⟩ (by dsimp[bt,aX,aY,bS]<;>rfl)) rfl ?_;rintro v L' ⟨b65,rfl,rfl⟩;refine ya (aO (s:=sn) (xs:=aW ns) (m:=k) (k:=1) (us:=[i64 (An q.1)]) (size:=1) rfl rfl (by repeat first|exact .z|apply Pk.s) underlying57 underlying57 (by intro q hq;cases hq) typeInfo2 rfl rfl rfl ?ai0 ?acF ?abo ?XB) rfl ?_
   case ai0=>exact qQ
   case acF=>exact cz aL rfl rfl
   case abo=>simp[Value.oneCell']
   case XB=>show(k+1)*9≤_;omega
   rintro v L' ⟨s66,rfl,Mg,rfl⟩;rw[yd]at Mg ⊢;refine gy 1 ?_;refine bA (an rfl rfl (by exact bN _ _) sizeOf57 bc rfl rfl) ?_;refine gy 5 ?_;rw[hq2];have T3:=tY.step (by omega) hq;rw[←hq3]at T3;refine gy 6 ?_;rw[show IntKind.i64.wrap ((k:Int)+1)=((k+1:Nat):Int)by rw[wr (by omega) (by omega)];rfl];refine gy 3 ?_;exact cI (k+1,s66,ns++[An q.1],(k0::h0::r).length-q.2.length) ⟨Mg,T3,by dsimp only;omega⟩ (by dsimp only;omega) _ _ aq ae
  refine gc 5 ?_;exact aV aq ae (fQ ⟨k,sn,ns,p⟩ ⟨cC,by dsimp only;omega⟩)
 clear qN;refine gc 2 ?_;refine y (aK hv rfl rfl underlying55 sizeOf5 (by omega) (by omega)) rfl ?_;refine y (au 1 hv ae rfl isAgg5 rfl rfl) rfl ?_;refine gy 3 ?_;refine cc rfl (fun Ou=>?_) (fun Ou=>?_)
 ·refine gc 2 ?_;rw[show Value.int .i64 16=i64 ((16:Nat):Int)from rfl];refine gy 4 ?_;refine y (aK hv rfl rfl underlying55 sizeOf5 (by omega) (by omega)) rfl ?_;refine y (au 1 hv ae rfl isAgg5 rfl rfl) rfl ?_;refine y (aR rfl underlying5 underlying3) rfl ?_;rw[wr (by omega) (by omega)];refine gy 1 ?_;rw[wr (by omega) (by omega),show((h0.toNat:Nat):Int)- 240=((h0.toNat- 240:Nat):Int)by omega];refine gy 3 ?_;exact aV aq ae (zR (_,_) (⟨by dsimp only;unfold kX;rw[if_pos (by omega)],by dsimp only;unfold js;rw[if_pos (by omega)]⟩))
 refine gc 2 ?_;exact aV aq ae (zR (_,_) (⟨by dsimp only;unfold kX;rw[if_neg (by omega)],by dsimp only;unfold js;rw[if_neg (by omega)]⟩))
end W
end Go.Proofs
namespace Go.Sl
structure adK(m:aM):Prop where
 t0:0≤m.t0∧m.t0≤4611686018427387904
 t1:0≤m.t1∧m.t1≤4611686018427387904
 t2:0≤m.t2∧m.t2≤4611686018427387904
 t3:0≤m.t3∧m.t3≤4611686018427387904
 data:(m.data.length:Int)≤40
 row:(m.row.length:Int)≤10
 kind:1≤m.kind∧m.kind≤15
 ah:0≤m.ah∧m.ah≤4611686018427387904
 seq:0≤m.seq∧m.seq≤4611686018427387904
 n: -4611686018427387904≤m.n∧m.n≤4611686018427387904
 block: -1≤m.block∧m.block≤31
 eU: -1≤m.eU∧m.eU≤3
 e:0≤m.e∧m.e≤31
theorem yB{m:aM}:m.may=true↔adK m:=by
 unfold aM.may aI;simp only[Bool.and_eq_true,decide_eq_true_eq];constructor
 ·intro h;exact⟨by omega,by omega,by omega,by omega,by omega,by omega,by omega,by omega,by omega,by omega,by omega,by omega,by omega⟩
 ·intro h;have a:=h.t0;have b:=h.t1;have c:=h.t2;have d:=h.t3;have e:=h.data;have f:=h.row;have g:=h.kind;have i:=h.ah;have j:=h.seq;have k:=h.n;have l:=h.block;have n:=h.eU;have o:=h.e;omega
def yA(m:aM)(k:Nat):Prop:= ∀z,z<k→0≤m.tn z∧m.tn z≤4611686018427387904
theorem Ih(m:aM):yA m 0:=fun z h=>absurd h (by omega)
theorem Ig{m:aM}{k:Nat}(h:yA m k)(h2:0≤m.tn k∧m.tn k≤4611686018427387904):yA m (k+1):=fun z hz=>by
 by_cases e:z=k
 · subst e;exact h2
 · exact h z (by omega)
theorem Qj{m:aM}{k:Nat}(hk:k<4)(h2: ¬(0≤m.tn k∧m.tn k≤4611686018427387904)):m.may=false:=by
 refine Bool.eq_false_iff.2 fun h=>h2 ?_
 have p:=yB.1 h
 match k,hk with
 |0,_=>exact p.t0
 |1,_=>exact p.t1
 |2,_=>exact p.t2
 |3,_=>exact p.t3
theorem U4(m:aM){k:Nat}(hk:k<4):m.cells[0+7+k*1]? =some (.int .i64 (m.tn k)):=by
 match k,hk with
 |0,_=>rfl
 |1,_=>rfl
 |2,_=>rfl
 |3,_=>rfl
theorem U6{n lo hi:Int}(h:aI n lo hi=false): ¬(lo≤n∧n≤hi):=fun h2=>by rw[ca.2 h2]at h;cases h
theorem Mb{m:aM}(h:yA m 4):m.may=(decide (1≤m.kind∧m.kind≤15∧(0≤m.ah∧m.ah≤4611686018427387904)∧(0≤m.seq∧m.seq≤4611686018427387904)∧(-4611686018427387904≤m.n∧m.n≤4611686018427387904)∧ -1≤m.block∧m.block≤31∧ -1≤m.eU∧m.eU≤3∧0≤m.e∧m.e≤31∧(m.data.length:Int)≤40∧(m.row.length:Int)≤10)):=by
 have a:=h 0 (by decide);have b:=h 1 (by decide);have c:=h 2 (by decide);have d:=h 3 (by decide);rw[Bool.eq_iff_iff,yB,decide_eq_true_eq];constructor
 ·intro p;have e:=p.data;have f:=p.row;have g:=p.kind;have i:=p.ah;have j:=p.seq;have k:=p.n;have l:=p.block;have n:=p.eU;have o:=p.e;omega
 ·intro p;exact⟨a,b,c,d,by omega,by omega,by omega,by omega,by omega,by omega,by omega,by omega,by omega⟩
end Go.Sl