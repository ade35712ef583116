/- A part of the proof. -/
import Derived.Test.YtlignadmmopdmaaGreatUn
import Derived.Test.YtlignadmmopdmaaGreatT16
import Derived.Test.YtlignadmmopdmaaGreatGG
import Derived.Test.YtlignadmmopdmaaGreatGE
import Derived.Test.YtlignadmmopdmaaGreatNodO
set_option linter.unusedVariables false
set_option linter.unusedSimpArgs false
set_option linter.constructorNameAsVariable false
namespace Go.Proofs
open _root_.Go.Proofs.Tryz
open Go Go.Sl
namespace W
theorem rnumber [Env]{R:List Seg}{v:Value}{bs:Bytes}{at0:Nat}(hb:RdV R v bs.length (bytesV bs))(hl:bs.length≤100000)(ha:at0≤bs.length):
   Con Tryz.prog 73 [v,i64 at0] [] R (Is (.tuple #[i64 (numT bs at0).1,i64 (numT bs at0).2.1,.bool (numT bs at0).2.2]) []):=by
 refine con_enter func73 ntmps73 rfl rfl ?_;refine gc 20 ?_;refine cloopT (A:=Nat × Nat × Nat) (fun x=>[(9,i64 x.1),(8,.int .u64 ((2^(7*x.1):Nat):Int)),(7,.int .u64 (x.2.1:Nat)),(1,i64 x.2.2),(0,v)]) (fun x=>R) (fun x=>NumI (bs.drop at0) x.1 x.2.1 (bs.drop x.2.2)∧at0≤x.2.2∧x.2.2≤bs.length) (fun x=>10-x.1) ((0,0,at0)) ?_ zsub zge ?_
 · exact⟨.zero _,Nat.le_refl _,ha⟩
 rintro⟨k,u,p⟩ hI1 KL1 hL1;obtain⟨hi,hp0,hp1⟩:=hI1;dsimp only at hi hp0 hp1 ⊢;have hk9:=hi.k9;refine gc 6 ?_;refine cc rfl (fun h9=>?_) (fun h9=>?_)
 ·refine gc 8 ?_;refine y (ev_lenV rfl underlying55 (RdV.lenVal (by assumption))) rfl ?_;refine gy 3 ?_;refine cc rfl (fun h14=>?_) (fun h14=>?_)
  ·refine gc 1 ?_;have hnt:numT bs at0=(0,0,false):=by unfold numT;rw[NumI.none (k:=k) (u:=u) (by rw[List.drop_eq_nil_of_le (show bs.length≤p by omega)]at hi;exact hi)]
   refine gy 12 ?_;refine kretv3 results73 rfl rfl rfl (L1:=[]++R) zge ?_;rw[hnt];exact⟨_,⟨rfl,rfl⟩,rfl⟩
  refine gc 3 ?_;have hdc:=drop_cons (bs:=bs) (k:=p) (by omega);rw[hdc]at hi;obtain⟨x,hx⟩: ∃x:UInt8,bs[p]?.getD 0=x:=⟨_,rfl⟩;rw[hx]at hi hdc;have hxl:=x.toNat_lt;refine gy 2 ?_;refine y (ev_ixV hb rfl rfl underlying55 sizeOf5 (by omega) (by omega)) rfl ?_;refine y (ev_loadV p hb zge rfl isAgg5 (by simp) (bytesV_get (by omega))) rfl ?_;rw[hx];refine y (ev_conv rfl underlying5 underlying138) rfl ?_;rw[wu64,show((x.toNat:Nat):Int) % 18446744073709551616=((x.toNat:Nat):Int)by omega];refine gy 6 ?_;rw[show IntKind.i64.wrap ((p:Int)+1)=((p+1:Nat):Int)by rw[wr (by omega) (by omega)];rfl];refine gy 8 ?_;refine ysp 28 rfl (fun h30=>?_) (fun h30=>?_)
  ·refine gy 4 ?_;refine ysp 32 rfl (fun h35=>?_) (fun h35=>?_)
   ·refine gy 11 ?_;have hnt:numT bs at0=(0,0,false):=by unfold numT;rw[hi.bad (by omega)]
    refine gy 12 ?_;refine kretv3 results73 rfl rfl rfl (L1:=[]++R) zge ?_;rw[hnt];exact⟨_,⟨rfl,rfl⟩,rfl⟩
   refine gy 3 ?_;refine ysp 35 rfl (fun h43=>?_) (fun h43=>?_)
   ·refine gy 6 ?_;refine cc rfl (fun h48=>?_) (fun h48=>?_)
    ·refine gc 1 ?_;have hnt:numT bs at0=(0,0,false):=by unfold numT;rw[hi.bad (by omega)]
     refine gy 12 ?_;refine kretv3 results73 rfl rfl rfl (L1:=[]++R) zge ?_;rw[hnt];exact⟨_,⟨rfl,rfl⟩,rfl⟩
    refine gc 3 ?_;have hok: ¬((k=9∧1<x.toNat)∨(0<k∧x.toNat=0)):=by omega
    obtain⟨hf1,hf2⟩:=hi.fit hok;refine gy 2 ?_;refine y (ev_rem rfl rfl (by decide)) rfl ?_;rw[show((x.toNat:Nat):Int).tmod 128=((x.toNat % 128:Nat):Int)from rfl];refine gy 1 ?_;refine y (ev_mul rfl rfl) rfl ?_;refine gy 1 ?_;rw[fit64 hi hok];obtain⟨uu,huu⟩: ∃uu,u+x.toNat % 128*2^(7*k)=uu:=⟨_,rfl⟩;rw[huu]at hf2 ⊢;refine gy 5 ?_;refine y (ev_mul rfl rfl) rfl ?_;refine gy 8 ?_;refine cc rfl (fun h64=>?_) (fun h64=>?_)
    ·refine gc 2 ?_;have hlast:=hi.last hok (by omega);rw[huu]at hlast;have hnt:numT bs at0=(zag uu,((p+1:Nat):Int),true):=by unfold numT;rw[hlast];simp only[List.length_drop];rw[show bs.length-(bs.length-(p+1))=p+1 by omega]
     refine gy 1 ?_;refine y (ev_rem rfl rfl (by decide)) rfl ?_;rw[show((uu:Nat):Int).tmod 2=((uu % 2:Nat):Int)from rfl];refine gy 3 ?_;refine cc rfl (fun h68=>?_) (fun h68=>?_)
     ·have hzz:=zag_neg (u:=uu) (by omega);refine gc 2 ?_;refine y (ev_quo rfl rfl (by decide)) rfl ?_;rw[wu64,show((uu:Nat):Int).tdiv 2=((uu / 2:Nat):Int)from rfl,show((uu / 2:Nat):Int) % 18446744073709551616=((uu / 2:Nat):Int)by omega];refine y (ev_conv rfl underlying138 underlying2) rfl ?_;rw[wr (by omega) (by omega)];refine y (ev_neg rfl) rfl ?_;rw[wr (by omega) (by omega)];refine gy 1 ?_;rw[wr (by omega) (by omega),←hzz];refine gy 13 ?_;refine kretv3 results73 rfl rfl rfl (L1:=[]++R) zge ?_;rw[hnt];exact⟨_,⟨rfl,rfl⟩,rfl⟩
     have hzz:=zag_pos (u:=uu) (by omega);refine gc 4 ?_;refine y (ev_quo rfl rfl (by decide)) rfl ?_;rw[wu64,show((uu:Nat):Int).tdiv 2=((uu / 2:Nat):Int)from rfl,show((uu / 2:Nat):Int) % 18446744073709551616=((uu / 2:Nat):Int)by omega];refine y (ev_conv rfl underlying138 underlying2) rfl ?_;rw[wr (by omega) (by omega),←hzz];refine gy 12 ?_;refine kretv3 results73 rfl rfl rfl (L1:=[]++R) zge ?_;rw[hnt];exact⟨_,⟨rfl,rfl⟩,rfl⟩
    have hk8:k≤8:=by omega
    have hnx:=hi.next hok (by omega);rw[huu]at hnx;rw[part_next hk8];refine gc 6 ?_;rw[show IntKind.i64.wrap ((k:Int)+1)=((k+1:Nat):Int)by rw[wr (by omega) (by omega)];rfl];refine gy 3 ?_;exact hL1 (k+1,uu,p+1) ⟨hnx,by dsimp only;omega,by dsimp only;omega⟩ (by dsimp only;omega) _ _ zsub zge
   refine gy 10 ?_;have hok: ¬((k=9∧1<x.toNat)∨(0<k∧x.toNat=0)):=by omega
   obtain⟨hf1,hf2⟩:=hi.fit hok;refine gy 2 ?_;refine y (ev_rem rfl rfl (by decide)) rfl ?_;rw[show((x.toNat:Nat):Int).tmod 128=((x.toNat % 128:Nat):Int)from rfl];refine gy 1 ?_;refine y (ev_mul rfl rfl) rfl ?_;refine gy 1 ?_;rw[fit64 hi hok];obtain⟨uu,huu⟩: ∃uu,u+x.toNat % 128*2^(7*k)=uu:=⟨_,rfl⟩;rw[huu]at hf2 ⊢;refine gy 5 ?_;refine y (ev_mul rfl rfl) rfl ?_;refine gy 8 ?_;refine cc rfl (fun h102=>?_) (fun h102=>?_)
   ·refine gc 2 ?_;have hlast:=hi.last hok (by omega);rw[huu]at hlast;have hnt:numT bs at0=(zag uu,((p+1:Nat):Int),true):=by unfold numT;rw[hlast];simp only[List.length_drop];rw[show bs.length-(bs.length-(p+1))=p+1 by omega]
    refine gy 1 ?_;refine y (ev_rem rfl rfl (by decide)) rfl ?_;rw[show((uu:Nat):Int).tmod 2=((uu % 2:Nat):Int)from rfl];refine gy 3 ?_;refine cc rfl (fun h106=>?_) (fun h106=>?_)
    ·have hzz:=zag_neg (u:=uu) (by omega);refine gc 2 ?_;refine y (ev_quo rfl rfl (by decide)) rfl ?_;rw[wu64,show((uu:Nat):Int).tdiv 2=((uu / 2:Nat):Int)from rfl,show((uu / 2:Nat):Int) % 18446744073709551616=((uu / 2:Nat):Int)by omega];refine y (ev_conv rfl underlying138 underlying2) rfl ?_;rw[wr (by omega) (by omega)];refine y (ev_neg rfl) rfl ?_;rw[wr (by omega) (by omega)];refine gy 1 ?_;rw[wr (by omega) (by omega),←hzz];refine gy 13 ?_;exfalso;omega
    have hzz:=zag_pos (u:=uu) (by omega);refine gc 4 ?_;refine y (ev_quo rfl rfl (by decide)) rfl ?_;rw[wu64,show((uu:Nat):Int).tdiv 2=((uu / 2:Nat):Int)from rfl,show((uu / 2:Nat):Int) % 18446744073709551616=((uu / 2:Nat):Int)by omega];refine y (ev_conv rfl underlying138 underlying2) rfl ?_;rw[wr (by omega) (by omega),←hzz];refine gy 12 ?_;exfalso;omega
   have hk8:k≤8:=by omega
   have hnx:=hi.next hok (by omega);rw[huu]at hnx;rw[part_next hk8];refine gc 6 ?_;rw[show IntKind.i64.wrap ((k:Int)+1)=((k+1:Nat):Int)by rw[wr (by omega) (by omega)];rfl];refine gy 3 ?_;exact hL1 (k+1,uu,p+1) ⟨hnx,by dsimp only;omega,by dsimp only;omega⟩ (by dsimp only;omega) _ _ zsub zge
  refine gy 7 ?_;refine ysp 35 rfl (fun h131=>?_) (fun h131=>?_)
  ·refine gy 6 ?_;refine cc rfl (fun h136=>?_) (fun h136=>?_)
   ·refine gc 1 ?_;have hnt:numT bs at0=(0,0,false):=by unfold numT;rw[hi.bad (by omega)]
    refine gy 12 ?_;refine kretv3 results73 rfl rfl rfl (L1:=[]++R) zge ?_;rw[hnt];exact⟨_,⟨rfl,rfl⟩,rfl⟩
   refine gc 3 ?_;have hok: ¬((k=9∧1<x.toNat)∨(0<k∧x.toNat=0)):=by omega
   obtain⟨hf1,hf2⟩:=hi.fit hok;refine gy 2 ?_;refine y (ev_rem rfl rfl (by decide)) rfl ?_;rw[show((x.toNat:Nat):Int).tmod 128=((x.toNat % 128:Nat):Int)from rfl];refine gy 1 ?_;refine y (ev_mul rfl rfl) rfl ?_;refine gy 1 ?_;rw[fit64 hi hok];obtain⟨uu,huu⟩: ∃uu,u+x.toNat % 128*2^(7*k)=uu:=⟨_,rfl⟩;rw[huu]at hf2 ⊢;refine gy 5 ?_;refine y (ev_mul rfl rfl) rfl ?_;refine gy 8 ?_;refine cc rfl (fun h152=>?_) (fun h152=>?_)
   ·refine gc 2 ?_;have hlast:=hi.last hok (by omega);rw[huu]at hlast;have hnt:numT bs at0=(zag uu,((p+1:Nat):Int),true):=by unfold numT;rw[hlast];simp only[List.length_drop];rw[show bs.length-(bs.length-(p+1))=p+1 by omega]
    refine gy 1 ?_;refine y (ev_rem rfl rfl (by decide)) rfl ?_;rw[show((uu:Nat):Int).tmod 2=((uu % 2:Nat):Int)from rfl];refine gy 3 ?_;refine cc rfl (fun h156=>?_) (fun h156=>?_)
    ·have hzz:=zag_neg (u:=uu) (by omega);refine gc 2 ?_;refine y (ev_quo rfl rfl (by decide)) rfl ?_;rw[wu64,show((uu:Nat):Int).tdiv 2=((uu / 2:Nat):Int)from rfl,show((uu / 2:Nat):Int) % 18446744073709551616=((uu / 2:Nat):Int)by omega];refine y (ev_conv rfl underlying138 underlying2) rfl ?_;rw[wr (by omega) (by omega)];refine y (ev_neg rfl) rfl ?_;rw[wr (by omega) (by omega)];refine gy 1 ?_;rw[wr (by omega) (by omega),←hzz];refine gy 13 ?_;refine kretv3 results73 rfl rfl rfl (L1:=[]++R) zge ?_;rw[hnt];exact⟨_,⟨rfl,rfl⟩,rfl⟩
    have hzz:=zag_pos (u:=uu) (by omega);refine gc 4 ?_;refine y (ev_quo rfl rfl (by decide)) rfl ?_;rw[wu64,show((uu:Nat):Int).tdiv 2=((uu / 2:Nat):Int)from rfl,show((uu / 2:Nat):Int) % 18446744073709551616=((uu / 2:Nat):Int)by omega];refine y (ev_conv rfl underlying138 underlying2) rfl ?_;rw[wr (by omega) (by omega),←hzz];refine gy 12 ?_;refine kretv3 results73 rfl rfl rfl (L1:=[]++R) zge ?_;rw[hnt];exact⟨_,⟨rfl,rfl⟩,rfl⟩
   have hk8:k≤8:=by omega
   have hnx:=hi.next hok (by omega);rw[huu]at hnx;rw[part_next hk8];refine gc 6 ?_;rw[show IntKind.i64.wrap ((k:Int)+1)=((k+1:Nat):Int)by rw[wr (by omega) (by omega)];rfl];refine gy 3 ?_;exact hL1 (k+1,uu,p+1) ⟨hnx,by dsimp only;omega,by dsimp only;omega⟩ (by dsimp only;omega) _ _ zsub zge
  refine gy 10 ?_;have hok: ¬((k=9∧1<x.toNat)∨(0<k∧x.toNat=0)):=by omega
  obtain⟨hf1,hf2⟩:=hi.fit hok;refine gy 2 ?_;refine y (ev_rem rfl rfl (by decide)) rfl ?_;rw[show((x.toNat:Nat):Int).tmod 128=((x.toNat % 128:Nat):Int)from rfl];refine gy 1 ?_;refine y (ev_mul rfl rfl) rfl ?_;refine gy 1 ?_;rw[fit64 hi hok];obtain⟨uu,huu⟩: ∃uu,u+x.toNat % 128*2^(7*k)=uu:=⟨_,rfl⟩;rw[huu]at hf2 ⊢;refine gy 5 ?_;refine y (ev_mul rfl rfl) rfl ?_;refine gy 8 ?_;refine cc rfl (fun h190=>?_) (fun h190=>?_)
  ·refine gc 2 ?_;have hlast:=hi.last hok (by omega);rw[huu]at hlast;have hnt:numT bs at0=(zag uu,((p+1:Nat):Int),true):=by unfold numT;rw[hlast];simp only[List.length_drop];rw[show bs.length-(bs.length-(p+1))=p+1 by omega]
   refine gy 1 ?_;refine y (ev_rem rfl rfl (by decide)) rfl ?_;rw[show((uu:Nat):Int).tmod 2=((uu % 2:Nat):Int)from rfl];refine gy 3 ?_;refine cc rfl (fun h194=>?_) (fun h194=>?_)
   ·have hzz:=zag_neg (u:=uu) (by omega);refine gc 2 ?_;refine y (ev_quo rfl rfl (by decide)) rfl ?_;rw[wu64,show((uu:Nat):Int).tdiv 2=((uu / 2:Nat):Int)from rfl,show((uu / 2:Nat):Int) % 18446744073709551616=((uu / 2:Nat):Int)by omega];refine y (ev_conv rfl underlying138 underlying2) rfl ?_;rw[wr (by omega) (by omega)];refine y (ev_neg rfl) rfl ?_;rw[wr (by omega) (by omega)];refine gy 1 ?_;rw[wr (by omega) (by omega),←hzz];refine gy 13 ?_;refine kretv3 results73 rfl rfl rfl (L1:=[]++R) zge ?_;rw[hnt];exact⟨_,⟨rfl,rfl⟩,rfl⟩
   have hzz:=zag_pos (u:=uu) (by omega);refine gc 4 ?_;refine y (ev_quo rfl rfl (by decide)) rfl ?_;rw[wu64,show((uu:Nat):Int).tdiv 2=((uu / 2:Nat):Int)from rfl,show((uu / 2:Nat):Int) % 18446744073709551616=((uu / 2:Nat):Int)by omega];refine y (ev_conv rfl underlying138 underlying2) rfl ?_;rw[wr (by omega) (by omega),←hzz];refine gy 12 ?_;refine kretv3 results73 rfl rfl rfl (L1:=[]++R) zge ?_;rw[hnt];exact⟨_,⟨rfl,rfl⟩,rfl⟩
  have hk8:k≤8:=by omega
  have hnx:=hi.next hok (by omega);rw[huu]at hnx;rw[part_next hk8];refine gc 6 ?_;rw[show IntKind.i64.wrap ((k:Int)+1)=((k+1:Nat):Int)by rw[wr (by omega) (by omega)];rfl];refine gy 3 ?_;exact hL1 (k+1,uu,p+1) ⟨hnx,by dsimp only;omega,by dsimp only;omega⟩ (by dsimp only;omega) _ _ zsub zge
 exfalso;omega
theorem rDecode [Env]{R:List Seg}{v:Value}{bs:Bytes}(hb:RdY R v bs)(hl:bs.length≤100000):
   Con Tryz.prog 38 [v] [] R (fun u L'=> ∃sn st,u= .tuple #[recV (decM bs).1 sn st,i64 (decM bs).2]∧RecOk (decM bs).1 sn st∧L'=recSegs (decM bs).1 sn st):=by
 have hv:=hb.rd;refine con_enter func38 ntmps38 rfl rfl ?_;refine gc 1 ?_;refine ya (ac_alloc zeroValue88 rfl) rfl ?_;rintro v L' ⟨b2,rfl,rfl⟩;refine gy 4 ?_;refine y (ev_be rfl) rfl ?_;refine ya (ac_alloc zeroValue88 rfl) rfl ?_;rintro v L' ⟨b4,rfl,rfl⟩;refine yst (ac_storeAll rfl rfl (by simp[Value.oneCell']) sizeOf88 zrp (by rfl) (by rfl)) ?_;refine gy 5 ?_;refine y (ev_lenV rfl underlying55 (RdV.lenVal (by assumption))) rfl ?_;refine gy 3 ?_;refine cc rfl (fun h9=>?_) (fun h9=>?_)
 ·refine gc 1 ?_;have hdm:=decM_none (recD_short (b:=bs) (by omega));refine y (ev_loadAll rfl isAgg88 sizeOf88 zin (by rfl)) rfl ?_;refine yst (ac_storeAll rfl rfl (by simp[Value.oneCell']) sizeOf88 zrp (by rfl) (by rfl)) ?_;refine gy 5 ?_;refine kretct results38 rfl rfl isAgg88 sizeOf88 zin (rfl) (L1:=[[],[]]++R) zge ?_;rw[hdm];exact⟨_,⟨none,none,rfl,⟨⟨rfl,rfl⟩,⟨rfl,rfl⟩⟩,rfl⟩,rfl⟩
 refine gc 3 ?_;obtain⟨k0,h0,r,rfl⟩: ∃k h r,bs=k::h::r:=by match bs,(show 2≤bs.length by omega)with|k::h::r,_=>exact⟨k,h,r,rfl⟩
 have hkl:=k0.toNat_lt;have hhl:=h0.toNat_lt;have hlr:(k0::h0::r).length=r.length+2:=rfl;have hdr2:(k0::h0::r).drop 2=r:=rfl;refine gy 1 ?_;refine y (ev_ixV hv rfl rfl underlying55 sizeOf5 (by omega) (by omega)) rfl ?_;refine y (ev_loadV 1 hv zge rfl isAgg5 rfl rfl) rfl ?_;refine y (ev_conv rfl underlying5 underlying3) rfl ?_;rw[wr (by omega) (by omega)];refine y (ev_rem rfl rfl (by decide)) rfl ?_;rw[show((h0.toNat:Nat):Int).tmod 16=((h0.toNat % 16:Nat):Int)from rfl];refine gy 5 ?_;refine y (ev_ixV hv rfl rfl underlying55 sizeOf5 (by omega) (by omega)) rfl ?_;refine y (ev_loadV 1 hv zge rfl isAgg5 rfl rfl) rfl ?_;refine y (ev_conv rfl underlying5 underlying3) rfl ?_;rw[wr (by omega) (by omega)];refine y (ev_quo rfl rfl (by decide)) rfl ?_;rw[show((h0.toNat:Nat):Int).tdiv 16=((h0.toNat / 16:Nat):Int)from rfl,wr (by omega) (by omega)];refine gy 3 ?_;refine cseqT ?_;intro K8 hK8
 have hJr9: ∀x:Nat × Nat,(x.1=headN h0.toNat∧x.2=headT h0.toNat)→Sk 129 K8 ([(6,i64 x.2),(5,i64 x.1),(4,ptr b4),(2,ptr b2),(0,v)]) ([sc b4 [i64 0,nilS,nilS] 88,sc b2 [i64 0,nilS,nilS] 88]++R):=by
  rintro⟨nm,tx⟩ hIr9;refine hK8 _ _ ?_;obtain⟨hnm,htx⟩:=hIr9;dsimp only at hnm htx ⊢;have hn16:=headN_le h0;rw[←hnm]at hn16;refine gc 6 ?_;refine cc rfl (fun h27=>?_) (fun h27=>?_)
  ·refine gc 1 ?_;have hdm:=decM_none (recD_many (k:=k0) (h:=h0) (r:=r) (by omega));refine y (ev_loadAll rfl isAgg88 sizeOf88 zin (by rfl)) rfl ?_;refine yst (ac_storeAll rfl rfl (by simp[Value.oneCell']) sizeOf88 zrp (by rfl) (by rfl)) ?_;refine gy 5 ?_;refine kretct results38 rfl rfl isAgg88 sizeOf88 zin (rfl) (L1:=[[],[]]++R) zge ?_;rw[hdm];exact⟨_,⟨none,none,rfl,⟨⟨rfl,rfl⟩,⟨rfl,rfl⟩⟩,rfl⟩,rfl⟩
  have ht4: ¬4<headT h0.toNat:=by omega
  refine gc 4 ?_;refine y (ev_ixV hv rfl rfl underlying55 sizeOf5 (by omega) (by omega)) rfl ?_;refine y (ev_loadV 0 hv zge rfl isAgg5 rfl rfl) rfl ?_;refine y (ev_conv rfl underlying5 underlying3) rfl ?_;rw[wr (by omega) (by omega)];refine y (ev_be rfl) rfl ?_;refine ya (ac_alloc zeroValue88 rfl) rfl ?_;rintro v L' ⟨b7,rfl,rfl⟩;refine yst (ac_storeAll rfl rfl (by simp[Value.oneCell']) sizeOf88 zrp (by rfl) (by rfl)) ?_;refine gy 6 ?_;refine cseqT ?_;intro K14 hK14;refine gc 4 ?_
  have hJ1: ∀x:Nat × Sv × List Int × Nat,((svOk x.2.1 x.1 1 (intsV x.2.2.1)∧NumsI r nm x.1 x.2.2.1 ((k0::h0::r).drop x.2.2.2)∧x.2.2.2≤(k0::h0::r).length)∧(x.1=nm))→Sk 129 K14 ([(9,i64 x.1),(8,i64 x.2.2.2),(7,ptr b7),(6,i64 tx),(5,i64 nm),(4,ptr b4),(2,ptr b2),(0,v)]) ([recP b7 k0.toNat x.2.1 x.1 none 0,svSeg x.2.1 2 (intsV x.2.2.1),sc b4 [i64 0,nilS,nilS] 88,sc b2 [i64 0,nilS,nilS] 88]++R):=by
   rintro⟨k,sn,ns,p⟩ ⟨hI1,hX1⟩;refine hK14 _ _ ?_;obtain⟨okn,hni,hp⟩:=hI1;dsimp only at okn hni hp ⊢;have hkn:=hni.le;unfold recP;dsimp only at hX1;subst hX1;have hnd:=hni.done;rw[hnm]at hnd;refine cseqT ?_;intro K16 hK16;refine gc 4 ?_
   have hJ2: ∀x:Nat × Sv × List Bytes × Nat,((svOk x.2.1 x.1 1 (strsV x.2.2.1)∧TextsI ((k0::h0::r).drop p) tx x.1 x.2.2.1 ((k0::h0::r).drop x.2.2.2)∧x.2.2.2≤(k0::h0::r).length)∧(x.1=tx))→Sk 129 K16 ([(13,i64 x.1),(8,i64 x.2.2.2),(7,ptr b7),(6,i64 tx),(4,ptr b4),(2,ptr b2),(0,v)]) ([recP b7 k0.toNat sn k x.2.1 x.1,svSeg x.2.1 9 (strsV x.2.2.1),svSeg sn 2 (intsV ns),sc b4 [i64 0,nilS,nilS] 88,sc b2 [i64 0,nilS,nilS] 88]++R):=by
    rintro⟨z,st,ts,g⟩ ⟨hI2,hX2⟩;refine hK16 _ _ ?_;obtain⟨okt,hti,hg⟩:=hI2;dsimp only at okt hti hg ⊢;have hkt:=hti.le;unfold recP;dsimp only at hX2;subst hX2;have htd:=hti.done;rw[htx]at htd;refine gc 4 ?_;refine y (ev_lenV rfl underlying55 (RdV.lenVal (by assumption))) rfl ?_;refine gy 3 ?_;refine cc rfl (fun h45=>?_) (fun h45=>?_)
    ·refine gc 1 ?_;have hdm:=decM_none (recD_more (k:=k0) (h:=h0) (r:=r) ht4 hnd htd (by intro e;have:=congrArg List.length e;simp only[List.length_drop,List.length_nil]at this;omega));refine y (ev_loadAll rfl isAgg88 sizeOf88 zin (by rfl)) rfl ?_;refine yst (ac_storeAll rfl rfl (by simp[Value.oneCell']) sizeOf88 zrp (by rfl) (by rfl)) ?_;refine gy 5 ?_;refine kretct results38 rfl rfl isAgg88 sizeOf88 zin (rfl) (L1:=[[],[]]++R) zge ?_;rw[hdm];exact⟨_,⟨none,none,rfl,⟨⟨rfl,rfl⟩,⟨rfl,rfl⟩⟩,rfl⟩,rfl⟩
    refine gc 3 ?_;have hge:(k0::h0::r).drop g=[]:=List.drop_eq_nil_of_le (by omega);rw[hge]at htd;have hds:=decM_some (recD_some (k:=k0) ht4 hnd htd);refine y (ev_loadAll rfl isAgg88 sizeOf88 zin (by rfl)) rfl ?_;refine yst (ac_storeAll rfl rfl (by(simp only[List.forall_mem_cons,List.not_mem_nil,false_implies,implies_true,svVal_one,and_true,true_and,and_self];first|done|simp[Value.oneCell'])) sizeOf88 zrp (by rfl) (by rfl)) ?_;refine gy 4 ?_;refine kretct results38 rfl rfl isAgg88 sizeOf88 zin (rfl) (L1:=[svSeg sn 2 (intsV ns),svSeg st 9 (strsV ts)]++R) zge ?_;rw[hds];exact⟨_,⟨sn,st,by unfold recV;rw[hni.len,hti.len],⟨by rw[hni.len];exact okn,by rw[hti.len];exact okt⟩,rfl⟩,rfl⟩
   clear hK16;refine gc 1 ?_;refine cloopT (A:=Nat × Sv × List Bytes × Nat) (fun x=>[(13,i64 x.1),(8,i64 x.2.2.2),(7,ptr b7),(6,i64 tx),(4,ptr b4),(2,ptr b2),(0,v)]) (fun x=>[recP b7 k0.toNat sn k x.2.1 x.1,svSeg x.2.1 9 (strsV x.2.2.1),svSeg sn 2 (intsV ns),sc b4 [i64 0,nilS,nilS] 88,sc b2 [i64 0,nilS,nilS] 88]++R) (fun x=>svOk x.2.1 x.1 1 (strsV x.2.2.1)∧TextsI ((k0::h0::r).drop p) tx x.1 x.2.2.1 ((k0::h0::r).drop x.2.2.2)∧x.2.2.2≤(k0::h0::r).length) (fun x=>tx-x.1) ((0,none,[],p)) ?_ zsub zge ?_
   · exact⟨⟨rfl,rfl⟩,.zero _ tx,hp⟩
   rintro⟨z,st,ts,g⟩ hI2 KL2 hL2;have hI2o:=hI2;obtain⟨okt,hti,hg⟩:=hI2;dsimp only at okt hti hg ⊢;have hkt:=hti.le;unfold recP;refine gc 7 ?_;refine cc rfl (fun h55=>?_) (fun h55=>?_)
   ·refine gc 8 ?_;refine y (ev_lenV rfl underlying55 (RdV.lenVal (by assumption))) rfl ?_;refine gy 2 ?_;refine ysp 78 rfl (fun h61=>?_) (fun h61=>?_)
    ·refine gy 24 ?_;have hdm:=decM_none (recD_texts (k:=k0) (h:=h0) (r:=r) ht4 hnd (by rw[←htx];(rw[List.drop_eq_nil_of_le (show(k0::h0::r).length≤g by omega)]at hti;exact hti.bad0 (by omega))));refine y (ev_loadAll rfl isAgg88 sizeOf88 zin (by rfl)) rfl ?_;refine yst (ac_storeAll rfl rfl (by simp[Value.oneCell']) sizeOf88 zrp (by rfl) (by rfl)) ?_;refine gy 10 ?_;refine kretct results38 rfl rfl isAgg88 sizeOf88 zin (rfl) (L1:=[[],[]]++R) zge ?_;rw[hdm];exact⟨_,⟨none,none,rfl,⟨⟨rfl,rfl⟩,⟨rfl,rfl⟩⟩,rfl⟩,rfl⟩
    have hdc:=drop_cons (bs:=k0::h0::r) (k:=g) (by omega);obtain⟨x,hx⟩: ∃x:UInt8,(k0::h0::r)[g]?.getD 0=x:=⟨_,rfl⟩;rw[hx]at hdc;have hxl:=x.toNat_lt;have hdl:((k0::h0::r).drop (g+1)).length=(k0::h0::r).length-(g+1):=List.length_drop;refine gy 2 ?_;refine ygo ?_;refine y (ev_ixV hv rfl rfl underlying55 sizeOf5 (by omega) (by omega)) rfl ?_;refine ygo ?_;refine y (ev_loadV g hv zge rfl isAgg5 (by simp) (bytesV_get (by omega))) rfl ?_;rw[hx];refine ygo ?_;refine y (ev_conv rfl underlying5 underlying3) rfl ?_;rw[wr (by omega) (by omega)];refine gy 3 ?_;refine ysp 86 rfl (fun h76=>?_) (fun h76=>?_)
    ·refine gy 16 ?_;have hdm:=decM_none (recD_texts (k:=k0) (h:=h0) (r:=r) ht4 hnd (by rw[←htx];(rw[hdc]at hti;exact hti.bad (by omega) (by omega))));refine y (ev_loadAll rfl isAgg88 sizeOf88 zin (by rfl)) rfl ?_;refine yst (ac_storeAll rfl rfl (by simp[Value.oneCell']) sizeOf88 zrp (by rfl) (by rfl)) ?_;refine gy 10 ?_;refine kretct results38 rfl rfl isAgg88 sizeOf88 zin (rfl) (L1:=[[],[]]++R) zge ?_;rw[hdm];exact⟨_,⟨none,none,rfl,⟨⟨rfl,rfl⟩,⟨rfl,rfl⟩⟩,rfl⟩,rfl⟩
    refine gy 2 ?_;rw[wr (by omega) (by omega)];refine gy 2 ?_;refine ygo ?_;refine y (ev_ixV hv rfl rfl underlying55 sizeOf5 (by omega) (by omega)) rfl ?_;refine ygo ?_;refine y (ev_loadV g hv zge rfl isAgg5 (by simp) (bytesV_get (by omega))) rfl ?_;rw[hx];refine ygo ?_;refine y (ev_conv rfl underlying5 underlying3) rfl ?_;rw[wr (by omega) (by omega)];refine gy 1 ?_;rw[wr (by omega) (by omega)];refine gy 1 ?_;refine ygo ?_;refine y (ev_lenV rfl underlying55 (RdV.lenVal (by assumption))) rfl ?_;refine gy 4 ?_;refine cc rfl (fun h93=>?_) (fun h93=>?_)
    ·refine gc 1 ?_;have hdm:=decM_none (recD_texts (k:=k0) (h:=h0) (r:=r) ht4 hnd (by rw[←htx];(rw[hdc]at hti;exact hti.bad (by omega) (by omega))));refine y (ev_loadAll rfl isAgg88 sizeOf88 zin (by rfl)) rfl ?_;refine yst (ac_storeAll rfl rfl (by simp[Value.oneCell']) sizeOf88 zrp (by rfl) (by rfl)) ?_;refine gy 10 ?_;refine kretct results38 rfl rfl isAgg88 sizeOf88 zin (rfl) (L1:=[[],[]]++R) zge ?_;rw[hdm];exact⟨_,⟨none,none,rfl,⟨⟨rfl,rfl⟩,⟨rfl,rfl⟩⟩,rfl⟩,rfl⟩
    refine gc 5 ?_;refine y (ev_ixV hv rfl rfl underlying55 sizeOf5 (by omega) (by omega)) rfl ?_;refine y (ev_loadV g hv zge rfl isAgg5 (by simp) (bytesV_get (by omega))) rfl ?_;rw[hx];refine y (ev_conv rfl underlying5 underlying3) rfl ?_;rw[wr (by omega) (by omega)];refine gy 4 ?_;refine cdraw 14 (od [11,12] 14 0) ([sc b7 _ 88]++R) Tryz.mixed (by kernel_rfl) zge ?_
    have hsl:RdY R (vSl v (g+1) (g+1+x.toNat) 1) (((k0::h0::r).drop (g+1)).take x.toNat):=by
      have:=hb.sl (lo:=g+1) (hi:=g+1+x.toNat) (by omega) (by omega)
      rwa[show g+1+x.toNat-(g+1)=x.toNat by omega]at this
    refine gh 5 ?_;rw[wr (by omega) (by omega),show(g:Int)+1=((g+1:Nat):Int)by omega];refine gh 2 ?_;rw[wr (by omega) (by omega)];refine gh 2 ?_;rw[wr (by omega) (by omega),show(g:Int)+1+((x.toNat:Nat):Int)=((g+1+x.toNat:Nat):Int)by omega];refine hr rfl (ev_slLHV hv hb.cap rfl rfl rfl underlying55 sizeOf5 (by omega) (by omega) (by omega)) rfl ?_;refine hr rfl (ev_toStrB hsl.rd.bytes zge rfl underlying55 underlying9 underlying5) rfl ?_;refine ha rfl (ac_bsliceR rfl underlying86 sizeOf9 zeroValue9 rfl rfl rfl rfl ⟨⟨_,_,rfl,(by rfl),(by decide)⟩,trivial⟩ (by dsimp[fillL,splice,vcells,reps]<;>rfl)) rfl ?_;rintro v L' ⟨b116,rfl,rfl⟩;refine⟨zge,?_⟩;refine ha rfl (ac_append (s:=st) (xs:=strsV ts) (m:=z) (k:=1) (us:=[str (((k0::h0::r).drop (g+1)).take x.toNat)]) (size:=1) rfl rfl (by repeat first|exact .z|apply Pk.s) underlying86 underlying86 (by intro q hq;cases hq) typeInfo9 rfl rfl rfl ?ok115 ?src115 ?one115 ?big115) rfl ?_
    case ok115=>exact okt
    case src115=>exact src_at zin rfl rfl
    case one115=>simp[Value.oneCell']
    case big115=>show(z+1)*17≤_;omega
    rintro v L' ⟨s117,rfl,ok117,rfl⟩;refine⟨zge,?_⟩;rw[strsV_snoc]at ok117 ⊢;refine gh 2 ?_;refine yst (ac_store rfl rfl (by exact svVal_one _ _) sizeOf86 zrp rfl rfl) ?_;refine gy 6 ?_;rw[wr (by omega) (by omega)];refine gy 1 ?_;rw[wr (by omega) (by omega),show(g:Int)+(1+((x.toNat:Nat):Int))=((g+1+x.toNat:Nat):Int)by omega];rw[hdc]at hti;have hti2:=hti.step (by omega) (by omega) (by omega);rw[List.drop_drop]at hti2;refine gy 7 ?_;rw[show IntKind.i64.wrap ((z:Int)+1)=((z+1:Nat):Int)by rw[wr (by omega) (by omega)];rfl];refine gy 3 ?_;exact hL2 (z+1,s117,ts++[((k0::h0::r).drop (g+1)).take x.toNat],g+1+x.toNat) ⟨ok117,hti2,by dsimp only;omega⟩ (by dsimp only;omega) _ _ zsub zge
   refine gc 5 ?_;exact ksub zsub zge (hJ2 ⟨z,st,ts,g⟩ ⟨hI2o,by dsimp only;omega⟩)
  clear hK14;refine gc 1 ?_;refine cloopT (A:=Nat × Sv × List Int × Nat) (fun x=>[(9,i64 x.1),(8,i64 x.2.2.2),(7,ptr b7),(6,i64 tx),(5,i64 nm),(4,ptr b4),(2,ptr b2),(0,v)]) (fun x=>[recP b7 k0.toNat x.2.1 x.1 none 0,svSeg x.2.1 2 (intsV x.2.2.1),sc b4 [i64 0,nilS,nilS] 88,sc b2 [i64 0,nilS,nilS] 88]++R) (fun x=>svOk x.2.1 x.1 1 (intsV x.2.2.1)∧NumsI r nm x.1 x.2.2.1 ((k0::h0::r).drop x.2.2.2)∧x.2.2.2≤(k0::h0::r).length) (fun x=>nm-x.1) ((0,none,[],2)) ?_ zsub zge ?_
  · exact⟨⟨rfl,rfl⟩,.zero r nm,by simp⟩
  rintro⟨k,sn,ns,p⟩ hI1 KL1 hL1;have hI1o:=hI1;obtain⟨okn,hni,hp⟩:=hI1;dsimp only at okn hni hp ⊢;have hkn:=hni.le;unfold recP;refine gc 7 ?_;refine cc rfl (fun h129=>?_) (fun h129=>?_)
  ·refine gc 7 ?_;refine yci (rnumber (bs:=k0::h0::r) ?hb132 ?len132 ?ha132) call73 ?_
   case hb132=>exact hv.mono zge
   case len132=>exact hl
   case ha132=>exact hp
   obtain⟨nt,hnt⟩: ∃nt,numT (k0::h0::r) p=nt:=⟨_,rfl⟩;rw[hnt];have hnt2:=hnt;unfold numT at hnt2;refine gy 15 ?_;refine cc rfl (fun h142=>?_) (fun h142=>?_)
   ·refine gc 1 ?_;have hdm:=decM_none (recD_nums (k:=k0) (h:=h0) (r:=r) ht4 (by rw[←hnm];exact hni.bad (by omega) (num_none hnt (by assumption))));refine y (ev_loadAll rfl isAgg88 sizeOf88 zin (by rfl)) rfl ?_;refine yst (ac_storeAll rfl rfl (by simp[Value.oneCell']) sizeOf88 zrp (by rfl) (by rfl)) ?_;refine gy 10 ?_;refine kretct results38 rfl rfl isAgg88 sizeOf88 zin (rfl) (L1:=[[],[]]++R) zge ?_;rw[hdm];exact⟨_,⟨none,none,rfl,⟨⟨rfl,rfl⟩,⟨rfl,rfl⟩⟩,rfl⟩,rfl⟩
   refine gc 3 ?_;obtain⟨q,hq,hq1,hq2,hq3,hq4⟩:=num_some hnt hp (by assumption);rw[hq1];refine gy 3 ?_;refine ya (ac_bsliceR rfl underlying57 sizeOf2 zeroValue2 rfl rfl rfl rfl ⟨⟨_,_,rfl,(by rfl),(by decide)⟩,trivial⟩ (by dsimp[fillL,splice,vcells,reps]<;>rfl)) rfl ?_;rintro v L' ⟨b65,rfl,rfl⟩;refine ya (ac_append (s:=sn) (xs:=intsV ns) (m:=k) (k:=1) (us:=[i64 (zag q.1)]) (size:=1) rfl rfl (by repeat first|exact .z|apply Pk.s) underlying57 underlying57 (by intro q hq;cases hq) typeInfo2 rfl rfl rfl ?ok150 ?src150 ?one150 ?big150) rfl ?_
   case ok150=>exact okn
   case src150=>exact src_at zin rfl rfl
   case one150=>simp[Value.oneCell']
   case big150=>show(k+1)*9≤_;omega
   rintro v L' ⟨s66,rfl,ok66,rfl⟩;rw[intsV_snoc]at ok66 ⊢;refine gy 1 ?_;refine yst (ac_store rfl rfl (by exact svVal_one _ _) sizeOf57 zrp rfl rfl) ?_;refine gy 5 ?_;rw[hq2];have hni2:=hni.step (by omega) hq;rw[←hq3]at hni2;refine gy 6 ?_;rw[show IntKind.i64.wrap ((k:Int)+1)=((k+1:Nat):Int)by rw[wr (by omega) (by omega)];rfl];refine gy 3 ?_;exact hL1 (k+1,s66,ns++[zag q.1],(k0::h0::r).length-q.2.length) ⟨ok66,hni2,by dsimp only;omega⟩ (by dsimp only;omega) _ _ zsub zge
  refine gc 5 ?_;exact ksub zsub zge (hJ1 ⟨k,sn,ns,p⟩ ⟨hI1o,by dsimp only;omega⟩)
 clear hK8;refine gc 2 ?_;refine y (ev_ixV hv rfl rfl underlying55 sizeOf5 (by omega) (by omega)) rfl ?_;refine y (ev_loadV 1 hv zge rfl isAgg5 rfl rfl) rfl ?_;refine gy 3 ?_;refine cc rfl (fun h162=>?_) (fun h162=>?_)
 ·refine gc 2 ?_;rw[show Value.int .i64 16=i64 ((16:Nat):Int)from rfl];refine gy 4 ?_;refine y (ev_ixV hv rfl rfl underlying55 sizeOf5 (by omega) (by omega)) rfl ?_;refine y (ev_loadV 1 hv zge rfl isAgg5 rfl rfl) rfl ?_;refine y (ev_conv rfl underlying5 underlying3) rfl ?_;rw[wr (by omega) (by omega)];refine gy 1 ?_;rw[wr (by omega) (by omega),show((h0.toNat:Nat):Int)- 240=((h0.toNat- 240:Nat):Int)by omega];refine gy 3 ?_;exact ksub zsub zge (hJr9 (_,_) (⟨by dsimp only;unfold headN;rw[if_pos (by omega)],by dsimp only;unfold headT;rw[if_pos (by omega)]⟩))
 refine gc 2 ?_;exact ksub zsub zge (hJr9 (_,_) (⟨by dsimp only;unfold headN;rw[if_neg (by omega)],by dsimp only;unfold headT;rw[if_neg (by omega)]⟩))
end W
end Go.Proofs
namespace Go.Sl
/-- A message that may be, condition by condition. -/
structure NMayP(m:MsgM):Prop where
 t0:0≤m.t0∧m.t0≤4611686018427387904
 t1:0≤m.t1∧m.t1≤4611686018427387904
 t2:0≤m.t2∧m.t2≤4611686018427387904
 t3:0≤m.t3∧m.t3≤4611686018427387904
 data:(m.data.length:Int)≤40
 row:(m.row.length:Int)≤10
 kind:1≤m.kind∧m.kind≤15
 epoch:0≤m.epoch∧m.epoch≤4611686018427387904
 seq:0≤m.seq∧m.seq≤4611686018427387904
 n: -4611686018427387904≤m.n∧m.n≤4611686018427387904
 block: -1≤m.block∧m.block≤31
 client: -1≤m.client∧m.client≤3
 e:0≤m.e∧m.e≤31
theorem nmay_P{m:MsgM}:m.may=true↔NMayP m:=by
 unfold MsgM.may within3;simp only[Bool.and_eq_true,decide_eq_true_eq];constructor
 ·intro h;exact⟨by omega,by omega,by omega,by omega,by omega,by omega,by omega,by omega,by omega,by omega,by omega,by omega,by omega⟩
 ·intro h;have a:=h.t0;have b:=h.t1;have c:=h.t2;have d:=h.t3;have e:=h.data;have f:=h.row;have g:=h.kind;have i:=h.epoch;have j:=h.seq;have k:=h.n;have l:=h.block;have n:=h.client;have o:=h.e;omega
def nmayT(m:MsgM)(k:Nat):Prop:= ∀z,z<k→0≤m.tn z∧m.tn z≤4611686018427387904
theorem nmayT_zero(m:MsgM):nmayT m 0:=fun z h=>absurd h (by omega)
theorem nmayT_succ{m:MsgM}{k:Nat}(h:nmayT m k)(h2:0≤m.tn k∧m.tn k≤4611686018427387904):nmayT m (k+1):=fun z hz=>by
 by_cases e:z=k
 · subst e;exact h2
 · exact h z (by omega)
theorem nmayT_no{m:MsgM}{k:Nat}(hk:k<4)(h2: ¬(0≤m.tn k∧m.tn k≤4611686018427387904)):m.may=false:=by
 refine Bool.eq_false_iff.2 fun h=>h2 ?_
 have p:=nmay_P.1 h
 match k,hk with
 |0,_=>exact p.t0
 |1,_=>exact p.t1
 |2,_=>exact p.t2
 |3,_=>exact p.t3
theorem nmsg_tn(m:MsgM){k:Nat}(hk:k<4):m.cells[0+7+k*1]? =some (.int .i64 (m.tn k)):=by
 match k,hk with
 |0,_=>rfl
 |1,_=>rfl
 |2,_=>rfl
 |3,_=>rfl
theorem nw3f{n lo hi:Int}(h:within3 n lo hi=false): ¬(lo≤n∧n≤hi):=fun h2=>by rw[within3_iff.2 h2]at h;cases h
/-- The rest, where the table may be. -/
theorem nmay_rest{m:MsgM}(h:nmayT m 4):m.may=(decide (1≤m.kind∧m.kind≤15∧(0≤m.epoch∧m.epoch≤4611686018427387904)∧(0≤m.seq∧m.seq≤4611686018427387904)∧(-4611686018427387904≤m.n∧m.n≤4611686018427387904)∧ -1≤m.block∧m.block≤31∧ -1≤m.client∧m.client≤3∧0≤m.e∧m.e≤31∧(m.data.length:Int)≤40∧(m.row.length:Int)≤10)):=by
 have a:=h 0 (by decide);have b:=h 1 (by decide);have c:=h 2 (by decide);have d:=h 3 (by decide);rw[Bool.eq_iff_iff,nmay_P,decide_eq_true_eq];constructor
 ·intro p;have e:=p.data;have f:=p.row;have g:=p.kind;have i:=p.epoch;have j:=p.seq;have k:=p.n;have l:=p.block;have n:=p.client;have o:=p.e;omega
 ·intro p;exact⟨a,b,c,d,by omega,by omega,by omega,by omega,by omega,by omega,by omega,by omega,by omega⟩
end Go.Sl