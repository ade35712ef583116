/- A part of the proof. -/
import Derived.Test.YtlignadmmopdmaaGreatUn
import Derived.Test.YtlignadmmopdmaaGreatT15
set_option linter.unusedVariables false
set_option linter.unusedSimpArgs false
set_option linter.constructorNameAsVariable false
namespace Go.Proofs
open _root_.Go.Proofs.Tryz
open Go Go.Sl
namespace W
theorem zig_u{n:Int}(h1: -9223372036854775808≤n)(h2:n≤9223372036854775807)(h: ¬n<0):IntKind.u64.wrap (IntKind.u64.wrap n*2)=(zig n:Int):=by
 unfold zig;rw[wu64,wu64,if_pos (by omega)];omega
theorem zig_v{n:Int}(h1: -9223372036854775808≤n)(h2:n≤9223372036854775807)(h:n<0):IntKind.u64.wrap (IntKind.u64.wrap (0-IntKind.u64.wrap (IntKind.u64.wrap n*2))- 1)=(zig n:Int):=by
 unfold zig;rw[wu64,wu64,wu64,wu64,if_neg (by omega)];omega
theorem rNum [Env]{R:List Seg}{n:Int}(h1: -9223372036854775808≤n)(h2:n≤9223372036854775807):
   Con Tryz.prog 90 [i64 n] [] R (KSv 5 (numB (zig n)).length 1 (bytesV (numB (zig n))) []):=by
 have hz:=zig_lt h1 h2;have hl:=numB_len10 hz;refine con_enter func90 ntmps90 rfl rfl ?_;refine gc 6 ?_;refine y (ev_conv rfl underlying2 underlying138) rfl ?_;refine y (ev_mul rfl rfl) rfl ?_;refine gy 9 ?_;refine cc rfl (fun h8=>?_) (fun h8=>?_)
 ·have hzz:=zig_v h1 h2 h8;refine gc 2 ?_;refine y (ev_conv rfl underlying2 underlying138) rfl ?_;refine y (ev_mul rfl rfl) rfl ?_;refine gy 2 ?_;rw[hzz];refine gy 4 ?_;refine ya (ac_bslice0 underlying55 sizeOf5) rfl ?_;rintro v L' ⟨b15,rfl,rfl⟩;refine gy 3 ?_;refine cseqT ?_;intro K6 hK6
  have hJ1: ∀x:Nat × Bytes × Sv,((svOk x.2.2 x.2.1.length 1 (bytesV x.2.1)∧numB (zig n)=x.2.1++numB x.1∧x.1<18446744073709551616)∧(x.1<128))→Sk 32 K6 ([(4,svVal x.2.2 x.2.1.length),(3,.int .u64 (x.1:Nat))]) ([svSeg x.2.2 5 (bytesV x.2.1)]++R):=by
   rintro⟨u,b,s⟩ ⟨hI1,hX1⟩;refine hK6 _ _ ?_;obtain⟨okb,hb,hu64⟩:=hI1;dsimp only at okb hb hu64 ⊢;have hbl:b.length≤10:=by rw[hb]at hl;simp at hl;omega
   dsimp only at hX1;rw[numB_last hX1]at hb;refine gc 3 ?_;refine y (ev_conv rfl underlying138 underlying5) rfl ?_;rw[wu8,show((u:Nat):Int) % 256=((u:Nat):Int)by omega];refine ya (ac_bsliceR rfl underlying55 sizeOf5 zeroValue5 rfl rfl rfl rfl ⟨⟨_,_,rfl,(by rfl),(by decide)⟩,trivial⟩ (by dsimp[fillL,splice,vcells,reps]<;>rfl)) rfl ?_;rintro v L' ⟨b30,rfl,rfl⟩;refine ya (ac_append (xs:=bytesV b) (m:=b.length) (k:=1) (us:=[.int .u8 ((u:Nat):Int)]) (size:=1) rfl rfl (by repeat first|exact .z|apply Pk.s) underlying55 underlying55 (by intro q hq;cases hq) typeInfo5 rfl rfl rfl ?ok21 ?src21 ?one21 ?big21) rfl ?_
   case ok21=>exact okb
   case src21=>exact src_at zin rfl rfl
   case one21=>simp[Value.oneCell']
   case big21=>show(b.length+1)*2≤_;omega
   rintro v L' ⟨s31,rfl,ok31,rfl⟩;have hlen:b.length+1=(numB (zig n)).length:=by rw[hb];simp
   rw[bytesV_snoc _ _ (by omega),←hb,hlen]at ok31 ⊢;refine gy 4 ?_;refine kretv results90 rfl (L1:=[svSeg _ _ _]++R) zge ?_;exact⟨_,⟨s31,rfl,ok31,rfl⟩,rfl⟩
  clear hK6;refine gc 1 ?_;refine cloopT (A:=Nat × Bytes × Sv) (fun x=>[(4,svVal x.2.2 x.2.1.length),(3,.int .u64 (x.1:Nat))]) (fun x=>[svSeg x.2.2 5 (bytesV x.2.1)]++R) (fun x=>svOk x.2.2 x.2.1.length 1 (bytesV x.2.1)∧numB (zig n)=x.2.1++numB x.1∧x.1<18446744073709551616) (fun x=>x.1) ((zig n,[],some (b15,0,[]))) ?_ zsub zge ?_
  · exact⟨⟨Nat.le_refl _,Nat.zero_le _,rfl,rfl⟩,rfl,hz⟩
  rintro⟨u,b,s⟩ hI1 KL1 hL1;have hI1o:=hI1;obtain⟨okb,hb,hu64⟩:=hI1;dsimp only at okb hb hu64 ⊢;have hbl:b.length≤10:=by rw[hb]at hl;simp at hl;omega
  refine gc 6 ?_;refine cc rfl (fun h25=>?_) (fun h25=>?_)
  ·refine gc 6 ?_;refine y (ev_rem rfl rfl (by decide)) rfl ?_;rw[show((u:Nat):Int).tmod 128=((u % 128:Nat):Int)from rfl];refine gy 1 ?_;rw[wu64,show(((u % 128:Nat):Int)+128) % 18446744073709551616=((u % 128+128:Nat):Int)by omega];refine y (ev_conv rfl underlying138 underlying5) rfl ?_;rw[wu8,show((u % 128+128:Nat):Int) % 256=((u % 128+128:Nat):Int)by omega];refine ya (ac_bsliceR rfl underlying55 sizeOf5 zeroValue5 rfl rfl rfl rfl ⟨⟨_,_,rfl,(by rfl),(by decide)⟩,trivial⟩ (by dsimp[fillL,splice,vcells,reps]<;>rfl)) rfl ?_;rintro v L' ⟨b23,rfl,rfl⟩;refine ya (ac_append (xs:=bytesV b) (m:=b.length) (k:=1) (us:=[.int .u8 ((u % 128+128:Nat):Int)]) (size:=1) rfl rfl (by repeat first|exact .z|apply Pk.s) underlying55 underlying55 (by intro q hq;cases hq) typeInfo5 rfl rfl rfl ?ok32 ?src32 ?one32 ?big32) rfl ?_
   case ok32=>exact okb
   case src32=>exact src_at zin rfl rfl
   case one32=>simp[Value.oneCell']
   case big32=>show(b.length+1)*2≤_;omega
   rintro v L' ⟨s24,rfl,ok24,rfl⟩;rw[bytesV_snoc _ _ (by omega)]at ok24 ⊢;refine gy 5 ?_;refine y (ev_quo rfl rfl (by decide)) rfl ?_;rw[wu64,show((u:Nat):Int).tdiv 128=((u / 128:Nat):Int)from rfl,show((u / 128:Nat):Int) % 18446744073709551616=((u / 128:Nat):Int)by omega];refine gy 4 ?_;exact ksub zsub zge (hL1 (u / 128,b++[UInt8.ofNat (u % 128+128)],s24) ⟨by rw[List.length_append];exact ok24,by rw[hb,numB_more (by omega)];simp,by dsimp only;omega⟩ (by dsimp only;omega) [(4,svVal s24 (b++[UInt8.ofNat (u % 128+128)]).length),(3,.int .u64 ((u / 128:Nat):Int))] _ zsub .refl)
  refine gc 5 ?_;exact ksub zsub zge (hJ1 ⟨u,b,s⟩ ⟨hI1o,by dsimp only;omega⟩)
 rw[zig_u h1 h2 (by omega)];refine gc 3 ?_;refine ya (ac_bslice0 underlying55 sizeOf5) rfl ?_;rintro v L' ⟨b15,rfl,rfl⟩;refine gy 3 ?_;refine cseqT ?_;intro K12 hK12
 have hJ1: ∀x:Nat × Bytes × Sv,((svOk x.2.2 x.2.1.length 1 (bytesV x.2.1)∧numB (zig n)=x.2.1++numB x.1∧x.1<18446744073709551616)∧(x.1<128))→Sk 32 K12 ([(4,svVal x.2.2 x.2.1.length),(3,.int .u64 (x.1:Nat))]) ([svSeg x.2.2 5 (bytesV x.2.1)]++R):=by
  rintro⟨u,b,s⟩ ⟨hI1,hX1⟩;refine hK12 _ _ ?_;obtain⟨okb,hb,hu64⟩:=hI1;dsimp only at okb hb hu64 ⊢;have hbl:b.length≤10:=by rw[hb]at hl;simp at hl;omega
  dsimp only at hX1;rw[numB_last hX1]at hb;refine gc 3 ?_;refine y (ev_conv rfl underlying138 underlying5) rfl ?_;rw[wu8,show((u:Nat):Int) % 256=((u:Nat):Int)by omega];refine ya (ac_bsliceR rfl underlying55 sizeOf5 zeroValue5 rfl rfl rfl rfl ⟨⟨_,_,rfl,(by rfl),(by decide)⟩,trivial⟩ (by dsimp[fillL,splice,vcells,reps]<;>rfl)) rfl ?_;rintro v L' ⟨b30,rfl,rfl⟩;refine ya (ac_append (xs:=bytesV b) (m:=b.length) (k:=1) (us:=[.int .u8 ((u:Nat):Int)]) (size:=1) rfl rfl (by repeat first|exact .z|apply Pk.s) underlying55 underlying55 (by intro q hq;cases hq) typeInfo5 rfl rfl rfl ?ok43 ?src43 ?one43 ?big43) rfl ?_
  case ok43=>exact okb
  case src43=>exact src_at zin rfl rfl
  case one43=>simp[Value.oneCell']
  case big43=>show(b.length+1)*2≤_;omega
  rintro v L' ⟨s31,rfl,ok31,rfl⟩;have hlen:b.length+1=(numB (zig n)).length:=by rw[hb];simp
  rw[bytesV_snoc _ _ (by omega),←hb,hlen]at ok31 ⊢;refine gy 4 ?_;refine kretv results90 rfl (L1:=[svSeg _ _ _]++R) zge ?_;exact⟨_,⟨s31,rfl,ok31,rfl⟩,rfl⟩
 clear hK12;refine gc 1 ?_;refine cloopT (A:=Nat × Bytes × Sv) (fun x=>[(4,svVal x.2.2 x.2.1.length),(3,.int .u64 (x.1:Nat))]) (fun x=>[svSeg x.2.2 5 (bytesV x.2.1)]++R) (fun x=>svOk x.2.2 x.2.1.length 1 (bytesV x.2.1)∧numB (zig n)=x.2.1++numB x.1∧x.1<18446744073709551616) (fun x=>x.1) ((zig n,[],some (b15,0,[]))) ?_ zsub zge ?_
 · exact⟨⟨Nat.le_refl _,Nat.zero_le _,rfl,rfl⟩,rfl,hz⟩
 rintro⟨u,b,s⟩ hI1 KL1 hL1;have hI1o:=hI1;obtain⟨okb,hb,hu64⟩:=hI1;dsimp only at okb hb hu64 ⊢;have hbl:b.length≤10:=by rw[hb]at hl;simp at hl;omega
 refine gc 6 ?_;refine cc rfl (fun h47=>?_) (fun h47=>?_)
 ·refine gc 6 ?_;refine y (ev_rem rfl rfl (by decide)) rfl ?_;rw[show((u:Nat):Int).tmod 128=((u % 128:Nat):Int)from rfl];refine gy 1 ?_;rw[wu64,show(((u % 128:Nat):Int)+128) % 18446744073709551616=((u % 128+128:Nat):Int)by omega];refine y (ev_conv rfl underlying138 underlying5) rfl ?_;rw[wu8,show((u % 128+128:Nat):Int) % 256=((u % 128+128:Nat):Int)by omega];refine ya (ac_bsliceR rfl underlying55 sizeOf5 zeroValue5 rfl rfl rfl rfl ⟨⟨_,_,rfl,(by rfl),(by decide)⟩,trivial⟩ (by dsimp[fillL,splice,vcells,reps]<;>rfl)) rfl ?_;rintro v L' ⟨b23,rfl,rfl⟩;refine ya (ac_append (xs:=bytesV b) (m:=b.length) (k:=1) (us:=[.int .u8 ((u % 128+128:Nat):Int)]) (size:=1) rfl rfl (by repeat first|exact .z|apply Pk.s) underlying55 underlying55 (by intro q hq;cases hq) typeInfo5 rfl rfl rfl ?ok54 ?src54 ?one54 ?big54) rfl ?_
  case ok54=>exact okb
  case src54=>exact src_at zin rfl rfl
  case one54=>simp[Value.oneCell']
  case big54=>show(b.length+1)*2≤_;omega
  rintro v L' ⟨s24,rfl,ok24,rfl⟩;rw[bytesV_snoc _ _ (by omega)]at ok24 ⊢;refine gy 5 ?_;refine y (ev_quo rfl rfl (by decide)) rfl ?_;rw[wu64,show((u:Nat):Int).tdiv 128=((u / 128:Nat):Int)from rfl,show((u / 128:Nat):Int) % 18446744073709551616=((u / 128:Nat):Int)by omega];refine gy 4 ?_;exact ksub zsub zge (hL1 (u / 128,b++[UInt8.ofNat (u % 128+128)],s24) ⟨by rw[List.length_append];exact ok24,by rw[hb,numB_more (by omega)];simp,by dsimp only;omega⟩ (by dsimp only;omega) [(4,svVal s24 (b++[UInt8.ofNat (u % 128+128)]).length),(3,.int .u64 ((u / 128:Nat):Int))] _ zsub .refl)
 refine gc 5 ?_;exact ksub zsub zge (hJ1 ⟨u,b,s⟩ ⟨hI1o,by dsimp only;omega⟩)
theorem rEncode [Env]{R:List Seg}{r:RecM}{nv tv:Value}(hn:RdV R nv r.nums.length (intsV r.nums))(ht:RdV R tv r.texts.length (strsV r.texts))(hI:I64s r.nums):
   Con Tryz.prog 55 [.agg #[i64 r.kind,nv,tv]] [] R (fun v L'=> ∃s,v= .tuple #[svVal s (encM r).1.length,i64 (encM r).2]∧svOk s (encM r).1.length 1 (bytesV (encM r).1)∧L'=[svSeg s 5 (bytesV (encM r).1)]):=by
 have hnl:=hn.lenVal;have htl:=ht.lenVal;refine con_enter func55 ntmps55 rfl rfl ?_;refine gc 1 ?_;refine ya (ac_box rfl rfl) rfl ?_;rintro v L' ⟨b1,rfl,rfl⟩;refine gy 6 ?_;refine y (ev_loadAll rfl isAgg88 sizeOf88 zin (by rfl)) rfl ?_;refine yci (rMay (r:=r) ?hn63 ?ht63) call89 ?_
 case hn63=>exact hn.mono zge
 case ht63=>exact ht.mono zge
 refine gy 3 ?_;refine cc rfl (fun h65=>?_) (fun h65=>?_)
 ·have henc:encM r=([],4):=by unfold encM;rw[if_neg (by simp_all)]
  refine gc 7 ?_;refine kretv2 results55 rfl rfl (L1:=[svSeg none 5 []]++R) zge ?_;exact⟨_,⟨none,by rw[henc];rfl,by rw[henc];exact⟨rfl,rfl⟩,by rw[henc];rfl⟩,rfl⟩
 have hmB:r.mayB=true:=by simp_all
 have hmay:=may_of hmB hI;have henc:encM r=(recB r,0):=by unfold encM;rw[if_pos hmB]
 have hk0:=hmay.k0;have hk1:=hmay.k1;have hns:=hmay.ns;have hts:=hmay.ts;have hhb:=headB_nat hns hts;refine gc 5 ?_;refine y (ev_lenV rfl underlying57 (RdV.lenVal (by assumption))) rfl ?_;refine gy 2 ?_;refine y (ev_lenV rfl underlying86 (RdV.lenVal (by assumption))) rfl ?_;refine y (ev_mul rfl rfl) rfl ?_;rw[wr (by omega) (by omega)];refine gy 1 ?_;rw[wr (by omega) (by omega)];refine gy 7 ?_;refine y (ev_lenV rfl underlying57 (RdV.lenVal (by assumption))) rfl ?_;refine gy 3 ?_;refine cc rfl (fun h81=>?_) (fun h81=>?_)
 ·refine gc 3 ?_;refine y (ev_lenV rfl underlying86 (RdV.lenVal (by assumption))) rfl ?_;refine gy 1 ?_;rw[wr (by omega) (by omega)];refine gy 3 ?_;refine cseqT ?_;intro K8 hK8
  have hJr7: ∀x:Nat,(True)→Sk 73 K8 ([(5,svVal (some (x,2,[])) 2),(1,ptr b1)]) ([sc x [.int .u8 ((r.kind.toNat % 256:Nat):Int),.int .u8 ((headB r.nums.length r.texts.length).toNat:Nat)] 5,sc b1 [i64 r.kind,nv,tv] 88]++R):=by
   rintro b32 hIr7;refine hK8 _ _ ?_;refine cseqT ?_;intro K9 hK9;refine gc 4 ?_
   have hJ1: ∀x:Nat × Sv,((svOk x.2 (encA r x.1).length 1 (bytesV (encA r x.1))∧x.1≤r.nums.length)∧(x.1=r.nums.length))→Sk 73 K9 ([(6,i64 x.1),(5,svVal x.2 (encA r x.1).length),(1,ptr b1)]) ([svSeg x.2 5 (bytesV (encA r x.1)),sc b1 [i64 r.kind,nv,tv] 88]++R):=by
    rintro⟨k,s⟩ ⟨hI1,hX1⟩;refine hK9 _ _ ?_;obtain⟨oks,hk⟩:=hI1;dsimp only at oks hk ⊢;have hal:=encA_len hmay k;dsimp only at hX1;subst hX1;refine cseqT ?_;intro K11 hK11;refine gc 2 ?_;rw[←encB_zero]at oks ⊢;refine gy 2 ?_
    have hJ2: ∀x:Nat × Sv,((svOk x.2 (encB r x.1).length 1 (bytesV (encB r x.1))∧x.1≤r.texts.length)∧(x.1=r.texts.length))→Sk 73 K11 ([(7,i64 x.1),(5,svVal x.2 (encB r x.1).length),(1,ptr b1)]) ([svSeg x.2 5 (bytesV (encB r x.1)),sc b1 [i64 r.kind,nv,tv] 88]++R):=by
     rintro⟨z,st⟩ ⟨hI2,hX2⟩;refine hK11 _ _ ?_;obtain⟨okt,hz⟩:=hI2;dsimp only at okt hz ⊢;have hbl:=encB_len hmay z;have hbl2:=encB_len hmay (z+1);dsimp only at hX2;subst hX2;rw[encB_all]at okt ⊢;refine gc 7 ?_;refine kretv2 results55 rfl rfl (L1:=[svSeg _ _ _]++R) zge ?_;exact⟨_,⟨st,by rw[henc],by rw[henc];exact okt,by rw[henc]⟩,rfl⟩
    clear hK11;refine gc 1 ?_;refine cloopT (A:=Nat × Sv) (fun x=>[(7,i64 x.1),(5,svVal x.2 (encB r x.1).length),(1,ptr b1)]) (fun x=>[svSeg x.2 5 (bytesV (encB r x.1)),sc b1 [i64 r.kind,nv,tv] 88]++R) (fun x=>svOk x.2 (encB r x.1).length 1 (bytesV (encB r x.1))∧x.1≤r.texts.length) (fun x=>r.texts.length-x.1) ((0,s)) ?_ zsub zge ?_
    · exact⟨oks,Nat.zero_le _⟩
    rintro⟨z,st⟩ hI2 KL2 hL2;have hI2o:=hI2;obtain⟨okt,hz⟩:=hI2;dsimp only at okt hz ⊢;have hbl:=encB_len hmay z;have hbl2:=encB_len hmay (z+1);refine gc 5 ?_;refine y (ev_lenV rfl underlying86 (RdV.lenVal (by assumption))) rfl ?_;refine gy 3 ?_;refine cc rfl (fun h97=>?_) (fun h97=>?_)
    ·obtain⟨tt,htt⟩: ∃x,r.texts[z]? =some x:=⟨_,List.getElem?_eq_getElem (by omega)⟩;have h200:=hmay.len tt (List.mem_of_getElem? htt);have hbs:=encB_succ htt;refine gc 9 ?_;refine y (ev_ixV ht rfl rfl underlying86 sizeOf9 (by omega) (by omega)) rfl ?_;refine y (ev_loadV z ht zge rfl isAgg9 (by simp) (strsV_get htt)) rfl ?_;refine y (ev_lenStr rfl underlying9) rfl ?_;refine y (ev_conv rfl underlying3 underlying5) rfl ?_;rw[wu8,show((tt.length:Nat):Int) % 256=((tt.length:Nat):Int)by omega];refine ya (ac_bsliceR rfl underlying55 sizeOf5 zeroValue5 rfl rfl rfl rfl ⟨⟨_,_,rfl,(by rfl),(by decide)⟩,trivial⟩ (by dsimp[fillL,splice,vcells,reps]<;>rfl)) rfl ?_;rintro v L' ⟨b63,rfl,rfl⟩;refine ya (ac_append (xs:=bytesV (encB r z)) (m:=(encB r z).length) (k:=1) (us:=[.int .u8 ((tt.length:Nat):Int)]) (size:=1) rfl rfl (by repeat first|exact .z|apply Pk.s) underlying55 underlying55 (by intro q hq;cases hq) typeInfo5 rfl rfl rfl ?ok107 ?src107 ?one107 ?big107) rfl ?_
     case ok107=>exact okt
     case src107=>exact src_at zin rfl rfl
     case one107=>simp[Value.oneCell']
     case big107=>show(_+_)*2≤_;omega
     rintro v L' ⟨s64,rfl,ok64,rfl⟩;rw[bytesV_snoc _ _ (by omega)]at ok64 ⊢;refine gy 8 ?_;refine y (ev_ixV ht rfl rfl underlying86 sizeOf9 (by omega) (by omega)) rfl ?_;refine y (ev_loadV z ht zge rfl isAgg9 (by simp) (strsV_get htt)) rfl ?_;refine ya (ac_append (xs:=bytesV (encB r z++[UInt8.ofNat tt.length])) (m:=(encB r z).length+1) (k:=tt.length) (us:=bytesV tt) (size:=1) rfl rfl (by repeat first|exact .z|apply Pk.s) underlying55 underlying9 (by intro q hq;cases hq) typeInfo5 rfl rfl rfl ?ok115 ?src115 ?one115 ?big115) rfl ?_
     case ok115=>exact ok64
     case src115=>exact src_strB
     case one115=>exact bytesV_one _
     case big115=>show(_+_)*2≤_;omega
     rintro v L' ⟨s71,rfl,ok71,rfl⟩;rw[←bytesV_append,←hbs,show(encB r z).length+1+tt.length=(encB r (z+1)).length by rw[hbs];simp;omega]at ok71 ⊢;refine gy 7 ?_;rw[show IntKind.i64.wrap ((z:Int)+1)=((z+1:Nat):Int)by rw[wr (by omega) (by omega)];rfl];refine gy 3 ?_;exact hL2 ((z+1,s71)) (⟨ok71,by dsimp only;omega⟩) (by dsimp only;omega) _ _ zsub zge
    refine gc 5 ?_;exact ksub zsub zge (hJ2 ⟨z,st⟩ ⟨hI2o,by dsimp only;omega⟩)
   clear hK9;refine gc 1 ?_;refine cloopT (A:=Nat × Sv) (fun x=>[(6,i64 x.1),(5,svVal x.2 (encA r x.1).length),(1,ptr b1)]) (fun x=>[svSeg x.2 5 (bytesV (encA r x.1)),sc b1 [i64 r.kind,nv,tv] 88]++R) (fun x=>svOk x.2 (encA r x.1).length 1 (bytesV (encA r x.1))∧x.1≤r.nums.length) (fun x=>r.nums.length-x.1) ((0,some (b32,2,[]))) ?_ zsub zge ?_
   · exact⟨⟨by simp[encA,numsB],by decide,by simp[encA,numsB],by simp[encA,numsB]⟩,Nat.zero_le _⟩
   rintro⟨k,s⟩ hI1 KL1 hL1;have hI1o:=hI1;obtain⟨oks,hk⟩:=hI1;dsimp only at oks hk ⊢;have hal:=encA_len hmay k;refine gc 5 ?_;refine y (ev_lenV rfl underlying57 (RdV.lenVal (by assumption))) rfl ?_;refine gy 3 ?_;refine cc rfl (fun h125=>?_) (fun h125=>?_)
   ·obtain⟨nn,hnn⟩: ∃x,r.nums[k]? =some x:=⟨_,List.getElem?_eq_getElem (by omega)⟩;obtain⟨hlo,hhi⟩:=hI nn (List.mem_of_getElem? hnn);have hl10:=numB_len10 (zig_lt hlo hhi);refine gc 9 ?_;refine y (ev_ixV hn rfl rfl underlying57 sizeOf2 (by omega) (by omega)) rfl ?_;refine y (ev_loadV k hn zge rfl isAgg2 (by simp) (intsV_get hnn)) rfl ?_;refine ycall (rNum ?lo132 ?hi132) rfl call90 ztk rfl ?_
    case lo132=>exact hlo
    case hi132=>exact hhi
    rintro v L' ⟨s46,rfl,ok46,rfl⟩;refine ya (ac_append (xs:=bytesV (encA r k)) (m:=(encA r k).length) (k:=(numB (zig nn)).length) (us:=bytesV (numB (zig nn))) (size:=1) rfl rfl (by repeat first|exact .z|apply Pk.s) underlying55 underlying55 (by intro q hq;cases hq) typeInfo5 rfl rfl rfl ?ok133 ?src133 ?one133 ?big133) rfl ?_
    case ok133=>exact oks
    case src133=>exact src_sv zin ok46
    case one133=>exact bytesV_one _
    case big133=>show(_+_)*2≤_;omega
    rintro v L' ⟨s47,rfl,ok47,rfl⟩;rw[←bytesV_append,←List.length_append,←encA_succ hnn]at ok47 ⊢;refine gy 7 ?_;rw[show IntKind.i64.wrap ((k:Int)+1)=((k+1:Nat):Int)by rw[wr (by omega) (by omega)];rfl];refine gy 3 ?_;exact hL1 ((k+1,s47)) (⟨ok47,by dsimp only;omega⟩) (by dsimp only;omega) _ _ zsub zge
   refine gc 5 ?_;exact ksub zsub zge (hJ1 ⟨k,s⟩ ⟨hI1o,by dsimp only;omega⟩)
  clear hK8;refine gc 3 ?_;refine y (ev_conv rfl underlying3 underlying5) rfl ?_;rw[wu8,show r.kind % 256=((r.kind.toNat % 256:Nat):Int)by omega];refine gy 1 ?_;refine y (ev_conv rfl underlying3 underlying5) rfl ?_;rw[wu8];(rw[show((240:Int)+(r.texts.length:Int)) % 256=(((headB r.nums.length r.texts.length).toNat:Nat):Int)by rw[hhb,if_pos (by omega)];omega]);refine ya (ac_bsliceR rfl underlying55 sizeOf5 zeroValue5 rfl rfl rfl rfl ⟨⟨_,_,rfl,(by rfl),(by decide)⟩,⟨⟨_,_,rfl,(by rfl),(by decide)⟩,trivial⟩⟩ (by dsimp[fillL,splice,vcells,reps]<;>rfl)) rfl ?_;rintro v L' ⟨b32,rfl,rfl⟩;refine gy 3 ?_;exact ksub zsub zge (hJr7 b32 (trivial))
 refine gc 2 ?_;refine cseqT ?_;intro K21 hK21
 have hJr7: ∀x:Nat,(True)→Sk 73 K21 ([(5,svVal (some (x,2,[])) 2),(1,ptr b1)]) ([sc x [.int .u8 ((r.kind.toNat % 256:Nat):Int),.int .u8 ((headB r.nums.length r.texts.length).toNat:Nat)] 5,sc b1 [i64 r.kind,nv,tv] 88]++R):=by
  rintro b32 hIr7;refine hK21 _ _ ?_;refine cseqT ?_;intro K22 hK22;refine gc 4 ?_
  have hJ1: ∀x:Nat × Sv,((svOk x.2 (encA r x.1).length 1 (bytesV (encA r x.1))∧x.1≤r.nums.length)∧(x.1=r.nums.length))→Sk 73 K22 ([(6,i64 x.1),(5,svVal x.2 (encA r x.1).length),(1,ptr b1)]) ([svSeg x.2 5 (bytesV (encA r x.1)),sc b1 [i64 r.kind,nv,tv] 88]++R):=by
   rintro⟨k,s⟩ ⟨hI1,hX1⟩;refine hK22 _ _ ?_;obtain⟨oks,hk⟩:=hI1;dsimp only at oks hk ⊢;have hal:=encA_len hmay k;dsimp only at hX1;subst hX1;refine cseqT ?_;intro K24 hK24;refine gc 2 ?_;rw[←encB_zero]at oks ⊢;refine gy 2 ?_
   have hJ2: ∀x:Nat × Sv,((svOk x.2 (encB r x.1).length 1 (bytesV (encB r x.1))∧x.1≤r.texts.length)∧(x.1=r.texts.length))→Sk 73 K24 ([(7,i64 x.1),(5,svVal x.2 (encB r x.1).length),(1,ptr b1)]) ([svSeg x.2 5 (bytesV (encB r x.1)),sc b1 [i64 r.kind,nv,tv] 88]++R):=by
    rintro⟨z,st⟩ ⟨hI2,hX2⟩;refine hK24 _ _ ?_;obtain⟨okt,hz⟩:=hI2;dsimp only at okt hz ⊢;have hbl:=encB_len hmay z;have hbl2:=encB_len hmay (z+1);dsimp only at hX2;subst hX2;rw[encB_all]at okt ⊢;refine gc 7 ?_;refine kretv2 results55 rfl rfl (L1:=[svSeg _ _ _]++R) zge ?_;exact⟨_,⟨st,by rw[henc],by rw[henc];exact okt,by rw[henc]⟩,rfl⟩
   clear hK24;refine gc 1 ?_;refine cloopT (A:=Nat × Sv) (fun x=>[(7,i64 x.1),(5,svVal x.2 (encB r x.1).length),(1,ptr b1)]) (fun x=>[svSeg x.2 5 (bytesV (encB r x.1)),sc b1 [i64 r.kind,nv,tv] 88]++R) (fun x=>svOk x.2 (encB r x.1).length 1 (bytesV (encB r x.1))∧x.1≤r.texts.length) (fun x=>r.texts.length-x.1) ((0,s)) ?_ zsub zge ?_
   · exact⟨oks,Nat.zero_le _⟩
   rintro⟨z,st⟩ hI2 KL2 hL2;have hI2o:=hI2;obtain⟨okt,hz⟩:=hI2;dsimp only at okt hz ⊢;have hbl:=encB_len hmay z;have hbl2:=encB_len hmay (z+1);refine gc 5 ?_;refine y (ev_lenV rfl underlying86 (RdV.lenVal (by assumption))) rfl ?_;refine gy 3 ?_;refine cc rfl (fun h155=>?_) (fun h155=>?_)
   ·obtain⟨tt,htt⟩: ∃x,r.texts[z]? =some x:=⟨_,List.getElem?_eq_getElem (by omega)⟩;have h200:=hmay.len tt (List.mem_of_getElem? htt);have hbs:=encB_succ htt;refine gc 9 ?_;refine y (ev_ixV ht rfl rfl underlying86 sizeOf9 (by omega) (by omega)) rfl ?_;refine y (ev_loadV z ht zge rfl isAgg9 (by simp) (strsV_get htt)) rfl ?_;refine y (ev_lenStr rfl underlying9) rfl ?_;refine y (ev_conv rfl underlying3 underlying5) rfl ?_;rw[wu8,show((tt.length:Nat):Int) % 256=((tt.length:Nat):Int)by omega];refine ya (ac_bsliceR rfl underlying55 sizeOf5 zeroValue5 rfl rfl rfl rfl ⟨⟨_,_,rfl,(by rfl),(by decide)⟩,trivial⟩ (by dsimp[fillL,splice,vcells,reps]<;>rfl)) rfl ?_;rintro v L' ⟨b63,rfl,rfl⟩;refine ya (ac_append (xs:=bytesV (encB r z)) (m:=(encB r z).length) (k:=1) (us:=[.int .u8 ((tt.length:Nat):Int)]) (size:=1) rfl rfl (by repeat first|exact .z|apply Pk.s) underlying55 underlying55 (by intro q hq;cases hq) typeInfo5 rfl rfl rfl ?ok165 ?src165 ?one165 ?big165) rfl ?_
    case ok165=>exact okt
    case src165=>exact src_at zin rfl rfl
    case one165=>simp[Value.oneCell']
    case big165=>show(_+_)*2≤_;omega
    rintro v L' ⟨s64,rfl,ok64,rfl⟩;rw[bytesV_snoc _ _ (by omega)]at ok64 ⊢;refine gy 8 ?_;refine y (ev_ixV ht rfl rfl underlying86 sizeOf9 (by omega) (by omega)) rfl ?_;refine y (ev_loadV z ht zge rfl isAgg9 (by simp) (strsV_get htt)) rfl ?_;refine ya (ac_append (xs:=bytesV (encB r z++[UInt8.ofNat tt.length])) (m:=(encB r z).length+1) (k:=tt.length) (us:=bytesV tt) (size:=1) rfl rfl (by repeat first|exact .z|apply Pk.s) underlying55 underlying9 (by intro q hq;cases hq) typeInfo5 rfl rfl rfl ?ok173 ?src173 ?one173 ?big173) rfl ?_
    case ok173=>exact ok64
    case src173=>exact src_strB
    case one173=>exact bytesV_one _
    case big173=>show(_+_)*2≤_;omega
    rintro v L' ⟨s71,rfl,ok71,rfl⟩;rw[←bytesV_append,←hbs,show(encB r z).length+1+tt.length=(encB r (z+1)).length by rw[hbs];simp;omega]at ok71 ⊢;refine gy 7 ?_;rw[show IntKind.i64.wrap ((z:Int)+1)=((z+1:Nat):Int)by rw[wr (by omega) (by omega)];rfl];refine gy 3 ?_;exact hL2 ((z+1,s71)) (⟨ok71,by dsimp only;omega⟩) (by dsimp only;omega) _ _ zsub zge
   refine gc 5 ?_;exact ksub zsub zge (hJ2 ⟨z,st⟩ ⟨hI2o,by dsimp only;omega⟩)
  clear hK22;refine gc 1 ?_;refine cloopT (A:=Nat × Sv) (fun x=>[(6,i64 x.1),(5,svVal x.2 (encA r x.1).length),(1,ptr b1)]) (fun x=>[svSeg x.2 5 (bytesV (encA r x.1)),sc b1 [i64 r.kind,nv,tv] 88]++R) (fun x=>svOk x.2 (encA r x.1).length 1 (bytesV (encA r x.1))∧x.1≤r.nums.length) (fun x=>r.nums.length-x.1) ((0,some (b32,2,[]))) ?_ zsub zge ?_
  · exact⟨⟨by simp[encA,numsB],by decide,by simp[encA,numsB],by simp[encA,numsB]⟩,Nat.zero_le _⟩
  rintro⟨k,s⟩ hI1 KL1 hL1;have hI1o:=hI1;obtain⟨oks,hk⟩:=hI1;dsimp only at oks hk ⊢;have hal:=encA_len hmay k;refine gc 5 ?_;refine y (ev_lenV rfl underlying57 (RdV.lenVal (by assumption))) rfl ?_;refine gy 3 ?_;refine cc rfl (fun h183=>?_) (fun h183=>?_)
  ·obtain⟨nn,hnn⟩: ∃x,r.nums[k]? =some x:=⟨_,List.getElem?_eq_getElem (by omega)⟩;obtain⟨hlo,hhi⟩:=hI nn (List.mem_of_getElem? hnn);have hl10:=numB_len10 (zig_lt hlo hhi);refine gc 9 ?_;refine y (ev_ixV hn rfl rfl underlying57 sizeOf2 (by omega) (by omega)) rfl ?_;refine y (ev_loadV k hn zge rfl isAgg2 (by simp) (intsV_get hnn)) rfl ?_;refine ycall (rNum ?lo190 ?hi190) rfl call90 ztk rfl ?_
   case lo190=>exact hlo
   case hi190=>exact hhi
   rintro v L' ⟨s46,rfl,ok46,rfl⟩;refine ya (ac_append (xs:=bytesV (encA r k)) (m:=(encA r k).length) (k:=(numB (zig nn)).length) (us:=bytesV (numB (zig nn))) (size:=1) rfl rfl (by repeat first|exact .z|apply Pk.s) underlying55 underlying55 (by intro q hq;cases hq) typeInfo5 rfl rfl rfl ?ok191 ?src191 ?one191 ?big191) rfl ?_
   case ok191=>exact oks
   case src191=>exact src_sv zin ok46
   case one191=>exact bytesV_one _
   case big191=>show(_+_)*2≤_;omega
   rintro v L' ⟨s47,rfl,ok47,rfl⟩;rw[←bytesV_append,←List.length_append,←encA_succ hnn]at ok47 ⊢;refine gy 7 ?_;rw[show IntKind.i64.wrap ((k:Int)+1)=((k+1:Nat):Int)by rw[wr (by omega) (by omega)];rfl];refine gy 3 ?_;exact hL1 ((k+1,s47)) (⟨ok47,by dsimp only;omega⟩) (by dsimp only;omega) _ _ zsub zge
  refine gc 5 ?_;exact ksub zsub zge (hJ1 ⟨k,s⟩ ⟨hI1o,by dsimp only;omega⟩)
 clear hK21;refine gc 3 ?_;refine y (ev_conv rfl underlying3 underlying5) rfl ?_;rw[wu8,show r.kind % 256=((r.kind.toNat % 256:Nat):Int)by omega];refine gy 1 ?_;refine y (ev_conv rfl underlying3 underlying5) rfl ?_;rw[wu8];(rw[show((r.nums.length:Int)+16*(r.texts.length:Int)) % 256=(((headB r.nums.length r.texts.length).toNat:Nat):Int)by rw[hhb,if_neg (by omega)];omega]);refine ya (ac_bsliceR rfl underlying55 sizeOf5 zeroValue5 rfl rfl rfl rfl ⟨⟨_,_,rfl,(by rfl),(by decide)⟩,⟨⟨_,_,rfl,(by rfl),(by decide)⟩,trivial⟩⟩ (by dsimp[fillL,splice,vcells,reps]<;>rfl)) rfl ?_;rintro v L' ⟨b32,rfl,rfl⟩;refine gy 3 ?_;exact ksub zsub zge (hJr7 b32 (trivial))
end W
end Go.Proofs