/- A part of the proof. -/
import Derived.Test.YtlignadmmopdmaaGreatUn
import Derived.Test.YtlignadmmopdmaaGreatGE
import Derived.Test.YtlignadmmopdmaaGreatGF
set_option linter.unusedVariables false
set_option linter.unusedSimpArgs false
set_option linter.constructorNameAsVariable false
namespace Go.Proofs
open _root_.Go.Proofs.Tryz
open Go Go.Sl
namespace W
theorem cOn [Env]{R:List Seg}{s:Nat}{b:UInt8}(hs:s<4294967296):Con Tryz.prog 218 [.int .u32 s,.int .u8 b.toNat] [] R (Is (.int .u32 (crcOn s b)) []):=by
 have hb:=b.toNat_lt;have hx:s^^^b.toNat<4294967296:=Nat.xor_lt_two_pow (n:=32) hs (by omega);refine con_enter func218 ntmps218 rfl rfl ?_;refine gc 7 ?_;refine y (ev_conv rfl underlying5 underlying173) rfl ?_;refine y (ev_xor rfl rfl) rfl ?_;rw[wu32,show((b.toNat:Nat):Int) % 4294967296=((b.toNat:Nat):Int)by omega,bXor_u rfl (show s<2^IntKind.u32.bits from hs) (show b.toNat<2^IntKind.u32.bits by show _<4294967296;omega)];refine gy 3 ?_;refine cseqT ?_;intro K3 hK3;refine gc 4 ?_
 have hJ1: ∀x:Nat,((x≤8)∧(x=8))→Sk 22 K3 ([(10,i64 x),(0,.int .u32 (crcN x (s^^^b.toNat)))]) (R):=by
  rintro k ⟨hI1,hX1⟩;refine hK3 _ _ ?_;have hk:=hI1;have hn:=crcN_lt hx k;subst hX1;refine gc 6 ?_;refine kretv results218 rfl (L1:=R) zge ?_;exact⟨_,⟨by rfl,rfl⟩,by rfl⟩
 clear hK3;refine gc 1 ?_;refine cloopT (A:=Nat) (fun x=>[(10,i64 x),(0,.int .u32 (crcN x (s^^^b.toNat)))]) (fun x=>R) (fun x=>x≤8) (fun x=>8-x) (0) ?_ zsub zge ?_
 · exact Nat.zero_le _
 rintro k hI1 KL1 hL1;have hI1o:=hI1;have hk:=hI1;have hn:=crcN_lt hx k;refine gc 5 ?_;refine cc rfl (fun h11=>?_) (fun h11=>?_)
 ·refine gc 6 ?_;refine y (ev_and rfl rfl) rfl ?_;refine gy 5 ?_;refine y (ev_shr rfl rfl (by decide)) rfl ?_;rw[show(crcN k (s^^^b.toNat):Int).fdiv (2^(min (1:Int).toNat IntKind.u32.bits))=((crcN k (s^^^b.toNat) / 2:Nat):Int)by exact fdiv2 (k:=2)];have hcb:=crcBit_bits hn;refine gy 8 ?_;refine cc rfl (fun h20=>?_) (fun h20=>?_)
  ·rw[if_pos h20]at hcb;refine gc 2 ?_;refine y (ev_xor rfl rfl) rfl ?_;rw[hcb];refine gy 6 ?_;rw[show IntKind.i64.wrap ((k:Int)+1)=((k+1:Nat):Int)by rw[wr (by omega) (by omega)];rfl];refine gy 3 ?_;exact hL1 (k+1) ((show k+1≤8 by omega)) (by omega) _ _ zsub zge
  rw[if_neg h20]at hcb;rw[hcb];refine gc 5 ?_;rw[show IntKind.i64.wrap ((k:Int)+1)=((k+1:Nat):Int)by rw[wr (by omega) (by omega)];rfl];refine gy 3 ?_;exact hL1 (k+1) ((show k+1≤8 by omega)) (by omega) _ _ zsub zge
 refine gc 5 ?_;exact ksub zsub zge (hJ1 k ⟨hI1o,by omega⟩)
theorem cMore [Env]{R:List Seg}{s:Nat}{v:Value}{bs:Bytes}(hb:RdV R v bs.length (bytesV bs))(hs:s<4294967296)(hl:bs.length<1000000):Con Tryz.prog 196 [.int .u32 s,v] [] R (Is (.int .u32 (crcMore s bs)) []):=by
 refine con_enter func196 ntmps196 rfl rfl ?_;refine gc 6 ?_;refine y (ev_cpl rfl) rfl ?_;rw[cpl32 hs];refine gy 3 ?_;refine cseqT ?_;intro K3 hK3;refine gc 2 ?_;refine y (ev_lenV rfl underlying55 (RdV.lenVal (by assumption))) rfl ?_;refine gy 3 ?_
 have hJ1: ∀x:Nat,((x≤bs.length)∧(x=bs.length))→Sk 22 K3 ([(12,i64 x),(11,i64 bs.length),(10,v),(5,.int .u32 (((bs.take x).foldl crcOn (4294967295-s):Nat)))]) (R):=by
  rintro k ⟨hI1,hX1⟩;refine hK3 _ _ ?_;have hk:=hI1;subst hX1;rw[List.take_length];refine gc 2 ?_;refine y (ev_cpl rfl) rfl ?_;rw[cpl32 (crcFold_lt (by omega))];refine gy 4 ?_;refine kretv results196 rfl (L1:=R) zge ?_;exact⟨_,⟨by rfl,rfl⟩,by rfl⟩
 clear hK3;refine gc 1 ?_;refine cloopT (A:=Nat) (fun x=>[(12,i64 x),(11,i64 bs.length),(10,v),(5,.int .u32 (((bs.take x).foldl crcOn (4294967295-s):Nat)))]) (fun x=>R) (fun x=>x≤bs.length) (fun x=>bs.length-x) (0) ?_ zsub zge ?_
 · exact Nat.zero_le _
 rintro k hI1 KL1 hL1;have hI1o:=hI1;have hk:=hI1;refine gc 5 ?_;refine cc rfl (fun h39=>?_) (fun h39=>?_)
 ·refine gc 5 ?_;refine y (ev_ixV (by assumption) rfl rfl underlying55 sizeOf5 (by omega) (by omega)) rfl ?_;refine y (ev_loadV k hb zge rfl isAgg5 (by simp) (bytesV_get (by omega))) rfl ?_;refine gy 6 ?_;refine yci (cOn ?lt45) call218 ?_
  case lt45=>exact crcFold_lt (by omega)
  rw[show crcOn (List.foldl crcOn (4294967295-s) (bs.take k)) (bs[k]?.getD 0)=List.foldl crcOn (4294967295-s) (bs.take (k+1))by rw[List.take_add_one,List.foldl_append,List.getElem?_eq_getElem (by omega)];rfl];refine gy 6 ?_;rw[show IntKind.i64.wrap ((k:Int)+1)=((k+1:Nat):Int)by rw[wr (by omega) (by omega)];rfl];refine gy 3 ?_;exact hL1 (k+1) ((show k+1≤bs.length by omega)) (by omega) _ _ zsub zge
 refine gc 5 ?_;exact ksub zsub zge (hJ1 k ⟨hI1o,by omega⟩)
theorem cSum [Env]{R:List Seg}{v:Value}{bs:Bytes}(hb:RdV R v bs.length (bytesV bs))(hl:bs.length<1000000):Con Tryz.prog 145 [v] [] R (Is (.int .u32 (sumM bs)) []):=by
 refine con_enter func145 ntmps145 rfl rfl ?_;refine gc 6 ?_;refine yci (cMore (s:=0) (bs:=bs) ?bs51 ?lt51 ?len51) call196 ?_
 case bs51=>exact hb.mono zge
 case lt51=>decide
 case len51=>omega
 refine gy 4 ?_;refine kretv results145 rfl (L1:=R) zge ?_;exact⟨_,⟨by rfl,rfl⟩,by rfl⟩
theorem cCheck [Env]{R:List Seg}{v:Value}{bs:Bytes}{s:Nat}(hb:RdV R v bs.length (bytesV bs))(hl:bs.length<1000000):Con Tryz.prog 135 [v,.int .u32 s] [] R (Is (.bool (decide (sumM bs=s))) []):=by
 refine con_enter func135 ntmps135 rfl rfl ?_;refine gc 6 ?_;refine yci (cSum (bs:=bs) ?bs55 ?len55) call145 ?_
 case bs55=>exact hb.mono zge
 case len55=>omega
 refine gy 6 ?_;refine kretv results135 rfl (L1:=R) zge ?_;exact⟨_,⟨by(simp;omega),rfl⟩,by rfl⟩
theorem cNumber [Env]{R R0:List Seg}{p:Nat}{v:Value}{bs:Bytes}(hg:Ge R R0)(hb:RdY R0 v bs):
   ConP Tryz.prog 143 [ptr p] [rdrP p v] R (fun u L'=> ∃q v',numD 0 bs=some q∧RdY R0 v' q.2∧u=i64 (zag q.1)∧L'=[rdrP p v']) badV (fun L'=>numD 0 bs=none∧ ∃v',L'=[rdrP p v']):=by
 refine conP_enter func143 ntmps143 rfl rfl ?_;refine cyn 1 ?_;refine cyn 1 ?_;refine cyn 1 ?_;refine cblock ?_;refine cloop (A:=Nat × Nat × Value × Bytes) (fun x=>[(4,i64 ((7*x.1:Nat))),(3,.int .u64 (x.2.1:Nat)),(0,ptr p)]) (fun x=>[rdrP p x.2.2.1]++R) (fun x=>RdY R0 x.2.2.1 x.2.2.2∧NumI bs x.1 x.2.1 x.2.2.2) (fun x=>10-x.1) ((0,0,v,bs)) ?_ zsub zge ?_
 · exact⟨hb,.zero bs⟩
 rintro⟨k,u,v1,b1⟩ hI1 KL1 hL1;obtain⟨hb1,hi1⟩:=hI1;dsimp only at hb1 hi1 ⊢;have hk9:=hi1.k9;have hbR:=hb1.mono hg;refine cseq ?_;intro K4 hK4;refine cblock ?_;refine cy 1 ?_;refine ycallP (cTake (bs:=b1) ?hb5 ?hz5) rfl call142 ztk rfl ?_ ?_
 case hb5=>exact hbR.mono zge
 case hz5=>decide
 ·rintro L' ⟨hlt9,rfl⟩;refine kthp (kbpp (kthp (kthp (kbpp ?_))));refine kpan (L1:=[sc p _ 165]++R) zge ?_;obtain rfl:b1=[]:=List.eq_nil_of_length_eq_zero (by omega);exact⟨_,⟨hi1.none,_,rfl⟩,rfl⟩
 rintro v L' ⟨hle9,rfl,rfl⟩;obtain⟨x,r,rfl⟩: ∃x r,b1=x::r:=by cases b1 with|nil=>exact absurd hle9 (by decide)|cons x r=>exact⟨x,r,rfl⟩
 have hv9:=rd1 hbR;have hr9:=rdr1 hb1;have hxl:=x.toNat_lt;refine y (ev_ixV hv9 rfl rfl underlying55 sizeOf5 (by decide) (by decide)) rfl ?_;refine y (ev_loadV 0 hv9 zge rfl isAgg5 rfl rfl) rfl ?_;refine yn 1 ?_;refine cseq ?_;intro K6 hK6;refine cy 3 ?_;refine ysp 14 rfl (fun h12=>?_) (fun h12=>?_)
 ·refine yr 4 ?_;refine ysp 18 rfl (fun h17=>?_) (fun h17=>?_)
  ·refine yr 3 ?_;refine yg0u rfl rfl rfl ?_;refine yg0u rfl rfl rfl ?_;refine yn 2 ?_;refine ccond1 rfl ?_;refine creg ?_;refine y (ev_be rfl) rfl ?_;refine y (ev_iface rfl (by kernel_rfl)) rfl ?_;refine ypanic rfl ?_;refine kthp (kbpp (kthp (kthp (kbpp ?_))));refine kpan (L1:=[sc p _ 165]++R) zge ?_;exact⟨_,⟨hi1.bad (by omega),_,rfl⟩,rfl⟩
  refine yr 3 ?_;refine ysp 21 rfl (fun h25=>?_) (fun h25=>?_)
  ·refine yn 4 ?_;refine cc rfl (fun h30=>?_) (fun h30=>?_)
   ·refine creg ?_;refine y (ev_be rfl) rfl ?_;refine y (ev_iface rfl (by kernel_rfl)) rfl ?_;refine ypanic rfl ?_;refine kthp (kbpp (kthp (kthp (kbpp ?_))));refine kpan (L1:=[sc p _ 165]++R) zge ?_;exact⟨_,⟨hi1.bad (by omega),_,rfl⟩,rfl⟩
   refine cskip' (kthn (hK6 _ _ ?_));clear hK6;refine csr ?_;have hok: ¬((k=9∧1<x.toNat)∨(0<k∧x.toNat=0)):=by omega
   obtain⟨hf1,hf2⟩:=hi1.fit hok;refine yr 2 ?_;refine y (ev_and rfl rfl) rfl ?_;rw[and127 hxl];refine y (ev_conv rfl underlying5 underlying138) rfl ?_;rw[wu64,show((x.toNat % 128:Nat):Int) % 18446744073709551616=((x.toNat % 128:Nat):Int)by omega];refine yr 1 ?_;refine y (ev_shl rfl rfl (by omega)) rfl ?_;rw[shl7 hk9 hf1];refine y (ev_or rfl rfl) rfl ?_;rw[orShift hi1.lt hf1 (by have:=hi1.lt;have:=pow7 hk9;omega)];refine yn 1 ?_;refine cyn 2 ?_;refine cc rfl (fun h44=>?_) (fun h44=>?_)
   ·refine cy 1 ?_;refine y (ev_shr rfl rfl (by decide)) rfl ?_;rw[show(((u+x.toNat % 128*2^(7*k):Nat)):Int).fdiv (2^(min (1:Int).toNat IntKind.u64.bits))=(((u+x.toNat % 128*2^(7*k)) / 2:Nat):Int)by exact fdiv2 (k:=2)];refine y (ev_conv rfl underlying138 underlying2) rfl ?_;refine yr 1 ?_;refine y (ev_and rfl rfl) rfl ?_;rw[and1_64 hf2];refine y (ev_conv rfl underlying138 underlying2) rfl ?_;refine y (ev_neg rfl) rfl ?_;refine y (ev_xor rfl rfl) rfl ?_;rw[zag_bits hf2];refine yn 1 ?_;refine cret (kbr (kthr (kthr (kbr ?_))));refine kretvP results143 rfl (L1:=[sc p _ 165]++R) zge ?_;exact⟨_,⟨_,_,hi1.last hok (by omega),hr9,rfl,rfl⟩,rfl⟩
   refine cskip' (kbn (kthn (hK4 _ _ ?_)));clear hK4;refine cr 2 ?_;rw[show IntKind.i64.wrap (((7*k:Nat):Int)+7)=((7*(k+1):Nat):Int)by rw[wr (by omega) (by omega)];omega];refine yr 1 ?_;refine ynil' (kthn ?_);exact hL1 (k+1,u+x.toNat % 128*2^(7*k),_,r) ⟨hr9,hi1.next hok (by omega)⟩ (by dsimp only;omega) _ _ zsub zge
  refine yn 4 ?_;refine ccond0 rfl ?_;refine cskip' (kthn (hK6 _ _ ?_));clear hK6;refine csr ?_;have hok: ¬((k=9∧1<x.toNat)∨(0<k∧x.toNat=0)):=by omega
  obtain⟨hf1,hf2⟩:=hi1.fit hok;refine yr 2 ?_;refine y (ev_and rfl rfl) rfl ?_;rw[and127 hxl];refine y (ev_conv rfl underlying5 underlying138) rfl ?_;rw[wu64,show((x.toNat % 128:Nat):Int) % 18446744073709551616=((x.toNat % 128:Nat):Int)by omega];refine yr 1 ?_;refine y (ev_shl rfl rfl (by omega)) rfl ?_;rw[shl7 hk9 hf1];refine y (ev_or rfl rfl) rfl ?_;rw[orShift hi1.lt hf1 (by have:=hi1.lt;have:=pow7 hk9;omega)];refine yn 1 ?_;refine cyn 2 ?_;refine cc rfl (fun h69=>?_) (fun h69=>?_)
  ·refine cy 1 ?_;refine y (ev_shr rfl rfl (by decide)) rfl ?_;rw[show(((u+x.toNat % 128*2^(7*k):Nat)):Int).fdiv (2^(min (1:Int).toNat IntKind.u64.bits))=(((u+x.toNat % 128*2^(7*k)) / 2:Nat):Int)by exact fdiv2 (k:=2)];refine y (ev_conv rfl underlying138 underlying2) rfl ?_;refine yr 1 ?_;refine y (ev_and rfl rfl) rfl ?_;rw[and1_64 hf2];refine y (ev_conv rfl underlying138 underlying2) rfl ?_;refine y (ev_neg rfl) rfl ?_;refine y (ev_xor rfl rfl) rfl ?_;rw[zag_bits hf2];refine yn 1 ?_;refine cret (kbr (kthr (kthr (kbr ?_))));exfalso;omega
  refine cskip' (kbn (kthn (hK4 _ _ ?_)));clear hK4;refine cr 2 ?_;rw[show IntKind.i64.wrap (((7*k:Nat):Int)+7)=((7*(k+1):Nat):Int)by rw[wr (by omega) (by omega)];omega];refine yr 1 ?_;refine ynil' (kthn ?_);exact hL1 (k+1,u+x.toNat % 128*2^(7*k),_,r) ⟨hr9,hi1.next hok (by omega)⟩ (by dsimp only;omega) _ _ zsub zge
 refine yr 7 ?_;refine ysp 21 rfl (fun h87=>?_) (fun h87=>?_)
 ·refine yn 4 ?_;refine cc rfl (fun h92=>?_) (fun h92=>?_)
  ·refine creg ?_;refine y (ev_be rfl) rfl ?_;refine y (ev_iface rfl (by kernel_rfl)) rfl ?_;refine ypanic rfl ?_;refine kthp (kbpp (kthp (kthp (kbpp ?_))));refine kpan (L1:=[sc p _ 165]++R) zge ?_;exact⟨_,⟨hi1.bad (by omega),_,rfl⟩,rfl⟩
  refine cskip' (kthn (hK6 _ _ ?_));clear hK6;refine csr ?_;have hok: ¬((k=9∧1<x.toNat)∨(0<k∧x.toNat=0)):=by omega
  obtain⟨hf1,hf2⟩:=hi1.fit hok;refine yr 2 ?_;refine y (ev_and rfl rfl) rfl ?_;rw[and127 hxl];refine y (ev_conv rfl underlying5 underlying138) rfl ?_;rw[wu64,show((x.toNat % 128:Nat):Int) % 18446744073709551616=((x.toNat % 128:Nat):Int)by omega];refine yr 1 ?_;refine y (ev_shl rfl rfl (by omega)) rfl ?_;rw[shl7 hk9 hf1];refine y (ev_or rfl rfl) rfl ?_;rw[orShift hi1.lt hf1 (by have:=hi1.lt;have:=pow7 hk9;omega)];refine yn 1 ?_;refine cyn 2 ?_;refine cc rfl (fun h106=>?_) (fun h106=>?_)
  ·refine cy 1 ?_;refine y (ev_shr rfl rfl (by decide)) rfl ?_;rw[show(((u+x.toNat % 128*2^(7*k):Nat)):Int).fdiv (2^(min (1:Int).toNat IntKind.u64.bits))=(((u+x.toNat % 128*2^(7*k)) / 2:Nat):Int)by exact fdiv2 (k:=2)];refine y (ev_conv rfl underlying138 underlying2) rfl ?_;refine yr 1 ?_;refine y (ev_and rfl rfl) rfl ?_;rw[and1_64 hf2];refine y (ev_conv rfl underlying138 underlying2) rfl ?_;refine y (ev_neg rfl) rfl ?_;refine y (ev_xor rfl rfl) rfl ?_;rw[zag_bits hf2];refine yn 1 ?_;refine cret (kbr (kthr (kthr (kbr ?_))));refine kretvP results143 rfl (L1:=[sc p _ 165]++R) zge ?_;exact⟨_,⟨_,_,hi1.last hok (by omega),hr9,rfl,rfl⟩,rfl⟩
  refine cskip' (kbn (kthn (hK4 _ _ ?_)));clear hK4;refine cr 2 ?_;rw[show IntKind.i64.wrap (((7*k:Nat):Int)+7)=((7*(k+1):Nat):Int)by rw[wr (by omega) (by omega)];omega];refine yr 1 ?_;refine ynil' (kthn ?_);exact hL1 (k+1,u+x.toNat % 128*2^(7*k),_,r) ⟨hr9,hi1.next hok (by omega)⟩ (by dsimp only;omega) _ _ zsub zge
 refine yn 4 ?_;refine ccond0 rfl ?_;refine cskip' (kthn (hK6 _ _ ?_));clear hK6;refine csr ?_;have hok: ¬((k=9∧1<x.toNat)∨(0<k∧x.toNat=0)):=by omega
 obtain⟨hf1,hf2⟩:=hi1.fit hok;refine yr 2 ?_;refine y (ev_and rfl rfl) rfl ?_;rw[and127 hxl];refine y (ev_conv rfl underlying5 underlying138) rfl ?_;rw[wu64,show((x.toNat % 128:Nat):Int) % 18446744073709551616=((x.toNat % 128:Nat):Int)by omega];refine yr 1 ?_;refine y (ev_shl rfl rfl (by omega)) rfl ?_;rw[shl7 hk9 hf1];refine y (ev_or rfl rfl) rfl ?_;rw[orShift hi1.lt hf1 (by have:=hi1.lt;have:=pow7 hk9;omega)];refine yn 1 ?_;refine cyn 2 ?_;refine cc rfl (fun h131=>?_) (fun h131=>?_)
 ·refine cy 1 ?_;refine y (ev_shr rfl rfl (by decide)) rfl ?_;rw[show(((u+x.toNat % 128*2^(7*k):Nat)):Int).fdiv (2^(min (1:Int).toNat IntKind.u64.bits))=(((u+x.toNat % 128*2^(7*k)) / 2:Nat):Int)by exact fdiv2 (k:=2)];refine y (ev_conv rfl underlying138 underlying2) rfl ?_;refine yr 1 ?_;refine y (ev_and rfl rfl) rfl ?_;rw[and1_64 hf2];refine y (ev_conv rfl underlying138 underlying2) rfl ?_;refine y (ev_neg rfl) rfl ?_;refine y (ev_xor rfl rfl) rfl ?_;rw[zag_bits hf2];refine yn 1 ?_;refine cret (kbr (kthr (kthr (kbr ?_))));refine kretvP results143 rfl (L1:=[sc p _ 165]++R) zge ?_;exact⟨_,⟨_,_,hi1.last hok (by omega),hr9,rfl,rfl⟩,rfl⟩
 refine cskip' (kbn (kthn (hK4 _ _ ?_)));clear hK4;refine cr 2 ?_;rw[show IntKind.i64.wrap (((7*k:Nat):Int)+7)=((7*(k+1):Nat):Int)by rw[wr (by omega) (by omega)];omega];refine yr 1 ?_;refine ynil' (kthn ?_);exact hL1 (k+1,u+x.toNat % 128*2^(7*k),_,r) ⟨hr9,hi1.next hok (by omega)⟩ (by dsimp only;omega) _ _ zsub zge
abbrev nilS:Value:= .slice none 0 0
def recP(b:Nat)(k:Int)(sn:Sv)(n:Nat)(st:Sv)(m:Nat):Seg:=sc b [i64 k,svVal sn n,svVal st m] 88
def recV(r:RecM)(sn st:Sv):Value:= .agg #[i64 r.kind,svVal sn r.nums.length,svVal st r.texts.length]
/-- A record's two slices, as they lie. -/
structure RecOk(r:RecM)(sn st:Sv):Prop where
 n:svOk sn r.nums.length 1 (intsV r.nums)
 t:svOk st r.texts.length 1 (strsV r.texts)
abbrev recSegs(r:RecM)(sn st:Sv):List Seg:=[svSeg sn 2 (intsV r.nums),svSeg st 9 (strsV r.texts)]
theorem cRec [Env]{R:List Seg}{p:Nat}{v:Value}{bs:Bytes}(hb:RdY R v bs):
   ConP Tryz.prog 87 [ptr p] [rdrP p v] R (fun u L'=> ∃r sn st v',recD bs=some r∧u=recV r sn st∧RecOk r sn st∧L'=rdrP p v'::recSegs r sn st) badV (fun L'=>recD bs=none∧ ∃v',L'=[rdrP p v']):=by
 refine conP_enter func87 ntmps87 rfl rfl ?_;refine csr ?_;refine ya (ac_alloc zeroValue88 rfl) rfl ?_;rintro v L' ⟨b2,rfl,rfl⟩;refine ynr ?_;refine cy 1 ?_;refine ycallP (cTake (bs:=bs) ?hb3 ?hz3) rfl call142 ztk rfl ?_ ?_
 case hb3=>exact hb.mono zge
 case hz3=>decide
 ·rintro L' ⟨hlt9,rfl⟩;refine kthp ?_;refine kpan (L1:=[sc p _ 165]++R) zge ?_;exact⟨_,⟨recD_short (by omega),_,rfl⟩,rfl⟩
 rintro v L' ⟨hle9,rfl,rfl⟩;obtain⟨k0,h0,r,rfl⟩: ∃k h r,bs=k::h::r:=by match bs,hle9 with|k::h::r,_=>exact⟨k,h,r,rfl⟩
 have hv9:=rd2 hb;have hb1:=rdr2 hb;have hkl:=k0.toNat_lt;have hhl:=h0.toNat_lt;refine yn 1 ?_;refine cy 1 ?_;refine y (ev_ixV hv9 rfl rfl underlying55 sizeOf5 (by decide) (by decide)) rfl ?_;refine y (ev_loadV 0 hv9 zge rfl isAgg5 rfl rfl) rfl ?_;refine y (ev_conv rfl underlying5 underlying3) rfl ?_;rw[wr (by omega) (by omega)];refine y (ev_be rfl) rfl ?_;refine ya (ac_alloc zeroValue88 rfl) rfl ?_;rintro v L' ⟨b4,rfl,rfl⟩;refine yst (ac_storeAll rfl rfl (by simp[Value.oneCell']) sizeOf88 zrp (by rfl) (by rfl)) ?_;refine ynr ?_;refine cseq ?_;intro K4 hK4;refine cdrawP 11 [(0,true),(1,true),(2,true),(3,true),(4,true),(5,true),(6,true),(7,true),(8,true),(9,true),(10,true)] (_) _ (fun c a w h1 h2=>⟨h1,h2⟩) Tryz.mixed (by kernel_rfl) .refl ?_;refine hy 1 ?_;refine hr rfl (ev_ixV hv9 rfl rfl underlying55 sizeOf5 (by decide) (by decide)) rfl ?_;refine hr rfl (ev_loadV 1 hv9 zge rfl isAgg5 rfl rfl) rfl ?_;refine hr rfl (ev_rem rfl rfl (by decide)) rfl ?_;rw[show((h0.toNat:Int)).tmod 16=((h0.toNat % 16:Nat):Int)from rfl];refine hr rfl (ev_conv rfl underlying5 underlying3) rfl ?_;rw[wr (by omega) (by omega)];refine hy 1 ?_;refine hr rfl (ev_ixV hv9 rfl rfl underlying55 sizeOf5 (by decide) (by decide)) rfl ?_;refine hr rfl (ev_loadV 1 hv9 zge rfl isAgg5 rfl rfl) rfl ?_;refine hr rfl (ev_quo rfl rfl (by decide)) rfl ?_;rw[wu8,show((h0.toNat:Int)).tdiv 16=((h0.toNat / 16:Nat):Int)from rfl,show((h0.toNat / 16:Nat):Int) % 256=((h0.toNat / 16:Nat):Int)by omega];refine hr rfl (ev_conv rfl underlying5 underlying3) rfl ?_;rw[wr (by omega) (by omega)];refine hy 1 ?_;refine hnil ?_;refine yr 1 ?_;refine hwP (kthn (hK4 _ _ ?_));clear hK4;refine cseq ?_;intro K5 hK5
 have hJr6: ∀x:Nat × Nat,(x.1=headN h0.toNat∧x.2=headT h0.toNat)→Sk 80 K5 ([(6,i64 x.2),(5,i64 x.1),(4,ptr b4),(2,ptr b2),(0,ptr p)]) ([rdrP p (vSl v 2 (k0::h0::r).length 1),recP b4 k0.toNat none 0 none 0,sc b2 [i64 0,nilS,nilS] 88]++R):=by
  rintro⟨nm,tx⟩ hIr6;refine hK5 _ _ ?_;obtain⟨hnm,htx⟩:=hIr6;dsimp only at hnm htx ⊢;have hn16:=headN_le h0;rw[←hnm]at hn16;unfold recP;refine cseq ?_;intro K6 hK6;refine cyn 2 ?_;refine cc rfl (fun h26=>?_) (fun h26=>?_)
  ·refine creg ?_;refine y (ev_be rfl) rfl ?_;refine y (ev_iface rfl (by kernel_rfl)) rfl ?_;refine ypanic rfl ?_;refine kthp ?_;refine kpan (L1:=[sc p _ 165]++R) zge ?_;exact⟨_,⟨recD_many (by omega),_,rfl⟩,rfl⟩
  have ht4: ¬4<headT h0.toNat:=by omega
  refine cskip' (kthn (hK6 _ _ ?_));clear hK6;refine cseq ?_;intro K8 hK8;refine cyn 2 ?_
  have hJ1: ∀x:Nat × Sv × List Int × Value × Bytes,((svOk x.2.1 x.1 1 (intsV x.2.2.1)∧RdY R x.2.2.2.1 x.2.2.2.2∧NumsI r nm x.1 x.2.2.1 x.2.2.2.2)∧(x.1=nm))→Sk 80 K8 ([(39,i64 x.1),(38,i64 nm),(6,i64 tx),(4,ptr b4),(2,ptr b2),(0,ptr p)]) ([rdrP p x.2.2.2.1,recP b4 k0.toNat x.2.1 x.1 none 0,svSeg x.2.1 2 (intsV x.2.2.1),sc b2 [i64 0,nilS,nilS] 88]++R):=by
   rintro⟨k,sn,ns,v1,b1⟩ ⟨hI1,hX1⟩;refine hK8 _ _ ?_;obtain⟨okn,hb1,hni⟩:=hI1;dsimp only at okn hb1 hni ⊢;have hkn:=hni.le;unfold recP;dsimp only at hX1;subst hX1;have hnd:=hni.done;rw[hnm]at hnd;refine cseq ?_;intro K10 hK10;refine cyn 2 ?_
   have hJ2: ∀x:Nat × Sv × List Bytes × Value × Bytes,((svOk x.2.1 x.1 1 (strsV x.2.2.1)∧RdY R x.2.2.2.1 x.2.2.2.2∧TextsI b1 tx x.1 x.2.2.1 x.2.2.2.2)∧(x.1=tx))→Sk 80 K10 ([(50,i64 x.1),(49,i64 tx),(4,ptr b4),(2,ptr b2),(0,ptr p)]) ([rdrP p x.2.2.2.1,recP b4 k0.toNat sn k x.2.1 x.1,svSeg x.2.1 9 (strsV x.2.2.1),svSeg sn 2 (intsV ns),sc b2 [i64 0,nilS,nilS] 88]++R):=by
    rintro⟨z,st,ts,vv,bb⟩ ⟨hI2,hX2⟩;refine hK10 _ _ ?_;obtain⟨okt,hb2,hti⟩:=hI2;dsimp only at okt hb2 hti ⊢;have hkt:=hti.le;unfold recP;dsimp only at hX2;subst hX2;have htd:=hti.done;rw[htx]at htd;have hv2:=hb2.rd;refine cseq ?_;intro K12 hK12;refine cy 4 ?_;refine y (ev_lenV rfl underlying55 (RdV.lenVal (by assumption))) rfl ?_;refine yn 1 ?_;refine cc rfl (fun h40=>?_) (fun h40=>?_)
    ·refine creg ?_;refine y (ev_be rfl) rfl ?_;refine y (ev_iface rfl (by kernel_rfl)) rfl ?_;refine ypanic rfl ?_;refine kthp ?_;refine kpan (L1:=[sc p _ 165]++R) zge ?_;exact⟨_,⟨recD_more ht4 hnd htd (by intro e;subst e;simp_all),_,rfl⟩,rfl⟩
    obtain rfl:bb=[]:=List.eq_nil_of_length_eq_zero (by omega);refine cskip' (kthn (hK12 _ _ ?_));clear hK12;refine csr ?_;refine y (ev_loadAll rfl isAgg88 sizeOf88 zin (by rfl)) rfl ?_;refine yst (ac_storeAll rfl rfl (by(simp only[List.forall_mem_cons,List.not_mem_nil,false_implies,implies_true,svVal_one,and_true,true_and,and_self];first|done|simp[Value.oneCell'])) sizeOf88 zrp (by rfl) (by rfl)) ?_;refine ynr ?_;refine cret ?_;refine kretcP (by simp) results87 rfl isAgg88 sizeOf88 zin rfl (L1:=[sc p _ 165,svSeg sn 2 (intsV ns),svSeg st 9 (strsV ts)]++R) zge ?_;exact⟨_,⟨⟨k0.toNat,ns,ts⟩,sn,st,_,recD_some ht4 hnd htd,by unfold recV;rw[hni.len,hti.len],⟨by rw[hni.len];exact okn,by rw[hti.len];exact okt⟩,rfl⟩,rfl⟩
   clear hK10;refine cblock ?_;refine cloop (A:=Nat × Sv × List Bytes × Value × Bytes) (fun x=>[(50,i64 x.1),(49,i64 tx),(4,ptr b4),(2,ptr b2),(0,ptr p)]) (fun x=>[rdrP p x.2.2.2.1,recP b4 k0.toNat sn k x.2.1 x.1,svSeg x.2.1 9 (strsV x.2.2.1),svSeg sn 2 (intsV ns),sc b2 [i64 0,nilS,nilS] 88]++R) (fun x=>svOk x.2.1 x.1 1 (strsV x.2.2.1)∧RdY R x.2.2.2.1 x.2.2.2.2∧TextsI b1 tx x.1 x.2.2.1 x.2.2.2.2) (fun x=>tx-x.1) ((0,none,[],v1,b1)) ?_ zsub zge ?_
   · exact⟨⟨rfl,rfl⟩,hb1,.zero b1 tx⟩
   rintro⟨z,st,ts,vv,bb⟩ hI2 KL2 hL2;have hI2o:=hI2;obtain⟨okt,hb2,hti⟩:=hI2;dsimp only at okt hb2 hti ⊢;have hkt:=hti.le;unfold recP;refine cyn 1 ?_;refine cseq ?_;intro K16 hK16;refine cc rfl (fun h47=>?_) (fun h47=>?_)
   ·refine cskip' (kthn (hK16 _ _ ?_));clear hK16;refine cseq ?_;intro K17 hK17;refine cblock ?_;refine cy 1 ?_;refine ycallP (cTake (bs:=bb) ?hb49 ?hz49) rfl call142 ztk rfl ?_ ?_
    case hb49=>exact hb2.mono zge
    case hz49=>decide
    ·rintro L' ⟨hlt53,rfl⟩;refine kthp (kbpp (kthp (kthp (kbpp (kthp ?_)))));refine kpan (L1:=[sc p _ 165]++R) zge ?_;obtain rfl:bb=[]:=List.eq_nil_of_length_eq_zero (by omega);exact⟨_,⟨recD_texts ht4 hnd (by rw[←htx];exact hti.bad0 (by omega)),_,rfl⟩,rfl⟩
    rintro v L' ⟨hle53,rfl,rfl⟩;obtain⟨x,rr,rfl⟩: ∃x r,bb=x::r:=by cases bb with|nil=>exact absurd hle53 (by decide)|cons x r=>exact⟨x,r,rfl⟩
    have hv53:=rd1 hb2;have hb3:=rdr1 hb2;have hxl:=x.toNat_lt;refine y (ev_ixV hv53 rfl rfl underlying55 sizeOf5 (by decide) (by decide)) rfl ?_;refine y (ev_loadV 0 hv53 zge rfl isAgg5 rfl rfl) rfl ?_;refine y (ev_conv rfl underlying5 underlying3) rfl ?_;rw[wr (by omega) (by omega)];refine yn 1 ?_;refine cseq ?_;intro K19 hK19;refine cyn 2 ?_;refine cc rfl (fun h56=>?_) (fun h56=>?_)
    ·refine creg ?_;refine y (ev_be rfl) rfl ?_;refine y (ev_iface rfl (by kernel_rfl)) rfl ?_;refine ypanic rfl ?_;refine kthp (kbpp (kthp (kthp (kbpp (kthp ?_)))));refine kpan (L1:=[sc p _ 165]++R) zge ?_;exact⟨_,⟨recD_texts ht4 hnd (by rw[←htx];exact hti.bad (by omega) (by omega)),_,rfl⟩,rfl⟩
    refine cskip' (kthn (hK19 _ _ ?_));clear hK19;refine cdrawP 9 [(0,true),(1,true),(2,true),(3,true),(4,false),(5,true),(6,false),(7,false),(8,true)] ([sc b4 _ 88]++R) _ (fun c a w h1 h2=>⟨h1,h2⟩) Tryz.mixed (by kernel_rfl) zge ?_;refine hy 4 ?_;refine hcallP rfl (cTake (bs:=rr) ?hb64 ?hz64) rfl call142 ztk rfl ?_ ?_
    case hb64=>exact hb3.mono zge
    case hz64=>omega
    ·rintro L' ⟨hlt65,rfl⟩ w hh;exact .inr ⟨_,rfl,⟨by(exact recD_texts ht4 hnd (by rw[←htx];exact hti.bad (by omega) (by omega))),_,rfl⟩,(show Ge _ (_++R)from zge).has hh⟩
    rintro v L' ⟨hle65,rfl,rfl⟩;refine⟨zge,?_⟩;have hle:x.toNat≤rr.length:=by omega
    have hb4:=hb3.take hle;have hb5:=hb3.drop hle;refine hr rfl (ev_toStrB hb4.rd.bytes zge rfl underlying55 underlying9 underlying5) rfl ?_;refine ha rfl (ac_bsliceR rfl underlying86 sizeOf9 zeroValue9 rfl rfl rfl rfl ⟨⟨_,_,rfl,(by rfl),(by decide)⟩,trivial⟩ (by dsimp[fillL,splice,vcells,reps]<;>rfl)) rfl ?_;rintro v L' ⟨b67,rfl,rfl⟩;refine⟨zge,?_⟩;refine ha rfl (ac_append (s:=st) (xs:=strsV ts) (m:=z) (k:=1) (us:=[.string ⟨(rr.take x.toNat).toArray⟩]) (size:=1) rfl rfl (by repeat first|exact .z|apply Pk.s) underlying86 underlying86 (by intro q hq;cases hq) typeInfo9 rfl rfl rfl ?ok67 ?src67 ?one67 ?big67) rfl ?_
    case ok67=>exact okt
    case src67=>exact src_at zin rfl rfl
    case one67=>simp[Value.oneCell']
    case big67=>show(z+1)*17≤_;omega
    rintro v L' ⟨s68,rfl,ok68,rfl⟩;refine⟨zge,?_⟩;rw[strsV_snoc]at ok68 ⊢;refine hy 1 ?_;refine hnil ?_;refine yst (ac_store rfl rfl (by exact svVal_one _ _) sizeOf86 zrp rfl rfl) ?_;have hti2:=hti.step (by omega) (by omega) hle;refine hwP (kbn (kthn (hK17 _ _ ?_)));clear hK17;refine cr 1 ?_;rw[show IntKind.i64.wrap ((z:Int)+1)=((z+1:Nat):Int)by rw[wr (by omega) (by omega)];rfl];refine yr 1 ?_;refine ynil' (kthn ?_);exact hL2 (z+1,s68,ts++[rr.take x.toNat],_,rr.drop x.toNat) ⟨ok68,hb5,hti2⟩ (by dsimp only;omega) _ _ zsub zge
   refine cexit (kthx (kthx (kbx (kthn ?_))));exact ksub zsub zge (hJ2 ⟨z,st,ts,vv,bb⟩ ⟨hI2o,by dsimp only;omega⟩)
  clear hK8;refine cblock ?_;refine cloop (A:=Nat × Sv × List Int × Value × Bytes) (fun x=>[(39,i64 x.1),(38,i64 nm),(6,i64 tx),(4,ptr b4),(2,ptr b2),(0,ptr p)]) (fun x=>[rdrP p x.2.2.2.1,recP b4 k0.toNat x.2.1 x.1 none 0,svSeg x.2.1 2 (intsV x.2.2.1),sc b2 [i64 0,nilS,nilS] 88]++R) (fun x=>svOk x.2.1 x.1 1 (intsV x.2.2.1)∧RdY R x.2.2.2.1 x.2.2.2.2∧NumsI r nm x.1 x.2.2.1 x.2.2.2.2) (fun x=>nm-x.1) ((0,none,[],vSl v 2 (k0::h0::r).length 1,r)) ?_ zsub zge ?_
  · exact⟨⟨rfl,rfl⟩,hb1,.zero r nm⟩
  rintro⟨k,sn,ns,v1,b1⟩ hI1 KL1 hL1;have hI1o:=hI1;obtain⟨okn,hb1,hni⟩:=hI1;dsimp only at okn hb1 hni ⊢;have hkn:=hni.le;unfold recP;refine cyn 1 ?_;refine cseq ?_;intro K22 hK22;refine cc rfl (fun h73=>?_) (fun h73=>?_)
  ·refine cskip' (kthn (hK22 _ _ ?_));clear hK22;refine cseq ?_;intro K23 hK23;refine cblock ?_;refine cdrawP 7 [(0,true),(1,true),(2,true),(3,false),(4,false),(5,false),(6,true)] ([sc b4 _ 88]++R) _ (fun c a w h1 h2=>⟨h1,h2⟩) Tryz.mixed (by kernel_rfl) zge ?_;refine hy 3 ?_;refine hcallP rfl (cNumber (bs:=b1) (R0:=R) ?hg77 ?hb77) rfl call143 ztk rfl ?_ ?_
   case hg77=>exact zge
   case hb77=>exact hb1
   ·rintro L' ⟨hn44,v44,rfl⟩ w hh;exact .inr ⟨_,rfl,⟨by(exact recD_nums ht4 (by rw[←hnm];exact hni.bad (by omega) (by assumption))),_,rfl⟩,(show Ge _ (_++R)from zge).has hh⟩
   rintro v L' ⟨q44,v44,hn44,hb44,rfl,rfl⟩;refine⟨zge,?_⟩;refine ha rfl (ac_bsliceR rfl underlying57 sizeOf2 zeroValue2 rfl rfl rfl rfl ⟨⟨_,_,rfl,(by rfl),(by decide)⟩,trivial⟩ (by dsimp[fillL,splice,vcells,reps]<;>rfl)) rfl ?_;rintro v L' ⟨b45,rfl,rfl⟩;refine⟨zge,?_⟩;refine ha rfl (ac_append (s:=sn) (xs:=intsV ns) (m:=k) (k:=1) (us:=[i64 (zag q44.1)]) (size:=1) rfl rfl (by repeat first|exact .z|apply Pk.s) underlying57 underlying57 (by intro q hq;cases hq) typeInfo2 rfl rfl rfl ?ok79 ?src79 ?one79 ?big79) rfl ?_
   case ok79=>exact okn
   case src79=>exact src_at zin rfl rfl
   case one79=>simp[Value.oneCell']
   case big79=>show(k+1)*9≤_;omega
   rintro v L' ⟨s46,rfl,ok46,rfl⟩;refine⟨zge,?_⟩;rw[intsV_snoc]at ok46 ⊢;refine hy 1 ?_;refine hnil ?_;refine yst (ac_store rfl rfl (by exact svVal_one _ _) sizeOf57 zrp rfl rfl) ?_;have hni2:=hni.step (by omega) hn44;refine hwP (kbn (kthn (hK23 _ _ ?_)));clear hK23;refine cr 1 ?_;rw[show IntKind.i64.wrap ((k:Int)+1)=((k+1:Nat):Int)by rw[wr (by omega) (by omega)];rfl];refine yr 1 ?_;refine ynil' (kthn ?_);exact hL1 (k+1,s46,ns++[zag q44.1],v44,q44.2) ⟨ok46,hb44,hni2⟩ (by dsimp only;omega) _ _ zsub zge
  refine cexit (kthx (kthx (kbx (kthn ?_))));exact ksub zsub zge (hJ1 ⟨k,sn,ns,v1,b1⟩ ⟨hI1o,by dsimp only;omega⟩)
 clear hK5;refine cy 1 ?_;refine y (ev_ixV hv9 rfl rfl underlying55 sizeOf5 (by decide) (by decide)) rfl ?_;refine y (ev_loadV 1 hv9 zge rfl isAgg5 rfl rfl) rfl ?_;refine yn 1 ?_;refine cc rfl (fun h88=>?_) (fun h88=>?_)
 ·refine cdrawP 6 [(0,true),(1,true),(2,true),(3,true),(4,true),(5,true)] (_) _ (fun c a w h1 h2=>⟨h1,h2⟩) Tryz.mixed (by kernel_rfl) .refl ?_;refine hy 1 ?_;refine hr rfl (ev_ixV hv9 rfl rfl underlying55 sizeOf5 (by decide) (by decide)) rfl ?_;refine hr rfl (ev_loadV 1 hv9 zge rfl isAgg5 rfl rfl) rfl ?_;refine hy 1 ?_;rw[wu8,show((h0.toNat:Int)- 240) % 256=((h0.toNat- 240:Nat):Int)by omega];refine hr rfl (ev_conv rfl underlying5 underlying3) rfl ?_;rw[wr (by omega) (by omega)];refine hy 1 ?_;rw[show Value.int .i64 16=i64 ((16:Nat):Int)from rfl];refine hnil ?_;refine yr 1 ?_;refine hwP (kthn ?_);exact ksub zsub zge (hJr6 (_,_) (⟨by dsimp only;unfold headN;rw[if_pos (by omega)],by dsimp only;unfold headT;rw[if_pos (by omega)]⟩))
 refine cskip' (kthn ?_);exact ksub zsub zge (hJr6 (_,_) (⟨by dsimp only;unfold headN;rw[if_neg (by omega)],by dsimp only;unfold headT;rw[if_neg (by omega)]⟩))
end W
end Go.Proofs