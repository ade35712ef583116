/- A part of the proof. -/
import Derived.Test.YtlignadmmopdmaaGreatUn
import Derived.Test.YtlignadmmopdmaaGreatT4
import Derived.Test.YtlignadmmopdmaaGreatGC
import Derived.Test.YtlignadmmopdmaaGreatGF
set_option linter.unusedVariables false
set_option linter.unusedSimpArgs false
set_option linter.constructorNameAsVariable false
namespace Go.Proofs
open _root_.Go.Proofs.Tryz
open Go Go.Sl
namespace W
abbrev badMsg(b e:Nat)(vs:List Value)(x:Int):List Seg:=[sc b vs 88,sc e [i64 x] 31]
theorem decRecovers [Env]{b e:Nat}{x k:Int}{n1 n2:Value}:Recovers Tryz.prog 86 #[ptr b,ptr e] badV (badMsg b e [i64 k,n1,n2] x) (badMsg b e [i64 0,nilS,nilS] 4):=by
 refine recovers_enter (caps:=[ptr b,ptr e]) (t:=3) (u:=2) func86 ntmps86 results86 rfl rfl ⟨rfl,rfl,rfl⟩ ⟨rfl,rfl,rfl⟩ rfl rfl ?_ ?_
 · intro Q w hh hQ a hfa;refine wp_seq (wp_region_lit ?_);refine wy (ev_move rfl) rfl hfa hh (fun hfa=>?_);refine wp_block ?_;refine wp_seq (wp_region_lit ?_);refine wy (ev_eqlIn rfl underlying20 (.inl rfl)) rfl hfa hh (fun hfa=>?_);refine wp_cond_true (hfa.ev rfl) ?_;exact wp_skip (hQ _ hfa.defers)
 intro Q R hQ;refine cyn 1 ?_;refine cblock ?_;refine csr ?_
 skip
 ·refine y (ev_eqlIn rfl underlying20 (by exact .inr ⟨_,_,rfl⟩)) rfl ?_;refine ynr ?_;refine ccond0 rfl ?_;refine cy 1 ?_;refine y (ev_assert rfl underlying162 (by intro q hq;cases hq)) rfl ?_;refine ynr ?_;refine creg ?_;refine y (ev_be rfl) rfl ?_;refine yst (ac_storeN rfl rfl (by simp[Value.oneCell']) sizeOf88 zrp rfl (by simp) rfl) ?_;refine yst (ac_store rfl rfl (by rfl) sizeOf31 zrp rfl rfl) ?_;refine ynil' (kbn ?_);exact fun a w hf hh=>hQ a w hf.defers ((show Ge _ (badMsg b e [i64 0,nilS,nilS] 4++R)from zge).has hh)
theorem cDecode [Env]{R:List Seg}{v:Value}{bs:Bytes}(hb:RdY R v bs):
   Con Tryz.prog 47 [v] [] R (fun u L'=> ∃sn st,u= .tuple #[recV (decM bs).1 sn st,i64 (decM bs).2]∧RecOk (decM bs).1 sn st∧L'=recSegs (decM bs).1 sn st):=by
 obtain⟨vb,vc,rfl⟩:=hb.rd.lenVal;refine conD_enter func47 ntmps47 rfl rfl ?_;refine cseq ?_;intro K1 hK1;refine creg ?_;refine ya (ac_alloc zeroValue88 rfl) rfl ?_;rintro v1 L1 ⟨b2,rfl,rfl⟩;refine ya (ac_alloc zeroValue31 rfl) rfl ?_;rintro v1 L1 ⟨b3,rfl,rfl⟩;refine ynil' (kthn (hK1 _ _ ?_));clear hK1;refine cseqW ?_;refine creg ?_
 refine y (ev_mkFunc (vs:= #[ptr b2,ptr b3]) (fun a hf=>by
   have h1:a.eval (.tmp 2)=ptr b2:=hf.ev rfl;have h2:a.eval (.tmp 3)=ptr b3:=hf.ev rfl;simp[h1,h2])) rfl ?_
 refine ydefer rfl ?_;refine ynilD' ?_;refine cseqD (cregD ?_);refine yD (ev_move rfl) rfl ?_;refine yD (ev_be rfl) rfl ?_;refine yaD (ac_box rfl rfl) rfl ?_;rintro v1 L1 ⟨b8,rfl,rfl⟩;refine yD (ev_assign rfl) rfl ?_;refine ynilD' ?_;refine cseqD (cregD ?_);refine yD (ev_move rfl) rfl ?_;refine ycallPD (cRec (bs:=bs) ?hb) rfl call87 ztk rfl ?_ ?_
 case hb=>exact hb.mono zge
 · rintro L1 ⟨hn,v2,rfl⟩;refine kpanD (L1:=[[],[]]++R) (decRecovers (x:=0) (k:=0) (n1:=nilS) (n2:=nilS)) call86 results47 rfl rfl isAgg88 sizeOf88 rfl isAgg31 ztk zin zin zge ?_;exact⟨[[],[]],⟨none,none,by unfold decM;rw[hn];rfl,by unfold decM;rw[hn];exact⟨⟨rfl,rfl⟩,⟨rfl,rfl⟩⟩,by unfold decM;rw[hn];rfl⟩,rfl⟩
 rintro v1 L1 ⟨r,sn,st,v2,hr,rfl,hok,rfl⟩;refine ya0D (ac_storeN rfl rfl (by simp only[List.forall_mem_cons,List.not_mem_nil,false_implies,implies_true,svVal_one,and_true,true_and,and_self];rfl) sizeOf88 zrp rfl (by simp) rfl) ?_;rintro v1 L1 ⟨rfl,rfl⟩;refine ya0D (ac_store rfl rfl rfl sizeOf31 zrp rfl rfl) ?_;rintro v1 L1 ⟨rfl,rfl⟩;refine ynilD' ?_;refine cretD ?_;refine kretD (L1:=recSegs r sn st++R) (decRecovers (x:=0) (k:=0) (n1:=nilS) (n2:=nilS)) call86 results47 rfl rfl isAgg88 sizeOf88 rfl isAgg31 zin zin zge ?_;exact⟨_,⟨sn,st,by unfold decM;rw[hr];rfl,by unfold decM;rw[hr];exact hok,by unfold decM;rw[hr]⟩,rfl⟩
/-- Whether one of the strings is told 'yes' of. -/
theorem cIndexStr [Env]{R:List Seg}{v:Value}{ts:List Bytes}{g:FuncId}{p:Bytes→Bool}(hv:RdV R v ts.length (strsV ts))(hl:ts.length<1000000)
   (hcall: ∀(args:Array Value) (w:World),(callFunc g args).run Tryz.prog w= .ok (.enter g args) w) (hp: ∀(R:List Seg) (t:Bytes),Con Tryz.prog g ([.string ⟨t.toArray⟩]++[]) [] R (Is (.bool (p t)) [])):
   Con Tryz.prog 219 [v,.func (.func g) #[] #[]] [] R (fun u L'=> ∃i:Int,u=i64 i∧decide (0≤i)=ts.any p∧L'=[]):=by
 refine con_enter func219 ntmps219 rfl rfl ?_;refine gc 4 ?_;refine cseqT ?_;intro K2 hK2;refine gc 2 ?_;refine y (ev_lenV rfl underlying86 (RdV.lenVal (by assumption))) rfl ?_;refine gy 3 ?_
 have hJ1: ∀x:Nat,((x≤ts.length∧(ts.take x).any p=false)∧(x=ts.length))→Sk 19 K2 ([(8,i64 x),(7,i64 ts.length),(0,v),(1,.func (.func g) #[] #[])]) (R):=by
  rintro k ⟨hI1,hX1⟩;refine hK2 _ _ ?_;obtain⟨hk,hno⟩:=hI1;subst hX1;rw[List.take_length]at hno;refine gc 5 ?_;refine kretv results219 rfl (L1:=R) zge ?_
  first
    |exact⟨[],⟨_,rfl,by rw[hyes];simp,rfl⟩,rfl⟩
    |exact⟨[],⟨_,rfl,by rw[hno];simp,rfl⟩,rfl⟩
 clear hK2;refine gc 1 ?_;refine cloopT (A:=Nat) (fun x=>[(8,i64 x),(7,i64 ts.length),(0,v),(1,.func (.func g) #[] #[])]) (fun x=>R) (fun x=>x≤ts.length∧(ts.take x).any p=false) (fun x=>ts.length-x) (0) ?_ zsub zge ?_
 · exact⟨Nat.zero_le _,by simp⟩
 rintro k hI1 KL1 hL1;have hI1o:=hI1;obtain⟨hk,hno⟩:=hI1;refine gc 5 ?_;refine cc rfl (fun h7=>?_) (fun h7=>?_)
 ·obtain⟨t,ht⟩: ∃t,ts[k]? =some t:=⟨_,List.getElem?_eq_getElem (by omega)⟩;refine gc 13 ?_;refine y (ev_ixV (by assumption) rfl rfl underlying86 sizeOf9 (by omega) (by omega)) rfl ?_;refine y (ev_loadV k hv zge rfl isAgg9 (by simp) (strsV_get ht)) rfl ?_;refine ycallF rfl (hp _ t) rfl hcall ztk rfl ?_;rintro v L' ⟨rfl,rfl⟩;refine gy 2 ?_;refine cc rfl (fun h16=>?_) (fun h16=>?_)
  ·have hyes:ts.any p=true:=List.any_eq_true.2 ⟨t,List.mem_of_getElem? ht,h16⟩;refine gc 11 ?_
   first
     |(exfalso;omega;done)
     | (refine kretv results219 rfl (L1:=R) zge ?_
        first
          |exact⟨[],⟨_,rfl,by rw[hyes];simp,rfl⟩,rfl⟩
          |exact⟨[],⟨_,rfl,by rw[hno];simp,rfl⟩,rfl⟩)
  have hno2:(ts.take (k+1)).any p=false:=by rw[take_snoc ht];simp[hno,h16]
  refine gc 5 ?_;rw[show IntKind.i64.wrap ((k:Int)+1)=((k+1:Nat):Int)by rw[wr (by omega) (by omega)];rfl];refine gy 3 ?_;exact hL1 (k+1) (⟨by omega,hno2⟩) (by omega) _ _ zsub zge
 refine gc 5 ?_;exact ksub zsub zge (hJ1 k ⟨hI1o,by omega⟩)
theorem cContainsStr [Env]{R:List Seg}{v:Value}{ts:List Bytes}{g:FuncId}{p:Bytes→Bool}(hv:RdV R v ts.length (strsV ts))(hl:ts.length<1000000)
   (hcall: ∀(args:Array Value) (w:World),(callFunc g args).run Tryz.prog w= .ok (.enter g args) w) (hp: ∀(R:List Seg) (t:Bytes),Con Tryz.prog g ([.string ⟨t.toArray⟩]++[]) [] R (Is (.bool (p t)) [])):
   Con Tryz.prog 197 [v,.func (.func g) #[] #[]] [] R (Is (.bool (ts.any p)) []):=by
 refine con_enter func197 ntmps197 rfl rfl ?_;refine gc 7 ?_;refine ycall (cIndexStr ?hv24 hl hcall hp) rfl call219 ztk rfl ?_
 case hv24=>exact hv.mono zge
 rintro v L' ⟨i7,rfl,hi7,rfl⟩;refine gy 1 ?_;rw[hi7];refine gy 4 ?_;refine kretv results197 rfl (L1:=R) zge ?_;exact⟨_,⟨by rfl,rfl⟩,by rfl⟩
theorem cLong [Env]{R:List Seg}{t:Bytes}:Con Tryz.prog 198 [.string ⟨t.toArray⟩] [] R (Is (.bool (decide (200<(t.length:Int)))) []):=by
 refine con_enter func198 ntmps198 rfl rfl ?_;refine gc 6 ?_;refine y (ev_lenS rfl underlying9) rfl ?_;refine gy 5 ?_;refine kretv results198 rfl (L1:=R) zge ?_;exact⟨_,⟨by rfl,rfl⟩,by rfl⟩
theorem cMay [Env]{R:List Seg}{r:RecM}{nv tv:Value}(hn:RdV R nv r.nums.length (intsV r.nums))(ht:RdV R tv r.texts.length (strsV r.texts)):
   Con Tryz.prog 146 [.agg #[i64 r.kind,nv,tv]] [] R (Is (.bool r.mayB) []):=by
 refine con_enter func146 ntmps146 rfl rfl ?_;refine gc 1 ?_;refine ya (ac_box rfl rfl) rfl ?_;rintro v L' ⟨b1,rfl,rfl⟩;refine gy 8 ?_;refine ysp 6 rfl (fun h38=>?_) (fun h38=>?_)
 ·refine gy 5 ?_;refine ysp 11 rfl (fun h44=>?_) (fun h44=>?_)
  ·refine gy 2 ?_;refine ygo ?_;refine y (ev_lenV rfl underlying57 (RdV.lenVal (by assumption))) rfl ?_;refine gy 3 ?_;refine ysp 17 rfl (fun h51=>?_) (fun h51=>?_)
   ·refine gy 2 ?_;refine ygo ?_;refine y (ev_lenV rfl underlying86 (RdV.lenVal (by assumption))) rfl ?_;refine gy 3 ?_;refine ysp 23 rfl (fun h58=>?_) (fun h58=>?_)
    ·refine gy 2 ?_;refine ygo ?_;refine yci (cContainsStr (ts:=r.texts) ?hv61 (by omega) call198 (fun R t=>cLong)) call197 ?_
     case hv61=>exact ht.mono zge
     refine gy 6 ?_;refine kretv results146 rfl (L1:=R) zge ?_;exact⟨_,⟨by simp[RecM.mayB, *],rfl⟩,by rfl⟩
    refine gy 9 ?_;refine kretv results146 rfl (L1:=R) zge ?_;exact⟨_,⟨by simp[RecM.mayB, *],rfl⟩,by rfl⟩
   refine gy 15 ?_;refine kretv results146 rfl (L1:=R) zge ?_;exact⟨_,⟨by simp[RecM.mayB, *],rfl⟩,by rfl⟩
  refine gy 21 ?_;refine kretv results146 rfl (L1:=R) zge ?_;exact⟨_,⟨by simp[RecM.mayB, *],rfl⟩,by rfl⟩
 refine gy 26 ?_;refine kretv results146 rfl (L1:=R) zge ?_;exact⟨_,⟨by simp[RecM.mayB, *],rfl⟩,by rfl⟩
theorem cHead [Env]{R:List Seg}{n t:Nat}(hn:n≤16)(ht:t≤4):Con Tryz.prog 147 [i64 n,i64 t] [] R (Is (.int .u8 (headB n t).toNat) []):=by
 have h:=headB_nat hn ht;refine con_enter func147 ntmps147 rfl rfl ?_;refine gc 10 ?_;refine cc rfl (fun h88=>?_) (fun h88=>?_)
 ·refine gc 3 ?_;refine y (ev_conv rfl underlying3 underlying5) rfl ?_;rw[wu8,wr (by omega) (by omega)];refine gy 5 ?_;refine kretv results147 rfl (L1:=R) zge ?_;exact⟨_,⟨by(rw[h];split<;>congr 1<;>omega),rfl⟩,by rfl⟩
 refine gc 5 ?_;refine y (ev_mul rfl rfl) rfl ?_;refine gy 1 ?_;refine y (ev_conv rfl underlying3 underlying5) rfl ?_;rw[wu8,wr (by rw[wr (by omega) (by omega)];omega) (by rw[wr (by omega) (by omega)];omega),wr (by omega) (by omega)];refine gy 4 ?_;refine kretv results147 rfl (L1:=R) zge ?_;exact⟨_,⟨by(rw[h];split<;>congr 1<;>omega),rfl⟩,by rfl⟩
theorem cNum [Env]{R:List Seg}{n:Int}(h1: -9223372036854775808≤n)(h2:n≤9223372036854775807):
   Con Tryz.prog 148 [i64 n] [] R (KSv 5 (numB (zig n)).length 1 (bytesV (numB (zig n))) []):=by
 have hz:=zig_lt h1 h2;have hl:=numB_len10 hz;refine con_enter func148 ntmps148 rfl rfl ?_;refine gc 6 ?_;refine y (ev_conv rfl underlying2 underlying138) rfl ?_;refine y (ev_shl rfl rfl (by decide)) rfl ?_;refine gy 1 ?_;refine y (ev_shr rfl rfl (by decide)) rfl ?_;refine y (ev_conv rfl underlying2 underlying138) rfl ?_;rw[show IntKind.u64.wrap (IntKind.u64.wrap n*2^(min (1:Int).toNat IntKind.u64.bits))=IntKind.u64.wrap (IntKind.u64.wrap n*2)from rfl,show n.fdiv (2^(min (63:Int).toNat IntKind.i64.bits))=n.fdiv 9223372036854775808 from rfl]at*;refine y (ev_xor rfl rfl) rfl ?_;rw[zig_bits h1 h2];refine gy 7 ?_;refine cseqT ?_;intro K4 hK4
 have hJ1: ∀x:Nat × Bytes × Sv,((svOk x.2.2 x.2.1.length 1 (bytesV x.2.1)∧numB (zig n)=x.2.1++numB x.1)∧(x.1<128))→Sk 27 K4 ([(4,svVal x.2.2 x.2.1.length),(3,.int .u64 (x.1:Nat))]) ([svSeg x.2.2 5 (bytesV x.2.1)]++R):=by
  rintro⟨u,b,s⟩ ⟨hI1,hX1⟩;refine hK4 _ _ ?_;obtain⟨okb,hb⟩:=hI1;dsimp only at okb hb ⊢;have hbl:b.length≤10:=by rw[hb]at hl;simp at hl;omega
  dsimp only at hX1;rw[numB_last hX1]at hb;refine gc 3 ?_;refine y (ev_conv rfl underlying138 underlying5) rfl ?_;rw[wu8,show((u:Nat):Int) % 256=((u:Nat):Int)by omega];refine ya (ac_bsliceR rfl underlying55 sizeOf5 zeroValue5 rfl rfl rfl rfl ⟨⟨_,_,rfl,(by rfl),(by decide)⟩,trivial⟩ (by dsimp[fillL,splice,vcells,reps]<;>rfl)) rfl ?_;rintro v L' ⟨b25,rfl,rfl⟩;refine ya (ac_append (xs:=bytesV b) (m:=b.length) (k:=1) (us:=[.int .u8 ((u:Nat):Int)]) (size:=1) rfl rfl (by repeat first|exact .z|apply Pk.s) underlying55 underlying55 (by intro q hq;cases hq) typeInfo5 rfl rfl rfl ?ok113 ?src113 ?one113 ?big113) rfl ?_
  case ok113=>exact okb
  case src113=>exact src_at zin rfl rfl
  case one113=>simp[Value.oneCell']
  case big113=>show(b.length+1)*2≤_;omega
  rintro v L' ⟨s26,rfl,ok26,rfl⟩;have hlen:b.length+1=(numB (zig n)).length:=by rw[hb];simp
  rw[bytesV_snoc _ _ (by omega),←hb,hlen]at ok26 ⊢;refine gy 4 ?_;refine kretv results148 rfl (L1:=[svSeg _ _ _]++R) zge ?_;exact⟨_,⟨s26,rfl,ok26,rfl⟩,rfl⟩
 clear hK4;refine gc 1 ?_;refine cloopT (A:=Nat × Bytes × Sv) (fun x=>[(4,svVal x.2.2 x.2.1.length),(3,.int .u64 (x.1:Nat))]) (fun x=>[svSeg x.2.2 5 (bytesV x.2.1)]++R) (fun x=>svOk x.2.2 x.2.1.length 1 (bytesV x.2.1)∧numB (zig n)=x.2.1++numB x.1) (fun x=>x.1) ((zig n,[],none)) ?_ zsub zge ?_
 · exact⟨⟨rfl,rfl⟩,rfl⟩
 rintro⟨u,b,s⟩ hI1 KL1 hL1;have hI1o:=hI1;obtain⟨okb,hb⟩:=hI1;dsimp only at okb hb ⊢;have hbl:b.length≤10:=by rw[hb]at hl;simp at hl;omega
 refine gc 6 ?_;refine cc rfl (fun h117=>?_) (fun h117=>?_)
 ·refine gc 6 ?_;refine y (ev_conv rfl underlying138 underlying5) rfl ?_;rw[wu8,show((u:Nat):Int) % 256=((u % 256:Nat):Int)by omega];refine y (ev_or rfl rfl) rfl ?_;rw[or128 (by omega),show u % 256 % 128+128=u % 128+128 by omega];refine ya (ac_bsliceR rfl underlying55 sizeOf5 zeroValue5 rfl rfl rfl rfl ⟨⟨_,_,rfl,(by rfl),(by decide)⟩,trivial⟩ (by dsimp[fillL,splice,vcells,reps]<;>rfl)) rfl ?_;rintro v L' ⟨b18,rfl,rfl⟩;refine ya (ac_append (xs:=bytesV b) (m:=b.length) (k:=1) (us:=[.int .u8 ((u % 128+128:Nat):Int)]) (size:=1) rfl rfl (by repeat first|exact .z|apply Pk.s) underlying55 underlying55 (by intro q hq;cases hq) typeInfo5 rfl rfl rfl ?ok123 ?src123 ?one123 ?big123) rfl ?_
  case ok123=>exact okb
  case src123=>exact src_at zin rfl rfl
  case one123=>simp[Value.oneCell']
  case big123=>show(b.length+1)*2≤_;omega
  rintro v L' ⟨s19,rfl,ok19,rfl⟩;rw[bytesV_snoc _ _ (by omega)]at ok19 ⊢;refine gy 5 ?_;refine y (ev_shr rfl rfl (by decide)) rfl ?_;rw[show((u:Nat):Int).fdiv (2^(min (7:Int).toNat IntKind.u64.bits))=((u / 128:Nat):Int)from fdiv2 (k:=128)];refine gy 4 ?_;exact ksub zsub zge (hL1 (u / 128,b++[UInt8.ofNat (u % 128+128)],s19) ⟨by rw[List.length_append];exact ok19,by rw[hb,numB_more (by omega)];simp⟩ (by dsimp only;omega) [(4,svVal s19 (b++[UInt8.ofNat (u % 128+128)]).length),(3,.int .u64 ((u / 128:Nat):Int))] _ zsub .refl)
 refine gc 5 ?_;exact ksub zsub zge (hJ1 ⟨u,b,s⟩ ⟨hI1o,by dsimp only;omega⟩)
theorem src_strB [Env]{P:Program}{L:List Seg}{t:Bytes}:Src P L 1 (.string ⟨t.toArray⟩) t.length (bytesV t):=by
 have h:=src_str (P:=P) (L:=L) (s:=⟨t.toArray⟩);have e:(⟨t.toArray⟩:ByteArray).size=t.length:=by show t.toArray.size=_;simp
 rw[e]at h;simpa[bytesV]using h
theorem cEncode [Env]{R:List Seg}{r:RecM}{nv tv:Value}(hn:RdV R nv r.nums.length (intsV r.nums))(ht:RdV R tv r.texts.length (strsV r.texts))(hI:I64s r.nums):
   Con Tryz.prog 94 [.agg #[i64 r.kind,nv,tv]] [] R (fun v L'=> ∃s,v= .tuple #[svVal s (encM r).1.length,i64 (encM r).2]∧svOk s (encM r).1.length 1 (bytesV (encM r).1)∧L'=[svSeg s 5 (bytesV (encM r).1)]):=by
 have hnl:=hn.lenVal;have htl:=ht.lenVal;refine con_enter func94 ntmps94 rfl rfl ?_;refine gc 1 ?_;refine ya (ac_box rfl rfl) rfl ?_;rintro v L' ⟨b1,rfl,rfl⟩;refine gy 6 ?_;refine y (ev_loadAll rfl isAgg88 sizeOf88 zin (by rfl)) rfl ?_;refine yci (cMay (r:=r) ?hn5 ?ht5) call146 ?_
 case hn5=>exact hn.mono zge
 case ht5=>exact ht.mono zge
 refine gy 3 ?_;refine cc rfl (fun h7=>?_) (fun h7=>?_)
 ·have henc:encM r=([],4):=by unfold encM;rw[if_neg (by simp_all)]
  refine gc 7 ?_;refine kretv2 results94 rfl rfl (L1:=[svSeg none 5 []]++R) zge ?_;exact⟨_,⟨none,by rw[henc];rfl,by rw[henc];exact⟨rfl,rfl⟩,by rw[henc];rfl⟩,rfl⟩
 have hmB:r.mayB=true:=by simp_all
 have hmay:=may_of hmB hI;have henc:encM r=(recB r,0):=by unfold encM;rw[if_pos hmB]
 have hk0:=hmay.k0;have hk1:=hmay.k1;have hns:=hmay.ns;have hts:=hmay.ts;refine gc 3 ?_;refine cdraw 10 (od [9] 10 0) (_) Tryz.mixed (by kernel_rfl) .refl ?_;refine gh 2 ?_;refine hr rfl (ev_conv rfl underlying3 underlying5) rfl ?_;rw[wu8,show r.kind % 256=((r.kind.toNat % 256:Nat):Int)by omega];refine gh 2 ?_;refine hr rfl (ev_lenV rfl underlying57 (RdV.lenVal (by assumption))) rfl ?_;refine gh 2 ?_;refine hr rfl (ev_lenV rfl underlying86 (RdV.lenVal (by assumption))) rfl ?_;refine hcall rfl (cHead ?hn19 ?ht19) rfl call147 ztk rfl ?_
 case hn19=>omega
 case ht19=>omega
 rintro v L' ⟨rfl,rfl⟩;refine⟨zge,?_⟩;refine gh 1 ?_;refine ya (ac_bsliceR rfl underlying55 sizeOf5 zeroValue5 rfl rfl rfl rfl ⟨⟨_,_,rfl,(by rfl),(by decide)⟩,⟨⟨_,_,rfl,(by rfl),(by decide)⟩,trivial⟩⟩ (by dsimp[fillL,splice,vcells,reps]<;>rfl)) rfl ?_;rintro v L' ⟨b22,rfl,rfl⟩;refine gy 3 ?_;refine cseqT ?_;intro K6 hK6;refine gc 3 ?_;refine y (ev_lenV rfl underlying57 (RdV.lenVal (by assumption))) rfl ?_;refine gy 3 ?_
 have hJ1: ∀x:Nat × Sv,((svOk x.2 (encA r x.1).length 1 (bytesV (encA r x.1))∧x.1≤r.nums.length)∧(x.1=r.nums.length))→Sk 52 K6 ([(26,i64 x.1),(25,i64 r.nums.length),(24,nv),(4,svVal x.2 (encA r x.1).length),(1,ptr b1)]) ([svSeg x.2 5 (bytesV (encA r x.1)),sc b1 [i64 r.kind,nv,tv] 88]++R):=by
  rintro⟨k,s⟩ ⟨hI1,hX1⟩;refine hK6 _ _ ?_;obtain⟨oks,hk⟩:=hI1;dsimp only at oks hk ⊢;have hal:=encA_len hmay k;dsimp only at hX1;subst hX1;refine cseqT ?_;intro K8 hK8;refine gc 3 ?_;refine y (ev_lenV rfl underlying86 (RdV.lenVal (by assumption))) rfl ?_;refine gy 1 ?_;rw[←encB_zero]at oks ⊢;refine gy 2 ?_
  have hJ2: ∀x:Nat × Sv,((svOk x.2 (encB r x.1).length 1 (bytesV (encB r x.1))∧x.1≤r.texts.length)∧(x.1=r.texts.length))→Sk 52 K8 ([(38,i64 x.1),(37,i64 r.texts.length),(36,tv),(4,svVal x.2 (encB r x.1).length)]) ([svSeg x.2 5 (bytesV (encB r x.1))]++R):=by
   rintro⟨z,st⟩ ⟨hI2,hX2⟩;refine hK8 _ _ ?_;obtain⟨okt,hz⟩:=hI2;dsimp only at okt hz ⊢;have hbl:=encB_len hmay z;have hbl2:=encB_len hmay (z+1);dsimp only at hX2;subst hX2;rw[encB_all]at okt ⊢;refine gc 7 ?_;refine kretv2 results94 rfl rfl (L1:=[svSeg _ _ _]++R) zge ?_;exact⟨_,⟨st,by rw[henc],by rw[henc];exact okt,by rw[henc]⟩,rfl⟩
  clear hK8;refine gc 1 ?_;refine cloopT (A:=Nat × Sv) (fun x=>[(38,i64 x.1),(37,i64 r.texts.length),(36,tv),(4,svVal x.2 (encB r x.1).length)]) (fun x=>[svSeg x.2 5 (bytesV (encB r x.1))]++R) (fun x=>svOk x.2 (encB r x.1).length 1 (bytesV (encB r x.1))∧x.1≤r.texts.length) (fun x=>r.texts.length-x.1) ((0,s)) ?_ zsub zge ?_
  · exact⟨oks,Nat.zero_le _⟩
  rintro⟨z,st⟩ hI2 KL2 hL2;have hI2o:=hI2;obtain⟨okt,hz⟩:=hI2;dsimp only at okt hz ⊢;have hbl:=encB_len hmay z;have hbl2:=encB_len hmay (z+1);refine gc 5 ?_;refine cc rfl (fun h34=>?_) (fun h34=>?_)
  ·obtain⟨tt,htt⟩: ∃x,r.texts[z]? =some x:=⟨_,List.getElem?_eq_getElem (by omega)⟩;have h200:=hmay.len tt (List.mem_of_getElem? htt);have hbs:=encB_succ htt;refine gc 5 ?_;refine y (ev_ixV ht rfl rfl underlying86 sizeOf9 (by omega) (by omega)) rfl ?_;refine y (ev_loadV z ht zge rfl isAgg9 (by simp) (strsV_get htt)) rfl ?_;refine gy 6 ?_;refine y (ev_lenS rfl underlying9) rfl ?_;refine y (ev_conv rfl underlying3 underlying5) rfl ?_;rw[wu8,show((⟨tt.toArray⟩:ByteArray).size:Int) % 256=((tt.length:Nat):Int)by show((tt.toArray.size:Nat):Int) % 256=_;simp;omega];refine ya (ac_bsliceR rfl underlying55 sizeOf5 zeroValue5 rfl rfl rfl rfl ⟨⟨_,_,rfl,(by rfl),(by decide)⟩,trivial⟩ (by dsimp[fillL,splice,vcells,reps]<;>rfl)) rfl ?_;rintro v L' ⟨b46,rfl,rfl⟩;refine ya (ac_append (xs:=bytesV (encB r z)) (m:=(encB r z).length) (k:=1) (us:=[.int .u8 ((tt.length:Nat):Int)]) (size:=1) rfl rfl (by repeat first|exact .z|apply Pk.s) underlying55 underlying55 (by intro q hq;cases hq) typeInfo5 rfl rfl rfl ?ok43 ?src43 ?one43 ?big43) rfl ?_
   case ok43=>exact okt
   case src43=>exact src_at zin rfl rfl
   case one43=>simp[Value.oneCell']
   case big43=>show(_+_)*2≤_;omega
   rintro v L' ⟨s47,rfl,ok47,rfl⟩;rw[bytesV_snoc _ _ (by omega)]at ok47 ⊢;refine gy 1 ?_;refine ya (ac_append (xs:=bytesV (encB r z++[UInt8.ofNat tt.length])) (m:=(encB r z).length+1) (k:=tt.length) (us:=bytesV tt) (size:=1) rfl rfl (by repeat first|exact .z|apply Pk.s) underlying55 underlying9 (by intro q hq;cases hq) typeInfo5 rfl rfl rfl ?ok45 ?src45 ?one45 ?big45) rfl ?_
   case ok45=>exact ok47
   case src45=>exact src_strB
   case one45=>exact bytesV_one _
   case big45=>show(_+_)*2≤_;omega
   rintro v L' ⟨s49,rfl,ok49,rfl⟩;rw[←bytesV_append,←hbs,show(encB r z).length+1+tt.length=(encB r (z+1)).length by rw[hbs];simp;omega]at ok49 ⊢;refine gy 6 ?_;rw[show IntKind.i64.wrap ((z:Int)+1)=((z+1:Nat):Int)by rw[wr (by omega) (by omega)];rfl];refine gy 3 ?_;exact hL2 ((z+1,s49)) (⟨ok49,by dsimp only;omega⟩) (by dsimp only;omega) _ _ zsub zge
  refine gc 5 ?_;exact ksub zsub zge (hJ2 ⟨z,st⟩ ⟨hI2o,by dsimp only;omega⟩)
 clear hK6;refine gc 1 ?_;refine cloopT (A:=Nat × Sv) (fun x=>[(26,i64 x.1),(25,i64 r.nums.length),(24,nv),(4,svVal x.2 (encA r x.1).length),(1,ptr b1)]) (fun x=>[svSeg x.2 5 (bytesV (encA r x.1)),sc b1 [i64 r.kind,nv,tv] 88]++R) (fun x=>svOk x.2 (encA r x.1).length 1 (bytesV (encA r x.1))∧x.1≤r.nums.length) (fun x=>r.nums.length-x.1) ((0,some (b22,2,[]))) ?_ zsub zge ?_
 · exact⟨⟨by simp[encA,numsB],by decide,by simp[encA,numsB],by simp[encA,numsB]⟩,Nat.zero_le _⟩
 rintro⟨k,s⟩ hI1 KL1 hL1;have hI1o:=hI1;obtain⟨oks,hk⟩:=hI1;dsimp only at oks hk ⊢;have hal:=encA_len hmay k;refine gc 5 ?_;refine cc rfl (fun h50=>?_) (fun h50=>?_)
 ·obtain⟨nn,hnn⟩: ∃x,r.nums[k]? =some x:=⟨_,List.getElem?_eq_getElem (by omega)⟩;obtain⟨hlo,hhi⟩:=hI nn (List.mem_of_getElem? hnn);have hl10:=numB_len10 (zig_lt hlo hhi);refine gc 5 ?_;refine y (ev_ixV hn rfl rfl underlying57 sizeOf2 (by omega) (by omega)) rfl ?_;refine y (ev_loadV k hn zge rfl isAgg2 (by simp) (intsV_get hnn)) rfl ?_;refine gy 6 ?_;refine ycall (cNum ?lo56 ?hi56) rfl call148 ztk rfl ?_
  case lo56=>exact hlo
  case hi56=>exact hhi
  rintro v L' ⟨s32,rfl,ok32,rfl⟩;refine ya (ac_append (xs:=bytesV (encA r k)) (m:=(encA r k).length) (k:=(numB (zig nn)).length) (us:=bytesV (numB (zig nn))) (size:=1) rfl rfl (by repeat first|exact .z|apply Pk.s) underlying55 underlying55 (by intro q hq;cases hq) typeInfo5 rfl rfl rfl ?ok57 ?src57 ?one57 ?big57) rfl ?_
  case ok57=>exact oks
  case src57=>exact src_sv zin ok32
  case one57=>exact bytesV_one _
  case big57=>show(_+_)*2≤_;omega
  rintro v L' ⟨s33,rfl,ok33,rfl⟩;rw[←bytesV_append,←List.length_append,←encA_succ hnn]at ok33 ⊢;refine gy 6 ?_;rw[show IntKind.i64.wrap ((k:Int)+1)=((k+1:Nat):Int)by rw[wr (by omega) (by omega)];rfl];refine gy 3 ?_;exact hL1 ((k+1,s33)) (⟨ok33,by dsimp only;omega⟩) (by dsimp only;omega) _ _ zsub zge
 refine gc 5 ?_;exact ksub zsub zge (hJ1 ⟨k,s⟩ ⟨hI1o,by dsimp only;omega⟩)
end W
end Go.Proofs