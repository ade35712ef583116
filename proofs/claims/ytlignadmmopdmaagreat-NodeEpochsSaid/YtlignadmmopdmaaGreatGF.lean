/- A part of the proof. -/
import Derived.Test.YtlignadmmopdmaaGreatGC
import Derived.Test.YtlignadmmopdmaaGreatGE
set_option linter.unusedVariables false
set_option linter.unusedSimpArgs false
set_option linter.constructorNameAsVariable false
namespace Go.Sl
theorem Bw{k:IntKind}(hk:k.signed=false)(n:Int):k.wrap n=n % 2^k.bits:=by unfold IntKind.wrap;simp[hk]
theorem r4(n:Int):IntKind.u8.wrap n=n % 256:=by rw[Bw rfl];rfl
theorem F4(n:Int):IntKind.u32.wrap n=n % 4294967296:=by rw[Bw rfl];rfl
theorem iN(n:Int):IntKind.u64.wrap n=n % 18446744073709551616:=by rw[Bw rfl];rfl
theorem lI{w p:Nat}:(BitVec.ofInt w (p:Int))=BitVec.ofNat w p:=by simp
theorem Gz{k:IntKind}(hk:k.signed=false){p q:Nat}(hp:p<2^k.bits)(hq:q<2^k.bits):qX k p q=((p&&&q:Nat):Int):=by
 unfold qX;rw[Bw hk,lI,lI,BitVec.toNat_and,BitVec.toNat_ofNat,BitVec.toNat_ofNat,Nat.mod_eq_of_lt hp,Nat.mod_eq_of_lt hq];have:p&&&q<2^k.bits:=Nat.and_lt_two_pow _ hq
 exact_mod_cast Nat.mod_eq_of_lt this
theorem Au{k:IntKind}(hk:k.signed=false){p q:Nat}(hp:p<2^k.bits)(hq:q<2^k.bits):S3 k p q=((p|||q:Nat):Int):=by
 unfold S3;rw[Bw hk,lI,lI,BitVec.toNat_or,BitVec.toNat_ofNat,BitVec.toNat_ofNat,Nat.mod_eq_of_lt hp,Nat.mod_eq_of_lt hq];have:p|||q<2^k.bits:=Nat.or_lt_two_pow hp hq
 exact_mod_cast Nat.mod_eq_of_lt this
theorem xl{k:IntKind}(hk:k.signed=false){p q:Nat}(hp:p<2^k.bits)(hq:q<2^k.bits):qD k p q=((p^^^q:Nat):Int):=by
 unfold qD;rw[Bw hk,lI,lI,BitVec.toNat_xor,BitVec.toNat_ofNat,BitVec.toNat_ofNat,Nat.mod_eq_of_lt hp,Nat.mod_eq_of_lt hq];have:p^^^q<2^k.bits:=Nat.xor_lt_two_pow hp hq
 exact_mod_cast Nat.mod_eq_of_lt this
theorem BD{x:Nat}(hx:x<256):qX .u8 x 127=((x % 128:Nat):Int):=by
 have:=Gz (k:= .u8) rfl (p:=x) (q:=127) hx (by decide);rw[show((127:Nat):Int)=127 from rfl]at this;rw[this,show(127:Nat)=2^7- 1 from rfl,Nat.and_two_pow_sub_one_eq_mod]
theorem akD{x:Nat}(hx:x<256):S3 .u8 x 128=((x % 128+128:Nat):Int):=by
 have:=Au (k:= .u8) rfl (p:=x) (q:=128) hx (by decide);rw[show((128:Nat):Int)=128 from rfl]at this;rw[this]
 have key: ∀y:Nat,y<128→y|||128=y+128:=by
  intro z hz;have:=Nat.two_pow_add_eq_or_of_lt (i:=7) (b:=z) (by omega) 1;rw[Nat.or_comm,show(128:Nat)=2^7*1 from rfl,←this,Nat.add_comm]
 congr 1
 by_cases h:x<128
 ·rw[key x h];omega
 ·have e:x=(x % 128)|||128:=by rw[key _ (by omega)];omega
  conv=>lhs;rw[e]
  rw[Nat.or_assoc,Nat.or_self,key _ (by omega)]
theorem se{u:Nat}(hu:u<18446744073709551616):qX .u64 u 1=((u % 2:Nat):Int):=by
 have:=Gz (k:= .u64) rfl (p:=u) (q:=1) hu (by decide);rw[show((1:Nat):Int)=1 from rfl]at this;rw[this,Nat.and_one_is_mod]
theorem SZ{u:Nat}(hu:u<4294967296):qX .u32 u 1=((u % 2:Nat):Int):=by
 have:=Gz (k:= .u32) rfl (p:=u) (q:=1) hu (by decide);rw[show((1:Nat):Int)=1 from rfl]at this;rw[this,Nat.and_one_is_mod]
theorem tp{u x m:Nat}(hu:u<2^m)(hb:x*2^m<18446744073709551616)(Lg:u<18446744073709551616):S3 .u64 u ((x*2^m:Nat):Int)=((u+x*2^m:Nat):Int):=by
 rw[Au rfl Lg hb];congr 1;have:=Nat.two_pow_add_eq_or_of_lt hu x;rw[Nat.or_comm,Nat.mul_comm x,←this,Nat.add_comm]
theorem C8{p:Int}(h0: -9223372036854775808≤p)(h1:p≤9223372036854775807):qD .i64 p 0=p:=by
 unfold qD;rw[show IntKind.i64.bits=64 from rfl,show BitVec.ofInt 64 0=0#64 from rfl,BitVec.xor_zero,BitVec.toNat_ofInt];have:=@IntKind.wrap;unfold IntKind.wrap;simp[IntKind.bits,IntKind.signed];omega
theorem C6{p:Int}(h0: -9223372036854775808≤p)(h1:p≤9223372036854775807):qD .i64 p (-1)= -p- 1:=by
 unfold qD;rw[show IntKind.i64.bits=64 from rfl,show BitVec.ofInt 64 (-1)=BitVec.allOnes 64 from rfl,BitVec.xor_allOnes,BitVec.toNat_not,BitVec.toNat_ofInt];unfold IntKind.wrap;simp[IntKind.bits,IntKind.signed];omega
theorem C7{p:Nat}(h:p<18446744073709551616):qD .u64 p 18446744073709551615=((18446744073709551615-p:Nat):Int):=by
 have:=xl (k:= .u64) rfl (p:=p) (q:=18446744073709551615) h (by decide);rw[show((18446744073709551615:Nat):Int)=18446744073709551615 from rfl]at this;rw[this];congr 1;have h2:(BitVec.ofNat 64 p^^^BitVec.allOnes 64).toNat=(~~~ (BitVec.ofNat 64 p)).toNat:=by rw[BitVec.xor_allOnes]
 rw[BitVec.toNat_xor,BitVec.toNat_not,BitVec.toNat_ofNat,BitVec.toNat_allOnes,Nat.mod_eq_of_lt (by simpa using h)]at h2;simpa using h2
theorem C9{p:Nat}(h:p<18446744073709551616):qD .u64 p 0=(p:Int):=by
 have:=xl (k:= .u64) rfl (p:=p) (q:=0) h (by decide);simpa using this
theorem tW{u:Nat}(hu:u<18446744073709551616):qD .i64 (IntKind.i64.wrap ((u / 2:Nat):Int)) (IntKind.i64.wrap (-(IntKind.i64.wrap ((u % 2:Nat):Int))))=An u:=by
 unfold An;have hw:IntKind.i64.wrap ((u / 2:Nat):Int)=((u / 2:Nat):Int):=wr (by omega) (by omega);rw[hw]
 by_cases h:u % 2=0
 ·rw[if_pos h,h,show IntKind.i64.wrap (-(IntKind.i64.wrap ((0:Nat):Int)))=0 by decide];exact C8 (by omega) (by omega)
 ·have h1:u % 2=1:=by omega
  rw[if_neg h,h1,show IntKind.i64.wrap (-(IntKind.i64.wrap ((1:Nat):Int)))= -1 by decide];exact C6 (by omega) (by omega)
theorem Sj{n:Int}(h1: -9223372036854775808≤n)(h2:n≤9223372036854775807):
  qD .u64 (IntKind.u64.wrap (IntKind.u64.wrap n*2)) (IntKind.u64.wrap (n.fdiv 9223372036854775808))=(mT n:Int):=by
 unfold mT;rw[iN,iN,iN];have hf:n.fdiv 9223372036854775808=n / 9223372036854775808:=Int.fdiv_eq_ediv_of_nonneg _ (by omega);rw[hf]
 by_cases h:0≤n
 ·rw[if_pos h,show n / 9223372036854775808=0 by omega,show(0:Int) % 18446744073709551616=0 from rfl];have e:n % 18446744073709551616*2 % 18446744073709551616=(((2*n).toNat:Nat):Int):=by omega
  rw[e];exact C9 (by omega)
 ·rw[if_neg h,show n / 9223372036854775808= -1 by omega,show(-1:Int) % 18446744073709551616=18446744073709551615 from rfl];have e:n % 18446744073709551616*2 % 18446744073709551616=(((18446744073709551616+2*n).toNat:Nat):Int):=by omega
  rw[e,C7 (by omega)];omega
def xy(s:Nat):Nat:=if s % 2=1 then(s / 2)^^^2197175160 else s / 2
theorem KL{s:Nat}(h:s<4294967296):xy s<4294967296:=by
 unfold xy;split
 · exact Nat.xor_lt_two_pow (n:=32) (by omega) (by omega)
 · omega
def GW:Nat→Nat→Nat
 |0,s=>s
 |k+1,s=>xy (GW k s)
def sx(s:Nat)(b:UInt8):Nat:=GW 8 (s^^^b.toNat)
theorem wO{s:Nat}(h:s<4294967296): ∀k,GW k s<4294967296
 |0=>h
 |k+1=>KL (wO h k)
theorem NY{s:Nat}(b:UInt8)(h:s<4294967296):sx s b<4294967296:=
 wO (Nat.xor_lt_two_pow (n:=32) h (by have:=b.toNat_lt;omega)) 8
def BL(s:Nat)(bs:Bytes):Nat:=4294967295-bs.foldl sx (4294967295-s)
def lY(bs:Bytes):Nat:=BL 0 bs
theorem rj: ∀{bs:Bytes} {s:Nat},s<4294967296→bs.foldl sx s<4294967296
 | [],_,h=>h
 |b::bs,_,h=>rj (bs:=bs) (NY b h)
theorem w5(bs:Bytes):lY bs<4294967296:=by unfold lY BL;omega
theorem Wa{s:Nat}(h:s<4294967296):qD .u32 (if IntKind.u32.signed then-1 else IntKind.u32.max) s=((4294967295-s:Nat):Int):=by
 have:=xl (k:= .u32) rfl (p:=4294967295) (q:=s) (by decide) h;rw[show(if IntKind.u32.signed then-1 else IntKind.u32.max)=((4294967295:Nat):Int)from rfl,this];congr 1;have h2:(BitVec.allOnes 32^^^BitVec.ofNat 32 s).toNat=(~~~ (BitVec.ofNat 32 s)).toNat:=by rw[BitVec.allOnes_xor]
 rw[BitVec.toNat_xor,BitVec.toNat_not,BitVec.toNat_ofNat,BitVec.toNat_allOnes,Nat.mod_eq_of_lt (by simpa using h)]at h2;simpa using h2
theorem DM{s:Nat}(h:s<4294967296):(if qX .u32 s 1=1 then qD .u32 ((s / 2:Nat):Int) 2197175160 else((s / 2:Nat):Int))=(xy s:Int):=by
 rw[SZ h];unfold xy;have:=xl (k:= .u32) rfl (p:=s / 2) (q:=2197175160) (by show _<4294967296;omega) (by decide);rw[show((2197175160:Nat):Int)=2197175160 from rfl]at this;rw[this]
 by_cases h1:s % 2=1
 · rw[if_pos h1,if_pos (by omega)]
 · rw[if_neg h1,if_neg (by omega)]
theorem m9{u k:Nat}:((u:Int)).fdiv ((k:Nat):Int)=((u / k:Nat):Int):=by
 rw[Int.fdiv_eq_ediv_of_nonneg _ (by omega)];rfl
theorem Fc{k:Nat}{x:UInt8}{r:Bytes}(h:(k=9∧1<x.toNat)∨(0<k∧x.toNat=0)):jy k (x::r)=none:=by
 unfold jy;rw[if_pos h]
theorem A7{k:Nat}{x:UInt8}{r:Bytes}(h: ¬((k=9∧1<x.toNat)∨(0<k∧x.toNat=0)))(h2:x.toNat<128):jy k (x::r)=some (x.toNat,r):=by
 unfold jy;rw[if_neg h,if_pos h2]
theorem A8{k:Nat}{x:UInt8}{r:Bytes}(h: ¬((k=9∧1<x.toNat)∨(0<k∧x.toNat=0)))(h2: ¬x.toNat<128):jy k (x::r)=(jy (k+1) r).map fun q=>(x.toNat- 128+128*q.1,q.2):=by
 conv=>lhs;unfold jy
 rw[if_neg h,if_neg h2];cases jy (k+1) r<;>rfl
structure o4(bs:Bytes)(k u:Nat)(r:Bytes):Prop where
 k9:k≤9
 lt:u<2^(7*k)
 eq:jy 0 bs=(jy k r).map fun q=>(u+2^(7*k)*q.1,q.2)
theorem o4.zero(bs:Bytes):o4 bs 0 0 bs:=by
 refine⟨by omega,by decide,?_⟩;cases h:jy 0 bs with
 |none=>rfl
 |some q=>simp
theorem Rc{k:Nat}(h:k≤9):2^(7*k)≤9223372036854775808:=by
 have:2^(7*k)≤2^63:=Nat.pow_le_pow_right (by omega) (by omega);simpa using this
theorem W7{k:Nat}(h:k≤8):2^(7*k)≤72057594037927936:=by
 have:2^(7*k)≤2^56:=Nat.pow_le_pow_right (by omega) (by omega);simpa using this
theorem o4.fit{bs:Bytes}{k u:Nat}{r:Bytes}{x:UInt8}(h:o4 bs k u (x::r))(cq: ¬((k=9∧1<x.toNat)∨(0<k∧x.toNat=0))):
  x.toNat % 128*2^(7*k)<18446744073709551616∧u+x.toNat % 128*2^(7*k)<18446744073709551616:=by
 have h1:=h.k9;have h2:=h.lt;have h3:=Rc h1
 by_cases h9:k=9
 ·subst h9;have hx:x.toNat≤1:=by omega
  have h4:x.toNat % 128≤1:=by omega
  have h5:x.toNat % 128*2^(7*9)≤1*2^(7*9):=Nat.mul_le_mul_right _ h4;omega
 ·have h3:=W7 (k:=k) (by omega);have h5:x.toNat % 128*2^(7*k)≤127*2^(7*k):=Nat.mul_le_mul_right _ (by omega);omega
theorem o4.next{bs:Bytes}{k u:Nat}{r:Bytes}{x:UInt8}(h:o4 bs k u (x::r))(cq: ¬((k=9∧1<x.toNat)∨(0<k∧x.toNat=0)))(hx: ¬x.toNat<128):
  o4 bs (k+1) (u+x.toNat % 128*2^(7*k)) r:=by
 have h9:k≤8:=by have:=h.k9;omega
 have e:2^(7*(k+1))=128*2^(7*k):=by rw[show 7*(k+1)=7*k+7 by omega,Nat.pow_add];omega
 have h2:=h.lt;have hb:=x.toNat_lt;refine⟨by omega,?_,?_⟩
 ·rw[e];have h5:x.toNat % 128*2^(7*k)≤127*2^(7*k):=Nat.mul_le_mul_right _ (by omega);omega
 ·rw[h.eq,A8 cq hx,e];cases jy (k+1) r with
  |none=>rfl
  |some q=>
   simp only[Option.map_some,Option.some.injEq,Prod.mk.injEq,and_true];have:x.toNat % 128=x.toNat- 128:=by omega
   rw[this,Nat.mul_add,Nat.mul_comm (x.toNat- 128),show 128*2^(7*k)*q.1=2^(7*k)*(128*q.1)by rw[Nat.mul_comm 128,Nat.mul_assoc]];omega
theorem o4.last{bs:Bytes}{k u:Nat}{r:Bytes}{x:UInt8}(h:o4 bs k u (x::r))(cq: ¬((k=9∧1<x.toNat)∨(0<k∧x.toNat=0)))(hx:x.toNat<128):
  jy 0 bs=some (u+x.toNat % 128*2^(7*k),r):=by
 rw[h.eq,A7 cq hx];simp only[Option.map_some,Option.some.injEq,Prod.mk.injEq,and_true];rw[Nat.mod_eq_of_lt hx,Nat.mul_comm]
theorem o4.bad{bs:Bytes}{k u:Nat}{r:Bytes}{x:UInt8}(h:o4 bs k u (x::r))(hx:(k=9∧1<x.toNat)∨(0<k∧x.toNat=0)):jy 0 bs=none:=by
 rw[h.eq,Fc hx];rfl
theorem o4.none{bs:Bytes}{k u:Nat}(h:o4 bs k u []):jy 0 bs=none:=by
 rw[h.eq];cases k<;>rfl
theorem Vt{k y:Nat}(hk:k≤9)(h:y*2^(7*k)<18446744073709551616):IntKind.u64.wrap (((y:Nat):Int)*2^(min ((7*k:Nat):Int).toNat IntKind.u64.bits))=((y*2^(7*k):Nat):Int):=by
 rw[iN,Int.toNat_natCast,show min (7*k) IntKind.u64.bits=7*k by show min _ 64=_;omega];have e:((y:Nat):Int)*2^(7*k)=((y*2^(7*k):Nat):Int):=by simp
 rw[e];omega
theorem rd1 [Env]{R:List ax}{v:Value}{x:UInt8}{r:Bytes}(h:oD R v (x::r)):cE R (qB v 0 1 1) 1 [.int .u8 x.toNat]:=(h.take (k:=1) (by simp)).rd
theorem akU [Env]{R:List ax}{v:Value}{x:UInt8}{r:Bytes}(h:oD R v (x::r)):oD R (qB v 1 (x::r).length 1) r:=h.drop (k:=1) (by simp)
def cn(ts:List Bytes):List Value:=ts.map fun t=> .string ⟨t.toArray⟩
@[simp] theorem VF(ts:List Bytes):(cn ts).length=ts.length:=by simp[cn]
theorem fR{ts:List Bytes}{k:Nat}{t:Bytes}(h:ts[k]? =some t):(cn ts)[k]? =some (.string ⟨t.toArray⟩):=by simp[cn,h]
theorem zd(ts:List Bytes)(t:Bytes):cn ts++[.string ⟨t.toArray⟩]=cn (ts++[t]):=by simp[cn]
theorem yd(ts:List Int)(t:Int):aW ts++[.int .i64 t]=aW (ts++[t]):=by simp[aW]
structure mU(r:Bytes)(m k:Nat)(ns:List Int)(b:Bytes):Prop where
 le:k≤m
 len:ns.length=k
 eq:ju m r=(ju (m-k) b).map fun q=>(ns++q.1,q.2)
theorem mU.zero(r:Bytes)(m:Nat):mU r m 0 [] r:=by
 refine⟨Nat.zero_le _,rfl,?_⟩;rw[Nat.sub_zero];cases ju m r<;>simp
theorem mU.step{r:Bytes}{m k:Nat}{ns:List Int}{b:Bytes}{q:Nat × Bytes}(h:mU r m k ns b)(hk:k<m)(hq:jy 0 b=some q):mU r m (k+1) (ns++[An q.1]) q.2:=by
 refine⟨hk,by simp[h.len],?_⟩;rw[h.eq,show m-k=(m-(k+1))+1 by omega];simp only[ju,hq];cases ju (m-(k+1)) q.2<;>simp
theorem mU.bad{r:Bytes}{m k:Nat}{ns:List Int}{b:Bytes}(h:mU r m k ns b)(hk:k<m)(hq:jy 0 b=none):ju m r=none:=by
 rw[h.eq,show m-k=(m-(k+1))+1 by omega];simp only[ju,hq];rfl
theorem mU.done{r:Bytes}{m:Nat}{ns:List Int}{b:Bytes}(h:mU r m m ns b):ju m r=some (ns,b):=by
 rw[h.eq,Nat.sub_self];simp[ju]
structure jf(r:Bytes)(m k:Nat)(ts:List Bytes)(b:Bytes):Prop where
 le:k≤m
 len:ts.length=k
 eq:gW m r=(gW (m-k) b).map fun q=>(ts++q.1,q.2)
theorem jf.zero(r:Bytes)(m:Nat):jf r m 0 [] r:=by
 refine⟨Nat.zero_le _,rfl,?_⟩;rw[Nat.sub_zero];cases gW m r<;>simp
theorem jf.step{r:Bytes}{m k:Nat}{ts:List Bytes}{x:UInt8}{b:Bytes}(h:jf r m k ts (x::b))(hk:k<m)(h1: ¬200<x.toNat)(h2:x.toNat≤b.length):jf r m (k+1) (ts++[b.take x.toNat]) (b.drop x.toNat):=by
 refine⟨hk,by simp[h.len],?_⟩;rw[h.eq,show m-k=(m-(k+1))+1 by omega];simp only[gW,FU];rw[if_neg h1,if_neg (by omega)];dsimp only;cases gW (m-(k+1)) (b.drop x.toNat)<;>simp
theorem jf.adW{r:Bytes}{m k:Nat}{ts:List Bytes}(h:jf r m k ts [])(hk:k<m):gW m r=none:=by
 rw[h.eq,show m-k=(m-(k+1))+1 by omega];simp[gW,FU]
theorem jf.bad{r:Bytes}{m k:Nat}{ts:List Bytes}{x:UInt8}{b:Bytes}(h:jf r m k ts (x::b))(hk:k<m)(h1:200<x.toNat∨b.length<x.toNat):gW m r=none:=by
 rw[h.eq,show m-k=(m-(k+1))+1 by omega];simp only[gW,FU]
 by_cases h2:200<x.toNat
 · rw[if_pos h2];rfl
 · rw[if_neg h2,if_pos (by omega)];rfl
theorem jf.done{r:Bytes}{m:Nat}{ts:List Bytes}{b:Bytes}(h:jf r m m ts b):gW m r=some (ts,b):=by
 rw[h.eq,Nat.sub_self];simp[gW]
theorem rO{b:Bytes}(h:b.length<2):lU b=none:=by
 match b,h with
 | [],_=>rfl
 | [x],_=>rfl
theorem Bf{k h:UInt8}{r:Bytes}(ht:4<js h.toNat):lU (k::h::r)=none:=by unfold lU;dsimp only;rw[if_pos ht]
theorem Bh{k h:UInt8}{r:Bytes}(ht: ¬4<js h.toNat)(hn:ju (kX h.toNat) r=none):lU (k::h::r)=none:=by unfold lU;dsimp only;rw[if_neg ht,hn]
theorem kc{k h:UInt8}{r b:Bytes}{ns:List Int}(ht: ¬4<js h.toNat)(hn:ju (kX h.toNat) r=some (ns,b))(hx:gW (js h.toNat) b=none):lU (k::h::r)=none:=by
 unfold lU;dsimp only;rw[if_neg ht,hn];dsimp only;rw[hx]
theorem Bg{k h:UInt8}{r b c:Bytes}{ns:List Int}{ts:List Bytes}(ht: ¬4<js h.toNat)(hn:ju (kX h.toNat) r=some (ns,b))(hx:gW (js h.toNat) b=some (ts,c))(hc:c≠[]):lU (k::h::r)=none:=by
 unfold lU;dsimp only;rw[if_neg ht,hn];dsimp only;rw[hx];dsimp only;rw[if_neg hc]
theorem Bi{k h:UInt8}{r b:Bytes}{ns:List Int}{ts:List Bytes}(ht: ¬4<js h.toNat)(hn:ju (kX h.toNat) r=some (ns,b))(hx:gW (js h.toNat) b=some (ts,[])):lU (k::h::r)=some ⟨k.toNat,ns,ts⟩:=by
 unfold lU;dsimp only;rw[if_neg ht,hn];dsimp only;rw[hx];dsimp only;rw[if_pos rfl]
theorem rd2 [Env]{R:List ax}{v:Value}{k h:UInt8}{r:Bytes}(hb:oD R v (k::h::r)):cE R (qB v 0 2 1) 2 [.int .u8 k.toNat,.int .u8 h.toNat]:=(hb.take (k:=2) (by simp)).rd
theorem asJ [Env]{R:List ax}{v:Value}{k h:UInt8}{r:Bytes}(hb:oD R v (k::h::r)):oD R (qB v 2 (k::h::r).length 1) r:=hb.drop (k:=2) (by simp)
theorem Ex(h:UInt8):kX h.toNat≤16:=by unfold kX;split<;>omega
def bX(bs:Bytes):RecM × Int:=match lU bs with
 |some r=>(r,0)
 |none=>(⟨0,[],[]⟩,4)
theorem lC{b:Bytes}{r:RecM}(h:lU b=some r):bX b=(r,0):=by unfold bX;rw[h]
theorem iv{b:Bytes}(h:lU b=none):bX b=(⟨0,[],[]⟩,4):=by unfold bX;rw[h]
theorem nA{u:Nat}(h:u<128):fN u=[UInt8.ofNat u]:=by unfold fN;rw[if_pos h]
theorem nB{u:Nat}(h: ¬u<128):fN u=UInt8.ofNat (u % 128+128)::fN (u / 128):=by
 conv=>lhs;unfold fN
 rw[if_neg h]
theorem Fb: ∀(k u:Nat),u<128^k→0<k→(fN u).length≤k
 |0,_,_,h=>absurd h (by omega)
 |k+1,u,hu,_=>by
  by_cases h:u<128
  ·rw[nA h];simp
  ·rw[nB h]
   have hk:0<k:=by
    rcases Nat.eq_zero_or_pos k with h0|h0
    · subst h0;simp at hu;omega
    · exact h0
   have:=Fb k (u / 128) (by rw[Nat.div_lt_iff_lt_mul (by omega)];rwa[Nat.pow_succ]at hu) hk;simp;omega
theorem il {u : Nat} (h : u < 18446744073709551616) : (fN u).length ≤ 10 := Fb 10 u (by have:(128:Nat)^10=1180591620717411303424:=by decide
                                                                                        omega) (by omega)
def RecM.kD(r:RecM):Bool:=decide (0≤r.kind)&&decide (r.kind≤255)&&decide ((r.aH.length:Int)≤16)&&decide ((r.texts.length:Int)≤4)&& !(r.texts.any fun t=>decide (200<(t.length:Int)))
def Dm(ns:List Int):Prop:= ∀n∈ns,-9223372036854775808≤n∧n≤9223372036854775807
theorem PI{r:RecM}(h:r.kD=true)(hn:Dm r.aH):r.may:=by
 unfold RecM.kD at h;simp only[Bool.and_eq_true,decide_eq_true_eq,Bool.not_eq_true',List.any_eq_false]at h;obtain⟨⟨⟨⟨h1,h2⟩,h3⟩,h4⟩,h5⟩:=h;refine⟨h1,h2,by omega,by omega,fun t ht=>?_,hn⟩;have:=h5 t ht;omega
theorem JV{r:RecM}(h:r.may):r.kD=true:=by
 unfold RecM.kD;simp only[Bool.and_eq_true,decide_eq_true_eq,Bool.not_eq_true',List.any_eq_false];refine⟨⟨⟨⟨h.k0,h.k1⟩,by have:=h.ns;omega⟩,by have:=h.ts;omega⟩,fun t ht=>?_⟩;have:=h.len t ht;omega
def kQ(r:RecM):Bytes × Int:=if r.kD then(bL r,0)else([],4)
theorem AL{n t:Nat}(hn:n≤16)(ht:t≤4):(oH n t).toNat=if n=16 then 240+t else n+16*t:=by
 unfold oH;split
 · rw[UInt8.toNat_ofNat'];omega
 · rw[UInt8.toNat_ofNat'];omega
theorem Ip(ns:List Int)(n:Int):eZ (ns++[n])=eZ ns++fN (mT n):=by simp[eZ]
theorem FW(ts:List Bytes)(t:Bytes):fJ (ts++[t])=fJ ts++(UInt8.ofNat t.length::t):=by simp[fJ]
theorem nC: ∀{ns:List Int},Dm ns→(eZ ns).length≤ns.length*10
 | [],_=>by simp[eZ]
 |n::ns,h=>by
  have ih:=nC (ns:=ns) (fun m hm=>h m (by simp[hm]));have h1:=h n (by simp);have:=il (oC h1.1 h1.2);simp only[eZ,List.flatMap_cons,List.length_append,List.length_cons]at ih ⊢;omega
theorem rR: ∀{ts:List Bytes},(∀t∈ts,t.length≤200)→(fJ ts).length≤ts.length*201
 | [],_=>by simp[fJ]
 |t::ts,h=>by
  have ih:=rR (ts:=ts) (fun m hm=>h m (by simp[hm]));have h1:=h t (by simp);simp only[fJ,List.flatMap_cons,List.length_append,List.length_cons]at ih ⊢;omega
theorem Ru{r:RecM}(h:r.may):(bL r).length≤1000:=by
 have h1:=nC h.num;have h2:=rR h.len;have:=h.ns;have:=h.ts;simp only[bL,List.length_cons,List.length_append];omega
theorem dg{α:Type}{l:List α}{k:Nat}{x:α}(h:l[k]? =some x):l.take (k+1)=l.take k++[x]:=by
 rw[List.take_add_one,h];rfl
theorem fS(a:Bytes)(k:Nat)(h:k<256):av a++[.int .u8 k]=av (a++[UInt8.ofNat k]):=by
 rw[dD];congr 1;simp[av];omega
theorem Dm.take{ns:List Int}(h:Dm ns)(k:Nat):Dm (ns.take k):=fun n hn=>h n (List.mem_of_mem_take hn)
def fC(r:RecM)(k:Nat):Bytes:=UInt8.ofNat r.kind.toNat::oH r.aH.length r.texts.length::eZ (r.aH.take k)
def fc(r:RecM)(k:Nat):Bytes:=fC r r.aH.length++fJ (r.texts.take k)
theorem uv{r:RecM}{k:Nat}{n:Int}(h:r.aH[k]? =some n):fC r (k+1)=fC r k++fN (mT n):=by
 unfold fC;rw[dg h,Ip];rfl
theorem ux(r:RecM):fc r 0=fC r r.aH.length:=by simp[fc,fJ]
theorem uw{r:RecM}{k:Nat}{t:Bytes}(h:r.texts[k]? =some t):fc r (k+1)=fc r k++[UInt8.ofNat t.length]++t:=by
 unfold fc;rw[dg h,FW];simp
theorem xA(r:RecM):fc r r.texts.length=bL r:=by simp[fc,fC,bL]
theorem lM{r:RecM}(h:r.may)(k:Nat):(fC r k).length≤162:=by
 have h1:=nC (Dm.take h.num k);have h2:=h.ns;simp only[fC,List.length_cons];simp only[List.length_take]at h1;omega
theorem gJ{r:RecM}(h:r.may)(k:Nat):(fc r k).length≤1000:=by
 have h1:=lM h r.aH.length;have h2:=rR (ts:=r.texts.take k) (fun t ht=>h.len t (List.mem_of_mem_take ht));have h3:=h.ts;simp only[fc,List.length_append];simp only[List.length_take]at h2;omega
end Go.Sl