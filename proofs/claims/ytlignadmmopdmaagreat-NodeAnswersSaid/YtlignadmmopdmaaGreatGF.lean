/- A part of the proof. -/
import Derived.Test.YtlignadmmopdmaaGreatGC
import Derived.Test.YtlignadmmopdmaaGreatGE
set_option linter.unusedVariables false
set_option linter.unusedSimpArgs false
set_option linter.constructorNameAsVariable false
namespace Go.Sl
theorem wrapU{k:IntKind}(hk:k.signed=false)(n:Int):k.wrap n=n % 2^k.bits:=by unfold IntKind.wrap;simp[hk]
theorem wu8(n:Int):IntKind.u8.wrap n=n % 256:=by rw[wrapU rfl];rfl
theorem wu32(n:Int):IntKind.u32.wrap n=n % 4294967296:=by rw[wrapU rfl];rfl
theorem wu64(n:Int):IntKind.u64.wrap n=n % 18446744073709551616:=by rw[wrapU rfl];rfl
theorem ofInt_nat{w p:Nat}:(BitVec.ofInt w (p:Int))=BitVec.ofNat w p:=by simp
theorem bAnd_u{k:IntKind}(hk:k.signed=false){p q:Nat}(hp:p<2^k.bits)(hq:q<2^k.bits):bAnd k p q=((p&&&q:Nat):Int):=by
 unfold bAnd;rw[wrapU hk,ofInt_nat,ofInt_nat,BitVec.toNat_and,BitVec.toNat_ofNat,BitVec.toNat_ofNat,Nat.mod_eq_of_lt hp,Nat.mod_eq_of_lt hq];have:p&&&q<2^k.bits:=Nat.and_lt_two_pow _ hq
 exact_mod_cast Nat.mod_eq_of_lt this
theorem bOr_u{k:IntKind}(hk:k.signed=false){p q:Nat}(hp:p<2^k.bits)(hq:q<2^k.bits):bOr k p q=((p|||q:Nat):Int):=by
 unfold bOr;rw[wrapU hk,ofInt_nat,ofInt_nat,BitVec.toNat_or,BitVec.toNat_ofNat,BitVec.toNat_ofNat,Nat.mod_eq_of_lt hp,Nat.mod_eq_of_lt hq];have:p|||q<2^k.bits:=Nat.or_lt_two_pow hp hq
 exact_mod_cast Nat.mod_eq_of_lt this
theorem bXor_u{k:IntKind}(hk:k.signed=false){p q:Nat}(hp:p<2^k.bits)(hq:q<2^k.bits):bXor k p q=((p^^^q:Nat):Int):=by
 unfold bXor;rw[wrapU hk,ofInt_nat,ofInt_nat,BitVec.toNat_xor,BitVec.toNat_ofNat,BitVec.toNat_ofNat,Nat.mod_eq_of_lt hp,Nat.mod_eq_of_lt hq];have:p^^^q<2^k.bits:=Nat.xor_lt_two_pow hp hq
 exact_mod_cast Nat.mod_eq_of_lt this
theorem and127{x:Nat}(hx:x<256):bAnd .u8 x 127=((x % 128:Nat):Int):=by
 have:=bAnd_u (k:= .u8) rfl (p:=x) (q:=127) hx (by decide);rw[show((127:Nat):Int)=127 from rfl]at this;rw[this,show(127:Nat)=2^7- 1 from rfl,Nat.and_two_pow_sub_one_eq_mod]
theorem or128{x:Nat}(hx:x<256):bOr .u8 x 128=((x % 128+128:Nat):Int):=by
 have:=bOr_u (k:= .u8) rfl (p:=x) (q:=128) hx (by decide);rw[show((128:Nat):Int)=128 from rfl]at this;rw[this]
 have key: ∀y:Nat,y<128→y|||128=y+128:=by
  intro z hz;have:=Nat.two_pow_add_eq_or_of_lt (i:=7) (b:=z) (by omega) 1;rw[Nat.or_comm,show(128:Nat)=2^7*1 from rfl,←this,Nat.add_comm]
 congr 1
 by_cases h:x<128
 ·rw[key x h];omega
 ·have e:x=(x % 128)|||128:=by rw[key _ (by omega)];omega
  conv=>lhs;rw[e]
  rw[Nat.or_assoc,Nat.or_self,key _ (by omega)]
theorem and1_64{u:Nat}(hu:u<18446744073709551616):bAnd .u64 u 1=((u % 2:Nat):Int):=by
 have:=bAnd_u (k:= .u64) rfl (p:=u) (q:=1) hu (by decide);rw[show((1:Nat):Int)=1 from rfl]at this;rw[this,Nat.and_one_is_mod]
theorem and1_32{u:Nat}(hu:u<4294967296):bAnd .u32 u 1=((u % 2:Nat):Int):=by
 have:=bAnd_u (k:= .u32) rfl (p:=u) (q:=1) hu (by decide);rw[show((1:Nat):Int)=1 from rfl]at this;rw[this,Nat.and_one_is_mod]
theorem orShift{u x m:Nat}(hu:u<2^m)(hb:x*2^m<18446744073709551616)(h64:u<18446744073709551616):bOr .u64 u ((x*2^m:Nat):Int)=((u+x*2^m:Nat):Int):=by
 rw[bOr_u rfl h64 hb];congr 1;have:=Nat.two_pow_add_eq_or_of_lt hu x;rw[Nat.or_comm,Nat.mul_comm x,←this,Nat.add_comm]
theorem xor_zero_i64{p:Int}(h0: -9223372036854775808≤p)(h1:p≤9223372036854775807):bXor .i64 p 0=p:=by
 unfold bXor;rw[show IntKind.i64.bits=64 from rfl,show BitVec.ofInt 64 0=0#64 from rfl,BitVec.xor_zero,BitVec.toNat_ofInt];have:=@IntKind.wrap;unfold IntKind.wrap;simp[IntKind.bits,IntKind.signed];omega
theorem xor_ones_i64{p:Int}(h0: -9223372036854775808≤p)(h1:p≤9223372036854775807):bXor .i64 p (-1)= -p- 1:=by
 unfold bXor;rw[show IntKind.i64.bits=64 from rfl,show BitVec.ofInt 64 (-1)=BitVec.allOnes 64 from rfl,BitVec.xor_allOnes,BitVec.toNat_not,BitVec.toNat_ofInt];unfold IntKind.wrap;simp[IntKind.bits,IntKind.signed];omega
theorem xor_ones_u64{p:Nat}(h:p<18446744073709551616):bXor .u64 p 18446744073709551615=((18446744073709551615-p:Nat):Int):=by
 have:=bXor_u (k:= .u64) rfl (p:=p) (q:=18446744073709551615) h (by decide);rw[show((18446744073709551615:Nat):Int)=18446744073709551615 from rfl]at this;rw[this];congr 1;have h2:(BitVec.ofNat 64 p^^^BitVec.allOnes 64).toNat=(~~~ (BitVec.ofNat 64 p)).toNat:=by rw[BitVec.xor_allOnes]
 rw[BitVec.toNat_xor,BitVec.toNat_not,BitVec.toNat_ofNat,BitVec.toNat_allOnes,Nat.mod_eq_of_lt (by simpa using h)]at h2;simpa using h2
theorem xor_zero_u64{p:Nat}(h:p<18446744073709551616):bXor .u64 p 0=(p:Int):=by
 have:=bXor_u (k:= .u64) rfl (p:=p) (q:=0) h (by decide);simpa using this
/-- What a number's bytes say: both ways. -/
theorem zag_bits{u:Nat}(hu:u<18446744073709551616):bXor .i64 (IntKind.i64.wrap ((u / 2:Nat):Int)) (IntKind.i64.wrap (-(IntKind.i64.wrap ((u % 2:Nat):Int))))=zag u:=by
 unfold zag;have hw:IntKind.i64.wrap ((u / 2:Nat):Int)=((u / 2:Nat):Int):=wr (by omega) (by omega);rw[hw]
 by_cases h:u % 2=0
 ·rw[if_pos h,h,show IntKind.i64.wrap (-(IntKind.i64.wrap ((0:Nat):Int)))=0 by decide];exact xor_zero_i64 (by omega) (by omega)
 ·have h1:u % 2=1:=by omega
  rw[if_neg h,h1,show IntKind.i64.wrap (-(IntKind.i64.wrap ((1:Nat):Int)))= -1 by decide];exact xor_ones_i64 (by omega) (by omega)
theorem zig_bits{n:Int}(h1: -9223372036854775808≤n)(h2:n≤9223372036854775807):
  bXor .u64 (IntKind.u64.wrap (IntKind.u64.wrap n*2)) (IntKind.u64.wrap (n.fdiv 9223372036854775808))=(zig n:Int):=by
 unfold zig;rw[wu64,wu64,wu64];have hf:n.fdiv 9223372036854775808=n / 9223372036854775808:=Int.fdiv_eq_ediv_of_nonneg _ (by omega);rw[hf]
 by_cases h:0≤n
 ·rw[if_pos h,show n / 9223372036854775808=0 by omega,show(0:Int) % 18446744073709551616=0 from rfl];have e:n % 18446744073709551616*2 % 18446744073709551616=(((2*n).toNat:Nat):Int):=by omega
  rw[e];exact xor_zero_u64 (by omega)
 ·rw[if_neg h,show n / 9223372036854775808= -1 by omega,show(-1:Int) % 18446744073709551616=18446744073709551615 from rfl];have e:n % 18446744073709551616*2 % 18446744073709551616=(((18446744073709551616+2*n).toNat:Nat):Int):=by omega
  rw[e,xor_ones_u64 (by omega)];omega
def crcBit(s:Nat):Nat:=if s % 2=1 then(s / 2)^^^2197175160 else s / 2
theorem crcBit_lt{s:Nat}(h:s<4294967296):crcBit s<4294967296:=by
 unfold crcBit;split
 · exact Nat.xor_lt_two_pow (n:=32) (by omega) (by omega)
 · omega
def crcN:Nat→Nat→Nat
 |0,s=>s
 |k+1,s=>crcBit (crcN k s)
def crcOn(s:Nat)(b:UInt8):Nat:=crcN 8 (s^^^b.toNat)
theorem crcN_lt{s:Nat}(h:s<4294967296): ∀k,crcN k s<4294967296
 |0=>h
 |k+1=>crcBit_lt (crcN_lt h k)
theorem crcOn_lt{s:Nat}(b:UInt8)(h:s<4294967296):crcOn s b<4294967296:=
 crcN_lt (Nat.xor_lt_two_pow (n:=32) h (by have:=b.toNat_lt;omega)) 8
def crcMore(s:Nat)(bs:Bytes):Nat:=4294967295-bs.foldl crcOn (4294967295-s)
def sumM(bs:Bytes):Nat:=crcMore 0 bs
theorem crcFold_lt: ∀{bs:Bytes} {s:Nat},s<4294967296→bs.foldl crcOn s<4294967296
 | [],_,h=>h
 |b::bs,_,h=>crcFold_lt (bs:=bs) (crcOn_lt b h)
theorem sumM_lt(bs:Bytes):sumM bs<4294967296:=by unfold sumM crcMore;omega
theorem cpl32{s:Nat}(h:s<4294967296):bXor .u32 (if IntKind.u32.signed then-1 else IntKind.u32.max) s=((4294967295-s:Nat):Int):=by
 have:=bXor_u (k:= .u32) rfl (p:=4294967295) (q:=s) (by decide) h;rw[show(if IntKind.u32.signed then-1 else IntKind.u32.max)=((4294967295:Nat):Int)from rfl,this];congr 1;have h2:(BitVec.allOnes 32^^^BitVec.ofNat 32 s).toNat=(~~~ (BitVec.ofNat 32 s)).toNat:=by rw[BitVec.allOnes_xor]
 rw[BitVec.toNat_xor,BitVec.toNat_not,BitVec.toNat_ofNat,BitVec.toNat_allOnes,Nat.mod_eq_of_lt (by simpa using h)]at h2;simpa using h2
theorem crcBit_bits{s:Nat}(h:s<4294967296):(if bAnd .u32 s 1=1 then bXor .u32 ((s / 2:Nat):Int) 2197175160 else((s / 2:Nat):Int))=(crcBit s:Int):=by
 rw[and1_32 h];unfold crcBit;have:=bXor_u (k:= .u32) rfl (p:=s / 2) (q:=2197175160) (by show _<4294967296;omega) (by decide);rw[show((2197175160:Nat):Int)=2197175160 from rfl]at this;rw[this]
 by_cases h1:s % 2=1
 · rw[if_pos h1,if_pos (by omega)]
 · rw[if_neg h1,if_neg (by omega)]
theorem fdiv2{u k:Nat}:((u:Int)).fdiv ((k:Nat):Int)=((u / k:Nat):Int):=by
 rw[Int.fdiv_eq_ediv_of_nonneg _ (by omega)];rfl
theorem numD_bad{k:Nat}{x:UInt8}{r:Bytes}(h:(k=9∧1<x.toNat)∨(0<k∧x.toNat=0)):numD k (x::r)=none:=by
 unfold numD;rw[if_pos h]
theorem numD_last{k:Nat}{x:UInt8}{r:Bytes}(h: ¬((k=9∧1<x.toNat)∨(0<k∧x.toNat=0)))(h2:x.toNat<128):numD k (x::r)=some (x.toNat,r):=by
 unfold numD;rw[if_neg h,if_pos h2]
theorem numD_more{k:Nat}{x:UInt8}{r:Bytes}(h: ¬((k=9∧1<x.toNat)∨(0<k∧x.toNat=0)))(h2: ¬x.toNat<128):numD k (x::r)=(numD (k+1) r).map fun q=>(x.toNat- 128+128*q.1,q.2):=by
 conv=>lhs;unfold numD
 rw[if_neg h,if_neg h2];cases numD (k+1) r<;>rfl
/-- What is known in the number's loop. -/
structure NumI(bs:Bytes)(k u:Nat)(r:Bytes):Prop where
 k9:k≤9
 lt:u<2^(7*k)
 eq:numD 0 bs=(numD k r).map fun q=>(u+2^(7*k)*q.1,q.2)
theorem NumI.zero(bs:Bytes):NumI bs 0 0 bs:=by
 refine⟨by omega,by decide,?_⟩;cases h:numD 0 bs with
 |none=>rfl
 |some q=>simp
theorem pow7{k:Nat}(h:k≤9):2^(7*k)≤9223372036854775808:=by
 have:2^(7*k)≤2^63:=Nat.pow_le_pow_right (by omega) (by omega);simpa using this
theorem pow7'{k:Nat}(h:k≤8):2^(7*k)≤72057594037927936:=by
 have:2^(7*k)≤2^56:=Nat.pow_le_pow_right (by omega) (by omega);simpa using this
theorem NumI.fit{bs:Bytes}{k u:Nat}{r:Bytes}{x:UInt8}(h:NumI bs k u (x::r))(hok: ¬((k=9∧1<x.toNat)∨(0<k∧x.toNat=0))):
  x.toNat % 128*2^(7*k)<18446744073709551616∧u+x.toNat % 128*2^(7*k)<18446744073709551616:=by
 have h1:=h.k9;have h2:=h.lt;have h3:=pow7 h1
 by_cases h9:k=9
 ·subst h9;have hx:x.toNat≤1:=by omega
  have h4:x.toNat % 128≤1:=by omega
  have h5:x.toNat % 128*2^(7*9)≤1*2^(7*9):=Nat.mul_le_mul_right _ h4;omega
 ·have h3:=pow7' (k:=k) (by omega);have h5:x.toNat % 128*2^(7*k)≤127*2^(7*k):=Nat.mul_le_mul_right _ (by omega);omega
theorem NumI.next{bs:Bytes}{k u:Nat}{r:Bytes}{x:UInt8}(h:NumI bs k u (x::r))(hok: ¬((k=9∧1<x.toNat)∨(0<k∧x.toNat=0)))(hx: ¬x.toNat<128):
  NumI bs (k+1) (u+x.toNat % 128*2^(7*k)) r:=by
 have h9:k≤8:=by have:=h.k9;omega
 have e:2^(7*(k+1))=128*2^(7*k):=by rw[show 7*(k+1)=7*k+7 by omega,Nat.pow_add];omega
 have h2:=h.lt;have hb:=x.toNat_lt;refine⟨by omega,?_,?_⟩
 ·rw[e];have h5:x.toNat % 128*2^(7*k)≤127*2^(7*k):=Nat.mul_le_mul_right _ (by omega);omega
 ·rw[h.eq,numD_more hok hx,e];cases numD (k+1) r with
  |none=>rfl
  |some q=>
   simp only[Option.map_some,Option.some.injEq,Prod.mk.injEq,and_true];have:x.toNat % 128=x.toNat- 128:=by omega
   rw[this,Nat.mul_add,Nat.mul_comm (x.toNat- 128),show 128*2^(7*k)*q.1=2^(7*k)*(128*q.1)by rw[Nat.mul_comm 128,Nat.mul_assoc]];omega
theorem NumI.last{bs:Bytes}{k u:Nat}{r:Bytes}{x:UInt8}(h:NumI bs k u (x::r))(hok: ¬((k=9∧1<x.toNat)∨(0<k∧x.toNat=0)))(hx:x.toNat<128):
  numD 0 bs=some (u+x.toNat % 128*2^(7*k),r):=by
 rw[h.eq,numD_last hok hx];simp only[Option.map_some,Option.some.injEq,Prod.mk.injEq,and_true];rw[Nat.mod_eq_of_lt hx,Nat.mul_comm]
theorem NumI.bad{bs:Bytes}{k u:Nat}{r:Bytes}{x:UInt8}(h:NumI bs k u (x::r))(hx:(k=9∧1<x.toNat)∨(0<k∧x.toNat=0)):numD 0 bs=none:=by
 rw[h.eq,numD_bad hx];rfl
theorem NumI.none{bs:Bytes}{k u:Nat}(h:NumI bs k u []):numD 0 bs=none:=by
 rw[h.eq];cases k<;>rfl
theorem shl7{k y:Nat}(hk:k≤9)(h:y*2^(7*k)<18446744073709551616):IntKind.u64.wrap (((y:Nat):Int)*2^(min ((7*k:Nat):Int).toNat IntKind.u64.bits))=((y*2^(7*k):Nat):Int):=by
 rw[wu64,Int.toNat_natCast,show min (7*k) IntKind.u64.bits=7*k by show min _ 64=_;omega];have e:((y:Nat):Int)*2^(7*k)=((y*2^(7*k):Nat):Int):=by simp
 rw[e];omega
theorem rd1 [Env]{R:List Seg}{v:Value}{x:UInt8}{r:Bytes}(h:RdY R v (x::r)):RdV R (vSl v 0 1 1) 1 [.int .u8 x.toNat]:=(h.take (k:=1) (by simp)).rd
theorem rdr1 [Env]{R:List Seg}{v:Value}{x:UInt8}{r:Bytes}(h:RdY R v (x::r)):RdY R (vSl v 1 (x::r).length 1) r:=h.drop (k:=1) (by simp)
def strsV(ts:List Bytes):List Value:=ts.map fun t=> .string ⟨t.toArray⟩
@[simp] theorem strsV_length(ts:List Bytes):(strsV ts).length=ts.length:=by simp[strsV]
theorem strsV_get{ts:List Bytes}{k:Nat}{t:Bytes}(h:ts[k]? =some t):(strsV ts)[k]? =some (.string ⟨t.toArray⟩):=by simp[strsV,h]
theorem strsV_snoc(ts:List Bytes)(t:Bytes):strsV ts++[.string ⟨t.toArray⟩]=strsV (ts++[t]):=by simp[strsV]
theorem intsV_snoc(ts:List Int)(t:Int):intsV ts++[.int .i64 t]=intsV (ts++[t]):=by simp[intsV]
/-- The numbers' loop. -/
structure NumsI(r:Bytes)(m k:Nat)(ns:List Int)(b:Bytes):Prop where
 le:k≤m
 len:ns.length=k
 eq:numsD m r=(numsD (m-k) b).map fun q=>(ns++q.1,q.2)
theorem NumsI.zero(r:Bytes)(m:Nat):NumsI r m 0 [] r:=by
 refine⟨Nat.zero_le _,rfl,?_⟩;rw[Nat.sub_zero];cases numsD m r<;>simp
theorem NumsI.step{r:Bytes}{m k:Nat}{ns:List Int}{b:Bytes}{q:Nat × Bytes}(h:NumsI r m k ns b)(hk:k<m)(hq:numD 0 b=some q):NumsI r m (k+1) (ns++[zag q.1]) q.2:=by
 refine⟨hk,by simp[h.len],?_⟩;rw[h.eq,show m-k=(m-(k+1))+1 by omega];simp only[numsD,hq];cases numsD (m-(k+1)) q.2<;>simp
theorem NumsI.bad{r:Bytes}{m k:Nat}{ns:List Int}{b:Bytes}(h:NumsI r m k ns b)(hk:k<m)(hq:numD 0 b=none):numsD m r=none:=by
 rw[h.eq,show m-k=(m-(k+1))+1 by omega];simp only[numsD,hq];rfl
theorem NumsI.done{r:Bytes}{m:Nat}{ns:List Int}{b:Bytes}(h:NumsI r m m ns b):numsD m r=some (ns,b):=by
 rw[h.eq,Nat.sub_self];simp[numsD]
structure TextsI(r:Bytes)(m k:Nat)(ts:List Bytes)(b:Bytes):Prop where
 le:k≤m
 len:ts.length=k
 eq:textsD m r=(textsD (m-k) b).map fun q=>(ts++q.1,q.2)
theorem TextsI.zero(r:Bytes)(m:Nat):TextsI r m 0 [] r:=by
 refine⟨Nat.zero_le _,rfl,?_⟩;rw[Nat.sub_zero];cases textsD m r<;>simp
theorem TextsI.step{r:Bytes}{m k:Nat}{ts:List Bytes}{x:UInt8}{b:Bytes}(h:TextsI r m k ts (x::b))(hk:k<m)(h1: ¬200<x.toNat)(h2:x.toNat≤b.length):TextsI r m (k+1) (ts++[b.take x.toNat]) (b.drop x.toNat):=by
 refine⟨hk,by simp[h.len],?_⟩;rw[h.eq,show m-k=(m-(k+1))+1 by omega];simp only[textsD,textD];rw[if_neg h1,if_neg (by omega)];dsimp only;cases textsD (m-(k+1)) (b.drop x.toNat)<;>simp
theorem TextsI.bad0{r:Bytes}{m k:Nat}{ts:List Bytes}(h:TextsI r m k ts [])(hk:k<m):textsD m r=none:=by
 rw[h.eq,show m-k=(m-(k+1))+1 by omega];simp[textsD,textD]
theorem TextsI.bad{r:Bytes}{m k:Nat}{ts:List Bytes}{x:UInt8}{b:Bytes}(h:TextsI r m k ts (x::b))(hk:k<m)(h1:200<x.toNat∨b.length<x.toNat):textsD m r=none:=by
 rw[h.eq,show m-k=(m-(k+1))+1 by omega];simp only[textsD,textD]
 by_cases h2:200<x.toNat
 · rw[if_pos h2];rfl
 · rw[if_neg h2,if_pos (by omega)];rfl
theorem TextsI.done{r:Bytes}{m:Nat}{ts:List Bytes}{b:Bytes}(h:TextsI r m m ts b):textsD m r=some (ts,b):=by
 rw[h.eq,Nat.sub_self];simp[textsD]
theorem recD_short{b:Bytes}(h:b.length<2):recD b=none:=by
 match b,h with
 | [],_=>rfl
 | [x],_=>rfl
theorem recD_many{k h:UInt8}{r:Bytes}(ht:4<headT h.toNat):recD (k::h::r)=none:=by unfold recD;dsimp only;rw[if_pos ht]
theorem recD_nums{k h:UInt8}{r:Bytes}(ht: ¬4<headT h.toNat)(hn:numsD (headN h.toNat) r=none):recD (k::h::r)=none:=by unfold recD;dsimp only;rw[if_neg ht,hn]
theorem recD_texts{k h:UInt8}{r b:Bytes}{ns:List Int}(ht: ¬4<headT h.toNat)(hn:numsD (headN h.toNat) r=some (ns,b))(hx:textsD (headT h.toNat) b=none):recD (k::h::r)=none:=by
 unfold recD;dsimp only;rw[if_neg ht,hn];dsimp only;rw[hx]
theorem recD_more{k h:UInt8}{r b c:Bytes}{ns:List Int}{ts:List Bytes}(ht: ¬4<headT h.toNat)(hn:numsD (headN h.toNat) r=some (ns,b))(hx:textsD (headT h.toNat) b=some (ts,c))(hc:c≠[]):recD (k::h::r)=none:=by
 unfold recD;dsimp only;rw[if_neg ht,hn];dsimp only;rw[hx];dsimp only;rw[if_neg hc]
theorem recD_some{k h:UInt8}{r b:Bytes}{ns:List Int}{ts:List Bytes}(ht: ¬4<headT h.toNat)(hn:numsD (headN h.toNat) r=some (ns,b))(hx:textsD (headT h.toNat) b=some (ts,[])):recD (k::h::r)=some ⟨k.toNat,ns,ts⟩:=by
 unfold recD;dsimp only;rw[if_neg ht,hn];dsimp only;rw[hx];dsimp only;rw[if_pos rfl]
theorem rd2 [Env]{R:List Seg}{v:Value}{k h:UInt8}{r:Bytes}(hb:RdY R v (k::h::r)):RdV R (vSl v 0 2 1) 2 [.int .u8 k.toNat,.int .u8 h.toNat]:=(hb.take (k:=2) (by simp)).rd
theorem rdr2 [Env]{R:List Seg}{v:Value}{k h:UInt8}{r:Bytes}(hb:RdY R v (k::h::r)):RdY R (vSl v 2 (k::h::r).length 1) r:=hb.drop (k:=2) (by simp)
theorem headN_le(h:UInt8):headN h.toNat≤16:=by unfold headN;split<;>omega
/-- What is decoded: the record and the error. -/
def decM(bs:Bytes):RecM × Int:=match recD bs with
 |some r=>(r,0)
 |none=>(⟨0,[],[]⟩,4)
theorem decM_some{b:Bytes}{r:RecM}(h:recD b=some r):decM b=(r,0):=by unfold decM;rw[h]
theorem decM_none{b:Bytes}(h:recD b=none):decM b=(⟨0,[],[]⟩,4):=by unfold decM;rw[h]
theorem numB_last{u:Nat}(h:u<128):numB u=[UInt8.ofNat u]:=by unfold numB;rw[if_pos h]
theorem numB_more{u:Nat}(h: ¬u<128):numB u=UInt8.ofNat (u % 128+128)::numB (u / 128):=by
 conv=>lhs;unfold numB
 rw[if_neg h]
theorem numB_len: ∀(k u:Nat),u<128^k→0<k→(numB u).length≤k
 |0,_,_,h=>absurd h (by omega)
 |k+1,u,hu,_=>by
  by_cases h:u<128
  ·rw[numB_last h];simp
  ·rw[numB_more h]
   have hk:0<k:=by
    rcases Nat.eq_zero_or_pos k with h0|h0
    · subst h0;simp at hu;omega
    · exact h0
   have:=numB_len k (u / 128) (by rw[Nat.div_lt_iff_lt_mul (by omega)];rwa[Nat.pow_succ]at hu) hk;simp;omega
theorem numB_len10 {u : Nat} (h : u < 18446744073709551616) : (numB u).length ≤ 10 := numB_len 10 u (by have:(128:Nat)^10=1180591620717411303424:=by decide
                                                                                                        omega) (by omega)
def RecM.mayB(r:RecM):Bool:=decide (0≤r.kind)&&decide (r.kind≤255)&&decide ((r.nums.length:Int)≤16)&&decide ((r.texts.length:Int)≤4)&& !(r.texts.any fun t=>decide (200<(t.length:Int)))
def I64s(ns:List Int):Prop:= ∀n∈ns,-9223372036854775808≤n∧n≤9223372036854775807
theorem may_of{r:RecM}(h:r.mayB=true)(hn:I64s r.nums):r.may:=by
 unfold RecM.mayB at h;simp only[Bool.and_eq_true,decide_eq_true_eq,Bool.not_eq_true',List.any_eq_false]at h;obtain⟨⟨⟨⟨h1,h2⟩,h3⟩,h4⟩,h5⟩:=h;refine⟨h1,h2,by omega,by omega,fun t ht=>?_,hn⟩;have:=h5 t ht;omega
theorem mayB_of{r:RecM}(h:r.may):r.mayB=true:=by
 unfold RecM.mayB;simp only[Bool.and_eq_true,decide_eq_true_eq,Bool.not_eq_true',List.any_eq_false];refine⟨⟨⟨⟨h.k0,h.k1⟩,by have:=h.ns;omega⟩,by have:=h.ts;omega⟩,fun t ht=>?_⟩;have:=h.len t ht;omega
def encM(r:RecM):Bytes × Int:=if r.mayB then(recB r,0)else([],4)
theorem headB_nat{n t:Nat}(hn:n≤16)(ht:t≤4):(headB n t).toNat=if n=16 then 240+t else n+16*t:=by
 unfold headB;split
 · rw[UInt8.toNat_ofNat'];omega
 · rw[UInt8.toNat_ofNat'];omega
theorem numsB_snoc(ns:List Int)(n:Int):numsB (ns++[n])=numsB ns++numB (zig n):=by simp[numsB]
theorem textsB_snoc(ts:List Bytes)(t:Bytes):textsB (ts++[t])=textsB ts++(UInt8.ofNat t.length::t):=by simp[textsB]
theorem numsB_len: ∀{ns:List Int},I64s ns→(numsB ns).length≤ns.length*10
 | [],_=>by simp[numsB]
 |n::ns,h=>by
  have ih:=numsB_len (ns:=ns) (fun m hm=>h m (by simp[hm]));have h1:=h n (by simp);have:=numB_len10 (zig_lt h1.1 h1.2);simp only[numsB,List.flatMap_cons,List.length_append,List.length_cons]at ih ⊢;omega
theorem textsB_len: ∀{ts:List Bytes},(∀t∈ts,t.length≤200)→(textsB ts).length≤ts.length*201
 | [],_=>by simp[textsB]
 |t::ts,h=>by
  have ih:=textsB_len (ts:=ts) (fun m hm=>h m (by simp[hm]));have h1:=h t (by simp);simp only[textsB,List.flatMap_cons,List.length_append,List.length_cons]at ih ⊢;omega
theorem recB_len{r:RecM}(h:r.may):(recB r).length≤1000:=by
 have h1:=numsB_len h.num;have h2:=textsB_len h.len;have:=h.ns;have:=h.ts;simp only[recB,List.length_cons,List.length_append];omega
theorem take_snoc{α:Type}{l:List α}{k:Nat}{x:α}(h:l[k]? =some x):l.take (k+1)=l.take k++[x]:=by
 rw[List.take_add_one,h];rfl
theorem bytesV_snoc(a:Bytes)(k:Nat)(h:k<256):bytesV a++[.int .u8 k]=bytesV (a++[UInt8.ofNat k]):=by
 rw[bytesV_append];congr 1;simp[bytesV];omega
theorem I64s.take{ns:List Int}(h:I64s ns)(k:Nat):I64s (ns.take k):=fun n hn=>h n (List.mem_of_mem_take hn)
def encA(r:RecM)(k:Nat):Bytes:=UInt8.ofNat r.kind.toNat::headB r.nums.length r.texts.length::numsB (r.nums.take k)
def encB(r:RecM)(k:Nat):Bytes:=encA r r.nums.length++textsB (r.texts.take k)
theorem encA_succ{r:RecM}{k:Nat}{n:Int}(h:r.nums[k]? =some n):encA r (k+1)=encA r k++numB (zig n):=by
 unfold encA;rw[take_snoc h,numsB_snoc];rfl
theorem encB_zero(r:RecM):encB r 0=encA r r.nums.length:=by simp[encB,textsB]
theorem encB_succ{r:RecM}{k:Nat}{t:Bytes}(h:r.texts[k]? =some t):encB r (k+1)=encB r k++[UInt8.ofNat t.length]++t:=by
 unfold encB;rw[take_snoc h,textsB_snoc];simp
theorem encB_all(r:RecM):encB r r.texts.length=recB r:=by simp[encB,encA,recB]
theorem encA_len{r:RecM}(h:r.may)(k:Nat):(encA r k).length≤162:=by
 have h1:=numsB_len (I64s.take h.num k);have h2:=h.ns;simp only[encA,List.length_cons];simp only[List.length_take]at h1;omega
theorem encB_len{r:RecM}(h:r.may)(k:Nat):(encB r k).length≤1000:=by
 have h1:=encA_len h r.nums.length;have h2:=textsB_len (ts:=r.texts.take k) (fun t ht=>h.len t (List.mem_of_mem_take ht));have h3:=h.ts;simp only[encB,List.length_append];simp only[List.length_take]at h2;omega
end Go.Sl