/- A part of the proof. -/
import Derived.Test.YtlignadmmopdmaaGreatUn
import Derived.Test.YtlignadmmopdmaaGreatT7
import Derived.Test.YtlignadmmopdmaaGreatGG
import Derived.Test.YtlignadmmopdmaaGreatGE
import Derived.Carry
import Derived.ProofKit
import Derived.Deep.Slices
import Derived.Deep.Fields
import Derived.Test.YtlignadmmopdmaaGreatGF
set_option linter.unusedVariables false
set_option linter.unusedSimpArgs false
set_option linter.constructorNameAsVariable false
namespace Go.Proofs
open _root_.Go.Proofs.Tryz
open Go Go.Sl
namespace W
abbrev str(t:Bytes):Value:= .string ⟨t.toArray⟩
theorem V8 [Env]{R:List ax}{gen:Int}{s:Bytes}(h1: -9223372036854775808≤gen)(h2:gen≤9223372036854775807):
   bC Tryz.prog 92 [i64 gen,str s] [] R (zx 5 (cG gen s).length 1 (av (cG gen s)) []):=by
 refine ag func92 ntmps92 rfl rfl ?_;refine gc 9 ?_;refine cv 10 rfl (fun h5=>?_) (fun h5=>?_)
 ·refine gy 17 ?_;refine aj results92 rfl (L1:=[aD none 5 []]++R) ae ?_
  have eF:cG gen s=[]:=by
    unfold cG;rw[if_neg (by rw[dy];omega)]
  rw[eF];exact⟨_,⟨none,rfl,⟨rfl,rfl⟩,rfl⟩,rfl⟩
 refine gy 4 ?_;refine cv 14 rfl (fun KZ=>?_) (fun KZ=>?_)
 ·refine gy 13 ?_;refine aj results92 rfl (L1:=[aD none 5 []]++R) ae ?_
  have eF:cG gen s=[]:=by
    unfold cG;rw[if_neg (by rw[dy];omega)]
  rw[eF];exact⟨_,⟨none,rfl,⟨rfl,rfl⟩,rfl⟩,rfl⟩
 refine gy 1 ?_;refine bV ?_;refine y (cP rfl underlying9) rfl ?_;refine gy 4 ?_;refine cc rfl (fun AH=>?_) (fun AH=>?_)
 ·refine gc 6 ?_;refine aj results92 rfl (L1:=[aD none 5 []]++R) ae ?_
  have eF:cG gen s=[]:=by
    unfold cG;rw[if_neg (by rw[dy];omega)]
  rw[eF];exact⟨_,⟨none,rfl,⟨rfl,rfl⟩,rfl⟩,rfl⟩
 refine gc 3 ?_;have cq:ke gen s=true:=by rw[dy];omega
 have dj:=FM cq;have iW:kQ (jU gen s)=(bL (jU gen s),0):=by unfold kQ;rw[if_pos (JV dj)]
 obtain⟨hlen,atN⟩:=uU cq;refine gy 1 ?_;refine ya (aE rfl underlying57 sizeOf2 zeroValue2 rfl rfl rfl rfl ⟨⟨_,_,rfl,(by rfl),(by decide)⟩,trivial⟩ (by dsimp[bt,aX,aY,bS]<;>rfl)) rfl ?_;rintro v L' ⟨b21,rfl,rfl⟩;refine gy 1 ?_;refine ya (aE rfl underlying86 sizeOf9 zeroValue9 rfl rfl rfl rfl ⟨⟨_,_,rfl,(by rfl),(by decide)⟩,trivial⟩ (by dsimp[bt,aX,aY,bS]<;>rfl)) rfl ?_;rintro v L' ⟨b23,rfl,rfl⟩;refine y (bU rfl) rfl ?_;refine aA (p6 (r:=jU gen s) ?apy ?apR ?atc) rfl call94 aZ rfl ?_
 case apy=>exact eh aL rfl rfl
 case apR=>exact eh aL rfl rfl
 case atc=>intro n hn;simp[jU]at hn;subst hn;omega
 rintro v L' ⟨s25,rfl,CF,rfl⟩;rw[iW]at CF ⊢;dsimp only at CF ⊢;have SG:cG gen s=dG (bL (jU gen s)):=by unfold cG;rw[if_pos cq]
 generalize bL (jU gen s)=rb at*;refine gy 9 ?_;refine y (bH rfl underlying55 (by assumption)) rfl ?_;refine y (aR rfl underlying3 underlying5) rfl ?_;rw[r4,show((rb.length:Nat):Int) % 256=((rb.length:Nat):Int)by omega];refine ya (aE rfl underlying55 sizeOf5 zeroValue5 rfl rfl rfl rfl ⟨⟨_,_,rfl,(by rfl),(by decide)⟩,trivial⟩ (by dsimp[bt,aX,aY,bS]<;>rfl)) rfl ?_;rintro v L' ⟨b31,rfl,rfl⟩;refine gy 1 ?_;refine ya (aO (s:=some (b31,1,[])) (xs:=[.int .u8 ((rb.length:Nat):Int)]) (m:=1) (k:=rb.length) (us:=av rb) (size:=1) rfl rfl (by repeat first|exact .z|apply Pk.s) underlying55 underlying55 (by intro q hq;cases hq) typeInfo5 rfl rfl rfl ?QH ?alL ?aj3 ?ad3) rfl ?_
 case QH=>exact⟨Nat.le_refl _,by decide,rfl,rfl⟩
 case alL=>exact rQ aL CF
 case aj3=>exact cL _
 case ad3=>show(_+_)*2≤_;omega
 rintro v L' ⟨s33,rfl,Me,rfl⟩;have sP:1+rb.length=(UInt8.ofNat rb.length::rb).length:=by simp;omega
 rw[show [Value.int .u8 ((rb.length:Nat):Int)]++av rb=av (UInt8.ofNat rb.length::rb)by simp[av];omega,sP]at Me ⊢;have Ht:(UInt8.ofNat rb.length::rb).length≤114:=by simp;omega
 have Ez:dG rb=Db (lY (UInt8.ofNat rb.length::rb))++(UInt8.ofNat rb.length::rb):=rfl;generalize UInt8.ofNat rb.length::rb=rc at*;refine gy 5 ?_;refine bK (XS (bs:=rc) ?ann ?ahy) call145 ?_
 case ann=>exact bG aL Me
 case ahy=>omega
 have iP:=w5 rc;generalize lY rc=su at*;refine gy 5 ?_;refine y (iI rfl rfl (by decide)) rfl ?_;rw[show((su:Nat):Int).fdiv (2^(min (24:Int).toNat IntKind.u32.bits))=((su / 16777216:Nat):Int)from m9 (k:=16777216)];refine y (aR rfl underlying173 underlying5) rfl ?_;rw[r4,show((su / 16777216:Nat):Int) % 256=((su / 16777216 % 256:Nat):Int)by omega];refine gy 1 ?_;refine y (iI rfl rfl (by decide)) rfl ?_;rw[show((su:Nat):Int).fdiv (2^(min (16:Int).toNat IntKind.u32.bits))=((su / 65536:Nat):Int)from m9 (k:=65536)];refine y (aR rfl underlying173 underlying5) rfl ?_;rw[r4,show((su / 65536:Nat):Int) % 256=((su / 65536 % 256:Nat):Int)by omega];refine gy 1 ?_;refine y (iI rfl rfl (by decide)) rfl ?_;rw[show((su:Nat):Int).fdiv (2^(min (8:Int).toNat IntKind.u32.bits))=((su / 256:Nat):Int)from m9 (k:=256)];refine y (aR rfl underlying173 underlying5) rfl ?_;rw[r4,show((su / 256:Nat):Int) % 256=((su / 256 % 256:Nat):Int)by omega];refine gy 1 ?_;refine y (aR rfl underlying173 underlying5) rfl ?_;rw[r4,show((su:Nat):Int) % 256=((su % 256:Nat):Int)by omega];refine ya (aE rfl underlying55 sizeOf5 zeroValue5 rfl rfl rfl rfl ⟨⟨_,_,rfl,(by rfl),(by decide)⟩,⟨⟨_,_,rfl,(by rfl),(by decide)⟩,⟨⟨_,_,rfl,(by rfl),(by decide)⟩,⟨⟨_,_,rfl,(by rfl),(by decide)⟩,trivial⟩⟩⟩⟩ (by dsimp[bt,aX,aY,bS]<;>rfl)) rfl ?_;rintro v L' ⟨Gy,rfl,rfl⟩;refine gy 1 ?_;refine ya (aO (s:=some (Gy,4,[])) (xs:=S5 su) (m:=4) (k:=rc.length) (us:=av rc) (size:=1) rfl rfl (by repeat first|exact .z|apply Pk.s) underlying55 underlying55 (by intro q hq;cases hq) typeInfo5 rfl rfl rfl ?qJ ?RL ?QX ?NH) rfl ?_
 case qJ=>exact⟨Nat.le_refl _,by decide,rfl,rfl⟩
 case RL=>exact rQ aL Me
 case QX=>exact cL _
 case NH=>show(_+_)*2≤_;omega
 rintro v L' ⟨s49,rfl,Iv,rfl⟩;rw[Jg,←dD,show 4+rc.length=(Db su++rc).length by simp[Db];omega,←Ez,←SG]at Iv ⊢;refine gy 4 ?_;refine aj results92 rfl (L1:=[aD _ _ _]++R) ae ?_;exact⟨_,⟨s49,rfl,Iv,rfl⟩,rfl⟩
theorem aer [Env]{R:List ax}{v:Value}{bs:Bytes}(hb:oD R v bs)(h5:5≤bs.length)(hl:bs.length≤1000):
   bC Tryz.prog 77 [v] [] R (Is (.tuple #[i64 (gY bs).1,str (gY bs).2.1,.bool (gY bs).2.2]) []):=by
 obtain⟨b0,b1,b2,b3,b4,r,rfl⟩:=aff h5;have hv:=hb.rd;have Lv:=b0.toNat_lt;have Cc:=b1.toNat_lt;have AO:=b2.toNat_lt;have Zn:=b3.toNat_lt;have hl4:=b4.toNat_lt;have hlr:(b0::b1::b2::b3::b4::r).length=r.length+5:=rfl;refine ag func77 ntmps77 rfl rfl ?_;refine gc 8 ?_;refine y (aK hv rfl rfl underlying55 sizeOf5 (by omega) (by omega)) rfl ?_;refine y (au 4 hv ae rfl isAgg5 rfl rfl) rfl ?_;refine y (aR rfl underlying5 underlying3) rfl ?_;rw[wr (by omega) (by omega)];refine gy 7 ?_;rw[wr (by omega) (by omega)];refine gy 1 ?_;refine y (bu rfl underlying55 (cE.bo (by assumption))) rfl ?_;refine gy 3 ?_;refine cc rfl (fun KZ=>?_) (fun KZ=>?_)
 ·refine gc 1 ?_;have zY:gY (b0::b1::b2::b3::b4::r)=(0,[],false):=yP.1 (by unfold jX;omega);refine gy 7 ?_;refine gl results77 rfl rfl rfl (L1:=[]++R) ae ?_;rw[zY];exact⟨_,⟨rfl,rfl⟩,rfl⟩
 have hle:b4.toNat≤r.length:=by omega
 have hd5:oD R (qB v 5 (5+b4.toNat) 1) (r.take b4.toNat):=by
   have:=hb.sl (lo:=5) (hi:=5+b4.toNat) (by omega) (by omega)
   rwa[show 5+b4.toNat- 5=b4.toNat by omega]at this
 have hd4:oD R (qB v 4 (5+b4.toNat) 1) ((b4::r).take (b4.toNat+1)):=by
   have:=hb.sl (lo:=4) (hi:=5+b4.toNat) (by omega) (by omega)
   rwa[show 5+b4.toNat- 4=b4.toNat+1 by omega]at this
 have Zo:((b4::r).take (b4.toNat+1)).length≤1000:=by simp;omega
 refine gc 3 ?_;refine aS 22 (od [] 22 0) (_) Tryz.mixed (by kernel_rfl) .refl ?_;refine gh 1 ?_;refine hr rfl (aK hv rfl rfl underlying55 sizeOf5 (by omega) (by omega)) rfl ?_;refine hr rfl (au 0 hv ae rfl isAgg5 rfl rfl) rfl ?_;refine hr rfl (aR rfl underlying5 underlying173) rfl ?_;refine hr rfl (j5 rfl rfl (by decide)) rfl ?_;refine gh 1 ?_;refine hr rfl (aK hv rfl rfl underlying55 sizeOf5 (by omega) (by omega)) rfl ?_;refine hr rfl (au 1 hv ae rfl isAgg5 rfl rfl) rfl ?_;refine hr rfl (aR rfl underlying5 underlying173) rfl ?_;refine hr rfl (j5 rfl rfl (by decide)) rfl ?_;refine hr rfl (m8 rfl rfl) rfl ?_;refine gh 1 ?_;refine hr rfl (aK hv rfl rfl underlying55 sizeOf5 (by omega) (by omega)) rfl ?_;refine hr rfl (au 2 hv ae rfl isAgg5 rfl rfl) rfl ?_;refine hr rfl (aR rfl underlying5 underlying173) rfl ?_;refine hr rfl (j5 rfl rfl (by decide)) rfl ?_;refine hr rfl (m8 rfl rfl) rfl ?_;refine gh 1 ?_;refine hr rfl (aK hv rfl rfl underlying55 sizeOf5 (by omega) (by omega)) rfl ?_;refine hr rfl (au 3 hv ae rfl isAgg5 rfl rfl) rfl ?_;refine hr rfl (aR rfl underlying5 underlying173) rfl ?_;refine hr rfl (m8 rfl rfl) rfl ?_;rw[NC Lv Cc AO Zn,show b0.toNat*16777216+b1.toNat*65536+b2.toNat*256+b3.toNat=kE (b0::b1::b2::b3::b4::r)from rfl];refine gh 8 ?_;rw[wr (by omega) (by omega),show(5:Int)+((b4.toNat:Nat):Int)=((5+b4.toNat:Nat):Int)by omega];refine y (pt hv hb.cap rfl rfl rfl underlying55 sizeOf5 (by omega) (by omega) (by omega)) rfl ?_;refine aA (pZ (bs:=r.take b4.toNat) ?aoX) rfl call47 aZ rfl ?_
 case aoX=>exact hd5.mono ae
 rintro v L' ⟨kH,kI,rfl,oq,rfl⟩;obtain⟨dO,EC⟩:=@yP b0 b1 b2 b3 b4 r;generalize bX (r.take b4.toNat)=de at*;obtain⟨rc,er⟩:=de;dsimp only at dO EC oq ⊢;have qQ:=oq.n;have k3:=oq.t;unfold tD;have SI:cE [aD kI 9 (cn rc.texts)] (aG kI rc.texts.length) rc.texts.length (cn rc.texts):=bG .z k3;have g9:cE [aD kH 2 (aW rc.aH)] (aG kH rc.aH.length) rc.aH.length (aW rc.aH):=bG .z qQ;refine gy 3 ?_;refine ya (aB zeroValue88 rfl) rfl ?_;rintro v L' ⟨b7,rfl,rfl⟩;refine bA (ai rfl rfl (by(simp only[List.forall_mem_cons,List.not_mem_nil,false_implies,implies_true,bN,and_true,true_and,and_self];first|done|simp[Value.oneCell'])) sizeOf88 bc (by rfl) (by rfl)) ?_;refine gy 8 ?_;rw[wr (by omega) (by omega),show(5:Int)+((b4.toNat:Nat):Int)=((5+b4.toNat:Nat):Int)by omega];refine y (pt hv hb.cap rfl rfl rfl underlying55 sizeOf5 (by omega) (by omega) (by omega)) rfl ?_;refine gy 1 ?_;refine bK (NM (bs:=(b4::r).take (b4.toNat+1)) ?anq ?ahB) call135 ?_
 case anq=>exact hd4.rd.mono ae
 case ahB=>omega
 refine gy 2 ?_;refine cv 55 rfl (fun TG=>?_) (fun TG=>?_)
 ·refine gy 46 ?_;have zY:gY (b0::b1::b2::b3::b4::r)=(0,[],false):=dO (by unfold jX;omega);refine gy 7 ?_;refine gl results77 rfl rfl rfl (L1:=[]++R) ae ?_;rw[zY];exact⟨_,⟨rfl,rfl⟩,rfl⟩
 refine gy 4 ?_;refine cv 59 rfl (fun Gf=>?_) (fun Gf=>?_)
 ·refine gy 42 ?_;have zY:gY (b0::b1::b2::b3::b4::r)=(0,[],false):=dO (by unfold jX;omega);refine gy 7 ?_;refine gl results77 rfl rfl rfl (L1:=[]++R) ae ?_;rw[zY];exact⟨_,⟨rfl,rfl⟩,rfl⟩
 refine gy 5 ?_;refine cv 64 rfl (fun BX=>?_) (fun BX=>?_)
 ·refine gy 37 ?_;have zY:gY (b0::b1::b2::b3::b4::r)=(0,[],false):=dO (by unfold jX;omega);refine gy 7 ?_;refine gl results77 rfl rfl rfl (L1:=[]++R) ae ?_;rw[zY];exact⟨_,⟨rfl,rfl⟩,rfl⟩
 refine gy 2 ?_;refine bV ?_;refine y (bH rfl underlying57 (by assumption)) rfl ?_;refine gy 3 ?_;refine cv 70 rfl (fun Hc=>?_) (fun Hc=>?_)
 ·refine gy 31 ?_;have zY:gY (b0::b1::b2::b3::b4::r)=(0,[],false):=dO (by unfold jX;omega);refine gy 7 ?_;refine gl results77 rfl rfl rfl (L1:=[]++R) ae ?_;rw[zY];exact⟨_,⟨rfl,rfl⟩,rfl⟩
 refine gy 2 ?_;refine bV ?_;refine y (bH rfl underlying86 (by assumption)) rfl ?_;refine gy 3 ?_;refine cv 76 rfl (fun aod=>?_) (fun aod=>?_)
 ·refine gy 25 ?_;have zY:gY (b0::b1::b2::b3::b4::r)=(0,[],false):=dO (by unfold jX;omega);refine gy 7 ?_;refine gl results77 rfl rfl rfl (L1:=[]++R) ae ?_;rw[zY];exact⟨_,⟨rfl,rfl⟩,rfl⟩
 refine gy 2 ?_;refine bV ?_;refine y (aK SI rfl rfl underlying86 sizeOf9 (by omega) (by omega)) rfl ?_;refine bV ?_;refine y (au 0 SI ae rfl isAgg9 rfl (fR (ni (d:=[]) (by omega)))) rfl ?_;refine bV ?_;refine y (cP rfl underlying9) rfl ?_;refine gy 3 ?_;refine cv 84 rfl (fun Yu=>?_) (fun Yu=>?_)
 ·refine gy 17 ?_;have zY:gY (b0::b1::b2::b3::b4::r)=(0,[],false):=dO (by unfold jX;omega);refine gy 7 ?_;refine gl results77 rfl rfl rfl (L1:=[]++R) ae ?_;rw[zY];exact⟨_,⟨rfl,rfl⟩,rfl⟩
 refine gy 2 ?_;refine bV ?_;refine y (aK g9 rfl rfl underlying57 sizeOf2 (by omega) (by omega)) rfl ?_;refine bV ?_;refine y (au 0 g9 ae rfl isAgg2 rfl (dk (ni (d:=0) (by omega)))) rfl ?_;refine gy 3 ?_;refine cv 91 rfl (fun Hf=>?_) (fun Hf=>?_)
 ·refine gy 10 ?_;have zY:gY (b0::b1::b2::b3::b4::r)=(0,[],false):=dO (by unfold jX;omega);refine gy 7 ?_;refine gl results77 rfl rfl rfl (L1:=[]++R) ae ?_;rw[zY];exact⟨_,⟨rfl,rfl⟩,rfl⟩
 refine gy 2 ?_;refine bV ?_;refine y (aK g9 rfl rfl underlying57 sizeOf2 (by omega) (by omega)) rfl ?_;refine bV ?_;refine y (au 0 g9 ae rfl isAgg2 rfl (dk (ni (d:=0) (by omega)))) rfl ?_;refine gy 4 ?_;refine cc rfl (fun aom=>?_) (fun aom=>?_)
 ·refine gc 1 ?_;have zY:gY (b0::b1::b2::b3::b4::r)=(0,[],false):=dO (by unfold jX;omega);refine gy 7 ?_;refine gl results77 rfl rfl rfl (L1:=[]++R) ae ?_;rw[zY];exact⟨_,⟨rfl,rfl⟩,rfl⟩
 refine gc 3 ?_;refine aS 10 (od [] 10 0) (_) Tryz.mixed (by kernel_rfl) .refl ?_;have zY:=EC (by unfold jX;omega);refine gh 2 ?_;refine hr rfl (aK g9 rfl rfl underlying57 sizeOf2 (by omega) (by omega)) rfl ?_;refine hr rfl (au 0 g9 ae rfl isAgg2 rfl (dk (ni (d:=0) (by omega)))) rfl ?_;refine gh 2 ?_;refine hr rfl (aK SI rfl rfl underlying86 sizeOf9 (by omega) (by omega)) rfl ?_;refine hr rfl (au 0 SI ae rfl isAgg9 rfl (fR (ni (d:=[]) (by omega)))) rfl ?_;refine gh 7 ?_;refine gl results77 rfl rfl rfl (L1:=[]++R) ae ?_;rw[zY];exact⟨_,⟨rfl,rfl⟩,rfl⟩
def dh(c:Nat)(q:Q3)(C:a8):ax:=sc c [dp q,i64 C.a,i64 C.b,i64 C.now,i64 C.gen,str C.text] 134
theorem FI [Env]{R:List ax}{q:Q3}{D:az}{i:Int}(hD:D.ok)(h0:D.has i=0):bC Tryz.prog 76 [dp q,i64 i] [dev q D] R
   (fun v L'=> ∃s,v= .tuple #[aG s (D.sec i).length,i64 0]∧bW s (D.sec i).length 1 (av (D.sec i))∧L'=[aD s 5 (av (D.sec i)),dev q D]):=by
 refine(Vq hD).mono ?_;rintro v L (⟨h1,_⟩|⟨_,s,rfl,h2,rfl⟩)
 · exact absurd h0 h1
 exact⟨s,by rw[jm hD],by rw[jm hD];exact h2,rfl⟩
theorem XR [Env]{R:List ax}{c:Nat}{q:Q3}{C:a8}:bC Tryz.prog 48 [ptr c] [dh c q C] R (Is (str C.text) [dh c q C]):=by
 unfold dh;refine ag func48 ntmps48 rfl rfl ?_;refine gc 13 ?_;refine aj results48 rfl (L1:=_) ae ?_;exact⟨_,⟨by rfl,rfl⟩,by rfl⟩
theorem S7 [Env]{R:List ax}{c:Nat}{q:Q3}{C:a8}:bC Tryz.prog 88 [ptr c] [dh c q C] R (Is (i64 C.gen) [dh c q C]):=by
 unfold dh;refine ag func88 ntmps88 rfl rfl ?_;refine gc 13 ?_;refine aj results88 rfl (L1:=_) ae ?_;exact⟨_,⟨by rfl,rfl⟩,by rfl⟩
theorem NN [Env]{R:List ax}{c:Nat}{q:Q3}{C:a8}{D:az}{s:Bytes}(hC:C.ok D.l.length)(hD:D.ok):
   bC Tryz.prog 57 [ptr c,str s] [dh c q C,dev q D] R (Is (i64 (C.put D s).1) [dh c q (C.put D s).2.1,dev q (C.put D s).2.2]):=by
 have hg:=hC.gen;refine ag func57 ntmps57 rfl rfl ?_;unfold dh;refine gc 8 ?_;refine y (cP rfl underlying9) rfl ?_;refine gy 4 ?_;refine cc rfl (fun Dc=>?_) (fun Dc=>?_)
 ·refine gc 1 ?_;have jP:=Rj (C:=C) (D:=D) (s:=s) (by omega);refine gy 6 ?_;refine aj results57 rfl (L1:=[sc c _ 134,dev q _]++R) ae ?_;rw[jP];exact⟨_,⟨rfl,rfl⟩,rfl⟩
 refine gc 9 ?_;refine cc rfl (fun Eg=>?_) (fun Eg=>?_)
 ·refine gc 1 ?_;have jP:=Rh (C:=C) (D:=D) (s:=s) (by omega) (by omega);refine gy 6 ?_;refine aj results57 rfl (L1:=[sc c _ 134,dev q _]++R) ae ?_;rw[jP];exact⟨_,⟨rfl,rfl⟩,rfl⟩
 refine gc 16 ?_;refine cc rfl (fun Eh=>?_) (fun Eh=>?_)
 ·have ZC:C.other=C.b:=by unfold a8.other;rw[if_pos (by omega)]
  have HE:(if C.now=0 then(1:Int)else 0)=1:=by rw[if_pos (by omega)]
  refine gc 6 ?_;refine aS 17 (od [16] 17 0) (_) Tryz.mixed (by kernel_rfl) .refl ?_;refine gh 8 ?_;refine hr rfl (dR rfl rfl underlying132 sizeOf3 (by omega) (by omega)) rfl ?_;refine gh 7 ?_;refine bg rfl (V8 ?aqo ?apc) rfl call92 aZ rfl ?_
  case aqo=>rw[wr (by omega) (by omega)];omega
  case apc=>rw[wr (by omega) (by omega)];omega
  rintro v L' ⟨s39,rfl,QH,rfl⟩;refine⟨ae,?_⟩;refine gh 1 ?_;refine bK (lW (bs:=cG (IntKind.i64.wrap (C.gen+1)) s) ?ajn ?asD) call21 ?_
  case ajn=>exact hD
  case asD=>exact rK aL QH
  have Sw:=az.jN hD C.other (cG (IntKind.i64.wrap (C.gen+1)) s);obtain⟨w,hw⟩: ∃w,D.write C.other (cG (IntKind.i64.wrap (C.gen+1)) s)=w:=⟨_,rfl⟩;have sS:=hw;rw[ZC]at sS;rw[sS];rw[hw]at Sw;refine gy 8 ?_;refine cc rfl (fun Jt=>?_) (fun Jt=>?_)
  ·refine gc 1 ?_;have jP:=Rk (by omega) (by omega) hw (by omega);refine gy 6 ?_;refine aj results57 rfl (L1:=[sc c _ 134,dev q _]++R) ae ?_;rw[jP];exact⟨_,⟨rfl,rfl⟩,rfl⟩
  refine gc 8 ?_;refine bK (rP ?CG) call93 ?_
  case CG=>exact Sw
  obtain⟨bb,Lo⟩: ∃b,w.2.aJ=b:=⟨_,rfl⟩;rw[Lo];refine gy 8 ?_;refine cc rfl (fun Gd=>?_) (fun Gd=>?_)
  ·refine gc 1 ?_;have jP:=Rf (by omega) (by omega) hw (by omega) Lo (by omega);refine gy 6 ?_;refine aj results57 rfl (L1:=[sc c _ 134,dev q _]++R) ae ?_;rw[jP];exact⟨_,⟨rfl,rfl⟩,rfl⟩
  refine gc 3 ?_;have jP:=tu (by omega) (by omega) hw (by omega) Lo (by omega);rw[HE]at jP;refine gy 12 ?_;refine bA (an rfl rfl (by rfl) sizeOf3 bc rfl rfl) ?_;refine gy 2 ?_;refine bA (an rfl rfl (by rfl) sizeOf2 bc rfl rfl) ?_;refine gy 2 ?_;refine bA (an rfl rfl (by rfl) sizeOf9 bc rfl rfl) ?_;refine gy 7 ?_;refine aj results57 rfl (L1:=[sc c _ 134,dev q _]++R) ae ?_;rw[jP];exact⟨_,⟨rfl,rfl⟩,rfl⟩
 have ZC:C.other=C.a:=by unfold a8.other;rw[if_neg (by omega)]
 have HE:(if C.now=0 then(1:Int)else 0)=0:=by rw[if_neg (by omega)]
 refine gc 4 ?_;refine aS 17 (od [16] 17 0) (_) Tryz.mixed (by kernel_rfl) .refl ?_;refine gh 8 ?_;refine hr rfl (dR rfl rfl underlying132 sizeOf3 (by omega) (by omega)) rfl ?_;refine gh 7 ?_;refine bg rfl (V8 ?ahG ?af8) rfl call92 aZ rfl ?_
 case ahG=>rw[wr (by omega) (by omega)];omega
 case af8=>rw[wr (by omega) (by omega)];omega
 rintro v L' ⟨s39,rfl,QH,rfl⟩;refine⟨ae,?_⟩;refine gh 1 ?_;refine bK (lW (bs:=cG (IntKind.i64.wrap (C.gen+1)) s) ?aiS ?akQ) call21 ?_
 case aiS=>exact hD
 case akQ=>exact rK aL QH
 have Sw:=az.jN hD C.other (cG (IntKind.i64.wrap (C.gen+1)) s);obtain⟨w,hw⟩: ∃w,D.write C.other (cG (IntKind.i64.wrap (C.gen+1)) s)=w:=⟨_,rfl⟩;have sS:=hw;rw[ZC]at sS;rw[sS];rw[hw]at Sw;refine gy 8 ?_;refine cc rfl (fun zL=>?_) (fun zL=>?_)
 ·refine gc 1 ?_;have jP:=Rk (by omega) (by omega) hw (by omega);refine gy 6 ?_;refine aj results57 rfl (L1:=[sc c _ 134,dev q _]++R) ae ?_;rw[jP];exact⟨_,⟨rfl,rfl⟩,rfl⟩
 refine gc 8 ?_;refine bK (rP ?aiT) call93 ?_
 case aiT=>exact Sw
 obtain⟨bb,Lo⟩: ∃b,w.2.aJ=b:=⟨_,rfl⟩;rw[Lo];refine gy 8 ?_;refine cc rfl (fun Oj=>?_) (fun Oj=>?_)
 ·refine gc 1 ?_;have jP:=Rf (by omega) (by omega) hw (by omega) Lo (by omega);refine gy 6 ?_;refine aj results57 rfl (L1:=[sc c _ 134,dev q _]++R) ae ?_;rw[jP];exact⟨_,⟨rfl,rfl⟩,rfl⟩
 refine gc 3 ?_;have jP:=tu (by omega) (by omega) hw (by omega) Lo (by omega);rw[HE]at jP;refine gy 12 ?_;refine bA (an rfl rfl (by rfl) sizeOf3 bc rfl rfl) ?_;refine gy 2 ?_;refine bA (an rfl rfl (by rfl) sizeOf2 bc rfl rfl) ?_;refine gy 2 ?_;refine bA (an rfl rfl (by rfl) sizeOf9 bc rfl rfl) ?_;refine gy 7 ?_;refine aj results57 rfl (L1:=[sc c _ 134,dev q _]++R) ae ?_;rw[jP];exact⟨_,⟨rfl,rfl⟩,rfl⟩
def adG(D:az)(a b:Int)(q:Q3)(u:Value)(L':List ax):Prop:=
 (cg D a b≠0∧u= .tuple #[jx,i64 (cg D a b)]∧L'=[dev q D])∨(cg D a b=0∧ ∃c,u= .tuple #[ptr c,i64 0]∧L'=[dh c q (aF D a b),dev q D])
theorem Jh [Env]{R:List ax}{q:Q3}{D:az}{a b:Int}(hD:D.ok):bC Tryz.prog 43 [dp q,i64 a,i64 b] [dev q D] R (adG D a b q):=by
 refine ag func43 ntmps43 rfl rfl ?_;refine gc 9 ?_
 skip
 ·refine y (eM rfl rfl underlying26) rfl ?_;refine gy 6 ?_;refine cv 24 rfl (fun He=>?_) (fun He=>?_)
  ·refine gy 18 ?_;have gj:cg D a b=1:=uR (by omega);refine gy 7 ?_;refine bm results43 rfl rfl (L1:=[dev q D]++R) ae ?_;exact⟨_,.inl ⟨by rw[gj];decide,by rw[gj],rfl⟩,rfl⟩
  refine gy 2 ?_;refine bV ?_;refine y (xF rfl rfl) rfl ?_;rw[show(if b<a then b else a)=min a b by split<;>omega];refine gy 3 ?_;refine cv 30 rfl (fun aoj=>?_) (fun aoj=>?_)
  ·refine gy 12 ?_;have gj:cg D a b=1:=uR (by omega);refine gy 7 ?_;refine bm results43 rfl rfl (L1:=[dev q D]++R) ae ?_;exact⟨_,.inl ⟨by rw[gj];decide,by rw[gj],rfl⟩,rfl⟩
  refine gy 2 ?_;refine bV ?_;refine y (mK rfl rfl) rfl ?_;rw[show(if b>a then b else a)=max a b by split<;>omega];refine gy 1 ?_;refine bV ?_;refine bK (oy) call46 ?_;refine gy 5 ?_;refine cc rfl (fun aoo=>?_) (fun aoo=>?_)
  ·refine gc 1 ?_;have gj:cg D a b=1:=uR (by omega);refine gy 7 ?_;refine bm results43 rfl rfl (L1:=[dev q D]++R) ae ?_;exact⟨_,.inl ⟨by rw[gj];decide,by rw[gj],rfl⟩,rfl⟩
  refine gc 2 ?_;refine bK (Vp) call75 ?_;refine gy 3 ?_;refine cc rfl (fun aoq=>?_) (fun aoq=>?_)
  ·refine gc 1 ?_;have gj:cg D a b=30:=IA (by omega) (by omega) (by omega) (by simp_all);refine gy 7 ?_;refine bm results43 rfl rfl (L1:=[dev q D]++R) ae ?_;exact⟨_,.inl ⟨by rw[gj];decide,by rw[gj],rfl⟩,rfl⟩
  refine gc 4 ?_;have gj:cg D a b=0:=tm (by omega) (by omega) (by omega) (by simp_all);refine gy 3 ?_;refine y (AD (zs:=_) rfl underlying132 zeroValue132 rfl sizeOf3 ⟨⟨_,_,rfl,(by rfl),(by decide)⟩,⟨⟨_,_,rfl,(by rfl),(by decide)⟩,trivial⟩⟩ (by dsimp[bt,aX,aY]<;>rfl)) rfl ?_;refine y (bU rfl) rfl ?_;refine ya (a7 rfl rfl) rfl ?_;rintro v L' ⟨qC,rfl,rfl⟩;refine gy 3 ?_;refine bq ?_;intro VW oN;refine gc 4 ?_;refine y (ay rfl isAgg132 sizeOf132 aL rfl rfl) rfl ?_;refine gy 3 ?_
  have fQ: ∀x:Nat,((x≤2)∧(x=2))→Sk 90 VW ([(51,i64 x),(50,.agg #[i64 a,i64 b]),(8,ptr qC),(0,dp q)]) ([dh qC q (qR D a b x),dev q D]++R):=by
   rintro k ⟨bJ,eK⟩;refine oN _ _ ?_;have hk:=bJ;subst eK;rw[Bl];refine gc 7 ?_;refine bm results43 rfl rfl (L1:=[dh qC q (aF D a b),dev q D]++R) ae ?_;exact⟨_,.inr ⟨gj,qC,rfl,rfl⟩,rfl⟩
  clear oN;refine gc 1 ?_;refine bO (A:=Nat) (fun x=>[(51,i64 x),(50,.agg #[i64 a,i64 b]),(8,ptr qC),(0,dp q)]) (fun x=>[dh qC q (qR D a b x),dev q D]++R) (fun x=>x≤2) (fun x=>2-x) (0) ?_ aq ae ?_
  · exact Nat.zero_le _
  rintro k bJ kt cI;have cC:=bJ;have hk:=bJ;refine gc 5 ?_;refine cc rfl (fun aow=>?_) (fun aow=>?_)
  ·have hix:([i64 a,i64 b]:List Value)[k]? =some (i64 (cellAt a b k)):=by
     rcases Nat.lt_or_ge k 1 with h|h
     · rw[show k=0 by omega];rfl
     rw[show k=1 by omega];rfl
   have ee:0≤cellAt a b k∧cellAt a b k<D.l.length:=by unfold cellAt;split<;>omega
   refine gc 6 ?_;refine y (wP rfl rfl underlying132 isAgg3 sizeOf3 (by omega) (by omega) (by exact hix)) rfl ?_;refine gy 7 ?_;refine aA (FI hD (by unfold az.has;rw[if_neg (by simp_all),if_neg (by omega)])) rfl call76 aZ rfl ?_;rintro v L' ⟨s58,rfl,uQ,rfl⟩;refine gy 9 ?_;refine bK (aer (bs:=D.sec (cellAt a b k)) ?afZ ?Tr ?aah) call77 ?_
   case afZ=>exact pT aL uQ
   case Tr=>rw[jm hD];omega
   case aah=>rw[jm hD];omega
   have LD:qR D a b (k+1)=_:=ak1 (qR D a b k) k (D.sec (cellAt a b k));obtain⟨hsa,hsb⟩:=CW D a b k;generalize gY (D.sec (cellAt a b k))=rt at*;generalize qR D a b k=C at*;refine gy 10 ?_;unfold dh;refine gy 2 ?_;refine cv 68 rfl (fun Ty=>?_) (fun Ty=>?_)
   ·refine gy 9 ?_;refine cc rfl (fun Hi=>?_) (fun Hi=>?_)
    ·rw[if_pos ⟨by assumption,Hi⟩]at LD;refine gc 9 ?_;refine bA (an rfl rfl (by rfl) sizeOf3 bc rfl rfl) ?_;refine gy 2 ?_;refine bA (an rfl rfl (by rfl) sizeOf2 bc rfl rfl) ?_;refine gy 2 ?_;refine bA (an rfl rfl (by rfl) sizeOf9 bc rfl rfl) ?_;refine gy 5 ?_;rw[show IntKind.i64.wrap ((k:Int)+1)=((k+1:Nat):Int)by rw[wr (by omega) (by omega)];rfl];refine gy 3 ?_;exact aV aq (by rw[LD];exact ae) (cI (k+1) (show k+1≤2 by omega) (by omega) [(51,i64 ((k+1:Nat):Int)),(50,.agg #[i64 a,i64 b]),(8,ptr qC),(0,dp q)] _ aq .refl)
    rw[if_neg (fun hh=>Hi hh.2)]at LD;refine gc 5 ?_;rw[show IntKind.i64.wrap ((k:Int)+1)=((k+1:Nat):Int)by rw[wr (by omega) (by omega)];rfl];refine gy 3 ?_;exact aV aq (by rw[LD];exact ae) (cI (k+1) (show k+1≤2 by omega) (by omega) [(51,i64 ((k+1:Nat):Int)),(50,.agg #[i64 a,i64 b]),(8,ptr qC),(0,dp q)] _ aq .refl)
   rw[if_neg (fun hh=>absurd hh.1 (by simp[Ty]))]at LD;refine gy 15 ?_;rw[show IntKind.i64.wrap ((k:Int)+1)=((k+1:Nat):Int)by rw[wr (by omega) (by omega)];rfl];refine gy 3 ?_;exact aV aq (by rw[LD];exact ae) (cI (k+1) (show k+1≤2 by omega) (by omega) [(51,i64 ((k+1:Nat):Int)),(50,.agg #[i64 a,i64 b]),(8,ptr qC),(0,dp q)] _ aq .refl)
  refine gc 5 ?_;exact aV aq ae (fQ k ⟨cC,by omega⟩)
end W
end Go.Proofs
/- From the readings of arguments to what lies below: one segment that holds all that was there. -/
namespace Go.Sl
open Go.ChangeShapes Go.WideShapes Go.ChangeAt Go.RowKit Go.Deep
def gd(W:World):ax:=W.heap.toList.zipIdx.map fun x=>(x.2,x.1)
abbrev lN(W:World):Env:=⟨W⟩
theorem u9{W:World}{x:Nat × Obj}:x∈gd W↔W.heap[x.1]? =some x.2:=by
 unfold gd;simp only[List.mem_map];constructor
 ·rintro⟨y,hy,rfl⟩;have:=List.mk_mem_zipIdx_iff_getElem?.1 (show(y.1,y.2)∈_ from hy);simpa using this
 ·intro h;exact⟨(x.2,x.1),List.mk_mem_zipIdx_iff_getElem?.2 (by simpa using h),rfl⟩
theorem OT(W:World):@Has (lN W) W [gd W]:=by
 refine @Has.mk (lN W) _ _ ⟨rfl,rfl,rfl⟩ (fun x hx=>u9.1 (by simpa using hx)) ?_;have:([gd W].flatten.map Prod.fst)=(W.heap.toList.zipIdx).map Prod.snd:=by simp[gd,List.map_map,Function.comp_def]
 rw[this,List.zipIdx_map_snd];exact List.nodup_range'
theorem xn{W w:World}{L:List ax}(h:@Has (lN W) w (L++[gd W])):Below W.heap.size W w:=by
 letI:Env:=lN W
 have hb: ∀k,k<W.heap.size→w.heap[k]? =W.heap[k]? :=fun k hk=>by
  have h1:W.heap[k]? =some W.heap[k]:=Array.getElem?_eq_getElem hk;have:=h.mem (k,W.heap[k]) (List.mem_flatten.2 ⟨gd W,by simp,u9.2 h1⟩);rw[h1];exact this
 refine⟨h.env.1,h.env.2.1,h.env.2.2,?_,hb⟩;rcases Nat.eq_zero_or_pos W.heap.size with h0|h0
 ·omega
 ·have:=hb (W.heap.size- 1) (by omega);rw[Array.getElem?_eq_getElem (show W.heap.size- 1<W.heap.size by omega)]at this;have:=(Array.getElem?_eq_some_iff.1 this).1;omega
theorem KJ{W w:World}{a:Addr}{v:Value}(h:@Has (lN W) w [gd W])(hc:W.cell? a=some v):w.cell? a=some v:=by
 have hb:=xn (L:=[]) h
 have hl:a.block<W.heap.size:=by
  unfold World.cell? at hc;cases hh:W.heap[a.block]? with
  |none=>rw[hh]at hc;cases hc
  |some o=>exact(Array.getElem?_eq_some_iff.1 hh).1
 unfold World.cell? at hc ⊢;rw[hb.block _ hl];exact hc
theorem vr{α:Type}{f:α→List Value}{k:Nat}(hk:0<k)(hf: ∀x,(f x).length=k): ∀(l:List α) (i r:Nat),r<k→((l.map f).flatten)[i*k+r]? =(l[i]?).bind fun x=>(f x)[r]?
 | [],i,r,_=>by simp
 |x::l,0,r,hr=>by
  simp only[List.map_cons,List.flatten_cons,Nat.zero_mul,Nat.zero_add,List.getElem?_cons_zero,Option.bind_some];rw[List.getElem?_append_left (by rw[hf];exact hr)]
 |x::l,i+1,r,hr=>by
  have ih:=vr hk hf l i r hr;simp only[List.map_cons,List.flatten_cons,List.getElem?_cons_succ];rw[List.getElem?_append_right (by rw[hf,Nat.succ_mul];omega),hf,show(i+1)*k+r-k=i*k+r by rw[Nat.succ_mul];omega];exact ih
theorem vt{α:Type}{f:α→List Value}{k:Nat}(hf: ∀x,(f x).length=k): ∀(l:List α),((l.map f).flatten).length=l.length*k
 | []=>by simp
 |x::l=>by simp only[List.map_cons,List.flatten_cons,List.length_append,hf,vt hf l,List.length_cons,Nat.succ_mul];omega
theorem JR{α:Type}{p:Nat→α→Prop}: ∀(n:Nat),(∀i,i<n→ ∃a,p i a)→ ∃l:List α,l.length=n∧ ∀i a,l[i]? =some a→p i a
 |0,_=>⟨[],rfl,fun i a h=>by simp at h⟩
 |n+1,h=>by
  obtain⟨l,hl,hp⟩:=JR n (fun i hi=>h i (by omega));obtain⟨a,ha⟩:=h n (by omega);refine⟨l++[a],by simp[hl],fun i b hb=>?_⟩;rcases Nat.lt_or_ge i l.length with h1|h1
  ·rw[List.getElem?_append_left h1]at hb;exact hp i b hb
  ·rw[List.getElem?_append_right h1]at hb
   have:i-l.length=0:=by
    rcases Nat.eq_zero_or_pos (i-l.length)with h0|h0
    · exact h0
    · rw[List.getElem?_eq_none (by simp;omega)]at hb;cases hb
   rw[this]at hb;simp at hb;subst hb;rw[show i=n by omega];exact ha
theorem Nt{a:Addr}(h:a.spot=none)(k:Nat):a.add k=⟨a.block,a.off+k,none⟩:=by
 cases a;simp at h;subst h;exact add_lit _ _ _
theorem KK{w:World}{a:Addr}{v:Value}(h:w.cell? a=some v):a.spot=none:=by
 unfold World.cell? at h;split at h
 ·cases hs:a.spot with
  |none=>rfl
  |some s=>rw[hs]at h;simp at h
 ·cases h
section
variable {H : Type} {enc : TypeId × Value → H} {P : Program} {W : World} {base : Nat} {spare : Nat → Bool} {held : Bool}
theorem Kb{t e k fuel:Nat}{cs:List Value}{x:DataW H × List MemPlace}{α:Type}{f:α→List Value}{ok:α→Prop}(ht:P.underlying t=some (.slice e))(hC:P.cellsOf e=k)(hk:0<k)(hf: ∀x,(f x).length=k)
  (he: ∀n cs' y,DataW.trod enc P W base spare held n e cs'=some y→ ∃a,cs'=f a∧ok a) (h:DataW.trod enc P W base spare held fuel t cs=some x):
  ∃(v:Value) (l:List α),cs=[v]∧@cE (lN W) [gd W] v l.length (l.map f).flatten∧(∀a∈l,ok a)∧l.length≤maxLen:=by
 rcases open_slice ht h with⟨rfl,_⟩|⟨a,len,cap,m,n,D,Pl,rfl,hb,hl,hm,hmm,hx,hi⟩
 ·exact⟨_,[],rfl,.inl ⟨rfl,rfl,rfl⟩,fun _ h=>(by cases h),Nat.zero_le _⟩
 ·have hlm:len≤m:=by rw[hmm];split<;>omega
  obtain⟨l,oI,hp⟩:=JR (p:=fun i y=>(∀r,r<k→W.cell? ((a.add (i*k)).add r)=(f y)[r]?)∧ok y) len (fun i SC=>by
   obtain⟨cs',hc,ZJ⟩:=hi i (by omega);obtain⟨y,rfl,hy⟩:=he _ _ _ ZJ;rw[hC]at hc;obtain⟨_,_,TO⟩:=World.cells?_some hc;exact⟨y,fun r hr=>TO r hr,hy⟩)
  have fZ:len≠0→a.spot=none:=fun h0=>by
   obtain⟨y,hy⟩: ∃y,l[0]? =some y:=⟨_,List.getElem?_eq_getElem (by omega)⟩;have h1:=(hp 0 y hy).1 0 hk;have h2:(f y)[0]? =some ((f y)[0]'(by rw[hf];exact hk)):=List.getElem?_eq_getElem _;rw[h2,Nat.zero_mul]at h1;exact KK (a:=a) (by simpa[Addr.add]using h1)
  refine⟨_,l,rfl,.inr ⟨a,cap,by rw[oI],by rw[oI];exact fZ,fun w hw j hj=>?_⟩,fun y hy=>?_,by omega⟩
  ·have Zi:j<len*k:=by rw[vt hf,oI]at hj;exact hj
   have M0:j=j / k*k+j % k:=by rw[Nat.mul_comm];exact(Nat.div_add_mod j k).symm
   have SC:j / k<len:=Nat.div_lt_of_lt_mul (by rw[Nat.mul_comm];exact Zi);have hr:j % k<k:=Nat.mod_lt _ hk;have hs:=fZ (fun h0=>by rw[h0]at SC;exact absurd SC (Nat.not_lt_zero _));obtain⟨y,hy⟩: ∃y,l[j / k]? =some y:=⟨_,List.getElem?_eq_getElem (by rw[oI];exact SC)⟩;have h1:=(hp _ y hy).1 _ hr;rw[Nt hs,add_lit,Nat.add_assoc,←M0]at h1;have h2:=vr hk hf l (j / k) (j % k) hr;rw[←M0,hy,Option.bind_some]at h2;refine @KJ W w _ _ hw (h1.trans ?_);rw[←h2,List.getElem?_eq_getElem hj]
  ·obtain⟨i,SB,e⟩:=List.getElem_of_mem hy;exact(hp i y (by rw[←e];exact List.getElem?_eq_getElem SB)).2
theorem di{e n:Nat}{cs:List Value}{y:DataW H × List MemPlace}(he:P.underlying e=some (.int .i64))(h:DataW.trod enc P W base spare held n e cs=some y): ∃i:Int,cs=[.int .i64 i]∧ -9223372036854775808≤i∧i≤9223372036854775807:=by
 obtain⟨n,rfl,_,hw⟩:=DataW.trod_int he h;simp[Lit.wf,IntKind.min,IntKind.max,IntKind.signed,IntKind.bits]at hw;exact⟨n,rfl,by omega,by omega⟩
theorem open_pair{e n:Nat}{cs:List Value}{y:DataW H × List MemPlace}{f0 f1:Field}(he:P.underlying e=some (.struct #[f0,f1]))(T8:oneCellFields P #[f0,f1]=true)(hC:P.cellsOf e=2)
  (h0:P.underlying f0.type=some (.int .i64)) (h1:P.underlying f1.type=some (.int .i64)) (h:DataW.trod enc P W base spare held n e cs=some y): ∃x:Int × Int,cs=[.int .i64 x.1,.int .i64 x.2]:=by
 obtain⟨xs,n',_,_,hl,yb,hf⟩:=DataW.trod_struct he h;rw[hC]at hl
 match cs,hl with
 | [c0,c1],_=>
  obtain⟨o0,k0⟩:=hone_of T8 0 f0 rfl;obtain⟨o1,k1⟩:=hone_of T8 1 f1 rfl;have g0:=hf 0 f0 rfl;have g1:=hf 1 f1 rfl;rw[o0,k0]at g0;rw[o1,k1]at g1
  match xs,yb with
  | [y0,y1],_=>
   obtain⟨i,e0,_⟩:=di h0 (cs:=[c0]) (by simpa using g0);obtain⟨j,e1,_⟩:=di h1 (cs:=[c1]) (by simpa using g1);cases e0;cases e1;exact⟨(i,j),rfl⟩
theorem IB{t e fuel:Nat}{cs:List Value}{x:DataW H × List MemPlace}{f0 f1:Field}(ht:P.underlying t=some (.slice e))(he:P.underlying e=some (.struct #[f0,f1]))(T8:oneCellFields P #[f0,f1]=true)(hC:P.cellsOf e=2)
  (h0:P.underlying f0.type=some (.int .i64)) (h1:P.underlying f1.type=some (.int .i64)) (h:DataW.trod enc P W base spare held fuel t cs=some x):
  ∃v ks,cs=[v]∧@cE (lN W) [gd W] v ks.length (dS ks)∧ks.length≤maxLen:=by
 obtain⟨v,l,h1,h2,_,h3⟩:=Kb (f:=fun x:Int × Int=>[Value.int .i64 x.1,Value.int .i64 x.2]) (ok:=fun _=>True) ht hC (by omega) (fun _=>rfl) (fun n cs' y hy=>by
  obtain⟨b,hb⟩:=open_pair he T8 hC h0 h1 hy;exact⟨b,hb,trivial⟩) h
 exact⟨v,l,h1,h2,h3⟩
theorem Ra{f:Func}{s:ChangeSpec}{apart fresh handsOn:Bool}{W W':World}{args:Array Value}{L:List ax}{ds gs:List (DataW H)}{before:List MemPlace}{tb:TypeId}(Cd:laidOutB P=true)
  (hW:DataW.Whole enc P f.params.toList s.vars apart W args.toList ds gs before) (hvs:s.vars=[]) (hh:@Has (lN W) W' (L++[gd W])) (zY:f.resultTypes= #[tb]) (htb:P.underlying tb=some .bool)
  (hpt: ∀t∈f.params.toList,P.readableRec t=true∧t<P.types.size) (hfn:s.fn H (ds++gs)={results:=[.lit (.bool true)],args:=ds}):
  s.post enc P f apart fresh handsOn false W args (.bool true) W':=by
 have hb:=xn hh;have EH:=fun p hp=>hW.lt p hp
 have hW':=hW;obtain⟨p,q,hA,hV,rfl,hfz,oJ⟩:=hW;have hp: ∀x∈p,x.block<W.heap.size:=fun x hx=>by simpa using EH x (by simp[hx])
 have carry: ∀{ts:List TypeId} {vs:List Value} {ds:List (DataW H)} {ps:List MemPlace},(∀t∈ts,P.readableRec t=true∧t<P.types.size)→(∀x∈ps,x.block<W.heap.size)→
   DataW.TrodAll enc P W 0 (fun _=>true) true ts vs ds ps→DataW.TrodAll enc P W' 0 (fun b=>decide (b<W.heap.size)) true ts vs ds ps:=by
  intro ts
  induction ts with
  |nil=>
   intro vs ds ps _ _ h;obtain⟨rfl,rfl,rfl⟩:=trodAll_nil h;exact h
  |cons t ts ih=>
   intro vs ds ps ht hps h;obtain⟨v,vs1,d,ds1,a,b,rfl,rfl,rfl,h1,h2⟩:=trodAll_cons h;exact⟨a,b,Below.trod Cd (ht t (by simp)).1 (ht t (by simp)).2 h1 hb (fun x hx=>hps x (by simp[hx])),ih (fun u hu=>ht u (by simp[hu])) (fun x hx=>hps x (by simp[hx])) h2,rfl⟩
 rw[hvs]at hV;obtain⟨rfl,rfl⟩:=trodVars_none hV;refine⟨ds,[],p++[],[],p,[],hW',?_,?_,?_,?_,fun h=>(by cases h)⟩
 ·rw[hfn,zY];exact trodAll_mk1 (shut_bool htb _)
 ·rw[hfn];exact carry hpt hp hA
 ·rw[hvs,hfn];rfl
 ·refine⟨hb.os,hb.output,fun i hi=>?_⟩;rw[hb.block i hi];split<;>simp_all
end
end Go.Sl
namespace Go.Sl
open Go.ChangeShapes Go.WideShapes Go.ChangeAt Go.RowKit Go.Deep
section
variable {H : Type} {enc : TypeId × Value → H} {P : Program} {W : World} {base : Nat} {spare : Nat → Bool} {held : Bool}
theorem VD(s:ByteArray):s=⟨s.data.toList.toArray⟩:=by cases s;simp
end
end Go.Sl