/- A part of the proof. -/
import Derived.Test.YtlignadmmopdmaaGreatUn
import Derived.Test.YtlignadmmopdmaaGreatT4
import Derived.Test.YtlignadmmopdmaaGreatGC
import Derived.Test.YtlignadmmopdmaaGreatGF
set_option linter.unusedVariables false
set_option linter.unusedSimpArgs false
set_option linter.constructorNameAsVariable false
namespace Go.Proofs
open _root_.Go.Proofs.Tryz
open Go Go.Sl
namespace W
abbrev GB(b e:Nat)(vs:List Value)(x:Int):List ax:=[sc b vs 88,sc e [i64 x] 31]
theorem vm [Env]{b e:Nat}{x k:Int}{n1 n2:Value}:r7 Tryz.prog 86 #[ptr b,ptr e] S4 (GB b e [i64 k,n1,n2] x) (GB b e [i64 0,fp,fp] 4):=by
 refine yT (caps:=[ptr b,ptr e]) (t:=3) (u:=2) func86 ntmps86 results86 rfl rfl ⟨rfl,rfl,rfl⟩ ⟨rfl,rfl,rfl⟩ rfl rfl ?_ ?_
 · intro Q w hh hQ a wm;refine wp_seq (wp_region_lit ?_);refine wy (ba rfl) rfl wm hh (fun wm=>?_);refine wp_block ?_;refine wp_seq (wp_region_lit ?_);refine wy (DW rfl underlying20 (.inl rfl)) rfl wm hh (fun wm=>?_);refine wp_cond_true (wm.ev rfl) ?_;exact wp_skip (hQ _ wm.defers)
 intro Q R hQ;refine vk 1 ?_;refine jZ ?_;refine DN ?_
 skip
 ·refine y (DW rfl underlying20 (by exact .inr ⟨_,_,rfl⟩)) rfl ?_;refine Nd ?_;refine kN rfl ?_;refine cy 1 ?_;refine y (KS rfl underlying162 (by intro q hq;cases hq)) rfl ?_;refine Nd ?_;refine uq ?_;refine y (bU rfl) rfl ?_;refine bA (aP rfl rfl (by simp[Value.oneCell']) sizeOf88 bc rfl (by simp) rfl) ?_;refine bA (an rfl rfl (by rfl) sizeOf31 bc rfl rfl) ?_;refine nJ (Na ?_);exact fun a w hf hh=>hQ a w hf.defers ((show Ge _ (GB b e [i64 0,fp,fp] 4++R)from ae).has hh)
theorem pZ [Env]{R:List ax}{v:Value}{bs:Bytes}(hb:oD R v bs):
   bC Tryz.prog 47 [v] [] R (fun u L'=> ∃sn st,u= .tuple #[tD (bX bs).1 sn st,i64 (bX bs).2]∧I9 (bX bs).1 sn st∧L'=jd (bX bs).1 sn st):=by
 obtain⟨vb,vc,rfl⟩:=hb.rd.bo;refine GS func47 ntmps47 rfl rfl ?_;refine iS ?_;intro K1 OM;refine uq ?_;refine ya (aB zeroValue88 rfl) rfl ?_;rintro v1 L1 ⟨b2,rfl,rfl⟩;refine ya (aB zeroValue31 rfl) rfl ?_;rintro v1 L1 ⟨b3,rfl,rfl⟩;refine nJ (eB (OM _ _ ?_));clear OM;refine Wd ?_;refine uq ?_
 refine y (lE (vs:= #[ptr b2,ptr b3]) (fun a hf=>by
   have h1:a.eval (.tmp 2)=ptr b2:=hf.ev rfl;have h2:a.eval (.tmp 3)=ptr b3:=hf.ev rfl;simp[h1,h2])) rfl ?_
 refine adz rfl ?_;refine I7 ?_;refine Wc (Wb ?_);refine yD (ba rfl) rfl ?_;refine yD (bU rfl) rfl ?_;refine yaD (a7 rfl rfl) rfl ?_;rintro v1 L1 ⟨b8,rfl,rfl⟩;refine yD (uB rfl) rfl ?_;refine I7 ?_;refine Wc (Wb ?_);refine yD (ba rfl) rfl ?_;refine VT (anu (bs:=bs) ?hb) rfl call87 aZ rfl ?_ ?_
 case hb=>exact hb.mono ae
 · rintro L1 ⟨hn,v2,rfl⟩;refine ahj (L1:=[[],[]]++R) (vm (x:=0) (k:=0) (n1:=fp) (n2:=fp)) call86 results47 rfl rfl isAgg88 sizeOf88 rfl isAgg31 aZ aL aL ae ?_;exact⟨[[],[]],⟨none,none,by unfold bX;rw[hn];rfl,by unfold bX;rw[hn];exact⟨⟨rfl,rfl⟩,⟨rfl,rfl⟩⟩,by unfold bX;rw[hn];rfl⟩,rfl⟩
 rintro v1 L1 ⟨r,sn,st,v2,hr,rfl,cq,rfl⟩;refine amZ (aP rfl rfl (by simp only[List.forall_mem_cons,List.not_mem_nil,false_implies,implies_true,bN,and_true,true_and,and_self];rfl) sizeOf88 bc rfl (by simp) rfl) ?_;rintro v1 L1 ⟨rfl,rfl⟩;refine amZ (an rfl rfl rfl sizeOf31 bc rfl rfl) ?_;rintro v1 L1 ⟨rfl,rfl⟩;refine I7 ?_;refine aeN ?_;refine ahm (L1:=jd r sn st++R) (vm (x:=0) (k:=0) (n1:=fp) (n2:=fp)) call86 results47 rfl rfl isAgg88 sizeOf88 rfl isAgg31 aL aL ae ?_;exact⟨_,⟨sn,st,by unfold bX;rw[hr];rfl,by unfold bX;rw[hr];exact cq,by unfold bX;rw[hr]⟩,rfl⟩
theorem KE [Env]{R:List ax}{v:Value}{ts:List Bytes}{g:FuncId}{p:Bytes→Bool}(hv:cE R v ts.length (cn ts))(hl:ts.length<1000000)
   (bg: ∀(args:Array Value) (w:World),(callFunc g args).run Tryz.prog w= .ok (.enter g args) w) (hp: ∀(R:List ax) (t:Bytes),bC Tryz.prog g ([.string ⟨t.toArray⟩]++[]) [] R (Is (.bool (p t)) [])):
   bC Tryz.prog 219 [v,.func (.func g) #[] #[]] [] R (fun u L'=> ∃i:Int,u=i64 i∧decide (0≤i)=ts.any p∧L'=[]):=by
 refine ag func219 ntmps219 rfl rfl ?_;refine gc 4 ?_;refine bq ?_;intro K2 gM;refine gc 2 ?_;refine y (bu rfl underlying86 (cE.bo (by assumption))) rfl ?_;refine gy 3 ?_
 have fQ: ∀x:Nat,((x≤ts.length∧(ts.take x).any p=false)∧(x=ts.length))→Sk 19 K2 ([(8,i64 x),(7,i64 ts.length),(0,v),(1,.func (.func g) #[] #[])]) (R):=by
  rintro k ⟨bJ,eK⟩;refine gM _ _ ?_;obtain⟨hk,eF⟩:=bJ;subst eK;rw[List.take_length]at eF;refine gc 5 ?_;refine aj results219 rfl (L1:=R) ae ?_
  first
    |exact⟨[],⟨_,rfl,by rw[yc];simp,rfl⟩,rfl⟩
    |exact⟨[],⟨_,rfl,by rw[eF];simp,rfl⟩,rfl⟩
 clear gM;refine gc 1 ?_;refine bO (A:=Nat) (fun x=>[(8,i64 x),(7,i64 ts.length),(0,v),(1,.func (.func g) #[] #[])]) (fun x=>R) (fun x=>x≤ts.length∧(ts.take x).any p=false) (fun x=>ts.length-x) (0) ?_ aq ae ?_
 · exact⟨Nat.zero_le _,by simp⟩
 rintro k bJ kt cI;have cC:=bJ;obtain⟨hk,eF⟩:=bJ;refine gc 5 ?_;refine cc rfl (fun h7=>?_) (fun h7=>?_)
 ·obtain⟨t,ht⟩: ∃t,ts[k]? =some t:=⟨_,List.getElem?_eq_getElem (by omega)⟩;refine gc 13 ?_;refine y (aK (by assumption) rfl rfl underlying86 sizeOf9 (by omega) (by omega)) rfl ?_;refine y (au k hv ae rfl isAgg9 (by simp) (fR ht)) rfl ?_;refine lZ rfl (hp _ t) rfl bg aZ rfl ?_;rintro v L' ⟨rfl,rfl⟩;refine gy 2 ?_;refine cc rfl (fun nf=>?_) (fun nf=>?_)
  ·have yc:ts.any p=true:=List.any_eq_true.2 ⟨t,List.mem_of_getElem? ht,nf⟩;refine gc 11 ?_
   first
     |(exfalso;omega;done)
     | (refine aj results219 rfl (L1:=R) ae ?_
        first
          |exact⟨[],⟨_,rfl,by rw[yc];simp,rfl⟩,rfl⟩
          |exact⟨[],⟨_,rfl,by rw[eF];simp,rfl⟩,rfl⟩)
  have j7:(ts.take (k+1)).any p=false:=by rw[dg ht];simp[eF,nf]
  refine gc 5 ?_;rw[show IntKind.i64.wrap ((k:Int)+1)=((k+1:Nat):Int)by rw[wr (by omega) (by omega)];rfl];refine gy 3 ?_;exact cI (k+1) (⟨by omega,j7⟩) (by omega) _ _ aq ae
 refine gc 5 ?_;exact aV aq ae (fQ k ⟨cC,by omega⟩)
theorem BG [Env]{R:List ax}{v:Value}{ts:List Bytes}{g:FuncId}{p:Bytes→Bool}(hv:cE R v ts.length (cn ts))(hl:ts.length<1000000)
   (bg: ∀(args:Array Value) (w:World),(callFunc g args).run Tryz.prog w= .ok (.enter g args) w) (hp: ∀(R:List ax) (t:Bytes),bC Tryz.prog g ([.string ⟨t.toArray⟩]++[]) [] R (Is (.bool (p t)) [])):
   bC Tryz.prog 197 [v,.func (.func g) #[] #[]] [] R (Is (.bool (ts.any p)) []):=by
 refine ag func197 ntmps197 rfl rfl ?_;refine gc 7 ?_;refine aA (KE ?ap0 hl bg hp) rfl call219 aZ rfl ?_
 case ap0=>exact hv.mono ae
 rintro v L' ⟨i7,rfl,Zg,rfl⟩;refine gy 1 ?_;rw[Zg];refine gy 4 ?_;refine aj results197 rfl (L1:=R) ae ?_;exact⟨_,⟨by rfl,rfl⟩,by rfl⟩
theorem aep [Env]{R:List ax}{t:Bytes}:bC Tryz.prog 198 [.string ⟨t.toArray⟩] [] R (Is (.bool (decide (200<(t.length:Int)))) []):=by
 refine ag func198 ntmps198 rfl rfl ?_;refine gc 6 ?_;refine y (BR rfl underlying9) rfl ?_;refine gy 5 ?_;refine aj results198 rfl (L1:=R) ae ?_;exact⟨_,⟨by rfl,rfl⟩,by rfl⟩
theorem ans [Env]{R:List ax}{r:RecM}{nv tv:Value}(hn:cE R nv r.aH.length (aW r.aH))(ht:cE R tv r.texts.length (cn r.texts)):
   bC Tryz.prog 146 [.agg #[i64 r.kind,nv,tv]] [] R (Is (.bool r.kD) []):=by
 refine ag func146 ntmps146 rfl rfl ?_;refine gc 1 ?_;refine ya (a7 rfl rfl) rfl ?_;rintro v L' ⟨b1,rfl,rfl⟩;refine gy 8 ?_;refine cv 6 rfl (fun OE=>?_) (fun OE=>?_)
 ·refine gy 5 ?_;refine cv 11 rfl (fun zz=>?_) (fun zz=>?_)
  ·refine gy 2 ?_;refine bV ?_;refine y (bu rfl underlying57 (cE.bo (by assumption))) rfl ?_;refine gy 3 ?_;refine cv 17 rfl (fun Ld=>?_) (fun Ld=>?_)
   ·refine gy 2 ?_;refine bV ?_;refine y (bu rfl underlying86 (cE.bo (by assumption))) rfl ?_;refine gy 3 ?_;refine cv 23 rfl (fun Lf=>?_) (fun Lf=>?_)
    ·refine gy 2 ?_;refine bV ?_;refine bK (BG (ts:=r.texts) ?ap4 (by omega) call198 (fun R t=>aep)) call197 ?_
     case ap4=>exact ht.mono ae
     refine gy 6 ?_;refine aj results146 rfl (L1:=R) ae ?_;exact⟨_,⟨by simp[RecM.kD, *],rfl⟩,by rfl⟩
    refine gy 9 ?_;refine aj results146 rfl (L1:=R) ae ?_;exact⟨_,⟨by simp[RecM.kD, *],rfl⟩,by rfl⟩
   refine gy 15 ?_;refine aj results146 rfl (L1:=R) ae ?_;exact⟨_,⟨by simp[RecM.kD, *],rfl⟩,by rfl⟩
  refine gy 21 ?_;refine aj results146 rfl (L1:=R) ae ?_;exact⟨_,⟨by simp[RecM.kD, *],rfl⟩,by rfl⟩
 refine gy 26 ?_;refine aj results146 rfl (L1:=R) ae ?_;exact⟨_,⟨by simp[RecM.kD, *],rfl⟩,by rfl⟩
theorem aeo [Env]{R:List ax}{n t:Nat}(hn:n≤16)(ht:t≤4):bC Tryz.prog 147 [i64 n,i64 t] [] R (Is (.int .u8 (oH n t).toNat) []):=by
 have h:=AL hn ht;refine ag func147 ntmps147 rfl rfl ?_;refine gc 10 ?_;refine cc rfl (fun AI=>?_) (fun AI=>?_)
 ·refine gc 3 ?_;refine y (aR rfl underlying3 underlying5) rfl ?_;rw[r4,wr (by omega) (by omega)];refine gy 5 ?_;refine aj results147 rfl (L1:=R) ae ?_;exact⟨_,⟨by(rw[h];split<;>congr 1<;>omega),rfl⟩,by rfl⟩
 refine gc 5 ?_;refine y (gS rfl rfl) rfl ?_;refine gy 1 ?_;refine y (aR rfl underlying3 underlying5) rfl ?_;rw[r4,wr (by rw[wr (by omega) (by omega)];omega) (by rw[wr (by omega) (by omega)];omega),wr (by omega) (by omega)];refine gy 4 ?_;refine aj results147 rfl (L1:=R) ae ?_;exact⟨_,⟨by(rw[h];split<;>congr 1<;>omega),rfl⟩,by rfl⟩
theorem ant [Env]{R:List ax}{n:Int}(h1: -9223372036854775808≤n)(h2:n≤9223372036854775807):
   bC Tryz.prog 148 [i64 n] [] R (zx 5 (fN (mT n)).length 1 (av (fN (mT n))) []):=by
 have hz:=oC h1 h2;have hl:=il hz;refine ag func148 ntmps148 rfl rfl ?_;refine gc 6 ?_;refine y (aR rfl underlying2 underlying138) rfl ?_;refine y (j5 rfl rfl (by decide)) rfl ?_;refine gy 1 ?_;refine y (iI rfl rfl (by decide)) rfl ?_;refine y (aR rfl underlying2 underlying138) rfl ?_;rw[show IntKind.u64.wrap (IntKind.u64.wrap n*2^(min (1:Int).toNat IntKind.u64.bits))=IntKind.u64.wrap (IntKind.u64.wrap n*2)from rfl,show n.fdiv (2^(min (63:Int).toNat IntKind.i64.bits))=n.fdiv 9223372036854775808 from rfl]at*;refine y (rk rfl rfl) rfl ?_;rw[Sj h1 h2];refine gy 7 ?_;refine bq ?_;intro K4 wj
 have fQ: ∀x:Nat × Bytes × Sv,((bW x.2.2 x.2.1.length 1 (av x.2.1)∧fN (mT n)=x.2.1++fN x.1)∧(x.1<128))→Sk 27 K4 ([(4,aG x.2.2 x.2.1.length),(3,.int .u64 (x.1:Nat))]) ([aD x.2.2 5 (av x.2.1)]++R):=by
  rintro⟨u,b,s⟩ ⟨bJ,eK⟩;refine wj _ _ ?_;obtain⟨Fh,hb⟩:=bJ;dsimp only at Fh hb ⊢;have sP:b.length≤10:=by rw[hb]at hl;simp at hl;omega
  dsimp only at eK;rw[nA eK]at hb;refine gc 3 ?_;refine y (aR rfl underlying138 underlying5) rfl ?_;rw[r4,show((u:Nat):Int) % 256=((u:Nat):Int)by omega];refine ya (aE rfl underlying55 sizeOf5 zeroValue5 rfl rfl rfl rfl ⟨⟨_,_,rfl,(by rfl),(by decide)⟩,trivial⟩ (by dsimp[bt,aX,aY,bS]<;>rfl)) rfl ?_;rintro v L' ⟨b25,rfl,rfl⟩;refine ya (aO (xs:=av b) (m:=b.length) (k:=1) (us:=[.int .u8 ((u:Nat):Int)]) (size:=1) rfl rfl (by repeat first|exact .z|apply Pk.s) underlying55 underlying55 (by intro q hq;cases hq) typeInfo5 rfl rfl rfl ?J6 ?acA ?abj ?Xw) rfl ?_
  case J6=>exact Fh
  case acA=>exact cz aL rfl rfl
  case abj=>simp[Value.oneCell']
  case Xw=>show(b.length+1)*2≤_;omega
  rintro v L' ⟨s26,rfl,Ad,rfl⟩;have hlen:b.length+1=(fN (mT n)).length:=by rw[hb];simp
  rw[fS _ _ (by omega),←hb,hlen]at Ad ⊢;refine gy 4 ?_;refine aj results148 rfl (L1:=[aD _ _ _]++R) ae ?_;exact⟨_,⟨s26,rfl,Ad,rfl⟩,rfl⟩
 clear wj;refine gc 1 ?_;refine bO (A:=Nat × Bytes × Sv) (fun x=>[(4,aG x.2.2 x.2.1.length),(3,.int .u64 (x.1:Nat))]) (fun x=>[aD x.2.2 5 (av x.2.1)]++R) (fun x=>bW x.2.2 x.2.1.length 1 (av x.2.1)∧fN (mT n)=x.2.1++fN x.1) (fun x=>x.1) ((mT n,[],none)) ?_ aq ae ?_
 · exact⟨⟨rfl,rfl⟩,rfl⟩
 rintro⟨u,b,s⟩ bJ kt cI;have cC:=bJ;obtain⟨Fh,hb⟩:=bJ;dsimp only at Fh hb ⊢;have sP:b.length≤10:=by rw[hb]at hl;simp at hl;omega
 refine gc 6 ?_;refine cc rfl (fun rm=>?_) (fun rm=>?_)
 ·refine gc 6 ?_;refine y (aR rfl underlying138 underlying5) rfl ?_;rw[r4,show((u:Nat):Int) % 256=((u % 256:Nat):Int)by omega];refine y (m8 rfl rfl) rfl ?_;rw[akD (by omega),show u % 256 % 128+128=u % 128+128 by omega];refine ya (aE rfl underlying55 sizeOf5 zeroValue5 rfl rfl rfl rfl ⟨⟨_,_,rfl,(by rfl),(by decide)⟩,trivial⟩ (by dsimp[bt,aX,aY,bS]<;>rfl)) rfl ?_;rintro v L' ⟨b18,rfl,rfl⟩;refine ya (aO (xs:=av b) (m:=b.length) (k:=1) (us:=[.int .u8 ((u % 128+128:Nat):Int)]) (size:=1) rfl rfl (by repeat first|exact .z|apply Pk.s) underlying55 underlying55 (by intro q hq;cases hq) typeInfo5 rfl rfl rfl ?aiV ?acB ?abk ?Xx) rfl ?_
  case aiV=>exact Fh
  case acB=>exact cz aL rfl rfl
  case abk=>simp[Value.oneCell']
  case Xx=>show(b.length+1)*2≤_;omega
  rintro v L' ⟨s19,rfl,Iu,rfl⟩;rw[fS _ _ (by omega)]at Iu ⊢;refine gy 5 ?_;refine y (iI rfl rfl (by decide)) rfl ?_;rw[show((u:Nat):Int).fdiv (2^(min (7:Int).toNat IntKind.u64.bits))=((u / 128:Nat):Int)from m9 (k:=128)];refine gy 4 ?_;exact aV aq ae (cI (u / 128,b++[UInt8.ofNat (u % 128+128)],s19) ⟨by rw[List.length_append];exact Iu,by rw[hb,nB (by omega)];simp⟩ (by dsimp only;omega) [(4,aG s19 (b++[UInt8.ofNat (u % 128+128)]).length),(3,.int .u64 ((u / 128:Nat):Int))] _ aq .refl)
 refine gc 5 ?_;exact aV aq ae (fQ ⟨u,b,s⟩ ⟨cC,by dsimp only;omega⟩)
theorem za [Env]{P:Program}{L:List ax}{t:Bytes}:Src P L 1 (.string ⟨t.toArray⟩) t.length (av t):=by
 have h:=Vz (P:=P) (L:=L) (s:=⟨t.toArray⟩);have e:(⟨t.toArray⟩:ByteArray).size=t.length:=by show t.toArray.size=_;simp
 rw[e]at h;simpa[av]using h
theorem p6 [Env]{R:List ax}{r:RecM}{nv tv:Value}(hn:cE R nv r.aH.length (aW r.aH))(ht:cE R tv r.texts.length (cn r.texts))(hI:Dm r.aH):
   bC Tryz.prog 94 [.agg #[i64 r.kind,nv,tv]] [] R (fun v L'=> ∃s,v= .tuple #[aG s (kQ r).1.length,i64 (kQ r).2]∧bW s (kQ r).1.length 1 (av (kQ r).1)∧L'=[aD s 5 (av (kQ r).1)]):=by
 have Di:=hn.bo;have Gi:=ht.bo;refine ag func94 ntmps94 rfl rfl ?_;refine gc 1 ?_;refine ya (a7 rfl rfl) rfl ?_;rintro v L' ⟨b1,rfl,rfl⟩;refine gy 6 ?_;refine y (ak rfl isAgg88 sizeOf88 aL (by rfl)) rfl ?_;refine bK (ans (r:=r) ?M5 ?ht5) call146 ?_
 case M5=>exact hn.mono ae
 case ht5=>exact ht.mono ae
 refine gy 3 ?_;refine cc rfl (fun h7=>?_) (fun h7=>?_)
 ·have iW:kQ r=([],4):=by unfold kQ;rw[if_neg (by simp_all)]
  refine gc 7 ?_;refine bm results94 rfl rfl (L1:=[aD none 5 []]++R) ae ?_;exact⟨_,⟨none,by rw[iW];rfl,by rw[iW];exact⟨rfl,rfl⟩,by rw[iW];rfl⟩,rfl⟩
 have hmB:r.kD=true:=by simp_all
 have dj:=PI hmB hI;have iW:kQ r=(bL r,0):=by unfold kQ;rw[if_pos hmB]
 have hk0:=dj.k0;have M1:=dj.k1;have hns:=dj.ns;have hts:=dj.ts;refine gc 3 ?_;refine aS 10 (od [9] 10 0) (_) Tryz.mixed (by kernel_rfl) .refl ?_;refine gh 2 ?_;refine hr rfl (aR rfl underlying3 underlying5) rfl ?_;rw[r4,show r.kind % 256=((r.kind.toNat % 256:Nat):Int)by omega];refine gh 2 ?_;refine hr rfl (bu rfl underlying57 (cE.bo (by assumption))) rfl ?_;refine gh 2 ?_;refine hr rfl (bu rfl underlying86 (cE.bo (by assumption))) rfl ?_;refine bg rfl (aeo ?apw ?apP) rfl call147 aZ rfl ?_
 case apw=>omega
 case apP=>omega
 rintro v L' ⟨rfl,rfl⟩;refine⟨ae,?_⟩;refine gh 1 ?_;refine ya (aE rfl underlying55 sizeOf5 zeroValue5 rfl rfl rfl rfl ⟨⟨_,_,rfl,(by rfl),(by decide)⟩,⟨⟨_,_,rfl,(by rfl),(by decide)⟩,trivial⟩⟩ (by dsimp[bt,aX,aY,bS]<;>rfl)) rfl ?_;rintro v L' ⟨b22,rfl,rfl⟩;refine gy 3 ?_;refine bq ?_;intro K6 ma;refine gc 3 ?_;refine y (bu rfl underlying57 (cE.bo (by assumption))) rfl ?_;refine gy 3 ?_
 have fQ: ∀x:Nat × Sv,((bW x.2 (fC r x.1).length 1 (av (fC r x.1))∧x.1≤r.aH.length)∧(x.1=r.aH.length))→Sk 52 K6 ([(26,i64 x.1),(25,i64 r.aH.length),(24,nv),(4,aG x.2 (fC r x.1).length),(1,ptr b1)]) ([aD x.2 5 (av (fC r x.1)),sc b1 [i64 r.kind,nv,tv] 88]++R):=by
  rintro⟨k,s⟩ ⟨bJ,eK⟩;refine ma _ _ ?_;obtain⟨Bb,hk⟩:=bJ;dsimp only at Bb hk ⊢;have zT:=lM dj k;dsimp only at eK;subst eK;refine bq ?_;intro K8 qN;refine gc 3 ?_;refine y (bu rfl underlying86 (cE.bo (by assumption))) rfl ?_;refine gy 1 ?_;rw[←ux]at Bb ⊢;refine gy 2 ?_
  have B2: ∀x:Nat × Sv,((bW x.2 (fc r x.1).length 1 (av (fc r x.1))∧x.1≤r.texts.length)∧(x.1=r.texts.length))→Sk 52 K8 ([(38,i64 x.1),(37,i64 r.texts.length),(36,tv),(4,aG x.2 (fc r x.1).length)]) ([aD x.2 5 (av (fc r x.1))]++R):=by
   rintro⟨z,st⟩ ⟨qc,Dh⟩;refine qN _ _ ?_;obtain⟨k3,hz⟩:=qc;dsimp only at k3 hz ⊢;have sP:=gJ dj z;have Ht:=gJ dj (z+1);dsimp only at Dh;subst Dh;rw[xA]at k3 ⊢;refine gc 7 ?_;refine bm results94 rfl rfl (L1:=[aD _ _ _]++R) ae ?_;exact⟨_,⟨st,by rw[iW],by rw[iW];exact k3,by rw[iW]⟩,rfl⟩
  clear qN;refine gc 1 ?_;refine bO (A:=Nat × Sv) (fun x=>[(38,i64 x.1),(37,i64 r.texts.length),(36,tv),(4,aG x.2 (fc r x.1).length)]) (fun x=>[aD x.2 5 (av (fc r x.1))]++R) (fun x=>bW x.2 (fc r x.1).length 1 (av (fc r x.1))∧x.1≤r.texts.length) (fun x=>r.texts.length-x.1) ((0,s)) ?_ aq ae ?_
  · exact⟨Bb,Nat.zero_le _⟩
  rintro⟨z,st⟩ qc KL2 Lm;have uE:=qc;obtain⟨k3,hz⟩:=qc;dsimp only at k3 hz ⊢;have sP:=gJ dj z;have Ht:=gJ dj (z+1);refine gc 5 ?_;refine cc rfl (fun Eh=>?_) (fun Eh=>?_)
  ·obtain⟨tt,vE⟩: ∃x,r.texts[z]? =some x:=⟨_,List.getElem?_eq_getElem (by omega)⟩;have Tw:=dj.len tt (List.mem_of_getElem? vE);have TQ:=uw vE;refine gc 5 ?_;refine y (aK ht rfl rfl underlying86 sizeOf9 (by omega) (by omega)) rfl ?_;refine y (au z ht ae rfl isAgg9 (by simp) (fR vE)) rfl ?_;refine gy 6 ?_;refine y (BR rfl underlying9) rfl ?_;refine y (aR rfl underlying3 underlying5) rfl ?_;rw[r4,show((⟨tt.toArray⟩:ByteArray).size:Int) % 256=((tt.length:Nat):Int)by show((tt.toArray.size:Nat):Int) % 256=_;simp;omega];refine ya (aE rfl underlying55 sizeOf5 zeroValue5 rfl rfl rfl rfl ⟨⟨_,_,rfl,(by rfl),(by decide)⟩,trivial⟩ (by dsimp[bt,aX,aY,bS]<;>rfl)) rfl ?_;rintro v L' ⟨qC,rfl,rfl⟩;refine ya (aO (xs:=av (fc r z)) (m:=(fc r z).length) (k:=1) (us:=[.int .u8 ((tt.length:Nat):Int)]) (size:=1) rfl rfl (by repeat first|exact .z|apply Pk.s) underlying55 underlying55 (by intro q hq;cases hq) typeInfo5 rfl rfl rfl ?aa2 ?RK ?QW ?NG) rfl ?_
   case aa2=>exact k3
   case RK=>exact cz aL rfl rfl
   case QW=>simp[Value.oneCell']
   case NG=>show(_+_)*2≤_;omega
   rintro v L' ⟨s47,rfl,Af,rfl⟩;rw[fS _ _ (by omega)]at Af ⊢;refine gy 1 ?_;refine ya (aO (xs:=av (fc r z++[UInt8.ofNat tt.length])) (m:=(fc r z).length+1) (k:=tt.length) (us:=av tt) (size:=1) rfl rfl (by repeat first|exact .z|apply Pk.s) underlying55 underlying9 (by intro q hq;cases hq) typeInfo5 rfl rfl rfl ?oq ?alM ?aj4 ?ad4) rfl ?_
   case oq=>exact Af
   case alM=>exact za
   case aj4=>exact cL _
   case ad4=>show(_+_)*2≤_;omega
   rintro v L' ⟨s49,rfl,Iv,rfl⟩;rw[←dD,←TQ,show(fc r z).length+1+tt.length=(fc r (z+1)).length by rw[TQ];simp;omega]at Iv ⊢;refine gy 6 ?_;rw[show IntKind.i64.wrap ((z:Int)+1)=((z+1:Nat):Int)by rw[wr (by omega) (by omega)];rfl];refine gy 3 ?_;exact Lm ((z+1,s49)) (⟨Iv,by dsimp only;omega⟩) (by dsimp only;omega) _ _ aq ae
  refine gc 5 ?_;exact aV aq ae (B2 ⟨z,st⟩ ⟨uE,by dsimp only;omega⟩)
 clear ma;refine gc 1 ?_;refine bO (A:=Nat × Sv) (fun x=>[(26,i64 x.1),(25,i64 r.aH.length),(24,nv),(4,aG x.2 (fC r x.1).length),(1,ptr b1)]) (fun x=>[aD x.2 5 (av (fC r x.1)),sc b1 [i64 r.kind,nv,tv] 88]++R) (fun x=>bW x.2 (fC r x.1).length 1 (av (fC r x.1))∧x.1≤r.aH.length) (fun x=>r.aH.length-x.1) ((0,some (b22,2,[]))) ?_ aq ae ?_
 · exact⟨⟨by simp[fC,eZ],by decide,by simp[fC,eZ],by simp[fC,eZ]⟩,Nat.zero_le _⟩
 rintro⟨k,s⟩ bJ kt cI;have cC:=bJ;obtain⟨Bb,hk⟩:=bJ;dsimp only at Bb hk ⊢;have zT:=lM dj k;refine gc 5 ?_;refine cc rfl (fun OG=>?_) (fun OG=>?_)
 ·obtain⟨nn,AP⟩: ∃x,r.aH[k]? =some x:=⟨_,List.getElem?_eq_getElem (by omega)⟩;obtain⟨Cd,Wv⟩:=hI nn (List.mem_of_getElem? AP);have agc:=il (oC Cd Wv);refine gc 5 ?_;refine y (aK hn rfl rfl underlying57 sizeOf2 (by omega) (by omega)) rfl ?_;refine y (au k hn ae rfl isAgg2 (by simp) (dk AP)) rfl ?_;refine gy 6 ?_;refine aA (ant ?aqp ?apd) rfl call148 aZ rfl ?_
  case aqp=>exact Cd
  case apd=>exact Wv
  rintro v L' ⟨s32,rfl,tg,rfl⟩;refine ya (aO (xs:=av (fC r k)) (m:=(fC r k).length) (k:=(fN (mT nn)).length) (us:=av (fN (mT nn))) (size:=1) rfl rfl (by repeat first|exact .z|apply Pk.s) underlying55 underlying55 (by intro q hq;cases hq) typeInfo5 rfl rfl rfl ?qJ ?RL ?QX ?NH) rfl ?_
  case qJ=>exact Bb
  case RL=>exact rQ aL tg
  case QX=>exact cL _
  case NH=>show(_+_)*2≤_;omega
  rintro v L' ⟨s33,rfl,Me,rfl⟩;rw[←dD,←List.length_append,←uv AP]at Me ⊢;refine gy 6 ?_;rw[show IntKind.i64.wrap ((k:Int)+1)=((k+1:Nat):Int)by rw[wr (by omega) (by omega)];rfl];refine gy 3 ?_;exact cI ((k+1,s33)) (⟨Me,by dsimp only;omega⟩) (by dsimp only;omega) _ _ aq ae
 refine gc 5 ?_;exact aV aq ae (fQ ⟨k,s⟩ ⟨cC,by dsimp only;omega⟩)
end W
end Go.Proofs