/- A part of the proof. -/
import Derived.Test.YtlignadmmopdmaaGreatUn
import Derived.Test.YtlignadmmopdmaaGreatSlAs
import Derived.Test.YtlignadmmopdmaaGreatGN
import Derived.Test.YtlignadmmopdmaaGreatGL
set_option linter.unusedVariables false
set_option linter.unusedSimpArgs false
set_option linter.constructorNameAsVariable false
namespace Go.Proofs
open _root_.Go.Proofs.Tryz
open Go Go.Sl
namespace W
theorem nY [Env]{R:List ax}{n lo hi:Int}:bC Tryz.prog 192 [i64 n,i64 lo,i64 hi] [] R (Is (.bool (aI n lo hi)) []):=by
 refine ag func192 ntmps192 rfl rfl ?_;refine gc 9 ?_;refine cv 10 rfl (fun h6=>?_) (fun h6=>?_)
 ·refine gy 8 ?_;refine aj results192 rfl (L1:=R) ae ?_;exact⟨_,⟨by simp[aI, *],rfl⟩,by rfl⟩
 refine gy 8 ?_;refine aj results192 rfl (L1:=R) ae ?_;exact⟨_,⟨by simp[aI, *],rfl⟩,by rfl⟩
theorem Um [Env]{R:List ax}{n:Int}:bC Tryz.prog 140 [i64 n] [] R (Is (.bool (qI n)) []):=by
 refine ag func140 ntmps140 rfl rfl ?_;refine gc 6 ?_;refine bK (nY) call192 ?_;refine gy 5 ?_;refine aj results140 rfl (L1:=R) ae ?_;exact⟨_,⟨by rfl,rfl⟩,by rfl⟩
theorem Uk [Env]{R:List ax}{e s least:Int}:bC Tryz.prog 194 [.agg #[i64 e,i64 s],i64 least] [] R (Is (.bool (oR e s least)) []):=by
 refine ag func194 ntmps194 rfl rfl ?_;refine gc 1 ?_;refine ya (a7 (vs:=[i64 e,i64 s]) rfl rfl) rfl ?_;rintro v L' ⟨b2,rfl,rfl⟩;refine gy 7 ?_;refine bK (nY) call192 ?_;refine gy 1 ?_;refine cv 9 rfl (fun Eg=>?_) (fun Eg=>?_)
 ·refine gy 3 ?_;refine bV ?_;refine bK (nY) call192 ?_;refine gy 5 ?_;refine aj results194 rfl (L1:=R) ae ?_;exact⟨_,⟨by(unfold oR;simp[*]),rfl⟩,by rfl⟩
 refine gy 9 ?_;refine aj results194 rfl (L1:=R) ae ?_;exact⟨_,⟨by(unfold oR;simp[*]),rfl⟩,by rfl⟩
theorem HS [Env]{R:List ax}{e s e' s':Int}:bC Tryz.prog 203 [.agg #[i64 e,i64 s],.agg #[i64 e',i64 s']] [] R (Is (.bool (jg e s e' s')) []):=by
 refine ag func203 ntmps203 rfl rfl ?_;refine gc 1 ?_;refine ya (a7 (vs:=[i64 e,i64 s]) rfl rfl) rfl ?_;rintro v L' ⟨b2,rfl,rfl⟩;refine ya (a7 (vs:=[i64 e',i64 s']) rfl rfl) rfl ?_;rintro v L' ⟨b3,rfl,rfl⟩;refine gy 10 ?_;refine cv 10 rfl (fun zz=>?_) (fun zz=>?_)
 ·refine gy 17 ?_;refine aj results203 rfl (L1:=R) ae ?_;exact⟨_,⟨by simp[jg, *],rfl⟩,by rfl⟩
 refine gy 6 ?_;refine cv 16 rfl (fun OH=>?_) (fun OH=>?_)
 ·refine gy 11 ?_;refine aj results203 rfl (L1:=R) ae ?_;exact⟨_,⟨by simp[jg, *],rfl⟩,by rfl⟩
 refine gy 11 ?_;refine aj results203 rfl (L1:=R) ae ?_;exact⟨_,⟨by simp[jg, *],rfl⟩,by rfl⟩
theorem LM [Env]{R:List ax}{v:Value}{ns:List Int}{g:FuncId}{p:Int→Bool}(hv:cE R v ns.length (aW ns))(hl:ns.length<1000000)
   (bg: ∀(args:Array Value) (w:World),(callFunc g args).run Tryz.prog w= .ok (.enter g args) w) (hp: ∀(R:List ax) (n:Int),bC Tryz.prog g ([i64 n]++[]) [] R (Is (.bool (p n)) [])):
   bC Tryz.prog 191 [v,.func (.func g) #[] #[]] [] R (fun u L'=> ∃i:Int,u=i64 i∧decide (0≤i)=ns.any p∧L'=[]):=by
 refine ag func191 ntmps191 rfl rfl ?_;refine gc 4 ?_;refine bq ?_;intro K2 gM;refine gc 2 ?_;refine y (bu rfl underlying57 (cE.bo (by assumption))) rfl ?_;refine gy 3 ?_
 have fQ: ∀x:Nat,((x≤ns.length∧(ns.take x).any p=false)∧(x=ns.length))→Sk 19 K2 ([(8,i64 x),(7,i64 ns.length),(0,v),(1,.func (.func g) #[] #[])]) (R):=by
  rintro k ⟨bJ,eK⟩;refine gM _ _ ?_;obtain⟨hk,eF⟩:=bJ;subst eK;rw[List.take_length]at eF;refine gc 5 ?_;refine aj results191 rfl (L1:=R) ae ?_
  first
    |exact⟨[],⟨_,rfl,by rw[yc];simp,rfl⟩,rfl⟩
    |exact⟨[],⟨_,rfl,by rw[eF];simp,rfl⟩,rfl⟩
 clear gM;refine gc 1 ?_;refine bO (A:=Nat) (fun x=>[(8,i64 x),(7,i64 ns.length),(0,v),(1,.func (.func g) #[] #[])]) (fun x=>R) (fun x=>x≤ns.length∧(ns.take x).any p=false) (fun x=>ns.length-x) (0) ?_ aq ae ?_
 · exact⟨Nat.zero_le _,by simp⟩
 rintro k bJ kt cI;have cC:=bJ;obtain⟨hk,eF⟩:=bJ;refine gc 5 ?_;refine cc rfl (fun MW=>?_) (fun MW=>?_)
 ·obtain⟨t,ht⟩: ∃t,ns[k]? =some t:=⟨_,List.getElem?_eq_getElem (by omega)⟩;refine gc 13 ?_;refine y (aK (by assumption) rfl rfl underlying57 sizeOf2 (by omega) (by omega)) rfl ?_;refine y (au k hv ae rfl isAgg2 (by simp) (dk ht)) rfl ?_;refine lZ rfl (hp _ t) rfl bg aZ rfl ?_;rintro v L' ⟨rfl,rfl⟩;refine gy 2 ?_;refine cc rfl (fun Dg=>?_) (fun Dg=>?_)
  ·have yc:ns.any p=true:=List.any_eq_true.2 ⟨t,List.mem_of_getElem? ht,Dg⟩;refine gc 11 ?_
   first
     |(exfalso;omega;done)
     | (refine aj results191 rfl (L1:=R) ae ?_
        first
          |exact⟨[],⟨_,rfl,by rw[yc];simp,rfl⟩,rfl⟩
          |exact⟨[],⟨_,rfl,by rw[eF];simp,rfl⟩,rfl⟩)
  have j7:(ns.take (k+1)).any p=false:=by rw[dg ht];simp[eF,Dg]
  refine gc 5 ?_;rw[show IntKind.i64.wrap ((k:Int)+1)=((k+1:Nat):Int)by rw[wr (by omega) (by omega)];rfl];refine gy 3 ?_;exact cI (k+1) (⟨by omega,j7⟩) (by omega) _ _ aq ae
 refine gc 5 ?_;exact aV aq ae (fQ k ⟨cC,by omega⟩)
theorem sW [Env]{R:List ax}{v:Value}{ns:List Int}{g:FuncId}{p:Int→Bool}(hv:cE R v ns.length (aW ns))(hl:ns.length<1000000)
   (bg: ∀(args:Array Value) (w:World),(callFunc g args).run Tryz.prog w= .ok (.enter g args) w) (hp: ∀(R:List ax) (n:Int),bC Tryz.prog g ([i64 n]++[]) [] R (Is (.bool (p n)) [])):
   bC Tryz.prog 139 [v,.func (.func g) #[] #[]] [] R (Is (.bool (ns.any p)) []):=by
 refine ag func139 ntmps139 rfl rfl ?_;refine gc 7 ?_;refine aA (LM ?ap9 hl bg hp) rfl call191 aZ rfl ?_
 case ap9=>exact hv.mono ae
 rintro v L' ⟨i7,rfl,Zg,rfl⟩;refine gy 1 ?_;rw[Zg];refine gy 4 ?_;refine aj results139 rfl (L1:=R) ae ?_;exact⟨_,⟨by rfl,rfl⟩,by rfl⟩
theorem Pr [Env]{R:List ax}{v:Value}{e s:Int}{ns:List Int}(hv:cE R v ns.length (aW ns))(hl:ns.length<1000000):
   bC Tryz.prog 209 [.agg #[i64 e,i64 s],v] [] R (Is (.bool (!oR e s 0||decide (ns.length≠4)||ns.any qI)) []):=by
 refine ag func209 ntmps209 rfl rfl ?_;refine gc 1 ?_;refine ya (a7 (vs:=[i64 e,i64 s]) rfl rfl) rfl ?_;rintro v L' ⟨b2,rfl,rfl⟩;refine gy 4 ?_;refine y (ay (u:=[i64 e,i64 s]) rfl isAgg84 sizeOf84 aL rfl rfl) rfl ?_;refine bK (Uk) call194 ?_;refine gy 2 ?_;refine cv 8 rfl (fun YX=>?_) (fun YX=>?_)
 ·refine gy 12 ?_;refine aj results209 rfl (L1:=R) ae ?_;exact⟨_,⟨by simp[*],rfl⟩,by rfl⟩
 refine gy 1 ?_;refine bV ?_;refine y (bu rfl underlying57 hv.bo) rfl ?_;refine gy 3 ?_;refine cv 13 rfl (fun an8=>?_) (fun an8=>?_)
 ·refine gy 7 ?_;refine aj results209 rfl (L1:=R) ae ?_;exact⟨_,⟨by(simp[*];omega),rfl⟩,by rfl⟩
 refine gy 1 ?_;refine bV ?_;refine bK (sW (p:=qI) ?agV hl call140 (fun R n=>Um)) call139 ?_
 case agV=>exact hv.mono ae
 refine gy 5 ?_;refine aj results209 rfl (L1:=R) ae ?_;exact⟨_,⟨by(simp[*];omega),rfl⟩,by rfl⟩
def ib(x:bd):Value:= .agg #[i64 x.bE,i64 x.ve,i64 x.vs,str x.data,.bool x.bZ,i64 x.cl,i64 x.n]
def cu.val:cu→Value
 | .put x=> .iface 215 (ib x)
 | .clean b e s=> .iface 217 (.agg #[i64 b,i64 e,i64 s])
 | .drop b=> .iface 219 (.agg #[i64 b])
 | .note=> .iface 248 (.agg #[])
abbrev WL(k:bT):Value:= .agg #[i64 k.e,i64 k.s,i64 k.t.a,i64 k.t.b,i64 k.t.c,i64 k.t.d]
def mf(r:bI):List Value:=[cu.val r.w,i64 r.k.e,i64 r.k.s,i64 r.k.t.a,i64 r.k.t.b,i64 r.k.t.c,i64 r.k.t.d]
structure uc where
 p:Nat
 lp:Nat
 lc:Nat
 me:Nat
 mp:Nat
def qM(A:uc)(C:aQ):List Value:=[ptr A.lp,i64 C.bl,i64 C.n,.map (some A.me),.map (some A.mp),i64 C.k.e,i64 C.k.s,i64 C.k.t.a,i64 C.k.t.b,i64 C.k.t.c,i64 C.k.t.d]
def Qu(n:Int):Value:= .int .i64 n
def cU(A:uc)(C:aQ):ax:=sc A.p (qM A C) 154
def ga(A:uc)(C:aQ):ax:=so A.me (.map (cH (oE ib C.en)) C.ce)
def iX(A:uc)(C:aQ):ax:=so A.mp (.map (cH (oE Qu C.pu)) C.cp)
theorem val_one(w:cu):(cu.val w).oneCell'=true:=by cases w<;>rfl
theorem Fy(r:bI): ∀u∈mf r,u.oneCell'=true:=by
 intro u hu;simp only[mf,List.mem_cons,List.not_mem_nil,or_false]at hu;rcases hu with rfl|rfl|rfl|rfl|rfl|rfl|rfl
 · exact val_one _
 all_goals rfl
theorem kIn [Env]{R:List ax}{A:uc}{C:aQ}{b:Int}(hb:C.bl≤32):bC Tryz.prog 193 [ptr A.p,i64 b] [cU A C] R (Is (.bool (ER C.bl b)) [cU A C]):=by
 refine ag func193 ntmps193 rfl rfl ?_;unfold cU qM;refine gc 11 ?_;rw[wr (by omega) (by omega)];refine bK (nY) call192 ?_;refine gy 4 ?_;refine aj results193 rfl (L1:=[sc A.p _ 154]++R) ae ?_;exact⟨_,⟨by rfl,rfl⟩,by rfl⟩
theorem WH [Env]{R:List ax}{A:uc}{C:aQ}{r:bI}{num:Int}(hC:C.UE):
   bC Tryz.prog 84 [ptr A.p,.agg (mf r).toArray,i64 num] [cU A C,ga A C,iX A C] R (Is (.tuple #[]) [cU A (C.ec r num),ga A (C.ec r num),iX A (C.ec r num)]):=by
 obtain⟨w,k⟩:=r;refine ag func84 ntmps84 rfl rfl ?_;unfold cU qM ga iX;refine gc 1 ?_;refine ya (a7 (vs:=mf ⟨w,k⟩) rfl rfl) rfl ?_;rintro v L' ⟨b4,rfl,rfl⟩;refine gy 4 ?_;rcases w with x|⟨cb,ce,cs⟩|db|_
 ·refine gy 6 ?_;refine y (jk rfl underlying215 (by intro q hq;cases hq)) rfl ?_;refine gy 6 ?_;refine ya (aB zeroValue215 rfl) rfl ?_;rintro v L' ⟨b6,rfl,rfl⟩;refine bA (ai rfl rfl (by simp[Value.oneCell']) sizeOf215 bc (by rfl) (by rfl)) ?_;refine gy 3 ?_;refine aS 9 (od [] 9 0) (_) Tryz.mixed (by kernel_rfl) .refl ?_;refine gh 8 ?_;refine hr rfl (ay rfl isAgg127 sizeOf127 aL rfl rfl) rfl ?_;refine gh 1 ?_;refine bA (iu (kv:=oE ib C.en) (v:=ib x) rfl rfl rfl underlying149 underlying3 (xh _ hC.e) bc) ?_;rw[BC,BB];refine gy 2 ?_;refine aS 8 (od [] 8 0) (_) Tryz.mixed (by kernel_rfl) .refl ?_;refine gh 9 ?_;refine bA (iu (kv:=oE Qu C.pu) (v:=Qu num) rfl rfl rfl underlying150 underlying3 (xh _ hC.p) bc) ?_;rw[BC,BB];refine gy 4 ?_
  skip
  refine gy 2 ?_;refine y (ay (u:=[i64 k.e,i64 k.s,i64 k.t.a,i64 k.t.b,i64 k.t.c,i64 k.t.d]) rfl isAgg152 sizeOf152 aL rfl rfl) rfl ?_;refine gy 2 ?_;refine bA (aP (vs':=[ptr A.lp,i64 C.bl,i64 C.n,.map (some A.me),.map (some A.mp),i64 k.e,i64 k.s,i64 k.t.a,i64 k.t.b,i64 k.t.c,i64 k.t.d]) rfl rfl (by simp[Value.oneCell']) sizeOf152 bc rfl (by simp) rfl) ?_;refine gy 1 ?_;refine aN results84 (L1:=[sc A.p _ 154,so A.me _,so A.mp _]++R) ae ?_;exact⟨_,⟨rfl,rfl⟩,rfl⟩
 ·refine gy 6 ?_;refine y (ff rfl underlying215 (by intro q hq;cases hq) (by decide) zeroValue215) rfl ?_;refine gy 6 ?_;refine y (jk rfl underlying217 (by intro q hq;cases hq)) rfl ?_;refine gy 6 ?_;refine ya (aB zeroValue217 rfl) rfl ?_;rintro v L' ⟨b7,rfl,rfl⟩;refine bA (ai rfl rfl (by simp[Value.oneCell']) sizeOf217 bc (by rfl) (by rfl)) ?_;refine gy 3 ?_;refine aS 12 (od [10,11] 12 0) (_) Tryz.mixed (by kernel_rfl) .refl ?_;refine gh 6 ?_;refine hr rfl (ic rfl rfl underlying149 underlying3 zeroValue127 aL) rfl ?_;rw[mg];rcases hg:bM C.en cb with _|y0
  ·refine gh 3 ?_;refine ha rfl (aB zeroValue127 rfl) rfl ?_;rintro v L' ⟨b8,rfl,rfl⟩;refine⟨ae,?_⟩;refine Eo rfl (ai rfl rfl (by intro u hu;simp only[List.mem_cons,List.not_mem_nil,or_false]at hu;rcases hu with rfl|rfl|rfl|rfl|rfl|rfl|rfl<;>rfl) sizeOf127 bc rfl rfl) ?_;rintro v L' ⟨rfl,rfl⟩;refine⟨ae,?_⟩;refine gh 20 ?_;have hD0:C.ec ⟨.clean cb ce cs,k⟩ num={C with k:=k}:=by simp[aQ.ec,aQ.MU,hg]
   refine gy 2 ?_;refine y (ay (u:=[i64 k.e,i64 k.s,i64 k.t.a,i64 k.t.b,i64 k.t.c,i64 k.t.d]) rfl isAgg152 sizeOf152 aL rfl rfl) rfl ?_;refine gy 2 ?_;refine bA (aP (vs':=[ptr A.lp,i64 C.bl,i64 C.n,.map (some A.me),.map (some A.mp),i64 k.e,i64 k.s,i64 k.t.a,i64 k.t.b,i64 k.t.c,i64 k.t.d]) rfl rfl (by simp[Value.oneCell']) sizeOf152 bc rfl (by simp) rfl) ?_;refine gy 1 ?_;refine aN results84 (L1:=[sc A.p _ 154,so A.me _,so A.mp _]++R) ae ?_
   (rw[hD0];exact⟨_,⟨rfl,rfl⟩,rfl⟩)
  refine gh 3 ?_;refine ha rfl (aB zeroValue127 rfl) rfl ?_;rintro v L' ⟨b8,rfl,rfl⟩;refine⟨ae,?_⟩;refine Eo rfl (ai rfl rfl (by intro u hu;simp only[List.mem_cons,List.not_mem_nil,or_false]at hu;rcases hu with rfl|rfl|rfl|rfl|rfl|rfl|rfl<;>rfl) sizeOf127 bc rfl rfl) ?_;rintro v L' ⟨rfl,rfl⟩;refine⟨ae,?_⟩;refine gh 8 ?_;refine bV ?_;refine y (ay (u:=[i64 y0.ve,i64 y0.vs]) rfl isAgg84 sizeOf84 aL rfl rfl) rfl ?_;refine gy 1 ?_;refine bV ?_;refine y (ay (u:=[i64 ce,i64 cs]) rfl isAgg84 sizeOf84 aL rfl rfl) rfl ?_;refine bV ?_;refine y (Jm rfl rfl (by kernel_rfl) (by simp only[List.cons.injEq,Value.int.injEq,Value.string.injEq,Value.bool.injEq,str_inj,AQ,aM.Aw,true_and,and_true];exact Iff.rfl)) rfl ?_;refine gy 3 ?_;refine cc rfl (fun YV=>?_) (fun YV=>?_)
  ·refine gc 2 ?_;refine bA (an rfl rfl (by rfl) sizeOf4 bc rfl rfl) ?_;refine gy 2 ?_;refine aS 7 (od [] 7 0) (_) Tryz.mixed (by kernel_rfl) .refl ?_;refine gh 6 ?_;refine hr rfl (ak rfl isAgg127 sizeOf127 aL (by rfl)) rfl ?_;refine gh 1 ?_;refine bA (iu (kv:=oE ib C.en) (v:=ib {y0 with bZ:=false}) rfl rfl rfl underlying149 underlying3 (xh _ hC.e) bc) ?_;rw[BC,BB];refine gy 4 ?_;have hD0:C.ec ⟨.clean cb ce cs,k⟩ num={C with en:=o9 C.en C.ce cb {y0 with bZ:=false},ce:=Dx C.en C.ce cb,k:=k}:=by simp[aQ.ec,aQ.MU,hg, *]
   refine gy 2 ?_;refine y (ay (u:=[i64 k.e,i64 k.s,i64 k.t.a,i64 k.t.b,i64 k.t.c,i64 k.t.d]) rfl isAgg152 sizeOf152 aL rfl rfl) rfl ?_;refine gy 2 ?_;refine bA (aP (vs':=[ptr A.lp,i64 C.bl,i64 C.n,.map (some A.me),.map (some A.mp),i64 k.e,i64 k.s,i64 k.t.a,i64 k.t.b,i64 k.t.c,i64 k.t.d]) rfl rfl (by simp[Value.oneCell']) sizeOf152 bc rfl (by simp) rfl) ?_;refine gy 1 ?_;refine aN results84 (L1:=[sc A.p _ 154,so A.me _,so A.mp _]++R) ae ?_
   (rw[hD0];exact⟨_,⟨rfl,rfl⟩,rfl⟩)
  refine gc 4 ?_;have hD0:C.ec ⟨.clean cb ce cs,k⟩ num={C with k:=k}:=by(simp only[aQ.ec,aQ.MU,hg];rw[if_neg (by assumption)])
  refine gy 2 ?_;refine y (ay (u:=[i64 k.e,i64 k.s,i64 k.t.a,i64 k.t.b,i64 k.t.c,i64 k.t.d]) rfl isAgg152 sizeOf152 aL rfl rfl) rfl ?_;refine gy 2 ?_;refine bA (aP (vs':=[ptr A.lp,i64 C.bl,i64 C.n,.map (some A.me),.map (some A.mp),i64 k.e,i64 k.s,i64 k.t.a,i64 k.t.b,i64 k.t.c,i64 k.t.d]) rfl rfl (by simp[Value.oneCell']) sizeOf152 bc rfl (by simp) rfl) ?_;refine gy 1 ?_;refine aN results84 (L1:=[sc A.p _ 154,so A.me _,so A.mp _]++R) ae ?_
  (rw[hD0];exact⟨_,⟨rfl,rfl⟩,rfl⟩)
 ·refine gy 6 ?_;refine y (ff rfl underlying215 (by intro q hq;cases hq) (by decide) zeroValue215) rfl ?_;refine gy 6 ?_;refine y (ff rfl underlying217 (by intro q hq;cases hq) (by decide) zeroValue217) rfl ?_;refine gy 6 ?_;refine y (jk rfl underlying219 (by intro q hq;cases hq)) rfl ?_;refine gy 6 ?_;refine ya (aB zeroValue219 rfl) rfl ?_;rintro v L' ⟨Nx,rfl,rfl⟩;refine bA (ai rfl rfl (by simp[Value.oneCell']) sizeOf219 bc (by rfl) (by rfl)) ?_;refine gy 3 ?_;refine aS 6 (od [] 6 0) (_) Tryz.mixed (by kernel_rfl) .refl ?_;refine gh 7 ?_;refine bA (Ap rfl rfl underlying149 underlying3 rfl bc) ?_;rw[Jd];refine gy 2 ?_;refine aS 6 (od [] 6 0) (_) Tryz.mixed (by kernel_rfl) .refl ?_;refine gh 7 ?_;refine bA (Ap rfl rfl underlying150 underlying3 rfl bc) ?_;rw[Jd];refine gy 4 ?_
  skip
  refine gy 2 ?_;refine y (ay (u:=[i64 k.e,i64 k.s,i64 k.t.a,i64 k.t.b,i64 k.t.c,i64 k.t.d]) rfl isAgg152 sizeOf152 aL rfl rfl) rfl ?_;refine gy 2 ?_;refine bA (aP (vs':=[ptr A.lp,i64 C.bl,i64 C.n,.map (some A.me),.map (some A.mp),i64 k.e,i64 k.s,i64 k.t.a,i64 k.t.b,i64 k.t.c,i64 k.t.d]) rfl rfl (by simp[Value.oneCell']) sizeOf152 bc rfl (by simp) rfl) ?_;refine gy 1 ?_;refine aN results84 (L1:=[sc A.p _ 154,so A.me _,so A.mp _]++R) ae ?_;exact⟨_,⟨rfl,rfl⟩,rfl⟩
 refine gy 6 ?_;refine y (ff rfl underlying215 (by intro q hq;cases hq) (by decide) zeroValue215) rfl ?_;refine gy 6 ?_;refine y (ff rfl underlying217 (by intro q hq;cases hq) (by decide) zeroValue217) rfl ?_;refine gy 6 ?_;refine y (ff rfl underlying219 (by intro q hq;cases hq) (by decide) zeroValue219) rfl ?_;refine gy 9 ?_
 skip
 refine gy 2 ?_;refine y (ay (u:=[i64 k.e,i64 k.s,i64 k.t.a,i64 k.t.b,i64 k.t.c,i64 k.t.d]) rfl isAgg152 sizeOf152 aL rfl rfl) rfl ?_;refine gy 2 ?_;refine bA (aP (vs':=[ptr A.lp,i64 C.bl,i64 C.n,.map (some A.me),.map (some A.mp),i64 k.e,i64 k.s,i64 k.t.a,i64 k.t.b,i64 k.t.c,i64 k.t.d]) rfl rfl (by simp[Value.oneCell']) sizeOf152 bc rfl (by simp) rfl) ?_;refine gy 1 ?_;refine aN results84 (L1:=[sc A.p _ 154,so A.me _,so A.mp _]++R) ae ?_;exact⟨_,⟨rfl,rfl⟩,rfl⟩
theorem Z5 [Env]{R:List ax}{r:bI}{bl:Nat}(hrk:r.ok bl)(hb:bl≤32):bC Tryz.prog 222 [.agg (mf r).toArray] [] R (Is (str (bL r.rc)) []):=by
 have dj:=hrk.may hb;have iW:=qa dj;obtain⟨w,k⟩:=r;refine ag func222 ntmps222 rfl rfl ?_;refine gc 1 ?_;refine ya (a7 (vs:=mf ⟨w,k⟩) rfl rfl) rfl ?_;rintro v L' ⟨b1,rfl,rfl⟩;refine gy 4 ?_;refine ya (aB zeroValue88 rfl) rfl ?_;rintro v L' ⟨b3,rfl,rfl⟩;refine gy 2 ?_;refine bq ?_;intro K3 pD
 have sM: ∀x:Sv × Sv,(bW x.1 w.aH.length 1 (aW w.aH)∧bW x.2 w.texts.length 1 (cn w.texts))→Sk 88 K3 ([(1,ptr b1),(3,ptr b3)]) ([sc b1 (mf ⟨w,k⟩) 157,sc b3 [i64 w.kind,aG x.1 w.aH.length,aG x.2 w.texts.length] 88,aD x.1 2 (aW w.aH),aD x.2 9 (cn w.texts)]++R):=by
  rintro⟨sn,st⟩ hIr17;refine pD _ _ ?_;obtain⟨qQ,k3⟩:=hIr17;dsimp only at qQ k3 ⊢;have Gj:w.aH.length≤6:=by cases w<;>simp[cu.aH]
  refine gc 1 ?_;refine aS 17 [(0,true),(1,true),(2,true),(3,true),(4,true),(5,true),(6,true),(7,true),(8,true),(9,true),(12,true),(13,true),(14,true),(10,false),(11,false),(15,false),(16,true)] ([sc b3 [i64 w.kind,aG sn w.aH.length,aG st w.texts.length] 88,sc b1 (mf ⟨w,k⟩) 157,aD st 9 (cn w.texts)]++R) Tryz.mixed (by kernel_rfl) ae ?_;refine gh 12 ?_;refine hr rfl (iJ rfl underlying32 sizeOf2) rfl ?_;refine ha rfl (aE rfl underlying57 sizeOf2 zeroValue2 rfl rfl rfl rfl ⟨⟨_,_,rfl,(by rfl),(by decide)⟩,⟨⟨_,_,rfl,(by rfl),(by decide)⟩,trivial⟩⟩ (by dsimp[bt,aX,aY,bS]<;>rfl)) rfl ?_;rintro v L' ⟨b74,rfl,rfl⟩;refine⟨ae,?_⟩;refine ha rfl (aO (s:=sn) (xs:=aW w.aH) (m:=w.aH.length) (k:=2) (us:=[i64 k.e,i64 k.s]) (size:=1) rfl rfl (by repeat first|exact .z|apply Pk.s) underlying57 underlying57 (by intro q hq;cases hq) typeInfo2 rfl rfl rfl ?It ?alF ?ajX ?adX) rfl ?_
  case It=>exact qQ
  case alF=>exact cz aL rfl rfl
  case ajX=>simp[Value.oneCell']
  case adX=>show(_+_)*9≤_;omega
  rintro v L' ⟨s75,rfl,Mh,rfl⟩;refine⟨ae,?_⟩;refine ha rfl (aO (s:=s75) (xs:=aW w.aH++[i64 k.e,i64 k.s]) (m:=w.aH.length+2) (k:=4) (us:=[i64 k.t.a,i64 k.t.b,i64 k.t.c,i64 k.t.d]) (size:=1) rfl rfl (by repeat first|exact .z|apply Pk.s) underlying57 underlying57 (by intro q hq;cases hq) typeInfo2 rfl rfl rfl ?Iu ?alG ?ajY ?adY) rfl ?_
  case Iu=>exact Mh
  case alG=>exact cz aL rfl rfl
  case ajY=>simp[Value.oneCell']
  case adY=>show(_+_)*9≤_;omega
  rintro v L' ⟨s79,rfl,Vd,rfl⟩;refine⟨ae,?_⟩;rw[show aW w.aH++[i64 k.e,i64 k.s]++[i64 k.t.a,i64 k.t.b,i64 k.t.c,i64 k.t.d]=aW (bI.rc ⟨w,k⟩).aH by simp[bI.rc,bT.aH,aW],show w.aH.length+2+4=(bI.rc ⟨w,k⟩).aH.length by simp[bI.rc,bT.aH]]at Vd ⊢;refine gh 2 ?_;refine bA (an rfl rfl (by exact bN _ _) sizeOf57 bc rfl rfl) ?_;refine gy 3 ?_;refine y (ak rfl isAgg88 sizeOf88 aL (by rfl)) rfl ?_;refine aA (p6 (r:=bI.rc ⟨w,k⟩) ?apx ?apQ ?atb) rfl call94 aZ rfl ?_
  case apx=>exact bG aL Vd
  case apQ=>exact bG aL k3
  case atb=>exact dj.num
  rintro v L' ⟨s83,rfl,Ag,rfl⟩;rw[iW]at Ag ⊢;dsimp only at Ag ⊢;generalize bL (bI.rc ⟨w,k⟩)=rb at*;refine gy 9 ?_;refine y (jq (pT (L:=[aD s83 5 (av rb)]) .z Ag).rd.bytes ae rfl underlying55 underlying9 underlying5) rfl ?_;refine gy 4 ?_;refine aj results222 rfl (L1:=R) ae ?_;exact⟨_,⟨by rfl,rfl⟩,by rfl⟩
 clear pD;refine gc 7 ?_;rcases w with⟨bE,ve,vs,data,_|_,cl,n⟩|⟨cb,ce,cs⟩|db|_
 ·refine y (jk rfl underlying215 (by intro q hq;cases hq)) rfl ?_;refine gy 6 ?_;refine ya (aB zeroValue215 rfl) rfl ?_;rintro v L' ⟨b4,rfl,rfl⟩;refine bA (ai rfl rfl (by simp[Value.oneCell']) sizeOf215 bc (by rfl) (by rfl)) ?_;refine gy 35 ?_;refine ya (aE rfl underlying57 sizeOf2 zeroValue2 rfl rfl rfl rfl ⟨⟨_,_,rfl,(by rfl),(by decide)⟩,⟨⟨_,_,rfl,(by rfl),(by decide)⟩,⟨⟨_,_,rfl,(by rfl),(by decide)⟩,⟨⟨_,_,rfl,(by rfl),(by decide)⟩,⟨⟨_,_,rfl,(by rfl),(by decide)⟩,⟨⟨_,_,rfl,(by rfl),(by decide)⟩,trivial⟩⟩⟩⟩⟩⟩ (by dsimp[bt,aX,aY,bS]<;>rfl)) rfl ?_;rintro v L' ⟨b38,rfl,rfl⟩;refine gy 3 ?_;refine ya (aE rfl underlying86 sizeOf9 zeroValue9 rfl rfl rfl rfl ⟨⟨_,_,rfl,(by rfl),(by decide)⟩,trivial⟩ (by dsimp[bt,aX,aY,bS]<;>rfl)) rfl ?_;rintro v L' ⟨b42,rfl,rfl⟩;refine y (bU rfl) rfl ?_;refine bA (ai rfl rfl (by simp[Value.oneCell']) sizeOf88 bc (by rfl) (by rfl)) ?_;refine gy 3 ?_;exact aV aq ae (sM (some (b38,6,[]),some (b42,1,[])) ⟨⟨Nat.le_refl _,by decide,rfl,rfl⟩,⟨Nat.le_refl _,by decide,rfl,rfl⟩⟩)
 ·refine y (jk rfl underlying215 (by intro q hq;cases hq)) rfl ?_;refine gy 6 ?_;refine ya (aB zeroValue215 rfl) rfl ?_;rintro v L' ⟨b4,rfl,rfl⟩;refine bA (ai rfl rfl (by simp[Value.oneCell']) sizeOf215 bc (by rfl) (by rfl)) ?_;refine gy 37 ?_;refine ya (aE rfl underlying57 sizeOf2 zeroValue2 rfl rfl rfl rfl ⟨⟨_,_,rfl,(by rfl),(by decide)⟩,⟨⟨_,_,rfl,(by rfl),(by decide)⟩,⟨⟨_,_,rfl,(by rfl),(by decide)⟩,⟨⟨_,_,rfl,(by rfl),(by decide)⟩,⟨⟨_,_,rfl,(by rfl),(by decide)⟩,⟨⟨_,_,rfl,(by rfl),(by decide)⟩,trivial⟩⟩⟩⟩⟩⟩ (by dsimp[bt,aX,aY,bS]<;>rfl)) rfl ?_;rintro v L' ⟨b38,rfl,rfl⟩;refine gy 3 ?_;refine ya (aE rfl underlying86 sizeOf9 zeroValue9 rfl rfl rfl rfl ⟨⟨_,_,rfl,(by rfl),(by decide)⟩,trivial⟩ (by dsimp[bt,aX,aY,bS]<;>rfl)) rfl ?_;rintro v L' ⟨b42,rfl,rfl⟩;refine y (bU rfl) rfl ?_;refine bA (ai rfl rfl (by simp[Value.oneCell']) sizeOf88 bc (by rfl) (by rfl)) ?_;refine gy 3 ?_;exact aV aq ae (sM (some (b38,6,[]),some (b42,1,[])) ⟨⟨Nat.le_refl _,by decide,rfl,rfl⟩,⟨Nat.le_refl _,by decide,rfl,rfl⟩⟩)
 ·refine y (ff rfl underlying215 (by intro q hq;cases hq) (by decide) zeroValue215) rfl ?_;refine gy 6 ?_;refine y (jk rfl underlying217 (by intro q hq;cases hq)) rfl ?_;refine gy 6 ?_;refine ya (aB zeroValue217 rfl) rfl ?_;rintro v L' ⟨b6,rfl,rfl⟩;refine bA (ai rfl rfl (by simp[Value.oneCell']) sizeOf217 bc (by rfl) (by rfl)) ?_;refine gy 11 ?_;refine ya (aE rfl underlying57 sizeOf2 zeroValue2 rfl rfl rfl rfl ⟨⟨_,_,rfl,(by rfl),(by decide)⟩,⟨⟨_,_,rfl,(by rfl),(by decide)⟩,⟨⟨_,_,rfl,(by rfl),(by decide)⟩,trivial⟩⟩⟩ (by dsimp[bt,aX,aY,bS]<;>rfl)) rfl ?_;rintro v L' ⟨b55,rfl,rfl⟩;refine y (bU rfl) rfl ?_;refine bA (ai rfl rfl (by simp[Value.oneCell']) sizeOf88 bc (by rfl) (by rfl)) ?_;refine gy 3 ?_;exact aV aq ae (sM (some (b55,3,[]),none) ⟨⟨Nat.le_refl _,by decide,rfl,rfl⟩,⟨rfl,rfl⟩⟩)
 ·refine y (ff rfl underlying215 (by intro q hq;cases hq) (by decide) zeroValue215) rfl ?_;refine gy 6 ?_;refine y (ff rfl underlying217 (by intro q hq;cases hq) (by decide) zeroValue217) rfl ?_;refine gy 6 ?_;refine y (jk rfl underlying219 (by intro q hq;cases hq)) rfl ?_;refine gy 6 ?_;refine ya (aB zeroValue219 rfl) rfl ?_;rintro v L' ⟨b7,rfl,rfl⟩;refine bA (ai rfl rfl (by simp[Value.oneCell']) sizeOf219 bc (by rfl) (by rfl)) ?_;refine gy 5 ?_;refine ya (aE rfl underlying57 sizeOf2 zeroValue2 rfl rfl rfl rfl ⟨⟨_,_,rfl,(by rfl),(by decide)⟩,trivial⟩ (by dsimp[bt,aX,aY,bS]<;>rfl)) rfl ?_;rintro v L' ⟨b62,rfl,rfl⟩;refine y (bU rfl) rfl ?_;refine bA (ai rfl rfl (by simp[Value.oneCell']) sizeOf88 bc (by rfl) (by rfl)) ?_;refine gy 3 ?_;exact aV aq ae (sM (some (b62,1,[]),none) ⟨⟨Nat.le_refl _,by decide,rfl,rfl⟩,⟨rfl,rfl⟩⟩)
 refine y (ff rfl underlying215 (by intro q hq;cases hq) (by decide) zeroValue215) rfl ?_;refine gy 6 ?_;refine y (ff rfl underlying217 (by intro q hq;cases hq) (by decide) zeroValue217) rfl ?_;refine gy 6 ?_;refine y (ff rfl underlying219 (by intro q hq;cases hq) (by decide) zeroValue219) rfl ?_;refine gy 11 ?_;refine bA (an rfl rfl (by rfl) sizeOf3 bc rfl rfl) ?_;refine gy 3 ?_;exact aV aq ae (sM (none,none) ⟨⟨rfl,rfl⟩,⟨rfl,rfl⟩⟩)
def jV:Option cu→Value
 |none=> .nilIface
 |some w=>cu.val w
theorem ahu{α:Type}{l:List α}(h:l.length=1): ∃a,l=[a]:=by
 match l,h with
 | [a],_=>exact⟨a,rfl⟩
theorem aqh{α:Type}{l:List α}(h:l.length=3): ∃a b c,l=[a,b,c]:=by
 match l,h with
 | [a,b,c],_=>exact⟨a,b,c,rfl⟩
theorem ahC{α:Type}{l:List α}(h:l.length=6): ∃a b c d e f,l=[a,b,c,d,e,f]:=by
 match l,h with
 | [a,b,c,d,e,f],_=>exact⟨a,b,c,d,e,f,rfl⟩
set_option maxHeartbeats 8000000 in
theorem WJ [Env]{R:List ax}{A:uc}{C:aQ}{kind:Int}{nv tv v:Value}{ts:List Bytes}{ns:List Int}(hb:C.bl≤32)(hv:cE R v ns.length (aW ns))(htv:cE R tv ts.length (cn ts))(eF:nv.oneCell'=true):
   bC Tryz.prog 141 [ptr A.p,.agg #[i64 kind,nv,tv],v] [cU A C] R (Is (jV (gq C.bl kind ts ns)) [cU A C]):=by
 have ZP:=hv.bo;have Gi:=htv.bo;refine ag func141 ntmps141 rfl rfl ?_;refine gc 1 ?_;refine ya (a7 (vs:=[i64 kind,nv,tv]) rfl rfl) rfl ?_;rintro v L' ⟨b4,rfl,rfl⟩;refine gy 6 ?_;refine y (bu rfl underlying86 Gi) rfl ?_;refine gy 5 ?_;refine bq ?_;intro K4 wj
 have Y3:=Z3 (I:= ¬(kind=10∧ns.length=6∧ts.length=1)) (F:=[(0,ptr A.p),(2,v),(4,ptr b4),(7,i64 ts.length)]) (M:=[sc b4 [i64 kind,nv,tv] 88,cU A C]++R) wj (by
  intro aoS;refine bq ?_;intro K5 B4
  have OJ:=Z3 (I:= ¬(kind=11∧ns.length=3∧ts.length=0)) (F:=[(0,ptr A.p),(2,v),(4,ptr b4),(7,i64 ts.length)]) (M:=[sc b4 [i64 kind,nv,tv] 88,cU A C]++R) B4 (by
   intro afB;refine bq ?_;intro K6 ma
   have Jw:=Z3 (I:= ¬(kind=12∧ns.length=1∧ts.length=0∧ER C.bl (ns.getD 0 0)=true)) (F:=[(0,ptr A.p),(2,v),(4,ptr b4),(7,i64 ts.length)]) (M:=[sc b4 [i64 kind,nv,tv] 88,cU A C]++R) ma (by
    intro afC;refine gc 5 ?_;refine cv 156 rfl (fun zK=>?_) (fun zK=>?_)
    ·refine gy 1 ?_;refine bV ?_;refine y (bu rfl underlying57 ZP) rfl ?_;refine gy 3 ?_;refine cv 161 rfl (fun h17=>?_) (fun h17=>?_)
     ·refine gy 6 ?_;refine cc rfl (fun Tx=>?_) (fun Tx=>?_)
      ·refine gc 1 ?_;have hc0:kind=13∧ns.length=0∧ts.length=0:=⟨by omega,by omega,by omega⟩;refine y (bU rfl) rfl ?_;refine y (dW rfl (by kernel_rfl)) rfl ?_;refine gy 6 ?_;refine aj results141 rfl (L1:=[cU A C]++R) ae ?_;exact⟨_,⟨by(unfold gq;rw[if_neg aoS,if_neg afB,if_neg afC,if_pos hc0];rfl),rfl⟩,by rfl⟩
      refine gc 8 ?_;refine aj results141 rfl (L1:=[cU A C]++R) ae ?_;exact⟨_,⟨by(unfold gq;(repeat' split)<;>first|rfl|(exfalso;omega)|(exfalso;simp_all;done)),rfl⟩,by rfl⟩
     refine gy 15 ?_;refine aj results141 rfl (L1:=[cU A C]++R) ae ?_;exact⟨_,⟨by(unfold gq;(repeat' split)<;>first|rfl|(exfalso;omega)|(exfalso;simp_all;done)),rfl⟩,by rfl⟩
    refine gy 20 ?_
    (refine aj results141 rfl (L1:=[cU A C]++R) ae ?_
     exact⟨_,⟨by(unfold gq;(repeat' split)<;>first|rfl|(exfalso;omega)|(exfalso;simp_all;done)),rfl⟩,by rfl⟩))
   refine gc 5 ?_;refine cv 131 rfl (fun Dd=>?_) (fun Dd=>?_)
   ·refine gy 1 ?_;refine bV ?_;refine y (bu rfl underlying57 ZP) rfl ?_;refine gy 3 ?_;refine cv 136 rfl (fun De=>?_) (fun De=>?_)
    ·refine gy 4 ?_;refine cv 140 rfl (fun OG=>?_) (fun OG=>?_)
     ·obtain⟨x0,rfl⟩:=ahu (l:=ns) (by omega);refine gy 2 ?_;refine bV ?_;refine y (aK (by assumption) rfl rfl underlying57 sizeOf2 (by omega) (by omega)) rfl ?_;refine bV ?_;refine y (au 0 hv ae rfl isAgg2 (by rfl) rfl) rfl ?_;refine bV ?_;refine bK (kIn ?ang) call193 ?_
      case ang=>exact hb
      refine gy 4 ?_;refine ma _ _ ?_;clear ma;refine cc rfl (fun Lf=>?_) (fun Lf=>?_)
      ·have OU:kind=12∧[x0].length=1∧ts.length=0∧ER C.bl x0=true:=⟨by omega,rfl,by omega,by assumption⟩;refine gc 2 ?_;refine y (aK (by assumption) rfl rfl underlying57 sizeOf2 (by omega) (by omega)) rfl ?_;refine y (au 0 hv ae rfl isAgg2 (by rfl) rfl) rfl ?_;refine y (bU rfl) rfl ?_;refine y (dW rfl (by kernel_rfl)) rfl ?_;refine gy 6 ?_;refine aj results141 rfl (L1:=[cU A C]++R) ae ?_;exact⟨_,⟨by(unfold gq;(repeat' split)<;>first|rfl|(exfalso;omega)|(exfalso;simp_all;done)),rfl⟩,by rfl⟩
      exact zH aq ae (Jw (by simp_all))
     refine gy 9 ?_;refine ma _ _ ?_;clear ma;refine gc 1 ?_;exact zH aq ae (Jw (by omega))
    refine gy 13 ?_;refine ma _ _ ?_;clear ma;refine gc 1 ?_;exact zH aq ae (Jw (by omega))
   refine gy 18 ?_;refine ma _ _ ?_;clear ma;refine gc 1 ?_;exact zH aq ae (Jw (by omega)))
  refine gc 5 ?_;refine cv 95 rfl (fun Gf=>?_) (fun Gf=>?_)
  ·refine gy 1 ?_;refine bV ?_;refine y (bu rfl underlying57 ZP) rfl ?_;refine gy 3 ?_;refine cv 100 rfl (fun MX=>?_) (fun MX=>?_)
   ·refine gy 6 ?_;refine B4 _ _ ?_;clear B4;refine cc rfl (fun TJ=>?_) (fun TJ=>?_)
    ·have at9:kind=11:=by omega
     have auk:ts.length=0:=by omega
     obtain⟨x0,x1,x2,rfl⟩:=aqh (l:=ns) (by omega);refine gc 1 ?_;refine aS 12 (od [11] 12 0) (_) Tryz.mixed (by kernel_rfl) .refl ?_;refine gh 1 ?_;refine hr rfl (aK (by assumption) rfl rfl underlying57 sizeOf2 (by omega) (by omega)) rfl ?_;refine hr rfl (au 0 hv ae rfl isAgg2 (by rfl) rfl) rfl ?_;refine gh 1 ?_;refine hr rfl (aK (by assumption) rfl rfl underlying57 sizeOf2 (by omega) (by omega)) rfl ?_;refine hr rfl (au 1 hv ae rfl isAgg2 (by rfl) rfl) rfl ?_;refine gh 1 ?_;refine hr rfl (aK (by assumption) rfl rfl underlying57 sizeOf2 (by omega) (by omega)) rfl ?_;refine hr rfl (au 2 hv ae rfl isAgg2 (by rfl) rfl) rfl ?_;refine hr rfl (bU rfl) rfl ?_;refine hr rfl (bU rfl) rfl ?_;refine ha rfl (aB zeroValue217 rfl) rfl ?_;rintro v L' ⟨b9,rfl,rfl⟩;refine⟨ae,?_⟩;refine gh 1 ?_;refine bA (ai rfl rfl (by simp[Value.oneCell']) sizeOf217 bc (by rfl) (by rfl)) ?_;refine gy 5 ?_;refine y (aK (by assumption) rfl rfl underlying57 sizeOf2 (by omega) (by omega)) rfl ?_;refine y (au 0 hv ae rfl isAgg2 (by rfl) rfl) rfl ?_;refine bK (kIn ?aei) call193 ?_
     case aei=>exact hb
     refine gy 1 ?_;refine cv 120 rfl (fun zL=>?_) (fun zL=>?_)
     ·refine gy 1 ?_;refine bV ?_;refine y (ay (u:=[i64 x1,i64 x2]) rfl isAgg84 sizeOf84 aL rfl rfl) rfl ?_;refine bV ?_;refine bK (Uk) call194 ?_;refine gy 3 ?_;refine cc rfl (fun rm=>?_) (fun rm=>?_)
      ·have hc3:ER C.bl x0=true∧oR x1 x2 1=true:=⟨by assumption,by assumption⟩;refine gc 1 ?_;refine y (ak rfl isAgg217 sizeOf217 aL (by rfl)) rfl ?_;refine y (dW rfl (by kernel_rfl)) rfl ?_;refine gy 6 ?_;refine aj results141 rfl (L1:=[cU A C]++R) ae ?_;exact⟨_,⟨by(unfold gq;(repeat' split)<;>first|rfl|(exfalso;omega)|(exfalso;simp_all;done)),rfl⟩,by rfl⟩
      refine gc 8 ?_;refine aj results141 rfl (L1:=[cU A C]++R) ae ?_;exact⟨_,⟨by(unfold gq;(repeat' split)<;>first|rfl|(exfalso;omega)|(exfalso;simp_all;done)),rfl⟩,by rfl⟩
     refine gy 15 ?_;refine aj results141 rfl (L1:=[cU A C]++R) ae ?_;exact⟨_,⟨by(unfold gq;(repeat' split)<;>first|rfl|(exfalso;omega)|(exfalso;simp_all;done)),rfl⟩,by rfl⟩
    exact zH aq ae (OJ (by omega))
   refine gy 6 ?_;refine B4 _ _ ?_;clear B4;refine gc 1 ?_;exact zH aq ae (OJ (by omega))
  refine gy 11 ?_;refine B4 _ _ ?_;clear B4;refine gc 1 ?_;exact zH aq ae (OJ (by omega)))
 refine gc 5 ?_;refine cv 17 rfl (fun zM=>?_) (fun zM=>?_)
 ·refine gy 1 ?_;refine bV ?_;refine y (bu rfl underlying57 ZP) rfl ?_;refine gy 3 ?_;refine cv 22 rfl (fun K0=>?_) (fun K0=>?_)
  ·refine gy 6 ?_;refine wj _ _ ?_;clear wj;refine cc rfl (fun Hd=>?_) (fun Hd=>?_)
   ·obtain⟨x0,x1,x2,x3,x4,x5,rfl⟩:=ahC (l:=ns) (by omega);obtain⟨tx,rfl⟩:=ahu (l:=ts) (by omega);have at8:kind=10:=by omega
    refine gc 1 ?_;refine aS 27 (od [26] 27 0) (_) Tryz.mixed (by kernel_rfl) .refl ?_;refine gh 1 ?_;refine hr rfl (aK (by assumption) rfl rfl underlying57 sizeOf2 (by omega) (by omega)) rfl ?_;refine hr rfl (au 0 hv ae rfl isAgg2 (by rfl) rfl) rfl ?_;refine gh 1 ?_;refine hr rfl (aK (by assumption) rfl rfl underlying57 sizeOf2 (by omega) (by omega)) rfl ?_;refine hr rfl (au 1 hv ae rfl isAgg2 (by rfl) rfl) rfl ?_;refine gh 1 ?_;refine hr rfl (aK (by assumption) rfl rfl underlying57 sizeOf2 (by omega) (by omega)) rfl ?_;refine hr rfl (au 2 hv ae rfl isAgg2 (by rfl) rfl) rfl ?_;refine hr rfl (bU rfl) rfl ?_;refine gh 2 ?_;refine hr rfl (aK (by assumption) rfl rfl underlying86 sizeOf9 (by omega) (by omega)) rfl ?_;refine hr rfl (au 0 htv ae rfl isAgg9 (by simp) rfl) rfl ?_;refine gh 1 ?_;refine hr rfl (aK (by assumption) rfl rfl underlying57 sizeOf2 (by omega) (by omega)) rfl ?_;refine hr rfl (au 3 hv ae rfl isAgg2 (by rfl) rfl) rfl ?_;refine gh 2 ?_;refine hr rfl (aK (by assumption) rfl rfl underlying57 sizeOf2 (by omega) (by omega)) rfl ?_;refine hr rfl (au 4 hv ae rfl isAgg2 (by rfl) rfl) rfl ?_;refine gh 1 ?_;refine hr rfl (aK (by assumption) rfl rfl underlying57 sizeOf2 (by omega) (by omega)) rfl ?_;refine hr rfl (au 5 hv ae rfl isAgg2 (by rfl) rfl) rfl ?_;refine hr rfl (bU rfl) rfl ?_;refine hr rfl (bU rfl) rfl ?_;refine ha rfl (aB zeroValue215 rfl) rfl ?_;rintro v L' ⟨b8,rfl,rfl⟩;refine⟨ae,?_⟩;refine gh 1 ?_;refine bA (ai rfl rfl (by simp[Value.oneCell']) sizeOf215 bc (by rfl) (by rfl)) ?_;refine gy 5 ?_;refine y (aK (by assumption) rfl rfl underlying57 sizeOf2 (by omega) (by omega)) rfl ?_;refine y (au 0 hv ae rfl isAgg2 (by rfl) rfl) rfl ?_;refine bK (kIn ?aek) call193 ?_
    case aek=>exact hb
    refine gy 1 ?_;refine cv 57 rfl (fun aon=>?_) (fun aon=>?_)
    ·refine gy 2 ?_;refine bV ?_;refine y (ay (u:=[i64 x1,i64 x2]) rfl isAgg84 sizeOf84 aL rfl rfl) rfl ?_;refine bV ?_;refine bK (Uk) call194 ?_;refine gy 2 ?_;refine cv 63 rfl (fun Ef=>?_) (fun Ef=>?_)
     ·refine gy 1 ?_;refine bV ?_;refine y (aK (by assumption) rfl rfl underlying57 sizeOf2 (by omega) (by omega)) rfl ?_;refine bV ?_;refine y (au 3 hv ae rfl isAgg2 (by rfl) rfl) rfl ?_;refine bV ?_;refine bK (nY) call192 ?_;refine gy 2 ?_;refine cv 69 rfl (fun Ow=>?_) (fun Ow=>?_)
      ·refine gy 1 ?_;refine bV ?_;refine y (aK (by assumption) rfl rfl underlying57 sizeOf2 (by omega) (by omega)) rfl ?_;refine bV ?_;refine y (au 4 hv ae rfl isAgg2 (by rfl) rfl) rfl ?_;refine bV ?_;refine bK (nY) call192 ?_;refine gy 2 ?_;refine cv 75 rfl (fun aot=>?_) (fun aot=>?_)
       ·refine gy 1 ?_;refine bV ?_;refine y (aK (by assumption) rfl rfl underlying57 sizeOf2 (by omega) (by omega)) rfl ?_;refine bV ?_;refine y (au 5 hv ae rfl isAgg2 (by rfl) rfl) rfl ?_;refine bV ?_;refine bK (Um) call140 ?_;refine gy 3 ?_;refine cv 82 rfl (fun aox=>?_) (fun aox=>?_)
        ·refine gy 3 ?_;refine bV ?_;refine y (cP rfl underlying9) rfl ?_;refine gy 4 ?_;refine cc rfl (fun YE=>?_) (fun YE=>?_)
         ·have hc8:ER C.bl x0=true∧oR x1 x2 1=true∧aI x3 0 1=true∧aI x4 (-1) 3=true∧qI x5=false∧tx.length=8:=⟨by assumption,by assumption,by assumption,by assumption,by assumption,by omega⟩;refine gc 1 ?_;refine y (ak rfl isAgg215 sizeOf215 aL (by rfl)) rfl ?_;refine y (dW rfl (by kernel_rfl)) rfl ?_;refine gy 6 ?_;refine aj results141 rfl (L1:=[cU A C]++R) ae ?_;exact⟨_,⟨by(unfold gq;(repeat' split)<;>first|rfl|(exfalso;omega)|(exfalso;simp_all;done)),rfl⟩,by rfl⟩
         have hn8: ¬tx.length=8:=by omega
         refine gc 8 ?_;refine aj results141 rfl (L1:=[cU A C]++R) ae ?_;exact⟨_,⟨by(unfold gq;(repeat' split)<;>first|rfl|(exfalso;omega)|(exfalso;simp_all;done)),rfl⟩,by rfl⟩
        refine gy 17 ?_;refine aj results141 rfl (L1:=[cU A C]++R) ae ?_;exact⟨_,⟨by(unfold gq;(repeat' split)<;>first|rfl|(exfalso;omega)|(exfalso;simp_all;done)),rfl⟩,by rfl⟩
       refine gy 24 ?_;refine aj results141 rfl (L1:=[cU A C]++R) ae ?_;exact⟨_,⟨by(unfold gq;(repeat' split)<;>first|rfl|(exfalso;omega)|(exfalso;simp_all;done)),rfl⟩,by rfl⟩
      refine gy 30 ?_;refine aj results141 rfl (L1:=[cU A C]++R) ae ?_;exact⟨_,⟨by(unfold gq;(repeat' split)<;>first|rfl|(exfalso;omega)|(exfalso;simp_all;done)),rfl⟩,by rfl⟩
     refine gy 36 ?_;refine aj results141 rfl (L1:=[cU A C]++R) ae ?_;exact⟨_,⟨by(unfold gq;(repeat' split)<;>first|rfl|(exfalso;omega)|(exfalso;simp_all;done)),rfl⟩,by rfl⟩
    refine gy 42 ?_;refine aj results141 rfl (L1:=[cU A C]++R) ae ?_;exact⟨_,⟨by(unfold gq;(repeat' split)<;>first|rfl|(exfalso;omega)|(exfalso;simp_all;done)),rfl⟩,by rfl⟩
   exact zH aq ae (Y3 (by omega))
  refine gy 6 ?_;refine wj _ _ ?_;clear wj;refine gc 1 ?_;exact zH aq ae (Y3 (by omega))
 refine gy 11 ?_;refine wj _ _ ?_;clear wj;refine gc 1 ?_;exact zH aq ae (Y3 (by omega))
end W
end Go.Proofs