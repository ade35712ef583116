/- A part of the proof. -/
import Derived.Test.YtlignadmmopdmaaGreatUn
import Derived.Test.YtlignadmmopdmaaGreatC4
import Derived.Test.YtlignadmmopdmaaGreatGN
set_option linter.unusedVariables false
set_option linter.unusedSimpArgs false
set_option linter.constructorNameAsVariable false
namespace Go.Proofs
open _root_.Go.Proofs.Tryz
open Go Go.Sl
namespace W
theorem ahD{l:List Int}(h:6≤l.length): ∃a b c d e f,l.drop (l.length- 6)=[a,b,c,d,e,f]:=ahC (by simp;omega)
theorem rA(l:List Int)(k:Nat):aW (l.drop k)=(aW l).drop k:=by simp[aW,List.map_drop]
theorem HP(l:List Int)(k:Nat):aW (l.take k)=(aW l).take k:=by simp[aW,List.map_take]
theorem mE(o:Option cu):aY (jV o)=[jV o]:=by
 cases o with
 |none=>rfl
 |some w=>cases w<;>rfl
theorem Sa(o:Option cu):(jV o).oneCell'=true:=by
 cases o with
 |none=>rfl
 |some w=>exact val_one w
theorem v7(o:Option cu):jV o= .nilIface∨ ∃T u,jV o= .iface T u:=by
 cases o with
 |none=>exact .inl rfl
 |some w=>cases w<;>exact .inr ⟨_,_,rfl⟩
theorem isW(o:Option cu):isIf (jV o)=o.isSome:=by
 cases o with
 |none=>rfl
 |some w=>cases w<;>rfl
theorem jH(o:Option cu)(a b c d e f:Int): ∀u∈[jV o,i64 a,i64 b,i64 c,i64 d,i64 e,i64 f],u.oneCell'=true:=by
 intro u hu;simp only[List.mem_cons,List.not_mem_nil,or_false]at hu;rcases hu with rfl|rfl|rfl|rfl|rfl|rfl|rfl
 · exact Sa _
 all_goals rfl
theorem ints_at{l:List Int}{k i:Nat}{x:Int}(h:(l.drop k)[i]? =some x):(aW l)[k+i]? =some (i64 x):=by
 rw[List.getElem?_drop]at h;simp[aW,h]
def KRd(n:Nat)(bs:Bytes)(L:List ax)(u:Value)(L':List ax):Prop:=L'=L∧
 ((∃r,iq n bs=some r∧u= .tuple #[.agg (mf r).toArray,.bool true])∨(iq n bs=none∧ ∃us:List Value,us.length=7∧(∀z∈us,z.oneCell'=true)∧u= .tuple #[.agg us.toArray,.bool false]))
theorem ahf [Env]{R:List ax}{A:uc}{C:aQ}{bs:Bytes}(hb:C.bl≤32)(TQ:bs.length≤1000):
   bC Tryz.prog 83 [ptr A.p,str bs] [cU A C] R (KRd C.bl bs [cU A C]):=by
 refine ag func83 ntmps83 rfl rfl ?_;refine gc 1 ?_;refine ya (aB zeroValue157 rfl) rfl ?_;rintro v L' ⟨b4,rfl,rfl⟩;refine gy 5 ?_;refine ya (ku rfl underlying9 underlying55 underlying5) rfl ?_;rintro v L' ⟨b12,c12,aup,atX,rfl,ao3,rfl⟩;refine aA (pZ (bs:=bs) ?hb5) rfl call47 aZ rfl ?_
 case hb5=>exact yO aL ao3
 rintro v L' ⟨Aj,al1,rfl,Va,rfl⟩;obtain⟨de,sQ⟩: ∃z,bX bs=z:=⟨_,rfl⟩;have Di:=sy bs;obtain⟨rc,er⟩:=de;rw[sQ]at Va Di ⊢;dsimp only at Va Di ⊢;have qQ:=Va.n;have k3:=Va.t;unfold tD;have g9:cE [aD Aj 2 (aW rc.aH)] (aG Aj rc.aH.length) rc.aH.length (aW rc.aH):=bG .z qQ;have Pd:cE [aD al1 9 (cn rc.texts)] (aG al1 rc.texts.length) rc.texts.length (cn rc.texts):=bG .z k3;have Hu:=vX qQ;refine gy 3 ?_;refine ya (aB zeroValue88 rfl) rfl ?_;rintro v L' ⟨b6,rfl,rfl⟩;refine bA (ai rfl rfl (by(simp only[List.forall_mem_cons,List.not_mem_nil,false_implies,implies_true,bN,and_true,true_and,and_self];first|done|simp[Value.oneCell'])) sizeOf88 bc (by rfl) (by rfl)) ?_;refine gy 6 ?_;refine y (bH rfl underlying57 (by assumption)) rfl ?_;refine gy 1 ?_;rw[wr (by omega) (by omega)];refine gy 8 ?_;refine cv 22 rfl (fun h20=>?_) (fun h20=>?_)
 ·refine gy 14 ?_
  have rcN:iq C.bl bs=none:=by
    have dO:uk bs=true:=by
      unfold uk;rw[sQ];simp only[Bool.or_eq_true,Bool.not_eq_true',decide_eq_false_iff_not,decide_eq_true_eq]
      (left;left;assumption)
    unfold iq;rw[if_pos dO]
  refine y (bU rfl) rfl ?_;refine bA (ai rfl rfl (by simp[Value.oneCell']) sizeOf157 bc (by rfl) (by rfl)) ?_;refine gy 5 ?_;refine cx results83 rfl rfl isAgg157 sizeOf157 aL (rfl) (L1:=[cU A C]++R) ae ?_;exact⟨_,⟨rfl,.inr ⟨rcN,[.nilIface,i64 0,i64 0,i64 0,i64 0,i64 0,i64 0],rfl,jH none _ _ _ _ _ _,rfl⟩⟩,rfl⟩
 refine gy 4 ?_;refine cv 26 rfl (fun Su=>?_) (fun Su=>?_)
 ·refine gy 10 ?_
  have rcN:iq C.bl bs=none:=by
    have dO:uk bs=true:=by
      unfold uk;rw[sQ];simp only[Bool.or_eq_true,Bool.not_eq_true',decide_eq_false_iff_not,decide_eq_true_eq]
      (left;right;omega)
    unfold iq;rw[if_pos dO]
  refine y (bU rfl) rfl ?_;refine bA (ai rfl rfl (by simp[Value.oneCell']) sizeOf157 bc (by rfl) (by rfl)) ?_;refine gy 5 ?_;refine cx results83 rfl rfl isAgg157 sizeOf157 aL (rfl) (L1:=[cU A C]++R) ae ?_;exact⟨_,⟨rfl,.inr ⟨rcN,[.nilIface,i64 0,i64 0,i64 0,i64 0,i64 0,i64 0],rfl,jH none _ _ _ _ _ _,rfl⟩⟩,rfl⟩
 have h6:6≤rc.aH.length:=by omega
 have hk6:((rc.aH.length:Int)- 6).toNat=rc.aH.length- 6:=by omega
 refine gy 3 ?_;refine bV ?_;refine y (mi g9 rfl rfl underlying57 sizeOf2 (by omega) (by omega)) rfl ?_;rw[hk6]
 have hd:cE [aD Aj 2 (aW rc.aH)] (qB (aG Aj rc.aH.length) (rc.aH.length- 6) rc.aH.length 1) (rc.aH.drop (rc.aH.length- 6)).length (aW (rc.aH.drop (rc.aH.length- 6))):=by
   have h1:=g9.sl Hu (lo:=rc.aH.length- 6) (hi:=rc.aH.length) (s:=1) (by omega) (by omega) (by simp[aW]);have e1:(rc.aH.drop (rc.aH.length- 6)).length=rc.aH.length-(rc.aH.length- 6):=by simp
   rw[e1,rA];rw[List.take_of_length_le (by simp[aW]),Nat.mul_one]at h1;exact h1
 refine bV ?_;refine bK (sW (p:=qI) (ns:=rc.aH.drop (rc.aH.length- 6)) ?ap2 (by simp;omega) call140 (fun R n=>Um)) call139 ?_
 case ap2=>exact hd.mono ae
 refine gy 3 ?_;refine cc rfl (fun YP=>?_) (fun YP=>?_)
 ·refine gc 1 ?_
  have rcN:iq C.bl bs=none:=by
    have dO:uk bs=true:=by
      unfold uk;rw[sQ];simp only[Bool.or_eq_true,Bool.not_eq_true',decide_eq_false_iff_not,decide_eq_true_eq]
      (right;assumption)
    unfold iq;rw[if_pos dO]
  refine y (bU rfl) rfl ?_;refine bA (ai rfl rfl (by simp[Value.oneCell']) sizeOf157 bc (by rfl) (by rfl)) ?_;refine gy 5 ?_;refine cx results83 rfl rfl isAgg157 sizeOf157 aL (rfl) (L1:=[cU A C]++R) ae ?_;exact⟨_,⟨rfl,.inr ⟨rcN,[.nilIface,i64 0,i64 0,i64 0,i64 0,i64 0,i64 0],rfl,jH none _ _ _ _ _ _,rfl⟩⟩,rfl⟩
 refine gc 3 ?_;refine kO 9 (.op 0 0 (.op 1 1 (.op 2 0 (.op 3 1 (.op 4 0 (.op 5 0 (.fork 6 (.op 7 0 (.op 8 2 (.nil))) 8 (.op 6 2 (.op 7 0 (.nil)))))))))) (_) Tryz.mixed (by kernel_rfl) .refl ?_;obtain⟨n0,n1,n2,n3,n4,n5,vA⟩:=ahD h6
 have dO:uk bs=false:=by
   unfold uk;rw[sQ];simp only[Bool.or_eq_false_iff,Bool.not_eq_false',decide_eq_false_iff_not,decide_eq_true_eq];refine⟨⟨?_,?_⟩,?_⟩
   · assumption
   · omega
   assumption
 have jt:iq C.bl bs=(gq C.bl rc.kind rc.texts (rc.aH.take (rc.aH.length- 6))).map (fun w=>⟨w,⟨n0,n1,⟨n2,n3,n4,n5⟩⟩⟩):=by
   unfold iq;rw[if_neg (by rw[dO];simp),sQ];dsimp only;rw[vA];cases gq C.bl rc.kind rc.texts (rc.aH.take (rc.aH.length- 6))<;>rfl
 refine nz rfl (ba rfl) rfl ?_;refine nr rfl (ak rfl isAgg88 sizeOf88 aL (by rfl)) rfl ?_;refine nz rfl (aT 1 rfl underlying88 rfl sizeOf57) rfl ?_;refine nr rfl (bR rfl isAgg57 aL rfl) rfl ?_;refine nz rfl (ba rfl) rfl ?_;refine nz rfl (wQ g9 Hu rfl rfl underlying57 sizeOf2 (by omega) (by omega)) rfl ?_;rw[hk6]
 have zD:cE [aD Aj 2 (aW rc.aH)] (qB (aG Aj rc.aH.length) 0 (rc.aH.length- 6) 1) (rc.aH.take (rc.aH.length- 6)).length (aW (rc.aH.take (rc.aH.length- 6))):=by
   have h1:=g9.sl Hu (lo:=0) (hi:=rc.aH.length- 6) (s:=1) (by omega) (by omega) (by simp[aW]);have e1:(rc.aH.take (rc.aH.length- 6)).length=rc.aH.length- 6- 0:=by simp
   rw[e1,HP];rw[Nat.zero_mul,List.drop_zero,Nat.mul_one,Nat.sub_zero]at h1;exact h1
 refine mu ?_ ?_
 ·refine fy rfl (WJ (kind:=rc.kind) (ts:=rc.texts) (ns:=rc.aH.take (rc.aH.length- 6)) ?ane ?ap3 ?agQ ?agx) rfl call141 aZ rfl ?_
  case ane=>exact hb
  case ap3=>exact zD.mono ae
  case agQ=>exact Pd.mono ae
  case agx=>exact bN _ _
  rintro v L' ⟨rfl,rfl⟩;refine⟨ae,?_⟩;generalize gq C.bl rc.kind rc.texts (rc.aH.take (rc.aH.length- 6))=wo at*;refine nz rfl (jB (zs:=[.nilIface,i64 0,i64 0,i64 0,i64 0,i64 0,i64 0]) (vs:=[jV wo,i64 0,i64 0,i64 0,i64 0,i64 0,i64 0]) rfl underlying157 zeroValue157 rfl (.cons sizeOf20 (.cons sizeOf152 .nil)) ⟨⟨_,_,rfl,(by rw[mE];rfl),(by decide)⟩,trivial⟩ (by simp[bt,aX,mE])) rfl ?_;refine na rfl (aB zeroValue157 rfl) rfl ?_;rintro v L' ⟨b9,rfl,rfl⟩;refine⟨ae,?_⟩;refine ik ?_;refine bA (ai rfl rfl (jH _ _ _ _ _ _ _) sizeOf157 bc rfl rfl) ?_;refine gy 3 ?_;refine aS 14 (od [] 14 0) (_) Tryz.mixed (by kernel_rfl) .refl ?_;refine gh 3 ?_;refine hr rfl (aK g9 rfl rfl underlying57 sizeOf2 (by omega) (by omega)) rfl ?_;refine hr rfl (au (rc.aH.length- 6+0) g9 ae rfl isAgg2 (by rw[hk6,Nat.mul_one];rfl) (ints_at (x:=n0) (by rw[vA];rfl))) rfl ?_;refine gh 4 ?_;rw[wr (by omega) (by omega)];refine hr rfl (aK g9 rfl rfl underlying57 sizeOf2 (by omega) (by omega)) rfl ?_;refine hr rfl (au (rc.aH.length- 6+1) g9 ae rfl isAgg2 (by rw[Nat.mul_one];omega) (ints_at (x:=n1) (by rw[vA];rfl))) rfl ?_;refine hr rfl (bU rfl) rfl ?_;refine gh 3 ?_;refine bA (aP (vs':=[jV wo,i64 n0,i64 n1,i64 0,i64 0,i64 0,i64 0]) rfl rfl (by simp[Value.oneCell']) sizeOf84 bc rfl (by simp) rfl) ?_;refine gy 3 ?_;refine aS 8 (od [] 8 0) (_) Tryz.mixed (by kernel_rfl) .refl ?_;refine gh 2 ?_;refine hr rfl (iJ rfl underlying32 sizeOf2) rfl ?_;refine gh 4 ?_;rw[wr (by omega) (by omega)];refine hr rfl (mi g9 rfl rfl underlying57 sizeOf2 (by omega) (by omega)) rfl ?_;rw[show((rc.aH.length:Int)- 6+2).toNat=rc.aH.length- 6+2 by omega]
  have Ws:cE [aD Aj 2 (aW rc.aH)] (qB (aG Aj rc.aH.length) (rc.aH.length- 6+2) rc.aH.length 1) 4 [i64 n2,i64 n3,i64 n4,i64 n5]:=by
    have h1:=g9.sl Hu (lo:=rc.aH.length- 6+2) (hi:=rc.aH.length) (s:=1) (by omega) (by omega) (by simp[aW]);rw[List.take_of_length_le (by simp[aW]),Nat.mul_one,←rA,←List.drop_drop,vA,show rc.aH.length-(rc.aH.length- 6+2)=4 by omega]at h1;exact h1
  refine gh 1 ?_;refine ya (r8 (m:=4) (us:=[i64 n2,i64 n3,i64 n4,i64 n5]) (vs':=[jV wo,i64 n0,i64 n1,i64 n2,i64 n3,i64 n4,i64 n5]) rfl rfl underlying57 sizeOf2 ((Ws.mono ae).src rfl) (by simp[Value.oneCell']) (by decide) bc (by simp) rfl) rfl ?_;rintro v L' ⟨rfl,rfl⟩;refine gy 3 ?_;refine aS 5 (od [4] 5 0) ([sc b9 [jV wo,i64 n0,i64 n1,i64 n2,i64 n3,i64 n4,i64 n5] 157,cU A C]++R) Tryz.mixed (by kernel_rfl) ae ?_;refine hr rfl (ay (u:=[jV wo,i64 n0,i64 n1,i64 n2,i64 n3,i64 n4,i64 n5]) rfl isAgg157 sizeOf157 aL rfl rfl) rfl ?_;refine gh 2 ?_;refine hr rfl (DZ rfl underlying20 (v7 wo)) rfl ?_;rw[isW];refine Eo rfl (ai rfl rfl (jH _ _ _ _ _ _ _) sizeOf157 bc rfl rfl) ?_;rintro v L' ⟨rfl,rfl⟩;refine⟨ae,?_⟩;refine gh 5 ?_;refine cx results83 rfl rfl isAgg157 sizeOf157 aL (rfl) (L1:=[cU A C]++R) ae ?_;refine⟨_,⟨rfl,?_⟩,rfl⟩;cases wo with|none=>exact .inr ⟨jt,_,rfl,jH none n0 n1 n2 n3 n4 n5,rfl⟩|some w=>exact .inl ⟨_,jt,rfl⟩
 refine na rfl (aB zeroValue157 rfl) rfl ?_;rintro v L' ⟨b9,rfl,rfl⟩;refine⟨ae,?_⟩;refine fy rfl (WJ (kind:=rc.kind) (ts:=rc.texts) (ns:=rc.aH.take (rc.aH.length- 6)) ?ank ?ap8 ?agR ?agy) rfl call141 aZ rfl ?_
 case ank=>exact hb
 case ap8=>exact zD.mono ae
 case agR=>exact Pd.mono ae
 case agy=>exact bN _ _
 rintro v L' ⟨rfl,rfl⟩;refine⟨ae,?_⟩;generalize gq C.bl rc.kind rc.texts (rc.aH.take (rc.aH.length- 6))=wo at*;refine nz rfl (jB (zs:=[.nilIface,i64 0,i64 0,i64 0,i64 0,i64 0,i64 0]) (vs:=[jV wo,i64 0,i64 0,i64 0,i64 0,i64 0,i64 0]) rfl underlying157 zeroValue157 rfl (.cons sizeOf20 (.cons sizeOf152 .nil)) ⟨⟨_,_,rfl,(by rw[mE];rfl),(by decide)⟩,trivial⟩ (by simp[bt,aX,mE])) rfl ?_;refine ik ?_;refine bA (ai rfl rfl (jH _ _ _ _ _ _ _) sizeOf157 bc rfl rfl) ?_;refine gy 3 ?_;refine aS 14 (od [] 14 0) (_) Tryz.mixed (by kernel_rfl) .refl ?_;refine gh 3 ?_;refine hr rfl (aK g9 rfl rfl underlying57 sizeOf2 (by omega) (by omega)) rfl ?_;refine hr rfl (au (rc.aH.length- 6+0) g9 ae rfl isAgg2 (by rw[hk6,Nat.mul_one];rfl) (ints_at (x:=n0) (by rw[vA];rfl))) rfl ?_;refine gh 4 ?_;rw[wr (by omega) (by omega)];refine hr rfl (aK g9 rfl rfl underlying57 sizeOf2 (by omega) (by omega)) rfl ?_;refine hr rfl (au (rc.aH.length- 6+1) g9 ae rfl isAgg2 (by rw[Nat.mul_one];omega) (ints_at (x:=n1) (by rw[vA];rfl))) rfl ?_;refine hr rfl (bU rfl) rfl ?_;refine gh 3 ?_;refine bA (aP (vs':=[jV wo,i64 n0,i64 n1,i64 0,i64 0,i64 0,i64 0]) rfl rfl (by simp[Value.oneCell']) sizeOf84 bc rfl (by simp) rfl) ?_;refine gy 3 ?_;refine aS 8 (od [] 8 0) (_) Tryz.mixed (by kernel_rfl) .refl ?_;refine gh 2 ?_;refine hr rfl (iJ rfl underlying32 sizeOf2) rfl ?_;refine gh 4 ?_;rw[wr (by omega) (by omega)];refine hr rfl (mi g9 rfl rfl underlying57 sizeOf2 (by omega) (by omega)) rfl ?_;rw[show((rc.aH.length:Int)- 6+2).toNat=rc.aH.length- 6+2 by omega]
 have Ws:cE [aD Aj 2 (aW rc.aH)] (qB (aG Aj rc.aH.length) (rc.aH.length- 6+2) rc.aH.length 1) 4 [i64 n2,i64 n3,i64 n4,i64 n5]:=by
   have h1:=g9.sl Hu (lo:=rc.aH.length- 6+2) (hi:=rc.aH.length) (s:=1) (by omega) (by omega) (by simp[aW]);rw[List.take_of_length_le (by simp[aW]),Nat.mul_one,←rA,←List.drop_drop,vA,show rc.aH.length-(rc.aH.length- 6+2)=4 by omega]at h1;exact h1
 refine gh 1 ?_;refine ya (r8 (m:=4) (us:=[i64 n2,i64 n3,i64 n4,i64 n5]) (vs':=[jV wo,i64 n0,i64 n1,i64 n2,i64 n3,i64 n4,i64 n5]) rfl rfl underlying57 sizeOf2 ((Ws.mono ae).src rfl) (by simp[Value.oneCell']) (by decide) bc (by simp) rfl) rfl ?_;rintro v L' ⟨rfl,rfl⟩;refine gy 3 ?_;refine aS 5 (od [4] 5 0) ([sc b9 [jV wo,i64 n0,i64 n1,i64 n2,i64 n3,i64 n4,i64 n5] 157,cU A C]++R) Tryz.mixed (by kernel_rfl) ae ?_;refine hr rfl (ay (u:=[jV wo,i64 n0,i64 n1,i64 n2,i64 n3,i64 n4,i64 n5]) rfl isAgg157 sizeOf157 aL rfl rfl) rfl ?_;refine gh 2 ?_;refine hr rfl (DZ rfl underlying20 (v7 wo)) rfl ?_;rw[isW];refine Eo rfl (ai rfl rfl (jH _ _ _ _ _ _ _) sizeOf157 bc rfl rfl) ?_;rintro v L' ⟨rfl,rfl⟩;refine⟨ae,?_⟩;refine gh 5 ?_;refine cx results83 rfl rfl isAgg157 sizeOf157 aL (rfl) (L1:=[cU A C]++R) ae ?_;refine⟨_,⟨rfl,?_⟩,rfl⟩;cases wo with|none=>exact .inr ⟨jt,_,rfl,jH none n0 n1 n2 n3 n4 n5,rfl⟩|some w=>exact .inl ⟨_,jt,rfl⟩
theorem iy(x:bd): ∀u∈[i64 x.bE,i64 x.ve,i64 x.vs,str x.data,.bool x.bZ,i64 x.cl,i64 x.n],u.oneCell'=true:=by
 intro u hu;simp only[List.mem_cons,List.not_mem_nil,or_false]at hu;rcases hu with rfl|rfl|rfl|rfl|rfl|rfl|rfl<;>rfl
theorem oa(o:Option bd):(o.map ib).getD (ib .zero)=ib (o.getD .zero):=by cases o<;>rfl
theorem zm(w:cu):aY (cu.val w)=[cu.val w]:=by cases w<;>rfl
def jO(A:uc)(q:Q3)(sl:Sv)(C:aQ):ax:=fX A.lp A.lc q sl C.l
theorem HV [Env]{R:List ax}{A:uc}{C:aQ}{b:Int}:bC Tryz.prog 153 [ptr A.p,i64 b] [cU A C,ga A C] R (Is (.tuple #[ib ((bM C.en b).getD .zero),.bool (bM C.en b).isSome]) [cU A C,ga A C]):=by
 refine ag func153 ntmps153 rfl rfl ?_;unfold cU qM ga;refine gc 1 ?_;refine ya (aB zeroValue127 rfl) rfl ?_;rintro v L' ⟨b4,rfl,rfl⟩;refine gy 9 ?_;refine y (ic (z:=ib .zero) (kv:=oE ib C.en) rfl rfl underlying149 underlying3 zeroValue127 aL) rfl ?_;rw[mg,oa,Option.isSome_map];refine gy 3 ?_;refine ya (aB zeroValue127 rfl) rfl ?_;rintro v L' ⟨b6,rfl,rfl⟩;refine bA (ai rfl rfl (iy _) sizeOf127 bc rfl rfl) ?_;refine gy 4 ?_;refine y (ay (u:=[i64 ((bM C.en b).getD .zero).bE,i64 ((bM C.en b).getD .zero).ve,i64 ((bM C.en b).getD .zero).vs,str ((bM C.en b).getD .zero).data,.bool ((bM C.en b).getD .zero).bZ,i64 ((bM C.en b).getD .zero).cl,i64 ((bM C.en b).getD .zero).n]) rfl isAgg127 sizeOf127 aL rfl rfl) rfl ?_;refine gy 1 ?_;refine bA (ai rfl rfl (iy _) sizeOf127 bc rfl rfl) ?_;refine gy 4 ?_;refine cx results153 rfl rfl isAgg127 sizeOf127 aL (rfl) (L1:=[sc A.p _ 154,so A.me _]++R) ae ?_;exact⟨_,⟨by rfl,rfl⟩,by rfl⟩
theorem ET [Env]{R:List ax}{A:uc}{C:aQ}:bC Tryz.prog 174 [ptr A.p] [cU A C] R (Is (.agg #[i64 C.k.e,i64 C.k.s]) [cU A C]):=by
 refine ag func174 ntmps174 rfl rfl ?_;unfold cU qM;refine gc 1 ?_;refine ya (aB zeroValue84 rfl) rfl ?_;rintro v L' ⟨b2,rfl,rfl⟩;refine gy 7 ?_;refine y (ay (u:=[i64 C.k.e,i64 C.k.s]) rfl isAgg84 sizeOf84 aL rfl rfl) rfl ?_;refine bA (ai rfl rfl (by simp[Value.oneCell']) sizeOf84 bc (by rfl) (by rfl)) ?_;refine gy 3 ?_;refine yk results174 rfl isAgg84 sizeOf84 aL (rfl) (L1:=[sc A.p _ 154]++R) ae ?_;exact⟨_,⟨by rfl,rfl⟩,by rfl⟩
theorem ahg [Env]{R:List ax}{A:uc}{C:aQ}(hn:C.n≤512):bC Tryz.prog 204 [ptr A.p] [cU A C] R (Is (i64 ((C.n:Int)- 6)) [cU A C]):=by
 refine ag func204 ntmps204 rfl rfl ?_;unfold cU qM;refine gc 10 ?_;rw[wr (by omega) (by omega)];refine gy 4 ?_;refine aj results204 rfl (L1:=[sc A.p _ 154]++R) ae ?_;exact⟨_,⟨by rfl,rfl⟩,by rfl⟩
theorem sX [Env]{R:List ax}{A:uc}{C:aQ}{i:Int}:bC Tryz.prog 98 [ptr A.p,i64 i] [cU A C] R (Is (i64 (fH C.k i)) [cU A C]):=by
 refine ag func98 ntmps98 rfl rfl ?_;unfold cU qM;refine gc 9 ?_;refine cv 7 rfl (fun zN=>?_) (fun zN=>?_)
 ·refine gy 12 ?_;refine aj results98 rfl (L1:=[sc A.p _ 154]++R) ae ?_;exact⟨_,⟨by(unfold fH;rw[if_pos (by omega)]),rfl⟩,by rfl⟩
 refine gy 5 ?_;refine cc rfl (fun MV=>?_) (fun MV=>?_)
 ·refine gc 6 ?_;refine aj results98 rfl (L1:=[sc A.p _ 154]++R) ae ?_;exact⟨_,⟨by(unfold fH;rw[if_pos (by omega)]),rfl⟩,by rfl⟩
 refine gc 3 ?_;have hi4:i=0∨i=1∨i=2∨i=3:=by omega
 refine gy 5 ?_;refine y (dR rfl rfl underlying32 sizeOf2 (by omega) (by omega)) rfl ?_;refine y (bR (v:=i64 (fH C.k i)) rfl isAgg2 aL (by rcases hi4 with rfl|rfl|rfl|rfl<;>rfl)) rfl ?_;refine gy 4 ?_;refine aj results98 rfl (L1:=[sc A.p _ 154]++R) ae ?_;exact⟨_,⟨by rfl,rfl⟩,by rfl⟩
theorem HT [Env]{R:List ax}{A:uc}{C:aQ}(hb:C.bl≤32):bC Tryz.prog 59 [ptr A.p] [cU A C,ga A C] R (zx 127 C.all.length 7 (dZ C.all) [cU A C,ga A C]):=by
 refine ag func59 ntmps59 rfl rfl ?_;unfold cU qM ga;refine gc 8 ?_;refine bq ?_;intro K3 pD;refine gc 8 ?_
 have fQ: ∀x:Nat × Sv,((bW x.2 (fL C x.1).length 7 (dZ (fL C x.1))∧x.1≤C.bl)∧(x.1=C.bl))→Sk 30 K3 ([(11,i64 x.1),(10,i64 C.bl),(3,aG x.2 (fL C x.1).length),(0,ptr A.p)]) ([aD x.2 127 (dZ (fL C x.1)),sc A.p (qM A C) 154,so A.me (.map (cH (oE ib C.en)) C.ce)]++R):=by
  rintro⟨k,s⟩ ⟨bJ,eK⟩;refine pD _ _ ?_;obtain⟨ok,hk⟩:=bJ;dsimp only at ok hk ⊢;unfold qM;have zT:=mV C k;have iP:=hX C k;dsimp only at eK;subst eK;refine gc 6 ?_;refine aj results59 rfl (L1:=[aD _ _ _,sc A.p _ 154,so A.me _]++R) ae ?_;exact⟨_,⟨s,rfl,ok,rfl⟩,rfl⟩
 clear pD;refine gc 1 ?_;refine bO (A:=Nat × Sv) (fun x=>[(11,i64 x.1),(10,i64 C.bl),(3,aG x.2 (fL C x.1).length),(0,ptr A.p)]) (fun x=>[aD x.2 127 (dZ (fL C x.1)),sc A.p (qM A C) 154,so A.me (.map (cH (oE ib C.en)) C.ce)]++R) (fun x=>bW x.2 (fL C x.1).length 7 (dZ (fL C x.1))∧x.1≤C.bl) (fun x=>C.bl-x.1) ((0,none)) ?_ aq ae ?_
 · exact⟨⟨rfl,rfl⟩,Nat.zero_le _⟩
 rintro⟨k,s⟩ bJ kt cI;have cC:=bJ;obtain⟨ok,hk⟩:=bJ;dsimp only at ok hk ⊢;unfold qM;have zT:=mV C k;have iP:=hX C k;refine gc 5 ?_;refine cc rfl (fun Hl=>?_) (fun Hl=>?_)
 ·refine gc 15 ?_;refine y (ic (z:=ib .zero) (kv:=oE ib C.en) rfl rfl underlying149 underlying3 zeroValue127 aL) rfl ?_;rw[mg,oa,Option.isSome_map];rcases hg:bM C.en (k:Nat)with _|x0
  ·refine gy 3 ?_;refine ya (aB zeroValue127 rfl) rfl ?_;rintro v L' ⟨b5,rfl,rfl⟩;refine bA (ai rfl rfl (iy _) sizeOf127 bc rfl rfl) ?_;refine gy 4 ?_;rw[hg]at iP;dsimp only at iP;refine gy 9 ?_;rw[show IntKind.i64.wrap ((k:Int)+1)=((k+1:Nat):Int)by rw[wr (by omega) (by omega)];rfl];refine gy 3 ?_
   (rw[←iP]at ok ⊢;exact cI (k+1,s) ⟨ok,by dsimp only;omega⟩ (by dsimp only;omega) _ _ aq ae)
  refine gy 3 ?_;refine ya (aB zeroValue127 rfl) rfl ?_;rintro v L' ⟨b5,rfl,rfl⟩;refine bA (ai rfl rfl (iy _) sizeOf127 bc rfl rfl) ?_;refine gy 4 ?_;rw[hg]at iP;dsimp only at iP;refine gy 6 ?_;refine y (ay (u:=[i64 x0.bE,i64 x0.ve,i64 x0.vs,str x0.data,.bool x0.bZ,i64 x0.cl,i64 x0.n]) rfl isAgg127 sizeOf127 aL rfl rfl) rfl ?_;refine ya (aE rfl underlying61 sizeOf127 zeroValue127 rfl rfl rfl rfl ⟨⟨_,_,rfl,(by rfl),(by decide)⟩,trivial⟩ (by dsimp[bt,aX,aY,bS]<;>rfl)) rfl ?_;rintro v L' ⟨b26,rfl,rfl⟩;refine ya (aO (s:=s) (xs:=dZ (fL C k)) (m:=(fL C k).length) (k:=1) (us:=x0.cells) (size:=7) rfl rfl (by repeat first|exact .z|apply Pk.s) underlying61 underlying61 (by intro q hq;cases hq) typeInfo127 rfl rfl rfl ?arl ?alV ?akd ?aed) rfl ?_
  case arl=>exact ok
  case alV=>exact cz aL rfl rfl
  case akd=>exact iy x0
  case aed=>show(_+_)*65≤_;omega
  rintro v L' ⟨s27,rfl,ajg,rfl⟩;rw[←G0,show(fL C k).length+1=(fL C k++[x0]).length by simp,←iP]at ajg ⊢;refine gy 6 ?_;rw[show IntKind.i64.wrap ((k:Int)+1)=((k+1:Nat):Int)by rw[wr (by omega) (by omega)];rfl];refine gy 3 ?_
  (exact cI (k+1,s27) ⟨ajg,by dsimp only;omega⟩ (by dsimp only;omega) _ _ aq ae)
 refine gc 5 ?_;exact aV aq ae (fQ ⟨k,s⟩ ⟨cC,by dsimp only;omega⟩)
theorem Ul [Env]{R:List ax}{A:uc}{q:Q3}{sl:Sv}{C:aQ}(hC:C.UE)(hn:(C.pu.map (·.2.1)).Nodup):
   bC Tryz.prog 225 [ptr A.p] [cU A C,ga A C,iX A C,jO A q sl C] R (Is (.tuple #[ib (C.j9.getD .zero),.bool C.j9.isSome]) [cU A C,ga A C,iX A C,jO A q sl C]):=by
 refine ag func225 ntmps225 rfl rfl ?_;unfold cU qM ga iX jO;refine gc 1 ?_;refine ya (aB zeroValue127 rfl) rfl ?_;rintro v L' ⟨b2,rfl,rfl⟩;refine gy 9 ?_;refine ya (Dw rfl underlying150 aL) rfl ?_;rintro v L' ⟨i10,rfl,rfl⟩;refine gy 3 ?_;refine bO (A:=List Nat) (fun x=>[(10,ptr i10),(2,ptr b2),(0,ptr A.p)]) (fun x=>[so i10 (.mapIter (some A.mp) C.cp x.toArray C.cp),sc b2 [i64 0,i64 0,i64 0,str [],.bool false,i64 0,i64 0] 127,sc A.p (qM A C) 154,so A.me (.map (cH (oE ib C.en)) C.ce),so A.mp (.map (cH (oE Qu C.pu)) C.cp),fX A.lp A.lc q sl C.l]++R) (fun x=> ∀y∈C.pu,y.2.2∈x→ ¬y.2.1=C.l.head) (fun x=>(left (oE Qu C.pu) x).length) ([]) ?_ aq ae ?_
 · exact fun _ _ h=>by cases h
 rintro seen bJ kt cI;have hse:=bJ;unfold qM;refine gc 1 ?_;refine ya (Ja rfl aL aL ?st8 (fun _=>bc)) rfl ?_
 case st8=>exact u6 _ hC.p
 rintro v L' (⟨agD,rfl,rfl⟩|⟨x11,ZT,rfl,rfl⟩)
 ·have O3:=E5 hse agD;refine gy 11 ?_;refine y (bU rfl) rfl ?_;refine bA (ai rfl rfl (by simp[Value.oneCell']) sizeOf127 bc (by rfl) (by rfl)) ?_;refine gy 4 ?_;refine cx results225 rfl rfl isAgg127 sizeOf127 aL (rfl) (L1:=[sc A.p _ 154,so A.me _,so A.mp _,fX _ _ _ _ _]++R) ae ?_;exact⟨_,⟨by(rw[O3];rfl),rfl⟩,by rfl⟩
 obtain⟨k11,v11,b11,rfl,agk,aui⟩:=Py ZT;refine gy 9 ?_;refine y (DV rfl aL aL ?as8 ?ahR) rfl ?_
 case as8=>exact u6 _ hC.p
 case ahR=>exact yl ZT
 refine gy 12 ?_;refine bK (Nz) call85 ?_;refine y (uC (p:=v11) (q:=C.l.head) rfl rfl) rfl ?_;refine gy 2 ?_;refine cc rfl (fun Eg=>?_) (fun Eg=>?_)
 ·have agw:=vK hn agk Eg;refine gc 6 ?_;refine y (qb (z:=ib .zero) (kv:=oE ib C.en) rfl rfl underlying149 underlying3 zeroValue127 aL) rfl ?_;rw[mg,oa];refine bA (ai rfl rfl (iy _) sizeOf127 bc rfl rfl) ?_;refine gy 8 ?_;refine cx results225 rfl rfl isAgg127 sizeOf127 aL (rfl) (L1:=[sc A.p _ 154,so A.me _,so A.mp _,fX _ _ _ _ _]++R) ae ?_;exact⟨_,⟨by(rw[agw];rfl),rfl⟩,by rfl⟩
 refine gc 3 ?_
 exact cI (seen++[b11]) (fun y hy hb=>by
   rcases List.mem_append.1 hb with hb|hb
   · exact hse y hy hb
   simp only[List.mem_singleton]at hb;have e:=Vf hC.p hy agk hb;subst e;assumption) (JQ ZT) _ _ aq ae
def KC(A:uc)(q:Q3)(C:aQ)(r:Int × aQ × az)(u:Value)(L':List ax):Prop:=
 ∃wZ,u=i64 r.1∧g6 wZ r.2.1.l∧L'=[cU A r.2.1,ga A r.2.1,iX A r.2.1,jO A q wZ r.2.1,dev q r.2.2]
theorem Z4 [Env]{R:List ax}{A:uc}{q:Q3}{sl:Sv}{C:aQ}{D:az}{w:cu}{k:bT}(hC:C.ok D)(hs:g6 sl C.l)(hw:bI.ok C.bl ⟨w,k⟩):
   bC Tryz.prog 206 [ptr A.p,cu.val w,WL k] [cU A C,ga A C,iX A C,jO A q sl C,dev q D] R (KC A q C (C.add D ⟨w,k⟩)):=by
 obtain⟨Cc,AO,Zn,hl4,hl5,Zo,hl7⟩:=hC.lim;have sP:=hC.bl;refine ag func206 ntmps206 rfl rfl ?_;unfold cU qM jO;refine gc 1 ?_;refine ya (a7 rfl rfl) rfl ?_;rintro v L' ⟨b5,rfl,rfl⟩;refine gy 5 ?_;refine y (ak rfl isAgg152 sizeOf152 aL (by rfl)) rfl ?_;refine y (jB (zs:=[.nilIface,i64 0,i64 0,i64 0,i64 0,i64 0,i64 0]) (vs:=mf ⟨w,k⟩) rfl underlying157 zeroValue157 rfl (.cons sizeOf20 (.cons sizeOf152 .nil)) ⟨⟨_,_,rfl,(by rw[zm];rfl),(by decide)⟩,⟨_,_,rfl,rfl,(by decide)⟩,trivial⟩ (by simp only[bt,aX,zm];rfl)) rfl ?_;refine ya (aB zeroValue157 rfl) rfl ?_;rintro v L' ⟨b7,rfl,rfl⟩;refine bA (ai rfl rfl (Fy _) sizeOf157 bc rfl rfl) ?_;refine gy 7 ?_;refine bK (adU ?ag4 ?aqj ?aqr ?aqm) call189 ?_
 case ag4=>exact hs
 case aqj=>omega
 case aqr=>omega
 case aqm=>omega
 refine gy 4 ?_;refine aS 6 (od [5] 6 0) ([sc b7 (mf ⟨w,k⟩) 157,sc A.p _ 154]++R) Tryz.mixed (by kernel_rfl) ae ?_;refine gh 4 ?_;refine hr rfl (ay (u:=mf ⟨w,k⟩) rfl isAgg157 sizeOf157 aL rfl rfl) rfl ?_;refine bg rfl (Z5 (bl:=C.bl) ?aem ?anf) rfl call222 aZ rfl ?_
 case aem=>exact hw
 case anf=>omega
 rintro v L' ⟨rfl,rfl⟩;refine⟨ae,?_⟩;refine gh 1 ?_;refine aA (S2 ?ahM ?ag5) rfl call221 aZ rfl ?_
 case ahM=>exact hC.l
 case ag5=>exact hs
 rintro v L' ⟨Vu,rfl,yI,rfl⟩;obtain⟨a,ha3⟩: ∃a,C.l.append D (bL (bI.rc ⟨w,k⟩))=a:=⟨_,rfl⟩;have zS:C.add D ⟨w,k⟩=(a.1,if a.1=0 then aQ.ec {C with l:=a.2.1} ⟨w,k⟩ C.l.tail else{C with l:=a.2.1},a.2.2):=by unfold aQ.add;rw[ha3]
 rw[ha3]at yI ⊢;refine gy 9 ?_;refine cc rfl (fun Lf=>?_) (fun Lf=>?_)
 ·rw[if_pos Lf]at zS;obtain⟨C1,YZ⟩: ∃C1,C1=aQ.ec {C with l:=a.2.1} ⟨w,k⟩ C.l.tail:=⟨_,rfl⟩;have hl:C1.l=a.2.1:=by rw[YZ];exact(aQ.pj _ _ _).1
  refine gc 2 ?_;refine y (ay (u:=mf ⟨w,k⟩) rfl isAgg157 sizeOf157 aL rfl rfl) rfl ?_;refine gy 1 ?_;refine bK (WH (C:={C with l:=a.2.1}) (r:=⟨w,k⟩) ?ahT) call84 ?_
  case ahT=>exact⟨hC.m.e,hC.m.p⟩
  rw[←YZ];refine gy 8 ?_;refine aj results206 rfl (L1:=[cU A C1,ga A C1,iX A C1,fX A.lp A.lc q Vu a.2.1,dev q a.2.2]++R) ae ?_;rw[zS,←YZ];exact⟨_,⟨Vu,rfl,by dsimp only;rw[hl];exact yI,by unfold jO;dsimp only;rw[hl]⟩,rfl⟩
 rw[if_neg Lf]at zS;refine gc 8 ?_;refine aj results206 rfl (L1:=[cU A {C with l:=a.2.1},ga A {C with l:=a.2.1},iX A {C with l:=a.2.1},fX A.lp A.lc q Vu a.2.1,dev q a.2.2]++R) ae ?_;rw[zS];exact⟨_,⟨Vu,rfl,yI,rfl⟩,rfl⟩
theorem ahd [Env]{R:List ax}{A:uc}{q:Q3}{sl0:Sv}{C0:aQ}{D0:az}(hC0:C0.ok D0)(O9:g6 sl0 C0.l):
   bC Tryz.prog 213 [ptr A.p] [cU A C0,ga A C0,iX A C0,jO A q sl0 C0,dev q D0] R (KC A q C0 (C0.make D0)):=by
 have HD:=hC0.lim;refine ag func213 ntmps213 rfl rfl ?_;unfold jO;refine gc 4 ?_;refine bq ?_;intro K2 gM;refine gc 4 ?_
 have fQ: ∀x:Nat × aQ × az × Sv,((x.2.1.ok x.2.2.1∧g6 x.2.2.2 x.2.1.l∧x.1≤C0.n∧aQ.oS (C0.n-x.1) x.2.1 x.2.2.1=C0.make D0∧x.2.1.n=C0.n)∧(C0.make D0=(if x.2.1.free<4 then 12 else 0,x.2.1,x.2.2.1)))→Sk 64 K2 ([(3,i64 x.1),(0,ptr A.p)]) ([cU A x.2.1,ga A x.2.1,iX A x.2.1,fX A.lp A.lc q x.2.2.2 x.2.1.l,dev q x.2.2.1]++R):=by
  rintro⟨i,C,D,sl⟩ ⟨bJ,eK⟩;refine gM _ _ ?_;obtain⟨hC,hs,hi,M3,hCn⟩:=bJ;dsimp only at hC hs hi M3 hCn ⊢;obtain⟨Cc,AO,Zn,hl4,hl5,Zo,hl7⟩:=hC.lim;have hht:C.l.head≤C.l.tail:=(by unfold aU.tail;omega);unfold cU qM;dsimp only at eK;refine gc 6 ?_;refine bK (V6 ?aqd ?ln7 ?ll7) call224 ?_
  case aqd=>exact hs
  case ln7=>omega
  case ll7=>omega
  refine gy 3 ?_;refine cc rfl (fun h9=>?_) (fun h9=>?_)
  ·rw[if_pos (by unfold aQ.free;omega)]at eK;refine gc 6 ?_;refine aj results213 rfl (L1:=[cU A C,ga A C,iX A C,fX A.lp A.lc q sl C.l,dev q D]++R) ae ?_;rw[eK];exact⟨_,⟨sl,rfl,hs,rfl⟩,rfl⟩
  rw[if_neg (by unfold aQ.free;omega)]at eK;refine gc 7 ?_;refine aj results213 rfl (L1:=[cU A C,ga A C,iX A C,fX A.lp A.lc q sl C.l,dev q D]++R) ae ?_;rw[eK];exact⟨_,⟨sl,rfl,hs,rfl⟩,rfl⟩
 clear gM;refine gc 1 ?_;refine bO (A:=Nat × aQ × az × Sv) (fun x=>[(3,i64 x.1),(0,ptr A.p)]) (fun x=>[cU A x.2.1,ga A x.2.1,iX A x.2.1,fX A.lp A.lc q x.2.2.2 x.2.1.l,dev q x.2.2.1]++R) (fun x=>x.2.1.ok x.2.2.1∧g6 x.2.2.2 x.2.1.l∧x.1≤C0.n∧aQ.oS (C0.n-x.1) x.2.1 x.2.2.1=C0.make D0∧x.2.1.n=C0.n) (fun x=>C0.n-x.1) ((0,C0,D0,sl0)) ?_ aq ae ?_
 · exact⟨hC0,O9,Nat.zero_le _,rfl,rfl⟩
 rintro⟨i,C,D,sl⟩ bJ kt cI;have cC:=bJ;obtain⟨hC,hs,hi,M3,hCn⟩:=bJ;dsimp only at hC hs hi M3 hCn ⊢;obtain⟨Cc,AO,Zn,hl4,hl5,Zo,hl7⟩:=hC.lim;have hht:C.l.head≤C.l.tail:=(by unfold aU.tail;omega);unfold cU qM;refine gc 9 ?_;refine cv 15 rfl (fun Sr=>?_) (fun Sr=>?_)
 ·refine gy 4 ?_;refine bV ?_;refine bK (V6 ?ag2 ?aqn ?aqk) call224 ?_
  case ag2=>exact hs
  case aqn=>omega
  case aqk=>omega
  refine gy 4 ?_;refine cc rfl (fun Gb=>?_) (fun Gb=>?_)
  ·have lR:C0.make D0=aQ.oS ((C0.n-(i+1))+1) C D:=by rw[←M3,show C0.n-i=(C0.n-(i+1))+1 by omega]
   unfold aQ.oS at lR;rw[if_neg (by unfold aQ.free;omega)]at lR;refine gc 9 ?_;refine bK (Nz) call85 ?_;refine gy 3 ?_;refine bq ?_;intro K12 xQ
   have vx: ∀x:aQ × az × Sv,(C.again D=(0,x.1,x.2.1)∧x.1.ok x.2.1∧g6 x.2.2 x.1.l)→Sk 64 K12 ([(4,i64 C.l.head),(3,i64 i),(0,ptr A.p)]) ([cU A x.1,ga A x.1,iX A x.1,fX A.lp A.lc q x.2.2 x.1.l,dev q x.2.1]++R):=by
    rintro⟨C1,D1,sl1⟩ Ei;refine xQ _ _ ?_;obtain⟨Wn,YZ,fg⟩:=Ei;dsimp only at Wn YZ fg ⊢;unfold cU qM;rw[Wn,if_neg (by simp)]at lR;dsimp only at lR;have af1:=aQ.o5 (C:=C) (D:=D);rw[Wn]at af1;dsimp only at af1;refine gc 7 ?_;rw[wr (by omega) (by omega)];refine aA (adV (L:=C1.l) ?ahL ?Po) rfl call226 aZ rfl ?_
    case ahL=>exact YZ.l
    case Po=>exact fg
    rintro v L' ⟨acf,rfl,Vc,rfl⟩;have Zz:=YZ.cut (C.l.head+1);have hct:C1.cut D1 (C.l.head+1)=((C1.l.trim D1 (C.l.head+1)).1,{C1 with l:=(C1.l.trim D1 (C.l.head+1)).2.1},(C1.l.trim D1 (C.l.head+1)).2.2):=rfl;generalize C1.l.trim D1 (C.l.head+1)=tr at*;rw[hct]at Zz lR;dsimp only at Zz lR;refine gy 8 ?_;refine cc rfl (fun zz=>?_) (fun zz=>?_)
    ·rw[if_pos zz]at lR;refine gc 11 ?_;refine aj results213 rfl (L1:=[cU A {C1 with l:=tr.2.1},ga A {C1 with l:=tr.2.1},iX A {C1 with l:=tr.2.1},fX A.lp A.lc q acf tr.2.1,dev q tr.2.2]++R) ae ?_;rw[lR];exact⟨_,⟨acf,rfl,Vc,rfl⟩,rfl⟩
    rw[if_neg (fun hz=>hz zz)]at lR;refine gc 6 ?_;rw[show IntKind.i64.wrap ((i:Int)+1)=((i+1:Nat):Int)by rw[wr (by omega) (by omega)];rfl];refine gy 3 ?_;exact cI ((i+1,{C1 with l:=tr.2.1},tr.2.2,acf)) (⟨Zz,Vc,by dsimp only;omega,lR.symm,by dsimp only;omega⟩) (by dsimp only;omega) _ _ aq ae
   clear xQ;refine gc 2 ?_;refine bK (Ul (C:=C) (sl:=sl) (q:=q) ?ahS ?ar3) call225 ?_
   case ahS=>exact hC.m
   case ar3=>exact hC.pn
   rcases oJ:C.j9 with _|x0
   ·refine gy 3 ?_;refine ya (aB zeroValue127 rfl) rfl ?_;rintro v L' ⟨b5,rfl,rfl⟩;refine bA (ai rfl rfl (iy _) sizeOf127 bc rfl rfl) ?_;refine gy 10 ?_
    (exact aV aq ae (vx (C,D,sl) ⟨by unfold aQ.again;rw[oJ],hC,hs⟩))
   refine gy 3 ?_;refine ya (aB zeroValue127 rfl) rfl ?_;rintro v L' ⟨b5,rfl,rfl⟩;refine bA (ai rfl rfl (iy _) sizeOf127 bc rfl rfl) ?_;refine gy 9 ?_;refine aS 8 (od [] 8 0) (_) Tryz.mixed (by kernel_rfl) .refl ?_;refine gh 1 ?_;refine hr rfl (ay (u:=[i64 x0.bE,i64 x0.ve,i64 x0.vs,str x0.data,.bool x0.bZ,i64 x0.cl,i64 x0.n]) rfl isAgg127 sizeOf127 aL rfl rfl) rfl ?_;refine hr rfl (bU rfl) rfl ?_;refine hr rfl (dW rfl (by kernel_rfl)) rfl ?_;refine gh 3 ?_;refine hr rfl (ay (u:=[i64 C.k.e,i64 C.k.s,i64 C.k.t.a,i64 C.k.t.b,i64 C.k.t.c,i64 C.k.t.d]) rfl isAgg152 sizeOf152 aL rfl rfl) rfl ?_;refine gh 1 ?_;refine aA (Z4 (C:=C) (sl:=sl) (q:=q) (D:=D) (w:= .put x0) (k:=C.k) ?aeH ?ag8 ?akY) rfl call206 aZ rfl ?_
   case aeH=>exact hC
   case ag8=>exact hs
   case akY=>exact⟨(hC.need oJ).1,hC.k⟩
   rintro v L' ⟨IQ,rfl,Mf,rfl⟩;have Wn:C.again D=C.add D ⟨.put x0,C.k⟩:=by unfold aQ.again;rw[oJ]
   have T7:=hC.again;rw[Wn]at T7;obtain⟨a,ha7⟩: ∃a,C.add D ⟨.put x0,C.k⟩=a:=⟨_,rfl⟩;rw[ha7]at Wn Mf T7 ⊢;obtain⟨e7,C1,D1⟩:=a;dsimp only at Mf T7 ⊢;unfold jO;refine gy 8 ?_;refine cc rfl (fun h78=>?_) (fun h78=>?_)
   ·rw[Wn,if_pos h78]at lR;refine gc 12 ?_;refine aj results213 rfl (L1:=[cU A C1,ga A C1,iX A C1,fX A.lp A.lc q IQ C1.l,dev q D1]++R) ae ?_;rw[lR];exact⟨_,⟨IQ,rfl,Mf,rfl⟩,rfl⟩
   have aoU:C.again D=(0,C1,D1)∧C1.ok D1∧g6 IQ C1.l:=⟨by rw[Wn,h78],T7,Mf⟩;refine gc 2 ?_;exact aV aq ae (vx (C1,D1,IQ) aoU)
  have ZD:C0.make D0=(if C.free<4 then 12 else 0,C,D):=by rw[←M3,show C0.n-i=(C0.n-i- 1)+1 by omega];unfold aQ.oS;rw[if_pos (by unfold aQ.free;omega),if_neg (by unfold aQ.free;omega)]
  refine gc 5 ?_;exact aV aq ae (fQ ⟨i,C,D,sl⟩ ⟨cC,ZD⟩)
 have ZD:C0.make D0=(if C.free<4 then 12 else 0,C,D):=by rw[←M3,show C0.n-i=0 by omega];rfl
 refine gy 15 ?_;exact aV aq ae (fQ ⟨i,C,D,sl⟩ ⟨cC,ZD⟩)
theorem yg [Env]{R:List ax}{A:uc}{q:Q3}{sl:Sv}{C:aQ}{D:az}{w:cu}{k:bT}(hC:C.ok D)(hs:g6 sl C.l)(hw:bI.ok C.bl ⟨w,k⟩):
   bC Tryz.prog 182 [ptr A.p,cu.val w,WL k] [cU A C,ga A C,iX A C,jO A q sl C,dev q D] R (KC A q C (C.eH D ⟨w,k⟩)):=by
 have B8:C.eH D ⟨w,k⟩=if(C.make D).1≠0 then C.make D else(C.make D).2.1.add (C.make D).2.2 ⟨w,k⟩:=rfl
 have hmo:(C.make D).2.1.ok (C.make D).2.2:=aQ.ok.oS C.n hC;have hmb:(C.make D).2.1.bl=C.bl:=(aQ.uN _ _ _).1;refine ag func182 ntmps182 rfl rfl ?_;refine gc 1 ?_;refine ya (a7 rfl rfl) rfl ?_;rintro v L' ⟨b5,rfl,rfl⟩;refine gy 6 ?_;refine aA (ahd (C0:=C) (sl0:=sl) (q:=q) (D0:=D) ?anD ?aqc) rfl call213 aZ rfl ?_
 case anD=>exact hC
 case aqc=>exact hs
 rintro v L' ⟨sl9,rfl,QJ,rfl⟩;generalize C.make D=m at*;obtain⟨em,C1,D1⟩:=m;dsimp only at*;refine gy 8 ?_;refine cc rfl (fun h8=>?_) (fun h8=>?_)
 ·rw[if_pos h8]at B8;refine gc 7 ?_;refine aj results182 rfl (L1:=[cU A C1,ga A C1,iX A C1,jO A q sl9 C1,dev q D1]++R) ae ?_;rw[B8];exact⟨_,⟨sl9,rfl,QJ,rfl⟩,rfl⟩
 rw[if_neg (fun hz=>hz h8)]at B8;refine gc 5 ?_;refine y (ay (u:=[i64 k.e,i64 k.s,i64 k.t.a,i64 k.t.b,i64 k.t.c,i64 k.t.d]) rfl isAgg152 sizeOf152 aL rfl rfl) rfl ?_;refine aA (Z4 (C:=C1) (sl:=sl9) (q:=q) (D:=D1) (w:=w) (k:=k) ?aey ?ag0 ?akW) rfl call206 aZ rfl ?_
 case aey=>exact hmo
 case ag0=>exact QJ
 case akW=>rw[hmb];exact hw
 rintro v L' ⟨ak5,rfl,Ir,rfl⟩;refine gy 4 ?_;refine aj results182 rfl (L1:=[cU A (C1.add D1 ⟨w,k⟩).2.1,ga A (C1.add D1 ⟨w,k⟩).2.1,iX A (C1.add D1 ⟨w,k⟩).2.1,jO A q ak5 (C1.add D1 ⟨w,k⟩).2.1,dev q (C1.add D1 ⟨w,k⟩).2.2]++R) ae ?_;rw[B8];exact⟨_,⟨ak5,rfl,Ir,rfl⟩,rfl⟩
theorem Z6 [Env]{R:List ax}{A:uc}{C:aQ}(hb:C.bl≤32):
   bC Tryz.prog 205 [ptr A.p] [cU A C,ga A C] R (Is (.tuple #[i64 C.spare.1,.bool C.spare.2]) [cU A C,ga A C]):=by
 have zT:C.all.length≤C.bl:=mV C C.bl;refine ag func205 ntmps205 rfl rfl ?_;refine gc 10 ?_;refine bq ?_;intro K3 pD;refine gc 2 ?_;refine aA (HT ?anb) rfl call59 aZ rfl ?_
 case anb=>exact hb
 rintro v L' ⟨s9,rfl,QJ,rfl⟩;refine y (bH rfl underlying61 (by assumption)) rfl ?_;refine gy 3 ?_
 have fQ: ∀x:Nat × Int × Bool,((x.1≤C.all.length∧(C.all.take x.1).foldl (gn C) (0,false)=x.2)∧(C.spare=x.2))→Sk 39 K3 ([(11,i64 x.1),(10,i64 C.all.length),(9,aG s9 C.all.length),(4,i64 x.2.1),(5,.bool x.2.2),(0,ptr A.p)]) ([aD s9 127 (dZ C.all),cU A C,ga A C]++R):=by
  rintro⟨k,oF,fd⟩ ⟨bJ,eK⟩;refine pD _ _ ?_;obtain⟨M1,SD⟩:=bJ;dsimp only at M1 SD ⊢;have hv:cE [aD s9 127 (dZ C.all)] (aG s9 C.all.length) C.all.length (dZ C.all):=bG .z QJ;rw[eK];refine gc 8 ?_;refine bm results205 rfl rfl (L1:=[cU A C,ga A C]++R) ae ?_;exact⟨_,⟨by rfl,rfl⟩,by rfl⟩
 clear pD;refine gc 1 ?_;refine bO (A:=Nat × Int × Bool) (fun x=>[(11,i64 x.1),(10,i64 C.all.length),(9,aG s9 C.all.length),(4,i64 x.2.1),(5,.bool x.2.2),(0,ptr A.p)]) (fun x=>[aD s9 127 (dZ C.all),cU A C,ga A C]++R) (fun x=>x.1≤C.all.length∧(C.all.take x.1).foldl (gn C) (0,false)=x.2) (fun x=>C.all.length-x.1) ((0,0,false)) ?_ aq ae ?_
 · exact⟨Nat.zero_le _,rfl⟩
 rintro⟨k,oF,fd⟩ bJ kt cI;have cC:=bJ;obtain⟨M1,SD⟩:=bJ;dsimp only at M1 SD ⊢;have hv:cE [aD s9 127 (dZ C.all)] (aG s9 C.all.length) C.all.length (dZ C.all):=bG .z QJ;refine gc 5 ?_;refine cc rfl (fun Ss=>?_) (fun Ss=>?_)
 ·obtain⟨x0,SJ⟩: ∃x0,C.all[k]? =some x0:=⟨_,List.getElem?_eq_getElem (by omega)⟩;have qf:(C.all.take (k+1)).foldl (gn C) (0,false)=gn C (oF,fd) x0:=by rw[dg SJ,List.foldl_append,SD];rfl
  refine gc 2 ?_;refine bq ?_;intro K8 qN
  have pC: ∀x:Int × Bool,(gn C (oF,fd) x0=x)→Sk 39 K8 ([(11,i64 k),(10,i64 C.all.length),(9,aG s9 C.all.length),(4,i64 x.1),(5,.bool x.2),(0,ptr A.p)]) ([aD s9 127 (dZ C.all),cU A C,ga A C]++R):=by
   rintro⟨at1,fd1⟩ B1;refine qN _ _ ?_;rw[B1]at qf;refine gc 2 ?_;rw[show IntKind.i64.wrap ((k:Int)+1)=((k+1:Nat):Int)by rw[wr (by omega) (by omega)];rfl];refine gy 3 ?_;exact cI ((k+1,at1,fd1)) (⟨by dsimp only;omega,qf⟩) (by dsimp only;omega) _ _ aq ae
  clear qN;refine gc 2 ?_;refine y (aK hv rfl rfl underlying61 sizeOf127 (by omega) (by omega)) rfl ?_;refine y (dB (us:=[i64 x0.bE,i64 x0.ve,i64 x0.vs,str x0.data,.bool x0.bZ,i64 x0.cl,i64 x0.n]) (k*7) hv ae rfl isAgg127 sizeOf127 (by rfl) (lD SJ) rfl) rfl ?_;refine ya (aB zeroValue127 rfl) rfl ?_;rintro v L' ⟨b7,rfl,rfl⟩;refine bA (ai rfl rfl (iy _) sizeOf127 bc rfl rfl) ?_;refine gy 3 ?_;refine aS 16 (od [] 16 0) (_) Tryz.mixed (by kernel_rfl) .refl ?_;refine gh 4 ?_;refine fZ 18 rfl (fun Lc=>?_) (fun Lc=>?_)
  ·refine gh 3 ?_;refine fZ 21 rfl (fun zz=>?_) (fun zz=>?_)
   ·have ig:gn C (oF,fd) x0=(x0.bE,true):=by unfold gn;simp_all
    refine gh 24 ?_;exact aV aq ae (pC (x0.bE,true) ig)
   refine gh 5 ?_;refine ko rfl rfl rfl (qb (z:=ib .zero) (kv:=oE ib C.en) rfl rfl underlying149 underlying3 zeroValue127 aL) rfl ?_;rw[mg,oa];refine ko rfl rfl rfl (KT (u:=[i64 ((bM C.en oF).getD .zero).ve,i64 ((bM C.en oF).getD .zero).vs]) 1 rfl underlying127 rfl isAgg84 sizeOf84 rfl) rfl ?_;refine gh 1 ?_;refine ko rfl rfl rfl (ay (u:=[i64 x0.ve,i64 x0.vs]) rfl isAgg84 sizeOf84 aL rfl rfl) rfl ?_;refine gh 1 ?_;refine bV ?_;refine bK (HS) call203 ?_;refine gy 4 ?_;refine cc rfl (fun Hl=>?_) (fun Hl=>?_)
   ·have ig:gn C (oF,fd) x0=(x0.bE,true):=by unfold gn;simp_all
    refine gc 8 ?_;exact aV aq ae (pC (x0.bE,true) ig)
   have hsk:gn C (oF,fd) x0=(oF,fd):=by unfold gn;simp_all
   refine gc 3 ?_;exact aV aq ae (pC (oF,fd) hsk)
  have hsk:gn C (oF,fd) x0=(oF,fd):=by unfold gn;simp[Lc]
  refine gh 22 ?_;exact aV aq ae (pC (oF,fd) hsk)
 refine gc 5 ?_;exact aV aq ae (fQ ⟨k,oF,fd⟩ ⟨cC,by have h1:=SD;rw[List.take_of_length_le (by omega)]at h1;exact h1⟩)
theorem AS [Env]{R:List ax}{A:uc}{q:Q3}{sl:Sv}{C:aQ}{D:az}(hD:D.ok):bC Tryz.prog 158 [ptr A.p] [cU A C,jO A q sl C,dev q D] R (Is (i64 D.aJ.1) [cU A C,jO A q sl C,dev q D.aJ.2]):=by
 refine ag func158 ntmps158 rfl rfl ?_;unfold cU qM jO;refine gc 9 ?_;refine bK (adT ?ae2) call207 ?_
 case ae2=>exact hD
 refine gy 4 ?_;refine aj results158 rfl (L1:=[sc A.p _ 154,fX _ _ _ _ _,dev q _]++R) ae ?_;exact⟨_,⟨rfl,rfl⟩,rfl⟩
end W
end Go.Proofs