/- A part of the proof. -/
import Derived.Test.YtlignadmmopdmaaGreatUn
import Derived.Test.YtlignadmmopdmaaGreatN46
import Derived.Test.YtlignadmmopdmaaGreatNoeD
import Derived.Test.YtlignadmmopdmaaGreatGL
set_option linter.unusedVariables false
set_option linter.unusedSimpArgs false
set_option linter.constructorNameAsVariable false
namespace Go.Proofs
open _root_.Go.Proofs.Tryz
open Go Go.Sl
namespace W
set_option maxHeartbeats 4000000
structure Gp(sh:hG)(k:Nat)(F:NF)(V:NV)(n:aa)(ep:Int)(kv:Kv):Prop where
 ok:n.ok (140*k)
 v:ct V n
 eE:n.eE=(sh.id,sh.serial,false)
 j:NJ sh.blocks.toNat sh.ek.toNat (101*k+1) n
 ep:ep≤n.ah
 un:uniq kv
 gr:0<n.role→ij kv n.ah=some (.bool true)
theorem Gp.le{sh:hG}{k k':Nat}{F:NF}{V:NV}{n:aa}{ep:Int}{kv:Kv}(h:Gp sh k F V n ep kv)(hk:k≤k'):Gp sh k' F V n ep kv:=
 ⟨h.ok.le (by omega),h.v,h.eE,h.j.le (by omega),h.ep,h.un,h.gr⟩
theorem Gp.step{sh:hG}{k:Nat}{F:NF}{V V':NV}{n:aa}{ep:Int}{kv kv':Kv}(h:Gp sh k F V n ep kv)(hk:k≤80){a:gu}(hV:ct V' (n.step a))(hu:uniq kv')
   (h1: ∀e,ij kv e=some (.bool true)→ij kv' e=some (.bool true)) (h2:aa.jA sh.id a→ij kv' (bF (fh a).body).1.ah=some (.bool true)):Gp sh (k+1) F V' (n.step a) ep kv':=by
 have hl:n.lost=false:=congrArg (·.2.2) h.eE;have hid:n.id=sh.id:=congrArg Prod.fst h.eE;have hr:=aa.VC (n:=n) hl a;rw[hid]at hr;refine⟨(h.ok.step a).le (by omega),hV,(aa.RQ hl a).trans h.eE,(aa.UY h.j (by omega) hl a).le (by omega),?_,hu,fun q=>?_⟩
 · have:=h.ep;rcases hr with r|r
   · have:=r.up;omega
   have:=r.1;omega
 rcases hr with r|⟨-,r1,r2⟩
 · obtain⟨q1,q2⟩:=r.role q;rw[q2];exact h1 _ (h.gr q1)
 rw[r1];exact h2 r2
theorem Gp.dA{sh:hG}{k:Nat}{F:NF}{V:NV}{n:aa}{ep:Int}{kv:Kv}(h:Gp sh k F V n ep kv){x:Int}(hx:x≤9223372036854775807):Gp sh k F V (n.dA x) ep kv:=
 ⟨h.ok.dA hx,⟨h.v.out,h.v.sw,h.v.si,h.v.sl⟩,h.eE,h.j.dA hx,h.ep,h.un,h.gr⟩
theorem HY [Env]{R:List ax}{sh:hG}{va:Value}{xd:List gu}(hA:cE R va xd.length (Gu xd))(hK: ∀a∈xd,a.ok R)(hlen:xd.length≤9223372036854775807):
   bC Tryz.prog 10 [.agg sh.cells.toArray,va] [] R (Is (.bool true) []):=by
 have hAl:=hA.bo;refine ag func10 ntmps10 rfl rfl ?_;refine gc 1 ?_;refine ya (a7 (vs:=sh.cells) rfl rfl) rfl ?_;rintro v L' ⟨b2,rfl,rfl⟩;refine gy 5 ?_;refine bK (S1) call12 ?_
 skip
 ·refine gy 7 ?_;refine y (ay (u:=sh.cells) rfl isAgg23 sizeOf23 aL rfl rfl) rfl ?_;rcases hbx:iE sh with _|n
  ·refine aA (H7 (x:=sh) hbx) rfl call13 aZ rfl ?_;rintro v L' ⟨dv1,rfl,rfl⟩;refine gy 10 ?_;refine y (eM rfl rfl underlying27) rfl ?_;refine gy 9 ?_;refine aj results10 rfl (L1:=R) ae ?_;exact⟨_,⟨by rfl,rfl⟩,by rfl⟩
  refine aA (H8 (x:=sh) hbx) rfl call13 aZ rfl ?_;rintro v L' ⟨F1,V1,dN,rfl,rfl⟩;refine gy 10 ?_;refine y (eM rfl rfl underlying27) rfl ?_;refine gy 10 ?_;have qH:=KB hbx;have hw0:=GH hbx;obtain⟨hj0,EK,tX,O2,sP,rq⟩:=KA hbx;refine ya (nL) rfl ?_;rintro v L' ⟨F8,rfl,rfl⟩;refine gy 9 ?_;refine bO (A:=Nat × NF × NV × aa × Int × Kv × Nat) (fun x=>[(9,i64 x.1),(6,ptr x.2.1.p),(5,dp x.2.1.q),(7,i64 x.2.2.2.2.1),(8,.map (some F8)),(2,ptr b2),(1,va)]) (fun x=>so F8 (.map (cH x.2.2.2.2.2.1) x.2.2.2.2.2.2)::sc b2 sh.cells 23::ao x.2.1 x.2.2.1 x.2.2.2.1++R) (fun x=>x.1≤xd.length∧x.1≤80∧Gp sh x.1 x.2.1 x.2.2.1 x.2.2.2.1 x.2.2.2.2.1 x.2.2.2.2.2.1) (fun x=>80-x.1) ((0,F1,V1,n,0,[],0)) ?_ aq ae ?_
  · exact⟨Nat.zero_le _,Nat.zero_le _,⟨qH,dN,hw0,hj0,by rw[tX];exact Int.le_refl _,List.nodup_nil,fun q=>by rw[EK]at q;exact absurd q (by decide)⟩⟩
  rintro⟨k,F,U1,m,ep,kv,c⟩ bJ kt cI;obtain⟨hk,Zj,hE⟩:=bJ;dsimp only at hk Zj hE ⊢;have cq:=hE.ok;have hU1:=hE.v;refine gc 4 ?_;refine y (bu rfl underlying24 hAl) rfl ?_;refine gy 2 ?_;refine cv 32 rfl (fun Hk=>?_) (fun Hk=>?_)
  ·refine gy 5 ?_;refine cc rfl (fun TD=>?_) (fun TD=>?_)
   ·refine gc 5 ?_;obtain⟨a,hga⟩: ∃a,xd[k]? =some a:=⟨_,List.getElem?_eq_getElem (by omega)⟩;have Wo:=hK a (List.mem_of_getElem? hga);refine gy 2 ?_;refine y (aK hA rfl rfl underlying24 sizeOf37 (by omega) (by omega)) rfl ?_;refine y (dB (us:=a.cells) (k*19) hA ae rfl isAgg37 sizeOf37 (by simp) (Gv hga) rfl) rfl ?_;refine ya (aB zeroValue37 rfl) rfl ?_;rintro v L' ⟨Nx,rfl,rfl⟩;refine bA (aP (vs':=a.cells) rfl rfl (Nr Wo.keeps.bo) sizeOf37 bc rfl (by decide) rfl) ?_;refine gy 4 ?_;refine y (ay (u:=a.cells) rfl isAgg37 sizeOf37 aL rfl rfl) rfl ?_;refine bK (aau (x:=a) ?aqt) call14 ?_
    case aqt=>exact Wo.mono ae
    refine gy 2 ?_;refine cc rfl (fun De=>?_) (fun De=>?_)
    ·refine gc 11 ?_;refine aj results10 rfl (L1:=R) ae ?_;exact⟨_,⟨by rfl,rfl⟩,by rfl⟩
    have hlg:mM a=false:=by simpa using De
    have kn:a.ks.length≤600:=by have q:=hlg;unfold mM at q;simp only[Bool.or_eq_false_iff,decide_eq_false_iff_not]at q;omega
    refine gc 2 ?_;refine bq ?_;intro K21 OO
    have vz: ∀x:NF × NV × aa × Kv × Nat,(Gp sh (k+1) x.1 x.2.1 x.2.2.1 ep x.2.2.2.1)→Sk 164 K21 ([(9,i64 k),(6,ptr x.1.p),(5,dp x.1.q),(7,i64 ep),(8,.map (some F8)),(2,ptr b2),(1,va)]) (so F8 (.map (cH x.2.2.2.1) x.2.2.2.2)::sc b2 sh.cells 23::ao x.1 x.2.1 x.2.2.1++R):=by
     rintro⟨G,W1,n1,kv3,c3⟩ hIr38;refine OO _ _ ?_;have AJ:=hIr38;dsimp only at AJ ⊢;refine gc 2 ?_;refine bK (E4 (F:=G) (V:=W1) (n:=n1) (K:=140*(k+1)) ?aiu ?aqM ?amp) call20 ?_
     case aiu=>exact AJ.ok
     case aqM=>omega
     case amp=>exact AJ.v
     refine ya (aB zeroValue52 rfl) rfl ?_;rintro v L' ⟨b17,rfl,rfl⟩;refine bA (ai rfl rfl (F0 _) sizeOf52 bc rfl rfl) ?_;refine gy 8 ?_;refine cc rfl (fun OH=>?_) (fun OH=>?_)
     ·refine gc 7 ?_;rw[show IntKind.i64.wrap ((k:Int)+1)=((k+1:Nat):Int)by rw[wr (by omega) (by omega)];rfl];refine gy 3 ?_;exact cI (k+1,G,W1,n1,ep,kv3,c3) ⟨by dsimp only;omega,by dsimp only;omega,AJ⟩ (by dsimp only;omega) _ _ aq ae
     refine gc 8 ?_;rw[decide_eq_false (show¬n1.view.ah<ep by have:=AJ.ep;show¬n1.ah<ep;omega)]
     skip
     ·refine gy 5 ?_;refine cv 150 rfl (fun h66=>?_) (fun h66=>?_)
      ·have vB:=AJ.gr h66;refine gy 3 ?_;refine bV ?_;refine y (qb rfl rfl underlying79 underlying2 zeroValue4 aL) rfl ?_;rw[show ij kv3 n1.view.ah=some (.bool true)from vB];dsimp only[Option.getD];refine gy 6 ?_;rw[show n1.view.lost=false from congrArg (·.2.2) AJ.eE];refine gy 7 ?_;have O1:n1.view.ah≤n1.ah:=Int.le_refl _;refine gy 9 ?_;rw[show IntKind.i64.wrap ((k:Int)+1)=((k+1:Nat):Int)by rw[wr (by omega) (by omega)];rfl];refine gy 3 ?_;exact cI (k+1,G,W1,n1,n1.view.ah,kv3,c3) ⟨by dsimp only;omega,by dsimp only;omega,⟨AJ.ok,AJ.v,AJ.eE,AJ.j,O1,AJ.un,AJ.gr⟩⟩ (by dsimp only;omega) _ _ aq ae
      refine gy 10 ?_;rw[show n1.view.lost=false from congrArg (·.2.2) AJ.eE];refine gy 7 ?_;have O1:n1.view.ah≤n1.ah:=Int.le_refl _;refine gy 9 ?_;rw[show IntKind.i64.wrap ((k:Int)+1)=((k+1:Nat):Int)by rw[wr (by omega) (by omega)];rfl];refine gy 3 ?_;exact cI (k+1,G,W1,n1,n1.view.ah,kv3,c3) ⟨by dsimp only;omega,by dsimp only;omega,⟨AJ.ok,AJ.v,AJ.eE,AJ.j,O1,AJ.un,AJ.gr⟩⟩ (by dsimp only;omega) _ _ aq ae
    clear OO;refine gc 12 ?_;refine cc rfl (fun KY=>?_) (fun KY=>?_)
    ·refine gc 2 ?_;refine cc rfl (fun BX=>?_) (fun BX=>?_)
     ·refine bq ?_;intro K30 afN
      have lP: ∀x:Kv × Nat,(uniq x.1∧(∀e,ij kv e=some (.bool true)→ij x.1 e=some (.bool true))∧(aa.jA sh.id a→ij x.1 (bF (fh a).body).1.ah=some (.bool true)))→Sk 164 K30 ([(9,i64 k),(6,ptr F.p),(5,dp F.q),(7,i64 ep),(8,.map (some F8)),(2,ptr b2),(1,va),(10,ptr Nx)]) (so F8 (.map (cH x.1) x.2)::sc Nx a.cells 37::sc b2 sh.cells 23::ao F U1 m++R):=by
       rintro⟨kv2,c2⟩ hIr21;refine afN _ _ ?_;obtain⟨M8,hp1,hp2⟩:=hIr21;refine gc 2 ?_;refine y (ay (u:=a.cells) rfl isAgg37 sizeOf37 aL rfl rfl) rfl ?_;refine aA (WU (F:=F) (V:=U1) (n:=m) (a:=a) (cq.le (by omega)) hU1 hlg Wo.keeps.bo) rfl call17 aZ rfl ?_;rintro v L' ⟨Y1,hY1,rfl,hu1⟩;have hj1:=hE.step Zj hY1 M8 hp1 hp2;refine gy 3 ?_;exact aV aq ae (vz (F,Y1,m.step a,kv2,c2) hj1)
      clear afN;refine gc 5 ?_;refine cv 52 rfl (fun BZ=>?_) (fun BZ=>?_)
      ·have c1:a.kind=0:=BZ;refine gy 6 ?_;refine cc rfl (fun Yl=>?_) (fun Yl=>?_)
       ·have c2:a.fr=2:=Yl;refine gc 1 ?_;refine y (ay (u:=a.cells) rfl isAgg37 sizeOf37 aL rfl rfl) rfl ?_;refine bK (Cy (x:=a)) call16 ?_;refine y (j4 2 rfl underlying42 rfl isAgg9 rfl) rfl ?_;refine bK (By (s:=(fh a).body) ?U0) call15 ?_
        case U0=>exact ym hlg
        refine gy 3 ?_;refine ya (aB zeroValue34 rfl) rfl ?_;rintro v L' ⟨b11,rfl,rfl⟩;refine bA (ai rfl rfl (fV _) sizeOf34 bc rfl rfl) ?_;refine gy 7 ?_;refine cv 66 rfl (fun Ee=>?_) (fun Ee=>?_)
        ·refine gy 5 ?_;refine cv 71 rfl (fun zM=>?_) (fun zM=>?_)
         ·refine gy 5 ?_;refine cv 76 rfl (fun K0=>?_) (fun K0=>?_)
          ·refine gy 8 ?_;refine cc rfl (fun aft=>?_) (fun aft=>?_)
           ·refine gc 1 ?_;have hup:=FY (c:=c) (k:=(bF (fh a).body).1.ah) (v:= .bool true) hE.un
            have ZN: ∀e,ij kv e=some (.bool true)→ij (oT kv c (bF (fh a).body).1.ah (.bool true)) e=some (.bool true):=fun e he=>by
              rw[s5]
              by_cases q:e=(bF (fh a).body).1.ah
              · rw[if_pos q]
              rw[if_neg q];exact he
            have ZO:aa.jA sh.id a→ij (oT kv c (bF (fh a).body).1.ah (.bool true)) (bF (fh a).body).1.ah=some (.bool true):=fun _=>by rw[s5,if_pos rfl]
            refine gy 3 ?_;refine bA (iu rfl rfl rfl underlying79 underlying2 ?VM bc) ?_
            case VM=>exact hE.un
            refine gy 2 ?_;exact aV aq ae (lP (oT kv c (bF (fh a).body).1.ah (.bool true),Ab kv c (bF (fh a).body).1.ah) ⟨hup,ZN,ZO⟩)
           have eF: ¬aa.jA sh.id a:=fun z=>aft z.2.2.2.2.2
           refine gc 2 ?_;exact aV aq ae (lP (kv,c) ⟨hE.un,fun e he=>he,fun z=>absurd z eF⟩)
          have eF: ¬aa.jA sh.id a:=fun z=>K0 z.2.2.2.2.1
          refine gy 11 ?_;exact aV aq ae (lP (kv,c) ⟨hE.un,fun e he=>he,fun z=>absurd z eF⟩)
         have eF: ¬aa.jA sh.id a:=fun z=>zM z.2.2.2.1
         refine gy 16 ?_;exact aV aq ae (lP (kv,c) ⟨hE.un,fun e he=>he,fun z=>absurd z eF⟩)
        have eF: ¬aa.jA sh.id a:=fun z=>Ee z.2.2.1
        refine gy 21 ?_;exact aV aq ae (lP (kv,c) ⟨hE.un,fun e he=>he,fun z=>absurd z eF⟩)
       have eF: ¬aa.jA sh.id a:=fun z=>Yl z.2.1
       refine gc 2 ?_;exact aV aq ae (lP (kv,c) ⟨hE.un,fun e he=>he,fun z=>absurd z eF⟩)
      have eF: ¬aa.jA sh.id a:=fun z=>BZ z.1
      refine gy 9 ?_;exact aV aq ae (lP (kv,c) ⟨hE.un,fun e he=>he,fun z=>absurd z eF⟩)
     refine gc 5 ?_;refine cc rfl (fun aoh=>?_) (fun aoh=>?_)
     ·refine gc 1 ?_;refine ya (jh underlying35 sizeOf81) rfl ?_;rintro v L' ⟨b91,rfl,rfl⟩;refine gy 2 ?_;refine ya (aO (s:=some (b91,0,[])) (xs:=[]) (m:=0) (k:=a.ks.length) (us:=dS a.ks) (size:=2) rfl rfl (by repeat first|exact .z|apply Pk.s) underlying35 underlying35 (by intro q hq;cases hq) typeInfo81 rfl rfl rfl ?ai2 ?acH ?abq ?XD) rfl ?_
      case ai2=>exact⟨by decide,by decide,rfl,rfl⟩
      case acH=>exact(Wo.keeps.mono ae).src (eD _)
      case abq=>exact yi _
      case XD=>show(_+_)*17≤_;omega
      rintro v L' ⟨CT,rfl,pO,rfl⟩;rw[Nat.zero_add,List.nil_append]at pO ⊢;refine gy 3 ?_;refine bq ?_;intro K36 afP;refine gc 2 ?_;refine y (bH rfl underlying35 (by assumption)) rfl ?_;refine gy 3 ?_
      have B2: ∀z:Nat,((z≤a.ks.length)∧(z=a.ks.length))→Sk 164 K36 ([(97,i64 z),(96,i64 a.ks.length),(13,aG CT a.ks.length),(9,i64 k),(5,dp F.q),(7,i64 ep),(8,.map (some F8)),(2,ptr b2),(1,va)]) (aD CT 81 (dS (jD a.ks z))::so F8 (.map (cH kv) c)::sc b2 sh.cells 23::ao F U1 m++R):=by
       rintro j ⟨qc,Dh⟩;refine afP _ _ ?_;have hkI:=qc;have M1:=Dh;subst M1;rw[AY];refine gc 3 ?_;refine bK (FH (q:=F.q) (D:=m.d) (ks:=kY a.ks) ?ai5 ?ahn) call35 ?_
       case ai5=>exact cq.p.c.d
       case ahn=>rw[qh];exact bG aL (Bo pO (by rw[eD,eD,qh]))
       have hD9:(m.d.bD (kY a.ks)).ok:=az.xx cq.p.c.d _;have B9:=hE.j.bD (by omega) O2 (AX a.ks) rq;rw[←sP]at B9;refine gy 14 ?_;refine aA (E3 (D:=m.d.bD (kY a.ks)) (id:=sh.id) (serial:=sh.serial) (bl:=sh.blocks) (lease:=sh.lease) (patience:=sh.patience) hD9) rfl call19 aZ rfl ?_;rintro v L' gj;have O4:=oh (id:=sh.id) (serial:=sh.serial) (bl:=sh.blocks) (lease:=sh.lease) (patience:=sh.patience) hD9;obtain⟨r9,O6⟩: ∃z,cO sh.id sh.serial (m.d.bD (kY a.ks)) sh.blocks sh.lease sh.patience=z:=⟨_,rfl⟩;rw[O6]at gj B9 O4;rcases gj with⟨xY,rfl,rfl⟩|⟨he,F2,V2,hq2,rfl,jC,rfl⟩
       ·refine gy 9 ?_;have OA:r9.1=23:=B9.1.resolve_left xY;refine gy 2 ?_
        try rw[decide_eq_true OA]
        refine gy 16 ?_;exfalso;omega
       refine gy 9 ?_;obtain⟨z1,z2,z3,z4⟩:=B9.2 he;rw[←hq2];have Zi:Gp sh (k+1) F2 V2 r9.2 ep kv:=⟨(O4 he).le (by omega),jC,z4,z1.le (by omega),by have:=hE.ep;omega,hE.un,fun q=>by rw[z3]at q;exact absurd q (by decide)⟩;refine gy 2 ?_
       try rw[decide_eq_true OA]
       refine gy 8 ?_;refine y (eM rfl rfl underlying27) rfl ?_;refine gy 11 ?_;exact aV aq ae (vz (F2,V2,r9.2,kv,c) Zi)
      clear afP;refine gc 1 ?_;refine bO (A:=Nat) (fun z=>[(97,i64 z),(96,i64 a.ks.length),(13,aG CT a.ks.length),(9,i64 k),(5,dp F.q),(7,i64 ep),(8,.map (some F8)),(2,ptr b2),(1,va)]) (fun z=>aD CT 81 (dS (jD a.ks z))::so F8 (.map (cH kv) c)::sc b2 sh.cells 23::ao F U1 m++R) (fun z=>z≤a.ks.length) (fun z=>a.ks.length-z) (0) ?_ aq ae ?_
      · exact Nat.zero_le _
      rintro j qc KL2 Lm;have uE:=qc;have hkI:=qc;refine gc 5 ?_;refine cc rfl (fun Oz=>?_) (fun Oz=>?_)
      ·refine gc 10 ?_;obtain⟨y0,Ck⟩: ∃y,a.ks[j]? =some y:=⟨_,List.getElem?_eq_getElem (by omega)⟩;rcases CT with _|⟨bk,ck,sk⟩
       · exact absurd pO.1 (by omega)
       have oP:(dS (jD a.ks j)++sk).set (j*2) (i64 (qX .i64 y0.1 1))=dS (jD a.ks (j+1))++sk:=by rw[List.set_append_left _ _ (by rw[eD,lG];omega),yj (qi Ck),AZ Ck]
       have Zc:(dS (jD a.ks j)++sk)[j*2]? =some (i64 y0.1):=by rw[List.getElem?_append_left (by rw[eD,lG];omega)];exact vF (qi Ck)
       refine gy 2 ?_;refine y (iz rfl rfl underlying35 sizeOf81 (by omega) (by omega)) rfl ?_;refine gy 1 ?_;refine y (bR rfl isAgg3 aL (by simpa using Zc)) rfl ?_;refine y (kR rfl rfl) rfl ?_;refine y (iz rfl rfl underlying35 sizeOf81 (by omega) (by omega)) rfl ?_;refine gy 1 ?_;refine bA (an rfl rfl rfl sizeOf3 bc (by simp[eD,lG];omega) (by simpa using oP)) ?_;refine gy 5 ?_;rw[show IntKind.i64.wrap ((j:Int)+1)=((j+1:Nat):Int)by rw[wr (by omega) (by omega)];rfl];refine gy 3 ?_;exact Lm (j+1) (by omega) (by omega) _ _ aq ae
      refine gc 5 ?_;exact aV aq ae (B2 j ⟨uE,by trivial⟩)
     refine gc 5 ?_;refine cc rfl (fun aoy=>?_) (fun aoy=>?_)
     ·refine gc 4 ?_;refine bK (Ki (q:=F.q) (D:=m.d) (i:=a.n)) call29 ?_;have hj3:Gp sh (k+1) F U1 (m.dA a.n) ep kv:=(hE.dA Wo.n.2).le (by omega);refine gy 3 ?_;exact aV aq ae (vz (F,U1,m.dA a.n,kv,c) hj3)
     refine gc 3 ?_;exact aV aq ae (vz (F,U1,m,kv,c) (hE.le (by omega)))
    refine gc 5 ?_;refine cc rfl (fun Ty=>?_) (fun Ty=>?_)
    ·refine bq ?_;intro K52 afQ
     have lP: ∀x:Kv × Nat,(uniq x.1∧(∀e,ij kv e=some (.bool true)→ij x.1 e=some (.bool true))∧(aa.jA sh.id a→ij x.1 (bF (fh a).body).1.ah=some (.bool true)))→Sk 164 K52 ([(9,i64 k),(6,ptr F.p),(5,dp F.q),(7,i64 ep),(8,.map (some F8)),(2,ptr b2),(1,va),(10,ptr Nx)]) (so F8 (.map (cH x.1) x.2)::sc Nx a.cells 37::sc b2 sh.cells 23::ao F U1 m++R):=by
      rintro⟨kv2,c2⟩ hIr21;refine afQ _ _ ?_;obtain⟨M8,hp1,hp2⟩:=hIr21;refine gc 2 ?_;refine y (ay (u:=a.cells) rfl isAgg37 sizeOf37 aL rfl rfl) rfl ?_;refine aA (WU (F:=F) (V:=U1) (n:=m) (a:=a) (cq.le (by omega)) hU1 hlg Wo.keeps.bo) rfl call17 aZ rfl ?_;rintro v L' ⟨Y1,hY1,rfl,hu1⟩;have hj1:=hE.step Zj hY1 M8 hp1 hp2;refine gy 3 ?_;exact aV aq ae (vz (F,Y1,m.step a,kv2,c2) hj1)
     clear afQ;refine gc 5 ?_;refine cv 52 rfl (fun Hi=>?_) (fun Hi=>?_)
     ·have c1:a.kind=0:=Hi;refine gy 6 ?_;refine cc rfl (fun YK=>?_) (fun YK=>?_)
      ·have c2:a.fr=2:=YK;refine gc 1 ?_;refine y (ay (u:=a.cells) rfl isAgg37 sizeOf37 aL rfl rfl) rfl ?_;refine bK (Cy (x:=a)) call16 ?_;refine y (j4 2 rfl underlying42 rfl isAgg9 rfl) rfl ?_;refine bK (By (s:=(fh a).body) ?U2) call15 ?_
       case U2=>exact ym hlg
       refine gy 3 ?_;refine ya (aB zeroValue34 rfl) rfl ?_;rintro v L' ⟨b11,rfl,rfl⟩;refine bA (ai rfl rfl (fV _) sizeOf34 bc rfl rfl) ?_;refine gy 7 ?_;refine cv 66 rfl (fun afu=>?_) (fun afu=>?_)
       ·refine gy 5 ?_;refine cv 71 rfl (fun YN=>?_) (fun YN=>?_)
        ·refine gy 5 ?_;refine cv 76 rfl (fun afv=>?_) (fun afv=>?_)
         ·refine gy 8 ?_;refine cc rfl (fun TB=>?_) (fun TB=>?_)
          ·refine gc 1 ?_;have hup:=FY (c:=c) (k:=(bF (fh a).body).1.ah) (v:= .bool true) hE.un
           have ZN: ∀e,ij kv e=some (.bool true)→ij (oT kv c (bF (fh a).body).1.ah (.bool true)) e=some (.bool true):=fun e he=>by
             rw[s5]
             by_cases q:e=(bF (fh a).body).1.ah
             · rw[if_pos q]
             rw[if_neg q];exact he
           have ZO:aa.jA sh.id a→ij (oT kv c (bF (fh a).body).1.ah (.bool true)) (bF (fh a).body).1.ah=some (.bool true):=fun _=>by rw[s5,if_pos rfl]
           refine gy 3 ?_;refine bA (iu rfl rfl rfl underlying79 underlying2 ?VN bc) ?_
           case VN=>exact hE.un
           refine gy 2 ?_;exact aV aq ae (lP (oT kv c (bF (fh a).body).1.ah (.bool true),Ab kv c (bF (fh a).body).1.ah) ⟨hup,ZN,ZO⟩)
          have eF: ¬aa.jA sh.id a:=fun z=>TB z.2.2.2.2.2
          refine gc 2 ?_;exact aV aq ae (lP (kv,c) ⟨hE.un,fun e he=>he,fun z=>absurd z eF⟩)
         have eF: ¬aa.jA sh.id a:=fun z=>afv z.2.2.2.2.1
         refine gy 11 ?_;exact aV aq ae (lP (kv,c) ⟨hE.un,fun e he=>he,fun z=>absurd z eF⟩)
        have eF: ¬aa.jA sh.id a:=fun z=>YN z.2.2.2.1
        refine gy 16 ?_;exact aV aq ae (lP (kv,c) ⟨hE.un,fun e he=>he,fun z=>absurd z eF⟩)
       have eF: ¬aa.jA sh.id a:=fun z=>afu z.2.2.1
       refine gy 21 ?_;exact aV aq ae (lP (kv,c) ⟨hE.un,fun e he=>he,fun z=>absurd z eF⟩)
      have eF: ¬aa.jA sh.id a:=fun z=>YK z.2.1
      refine gc 2 ?_;exact aV aq ae (lP (kv,c) ⟨hE.un,fun e he=>he,fun z=>absurd z eF⟩)
     have eF: ¬aa.jA sh.id a:=fun z=>Hi z.1
     refine gy 9 ?_;exact aV aq ae (lP (kv,c) ⟨hE.un,fun e he=>he,fun z=>absurd z eF⟩)
    refine gc 5 ?_;refine cc rfl (fun aoJ=>?_) (fun aoJ=>?_)
    ·refine gc 1 ?_;refine ya (jh underlying35 sizeOf81) rfl ?_;rintro v L' ⟨b91,rfl,rfl⟩;refine gy 2 ?_;refine ya (aO (s:=some (b91,0,[])) (xs:=[]) (m:=0) (k:=a.ks.length) (us:=dS a.ks) (size:=2) rfl rfl (by repeat first|exact .z|apply Pk.s) underlying35 underlying35 (by intro q hq;cases hq) typeInfo81 rfl rfl rfl ?QF ?IU ?Iz ?GJ) rfl ?_
     case QF=>exact⟨by decide,by decide,rfl,rfl⟩
     case IU=>exact(Wo.keeps.mono ae).src (eD _)
     case Iz=>exact yi _
     case GJ=>show(_+_)*17≤_;omega
     rintro v L' ⟨CT,rfl,pO,rfl⟩;rw[Nat.zero_add,List.nil_append]at pO ⊢;refine gy 3 ?_;refine bq ?_;intro K58 afR;refine gc 2 ?_;refine y (bH rfl underlying35 (by assumption)) rfl ?_;refine gy 3 ?_
     have B2: ∀z:Nat,((z≤a.ks.length)∧(z=a.ks.length))→Sk 164 K58 ([(97,i64 z),(96,i64 a.ks.length),(13,aG CT a.ks.length),(9,i64 k),(5,dp F.q),(7,i64 ep),(8,.map (some F8)),(2,ptr b2),(1,va)]) (aD CT 81 (dS (jD a.ks z))::so F8 (.map (cH kv) c)::sc b2 sh.cells 23::ao F U1 m++R):=by
      rintro j ⟨qc,Dh⟩;refine afR _ _ ?_;have hkI:=qc;have M1:=Dh;subst M1;rw[AY];refine gc 3 ?_;refine bK (FH (q:=F.q) (D:=m.d) (ks:=kY a.ks) ?ajh ?aho) call35 ?_
      case ajh=>exact cq.p.c.d
      case aho=>rw[qh];exact bG aL (Bo pO (by rw[eD,eD,qh]))
      have hD9:(m.d.bD (kY a.ks)).ok:=az.xx cq.p.c.d _;have B9:=hE.j.bD (by omega) O2 (AX a.ks) rq;rw[←sP]at B9;refine gy 14 ?_;refine aA (E3 (D:=m.d.bD (kY a.ks)) (id:=sh.id) (serial:=sh.serial) (bl:=sh.blocks) (lease:=sh.lease) (patience:=sh.patience) hD9) rfl call19 aZ rfl ?_;rintro v L' gj;have O4:=oh (id:=sh.id) (serial:=sh.serial) (bl:=sh.blocks) (lease:=sh.lease) (patience:=sh.patience) hD9;obtain⟨r9,O6⟩: ∃z,cO sh.id sh.serial (m.d.bD (kY a.ks)) sh.blocks sh.lease sh.patience=z:=⟨_,rfl⟩;rw[O6]at gj B9 O4;rcases gj with⟨xY,rfl,rfl⟩|⟨he,F2,V2,hq2,rfl,jC,rfl⟩
      ·refine gy 9 ?_;have OA:r9.1=23:=B9.1.resolve_left xY;refine gy 2 ?_
       try rw[decide_eq_true OA]
       refine gy 16 ?_;refine aj results10 rfl (L1:=R) ae ?_;exact⟨_,⟨by rfl,rfl⟩,by rfl⟩
      refine gy 9 ?_;obtain⟨z1,z2,z3,z4⟩:=B9.2 he;rw[←hq2];have Zi:Gp sh (k+1) F2 V2 r9.2 ep kv:=⟨(O4 he).le (by omega),jC,z4,z1.le (by omega),by have:=hE.ep;omega,hE.un,fun q=>by rw[z3]at q;exact absurd q (by decide)⟩;refine gy 2 ?_
      try rw[decide_eq_true OA]
      refine gy 8 ?_;refine y (eM rfl rfl underlying27) rfl ?_;refine gy 11 ?_;exact aV aq ae (vz (F2,V2,r9.2,kv,c) Zi)
     clear afR;refine gc 1 ?_;refine bO (A:=Nat) (fun z=>[(97,i64 z),(96,i64 a.ks.length),(13,aG CT a.ks.length),(9,i64 k),(5,dp F.q),(7,i64 ep),(8,.map (some F8)),(2,ptr b2),(1,va)]) (fun z=>aD CT 81 (dS (jD a.ks z))::so F8 (.map (cH kv) c)::sc b2 sh.cells 23::ao F U1 m++R) (fun z=>z≤a.ks.length) (fun z=>a.ks.length-z) (0) ?_ aq ae ?_
     · exact Nat.zero_le _
     rintro j qc KL2 Lm;have uE:=qc;have hkI:=qc;refine gc 5 ?_;refine cc rfl (fun aoN=>?_) (fun aoN=>?_)
     ·refine gc 10 ?_;obtain⟨y0,Ck⟩: ∃y,a.ks[j]? =some y:=⟨_,List.getElem?_eq_getElem (by omega)⟩;rcases CT with _|⟨bk,ck,sk⟩
      · exact absurd pO.1 (by omega)
      have oP:(dS (jD a.ks j)++sk).set (j*2) (i64 (qX .i64 y0.1 1))=dS (jD a.ks (j+1))++sk:=by rw[List.set_append_left _ _ (by rw[eD,lG];omega),yj (qi Ck),AZ Ck]
      have Zc:(dS (jD a.ks j)++sk)[j*2]? =some (i64 y0.1):=by rw[List.getElem?_append_left (by rw[eD,lG];omega)];exact vF (qi Ck)
      refine gy 2 ?_;refine y (iz rfl rfl underlying35 sizeOf81 (by omega) (by omega)) rfl ?_;refine gy 1 ?_;refine y (bR rfl isAgg3 aL (by simpa using Zc)) rfl ?_;refine y (kR rfl rfl) rfl ?_;refine y (iz rfl rfl underlying35 sizeOf81 (by omega) (by omega)) rfl ?_;refine gy 1 ?_;refine bA (an rfl rfl rfl sizeOf3 bc (by simp[eD,lG];omega) (by simpa using oP)) ?_;refine gy 5 ?_;rw[show IntKind.i64.wrap ((j:Int)+1)=((j+1:Nat):Int)by rw[wr (by omega) (by omega)];rfl];refine gy 3 ?_;exact Lm (j+1) (by omega) (by omega) _ _ aq ae
     refine gc 5 ?_;exact aV aq ae (B2 j ⟨uE,by omega⟩)
    refine gc 5 ?_;refine cc rfl (fun aoP=>?_) (fun aoP=>?_)
    ·refine gc 4 ?_;refine bK (Ki (q:=F.q) (D:=m.d) (i:=a.n)) call29 ?_;have hj3:Gp sh (k+1) F U1 (m.dA a.n) ep kv:=(hE.dA Wo.n.2).le (by omega);refine gy 3 ?_;exact aV aq ae (vz (F,U1,m.dA a.n,kv,c) hj3)
    refine gc 3 ?_;exact aV aq ae (vz (F,U1,m,kv,c) (hE.le (by omega)))
   refine gc 10 ?_;refine aj results10 rfl (L1:=R) ae ?_;exact⟨_,⟨by rfl,rfl⟩,by rfl⟩
  refine gy 16 ?_;refine aj results10 rfl (L1:=R) ae ?_;exact⟨_,⟨by rfl,rfl⟩,by rfl⟩
end W
end Go.Proofs