/- A part of the proof. -/
import Derived.Test.YtlignadmmopdmaaGreatUn
import Derived.Test.YtlignadmmopdmaaGreatN46
import Derived.Test.YtlignadmmopdmaaGreatNodW
import Derived.Test.YtlignadmmopdmaaGreatSlBa
set_option linter.unusedVariables false
set_option linter.unusedSimpArgs false
set_option linter.constructorNameAsVariable false
namespace Go.Proofs
open _root_.Go.Proofs.Tryz
open Go Go.Sl
namespace W
set_option maxHeartbeats 4000000
theorem pairT:PairT Tryz.prog 44:=pairT_of (m:=5) (by decide) (by kernel_rfl) (by kernel_rfl) underlying44 underlying2 (by kernel_rfl) (by kernel_rfl) (by kernel_rfl) (of_decide_eq_true (by kernel_rfl))
theorem pair_one(p:Int × Int): ∀u∈[i64 p.1,i64 p.2],u.oneCell'=true:=by
 intro u hu;simp only[List.mem_cons,List.not_mem_nil,or_false]at hu;rcases hu with rfl|rfl<;>rfl
theorem ans_next{kv:Kp}{c:Nat}{y:LetM}{g:Int→Int→Int}{t t':Int→Int→Nat}(h: ∀p q,pget kv (p,q)=g p q-(t p q:Nat))(ht: ∀p q,t' p q=t p q+if IsA p q y=true then 1 else 0)(hk:(decMsg y.body).1.kind=15)(p q:Int):
   pget (pset (pins kv c (y.to,(decMsg y.body).1.n)) (y.to,(decMsg y.body).1.n) (pget kv (y.to,(decMsg y.body).1.n)- 1)) (p,q)=g p q-(t' p q:Nat):=by
 rw[pget_put,ht]
 by_cases e:((p,q):Int × Int)=(y.to,(decMsg y.body).1.n)
 · obtain⟨rfl,rfl⟩:=Prod.mk.inj e;rw[if_pos rfl,h,if_pos (by unfold IsA;simp[hk])];omega
 rw[if_neg e,h,if_neg]
 · omega
 intro hx;unfold IsA at hx;simp only[Bool.and_eq_true,decide_eq_true_eq]at hx;exact e (by rw[hx.1.2,hx.2])
theorem lawNAnswers [Env]{R:List Seg}{sh:ShapeM}{va:Value}{acts:List ActN}(hA:RdV R va acts.length (actnsV acts))(hK: ∀a∈acts,a.ok R)(hlen:acts.length≤9223372036854775807):
   Con Tryz.prog 3 [.agg sh.cells.toArray,va] [] R (Is (.bool true) []):=by
 have hAl:=hA.lenVal;refine con_enter func3 ntmps3 rfl rfl ?_;refine gc 1 ?_;refine ya (ac_box (vs:=sh.cells) rfl rfl) rfl ?_;rintro v L' ⟨b2,rfl,rfl⟩;refine gy 5 ?_;refine yci (awake16) call12 ?_
 skip
 ·refine gy 7 ?_;refine y (ev_loadN (u:=sh.cells) rfl isAgg23 sizeOf23 zin rfl rfl) rfl ?_;rcases hbx:beginN sh with _|n
  ·refine ycall (nBeginNone (x:=sh) hbx) rfl call13 ztk rfl ?_;rintro v L' ⟨dv1,rfl,rfl⟩;refine gy 10 ?_;refine y (ev_eqlPnil rfl rfl underlying27) rfl ?_;refine gy 9 ?_;refine kretv results3 rfl (L1:=R) zge ?_;exact⟨_,⟨by rfl,rfl⟩,by rfl⟩
  refine ycall (nBeginSome (x:=sh) hbx) rfl call13 ztk rfl ?_;rintro v L' ⟨F1,V1,hV1,rfl,rfl⟩;refine gy 10 ?_;refine y (ev_eqlPnil rfl rfl underlying27) rfl ?_;refine gy 6 ?_;refine ya (ac_makeMap) rfl ?_;rintro v L' ⟨b26,rfl,rfl⟩;refine gy 5 ?_;have hok0:=beginN_ok hbx;have hw0:=beginN_who hbx;refine gy 4 ?_;refine cloopT (A:=Nat × NV × NodM × Kp × Nat × (Int→Int→Nat)) (fun x=>[(8,i64 x.1),(6,ptr F1.p),(7,.map (some b26)),(2,ptr b2),(1,va)]) (fun x=>so b26 (.map (entsp x.2.2.2.1) x.2.2.2.2.1)::sc b2 sh.cells 23::nodL F1 x.2.1 x.2.2.1++R) (fun x=>x.1≤acts.length∧x.1≤80∧x.2.2.1.ok (140*x.1)∧NVok x.2.1 x.2.2.1∧x.2.2.1.who=(sh.id,sh.serial,false)∧Pok x.2.2.2.1 x.2.2.2.2.1∧(∀p q,pget x.2.2.2.1 (p,q)=x.2.2.2.2.2 p q)∧(∀p q,x.2.2.2.2.2 p q≤x.1)∧ ∀p q,x.2.2.1.waits.countP (IsW p q)≤x.2.2.2.2.2 p q) (fun x=>80-x.1) ((0,V1,n,[],0,fun _ _=>0)) ?_ zsub zge ?_
  · exact⟨Nat.zero_le _,Nat.zero_le _,hok0,hV1,hw0,.nil,fun _ _=>rfl,fun _ _=>Nat.zero_le _,fun p q=>by dsimp only;rw[beginN_waits hbx];exact Nat.zero_le _⟩
  rintro⟨k,U1,m,kv,c,f⟩ hI1 KL1 hL1;obtain⟨hk,hk80,hok,hU1,hwo,hpo,hpg,hpl,hcw⟩:=hI1;dsimp only at hk hk80 hok hU1 hwo hpo hpg hpl hcw ⊢;have hid:m.id=sh.id:=congrArg Prod.fst hwo;have hlo:m.lost=false:=congrArg (·.2.2) hwo;refine gc 4 ?_;refine y (ev_lenV rfl underlying24 hAl) rfl ?_;refine gy 2 ?_;refine ysp 31 rfl (fun h31=>?_) (fun h31=>?_)
  ·refine gy 5 ?_;refine cc rfl (fun h35=>?_) (fun h35=>?_)
   ·refine gc 5 ?_;obtain⟨a,hga⟩: ∃a,acts[k]? =some a:=⟨_,List.getElem?_eq_getElem (by omega)⟩;have hao:=hK a (List.mem_of_getElem? hga);refine gy 2 ?_;refine y (ev_ixV hA rfl rfl underlying24 sizeOf37 (by omega) (by omega)) rfl ?_;refine y (ev_loadNV (us:=a.cells) (k*19) hA zge rfl isAgg37 sizeOf37 (by simp) (actnsV_get hga) rfl) rfl ?_;refine ya (ac_alloc zeroValue37 rfl) rfl ?_;rintro v L' ⟨b9,rfl,rfl⟩;refine yst (ac_storeN (vs':=a.cells) rfl rfl (actn_one hao.keeps.lenVal) sizeOf37 zrp rfl (by decide) rfl) ?_;refine gy 4 ?_;refine y (ev_loadN (u:=a.cells) rfl isAgg37 sizeOf37 zin rfl rfl) rfl ?_;refine yci (nLarge (x:=a) ?lx43) call14 ?_
    case lx43=>exact hao.mono zge
    refine gy 2 ?_;refine cc rfl (fun h44=>?_) (fun h44=>?_)
    ·refine gc 11 ?_;refine kretv results3 rfl (L1:=R) zge ?_;exact⟨_,⟨by rfl,rfl⟩,by rfl⟩
    have hlg:largeB a=false:=by simpa using h44
    refine gc 9 ?_;refine cc rfl (fun h49=>?_) (fun h49=>?_)
    ·refine gc 7 ?_;rw[show IntKind.i64.wrap ((k:Int)+1)=((k+1:Nat):Int)by rw[wr (by omega) (by omega)];rfl];refine gy 3 ?_;exact hL1 (k+1,U1,m,kv,c,f) ⟨by dsimp only;omega,by dsimp only;omega,by dsimp only;exact hok.le (by omega),hU1,hwo,hpo,hpg,fun p q=>Nat.le_trans (hpl p q) (by dsimp only;omega),hcw⟩ (by dsimp only;omega) _ _ zsub zge
    have hk1:a.kind≤1:=by have q: ¬1<a.kind:=h49;omega
    refine gc 2 ?_;refine cseqT ?_;intro K22 hK22
    have hJr18: ∀x:Kp × Nat,(Pok x.1 x.2∧ ∀p q,pget x.1 (p,q)=((f p q+NodM.calls sh.id a p q:Nat):Int))→Sk 142 K22 ([(8,i64 k),(6,ptr F1.p),(7,.map (some b26)),(2,ptr b2),(1,va),(9,ptr b9)]) (so b26 (.map (entsp x.1) x.2)::sc b9 a.cells 37::sc b2 sh.cells 23::nodL F1 U1 m++R):=by
     rintro⟨kv2,c2⟩ hIr18;refine hK22 _ _ ?_;obtain⟨hpo2,hpg2⟩:=hIr18;obtain⟨hso,hsc⟩:=NodM.told_ans (c:=f) hcw (hok.le (show 140*k≤900000 by omega)) (by omega) hlo a;rw[hid]at hso hsc;have htl:=told_len hok a;have hid3:(m.step a).id=sh.id:=(congrArg Prod.fst (NodM.step_who hlo a)).trans hid;have hcl:=NodM.calls_le sh.id a;refine gc 2 ?_;refine y (ev_loadN (u:=a.cells) rfl isAgg37 sizeOf37 zin rfl rfl) rfl ?_;refine ycall (nStep (F:=F1) (V:=U1) (n:=m) (a:=a) (hok.le (by omega)) hU1 hlg hao.keeps.lenVal) rfl call17 ztk rfl ?_;rintro v L' ⟨Y1,hY1,rfl,hu1⟩;have hul:=hu1.lenVal;refine y (ev_lenV rfl underlying45 hul) rfl ?_;refine gy 4 ?_;refine cloopT (A:=Nat × Kp × Nat) (fun x=>[(94,i64 x.1),(93,i64 (m.told a).length),(92,v),(8,i64 k),(6,ptr F1.p),(7,.map (some b26)),(2,ptr b2),(1,va)]) (fun x=>so b26 (.map (entsp x.2.1) x.2.2)::sc b2 sh.cells 23::nodL F1 Y1 (m.step a)++R) (fun x=>x.1≤(m.told a).length∧Pok x.2.1 x.2.2∧ ∀p q,pget x.2.1 (p,q)=((f p q+NodM.calls sh.id a p q:Nat):Int)-(((m.told a).take x.1).countP (IsA p q):Nat)) (fun x=>(m.told a).length-x.1) ((0,kv2,c2)) ?_ zsub zge ?_
     · exact⟨Nat.zero_le _,hpo2,fun p q=>by dsimp only;rw[hpg2];simp⟩
     rintro⟨j,kv3,c3⟩ hI2 KL2 hL2;obtain⟨hj,hpo3,hpg3⟩:=hI2;dsimp only at hj hpo3 hpg3 ⊢;refine gc 5 ?_;refine cc rfl (fun h59=>?_) (fun h59=>?_)
     ·refine gc 5 ?_;obtain⟨y1,hy⟩: ∃y,(m.told a)[j]? =some y:=⟨_,List.getElem?_eq_getElem (by omega)⟩;obtain⟨q1,q2,q3,q4,q5,q6⟩:=hso y1 (List.mem_of_getElem? hy);have hmo:=NodM.decMsg_ok q1;refine y (ev_ixV hu1 rfl rfl underlying45 sizeOf42 (by omega) (by omega)) rfl ?_;refine y (ev_loadNV (us:=y1.cells) (j*3) hu1 zge rfl isAgg42 sizeOf42 (by simp) (letsV_get hy) rfl) rfl ?_;refine ya (ac_alloc zeroValue42 rfl) rfl ?_;rintro v L' ⟨b13,rfl,rfl⟩;refine yst (ac_storeAll rfl rfl (let_one _) sizeOf42 zrp rfl rfl) ?_;refine gy 5 ?_;refine yci (x11Decode (s:=y1.body) ?nlen66) call15 ?_
      case nlen66=>exact q5
      refine gy 3 ?_;refine ya (ac_alloc zeroValue34 rfl) rfl ?_;rintro v L' ⟨b14,rfl,rfl⟩;refine yst (ac_storeAll rfl rfl (msgC_one _) sizeOf34 zrp rfl rfl) ?_;refine gy 6 ?_;rw[q1]
      skip
      ·refine gy 4 ?_;rw[q2];refine gy 3 ?_;rw[show(!decide (sh.id=sh.id))=false by simp];refine gy 7 ?_;rw[decide_eq_false (show¬y1.to=sh.id from q3)];refine gy 13 ?_;refine cc rfl (fun h92=>?_) (fun h92=>?_)
       ·have hkd: ¬(decMsg y1.body).1.kind=15:=h92;have hq4:=q4 hkd;have hno2: ∀p q,IsA p q y1=false:=fun p q=>by unfold IsA;rw[decide_eq_false hkd];rfl
        refine gc 7 ?_;refine cc rfl (fun h96=>?_) (fun h96=>?_)
        ·exfalso;omega
        refine gc 8 ?_;rw[show IntKind.i64.wrap ((j:Int)+1)=((j+1:Nat):Int)by rw[wr (by omega) (by omega)];rfl];refine gy 3 ?_;exact hL2 (j+1,kv3,c3) ⟨by dsimp only;omega,hpo3,fun p q=>by dsimp only;rw[hpg3,take_snoc hy,List.countP_append,List.countP_singleton,hno2];simp⟩ (by dsimp only;omega) _ _ zsub zge
       have hkd:(decMsg y1.body).1.kind=15:=h92;refine gc 3 ?_
       have hpi3:pIn (y1.to,(decMsg y1.body).1.n):=by
         have q:=hmo.n;exact⟨⟨by dsimp only;omega,by dsimp only;omega⟩,⟨by dsimp only;omega,by dsimp only;omega⟩⟩
       have hg3:=hpg3 y1.to (decMsg y1.body).1.n;have hfl3:=hpl y1.to (decMsg y1.body).1.n;have hcl3:=hcl y1.to (decMsg y1.body).1.n;have hyes:IsA y1.to (decMsg y1.body).1.n y1=true:=by unfold IsA;simp[hkd]
       have htk: ∀p q,((m.told a).take (j+1)).countP (IsA p q)=((m.told a).take j).countP (IsA p q)+if IsA p q y1=true then 1 else 0:=fun p q=>by rw[take_snoc hy,List.countP_append,List.countP_singleton]
       have htop:((m.told a).take (j+1)).countP (IsA y1.to (decMsg y1.body).1.n)≤(m.told a).countP (IsA y1.to (decMsg y1.body).1.n):=List.Sublist.countP_le (List.take_sublist _ _);have hcnt:=hsc y1.to (decMsg y1.body).1.n;have htk1:=htk y1.to (decMsg y1.body).1.n;rw[if_pos hyes]at htk1;refine gy 4 ?_;refine y (ev_buildA (vs:=[i64 y1.to,i64 (decMsg y1.body).1.n]) (zs:=_) rfl underlying44 zeroValue44 rfl sizeOf2 ⟨⟨_,_,rfl,(by rfl),(by decide)⟩,⟨⟨_,_,rfl,(by rfl),(by decide)⟩,trivial⟩⟩ (by dsimp[fillL,splice,vcells]<;>rfl)) rfl ?_;refine ya (ac_alloc zeroValue44 rfl) rfl ?_;rintro v L' ⟨b16,rfl,rfl⟩;refine yst (ac_storeAll rfl rfl (pair_one (y1.to,(decMsg y1.body).1.n)) sizeOf44 zrp rfl rfl) ?_;refine gy 3 ?_;refine cdrawN 6 (.op 0 0 (.op 1 1 (.fork 2 (.op 3 0 (.op 4 2 (.op 5 0 (.nil)))) 4 (.op 5 0 (.op 2 2 (.op 3 0 (.nil))))))) ([sc b16 [i64 y1.to,i64 (decMsg y1.body).1.n] 44]++R) Tryz.mixed (by kernel_rfl) zge ?_;refine nz rfl (ev_move rfl) rfl ?_;refine nr rfl (ev_loadN (u:=[i64 y1.to,i64 (decMsg y1.body).1.n]) rfl isAgg44 sizeOf44 zin rfl rfl) rfl ?_;refine nfork ?_ ?_
       ·refine na rfl (ac_of_ev ((by(refine ev_plookup (k:=(y1.to,(decMsg y1.body).1.n)) rfl rfl underlying30 pairT zeroValue3 ?_ hpo3 hpi3;(repeat first|exact .z|apply In.s))))) rfl ?_;rintro v L' ⟨rfl,rfl⟩;refine⟨zge,?_⟩;refine nz rfl (ev_sub rfl rfl) rfl ?_;rw[wr (by omega) (by omega)];refine na rfl (ac_mapEntryP (k:=(y1.to,(decMsg y1.body).1.n)) rfl rfl underlying30 pairT zeroValue3 hpo3 hpi3 zrp) rfl ?_;rintro v L' ⟨rfl,rfl⟩;refine⟨zge,?_⟩;refine nz rfl (ev_extract rfl rfl) rfl ?_;refine nnil ?_;refine yst (ac_entryStoreP (k:=(y1.to,(decMsg y1.body).1.n)) rfl rfl rfl (hpo3.ins hpi3) (pins_born _ _ _) zrp) ?_;refine gy 3 ?_;have hpo4:=(hpo3.ins hpi3).set (y1.to,(decMsg y1.body).1.n) (pget kv3 (y1.to,(decMsg y1.body).1.n)- 1);have hg4:=pget_put kv3 c3 (y1.to,(decMsg y1.body).1.n) (y1.to,(decMsg y1.body).1.n) (pget kv3 (y1.to,(decMsg y1.body).1.n)- 1);rw[if_pos rfl]at hg4;refine gy 1 ?_;refine y (ev_loadN (u:=[i64 y1.to,i64 (decMsg y1.body).1.n]) rfl isAgg44 sizeOf44 zin rfl rfl) rfl ?_;refine y (ev_plookup (k:=(y1.to,(decMsg y1.body).1.n)) rfl rfl underlying30 pairT zeroValue3 zin hpo4 hpi3) rfl ?_;refine gy 3 ?_;refine cc rfl (fun h117=>?_) (fun h117=>?_)
        ·exfalso;have q:=h117;rw[hg4]at q;omega
        refine gc 5 ?_;rw[show IntKind.i64.wrap ((j:Int)+1)=((j+1:Nat):Int)by rw[wr (by omega) (by omega)];rfl];refine gy 3 ?_;exact hL2 (j+1,pset (pins kv3 c3 (y1.to,(decMsg y1.body).1.n)) (y1.to,(decMsg y1.body).1.n) (pget kv3 (y1.to,(decMsg y1.body).1.n)- 1),pclk kv3 c3 (y1.to,(decMsg y1.body).1.n)) ⟨by dsimp only;omega,hpo4,fun p q=>by dsimp only;exact ans_next hpg3 htk hkd p q⟩ (by dsimp only;omega) _ _ zsub zge
       refine na rfl (ac_mapEntryP (k:=(y1.to,(decMsg y1.body).1.n)) rfl rfl underlying30 pairT zeroValue3 hpo3 hpi3 zrp) rfl ?_;rintro v L' ⟨rfl,rfl⟩;refine⟨zge,?_⟩;refine nz rfl (ev_extract rfl rfl) rfl ?_;refine na rfl (ac_of_ev ((by(refine ev_plookupI (k:=(y1.to,(decMsg y1.body).1.n)) rfl rfl underlying30 pairT zeroValue3 ?_ hpo3 hpi3;(repeat first|exact .z|apply In.s))))) rfl ?_;rintro v L' ⟨rfl,rfl⟩;refine⟨zge,?_⟩;refine nz rfl (ev_sub rfl rfl) rfl ?_;rw[wr (by omega) (by omega)];refine nnil ?_;refine yst (ac_entryStoreP (k:=(y1.to,(decMsg y1.body).1.n)) rfl rfl rfl (hpo3.ins hpi3) (pins_born _ _ _) zrp) ?_;refine gy 3 ?_;have hpo4:=(hpo3.ins hpi3).set (y1.to,(decMsg y1.body).1.n) (pget kv3 (y1.to,(decMsg y1.body).1.n)- 1);have hg4:=pget_put kv3 c3 (y1.to,(decMsg y1.body).1.n) (y1.to,(decMsg y1.body).1.n) (pget kv3 (y1.to,(decMsg y1.body).1.n)- 1);rw[if_pos rfl]at hg4;refine gy 1 ?_;refine y (ev_loadN (u:=[i64 y1.to,i64 (decMsg y1.body).1.n]) rfl isAgg44 sizeOf44 zin rfl rfl) rfl ?_;refine y (ev_plookup (k:=(y1.to,(decMsg y1.body).1.n)) rfl rfl underlying30 pairT zeroValue3 zin hpo4 hpi3) rfl ?_;refine gy 3 ?_;refine cc rfl (fun h129=>?_) (fun h129=>?_)
       ·exfalso;have q:=h129;rw[hg4]at q;omega
       refine gc 5 ?_;rw[show IntKind.i64.wrap ((j:Int)+1)=((j+1:Nat):Int)by rw[wr (by omega) (by omega)];rfl];refine gy 3 ?_;exact hL2 (j+1,pset (pins kv3 c3 (y1.to,(decMsg y1.body).1.n)) (y1.to,(decMsg y1.body).1.n) (pget kv3 (y1.to,(decMsg y1.body).1.n)- 1),pclk kv3 c3 (y1.to,(decMsg y1.body).1.n)) ⟨by dsimp only;omega,hpo4,fun p q=>by dsimp only;exact ans_next hpg3 htk hkd p q⟩ (by dsimp only;omega) _ _ zsub zge
     have hjl:j=(m.told a).length:=by have q:=h59;omega
     refine gc 9 ?_;rw[show IntKind.i64.wrap ((k:Int)+1)=((k+1:Nat):Int)by rw[wr (by omega) (by omega)];rfl];refine gy 3 ?_;exact hL1 (k+1,Y1,m.step a,kv3,c3,fun p q=>f p q+NodM.calls sh.id a p q-(m.told a).countP (IsA p q)) ⟨by dsimp only;omega,by dsimp only;omega,by dsimp only;exact(hok.step a).le (by omega),hY1,(NodM.step_who hlo a).trans hwo,hpo3,fun p q=>by have h1:=hpg3 p q;have h2:=hsc p q;dsimp only;rw[h1,hjl,List.take_length];omega,fun p q=>by have h1:=hpl p q;have h2:=hcl p q;dsimp only;omega,fun p q=>by have h2:=hsc p q;dsimp only;omega⟩ (by dsimp only;omega) _ _ zsub zge
    clear hK22;refine gc 5 ?_;refine ysp 49 rfl (fun h139=>?_) (fun h139=>?_)
    ·have c1:a.kind=0:=h139;refine gy 5 ?_;refine ysp 54 rfl (fun h145=>?_) (fun h145=>?_)
     ·have c2:4≤a.fr:=by have q:=h145;omega
      refine gy 5 ?_;refine ysp 59 rfl (fun h151=>?_) (fun h151=>?_)
      ·have c3:a.fr<8:=by have q:=h151;omega
       refine gy 8 ?_;refine cc rfl (fun h158=>?_) (fun h158=>?_)
       ·have c4:a.to=sh.id:=h158;refine gc 1 ?_;refine y (ev_loadN (u:=a.cells) rfl isAgg37 sizeOf37 zin rfl rfl) rfl ?_;refine yci (nLetter (x:=a)) call16 ?_;refine y (ev_field1 2 rfl underlying42 rfl isAgg9 rfl) rfl ?_;refine yci (x11Decode (s:=(letN a).body) ?nlen162) call15 ?_
        case nlen162=>exact letN_len hlg
        refine gy 3 ?_;refine ya (ac_alloc zeroValue34 rfl) rfl ?_;rintro v L' ⟨b10,rfl,rfl⟩;refine yst (ac_storeAll rfl rfl (msgC_one _) sizeOf34 zrp rfl rfl) ?_;refine gy 7 ?_;refine ysp 75 rfl (fun h172=>?_) (fun h172=>?_)
        ·have c5:(decMsg (letN a).body).2=0:=h172;refine gy 6 ?_;refine cc rfl (fun h177=>?_) (fun h177=>?_)
         ·have c6:(decMsg (letN a).body).1.kind=14:=h177;refine cdrawN 10 (.op 0 0 (.op 1 0 (.op 2 1 (.op 3 0 (.op 4 1 (.op 5 0 (.fork 6 (.op 7 0 (.op 8 2 (.op 9 0 (.nil)))) 8 (.op 9 0 (.op 6 2 (.op 7 0 (.nil))))))))))) ([sc b9 a.cells 37,sc b10 (decMsg (letN a).body).1.cells 34]++R) Tryz.mixed (by kernel_rfl) zge ?_
          have hpi:pIn (a.fr,(decMsg (letN a).body).1.n):=by
            have q:=(NodM.decMsg_ok c5).n;exact⟨⟨by dsimp only;omega,by dsimp only;omega⟩,⟨by dsimp only;omega,by dsimp only;omega⟩⟩
          have hfl:=hpl a.fr (decMsg (letN a).body).1.n;have hfg:=hpg a.fr (decMsg (letN a).body).1.n;refine nz rfl (ev_move rfl) rfl ?_;refine nz rfl (ev_fieldAddr 2 rfl underlying37 rfl sizeOf3) rfl ?_;refine nr rfl (ev_load rfl isAgg3 zin rfl) rfl ?_;refine nz rfl (ev_fieldAddr 3 rfl underlying34 rfl sizeOf2) rfl ?_;refine nr rfl (ev_load rfl isAgg2 zin rfl) rfl ?_;refine nz rfl (ev_buildA (vs:=[i64 a.fr,i64 (decMsg (letN a).body).1.n]) (zs:=_) rfl underlying44 zeroValue44 rfl sizeOf2 ⟨⟨_,_,rfl,(by rfl),(by decide)⟩,⟨⟨_,_,rfl,(by rfl),(by decide)⟩,trivial⟩⟩ (by dsimp[fillL,splice,vcells]<;>rfl)) rfl ?_;refine nfork ?_ ?_
          ·refine na rfl (ac_of_ev ((by(refine ev_plookup (k:=(a.fr,(decMsg (letN a).body).1.n)) rfl rfl underlying30 pairT zeroValue3 ?_ hpo hpi;(repeat first|exact .z|apply In.s))))) rfl ?_;rintro v L' ⟨rfl,rfl⟩;refine⟨zge,?_⟩;refine nz rfl (ev_add rfl rfl) rfl ?_;rw[wr (by omega) (by omega)];refine na rfl (ac_mapEntryP (k:=(a.fr,(decMsg (letN a).body).1.n)) rfl rfl underlying30 pairT zeroValue3 hpo hpi zrp) rfl ?_;rintro v L' ⟨rfl,rfl⟩;refine⟨zge,?_⟩;refine nz rfl (ev_extract rfl rfl) rfl ?_;refine nnil ?_;refine yst (ac_entryStoreP (k:=(a.fr,(decMsg (letN a).body).1.n)) rfl rfl rfl (hpo.ins hpi) (pins_born _ _ _) zrp) ?_;refine gy 2 ?_;exact ksub zsub zge (hJr18 (pset (pins kv c (a.fr,(decMsg (letN a).body).1.n)) (a.fr,(decMsg (letN a).body).1.n) (pget kv (a.fr,(decMsg (letN a).body).1.n)+1),pclk kv c (a.fr,(decMsg (letN a).body).1.n)) ⟨(hpo.ins hpi).set _ _,fun p q=>by dsimp only;rw[pget_put,NodM.calls_yes ⟨c1,c2,c3,c4,c5,c6⟩];split<;>simp_all⟩)
          refine na rfl (ac_mapEntryP (k:=(a.fr,(decMsg (letN a).body).1.n)) rfl rfl underlying30 pairT zeroValue3 hpo hpi zrp) rfl ?_;rintro v L' ⟨rfl,rfl⟩;refine⟨zge,?_⟩;refine nz rfl (ev_extract rfl rfl) rfl ?_;refine na rfl (ac_of_ev ((by(refine ev_plookupI (k:=(a.fr,(decMsg (letN a).body).1.n)) rfl rfl underlying30 pairT zeroValue3 ?_ hpo hpi;(repeat first|exact .z|apply In.s))))) rfl ?_;rintro v L' ⟨rfl,rfl⟩;refine⟨zge,?_⟩;refine nz rfl (ev_add rfl rfl) rfl ?_;rw[wr (by omega) (by omega)];refine nnil ?_;refine yst (ac_entryStoreP (k:=(a.fr,(decMsg (letN a).body).1.n)) rfl rfl rfl (hpo.ins hpi) (pins_born _ _ _) zrp) ?_;refine gy 2 ?_;exact ksub zsub zge (hJr18 (pset (pins kv c (a.fr,(decMsg (letN a).body).1.n)) (a.fr,(decMsg (letN a).body).1.n) (pget kv (a.fr,(decMsg (letN a).body).1.n)+1),pclk kv c (a.fr,(decMsg (letN a).body).1.n)) ⟨(hpo.ins hpi).set _ _,fun p q=>by dsimp only;rw[pget_put,NodM.calls_yes ⟨c1,c2,c3,c4,c5,c6⟩];split<;>simp_all⟩)
         have hno: ∀p q,NodM.calls sh.id a p q=0:=NodM.calls_no fun z=>h177 z.2.2.2.2.2
         refine gc 2 ?_;exact ksub zsub zge (hJr18 (kv,c) ⟨hpo,fun p q=>by dsimp only;rw[hno,hpg];rfl⟩)
        have hno: ∀p q,NodM.calls sh.id a p q=0:=NodM.calls_no fun z=>h172 z.2.2.2.2.1
        refine gy 9 ?_;exact ksub zsub zge (hJr18 (kv,c) ⟨hpo,fun p q=>by dsimp only;rw[hno,hpg];rfl⟩)
       have hno: ∀p q,NodM.calls sh.id a p q=0:=NodM.calls_no fun z=>h158 z.2.2.2.1
       refine gc 2 ?_;exact ksub zsub zge (hJr18 (kv,c) ⟨hpo,fun p q=>by dsimp only;rw[hno,hpg];rfl⟩)
      have hno: ∀p q,NodM.calls sh.id a p q=0:=NodM.calls_no fun z=>by have q:=h151;have:=z.2.2.1;omega
      refine gy 11 ?_;exact ksub zsub zge (hJr18 (kv,c) ⟨hpo,fun p q=>by dsimp only;rw[hno,hpg];rfl⟩)
     have hno: ∀p q,NodM.calls sh.id a p q=0:=NodM.calls_no fun z=>by have q:=h145;have:=z.2.1;omega
     refine gy 16 ?_;exact ksub zsub zge (hJr18 (kv,c) ⟨hpo,fun p q=>by dsimp only;rw[hno,hpg];rfl⟩)
    have hno: ∀p q,NodM.calls sh.id a p q=0:=NodM.calls_no fun z=>h139 z.1
    refine gy 21 ?_;exact ksub zsub zge (hJr18 (kv,c) ⟨hpo,fun p q=>by dsimp only;rw[hno,hpg];rfl⟩)
   refine gc 10 ?_;refine kretv results3 rfl (L1:=R) zge ?_;exact⟨_,⟨by rfl,rfl⟩,by rfl⟩
  refine gy 16 ?_;refine kretv results3 rfl (L1:=R) zge ?_;exact⟨_,⟨by rfl,rfl⟩,by rfl⟩
end W
end Go.Proofs