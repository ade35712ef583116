/- A part of the proof. -/
import Derived.Test.YtlignadmmopdmaaGreatUn
import Derived.Test.YtlignadmmopdmaaGreatNodL
set_option linter.unusedVariables false
set_option linter.unusedSimpArgs false
set_option linter.constructorNameAsVariable false
namespace Go.Proofs
open _root_.Go.Proofs.Tryz
open Go Go.Sl
namespace W
set_option maxHeartbeats 2000000
theorem nReads [Env]{R:List Seg}{F:NF}{V:NV}{n:NodM}(hn:n.ok 990000)(hV:NVok V n):
   Con Tryz.prog 102 [ptr F.p] (nodL F V n) R (KN F n.reads (.tuple #[])):=by
 have hwn:=hn.w.n;have hon:=hn.out;have hlo:=hn.n.loads;have hbl:=hn.p.bl;have hblk:=hn.a.blocks;have hlen:=NodM.all_len hn;have hsw:svOk V.sw n.waits.length 7 (waitsV n.waits):=hV.sw;have hrd:RdV [waiS V n] (svVal V.sw n.waits.length) n.waits.length (waitsV n.waits):=rdV_sv .z hsw;refine con_enter func102 ntmps102 rfl rfl ?_;unfold nodL ndC;refine gc 4 ?_;refine cseqT ?_;intro K2 hK2;refine gc 6 ?_;refine y (ev_lenSv rfl underlying101 (by assumption)) rfl ?_;refine gy 3 ?_
 have hJ1: ∀x:Nat × List WaitM × Sv × Sv × List LetM × Int,((x.1≤n.waits.length∧readsN n x.1=(x.2.1,wol n x.2.2.2.2.1 x.2.2.2.2.2)∧svOk x.2.2.2.1 x.2.2.2.2.1.length 3 (letsV x.2.2.2.2.1)∧svOk x.2.2.1 x.2.1.length 7 (waitsV x.2.1)∧x.2.2.2.2.1.length≤990000+x.1∧0≤x.2.2.2.2.2∧x.2.2.2.2.2≤990000+x.1∧x.2.1.length≤x.1)∧(x.1=n.waits.length))→Sk 93 K2 ([(14,i64 x.1),(13,i64 n.waits.length),(12,svVal V.sw n.waits.length),(2,svVal x.2.2.1 x.2.1.length),(0,ptr F.p)]) (svSeg x.2.2.1 177 (waitsV x.2.1)::nodL F {V with out:=x.2.2.2.1} (wol n x.2.2.2.2.1 x.2.2.2.2.2)++R):=by
  rintro⟨k,ks,s,o,l,q⟩ ⟨hI1,hX1⟩;refine hK2 _ _ ?_;obtain⟨hk,hE,hol,hks,hll,hq0,hq1,hkl⟩:=hI1;dsimp only at hk hE hol hks hll hq0 hq1 hkl ⊢;unfold nodL ndC;dsimp only at hX1;rw[hX1]at hE;have hma:=readsN_all hE;refine gc 6 ?_;refine yst (ac_store rfl rfl (by exact svVal_one _ _) sizeOf101 zrp rfl rfl) ?_;refine gy 1 ?_;refine kendv0 results102 (L1:=nodL F {V with out:=o,sw:=s} {wol n l q with waits:=ks}++R) zge ?_;rw[hma];exact⟨_,⟨{V with out:=o,sw:=s},rfl,⟨hol,hks,hV.si,hV.sl⟩,rfl⟩,rfl⟩
 clear hK2;refine gc 1 ?_;refine cloopT (A:=Nat × List WaitM × Sv × Sv × List LetM × Int) (fun x=>[(14,i64 x.1),(13,i64 n.waits.length),(12,svVal V.sw n.waits.length),(2,svVal x.2.2.1 x.2.1.length),(0,ptr F.p)]) (fun x=>svSeg x.2.2.1 177 (waitsV x.2.1)::nodL F {V with out:=x.2.2.2.1} (wol n x.2.2.2.2.1 x.2.2.2.2.2)++R) (fun x=>x.1≤n.waits.length∧readsN n x.1=(x.2.1,wol n x.2.2.2.2.1 x.2.2.2.2.2)∧svOk x.2.2.2.1 x.2.2.2.2.1.length 3 (letsV x.2.2.2.2.1)∧svOk x.2.2.1 x.2.1.length 7 (waitsV x.2.1)∧x.2.2.2.2.1.length≤990000+x.1∧0≤x.2.2.2.2.2∧x.2.2.2.2.2≤990000+x.1∧x.2.1.length≤x.1) (fun x=>n.waits.length-x.1) ((0,[],none,V.out,n.out,n.loads)) ?_ zsub zge ?_
 · exact⟨Nat.zero_le _,rfl,hV.out,⟨rfl,rfl⟩,by dsimp only;omega,by dsimp only;omega,by dsimp only;omega,Nat.le_refl _⟩
 rintro⟨k,ks,s,o,l,q⟩ hI1 KL1 hL1;have hI1o:=hI1;obtain⟨hk,hE,hol,hks,hll,hq0,hq1,hkl⟩:=hI1;dsimp only at hk hE hol hks hll hq0 hq1 hkl ⊢;unfold nodL ndC;refine gc 5 ?_;refine cc rfl (fun h16=>?_) (fun h16=>?_)
 ·refine gc 5 ?_;obtain⟨w,hw⟩: ∃w,n.waits[k]? =some w:=⟨_,List.getElem?_eq_getElem (by omega)⟩;have hwo:=hn.w.all w (List.mem_of_getElem? hw);have hcl:=hwo.cl;have hsu:=readsN_succ hw;rw[hE]at hsu;obtain⟨ox,hox⟩: ∃z,aget (wol n l q).c.en w.blk=z:=⟨_,rfl⟩;obtain⟨wp,hwp⟩: ∃z,NodM.writingAt (wol n l q).waits w.blk=z:=⟨_,rfl⟩;refine y (ev_ixV hrd rfl rfl underlying101 sizeOf177 (by omega) (by omega)) rfl ?_;refine y (ev_loadNV (us:=w.cells) (k*7) hrd zge rfl isAgg177 sizeOf177 (by simp) (flV_get wait7 hw) rfl) rfl ?_;refine ya (ac_alloc zeroValue177 rfl) rfl ?_;rintro v L' ⟨b4,rfl,rfl⟩;refine yst (ac_storeN (vs':=w.cells) rfl rfl (wait_one w) sizeOf177 zrp rfl (by decide) rfl) ?_;refine gy 13 ?_;refine ysp 22 rfl (fun h26=>?_) (fun h26=>?_)
  ·refine gy 5 ?_;refine ysp 27 rfl (fun h32=>?_) (fun h32=>?_)
   ·refine gy 3 ?_;refine ygo ?_;refine yci (nWriting (V:={V with out:=o}) (n:=wol n l q) ?wok36 ?wl36) call100 ?_
    case wok36=>exact hsw
    case wl36=>show n.waits.length≤1000000;omega
    rw[wrP_eq (n:=wol n l q) (o:=wp) hwp];rcases wp with _|wi
    ·refine ygo ?_;refine y (ev_eqlPnil rfl rfl underlying183) rfl ?_;refine gy 7 ?_;refine cdrawN 12 (.op 0 0 (.op 1 0 (.op 2 0 (.op 3 1 (.op 4 0 (.op 5 1 (.fork 6 (.op 7 0 (.op 8 0 (.op 9 0 (.op 10 2 (.op 11 2 (.nil)))))) 10 (.op 6 2 (.op 7 0 (.op 8 0 (.op 9 0 (.op 11 2 (.nil))))))))))))) ([sc b4 _ 177,sc F.p _ 106,caP F.A n.c,enS F.A n.c]++R) Tryz.mixed (by kernel_rfl) zge ?_;refine nz rfl (ev_move rfl) rfl ?_;refine nz rfl (ev_nil rfl) rfl ?_;refine nz rfl (ev_fieldAddr 7 rfl underlying106 rfl sizeOf98) rfl ?_;refine nr rfl (ev_load rfl isAgg98 zin rfl) rfl ?_;refine nz rfl (ev_fieldAddr 3 rfl underlying177 rfl sizeOf3) rfl ?_;refine nr rfl (ev_load rfl isAgg3 zin rfl) rfl ?_;refine nfork ?_ ?_
     ·refine ncall rfl (kGet) rfl call153 ztk rfl ?_;rintro v L' ⟨rfl,rfl⟩;refine⟨zge,?_⟩;rw[hox];refine nz rfl (ev_move rfl) rfl ?_;refine nz rfl (ev_extract rfl rfl) rfl ?_;refine nz rfl (ev_extract rfl rfl) rfl ?_;refine na rfl (ac_alloc zeroValue127 rfl) rfl ?_;rintro v L' ⟨b6,rfl,rfl⟩;refine⟨zge,?_⟩;refine naN rfl (ac_storeN (vs':=EntM.cells (ox.getD .zero)) rfl rfl (entM_one _) sizeOf127 zrp rfl (by decide) rfl) ?_;rintro v L' ⟨rfl,rfl⟩;refine⟨zge,?_⟩;refine nnil ?_;refine gy 7 ?_;refine cc rfl (fun h54=>?_) (fun h54=>?_)
      ·refine gc 1 ?_
       obtain⟨ex,rfl⟩: ∃z,ox=some z:=by
         rcases ox with _|ex
         · simp_all
         exact⟨ex,rfl⟩
       obtain⟨l2,hl2,hl2l⟩:=given_wol n l q w ex.data;have hs1:=hsu.trans (reads1_given (n:=n) (ks:=ks) (l:=l) (q:=q) (w:=w) (by assumption) (by assumption) hwp hox);rw[hl2]at hs1;refine gy 1 ?_;refine y (ev_loadAll rfl isAgg177 sizeOf177 zin (by rfl)) rfl ?_;refine gy 2 ?_;refine ycall (nGiven (V:={V with out:=o}) (n:=wol n l q) (w:=w) (data:=ex.data) ?oc59 ?ook59 ?ol59) rfl call154 ztk rfl ?_
       case oc59=>exact hcl
       case ook59=>exact hol
       case ol59=>show l.length≤1000000;omega
       rintro v L' ⟨o49,rfl,oko49,rfl⟩;rw[hl2]at oko49 ⊢;refine gy 21 ?_;rw[show IntKind.i64.wrap ((k:Int)+1)=((k+1:Nat):Int)by rw[wr (by omega) (by omega)];rfl];refine gy 3 ?_;exact hL1 (k+1,ks,s,o49,l2,q) ⟨by dsimp only;omega,hs1,oko49,hks,by dsimp only;omega,by dsimp only;omega,by dsimp only;omega,by dsimp only;omega⟩ (by dsimp only;omega) _ _ zsub zge
      refine gc 3 ?_
      have hon2:ox=none:=by
        rcases ox with _|ex
        · rfl
        simp_all
      have hs1:=hsu.trans (reads1_load (n:=n) (ks:=ks) (l:=l) (q:=q) (w:=w) (by assumption) (by assumption) hwp (hox.trans hon2));let w2:WaitM:={w with load:=q+1};refine gy 5 ?_;rw[show(wol n l q).loads=q from rfl,wr (by omega) (by omega)];refine gy 2 ?_;refine yst (ac_store rfl rfl (by rfl) sizeOf2 zrp rfl rfl) ?_;refine gy 8 ?_;refine yst (ac_store rfl rfl (by rfl) sizeOf2 zrp rfl rfl) ?_;refine gy 8 ?_;refine ycall (nLoad (V:={V with out:=o}) (n:=wol n l (q+1)) ?ook84 ?ol84) rfl call68 ztk rfl ?_
      case ook84=>exact hol
      case ol84=>show l.length≤1000000;omega
      rintro v L' ⟨o67,rfl,oko67,rfl⟩;refine gy 10 ?_;let w2:WaitM:=w2;have hs1:=hs1;refine gy 1 ?_;refine y (ev_loadAll rfl isAgg177 sizeOf177 zin (by rfl)) rfl ?_;refine ya (ac_bsliceR rfl underlying101 sizeOf177 zeroValue177 rfl rfl rfl rfl ⟨⟨_,_,rfl,(by rfl),(by decide)⟩,trivial⟩ (by dsimp[fillL,splice,vcells,reps]<;>rfl)) rfl ?_;rintro v L' ⟨b85,rfl,rfl⟩;refine ya (ac_append (s:=s) (xs:=waitsV ks) (m:=ks.length) (k:=1) (us:=w2.cells) (size:=7) rfl rfl (by repeat first|exact .z|apply Pk.s) underlying101 underlying101 (by intro q hq;cases hq) typeInfo177 rfl rfl rfl ?ok90 ?src90 ?one90 ?big90) rfl ?_
      case ok90=>exact hks
      case src90=>exact src_at zin rfl rfl
      case one90=>exact wait_one _
      case big90=>show(_+_)*57≤_;omega
      rintro v L' ⟨s86,rfl,ok86,rfl⟩;rw[←waitsV_snoc,show ks.length+1=(ks++[w2]).length by simp]at ok86 ⊢;refine gy 6 ?_;rw[show IntKind.i64.wrap ((k:Int)+1)=((k+1:Nat):Int)by rw[wr (by omega) (by omega)];rfl];refine gy 3 ?_;exact hL1 (k+1,ks++[w2],s86,o67,((wol n l (q+1)).load w.blk (q+1)).out,q+1) ⟨by dsimp only;omega,hs1,oko67,ok86,by show(l++[_]).length≤_;simp;omega,by dsimp only;omega,by dsimp only;omega,by simp;omega⟩ (by dsimp only;omega) _ _ zsub zge
     refine na rfl (ac_alloc zeroValue127 rfl) rfl ?_;rintro v L' ⟨b6,rfl,rfl⟩;refine⟨zge,?_⟩;refine ncall rfl (kGet) rfl call153 ztk rfl ?_;rintro v L' ⟨rfl,rfl⟩;refine⟨zge,?_⟩;rw[hox];refine nz rfl (ev_move rfl) rfl ?_;refine nz rfl (ev_extract rfl rfl) rfl ?_;refine nz rfl (ev_extract rfl rfl) rfl ?_;refine naN rfl (ac_storeN (vs':=EntM.cells (ox.getD .zero)) rfl rfl (entM_one _) sizeOf127 zrp rfl (by decide) rfl) ?_;rintro v L' ⟨rfl,rfl⟩;refine⟨zge,?_⟩;refine nnil ?_;refine gy 7 ?_;refine cc rfl (fun h102=>?_) (fun h102=>?_)
     ·refine gc 1 ?_
      obtain⟨ex,rfl⟩: ∃z,ox=some z:=by
        rcases ox with _|ex
        · simp_all
        exact⟨ex,rfl⟩
      obtain⟨l2,hl2,hl2l⟩:=given_wol n l q w ex.data;have hs1:=hsu.trans (reads1_given (n:=n) (ks:=ks) (l:=l) (q:=q) (w:=w) (by assumption) (by assumption) hwp hox);rw[hl2]at hs1;refine gy 1 ?_;refine y (ev_loadAll rfl isAgg177 sizeOf177 zin (by rfl)) rfl ?_;refine gy 2 ?_;refine ycall (nGiven (V:={V with out:=o}) (n:=wol n l q) (w:=w) (data:=ex.data) ?oc107 ?ook107 ?ol107) rfl call154 ztk rfl ?_
      case oc107=>exact hcl
      case ook107=>exact hol
      case ol107=>show l.length≤1000000;omega
      rintro v L' ⟨o49,rfl,oko49,rfl⟩;rw[hl2]at oko49 ⊢;refine gy 21 ?_;rw[show IntKind.i64.wrap ((k:Int)+1)=((k+1:Nat):Int)by rw[wr (by omega) (by omega)];rfl];refine gy 3 ?_;exact hL1 (k+1,ks,s,o49,l2,q) ⟨by dsimp only;omega,hs1,oko49,hks,by dsimp only;omega,by dsimp only;omega,by dsimp only;omega,by dsimp only;omega⟩ (by dsimp only;omega) _ _ zsub zge
     refine gc 3 ?_
     have hon2:ox=none:=by
       rcases ox with _|ex
       · rfl
       simp_all
     have hs1:=hsu.trans (reads1_load (n:=n) (ks:=ks) (l:=l) (q:=q) (w:=w) (by assumption) (by assumption) hwp (hox.trans hon2));let w2:WaitM:={w with load:=q+1};refine gy 5 ?_;rw[show(wol n l q).loads=q from rfl,wr (by omega) (by omega)];refine gy 2 ?_;refine yst (ac_store rfl rfl (by rfl) sizeOf2 zrp rfl rfl) ?_;refine gy 8 ?_;refine yst (ac_store rfl rfl (by rfl) sizeOf2 zrp rfl rfl) ?_;refine gy 8 ?_;refine ycall (nLoad (V:={V with out:=o}) (n:=wol n l (q+1)) ?ook132 ?ol132) rfl call68 ztk rfl ?_
     case ook132=>exact hol
     case ol132=>show l.length≤1000000;omega
     rintro v L' ⟨o67,rfl,oko67,rfl⟩;refine gy 10 ?_;let w2:WaitM:=w2;have hs1:=hs1;refine gy 1 ?_;refine y (ev_loadAll rfl isAgg177 sizeOf177 zin (by rfl)) rfl ?_;refine ya (ac_bsliceR rfl underlying101 sizeOf177 zeroValue177 rfl rfl rfl rfl ⟨⟨_,_,rfl,(by rfl),(by decide)⟩,trivial⟩ (by dsimp[fillL,splice,vcells,reps]<;>rfl)) rfl ?_;rintro v L' ⟨b85,rfl,rfl⟩;refine ya (ac_append (s:=s) (xs:=waitsV ks) (m:=ks.length) (k:=1) (us:=w2.cells) (size:=7) rfl rfl (by repeat first|exact .z|apply Pk.s) underlying101 underlying101 (by intro q hq;cases hq) typeInfo177 rfl rfl rfl ?ok138 ?src138 ?one138 ?big138) rfl ?_
     case ok138=>exact hks
     case src138=>exact src_at zin rfl rfl
     case one138=>exact wait_one _
     case big138=>show(_+_)*57≤_;omega
     rintro v L' ⟨s86,rfl,ok86,rfl⟩;rw[←waitsV_snoc,show ks.length+1=(ks++[w2]).length by simp]at ok86 ⊢;refine gy 6 ?_;rw[show IntKind.i64.wrap ((k:Int)+1)=((k+1:Nat):Int)by rw[wr (by omega) (by omega)];rfl];refine gy 3 ?_;exact hL1 (k+1,ks++[w2],s86,o67,((wol n l (q+1)).load w.blk (q+1)).out,q+1) ⟨by dsimp only;omega,hs1,oko67,ok86,by show(l++[_]).length≤_;simp;omega,by dsimp only;omega,by dsimp only;omega,by simp;omega⟩ (by dsimp only;omega) _ _ zsub zge
    refine ygo ?_;refine y (ev_eqlPnil rfl rfl underlying183) rfl ?_;refine gy 6 ?_;have hnf: ¬(w.op=1∧w.load=0∧n.writing w.blk=none):=fun hh=>writing_ne (n:=n) hwp hh.2.2
    refine gy 4 ?_;refine ysp 72 rfl (fun h149=>?_) (fun h149=>?_)
    ·refine gy 3 ?_;refine ygo ?_;refine yci (nFlushed (V:={V with out:=o}) (n:=wol n l q) ?fw153 ?fn153 ?fb153 ?fa153) call155 ?_
     case fw153=>exact hsw
     case fn153=>exact hwn
     case fb153=>show n.c.bl≤32;omega
     case fa153=>exact hlen
     refine gy 4 ?_;refine cc rfl (fun h156=>?_) (fun h156=>?_)
     ·refine gc 1 ?_;have hs1:=hsu.trans (reads1_sync (n:=n) (ks:=ks) (l:=l) (q:=q) hnf (by assumption) (by assumption));refine gy 1 ?_;refine y (ev_loadAll rfl isAgg177 sizeOf177 zin (by rfl)) rfl ?_;refine ycall (nAnswer (V:={V with out:=o}) (n:=wol n l q) (w:=w) (data:=[]) ?oc159 ?ook159 ?ol159) rfl call101 ztk rfl ?_
      case oc159=>exact hcl
      case ook159=>exact hol
      case ol159=>show l.length≤1000000;omega
      rintro v L' ⟨o80,rfl,oko80,rfl⟩;refine gy 18 ?_;rw[show IntKind.i64.wrap ((k:Int)+1)=((k+1:Nat):Int)by rw[wr (by omega) (by omega)];rfl];refine gy 3 ?_;exact hL1 (k+1,ks,s,o80,((wol n l q).answer w 0 []).out,q) ⟨by dsimp only;omega,hs1,oko80,hks,by show(l++[_]).length≤_;simp;omega,by dsimp only;omega,by dsimp only;omega,by dsimp only;omega⟩ (by dsimp only;omega) _ _ zsub zge
     refine gc 10 ?_;let w2:WaitM:=w
     (have hs1:=hsu.trans (reads1_keep (n:=n) (ks:=ks) (l:=l) (q:=q) (w:=w) hnf (fun hh=>by have h2:(wol n l q).flushed w.seq=true:=hh.2;simp_all)))
     refine gy 1 ?_;refine y (ev_loadAll rfl isAgg177 sizeOf177 zin (by rfl)) rfl ?_;refine ya (ac_bsliceR rfl underlying101 sizeOf177 zeroValue177 rfl rfl rfl rfl ⟨⟨_,_,rfl,(by rfl),(by decide)⟩,trivial⟩ (by dsimp[fillL,splice,vcells,reps]<;>rfl)) rfl ?_;rintro v L' ⟨b85,rfl,rfl⟩;refine ya (ac_append (s:=s) (xs:=waitsV ks) (m:=ks.length) (k:=1) (us:=w2.cells) (size:=7) rfl rfl (by repeat first|exact .z|apply Pk.s) underlying101 underlying101 (by intro q hq;cases hq) typeInfo177 rfl rfl rfl ?ok170 ?src170 ?one170 ?big170) rfl ?_
     case ok170=>exact hks
     case src170=>exact src_at zin rfl rfl
     case one170=>exact wait_one _
     case big170=>show(_+_)*57≤_;omega
     rintro v L' ⟨s86,rfl,ok86,rfl⟩;rw[←waitsV_snoc,show ks.length+1=(ks++[w2]).length by simp]at ok86 ⊢;refine gy 6 ?_;rw[show IntKind.i64.wrap ((k:Int)+1)=((k+1:Nat):Int)by rw[wr (by omega) (by omega)];rfl];refine gy 3 ?_;exact hL1 (k+1,ks++[w2],s86,o,l,q) ⟨by dsimp only;omega,hs1,hol,ok86,by dsimp only;omega,by dsimp only;omega,by dsimp only;omega,by simp;omega⟩ (by dsimp only;omega) _ _ zsub zge
    refine gy 19 ?_;let w2:WaitM:=w
    (have hs1:=hsu.trans (reads1_keep (n:=n) (ks:=ks) (l:=l) (q:=q) (w:=w) hnf (fun hh=>by have h2:(wol n l q).flushed w.seq=true:=hh.2;simp_all)))
    refine gy 1 ?_;refine y (ev_loadAll rfl isAgg177 sizeOf177 zin (by rfl)) rfl ?_;refine ya (ac_bsliceR rfl underlying101 sizeOf177 zeroValue177 rfl rfl rfl rfl ⟨⟨_,_,rfl,(by rfl),(by decide)⟩,trivial⟩ (by dsimp[fillL,splice,vcells,reps]<;>rfl)) rfl ?_;rintro v L' ⟨b85,rfl,rfl⟩;refine ya (ac_append (s:=s) (xs:=waitsV ks) (m:=ks.length) (k:=1) (us:=w2.cells) (size:=7) rfl rfl (by repeat first|exact .z|apply Pk.s) underlying101 underlying101 (by intro q hq;cases hq) typeInfo177 rfl rfl rfl ?ok181 ?src181 ?one181 ?big181) rfl ?_
    case ok181=>exact hks
    case src181=>exact src_at zin rfl rfl
    case one181=>exact wait_one _
    case big181=>show(_+_)*57≤_;omega
    rintro v L' ⟨s86,rfl,ok86,rfl⟩;rw[←waitsV_snoc,show ks.length+1=(ks++[w2]).length by simp]at ok86 ⊢;refine gy 6 ?_;rw[show IntKind.i64.wrap ((k:Int)+1)=((k+1:Nat):Int)by rw[wr (by omega) (by omega)];rfl];refine gy 3 ?_;exact hL1 (k+1,ks++[w2],s86,o,l,q) ⟨by dsimp only;omega,hs1,hol,ok86,by dsimp only;omega,by dsimp only;omega,by dsimp only;omega,by simp;omega⟩ (by dsimp only;omega) _ _ zsub zge
   have hnf: ¬(w.op=1∧w.load=0∧n.writing w.blk=none):=fun hh=>h32 hh.2.1
   refine gy 4 ?_;rcases wp with _|wi
   ·refine gy 7 ?_;have hnf:=hnf;refine gy 4 ?_;refine ysp 72 rfl (fun h191=>?_) (fun h191=>?_)
    ·refine gy 3 ?_;refine ygo ?_;refine yci (nFlushed (V:={V with out:=o}) (n:=wol n l q) ?fw195 ?fn195 ?fb195 ?fa195) call155 ?_
     case fw195=>exact hsw
     case fn195=>exact hwn
     case fb195=>show n.c.bl≤32;omega
     case fa195=>exact hlen
     refine gy 4 ?_;refine cc rfl (fun h198=>?_) (fun h198=>?_)
     ·refine gc 1 ?_;have hs1:=hsu.trans (reads1_sync (n:=n) (ks:=ks) (l:=l) (q:=q) hnf (by assumption) (by assumption));refine gy 1 ?_;refine y (ev_loadAll rfl isAgg177 sizeOf177 zin (by rfl)) rfl ?_;refine ycall (nAnswer (V:={V with out:=o}) (n:=wol n l q) (w:=w) (data:=[]) ?oc201 ?ook201 ?ol201) rfl call101 ztk rfl ?_
      case oc201=>exact hcl
      case ook201=>exact hol
      case ol201=>show l.length≤1000000;omega
      rintro v L' ⟨o80,rfl,oko80,rfl⟩;refine gy 18 ?_;rw[show IntKind.i64.wrap ((k:Int)+1)=((k+1:Nat):Int)by rw[wr (by omega) (by omega)];rfl];refine gy 3 ?_;exact hL1 (k+1,ks,s,o80,((wol n l q).answer w 0 []).out,q) ⟨by dsimp only;omega,hs1,oko80,hks,by show(l++[_]).length≤_;simp;omega,by dsimp only;omega,by dsimp only;omega,by dsimp only;omega⟩ (by dsimp only;omega) _ _ zsub zge
     refine gc 10 ?_;let w2:WaitM:=w
     (have hs1:=hsu.trans (reads1_keep (n:=n) (ks:=ks) (l:=l) (q:=q) (w:=w) hnf (fun hh=>by have h2:(wol n l q).flushed w.seq=true:=hh.2;simp_all)))
     refine gy 1 ?_;refine y (ev_loadAll rfl isAgg177 sizeOf177 zin (by rfl)) rfl ?_;refine ya (ac_bsliceR rfl underlying101 sizeOf177 zeroValue177 rfl rfl rfl rfl ⟨⟨_,_,rfl,(by rfl),(by decide)⟩,trivial⟩ (by dsimp[fillL,splice,vcells,reps]<;>rfl)) rfl ?_;rintro v L' ⟨b85,rfl,rfl⟩;refine ya (ac_append (s:=s) (xs:=waitsV ks) (m:=ks.length) (k:=1) (us:=w2.cells) (size:=7) rfl rfl (by repeat first|exact .z|apply Pk.s) underlying101 underlying101 (by intro q hq;cases hq) typeInfo177 rfl rfl rfl ?ok212 ?src212 ?one212 ?big212) rfl ?_
     case ok212=>exact hks
     case src212=>exact src_at zin rfl rfl
     case one212=>exact wait_one _
     case big212=>show(_+_)*57≤_;omega
     rintro v L' ⟨s86,rfl,ok86,rfl⟩;rw[←waitsV_snoc,show ks.length+1=(ks++[w2]).length by simp]at ok86 ⊢;refine gy 6 ?_;rw[show IntKind.i64.wrap ((k:Int)+1)=((k+1:Nat):Int)by rw[wr (by omega) (by omega)];rfl];refine gy 3 ?_;exact hL1 (k+1,ks++[w2],s86,o,l,q) ⟨by dsimp only;omega,hs1,hol,ok86,by dsimp only;omega,by dsimp only;omega,by dsimp only;omega,by simp;omega⟩ (by dsimp only;omega) _ _ zsub zge
    refine gy 19 ?_;let w2:WaitM:=w
    (have hs1:=hsu.trans (reads1_keep (n:=n) (ks:=ks) (l:=l) (q:=q) (w:=w) hnf (fun hh=>by have h2:(wol n l q).flushed w.seq=true:=hh.2;simp_all)))
    refine gy 1 ?_;refine y (ev_loadAll rfl isAgg177 sizeOf177 zin (by rfl)) rfl ?_;refine ya (ac_bsliceR rfl underlying101 sizeOf177 zeroValue177 rfl rfl rfl rfl ⟨⟨_,_,rfl,(by rfl),(by decide)⟩,trivial⟩ (by dsimp[fillL,splice,vcells,reps]<;>rfl)) rfl ?_;rintro v L' ⟨b85,rfl,rfl⟩;refine ya (ac_append (s:=s) (xs:=waitsV ks) (m:=ks.length) (k:=1) (us:=w2.cells) (size:=7) rfl rfl (by repeat first|exact .z|apply Pk.s) underlying101 underlying101 (by intro q hq;cases hq) typeInfo177 rfl rfl rfl ?ok223 ?src223 ?one223 ?big223) rfl ?_
    case ok223=>exact hks
    case src223=>exact src_at zin rfl rfl
    case one223=>exact wait_one _
    case big223=>show(_+_)*57≤_;omega
    rintro v L' ⟨s86,rfl,ok86,rfl⟩;rw[←waitsV_snoc,show ks.length+1=(ks++[w2]).length by simp]at ok86 ⊢;refine gy 6 ?_;rw[show IntKind.i64.wrap ((k:Int)+1)=((k+1:Nat):Int)by rw[wr (by omega) (by omega)];rfl];refine gy 3 ?_;exact hL1 (k+1,ks++[w2],s86,o,l,q) ⟨by dsimp only;omega,hs1,hol,ok86,by dsimp only;omega,by dsimp only;omega,by dsimp only;omega,by simp;omega⟩ (by dsimp only;omega) _ _ zsub zge
   refine gy 7 ?_;have hnf:=hnf;refine gy 4 ?_;refine ysp 72 rfl (fun h233=>?_) (fun h233=>?_)
   ·refine gy 3 ?_;refine ygo ?_;refine yci (nFlushed (V:={V with out:=o}) (n:=wol n l q) ?fw237 ?fn237 ?fb237 ?fa237) call155 ?_
    case fw237=>exact hsw
    case fn237=>exact hwn
    case fb237=>show n.c.bl≤32;omega
    case fa237=>exact hlen
    refine gy 4 ?_;refine cc rfl (fun h240=>?_) (fun h240=>?_)
    ·refine gc 1 ?_;have hs1:=hsu.trans (reads1_sync (n:=n) (ks:=ks) (l:=l) (q:=q) hnf (by assumption) (by assumption));refine gy 1 ?_;refine y (ev_loadAll rfl isAgg177 sizeOf177 zin (by rfl)) rfl ?_;refine ycall (nAnswer (V:={V with out:=o}) (n:=wol n l q) (w:=w) (data:=[]) ?oc243 ?ook243 ?ol243) rfl call101 ztk rfl ?_
     case oc243=>exact hcl
     case ook243=>exact hol
     case ol243=>show l.length≤1000000;omega
     rintro v L' ⟨o80,rfl,oko80,rfl⟩;refine gy 18 ?_;rw[show IntKind.i64.wrap ((k:Int)+1)=((k+1:Nat):Int)by rw[wr (by omega) (by omega)];rfl];refine gy 3 ?_;exact hL1 (k+1,ks,s,o80,((wol n l q).answer w 0 []).out,q) ⟨by dsimp only;omega,hs1,oko80,hks,by show(l++[_]).length≤_;simp;omega,by dsimp only;omega,by dsimp only;omega,by dsimp only;omega⟩ (by dsimp only;omega) _ _ zsub zge
    refine gc 10 ?_;let w2:WaitM:=w
    (have hs1:=hsu.trans (reads1_keep (n:=n) (ks:=ks) (l:=l) (q:=q) (w:=w) hnf (fun hh=>by have h2:(wol n l q).flushed w.seq=true:=hh.2;simp_all)))
    refine gy 1 ?_;refine y (ev_loadAll rfl isAgg177 sizeOf177 zin (by rfl)) rfl ?_;refine ya (ac_bsliceR rfl underlying101 sizeOf177 zeroValue177 rfl rfl rfl rfl ⟨⟨_,_,rfl,(by rfl),(by decide)⟩,trivial⟩ (by dsimp[fillL,splice,vcells,reps]<;>rfl)) rfl ?_;rintro v L' ⟨b85,rfl,rfl⟩;refine ya (ac_append (s:=s) (xs:=waitsV ks) (m:=ks.length) (k:=1) (us:=w2.cells) (size:=7) rfl rfl (by repeat first|exact .z|apply Pk.s) underlying101 underlying101 (by intro q hq;cases hq) typeInfo177 rfl rfl rfl ?ok254 ?src254 ?one254 ?big254) rfl ?_
    case ok254=>exact hks
    case src254=>exact src_at zin rfl rfl
    case one254=>exact wait_one _
    case big254=>show(_+_)*57≤_;omega
    rintro v L' ⟨s86,rfl,ok86,rfl⟩;rw[←waitsV_snoc,show ks.length+1=(ks++[w2]).length by simp]at ok86 ⊢;refine gy 6 ?_;rw[show IntKind.i64.wrap ((k:Int)+1)=((k+1:Nat):Int)by rw[wr (by omega) (by omega)];rfl];refine gy 3 ?_;exact hL1 (k+1,ks++[w2],s86,o,l,q) ⟨by dsimp only;omega,hs1,hol,ok86,by dsimp only;omega,by dsimp only;omega,by dsimp only;omega,by simp;omega⟩ (by dsimp only;omega) _ _ zsub zge
   refine gy 19 ?_;let w2:WaitM:=w
   (have hs1:=hsu.trans (reads1_keep (n:=n) (ks:=ks) (l:=l) (q:=q) (w:=w) hnf (fun hh=>by have h2:(wol n l q).flushed w.seq=true:=hh.2;simp_all)))
   refine gy 1 ?_;refine y (ev_loadAll rfl isAgg177 sizeOf177 zin (by rfl)) rfl ?_;refine ya (ac_bsliceR rfl underlying101 sizeOf177 zeroValue177 rfl rfl rfl rfl ⟨⟨_,_,rfl,(by rfl),(by decide)⟩,trivial⟩ (by dsimp[fillL,splice,vcells,reps]<;>rfl)) rfl ?_;rintro v L' ⟨b85,rfl,rfl⟩;refine ya (ac_append (s:=s) (xs:=waitsV ks) (m:=ks.length) (k:=1) (us:=w2.cells) (size:=7) rfl rfl (by repeat first|exact .z|apply Pk.s) underlying101 underlying101 (by intro q hq;cases hq) typeInfo177 rfl rfl rfl ?ok265 ?src265 ?one265 ?big265) rfl ?_
   case ok265=>exact hks
   case src265=>exact src_at zin rfl rfl
   case one265=>exact wait_one _
   case big265=>show(_+_)*57≤_;omega
   rintro v L' ⟨s86,rfl,ok86,rfl⟩;rw[←waitsV_snoc,show ks.length+1=(ks++[w2]).length by simp]at ok86 ⊢;refine gy 6 ?_;rw[show IntKind.i64.wrap ((k:Int)+1)=((k+1:Nat):Int)by rw[wr (by omega) (by omega)];rfl];refine gy 3 ?_;exact hL1 (k+1,ks++[w2],s86,o,l,q) ⟨by dsimp only;omega,hs1,hol,ok86,by dsimp only;omega,by dsimp only;omega,by dsimp only;omega,by simp;omega⟩ (by dsimp only;omega) _ _ zsub zge
  have hnf: ¬(w.op=1∧w.load=0∧n.writing w.blk=none):=fun hh=>h26 hh.1
  refine gy 9 ?_;rcases wp with _|wi
  ·refine gy 7 ?_;have hnf:=hnf;refine gy 4 ?_;refine ysp 72 rfl (fun h277=>?_) (fun h277=>?_)
   ·refine gy 3 ?_;refine ygo ?_;refine yci (nFlushed (V:={V with out:=o}) (n:=wol n l q) ?fw281 ?fn281 ?fb281 ?fa281) call155 ?_
    case fw281=>exact hsw
    case fn281=>exact hwn
    case fb281=>show n.c.bl≤32;omega
    case fa281=>exact hlen
    refine gy 4 ?_;refine cc rfl (fun h284=>?_) (fun h284=>?_)
    ·refine gc 1 ?_;have hs1:=hsu.trans (reads1_sync (n:=n) (ks:=ks) (l:=l) (q:=q) hnf (by assumption) (by assumption));refine gy 1 ?_;refine y (ev_loadAll rfl isAgg177 sizeOf177 zin (by rfl)) rfl ?_;refine ycall (nAnswer (V:={V with out:=o}) (n:=wol n l q) (w:=w) (data:=[]) ?oc287 ?ook287 ?ol287) rfl call101 ztk rfl ?_
     case oc287=>exact hcl
     case ook287=>exact hol
     case ol287=>show l.length≤1000000;omega
     rintro v L' ⟨o80,rfl,oko80,rfl⟩;refine gy 18 ?_;rw[show IntKind.i64.wrap ((k:Int)+1)=((k+1:Nat):Int)by rw[wr (by omega) (by omega)];rfl];refine gy 3 ?_;exact hL1 (k+1,ks,s,o80,((wol n l q).answer w 0 []).out,q) ⟨by dsimp only;omega,hs1,oko80,hks,by show(l++[_]).length≤_;simp;omega,by dsimp only;omega,by dsimp only;omega,by dsimp only;omega⟩ (by dsimp only;omega) _ _ zsub zge
    refine gc 10 ?_;let w2:WaitM:=w
    (have hs1:=hsu.trans (reads1_keep (n:=n) (ks:=ks) (l:=l) (q:=q) (w:=w) hnf (fun hh=>by have h2:(wol n l q).flushed w.seq=true:=hh.2;simp_all)))
    refine gy 1 ?_;refine y (ev_loadAll rfl isAgg177 sizeOf177 zin (by rfl)) rfl ?_;refine ya (ac_bsliceR rfl underlying101 sizeOf177 zeroValue177 rfl rfl rfl rfl ⟨⟨_,_,rfl,(by rfl),(by decide)⟩,trivial⟩ (by dsimp[fillL,splice,vcells,reps]<;>rfl)) rfl ?_;rintro v L' ⟨b85,rfl,rfl⟩;refine ya (ac_append (s:=s) (xs:=waitsV ks) (m:=ks.length) (k:=1) (us:=w2.cells) (size:=7) rfl rfl (by repeat first|exact .z|apply Pk.s) underlying101 underlying101 (by intro q hq;cases hq) typeInfo177 rfl rfl rfl ?ok298 ?src298 ?one298 ?big298) rfl ?_
    case ok298=>exact hks
    case src298=>exact src_at zin rfl rfl
    case one298=>exact wait_one _
    case big298=>show(_+_)*57≤_;omega
    rintro v L' ⟨s86,rfl,ok86,rfl⟩;rw[←waitsV_snoc,show ks.length+1=(ks++[w2]).length by simp]at ok86 ⊢;refine gy 6 ?_;rw[show IntKind.i64.wrap ((k:Int)+1)=((k+1:Nat):Int)by rw[wr (by omega) (by omega)];rfl];refine gy 3 ?_;exact hL1 (k+1,ks++[w2],s86,o,l,q) ⟨by dsimp only;omega,hs1,hol,ok86,by dsimp only;omega,by dsimp only;omega,by dsimp only;omega,by simp;omega⟩ (by dsimp only;omega) _ _ zsub zge
   refine gy 19 ?_;let w2:WaitM:=w
   (have hs1:=hsu.trans (reads1_keep (n:=n) (ks:=ks) (l:=l) (q:=q) (w:=w) hnf (fun hh=>by have h2:(wol n l q).flushed w.seq=true:=hh.2;simp_all)))
   refine gy 1 ?_;refine y (ev_loadAll rfl isAgg177 sizeOf177 zin (by rfl)) rfl ?_;refine ya (ac_bsliceR rfl underlying101 sizeOf177 zeroValue177 rfl rfl rfl rfl ⟨⟨_,_,rfl,(by rfl),(by decide)⟩,trivial⟩ (by dsimp[fillL,splice,vcells,reps]<;>rfl)) rfl ?_;rintro v L' ⟨b85,rfl,rfl⟩;refine ya (ac_append (s:=s) (xs:=waitsV ks) (m:=ks.length) (k:=1) (us:=w2.cells) (size:=7) rfl rfl (by repeat first|exact .z|apply Pk.s) underlying101 underlying101 (by intro q hq;cases hq) typeInfo177 rfl rfl rfl ?ok309 ?src309 ?one309 ?big309) rfl ?_
   case ok309=>exact hks
   case src309=>exact src_at zin rfl rfl
   case one309=>exact wait_one _
   case big309=>show(_+_)*57≤_;omega
   rintro v L' ⟨s86,rfl,ok86,rfl⟩;rw[←waitsV_snoc,show ks.length+1=(ks++[w2]).length by simp]at ok86 ⊢;refine gy 6 ?_;rw[show IntKind.i64.wrap ((k:Int)+1)=((k+1:Nat):Int)by rw[wr (by omega) (by omega)];rfl];refine gy 3 ?_;exact hL1 (k+1,ks++[w2],s86,o,l,q) ⟨by dsimp only;omega,hs1,hol,ok86,by dsimp only;omega,by dsimp only;omega,by dsimp only;omega,by simp;omega⟩ (by dsimp only;omega) _ _ zsub zge
  refine gy 7 ?_;have hnf:=hnf;refine gy 4 ?_;refine ysp 72 rfl (fun h319=>?_) (fun h319=>?_)
  ·refine gy 3 ?_;refine ygo ?_;refine yci (nFlushed (V:={V with out:=o}) (n:=wol n l q) ?fw323 ?fn323 ?fb323 ?fa323) call155 ?_
   case fw323=>exact hsw
   case fn323=>exact hwn
   case fb323=>show n.c.bl≤32;omega
   case fa323=>exact hlen
   refine gy 4 ?_;refine cc rfl (fun h326=>?_) (fun h326=>?_)
   ·refine gc 1 ?_;have hs1:=hsu.trans (reads1_sync (n:=n) (ks:=ks) (l:=l) (q:=q) hnf (by assumption) (by assumption));refine gy 1 ?_;refine y (ev_loadAll rfl isAgg177 sizeOf177 zin (by rfl)) rfl ?_;refine ycall (nAnswer (V:={V with out:=o}) (n:=wol n l q) (w:=w) (data:=[]) ?oc329 ?ook329 ?ol329) rfl call101 ztk rfl ?_
    case oc329=>exact hcl
    case ook329=>exact hol
    case ol329=>show l.length≤1000000;omega
    rintro v L' ⟨o80,rfl,oko80,rfl⟩;refine gy 18 ?_;rw[show IntKind.i64.wrap ((k:Int)+1)=((k+1:Nat):Int)by rw[wr (by omega) (by omega)];rfl];refine gy 3 ?_;exact hL1 (k+1,ks,s,o80,((wol n l q).answer w 0 []).out,q) ⟨by dsimp only;omega,hs1,oko80,hks,by show(l++[_]).length≤_;simp;omega,by dsimp only;omega,by dsimp only;omega,by dsimp only;omega⟩ (by dsimp only;omega) _ _ zsub zge
   refine gc 10 ?_;let w2:WaitM:=w
   (have hs1:=hsu.trans (reads1_keep (n:=n) (ks:=ks) (l:=l) (q:=q) (w:=w) hnf (fun hh=>by have h2:(wol n l q).flushed w.seq=true:=hh.2;simp_all)))
   refine gy 1 ?_;refine y (ev_loadAll rfl isAgg177 sizeOf177 zin (by rfl)) rfl ?_;refine ya (ac_bsliceR rfl underlying101 sizeOf177 zeroValue177 rfl rfl rfl rfl ⟨⟨_,_,rfl,(by rfl),(by decide)⟩,trivial⟩ (by dsimp[fillL,splice,vcells,reps]<;>rfl)) rfl ?_;rintro v L' ⟨b85,rfl,rfl⟩;refine ya (ac_append (s:=s) (xs:=waitsV ks) (m:=ks.length) (k:=1) (us:=w2.cells) (size:=7) rfl rfl (by repeat first|exact .z|apply Pk.s) underlying101 underlying101 (by intro q hq;cases hq) typeInfo177 rfl rfl rfl ?ok340 ?src340 ?one340 ?big340) rfl ?_
   case ok340=>exact hks
   case src340=>exact src_at zin rfl rfl
   case one340=>exact wait_one _
   case big340=>show(_+_)*57≤_;omega
   rintro v L' ⟨s86,rfl,ok86,rfl⟩;rw[←waitsV_snoc,show ks.length+1=(ks++[w2]).length by simp]at ok86 ⊢;refine gy 6 ?_;rw[show IntKind.i64.wrap ((k:Int)+1)=((k+1:Nat):Int)by rw[wr (by omega) (by omega)];rfl];refine gy 3 ?_;exact hL1 (k+1,ks++[w2],s86,o,l,q) ⟨by dsimp only;omega,hs1,hol,ok86,by dsimp only;omega,by dsimp only;omega,by dsimp only;omega,by simp;omega⟩ (by dsimp only;omega) _ _ zsub zge
  refine gy 19 ?_;let w2:WaitM:=w
  (have hs1:=hsu.trans (reads1_keep (n:=n) (ks:=ks) (l:=l) (q:=q) (w:=w) hnf (fun hh=>by have h2:(wol n l q).flushed w.seq=true:=hh.2;simp_all)))
  refine gy 1 ?_;refine y (ev_loadAll rfl isAgg177 sizeOf177 zin (by rfl)) rfl ?_;refine ya (ac_bsliceR rfl underlying101 sizeOf177 zeroValue177 rfl rfl rfl rfl ⟨⟨_,_,rfl,(by rfl),(by decide)⟩,trivial⟩ (by dsimp[fillL,splice,vcells,reps]<;>rfl)) rfl ?_;rintro v L' ⟨b85,rfl,rfl⟩;refine ya (ac_append (s:=s) (xs:=waitsV ks) (m:=ks.length) (k:=1) (us:=w2.cells) (size:=7) rfl rfl (by repeat first|exact .z|apply Pk.s) underlying101 underlying101 (by intro q hq;cases hq) typeInfo177 rfl rfl rfl ?ok351 ?src351 ?one351 ?big351) rfl ?_
  case ok351=>exact hks
  case src351=>exact src_at zin rfl rfl
  case one351=>exact wait_one _
  case big351=>show(_+_)*57≤_;omega
  rintro v L' ⟨s86,rfl,ok86,rfl⟩;rw[←waitsV_snoc,show ks.length+1=(ks++[w2]).length by simp]at ok86 ⊢;refine gy 6 ?_;rw[show IntKind.i64.wrap ((k:Int)+1)=((k+1:Nat):Int)by rw[wr (by omega) (by omega)];rfl];refine gy 3 ?_;exact hL1 (k+1,ks++[w2],s86,o,l,q) ⟨by dsimp only;omega,hs1,hol,ok86,by dsimp only;omega,by dsimp only;omega,by dsimp only;omega,by simp;omega⟩ (by dsimp only;omega) _ _ zsub zge
 refine gc 5 ?_;exact ksub zsub zge (hJ1 ⟨k,ks,s,o,l,q⟩ ⟨hI1o,by dsimp only;omega⟩)
end W
end Go.Proofs