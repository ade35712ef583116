/- A part of the proof. -/
import Derived.Test.YtlignadmmopdmaaGreatUn
import Derived.Test.YtlignadmmopdmaaGreatN45
set_option linter.unusedVariables false
set_option linter.unusedSimpArgs false
set_option linter.constructorNameAsVariable false
namespace Go.Proofs
open _root_.Go.Proofs.Tryz
open Go Go.Sl
namespace W
set_option maxHeartbeats 4000000
theorem nBeginNone [Env]{R:List Seg}{x:ShapeM}(h:beginN x=none):Con Tryz.prog 13 [.agg x.cells.toArray] [] R (fun u L'=> ∃dv,u= .tuple #[dv,nilP]∧L'=[]):=by
 refine nBegin.mono ?_
 rintro v L' (⟨-,h2⟩|⟨n,F,V,h2,-⟩)
 · exact h2
 rw[h]at h2;cases h2
theorem nBeginSome [Env]{R:List Seg}{x:ShapeM}{n:NodM}(h:beginN x=some n):Con Tryz.prog 13 [.agg x.cells.toArray] [] R (fun u L'=> ∃F V,NVok V n∧u= .tuple #[dp F.q,ptr F.p]∧L'=nodL F V n):=by
 refine nBegin.mono ?_
 rintro v L' (⟨h2,-⟩|⟨n',F,V,h2,h3⟩)
 · rw[h]at h2;cases h2
 rw[h]at h2;cases h2;exact⟨F,V,h3⟩
theorem told_len{n:NodM}{K:Nat}(h:n.ok K)(a:ActN):(n.told a).length≤K+140:=by
 unfold NodM.told
 split
 · exact(h.step a).out
 exact Nat.zero_le _
theorem lawNSame [Env]{R:List Seg}{x:ShapeM}{va:Value}{acts:List ActN}(hA:RdV R va acts.length (actnsV acts))(hK: ∀a∈acts,a.ok R)(hlen:acts.length≤9223372036854775807):
   Con Tryz.prog 8 [.agg x.cells.toArray,va] [] R (Is (.bool true) []):=by
 have hAl:=hA.lenVal
 refine con_enter func8 ntmps8 rfl rfl ?_
 refine gc 1 ?_
 refine ya (ac_box (vs:=x.cells) rfl rfl) rfl ?_
 rintro v L' ⟨b2,rfl,rfl⟩
 refine gy 5 ?_
 refine yci (awake16) call12 ?_
 skip
 ·refine gy 7 ?_
  refine y (ev_loadAll rfl isAgg23 sizeOf23 zin (by rfl)) rfl ?_
  rcases hbx:beginN x with _|n
  ·refine ycall (nBeginNone (x:=x) hbx) rfl call13 ztk rfl ?_
   rintro v L' ⟨dv1,rfl,rfl⟩
   refine gy 8 ?_
   refine y (ev_loadAll rfl isAgg23 sizeOf23 zin (by rfl)) rfl ?_
   refine ycall (nBeginNone (x:=x) hbx) rfl call13 ztk rfl ?_
   rintro v L' ⟨dv2,rfl,rfl⟩
   refine gy 10 ?_
   refine y (ev_eqlPnil rfl rfl underlying27) rfl ?_
   refine gy 9 ?_
   refine y (ev_eqlPnil rfl rfl underlying27) rfl ?_
   refine gy 2 ?_
   refine ygo ?_
   refine y (ev_eqlPnil rfl rfl underlying27) rfl ?_
   refine gy 6 ?_
   refine kretv results8 rfl (L1:=R) zge ?_
   exact⟨_,⟨by rfl,rfl⟩,by rfl⟩
  refine ycall (nBeginSome (x:=x) hbx) rfl call13 ztk rfl ?_
  rintro v L' ⟨F1,V1,hV1,rfl,rfl⟩
  refine gy 8 ?_
  refine y (ev_loadAll rfl isAgg23 sizeOf23 zin (by rfl)) rfl ?_
  refine ycall (nBeginSome (x:=x) hbx) rfl call13 ztk rfl ?_
  rintro v L' ⟨F2,V2,hV2,rfl,rfl⟩
  refine gy 10 ?_
  refine y (ev_eqlPnil rfl rfl underlying27) rfl ?_
  refine gy 2 ?_
  refine ygo ?_
  refine y (ev_eqlPnil rfl rfl underlying27) rfl ?_
  refine gy 8 ?_
  have hok0:=beginN_ok hbx
  refine gy 4 ?_
  refine cloopT (A:=Nat × NV × NV × NodM) (fun x=>[(9,i64 x.1),(5,dp F1.q),(7,dp F2.q),(6,ptr F1.p),(8,ptr F2.p),(1,va)]) (fun x=>nodL F1 x.2.1 x.2.2.2++(nodL F2 x.2.2.1 x.2.2.2++R)) (fun x=>x.1≤acts.length∧x.1≤80∧x.2.2.2.ok (140*x.1)∧NVok x.2.1 x.2.2.2∧NVok x.2.2.1 x.2.2.2) (fun x=>80-x.1) ((0,V1,V2,n)) ?_ zsub zge ?_
  · exact⟨Nat.zero_le _,Nat.zero_le _,hok0,hV1,hV2⟩
  rintro⟨k,U1,U2,m⟩ hI1 KL1 hL1
  obtain⟨hk,hk80,hok,hU1,hU2⟩:=hI1;dsimp only at hk hk80 hok hU1 hU2 ⊢
  refine gc 4 ?_
  refine y (ev_lenV rfl underlying24 hAl) rfl ?_
  refine gy 2 ?_
  refine ysp 39 rfl (fun h55=>?_) (fun h55=>?_)
  ·refine gy 5 ?_
   refine cc rfl (fun h59=>?_) (fun h59=>?_)
   ·refine gc 5 ?_
    obtain⟨a,ha⟩: ∃a,acts[k]? =some a:=⟨_,List.getElem?_eq_getElem (by omega)⟩
    have hao:=hK a (List.mem_of_getElem? ha)
    refine gy 2 ?_
    refine y (ev_ixV hA rfl rfl underlying24 sizeOf37 (by omega) (by omega)) rfl ?_
    refine y (ev_loadNV (us:=a.cells) (k*19) hA zge rfl isAgg37 sizeOf37 (by simp) (actnsV_get ha) rfl) rfl ?_
    refine ya (ac_alloc zeroValue37 rfl) rfl ?_
    rintro v L' ⟨b10,rfl,rfl⟩
    refine yst (ac_storeN (vs':=a.cells) rfl rfl (actn_one hao.keeps.lenVal) sizeOf37 zrp rfl (by decide) rfl) ?_
    refine gy 4 ?_
    refine y (ev_loadN (u:=a.cells) rfl isAgg37 sizeOf37 zin rfl rfl) rfl ?_
    refine yci (nLarge (x:=a) ?lx67) call14 ?_
    case lx67=>exact hao.mono zge
    refine gy 2 ?_
    refine cc rfl (fun h68=>?_) (fun h68=>?_)
    ·refine gc 11 ?_
     refine kretv results8 rfl (L1:=R) zge ?_
     exact⟨_,⟨by rfl,rfl⟩,by rfl⟩
    have hlg:largeB a=false:=by simpa using h68
    refine gc 2 ?_
    refine cseqT ?_;intro K21 hK21
    have hJr16: ∀x:NodM,(x.ok (140*k)∧NVok U1 x∧NVok U2 x)→Sk 93 K21 ([(9,i64 k),(5,dp F1.q),(7,dp F2.q),(6,ptr F1.p),(8,ptr F2.p),(1,va),(10,ptr b10)]) (sc b10 a.cells 37::nodL F1 U1 x++(nodL F2 U2 x++R)):=by
     rintro m2 hIr16
     refine hK21 _ _ ?_
     obtain⟨hok2,hW1,hW2⟩:=hIr16
     have hok3:=hok2.step a
     have htl:=told_len hok2 a
     have hb32:(m2.step a).c.bl≤32:=by have:=hok3.p.bl;have:=hok3.a.blocks;omega
     have hal:=NodM.all_len hok3
     refine gc 1 ?_
     refine cdraw 28 [(0,true),(1,true),(3,true),(4,true),(2,false),(5,false),(6,false),(7,true),(8,true),(9,true),(11,true),(10,false),(12,false),(13,true),(14,true),(15,true),(16,true),(18,true),(17,false),(19,false),(20,false),(21,true),(22,true),(23,true),(24,true),(26,true),(25,false),(27,false)] ([sc b10 _ 37]++R) Tryz.mixed (by kernel_rfl) zge ?_
     skip
     ·refine gh 1 ?_
      refine hr rfl (ev_loadN (u:=a.cells) rfl isAgg37 sizeOf37 zin rfl rfl) rfl ?_
      refine gh 1 ?_
      refine hr rfl (ev_loadN (u:=a.cells) rfl isAgg37 sizeOf37 zin rfl rfl) rfl ?_
      refine hcall rfl (nStep (F:=F1) (V:=U1) (n:=m2) (a:=a) (hok2.le (by omega)) hW1 hlg hao.keeps.lenVal) rfl call17 ztk rfl ?_
      rintro v L' ⟨Y1,hY1,rfl,hu1⟩;refine⟨zge,?_⟩
      refine hcall rfl (nStep (F:=F2) (V:=U2) (n:=m2) (a:=a) (hok2.le (by omega)) hW2 hlg hao.keeps.lenVal) rfl call17 ztk rfl ?_
      rintro v L' ⟨Y2,hY2,rfl,hu2⟩;refine⟨zge,?_⟩
      refine hcall rfl (nLetters (u1:=m2.told a) (u2:=m2.told a) ?ia76 ?ib76 ?ic76 ?id76) rfl call30 ztk rfl ?_
      case ia76=>exact hu1.mono zge
      case ib76=>exact hu2.mono zge
      case ic76=>omega
      case id76=>omega
      rintro v L' ⟨rfl,rfl⟩;refine⟨zge,?_⟩
      rw[show decide (m2.told a=m2.told a)=true from decide_eq_true rfl]
      refine gh 4 ?_
      refine hcall1 rfl rfl rfl (nView (F:=F1) (V:=Y1) (n:=m2.step a) (K:=140*k+140) ?nok81 ?nk81 ?vok81) rfl call20 ztk rfl ?_
      case nok81=>exact hok3
      case nk81=>omega
      case vok81=>exact hY1
      rintro v L' ⟨rfl,rfl⟩;refine⟨zge,?_⟩
      refine hcall1 rfl rfl rfl (nView (F:=F2) (V:=Y2) (n:=m2.step a) (K:=140*k+140) ?nok82 ?nk82 ?vok82) rfl call20 ztk rfl ?_
      case nok82=>exact hok3
      case nk82=>omega
      case vok82=>exact hY2
      rintro v L' ⟨rfl,rfl⟩;refine⟨zge,?_⟩
      refine hr1 rfl rfl rfl (ev_neqF (p:=True) (xs:=(m2.step a).view.cells) (ys:=(m2.step a).view.cells) rfl rfl (by kernel_rfl) (by simp)) rfl ?_
      refine gh 4 ?_
      refine hcall1 rfl rfl rfl (nEntries (F:=F1) (V:=Y1) (n:=m2.step a) ?bl88) rfl call25 ztk rfl ?_
      case bl88=>exact hb32
      rintro v L' ⟨s79,rfl,ok79,rfl⟩;refine⟨zge,?_⟩
      refine hcall1 rfl rfl rfl (nEntries (F:=F2) (V:=Y2) (n:=m2.step a) ?bl89) rfl call25 ztk rfl ?_
      case bl89=>exact hb32
      rintro v L' ⟨s81,rfl,ok81,rfl⟩;refine⟨zge,?_⟩
      refine hcall1 rfl rfl rfl (nEnts (u1:=(m2.step a).c.all) (u2:=(m2.step a).c.all) ?ia90 ?ib90 ?ic90 ?id90) rfl call28 ztk rfl ?_
      case ia90=>exact(rdV_sv (s:=s79) .z ok79).mono zge
      case ib90=>exact(rdV_sv (s:=s81) .z ok81).mono zge
      case ic90=>omega
      case id90=>omega
      rintro v L' ⟨rfl,rfl⟩;refine⟨zge,?_⟩
      rw[show decide ((m2.step a).c.all=(m2.step a).c.all)=true from decide_eq_true rfl]
      refine gh 5 ?_
      refine hcall1 rfl rfl rfl (nMarked (F:=F1) (V:=Y1) (n:=m2.step a) ?dok96) rfl call32 ztk rfl ?_
      case dok96=>exact hok3.p.dr
      rintro v L' ⟨s87,rfl,ok87,rfl⟩;refine⟨zge,?_⟩
      refine hcall1 rfl rfl rfl (nMarked (F:=F2) (V:=Y2) (n:=m2.step a) ?dok97) rfl call32 ztk rfl ?_
      case dok97=>exact hok3.p.dr
      rintro v L' ⟨s89,rfl,ok89,rfl⟩;refine⟨zge,?_⟩
      refine gh 1 ?_
      refine ygo ?_
      refine yci (nInts (u1:=(m2.step a).dr.blks) (u2:=(m2.step a).dr.blks) ?ia98 ?ib98 ?ic98 ?id98) call31 ?_
      case ia98=>exact(rdV_sv (s:=s87) .z ok87).mono zge
      case ib98=>exact(rdV_sv (s:=s89) .z ok89).mono zge
      case ic98=>have:=hok3.p.dr.n;exact Nat.le_trans (blksTo_le _ _) (by omega)
      case id98=>have:=hok3.p.dr.n;exact Nat.le_trans (blksTo_le _ _) (by omega)
      rw[show decide ((m2.step a).dr.blks=(m2.step a).dr.blks)=true from decide_eq_true rfl]
      refine gy 11 ?_
      rw[show IntKind.i64.wrap ((k:Int)+1)=((k+1:Nat):Int)by rw[wr (by omega) (by omega)];rfl]
      refine gy 3 ?_
      exact hL1 (k+1,Y1,Y2,m2.step a) ⟨by dsimp only;omega,by dsimp only;omega,by dsimp only;exact hok3.le (by omega),hY1,hY2⟩ (by dsimp only;omega) _ _ zsub zge
    clear hK21
    refine gc 6 ?_
    refine cc rfl (fun h107=>?_) (fun h107=>?_)
    ·let m9:NodM:=m.fuse a.n
     refine gc 4 ?_
     refine yci (secFuse (q:=F1.q) (D:=m.d) (i:=a.n)) call29 ?_
     refine gy 6 ?_
     refine yci (secFuse (q:=F2.q) (D:=m.d) (i:=a.n)) call29 ?_
     refine gy 2 ?_
     exact ksub zsub zge (hJr16 m9 ⟨hok.fuse hao.n.2,⟨hU1.out,hU1.sw,hU1.si,hU1.sl⟩,⟨hU2.out,hU2.sw,hU2.si,hU2.sl⟩⟩)
    refine gc 2 ?_
    exact ksub zsub zge (hJr16 m ⟨hok,hU1,hU2⟩)
   refine gc 10 ?_
   refine kretv results8 rfl (L1:=R) zge ?_
   exact⟨_,⟨by rfl,rfl⟩,by rfl⟩
  refine gy 16 ?_
  refine kretv results8 rfl (L1:=R) zge ?_
  exact⟨_,⟨by rfl,rfl⟩,by rfl⟩
end W
end Go.Proofs
