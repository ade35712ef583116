/- A part of the proof. -/
import Derived.Test.YtlignadmmopdmaaGreatUn
import Derived.Test.YtlignadmmopdmaaGreatN46
import Derived.Test.YtlignadmmopdmaaGreatNodU
set_option linter.unusedVariables false
set_option linter.unusedSimpArgs false
set_option linter.constructorNameAsVariable false
namespace Go.Proofs
open _root_.Go.Proofs.Tryz
open Go Go.Sl
namespace W
set_option maxHeartbeats 4000000
theorem lawNQuiet [Env]{R:List Seg}{sh:ShapeM}{fm:Bool}{va:Value}{acts:List ActN}(hA:RdV R va acts.length (actnsV acts))(hK: ∀a∈acts,a.ok R)(hlen:acts.length≤9223372036854775807):
   Con Tryz.prog 7 [.agg sh.cells.toArray,.bool fm,va] [] R (Is (.bool true) []):=by
 have hAl:=hA.lenVal
 refine con_enter func7 ntmps7 rfl rfl ?_
 refine gc 1 ?_
 refine ya (ac_box (vs:=sh.cells) rfl rfl) rfl ?_
 rintro v L' ⟨b3,rfl,rfl⟩
 refine gy 5 ?_
 refine yci (awake16) call12 ?_
 skip
 ·refine gy 13 ?_
  refine cc rfl (fun h8=>?_) (fun h8=>?_)
  ·refine gc 6 ?_
   refine kretv results7 rfl (L1:=R) zge ?_
   exact⟨_,⟨by rfl,rfl⟩,by rfl⟩
  refine gc 5 ?_
  refine ycall (nNewAny (by omega)) rfl call18 ztk rfl ?_
  rintro v L' hnw
  rcases hnw with⟨hs0,rfl,rfl⟩|⟨hs0,q26,rfl,rfl⟩
  ·refine gy 6 ?_
   refine y (ev_eqlPnil rfl rfl underlying26) rfl ?_
   refine gy 9 ?_
   refine kretv results7 rfl (L1:=R) zge ?_
   exact⟨_,⟨by rfl,rfl⟩,by rfl⟩
  refine gy 6 ?_
  refine y (ev_eqlPnil rfl rfl underlying26) rfl ?_
  refine gy 5 ?_
  refine cseqT ?_;intro K13 hK13
  have hJr10: ∀z:Dev,(z.ok)→Sk 130 K13 ([(7,dp q26),(3,ptr b3),(2,va)]) ([sc b3 sh.cells 23,dev q26 z]++R):=by
   rintro D hIr10
   refine hK13 _ _ ?_
   have hD:=hIr10
   refine gc 12 ?_
   refine ycall (nOpen (D:=D) (id:=sh.id) (serial:=sh.serial) (bl:=sh.blocks) (lease:=sh.lease) (patience:=sh.patience) hD) rfl call19 ztk rfl ?_
   rintro v L' hop
   rcases hop with⟨hne,rfl,rfl⟩|⟨he,F1,V1,hFq,rfl,hV1,rfl⟩
   ·refine gy 10 ?_
    refine y (ev_eqlPnil rfl rfl underlying27) rfl ?_
    refine gy 9 ?_
    refine kretv results7 rfl (L1:=R) zge ?_
    exact⟨_,⟨by rfl,rfl⟩,by rfl⟩
   refine gy 10 ?_
   refine y (ev_eqlPnil rfl rfl underlying27) rfl ?_
   refine gy 7 ?_
   subst hFq
   have hok0:=nodOpen_ok hD he
   have hse0:=nodOpen_serial he
   generalize (nodOpen sh.id sh.serial D sh.blocks sh.lease sh.patience).2=n at*
   refine gy 4 ?_
   refine cloopT (A:=Nat × NV × NodM) (fun x=>[(10,i64 x.1),(8,ptr F1.p),(7,dp F1.q),(3,ptr b3),(2,va)]) (fun x=>sc b3 sh.cells 23::nodL F1 x.2.1 x.2.2++R) (fun x=>x.1≤acts.length∧x.1≤80∧x.2.2.ok (140*x.1)∧NVok x.2.1 x.2.2∧x.2.2.serial=sh.serial) (fun x=>80-x.1) ((0,V1,n)) ?_ zsub zge ?_
   · exact⟨Nat.zero_le _,Nat.zero_le _,hok0,hV1,hse0⟩
   rintro⟨k,U1,m⟩ hI1 KL1 hL1
   obtain⟨hk,hk80,hok,hU1,hse⟩:=hI1;dsimp only at hk hk80 hok hU1 hse ⊢
   refine gc 4 ?_
   refine y (ev_lenV rfl underlying24 hAl) rfl ?_
   refine gy 2 ?_
   refine ysp 53 rfl (fun h53=>?_) (fun h53=>?_)
   ·refine gy 5 ?_
    refine cc rfl (fun h57=>?_) (fun h57=>?_)
    ·refine gc 5 ?_
     obtain⟨a,ha⟩: ∃a,acts[k]? =some a:=⟨_,List.getElem?_eq_getElem (by omega)⟩
     have hao:=hK a (List.mem_of_getElem? ha)
     refine gy 2 ?_
     refine y (ev_ixV hA rfl rfl underlying24 sizeOf37 (by omega) (by omega)) rfl ?_
     refine y (ev_loadNV (us:=a.cells) (k*19) hA zge rfl isAgg37 sizeOf37 (by simp) (actnsV_get ha) rfl) rfl ?_
     refine ya (ac_alloc zeroValue37 rfl) rfl ?_
     rintro v L' ⟨b11,rfl,rfl⟩
     refine yst (ac_storeN (vs':=a.cells) rfl rfl (actn_one hao.keeps.lenVal) sizeOf37 zrp rfl (by decide) rfl) ?_
     refine gy 4 ?_
     refine y (ev_loadN (u:=a.cells) rfl isAgg37 sizeOf37 zin rfl rfl) rfl ?_
     refine yci (nLarge (x:=a) ?lx65) call14 ?_
     case lx65=>exact hao.mono zge
     refine gy 2 ?_
     refine cc rfl (fun h66=>?_) (fun h66=>?_)
     ·refine gc 11 ?_
      refine kretv results7 rfl (L1:=R) zge ?_
      exact⟨_,⟨by rfl,rfl⟩,by rfl⟩
     have hlg:largeB a=false:=by simpa using h66
     refine gc 2 ?_
     refine cseqT ?_;intro K29 hK29
     have hJr21: ∀x:NodM,(x.ok (140*k)∧NVok U1 x∧x.serial=sh.serial)→Sk 130 K29 ([(10,i64 k),(8,ptr F1.p),(7,dp F1.q),(3,ptr b3),(2,va),(11,ptr b11)]) (sc b11 a.cells 37::sc b3 sh.cells 23::nodL F1 U1 x++R):=by
      rintro m2 hIr21
      refine hK29 _ _ ?_
      obtain⟨hok2,hW1,hse2⟩:=hIr21
      have hok3:=hok2.step a
      have hse3:=(NodM.step_serial (n:=m2) a).trans hse2
      have htl:=told_len hok2 a
      refine gc 2 ?_
      refine yci (nView (F:=F1) (V:=U1) (n:=m2) (K:=140*k) ?nok69 ?nk69 ?vok69) call20 ?_
      case nok69=>exact hok2
      case nk69=>omega
      case vok69=>exact hW1
      refine ya (ac_alloc zeroValue52 rfl) rfl ?_
      rintro v L' ⟨b12,rfl,rfl⟩
      refine yst (ac_storeAll rfl rfl (view_one _) sizeOf52 zrp rfl rfl) ?_
      refine gy 4 ?_
      refine y (ev_loadN (u:=a.cells) rfl isAgg37 sizeOf37 zin rfl rfl) rfl ?_
      refine ycall (nStep (F:=F1) (V:=U1) (n:=m2) (a:=a) (hok2.le (by omega)) hW1 hlg hao.keeps.lenVal) rfl call17 ztk rfl ?_
      rintro v L' ⟨Y1,hY1,rfl,hu1⟩
      have hul:=hu1.lenVal
      refine gy 5 ?_
      refine yci (nView (F:=F1) (V:=Y1) (n:=m2.step a) (K:=140*k+140) ?nok77 ?nk77 ?vok77) call20 ?_
      case nok77=>exact hok3
      case nk77=>omega
      case vok77=>exact hY1
      refine ya (ac_alloc zeroValue52 rfl) rfl ?_
      rintro v L' ⟨b14,rfl,rfl⟩
      refine yst (ac_storeAll rfl rfl (view_one _) sizeOf52 zrp rfl rfl) ?_
      refine gy 2 ?_
      refine cseqT ?_;intro K33 hK33
      have hJr26: ∀x:Unit,(True)→Sk 130 K33 ([(10,i64 k),(8,ptr F1.p),(7,dp F1.q),(3,ptr b3),(2,va),(13,v),(12,ptr b12),(14,ptr b14)]) (sc b12 m2.view.cells 52::sc b14 (m2.step a).view.cells 52::sc b3 sh.cells 23::nodL F1 Y1 (m2.step a)++R):=by
       rintro u0 hIr26
       refine hK33 _ _ ?_
       skip
       refine gc 4 ?_
       refine ysp 93 rfl (fun h83=>?_) (fun h83=>?_)
       ·have hlo:m2.lost=true:=h83
        refine gy 4 ?_
        refine ysp 97 rfl (fun h88=>?_) (fun h88=>?_)
        ·refine gy 6 ?_
         refine cc rfl (fun h93=>?_) (fun h93=>?_)
         ·have hnd:m2.down=false:=h93
          have hq: ∀y∈m2.told a,y.to=2∧(decMsg y.body).1.kind=4∧(decMsg y.body).1.n=sh.serial∧y.body.length≤1000:=by rw[←hse2];exact NodM.quiet_lost hok2 hnd hlo a
          refine gc 2 ?_
          refine y (ev_lenV rfl underlying45 hul) rfl ?_
          refine gy 4 ?_
          refine cloopT (A:=Nat) (fun x=>[(104,i64 x),(103,i64 (m2.told a).length),(102,v),(10,i64 k),(8,ptr F1.p),(7,dp F1.q),(3,ptr b3),(2,va)]) (fun x=>sc b3 sh.cells 23::nodL F1 Y1 (m2.step a)++R) (fun x=>x≤(m2.told a).length) (fun x=>(m2.told a).length-x) (0) ?_ zsub zge ?_
          · exact Nat.zero_le _
          rintro j hI2 KL2 hL2
          have hI2o:=hI2
          have hj:=hI2
          refine gc 5 ?_
          refine cc rfl (fun h98=>?_) (fun h98=>?_)
          ·refine gc 5 ?_
           obtain⟨y1,hy⟩: ∃y,(m2.told a)[j]? =some y:=⟨_,List.getElem?_eq_getElem (by omega)⟩
           obtain⟨q1,q2,q3,q4⟩:=hq y1 (List.mem_of_getElem? hy)
           refine y (ev_ixV hu1 rfl rfl underlying45 sizeOf42 (by omega) (by omega)) rfl ?_
           refine y (ev_loadNV (us:=y1.cells) (j*3) hu1 zge rfl isAgg42 sizeOf42 (by simp) (letsV_get hy) rfl) rfl ?_
           refine ya (ac_alloc zeroValue42 rfl) rfl ?_
           rintro v L' ⟨b16,rfl,rfl⟩
           refine yst (ac_storeAll rfl rfl (let_one _) sizeOf42 zrp rfl rfl) ?_
           refine gy 5 ?_
           refine yci (x11Decode (s:=y1.body) ?nlen105) call15 ?_
           case nlen105=>exact q4
           refine gy 3 ?_
           refine ya (ac_alloc zeroValue34 rfl) rfl ?_
           rintro v L' ⟨b17,rfl,rfl⟩
           refine yst (ac_storeAll rfl rfl (msgC_one _) sizeOf34 zrp rfl rfl) ?_
           refine gy 4 ?_
           skip
           ·refine gy 2 ?_
            rw[q2]
            refine gy 4 ?_
            rw[q3]
            refine gy 3 ?_
            rw[show(!decide (sh.serial=sh.serial))=false by simp]
            refine gy 4 ?_
            rw[q1]
            refine gy 10 ?_
            rw[show IntKind.i64.wrap ((j:Int)+1)=((j+1:Nat):Int)by rw[wr (by omega) (by omega)];rfl]
            refine gy 3 ?_
            exact hL2 (j+1) (by omega) (by omega) _ _ zsub zge
          refine gc 9 ?_
          rw[show IntKind.i64.wrap ((k:Int)+1)=((k+1:Nat):Int)by rw[wr (by omega) (by omega)];rfl]
          refine gy 3 ?_
          exact hL1 (k+1,Y1,m2.step a) ⟨by dsimp only;omega,by dsimp only;omega,by dsimp only;exact hok3.le (by omega),hY1,hse3⟩ (by dsimp only;omega) _ _ zsub zge
         refine gc 6 ?_
         rw[show IntKind.i64.wrap ((k:Int)+1)=((k+1:Nat):Int)by rw[wr (by omega) (by omega)];rfl]
         refine gy 3 ?_
         exact hL1 (k+1,Y1,m2.step a) ⟨by dsimp only;omega,by dsimp only;omega,by dsimp only;exact hok3.le (by omega),hY1,hse3⟩ (by dsimp only;omega) _ _ zsub zge
        refine gy 13 ?_
        rw[show IntKind.i64.wrap ((k:Int)+1)=((k+1:Nat):Int)by rw[wr (by omega) (by omega)];rfl]
        refine gy 3 ?_
        exact hL1 (k+1,Y1,m2.step a) ⟨by dsimp only;omega,by dsimp only;omega,by dsimp only;exact hok3.le (by omega),hY1,hse3⟩ (by dsimp only;omega) _ _ zsub zge
       refine gy 17 ?_
       rw[show IntKind.i64.wrap ((k:Int)+1)=((k+1:Nat):Int)by rw[wr (by omega) (by omega)];rfl]
       refine gy 3 ?_
       exact hL1 (k+1,Y1,m2.step a) ⟨by dsimp only;omega,by dsimp only;omega,by dsimp only;exact hok3.le (by omega),hY1,hse3⟩ (by dsimp only;omega) _ _ zsub zge
      clear hK33
      refine gc 3 ?_
      rw[show m2.view.down=m2.down from rfl]
      rcases hdn:m2.down with _|_
      ·refine gy 2 ?_
       try have hqd:=NodM.quiet_down hdn a
       refine gy 13 ?_
       exact ksub zsub zge (hJr26 () trivial)
      refine gy 2 ?_
      try have hqd:=NodM.quiet_down hdn a
      refine ygo ?_
      refine y (ev_lenV rfl underlying45 hul) rfl ?_
      rw[hqd.1]
      refine gy 4 ?_
      rw[show(m2.step a).view.down=true from hqd.2]
      refine gy 8 ?_
      exact ksub zsub zge (hJr26 () trivial)
     clear hK29
     refine gc 6 ?_
     refine cc rfl (fun h162=>?_) (fun h162=>?_)
     ·let m9:NodM:=m.fuse a.n
      refine gc 4 ?_
      refine yci (secFuse (q:=F1.q) (D:=m.d) (i:=a.n)) call29 ?_
      refine gy 2 ?_
      exact ksub zsub zge (hJr21 m9 ⟨hok.fuse hao.n.2,⟨hU1.out,hU1.sw,hU1.si,hU1.sl⟩,hse⟩)
     refine gc 2 ?_
     exact ksub zsub zge (hJr21 m ⟨hok,hU1,hse⟩)
    refine gc 10 ?_
    refine kretv results7 rfl (L1:=R) zge ?_
    exact⟨_,⟨by rfl,rfl⟩,by rfl⟩
   refine gy 16 ?_
   refine kretv results7 rfl (L1:=R) zge ?_
   exact⟨_,⟨by rfl,rfl⟩,by rfl⟩
  clear hK13
  refine gc 1 ?_
  have hD0:(Dev.new sh.sectors.toNat).ok:=Dev.new_ok (by omega)
  rcases fm with _|_
  ·have hD0:(Dev.new sh.sectors.toNat).ok:=Dev.new_ok (by omega)
   refine gy 6 ?_
   exact ksub zsub zge (hJr10 _ hD0)
  have hD0:(Dev.new sh.sectors.toNat).ok:=Dev.new_ok (by omega)
  refine gy 6 ?_
  refine yci (nFormat (D:=Dev.new sh.sectors.toNat) ?dok173) call24 ?_
  case dok173=>exact hD0
  have hD1:=nodFormat_ok hD0
  refine gy 2 ?_
  exact ksub zsub zge (hJr10 _ hD1)
end W
end Go.Proofs
