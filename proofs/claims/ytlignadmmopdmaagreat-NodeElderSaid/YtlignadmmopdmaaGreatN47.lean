/- A part of the proof. -/
import Derived.Test.YtlignadmmopdmaaGreatUn
import Derived.Test.YtlignadmmopdmaaGreatN46
import Derived.Test.YtlignadmmopdmaaGreatNodT
set_option linter.unusedVariables false
set_option linter.unusedSimpArgs false
set_option linter.constructorNameAsVariable false
namespace Go.Proofs
open _root_.Go.Proofs.Tryz
open Go Go.Sl
namespace W
set_option maxHeartbeats 4000000
theorem nTakeElder [Env]{R:List Seg}{F:NF}{V:NV}{n:NodM}{m:MsgM}{fr i:Int}(hn:n.ok 950000)(hV:NVok V n)(hi:n.id=i)(hd:n.down=false)(he:m.epoch<n.epoch)(hm:m.may=true)(hf:fr=3∨fr=1-i):
   Con Tryz.prog 27 [ptr F.p,.agg (LetM.cells ⟨fr,i,encMsg m⟩).toArray] (nodL F V n) R (fun v L'=> ∃V',v= .tuple #[svVal V'.out 0,i64 0]∧NVok V' n.clear∧L'=nodL F V' n.clear):=by
 subst hi
 have h:=nTake (R:=R) (F:=F) (V:=V) (n:=n) (l:=⟨fr,n.id,encMsg m⟩) hn hV (encMsg_len m)
 rw[NodM.elder hn hd he hm hf]at h
 exact h
theorem lawNElder [Env]{R:List Seg}{sh:ShapeM}{va:Value}{acts:List ActN}{m:MsgM}{bk:Bool}(hA:RdV R va acts.length (actnsV acts))(hK: ∀a∈acts,a.ok R)(hlen:acts.length≤9223372036854775807):
   Con Tryz.prog 5 [.agg sh.cells.toArray,va,.agg m.cells.toArray,.bool bk] [] R (Is (.bool true) []):=by
 have hAl:=hA.lenVal
 refine con_enter func5 ntmps5 rfl rfl ?_
 refine gc 1 ?_
 refine ya (ac_box (vs:=sh.cells) rfl rfl) rfl ?_
 rintro v L' ⟨b4,rfl,rfl⟩
 refine ya (ac_box (vs:=m.cells) rfl rfl) rfl ?_
 rintro v L' ⟨b6,rfl,rfl⟩
 refine gy 5 ?_
 refine yci (awake16) call12 ?_
 skip
 ·refine gy 7 ?_
  refine y (ev_loadN (u:=sh.cells) rfl isAgg23 sizeOf23 zin rfl rfl) rfl ?_
  rcases hbx:beginN sh with _|n
  ·refine ycall (nBeginNone (x:=sh) hbx) rfl call13 ztk rfl ?_
   rintro v L' ⟨dv1,rfl,rfl⟩
   refine gy 10 ?_
   refine y (ev_eqlPnil rfl rfl underlying27) rfl ?_
   refine gy 21 ?_
   refine kretv results5 rfl (L1:=R) zge ?_
   exact⟨_,⟨by rfl,rfl⟩,by rfl⟩
  refine ycall (nBeginSome (x:=sh) hbx) rfl call13 ztk rfl ?_
  rintro v L' ⟨F1,V1,hV1,rfl,rfl⟩
  refine gy 10 ?_
  refine y (ev_eqlPnil rfl rfl underlying27) rfl ?_
  refine gy 3 ?_
  refine ygo ?_
  refine y (ev_lenStr rfl underlying9) rfl ?_
  refine gy 3 ?_
  refine ysp 34 rfl (fun h35=>?_) (fun h35=>?_)
  ·refine gy 14 ?_
   refine kretv results5 rfl (L1:=R) zge ?_
   exact⟨_,⟨by rfl,rfl⟩,by rfl⟩
  refine gy 2 ?_
  refine ygo ?_
  refine y (ev_lenStr rfl underlying9) rfl ?_
  refine gy 4 ?_
  refine cc rfl (fun h43=>?_) (fun h43=>?_)
  ·refine gc 6 ?_
   refine kretv results5 rfl (L1:=R) zge ?_
   exact⟨_,⟨by rfl,rfl⟩,by rfl⟩
  refine gc 2 ?_
  refine cseqT ?_;intro K12 hK12
  refine gc 1 ?_
  have hok0:=beginN_ok hbx
  have hw0:=beginN_who hbx
  refine gy 3 ?_
  have hJ1: ∀x:Nat × NV × NodM,((x.1≤acts.length∧x.1≤80∧x.2.2.ok (140*x.1)∧NVok x.2.1 x.2.2∧x.2.2.who=(sh.id,sh.serial,false))∧(True))→Sk 114 K12 ([(11,i64 x.1),(10,ptr F1.p),(4,ptr b4),(6,ptr b6),(1,va),(3,.bool bk)]) (sc b4 sh.cells 23::sc b6 m.cells 34::nodL F1 x.2.1 x.2.2++R):=by
   rintro⟨k,U1,n1⟩ ⟨hI1,hX1⟩
   refine hK12 _ _ ?_
   obtain⟨hk,hk80,hok,hU1,hwo⟩:=hI1;dsimp only at hk hk80 hok hU1 hwo ⊢
   have hid:=hok.a.id;have hi1:n1.id=sh.id:=congrArg Prod.fst hwo;have hb32:n1.c.bl≤32:=hok.p.c.bl.2;have hal:=NodM.all_len hok
   refine gc 2 ?_
   refine yci (nView (F:=F1) (V:=U1) (n:=n1) (K:=140*k) ?nok47 ?nk47 ?vok47) call20 ?_
   case nok47=>exact hok
   case nk47=>omega
   case vok47=>exact hU1
   refine ya (ac_alloc zeroValue52 rfl) rfl ?_
   rintro v L' ⟨b12,rfl,rfl⟩
   refine yst (ac_storeAll rfl rfl (view_one _) sizeOf52 zrp rfl rfl) ?_
   refine gy 7 ?_
   refine ysp 65 rfl (fun h53=>?_) (fun h53=>?_)
   ·refine gy 15 ?_
    refine kretv results5 rfl (L1:=R) zge ?_
    exact⟨_,⟨by rfl,rfl⟩,by rfl⟩
   have hdn:n1.down=false:=h53
   refine gy 8 ?_
   refine cc rfl (fun h62=>?_) (fun h62=>?_)
   ·refine gc 6 ?_
    refine kretv results5 rfl (L1:=R) zge ?_
    exact⟨_,⟨by rfl,rfl⟩,by rfl⟩
   have hep:m.epoch<n1.view.epoch:=by have:=h62;omega
   refine gc 4 ?_
   refine ycall (nEntries (F:=F1) (V:=U1) (n:=n1) ?bl65) rfl call25 ztk rfl ?_
   case bl65=>exact hb32
   rintro v L' ⟨s73,rfl,ok73,rfl⟩
   refine gy 4 ?_
   refine y (ev_loadN (u:=m.cells) rfl isAgg34 sizeOf34 zin rfl rfl) rfl ?_
   refine yci (x11Encode (m:=m)) call26 ?_
   refine gy 9 ?_
   by_cases hmy:m.may=true
   ·refine gy 1 ?_
    rw[if_pos hmy]
    refine gy 10 ?_
    rw[show IntKind.i64.wrap (1-sh.id)=1-sh.id from wr (by omega) (by omega)]
    refine gy 3 ?_
    refine cseqT ?_;intro K24 hK24
    have hJr22: ∀z:Int,(z=3∨z=1-sh.id)→Sk 114 K24 ([(16,i64 z),(10,ptr F1.p),(4,ptr b4),(12,ptr b12),(13,svVal s73 n1.c.all.length),(14,str (encMsg m))]) ([sc b4 sh.cells 23,sc b12 n1.view.cells 52,svSeg s73 127 (entsV n1.c.all)]++nodL F1 U1 n1++R):=by
     rintro fr hIr22
     refine hK24 _ _ ?_
     have hfr:=hIr22
     refine gc 6 ?_
     refine y (ev_bd (LetM.cells ⟨fr,sh.id,encMsg m⟩)) rfl ?_
     refine ycall (nTakeElder (F:=F1) (V:=U1) (n:=n1) (m:=m) (fr:=fr) (i:=sh.id) (hok.le (by omega)) hU1 hi1 hdn hep hmy hfr) rfl call27 ztk rfl ?_
     rintro v L' ⟨Y2,rfl,hY2,rfl⟩
     refine gy 8 ?_
     refine cdraw 17 [(0,true),(1,true),(2,true),(3,true),(4,true),(5,true),(6,true),(7,true),(8,true),(10,true),(9,false),(11,true),(12,true),(13,true),(14,true),(16,true),(15,false)] ([sc b12 n1.view.cells 52,svSeg s73 127 (entsV n1.c.all)]++R) Tryz.mixed (by kernel_rfl) zge ?_
     skip
     ·refine gh 4 ?_
      refine hr1 rfl rfl rfl (ev_lenV rfl underlying45 (rdV_sv (L:=[outS Y2 n1.clear]) .z hY2.out).lenVal) rfl ?_
      refine gh 4 ?_
      refine hr1 rfl rfl rfl (ev_loadN (u:=n1.view.cells) rfl isAgg52 sizeOf52 zin rfl rfl) rfl ?_
      refine hcall1 rfl rfl rfl (nView (F:=F1) (V:=Y2) (n:=n1.clear) (K:=140*k) ?nok102 ?nk102 ?vok102) rfl call20 ztk rfl ?_
      case nok102=>exact hok.clear
      case nk102=>omega
      case vok102=>exact hY2
      rintro v L' ⟨rfl,rfl⟩;refine⟨zge,?_⟩
      refine hr1 rfl rfl rfl (ev_eqlF (p:=True) (xs:=n1.clear.view.cells) (ys:=n1.view.cells) rfl rfl (by kernel_rfl) (iff_of_true rfl trivial)) rfl ?_
      refine gh 4 ?_
      refine hcall1 rfl rfl rfl (nEntries (F:=F1) (V:=Y2) (n:=n1.clear) ?bl108) rfl call25 ztk rfl ?_
      case bl108=>exact hb32
      rintro v L' ⟨s110,rfl,ok110,rfl⟩;refine⟨zge,?_⟩
      refine gh 1 ?_
      refine ygo ?_
      refine yci (nEnts (u1:=n1.clear.c.all) (u2:=n1.c.all) ?ia109 ?ib109 ?ic109 ?id109) call28 ?_
      case ia109=>exact(rdV_sv (s:=s110) .z ok110).mono zge
      case ib109=>exact(rdV_sv (s:=s73) .z ok73).mono zge
      case ic109=>show n1.c.all.length≤1000000;omega
      case id109=>omega
      rw[show decide (n1.clear.c.all=n1.c.all)=true from decide_eq_true rfl]
      refine gy 5 ?_
      refine kretv results5 rfl (L1:=R) zge ?_
      exact⟨_,⟨by rfl,rfl⟩,by rfl⟩
    clear hK24
    refine gc 1 ?_
    rcases bk with _|_
    ·refine gy 6 ?_
     exact ksub zsub zge (hJr22 (1-sh.id) (.inr rfl))
    refine gy 5 ?_
    have hz3:(3:Int)=3:=rfl
    refine gy 3 ?_
    exact ksub zsub zge (hJr22 3 (.inl hz3))
   refine gy 1 ?_
   rw[if_neg hmy]
   refine gy 10 ?_
   refine kretv results5 rfl (L1:=R) zge ?_
   exact⟨_,⟨by rfl,rfl⟩,by rfl⟩
  clear hK12
  refine gc 1 ?_
  refine cloopT (A:=Nat × NV × NodM) (fun x=>[(11,i64 x.1),(10,ptr F1.p),(4,ptr b4),(6,ptr b6),(1,va),(3,.bool bk)]) (fun x=>sc b4 sh.cells 23::sc b6 m.cells 34::nodL F1 x.2.1 x.2.2++R) (fun x=>x.1≤acts.length∧x.1≤80∧x.2.2.ok (140*x.1)∧NVok x.2.1 x.2.2∧x.2.2.who=(sh.id,sh.serial,false)) (fun x=>80-x.1) ((0,V1,n)) ?_ zsub zge ?_
  · exact⟨Nat.zero_le _,Nat.zero_le _,hok0,hV1,hw0⟩
  rintro⟨k,U1,n1⟩ hI1 KL1 hL1
  have hI1o:=hI1
  obtain⟨hk,hk80,hok,hU1,hwo⟩:=hI1;dsimp only at hk hk80 hok hU1 hwo ⊢
  refine gc 4 ?_
  refine y (ev_lenV rfl underlying24 hAl) rfl ?_
  refine gy 2 ?_
  refine ysp 44 rfl (fun h123=>?_) (fun h123=>?_)
  ·refine gy 5 ?_
   refine cc rfl (fun h127=>?_) (fun h127=>?_)
   ·refine gc 6 ?_
    obtain⟨a,ha⟩: ∃a,acts[k]? =some a:=⟨_,List.getElem?_eq_getElem (by omega)⟩
    have hao:=hK a (List.mem_of_getElem? ha)
    refine gy 2 ?_
    refine y (ev_ixV hA rfl rfl underlying24 sizeOf37 (by omega) (by omega)) rfl ?_
    refine y (ev_loadNV (us:=a.cells) (k*19) hA zge rfl isAgg37 sizeOf37 (by simp) (actnsV_get ha) rfl) rfl ?_
    refine yci (nLarge (x:=a) ?lx132) call14 ?_
    case lx132=>exact hao.mono zge
    refine gy 2 ?_
    refine cc rfl (fun h133=>?_) (fun h133=>?_)
    ·refine gc 11 ?_
     refine kretv results5 rfl (L1:=R) zge ?_
     exact⟨_,⟨by rfl,rfl⟩,by rfl⟩
    have hlg:largeB a=false:=by simpa using h133
    refine gc 6 ?_
    refine y (ev_ixV hA rfl rfl underlying24 sizeOf37 (by omega) (by omega)) rfl ?_
    refine y (ev_loadNV (us:=a.cells) (k*19) hA zge rfl isAgg37 sizeOf37 (by simp) (actnsV_get ha) rfl) rfl ?_
    refine ycall (nStep (F:=F1) (V:=U1) (n:=n1) (a:=a) (hok.le (by omega)) hU1 hlg hao.keeps.lenVal) rfl call17 ztk rfl ?_
    rintro v L' ⟨Y1,hY1,rfl,hu1⟩
    refine gy 6 ?_
    rw[show IntKind.i64.wrap ((k:Int)+1)=((k+1:Nat):Int)by rw[wr (by omega) (by omega)];rfl]
    refine gy 3 ?_
    exact hL1 (k+1,Y1,n1.step a) ⟨by dsimp only;omega,by dsimp only;omega,by dsimp only;exact(hok.step a).le (by omega),hY1,(NodM.step_who (congrArg (·.2.2) hwo) a).trans hwo⟩ (by dsimp only;omega) _ _ zsub zge
   refine gc 5 ?_
   exact ksub zsub zge (hJ1 ⟨k,U1,n1⟩ ⟨hI1o,by trivial⟩)
  refine gy 11 ?_
  exact ksub zsub zge (hJ1 ⟨k,U1,n1⟩ ⟨hI1o,by trivial⟩)
end W
end Go.Proofs
