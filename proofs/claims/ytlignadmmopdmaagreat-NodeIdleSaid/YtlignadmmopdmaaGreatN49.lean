/- A part of the proof. -/
import Derived.Test.YtlignadmmopdmaaGreatUn
import Derived.Test.YtlignadmmopdmaaGreatN46
import Derived.Test.YtlignadmmopdmaaGreatNodU
set_option linter.unusedVariables false
set_option linter.unusedSimpArgs false
set_option linter.constructorNameAsVariable false
namespace Go.Proofs
open _root_.Go.Proofs.Tryz
open Go Go.Sl
namespace W
set_option maxHeartbeats 4000000
theorem lawNIdle [Env]{R:List Seg}{sh:ShapeM}{va:Value}{acts:List ActN}(hA:RdV R va acts.length (actnsV acts))(hK: ∀a∈acts,a.ok R)(hlen:acts.length≤9223372036854775807):
   Con Tryz.prog 6 [.agg sh.cells.toArray,va] [] R (Is (.bool true) []):=by
 have hAl:=hA.lenVal;refine con_enter func6 ntmps6 rfl rfl ?_;refine gc 1 ?_;refine ya (ac_box (vs:=sh.cells) rfl rfl) rfl ?_;rintro v L' ⟨b2,rfl,rfl⟩;refine gy 5 ?_;refine yci (awake16) call12 ?_
 skip
 ·refine gy 7 ?_;refine y (ev_loadAll rfl isAgg23 sizeOf23 zin (by rfl)) rfl ?_;rcases hbx:beginN sh with _|n
  ·refine ycall (nBeginNone (x:=sh) hbx) rfl call13 ztk rfl ?_;rintro v L' ⟨dv1,rfl,rfl⟩;refine gy 10 ?_;refine y (ev_eqlPnil rfl rfl underlying27) rfl ?_;refine gy 9 ?_;refine kretv results6 rfl (L1:=R) zge ?_;exact⟨_,⟨by rfl,rfl⟩,by rfl⟩
  refine ycall (nBeginSome (x:=sh) hbx) rfl call13 ztk rfl ?_;rintro v L' ⟨F1,V1,hV1,rfl,rfl⟩;refine gy 10 ?_;refine y (ev_eqlPnil rfl rfl underlying27) rfl ?_;refine gy 7 ?_;have hok0:=beginN_ok hbx;have hlo0:n.lost=false:=congrArg (·.2.2) (beginN_who hbx);refine gy 4 ?_;refine cloopT (A:=Nat × NV × NodM) (fun x=>[(7,i64 x.1),(6,ptr F1.p),(1,va)]) (fun x=>nodL F1 x.2.1 x.2.2++R) (fun x=>x.1≤acts.length∧x.1≤80∧x.2.2.ok (140*x.1)∧NVok x.2.1 x.2.2∧x.2.2.lost=false) (fun x=>80-x.1) ((0,V1,n)) ?_ zsub zge ?_
  · exact⟨Nat.zero_le _,Nat.zero_le _,hok0,hV1,hlo0⟩
  rintro⟨k,U1,m⟩ hI1 KL1 hL1;obtain⟨hk,hk80,hok,hU1,hlo⟩:=hI1;dsimp only at hk hk80 hok hU1 hlo ⊢;have hok3:=fun a=>hok.step a;have hlo3: ∀a,(m.step a).lost=false:=fun a=>(congrArg (·.2.2) (NodM.step_who hlo a)).trans hlo
  refine gc 4 ?_;refine y (ev_lenV rfl underlying24 hAl) rfl ?_;refine gy 2 ?_;refine ysp 28 rfl (fun h29=>?_) (fun h29=>?_)
  ·refine gy 5 ?_;refine cc rfl (fun h33=>?_) (fun h33=>?_)
   ·refine gc 6 ?_;obtain⟨a,ha⟩: ∃a,acts[k]? =some a:=⟨_,List.getElem?_eq_getElem (by omega)⟩;have hao:=hK a (List.mem_of_getElem? ha);refine gy 2 ?_;refine y (ev_ixV hA rfl rfl underlying24 sizeOf37 (by omega) (by omega)) rfl ?_;refine y (ev_loadNV (us:=a.cells) (k*19) hA zge rfl isAgg37 sizeOf37 (by simp) (actnsV_get ha) rfl) rfl ?_;refine yci (nLarge (x:=a) ?lx38) call14 ?_
    case lx38=>exact hao.mono zge
    refine gy 2 ?_;refine cc rfl (fun h39=>?_) (fun h39=>?_)
    ·refine gc 11 ?_;refine kretv results6 rfl (L1:=R) zge ?_;exact⟨_,⟨by rfl,rfl⟩,by rfl⟩
    have hlg:largeB a=false:=by simpa using h39
    refine gc 4 ?_;refine yci (nView (F:=F1) (V:=U1) (n:=m) (K:=140*k) ?nok42 ?nk42 ?vok42) call20 ?_
    case nok42=>exact hok
    case nk42=>omega
    case vok42=>exact hU1
    refine ya (ac_alloc zeroValue52 rfl) rfl ?_;rintro v L' ⟨b8,rfl,rfl⟩;refine yst (ac_storeAll rfl rfl (view_one _) sizeOf52 zrp rfl rfl) ?_;refine gy 6 ?_;refine y (ev_ixV hA rfl rfl underlying24 sizeOf37 (by omega) (by omega)) rfl ?_;refine y (ev_loadNV (us:=a.cells) (k*19) hA zge rfl isAgg37 sizeOf37 (by simp) (actnsV_get ha) rfl) rfl ?_;refine ycall (nStep (F:=F1) (V:=U1) (n:=m) (a:=a) (hok.le (by omega)) hU1 hlg hao.keeps.lenVal) rfl call17 ztk rfl ?_;rintro v L' ⟨Y1,hY1,rfl,hu1⟩;have hul:=hu1.lenVal;have htl:=told_len hok a;refine gy 5 ?_;refine yci (nView (F:=F1) (V:=Y1) (n:=m.step a) (K:=140*k+140) ?nok53 ?nk53 ?vok53) call20 ?_
    case nok53=>exact hok3 a
    case nk53=>omega
    case vok53=>exact hY1
    refine ya (ac_alloc zeroValue52 rfl) rfl ?_;rintro v L' ⟨b10,rfl,rfl⟩;refine yst (ac_storeAll rfl rfl (view_one _) sizeOf52 zrp rfl rfl) ?_;refine gy 8 ?_;refine ysp 52 rfl (fun h60=>?_) (fun h60=>?_)
    ·refine gy 14 ?_;rw[show IntKind.i64.wrap ((k:Int)+1)=((k+1:Nat):Int)by rw[wr (by omega) (by omega)];rfl];refine gy 3 ?_;exact hL1 (k+1,Y1,m.step a) ⟨by dsimp only;omega,by dsimp only;omega,by dsimp only;exact(hok3 a).le (by omega),hY1,hlo3 a⟩ (by dsimp only;omega) _ _ zsub zge
    have hr1:m.role=0:=h60;refine gy 6 ?_;refine cc rfl (fun h69=>?_) (fun h69=>?_)
    ·refine gc 7 ?_;rw[show IntKind.i64.wrap ((k:Int)+1)=((k+1:Nat):Int)by rw[wr (by omega) (by omega)];rfl];refine gy 3 ?_;exact hL1 (k+1,Y1,m.step a) ⟨by dsimp only;omega,by dsimp only;omega,by dsimp only;exact(hok3 a).le (by omega),hY1,hlo3 a⟩ (by dsimp only;omega) _ _ zsub zge
    have hr2:(m.step a).role=0:=h69;have hq:=NodM.idle hok (by omega) hlo hr1 a hr2;refine gc 4 ?_;refine y (ev_lenV rfl underlying45 hul) rfl ?_;refine gy 4 ?_;refine cloopT (A:=Nat) (fun x=>[(59,i64 x),(58,i64 (m.told a).length),(57,v),(7,i64 k),(6,ptr F1.p),(1,va)]) (fun x=>nodL F1 Y1 (m.step a)++R) (fun x=>x≤(m.told a).length) (fun x=>(m.told a).length-x) (0) ?_ zsub zge ?_
    · exact Nat.zero_le _
    rintro j hI2 KL2 hL2;have hI2o:=hI2;have hj:=hI2;refine gc 5 ?_;refine cc rfl (fun h77=>?_) (fun h77=>?_)
    ·refine gc 5 ?_;obtain⟨y1,hy⟩: ∃y,(m.told a)[j]? =some y:=⟨_,List.getElem?_eq_getElem (by omega)⟩;obtain⟨q4,hkk⟩:=hq y1 (List.mem_of_getElem? hy);refine y (ev_ixV hu1 rfl rfl underlying45 sizeOf42 (by omega) (by omega)) rfl ?_;refine y (ev_loadNV (us:=y1.cells) (j*3) hu1 zge rfl isAgg42 sizeOf42 (by simp) (letsV_get hy) rfl) rfl ?_;refine ya (ac_alloc zeroValue42 rfl) rfl ?_;rintro v L' ⟨b12,rfl,rfl⟩;refine yst (ac_storeAll rfl rfl (let_one _) sizeOf42 zrp rfl rfl) ?_;refine gy 5 ?_;refine yci (x11Decode (s:=y1.body) ?nlen84) call15 ?_
     case nlen84=>exact q4
     refine gy 3 ?_;refine ya (ac_alloc zeroValue34 rfl) rfl ?_;rintro v L' ⟨b13,rfl,rfl⟩;refine yst (ac_storeAll rfl rfl (msgC_one _) sizeOf34 zrp rfl rfl) ?_;refine gy 15 ?_;refine cc rfl (fun h95=>?_) (fun h95=>?_)
     ·refine gc 2 ?_;refine cc rfl (fun h96=>?_) (fun h96=>?_)
      ·refine gc 6 ?_;rw[show IntKind.i64.wrap ((j:Int)+1)=((j+1:Nat):Int)by rw[wr (by omega) (by omega)];rfl];refine gy 3 ?_;exact hL2 (j+1) (by omega) (by omega) _ _ zsub zge
      refine gc 5 ?_;refine cc rfl (fun h101=>?_) (fun h101=>?_)
      ·refine gc 6 ?_;refine cc rfl (fun h105=>?_) (fun h105=>?_)
       ·exfalso;omega
       refine gc 6 ?_;rw[show IntKind.i64.wrap ((j:Int)+1)=((j+1:Nat):Int)by rw[wr (by omega) (by omega)];rfl];refine gy 3 ?_;exact hL2 (j+1) (by omega) (by omega) _ _ zsub zge
      exfalso;omega
     refine gc 5 ?_;refine cc rfl (fun h110=>?_) (fun h110=>?_)
     ·refine gc 2 ?_;refine cc rfl (fun h111=>?_) (fun h111=>?_)
      ·refine gc 6 ?_;rw[show IntKind.i64.wrap ((j:Int)+1)=((j+1:Nat):Int)by rw[wr (by omega) (by omega)];rfl];refine gy 3 ?_;exact hL2 (j+1) (by omega) (by omega) _ _ zsub zge
      refine gc 5 ?_;refine cc rfl (fun h116=>?_) (fun h116=>?_)
      ·refine gc 6 ?_;refine cc rfl (fun h120=>?_) (fun h120=>?_)
       ·exfalso;omega
       refine gc 6 ?_;rw[show IntKind.i64.wrap ((j:Int)+1)=((j+1:Nat):Int)by rw[wr (by omega) (by omega)];rfl];refine gy 3 ?_;exact hL2 (j+1) (by omega) (by omega) _ _ zsub zge
      exfalso;omega
     refine gc 5 ?_;refine cc rfl (fun h125=>?_) (fun h125=>?_)
     ·refine gc 6 ?_;rw[show IntKind.i64.wrap ((j:Int)+1)=((j+1:Nat):Int)by rw[wr (by omega) (by omega)];rfl];refine gy 3 ?_;exact hL2 (j+1) (by omega) (by omega) _ _ zsub zge
     refine gc 5 ?_;refine cc rfl (fun h130=>?_) (fun h130=>?_)
     ·refine gc 6 ?_;refine cc rfl (fun h134=>?_) (fun h134=>?_)
      ·exfalso;omega
      refine gc 6 ?_;rw[show IntKind.i64.wrap ((j:Int)+1)=((j+1:Nat):Int)by rw[wr (by omega) (by omega)];rfl];refine gy 3 ?_;exact hL2 (j+1) (by omega) (by omega) _ _ zsub zge
     exfalso;omega
    refine gc 9 ?_;rw[show IntKind.i64.wrap ((k:Int)+1)=((k+1:Nat):Int)by rw[wr (by omega) (by omega)];rfl];refine gy 3 ?_;exact hL1 (k+1,Y1,m.step a) ⟨by dsimp only;omega,by dsimp only;omega,by dsimp only;exact(hok3 a).le (by omega),hY1,hlo3 a⟩ (by dsimp only;omega) _ _ zsub zge
   refine gc 10 ?_;refine kretv results6 rfl (L1:=R) zge ?_;exact⟨_,⟨by rfl,rfl⟩,by rfl⟩
  refine gy 16 ?_;refine kretv results6 rfl (L1:=R) zge ?_;exact⟨_,⟨by rfl,rfl⟩,by rfl⟩
end W
end Go.Proofs