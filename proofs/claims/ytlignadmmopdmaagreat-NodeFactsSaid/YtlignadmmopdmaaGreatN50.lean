/- A part of the proof. -/
import Derived.Test.YtlignadmmopdmaaGreatUn
import Derived.Test.YtlignadmmopdmaaGreatN46
import Derived.Test.YtlignadmmopdmaaGreatNodV
set_option linter.unusedVariables false
set_option linter.unusedSimpArgs false
set_option linter.constructorNameAsVariable false
namespace Go.Proofs
open _root_.Go.Proofs.Tryz
open Go Go.Sl
namespace W
set_option maxHeartbeats 4000000
theorem x16Facts [Env]{R:List Seg}{e:Int}(he:N62 e):Con Tryz.prog 23 [i64 e] [] R (Is (str (factB e)) []):=by
 have hmay:=nfact_may he;have henc:encM ⟨50,[e],[]⟩=(factB e,0):=by rw[enc_may hmay,factB_eq he]
 refine con_enter func23 ntmps23 rfl rfl ?_;refine gc 6 ?_;refine ya (ac_bsliceR rfl underlying57 sizeOf2 zeroValue2 rfl rfl rfl rfl ⟨⟨_,_,rfl,(by rfl),(by decide)⟩,trivial⟩ (by dsimp[fillL,splice,vcells,reps]<;>rfl)) rfl ?_;rintro v L' ⟨b7,rfl,rfl⟩;refine y (ev_be rfl) rfl ?_;refine ycall (rEncode (r:=⟨50,[e],[]⟩) ?hn5 ?ht5 ?sx5) rfl call55 ztk rfl ?_
 case hn5=>exact rdV_in zin rfl rfl
 case ht5=>exact rdV_nil
 case sx5=>exact hmay.num
 rintro v L' ⟨s9,rfl,ok9,rfl⟩;rw[henc]at ok9 ⊢;dsimp only at ok9 ⊢;generalize factB e=rb at*;refine gy 9 ?_;refine y (ev_toStrB (rdY_sv (L:=[svSeg s9 5 (bytesV rb)]) .z ok9).rd.bytes zge rfl underlying55 underlying9 underlying5) rfl ?_;refine gy 4 ?_;refine kretv results23 rfl (L1:=R) zge ?_;exact⟨_,⟨by rfl,rfl⟩,by rfl⟩
theorem nOpen5 [Env]{R:List Seg}{q:Q3}{D:Dev}{r:Int × NodM}(hD:D.ok)(hr:nodOpen 1 5 D 4 5 5=r)(h:r.1=0):
   Con Tryz.prog 19 [i64 1,i64 5,dp q,i64 4,i64 5,i64 5] [dev q D] R (fun v L'=> ∃F V,F.q=q∧v= .tuple #[ptr F.p,i64 0]∧NVok V r.2∧L'=nodL F V r.2):=nOpenGood hD hr h
theorem lawNFacts [Env]{R:List Seg}{sv:Int}{text:Bytes}(hs:0≤sv∧sv≤255):Con Tryz.prog 4 [.int .u8 sv,str text] [] R (Is (.bool true) []):=by
 obtain⟨N,hN,h16,h40⟩: ∃N:Nat,IntKind.i64.wrap (IntKind.i64.wrap (sv.tmod 25)+16)=(N:Int)∧16≤N∧N≤40:=by
   have h1:0≤sv.tmod 25∧sv.tmod 25≤24:=by rw[Int.tmod_eq_emod_of_nonneg hs.1];omega
   refine⟨(sv.tmod 25+16).toNat,?_,by omega,by omega⟩;rw[wr (show(_:Int)≤sv.tmod 25 by omega) (by omega),wr (by omega) (by omega)];omega
 refine con_enter func4 ntmps4 rfl rfl ?_;refine gc 6 ?_;refine yci (awake16) call12 ?_
 skip
 ·refine gy 8 ?_;refine y (ev_rem rfl rfl (by decide)) rfl ?_;refine y (ev_conv rfl underlying5 underlying3) rfl ?_;refine gy 1 ?_;rw[hN];refine gy 5 ?_;refine ycall (secNew (n:=N) (by omega)) rfl call18 ztk rfl ?_;rintro v L' ⟨q23,rfl,rfl⟩;refine gy 6 ?_
  skip
  ·refine y (ev_eqlPnil rfl rfl underlying26) rfl ?_;refine gy 2 ?_;refine ygo ?_;refine y (ev_lenStr rfl underlying9) rfl ?_;refine gy 4 ?_;refine cc rfl (fun h32=>?_) (fun h32=>?_)
   ·refine gc 1 ?_
    skip
    ·refine gy 1 ?_;refine y (ev_neqPnil rfl rfl underlying26) rfl ?_;refine gy 5 ?_;refine kretv results4 rfl (L1:=R) zge ?_;exact⟨_,⟨by rfl,rfl⟩,by rfl⟩
   have ht100:text.length≤100:=by omega
   refine gc 3 ?_;obtain⟨fa,fal,fb,fbl,fbe,ff,fc,fcl,fce⟩:=fact_run ⟨h16,h40⟩ ht100;have hD0:(Dev.new N).ok:=Dev.new_ok (by omega);obtain⟨r1,hr1⟩: ∃z,nodOpen 1 5 (Dev.new N) 4 5 5=z:=⟨_,rfl⟩;rw[hr1]at fa fal fb fbl fbe ff fc fcl fce;have ho1:r1.2.ok 0:=by rw[←hr1]at fa ⊢;exact nodOpen_ok hD0 fa
   have hD1:r1.2.d.ok:=ho1.p.c.d;have hD2:(r1.2.d.write 0 (slotM 1 text)).2.ok:=Dev.write_ok hD1 _ _;obtain⟨w2,hw2⟩: ∃z,r1.2.d.write 0 (slotM 1 text)=z:=⟨_,rfl⟩;rw[hw2]at fb fbl fbe ff fc fcl fce hD2;obtain⟨r2,hr2⟩: ∃z,nodOpen 1 5 w2.2 4 5 5=z:=⟨_,rfl⟩;rw[hr2]at fb fbl fbe ff fc fcl fce;have ho2:r2.2.ok 0:=by rw[←hr2]at fb ⊢;exact nodOpen_ok hD2 fb
   have hD3:r2.2.d.ok:=ho2.p.c.d;have hD4:=nodFormat_ok hD3;obtain⟨w3,hw3⟩: ∃z,nodFormat r2.2.d=z:=⟨_,rfl⟩;rw[hw3]at ff fc fcl fce hD4;obtain⟨r3,hr3⟩: ∃z,nodOpen 1 5 w3.2 4 5 5=z:=⟨_,rfl⟩;rw[hr3]at fc fcl fce;have ho3:r3.2.ok 0:=by rw[←hr3]at fc ⊢;exact nodOpen_ok hD4 fc
   refine gy 1 ?_;refine ycall (nOpen5 hD0 hr1 fa) rfl call19 ztk rfl ?_;rintro v L' ⟨F1,V1,hq1,rfl,hV1,rfl⟩;subst hq1;refine gy 9 ?_
   skip
   ·refine gy 1 ?_;refine y (ev_eqlPnil rfl rfl underlying27) rfl ?_;refine gy 6 ?_;refine ygo ?_;refine yci (nView (F:=F1) (V:=V1) (n:=r1.2) (K:=0) ?nok51 ?nk51 ?vok51) call20 ?_
    case nok51=>exact ho1
    case nk51=>omega
    case vok51=>exact hV1
    refine ygo ?_;refine y (ev_field1 1 rfl underlying52 rfl isAgg4 rfl) rfl ?_;rw[show r1.2.view.lost=true from fal];refine gy 10 ?_;refine ycall (rSlot ?lo57 ?hi57) rfl call22 ztk rfl ?_
    case lo57=>omega
    case hi57=>omega
    rintro v L' ⟨s52,rfl,ok52,rfl⟩;refine yci (secWrite (q:=F1.q) (D:=r1.2.d) (bs:=slotM 1 text) ?ok58 ?rd58) call21 ?_
    case ok58=>exact hD1
    case rd58=>exact(rdY_sv .z ok52).rd.bytes
    rw[hw2];refine gy 4 ?_;refine ycall (nOpen5 hD2 hr2 fb) rfl call19 ztk rfl ?_;rintro v L' ⟨F2,V2,hq2,rfl,hV2,rfl⟩;rw[←hq2];refine gy 9 ?_
    skip
    ·refine gy 1 ?_;refine y (ev_eqlPnil rfl rfl underlying27) rfl ?_;refine gy 13 ?_;refine cseqT ?_;intro K17 hK17;refine gc 2 ?_;refine yci (nView (F:=F2) (V:=V2) (n:=r2.2) (K:=0) ?nok74 ?nk74 ?vok74) call20 ?_
     case nok74=>exact ho2
     case nk74=>omega
     case vok74=>exact hV2
     refine y (ev_field1 2 rfl underlying52 rfl isAgg2 rfl) rfl ?_;obtain⟨e0,he0⟩: ∃z,r2.2.view.epoch=z:=⟨_,rfl⟩;rw[he0];have hes:=known_N (text:=text) (e0:=e0) (he0.symm.trans fbe);have hkn:=known_fact (text:=text) (e0:=e0) (he0.symm.trans fbe);refine ya (ac_bsliceR (vs:=intsV (facEs e0)) rfl underlying57 sizeOf2 zeroValue2 rfl rfl rfl rfl ⟨⟨_,_,rfl,(by rfl),(by decide)⟩,⟨⟨_,_,rfl,(by rfl),(by decide)⟩,⟨⟨_,_,rfl,(by rfl),(by decide)⟩,⟨⟨_,_,rfl,(by rfl),(by decide)⟩,⟨⟨_,_,rfl,(by rfl),(by decide)⟩,⟨⟨_,_,rfl,(by rfl),(by decide)⟩,trivial⟩⟩⟩⟩⟩⟩ (by dsimp[fillL,splice,vcells,reps]<;>rfl)) rfl ?_;rintro v L' ⟨b68,rfl,rfl⟩;have hvs:RdV [sc b68 (intsV (facEs e0)) 2] (.slice (some ⟨b68,0,none⟩) 6 6) 6 (intsV (facEs e0)):=rdV_in .z rfl rfl;refine y (ev_len rfl underlying57) rfl ?_;refine gy 3 ?_
     have hJ1: ∀x:Nat × Bool,((x.1≤6∧x.2=((facEs e0).take x.1).any (fun e=>decide (text=factB e)))∧(x.1=6))→Sk 113 K17 ([(70,i64 x.1),(69,i64 6),(68,.slice (some ⟨b68,0,none⟩) 6 6),(11,.bool x.2),(6,dp F2.q),(9,ptr F2.p),(1,str text)]) (sc b68 (intsV (facEs e0)) 2::nodL F2 V2 r2.2++R):=by
      rintro⟨j,kn⟩ ⟨hI1,hX1⟩;refine hK17 _ _ ?_;obtain⟨hj,hkj⟩:=hI1;dsimp only at hj hkj ⊢;have hX1:j=6:=hX1;subst hX1;have hk6:kn=(fact text).isSome:=hkj.trans hkn;refine gc 2 ?_
      skip
      ·refine gy 1 ?_;refine yci (nView (F:=F2) (V:=V2) (n:=r2.2) (K:=0) ?nok80 ?nk80 ?vok80) call20 ?_
       case nok80=>exact ho2
       case nk80=>omega
       case vok80=>exact hV2
       refine y (ev_field1 1 rfl underlying52 rfl isAgg4 rfl) rfl ?_;rw[show r2.2.view.lost=(fact text).isNone from fbl];refine gy 1 ?_;refine y (ev_eqlB rfl rfl underlying4) rfl ?_;rw[hk6,show((fact text).isNone==(fact text).isSome)=false by cases fact text<;>rfl];refine gy 8 ?_;refine yci (nFormat (q:=F2.q) (D:=r2.2.d) ?dok85) call24 ?_
       case dok85=>exact hD3
       rw[hw3,ff]
       skip
       ·refine gy 8 ?_;refine ycall (nOpen5 hD4 hr3 fc) rfl call19 ztk rfl ?_;rintro v L' ⟨F3,V3,hq3,rfl,hV3,rfl⟩;refine gy 8 ?_
        skip
        ·refine gy 1 ?_;refine y (ev_neqPnil rfl rfl underlying27) rfl ?_;refine gy 6 ?_;refine ygo ?_;refine yci (nView (F:=F3) (V:=V3) (n:=r3.2) (K:=0) ?nok102 ?nk102 ?vok102) call20 ?_
         case nok102=>exact ho3
         case nk102=>omega
         case vok102=>exact hV3
         refine ygo ?_;refine y (ev_field1 1 rfl underlying52 rfl isAgg4 rfl) rfl ?_;rw[show r3.2.view.lost=false from fcl];refine gy 4 ?_;refine ygo ?_;refine yci (nView (F:=F3) (V:=V3) (n:=r3.2) (K:=0) ?nok108 ?nk108 ?vok108) call20 ?_
         case nok108=>exact ho3
         case nk108=>omega
         case vok108=>exact hV3
         refine ygo ?_;refine y (ev_field1 2 rfl underlying52 rfl isAgg2 rfl) rfl ?_;rw[show r3.2.view.epoch=0 from fce];refine gy 6 ?_;refine kretv results4 rfl (L1:=R) zge ?_;exact⟨_,⟨by rfl,rfl⟩,by rfl⟩
     clear hK17;refine gc 1 ?_;refine cloopT (A:=Nat × Bool) (fun x=>[(70,i64 x.1),(69,i64 6),(68,.slice (some ⟨b68,0,none⟩) 6 6),(11,.bool x.2),(6,dp F2.q),(9,ptr F2.p),(1,str text)]) (fun x=>sc b68 (intsV (facEs e0)) 2::nodL F2 V2 r2.2++R) (fun x=>x.1≤6∧x.2=((facEs e0).take x.1).any (fun e=>decide (text=factB e))) (fun x=>6-x.1) ((0,false)) ?_ zsub zge ?_
     · exact⟨Nat.zero_le _,rfl⟩
     rintro⟨j,kn⟩ hI1 KL1 hL1;have hI1o:=hI1;obtain⟨hj,hkj⟩:=hI1;dsimp only at hj hkj ⊢;refine gc 5 ?_;refine cc rfl (fun h114=>?_) (fun h114=>?_)
     ·refine gc 5 ?_;obtain⟨e,he⟩: ∃e,(facEs e0)[j]? =some e:=⟨_,List.getElem?_eq_getElem (show j<6 by omega)⟩;have heN:=hes e (List.mem_of_getElem? he);have hknx:((facEs e0).take (j+1)).any (fun e=>decide (text=factB e))=(kn||decide (text=factB e)):=by rw[take_snoc he,List.any_append,←hkj];simp
      refine y (ev_ixV hvs rfl rfl underlying57 sizeOf2 (by omega) (by omega)) rfl ?_;refine y (ev_loadV j hvs zge rfl isAgg2 (by simp) (intsV_get he)) rfl ?_;refine gy 4 ?_;rcases kn with _|_
      ·refine gy 4 ?_;refine ygo ?_;refine yci (x16Facts heN) call23 ?_;refine ygo ?_;refine y (ev_eqlL rfl rfl) rfl ?_;refine gy 7 ?_;rw[show IntKind.i64.wrap ((j:Int)+1)=((j+1:Nat):Int)by rw[wr (by omega) (by omega)];rfl];refine gy 3 ?_;exact hL1 (j+1,decide (text=factB e)) ⟨by dsimp only;omega,by dsimp only;rw[hknx];rfl⟩ (by dsimp only;omega) _ _ zsub zge
      refine gy 13 ?_;rw[show IntKind.i64.wrap ((j:Int)+1)=((j+1:Nat):Int)by rw[wr (by omega) (by omega)];rfl];refine gy 3 ?_;exact hL1 (j+1,true) ⟨by dsimp only;omega,by dsimp only;rw[hknx];rfl⟩ (by dsimp only;omega) _ _ zsub zge
     refine gc 5 ?_;exact ksub zsub zge (hJ1 ⟨j,kn⟩ ⟨hI1o,by omega⟩)
end W
end Go.Proofs