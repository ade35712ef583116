/- A part of the proof: contracts and plain lemmas, each without conditions beyond those that it names. -/
import Derived.Test.YtediodfmkbfomaaGreatT8
import Derived.Test.YtediodfmkbfomaaGreatGG
set_option linter.unusedVariables false
set_option linter.unusedSimpArgs false
set_option linter.constructorNameAsVariable false
namespace Go.Proofs
open Go Go.Sl
namespace W
set_option linter.unusedVariables false
theorem cRead [Env] {R : List Seg} {v : Value} {bs : Bytes} (hb : RdY R v bs) (h5 : 5 ≤ bs.length) (hl : bs.length ≤ 1000) :
   Con Tryz.prog 80 [v] [] R (Is (.tuple #[i64 (readT bs).1, str (readT bs).2.1, .bool (readT bs).2.2]) []) := by
 obtain ⟨b0, b1, b2, b3, b4, r, rfl⟩ := five h5
 have hv := hb.rd
 have hl0 := b0.toNat_lt
 have hl1 := b1.toNat_lt
 have hl2 := b2.toNat_lt
 have hl3 := b3.toNat_lt
 have hl4 := b4.toNat_lt
 have hlr : (b0 :: b1 :: b2 :: b3 :: b4 :: r).length = r.length + 5 := rfl
 refine con_enter Tryz.func80 Tryz.ntmps80 rfl rfl ?_
 refine cseq ?_; intro K1 hK1
 refine creg ?_
 refine yas ?_
 refine yas ?_
 refine yas ?_
 refine ynil' (kthn (hK1 _ _ ?_))
 clear hK1
 refine cseq ?_; intro K2 hK2
 refine creg ?_
 refine ymv ?_
 refine y (ev_ixV hv rfl rfl Tryz.underlying22 Tryz.sizeOf5 (by omega) (by omega)) rfl ?_
 refine y (ev_loadV 4 hv zge rfl Tryz.isAgg5 rfl rfl) rfl ?_
 refine y (ev_conv rfl Tryz.underlying5 Tryz.underlying3) rfl ?_
 rw [wr (by omega) (by omega)]
 refine yas ?_
 refine ynil' (kthn (hK2 _ _ ?_))
 clear hK2
 refine cseq ?_; intro K3 hK3
 refine cseq ?_; intro K4 hK4
 refine creg ?_
 refine ymv ?_
 refine y (ev_add rfl rfl) rfl ?_
 rw [wr (by omega) (by omega)]
 refine ymv ?_
 first
   | refine y (ev_len rfl Tryz.underlying22) rfl ?_
   | refine y (ev_lenSv rfl Tryz.underlying22 (by assumption)) rfl ?_
   | refine y (ev_lenV rfl Tryz.underlying22 (RdV.lenVal (by assumption))) rfl ?_
   | refine y (ev_lenV rfl Tryz.underlying22 (RdB.lenVal (by assumption))) rfl ?_
 refine y (ev_gtr rfl rfl) rfl ?_
 refine ynil' (kthn (hK4 _ _ ?_))
 clear hK4
 refine ccond rfl (fun h14 => ?_) (fun h14 => ?_)
 ·(try simp only [sH] at h14)
  refine cseq ?_; intro K5 hK5
  refine creg ?_
  have hrt : readT (b0 :: b1 :: b2 :: b3 :: b4 :: r) = (0, [], false) := readT_dich.1 (by unfold Unread; omega)
  refine yas ?_
  refine yas ?_
  refine yas ?_
  refine ynil' (kthn (hK5 _ _ ?_))
  clear hK5
  refine cret (kthr ?_)
  first
    | (exfalso; omega; done)
    | (refine kretv3 Tryz.results80 rfl rfl rfl (L1 := [] ++ R) zge ?_
       rw [hrt]; exact ⟨_, ⟨rfl, rfl⟩, rfl⟩)
 ·(try simp only [sH] at h14)
  have hle : b4.toNat ≤ r.length := by omega
  have hd5 : RdY R (vSl v 5 (5 + b4.toNat) 1) (r.take b4.toNat) := by
    have := hb.sl (lo := 5) (hi := 5 + b4.toNat) (by omega) (by omega)
    rwa [show 5 + b4.toNat - 5 = b4.toNat by omega] at this
  have hd4 : RdY R (vSl v 4 (5 + b4.toNat) 1) ((b4 :: r).take (b4.toNat + 1)) := by
    have := hb.sl (lo := 4) (hi := 5 + b4.toNat) (by omega) (by omega)
    rwa [show 5 + b4.toNat - 4 = b4.toNat + 1 by omega] at this
  have hl6 : ((b4 :: r).take (b4.toNat + 1)).length ≤ 1000 := by simp; omega
  refine cskip' (kthn (hK3 _ _ ?_))
  clear hK3
  refine cseq ?_; intro K6 hK6
  refine cdraw 22 [(0, true), (1, true), (2, true), (3, true), (4, true), (5, true), (6, true), (7, true), (8, true), (9, true), (10, true), (11, true), (12, true), (13, true), (14, true), (15, true), (16, true), (17, true), (18, true), (19, true), (20, true), (21, true)] (_) Tryz.mixed (by kernel_rfl) .refl ?_
  refine hr rfl (ev_move rfl) rfl ?_
  refine hr rfl (ev_ixV hv rfl rfl Tryz.underlying22 Tryz.sizeOf5 (by omega) (by omega)) rfl ?_
  refine hr rfl (ev_loadV 0 hv zge rfl Tryz.isAgg5 rfl rfl) rfl ?_
  refine hr rfl (ev_conv rfl Tryz.underlying5 Tryz.underlying163) rfl ?_
  refine hr rfl (ev_shl rfl rfl (by first | decide | omega)) rfl ?_
  refine hr rfl (ev_move rfl) rfl ?_
  refine hr rfl (ev_ixV hv rfl rfl Tryz.underlying22 Tryz.sizeOf5 (by omega) (by omega)) rfl ?_
  refine hr rfl (ev_loadV 1 hv zge rfl Tryz.isAgg5 rfl rfl) rfl ?_
  refine hr rfl (ev_conv rfl Tryz.underlying5 Tryz.underlying163) rfl ?_
  refine hr rfl (ev_shl rfl rfl (by first | decide | omega)) rfl ?_
  refine hr rfl (ev_or rfl rfl) rfl ?_
  refine hr rfl (ev_move rfl) rfl ?_
  refine hr rfl (ev_ixV hv rfl rfl Tryz.underlying22 Tryz.sizeOf5 (by omega) (by omega)) rfl ?_
  refine hr rfl (ev_loadV 2 hv zge rfl Tryz.isAgg5 rfl rfl) rfl ?_
  refine hr rfl (ev_conv rfl Tryz.underlying5 Tryz.underlying163) rfl ?_
  refine hr rfl (ev_shl rfl rfl (by first | decide | omega)) rfl ?_
  refine hr rfl (ev_or rfl rfl) rfl ?_
  refine hr rfl (ev_move rfl) rfl ?_
  refine hr rfl (ev_ixV hv rfl rfl Tryz.underlying22 Tryz.sizeOf5 (by omega) (by omega)) rfl ?_
  refine hr rfl (ev_loadV 3 hv zge rfl Tryz.isAgg5 rfl rfl) rfl ?_
  refine hr rfl (ev_conv rfl Tryz.underlying5 Tryz.underlying163) rfl ?_
  refine hr rfl (ev_or rfl rfl) rfl ?_
  rw [be32or hl0 hl1 hl2 hl3, show b0.toNat * 16777216 + b1.toNat * 65536 + b2.toNat * 256 + b3.toNat = ofBe4 (b0 :: b1 :: b2 :: b3 :: b4 :: r) from rfl]
  refine hnil ?_
  refine yas ?_
  refine hnoP' (kthn (hK6 _ _ ?_))
  clear hK6
  refine cseq ?_; intro K7 hK7
  refine creg ?_
  refine ymv ?_
  refine ymv ?_
  refine y (ev_add rfl rfl) rfl ?_
  rw [wr (by omega) (by omega), show (5 : Int) + ((b4.toNat : Nat) : Int) = ((5 + b4.toNat : Nat) : Int) by omega]
  refine y (ev_slLHV hv hb.cap rfl rfl rfl Tryz.underlying22 Tryz.sizeOf5 (by omega) (by omega) (by omega)) rfl ?_
  refine ycall (cDecode (bs := r.take b4.toNat) ?hb45) rfl Tryz.call61 ztk rfl ?_
  case hb45 => exact hd5.mono zge
  rintro v L' ⟨sn45, st45, rfl, ok45, rfl⟩
  obtain ⟨hbad, hgood⟩ := @readT_dich b0 b1 b2 b3 b4 r
  generalize decM (r.take b4.toNat) = de at *
  obtain ⟨rc, er⟩ := de
  dsimp only at hbad hgood ok45 ⊢
  have okn := ok45.n
  have okt := ok45.t
  unfold recV
  have hvt : RdV [svSeg st45 9 (strsV rc.texts)] (svVal st45 rc.texts.length) rc.texts.length (strsV rc.texts) := rdV_sv .z okt
  have hvn : RdV [svSeg sn45 2 (intsV rc.nums)] (svVal sn45 rc.nums.length) rc.nums.length (intsV rc.nums) := rdV_sv .z okn
  refine ymv ?_
  refine yxt ?_
  refine yxt ?_
  refine ya (ac_alloc Tryz.zeroValue126 rfl) rfl ?_
  rintro v L' ⟨b7, rfl, rfl⟩
  refine ya0 (ac_storeAll rfl rfl (by first | exact bytesV_one _ | (simp [Value.oneCell']; done) | (simp only [List.forall_mem_cons, List.not_mem_nil, false_implies, implies_true, svVal_one, and_true, true_and, and_self]; first | done | simp [Value.oneCell'])) Tryz.sizeOf126 zrp (by first | rfl | assumption | (simp [*]; done) | (simp [*]; omega)) (by first | rfl | assumption | (simp [*]; done) | (simp [*]; omega))) ?_
  rintro v L' ⟨rfl, rfl⟩
  refine yas ?_
  refine ynil' (kthn (hK7 _ _ ?_))
  clear hK7
  refine cseq ?_; intro K8 hK8
  refine cseq ?_; intro K9 hK9
  refine creg ?_
  refine ymv ?_
  refine ymv ?_
  refine y (ev_add rfl rfl) rfl ?_
  rw [wr (by omega) (by omega), show (5 : Int) + ((b4.toNat : Nat) : Int) = ((5 + b4.toNat : Nat) : Int) by omega]
  refine y (ev_slLHV hv hb.cap rfl rfl rfl Tryz.underlying22 Tryz.sizeOf5 (by omega) (by omega) (by omega)) rfl ?_
  refine ymv ?_
  refine ycall (cCheck (bs := (b4 :: r).take (b4.toNat + 1)) ?bs57 ?len57) rfl Tryz.call97 ztk rfl ?_
  case bs57 => exact hd4.rd.mono zge
  case len57 => omega
  rintro v L' ⟨rfl, rfl⟩
  refine y (ev_not rfl) rfl ?_
  refine ymv ?_
  refine ysplit 55 rfl (fun h60 => ?_) (fun h60 => ?_)
  ·(try simp only [sH] at h60)
   refine ygz ?_
   refine ygz ?_
   refine ypa ?_
   refine ymv ?_
   refine ygz ?_
   refine ygz ?_
   refine ygz ?_
   refine ypa ?_
   refine ymv ?_
   refine ygz ?_
   refine ygz ?_
   refine ygz ?_
   refine ygz ?_
   refine ypa ?_
   refine ymv ?_
   refine ygz ?_
   refine ygz ?_
   refine ygz ?_
   refine ygz ?_
   refine ypa ?_
   refine ymv ?_
   refine ygz ?_
   refine ygz ?_
   refine ygz ?_
   refine ygz ?_
   refine ygz ?_
   refine ygz ?_
   refine ypa ?_
   refine ymv ?_
   refine ygz ?_
   refine ygz ?_
   refine ygz ?_
   refine ygz ?_
   refine ygz ?_
   refine ypa ?_
   refine ymv ?_
   refine ygz ?_
   refine ygz ?_
   refine ygz ?_
   refine ygz ?_
   refine ygz ?_
   refine ypa ?_
   refine ynil' (kthn (hK9 _ _ ?_))
   clear hK9
   refine ccond1 rfl ?_
   refine cseq ?_; intro K10 hK10
   refine creg ?_
   have hrt : readT (b0 :: b1 :: b2 :: b3 :: b4 :: r) = (0, [], false) := hbad (by unfold Unread; omega)
   refine yas ?_
   refine yas ?_
   refine yas ?_
   refine ynil' (kthn (hK10 _ _ ?_))
   clear hK10
   refine cret (kthr ?_)
   first
     | (exfalso; omega; done)
     | (refine kretv3 Tryz.results80 rfl rfl rfl (L1 := [] ++ R) zge ?_
        rw [hrt]; exact ⟨_, ⟨rfl, rfl⟩, rfl⟩)
  ·(try simp only [sH] at h60)
   refine ygo ?_
   refine ymv ?_
   refine ygo ?_
   refine y (ev_neq rfl rfl) rfl ?_
   refine ypb ?_
   refine ymv ?_
   refine ysplit 59 rfl (fun h81 => ?_) (fun h81 => ?_)
   ·(try simp only [sH] at h81)
    refine ygz ?_
    refine ygz ?_
    refine ygz ?_
    refine ypa ?_
    refine ymv ?_
    refine ygz ?_
    refine ygz ?_
    refine ygz ?_
    refine ygz ?_
    refine ypa ?_
    refine ymv ?_
    refine ygz ?_
    refine ygz ?_
    refine ygz ?_
    refine ygz ?_
    refine ypa ?_
    refine ymv ?_
    refine ygz ?_
    refine ygz ?_
    refine ygz ?_
    refine ygz ?_
    refine ygz ?_
    refine ygz ?_
    refine ypa ?_
    refine ymv ?_
    refine ygz ?_
    refine ygz ?_
    refine ygz ?_
    refine ygz ?_
    refine ygz ?_
    refine ypa ?_
    refine ymv ?_
    refine ygz ?_
    refine ygz ?_
    refine ygz ?_
    refine ygz ?_
    refine ygz ?_
    refine ypa ?_
    refine ynil' (kthn (hK9 _ _ ?_))
    clear hK9
    refine ccond1 rfl ?_
    refine cseq ?_; intro K11 hK11
    refine creg ?_
    have hrt : readT (b0 :: b1 :: b2 :: b3 :: b4 :: r) = (0, [], false) := hbad (by unfold Unread; omega)
    refine yas ?_
    refine yas ?_
    refine yas ?_
    refine ynil' (kthn (hK11 _ _ ?_))
    clear hK11
    refine cret (kthr ?_)
    first
      | (exfalso; omega; done)
      | (refine kretv3 Tryz.results80 rfl rfl rfl (L1 := [] ++ R) zge ?_
         rw [hrt]; exact ⟨_, ⟨rfl, rfl⟩, rfl⟩)
   ·(try simp only [sH] at h81)
    refine ygo ?_
    refine y (ev_fieldAddr 0 rfl Tryz.underlying126 rfl Tryz.sizeOf3) rfl ?_
    refine ygo ?_
    refine y (ev_load rfl Tryz.isAgg3 zin rfl) rfl ?_
    refine ygo ?_
    refine y (ev_neq rfl rfl) rfl ?_
    refine ypb ?_
    refine ymv ?_
    refine ysplit 64 rfl (fun h101 => ?_) (fun h101 => ?_)
    ·(try simp only [sH] at h101)
     refine ygz ?_
     refine ygz ?_
     refine ygz ?_
     refine ygz ?_
     refine ypa ?_
     refine ymv ?_
     refine ygz ?_
     refine ygz ?_
     refine ygz ?_
     refine ygz ?_
     refine ypa ?_
     refine ymv ?_
     refine ygz ?_
     refine ygz ?_
     refine ygz ?_
     refine ygz ?_
     refine ygz ?_
     refine ygz ?_
     refine ypa ?_
     refine ymv ?_
     refine ygz ?_
     refine ygz ?_
     refine ygz ?_
     refine ygz ?_
     refine ygz ?_
     refine ypa ?_
     refine ymv ?_
     refine ygz ?_
     refine ygz ?_
     refine ygz ?_
     refine ygz ?_
     refine ygz ?_
     refine ypa ?_
     refine ynil' (kthn (hK9 _ _ ?_))
     clear hK9
     refine ccond1 rfl ?_
     refine cseq ?_; intro K12 hK12
     refine creg ?_
     have hrt : readT (b0 :: b1 :: b2 :: b3 :: b4 :: r) = (0, [], false) := hbad (by unfold Unread; omega)
     refine yas ?_
     refine yas ?_
     refine yas ?_
     refine ynil' (kthn (hK12 _ _ ?_))
     clear hK12
     refine cret (kthr ?_)
     first
       | (exfalso; omega; done)
       | (refine kretv3 Tryz.results80 rfl rfl rfl (L1 := [] ++ R) zge ?_
          rw [hrt]; exact ⟨_, ⟨rfl, rfl⟩, rfl⟩)
    ·(try simp only [sH] at h101)
     refine ygo ?_
     refine y (ev_fieldAddr 1 rfl Tryz.underlying126 rfl Tryz.sizeOf56) rfl ?_
     refine ygo ?_
     refine y (ev_load rfl Tryz.isAgg56 zin rfl) rfl ?_
     refine ygo ?_
     first
       | refine y (ev_len rfl Tryz.underlying56) rfl ?_
       | refine y (ev_lenSv rfl Tryz.underlying56 (by assumption)) rfl ?_
       | refine y (ev_lenV rfl Tryz.underlying56 (RdV.lenVal (by assumption))) rfl ?_
       | refine y (ev_lenV rfl Tryz.underlying56 (RdB.lenVal (by assumption))) rfl ?_
     refine ygo ?_
     refine y (ev_neq rfl rfl) rfl ?_
     refine ypb ?_
     refine ymv ?_
     refine ysplit 70 rfl (fun h120 => ?_) (fun h120 => ?_)
     ·(try simp only [sH] at h120)
      refine ygz ?_
      refine ygz ?_
      refine ygz ?_
      refine ygz ?_
      refine ypa ?_
      refine ymv ?_
      refine ygz ?_
      refine ygz ?_
      refine ygz ?_
      refine ygz ?_
      refine ygz ?_
      refine ygz ?_
      refine ypa ?_
      refine ymv ?_
      refine ygz ?_
      refine ygz ?_
      refine ygz ?_
      refine ygz ?_
      refine ygz ?_
      refine ypa ?_
      refine ymv ?_
      refine ygz ?_
      refine ygz ?_
      refine ygz ?_
      refine ygz ?_
      refine ygz ?_
      refine ypa ?_
      refine ynil' (kthn (hK9 _ _ ?_))
      clear hK9
      refine ccond1 rfl ?_
      refine cseq ?_; intro K13 hK13
      refine creg ?_
      have hrt : readT (b0 :: b1 :: b2 :: b3 :: b4 :: r) = (0, [], false) := hbad (by unfold Unread; omega)
      refine yas ?_
      refine yas ?_
      refine yas ?_
      refine ynil' (kthn (hK13 _ _ ?_))
      clear hK13
      refine cret (kthr ?_)
      first
        | (exfalso; omega; done)
        | (refine kretv3 Tryz.results80 rfl rfl rfl (L1 := [] ++ R) zge ?_
           rw [hrt]; exact ⟨_, ⟨rfl, rfl⟩, rfl⟩)
     ·(try simp only [sH] at h120)
      refine ygo ?_
      refine y (ev_fieldAddr 2 rfl Tryz.underlying126 rfl Tryz.sizeOf98) rfl ?_
      refine ygo ?_
      refine y (ev_load rfl Tryz.isAgg98 zin rfl) rfl ?_
      refine ygo ?_
      first
        | refine y (ev_len rfl Tryz.underlying98) rfl ?_
        | refine y (ev_lenSv rfl Tryz.underlying98 (by assumption)) rfl ?_
        | refine y (ev_lenV rfl Tryz.underlying98 (RdV.lenVal (by assumption))) rfl ?_
        | refine y (ev_lenV rfl Tryz.underlying98 (RdB.lenVal (by assumption))) rfl ?_
      refine ygo ?_
      refine y (ev_neq rfl rfl) rfl ?_
      refine ypb ?_
      refine ymv ?_
      refine ysplit 76 rfl (fun h137 => ?_) (fun h137 => ?_)
      ·(try simp only [sH] at h137)
       refine ygz ?_
       refine ygz ?_
       refine ygz ?_
       refine ygz ?_
       refine ygz ?_
       refine ygz ?_
       refine ypa ?_
       refine ymv ?_
       refine ygz ?_
       refine ygz ?_
       refine ygz ?_
       refine ygz ?_
       refine ygz ?_
       refine ypa ?_
       refine ymv ?_
       refine ygz ?_
       refine ygz ?_
       refine ygz ?_
       refine ygz ?_
       refine ygz ?_
       refine ypa ?_
       refine ynil' (kthn (hK9 _ _ ?_))
       clear hK9
       refine ccond1 rfl ?_
       refine cseq ?_; intro K14 hK14
       refine creg ?_
       have hrt : readT (b0 :: b1 :: b2 :: b3 :: b4 :: r) = (0, [], false) := hbad (by unfold Unread; omega)
       refine yas ?_
       refine yas ?_
       refine yas ?_
       refine ynil' (kthn (hK14 _ _ ?_))
       clear hK14
       refine cret (kthr ?_)
       first
         | (exfalso; omega; done)
         | (refine kretv3 Tryz.results80 rfl rfl rfl (L1 := [] ++ R) zge ?_
            rw [hrt]; exact ⟨_, ⟨rfl, rfl⟩, rfl⟩)
      ·(try simp only [sH] at h137)
       refine ygo ?_
       refine y (ev_fieldAddr 2 rfl Tryz.underlying126 rfl Tryz.sizeOf98) rfl ?_
       refine ygo ?_
       refine y (ev_load rfl Tryz.isAgg98 zin rfl) rfl ?_
       refine ygo ?_
       refine y (ev_ixV hvt rfl rfl Tryz.underlying98 Tryz.sizeOf9 (by omega) (by omega)) rfl ?_
       refine ygo ?_
       refine y (ev_loadV 0 hvt zge rfl Tryz.isAgg9 rfl (strsV_get (head_get (d := []) (by omega)))) rfl ?_
       refine ygo ?_
       first
         | refine y (ev_lenStr rfl Tryz.underlying9) rfl ?_
         | refine y (ev_lenS rfl Tryz.underlying9) rfl ?_
       refine ygo ?_
       refine y (ev_gtr rfl rfl) rfl ?_
       refine ypb ?_
       refine ymv ?_
       refine ysplit 84 rfl (fun h154 => ?_) (fun h154 => ?_)
       ·(try simp only [sH] at h154)
        refine ygz ?_
        refine ygz ?_
        refine ygz ?_
        refine ygz ?_
        refine ygz ?_
        refine ypa ?_
        refine ymv ?_
        refine ygz ?_
        refine ygz ?_
        refine ygz ?_
        refine ygz ?_
        refine ygz ?_
        refine ypa ?_
        refine ynil' (kthn (hK9 _ _ ?_))
        clear hK9
        refine ccond1 rfl ?_
        refine cseq ?_; intro K15 hK15
        refine creg ?_
        have hrt : readT (b0 :: b1 :: b2 :: b3 :: b4 :: r) = (0, [], false) := hbad (by unfold Unread; omega)
        refine yas ?_
        refine yas ?_
        refine yas ?_
        refine ynil' (kthn (hK15 _ _ ?_))
        clear hK15
        refine cret (kthr ?_)
        first
          | (exfalso; omega; done)
          | (refine kretv3 Tryz.results80 rfl rfl rfl (L1 := [] ++ R) zge ?_
             rw [hrt]; exact ⟨_, ⟨rfl, rfl⟩, rfl⟩)
       ·(try simp only [sH] at h154)
        refine ygo ?_
        refine y (ev_fieldAddr 1 rfl Tryz.underlying126 rfl Tryz.sizeOf56) rfl ?_
        refine ygo ?_
        refine y (ev_load rfl Tryz.isAgg56 zin rfl) rfl ?_
        refine ygo ?_
        refine y (ev_ixV hvn rfl rfl Tryz.underlying56 Tryz.sizeOf2 (by omega) (by omega)) rfl ?_
        refine ygo ?_
        refine y (ev_loadV 0 hvn zge rfl Tryz.isAgg2 rfl (intsV_get (head_get (d := 0) (by omega)))) rfl ?_
        refine ygo ?_
        refine y (ev_lss rfl rfl) rfl ?_
        refine ypb ?_
        refine ymv ?_
        refine ysplit 91 rfl (fun h168 => ?_) (fun h168 => ?_)
        ·(try simp only [sH] at h168)
         refine ygz ?_
         refine ygz ?_
         refine ygz ?_
         refine ygz ?_
         refine ygz ?_
         refine ypa ?_
         refine ynil' (kthn (hK9 _ _ ?_))
         clear hK9
         refine ccond1 rfl ?_
         refine cseq ?_; intro K16 hK16
         refine creg ?_
         have hrt : readT (b0 :: b1 :: b2 :: b3 :: b4 :: r) = (0, [], false) := hbad (by unfold Unread; omega)
         refine yas ?_
         refine yas ?_
         refine yas ?_
         refine ynil' (kthn (hK16 _ _ ?_))
         clear hK16
         refine cret (kthr ?_)
         first
           | (exfalso; omega; done)
           | (refine kretv3 Tryz.results80 rfl rfl rfl (L1 := [] ++ R) zge ?_
              rw [hrt]; exact ⟨_, ⟨rfl, rfl⟩, rfl⟩)
        ·(try simp only [sH] at h168)
         refine ygo ?_
         refine y (ev_fieldAddr 1 rfl Tryz.underlying126 rfl Tryz.sizeOf56) rfl ?_
         refine ygo ?_
         refine y (ev_load rfl Tryz.isAgg56 zin rfl) rfl ?_
         refine ygo ?_
         refine y (ev_ixV hvn rfl rfl Tryz.underlying56 Tryz.sizeOf2 (by omega) (by omega)) rfl ?_
         refine ygo ?_
         refine y (ev_loadV 0 hvn zge rfl Tryz.isAgg2 rfl (intsV_get (head_get (d := 0) (by omega)))) rfl ?_
         refine ygo ?_
         refine y (ev_gtr rfl rfl) rfl ?_
         refine ypb ?_
         refine ynil' (kthn (hK9 _ _ ?_))
         clear hK9
         refine ccond rfl (fun h179 => ?_) (fun h179 => ?_)
         ·(try simp only [sH] at h179)
          refine cseq ?_; intro K17 hK17
          refine creg ?_
          have hrt : readT (b0 :: b1 :: b2 :: b3 :: b4 :: r) = (0, [], false) := hbad (by unfold Unread; omega)
          refine yas ?_
          refine yas ?_
          refine yas ?_
          refine ynil' (kthn (hK17 _ _ ?_))
          clear hK17
          refine cret (kthr ?_)
          first
            | (exfalso; omega; done)
            | (refine kretv3 Tryz.results80 rfl rfl rfl (L1 := [] ++ R) zge ?_
               rw [hrt]; exact ⟨_, ⟨rfl, rfl⟩, rfl⟩)
         ·(try simp only [sH] at h179)
          refine cskip' (kthn (hK8 _ _ ?_))
          clear hK8
          refine cseq ?_; intro K18 hK18
          refine cdraw 10 [(0, true), (1, true), (2, true), (3, true), (4, true), (5, true), (6, true), (7, true), (8, true), (9, true)] (_) Tryz.mixed (by kernel_rfl) .refl ?_
          have hrt := hgood (by unfold Unread; omega)
          refine hr rfl (ev_fieldAddr 1 rfl Tryz.underlying126 rfl Tryz.sizeOf56) rfl ?_
          refine hr rfl (ev_load rfl Tryz.isAgg56 zin rfl) rfl ?_
          refine hr rfl (ev_ixV hvn rfl rfl Tryz.underlying56 Tryz.sizeOf2 (by omega) (by omega)) rfl ?_
          refine hr rfl (ev_loadV 0 hvn zge rfl Tryz.isAgg2 rfl (intsV_get (head_get (d := 0) (by omega)))) rfl ?_
          refine hr rfl (ev_fieldAddr 2 rfl Tryz.underlying126 rfl Tryz.sizeOf98) rfl ?_
          refine hr rfl (ev_load rfl Tryz.isAgg98 zin rfl) rfl ?_
          refine hr rfl (ev_ixV hvt rfl rfl Tryz.underlying98 Tryz.sizeOf9 (by omega) (by omega)) rfl ?_
          refine hr rfl (ev_loadV 0 hvt zge rfl Tryz.isAgg9 rfl (strsV_get (head_get (d := []) (by omega)))) rfl ?_
          refine hr rfl (ev_assign rfl) rfl ?_
          refine hr rfl (ev_assign rfl) rfl ?_
          refine hnil ?_
          refine yas ?_
          refine hnoP' (kthn (hK18 _ _ ?_))
          clear hK18
          refine cret ?_
          first
            | (exfalso; omega; done)
            | (refine kretv3 Tryz.results80 rfl rfl rfl (L1 := [] ++ R) zge ?_
               rw [hrt]; exact ⟨_, ⟨rfl, rfl⟩, rfl⟩)
end W
end Go.Proofs
