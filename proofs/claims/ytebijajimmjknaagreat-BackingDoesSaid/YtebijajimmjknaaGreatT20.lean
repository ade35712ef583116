/- A part of the proof: contracts and plain lemmas, each without conditions beyond those that it names. -/
import Derived.Test.YtebijajimmjknaaGreatT19
import Derived.Test.YtebijajimmjknaaGreatGG
set_option linter.unusedVariables false
set_option linter.unusedSimpArgs false
set_option linter.constructorNameAsVariable false
namespace Go.Proofs
open Go Go.Sl
namespace W
set_option linter.unusedVariables false
theorem rUnframed [Env] {R : List Seg} {v : Value} {bs : Bytes} (hb : RdY R v bs) (hl : bs.length ≤ 1000) :
   Con Tryz.prog 98 [v] [] R (fun u L' => ∃ sn st, u = .tuple #[recV (unfrM bs).1 sn st, .bool (unfrM bs).2] ∧ RecOk (unfrM bs).1 sn st ∧ L' = recSegs (unfrM bs).1 sn st) := by
 have hv := hb.rd
 have h5 : ¬ (bs.length : Int) < 5 → ∃ b0 b1 b2 b3 b4 r, bs = b0 :: b1 :: b2 :: b3 :: b4 :: r := fun h => five (by omega)
 have h4 : ¬ (bs.length : Int) < 5 → (bytesV bs)[4]? = some (.int .u8 (bs[4]?.getD 0).toNat) := fun h => bytesV_get (by omega)
 have hx4 := (bs[4]?.getD 0).toNat_lt
 refine con_enter Tryz.func98 Tryz.ntmps98 rfl rfl ?_
 refine cseq ?_; intro K1 hK1
 refine creg ?_
 refine ya (ac_alloc Tryz.zeroValue100 rfl) rfl ?_
 rintro v L' ⟨b2, rfl, rfl⟩
 refine yas ?_
 refine ynil' (kthn (hK1 _ _ ?_))
 clear hK1
 refine cseq ?_; intro K2 hK2
 refine creg ?_
 refine y (ev_build (zs := _) rfl Tryz.underlying100 Tryz.zeroValue100 rfl (.cons Tryz.sizeOf3 (.cons Tryz.sizeOf53 (.cons Tryz.sizeOf98 .nil))) trivial (by dsimp [fillL, splice, vcells] <;> rfl)) rfl ?_
 refine ya (ac_alloc Tryz.zeroValue100 rfl) rfl ?_
 rintro v L' ⟨b4, rfl, rfl⟩
 refine ya0 (ac_storeAll rfl rfl (by first | exact bytesV_one _ | (simp [Value.oneCell']; done) | (simp only [List.forall_mem_cons, List.not_mem_nil, false_implies, implies_true, svVal_one, and_true, true_and, and_self]; first | done | simp [Value.oneCell'])) Tryz.sizeOf100 zrp (by first | rfl | assumption | (simp [*]; done) | (simp [*]; omega)) (by first | rfl | assumption | (simp [*]; done) | (simp [*]; omega))) ?_
 rintro v L' ⟨rfl, rfl⟩
 refine ynil' (kthn (hK2 _ _ ?_))
 clear hK2
 refine cseq ?_; intro K3 hK3
 refine cseq ?_; intro K4 hK4
 refine creg ?_
 refine ymv ?_
 first
   | refine y (ev_len rfl Tryz.underlying50) rfl ?_
   | refine y (ev_lenSv rfl Tryz.underlying50 (by assumption)) rfl ?_
   | refine y (ev_lenV rfl Tryz.underlying50 (RdV.lenVal (by assumption))) rfl ?_
   | refine y (ev_lenV rfl Tryz.underlying50 (RdB.lenVal (by assumption))) rfl ?_
 refine y (ev_lss rfl rfl) rfl ?_
 refine ymv ?_
 refine ysplit 13 rfl (fun h10 => ?_) (fun h10 => ?_)
 ·(try simp only [sH] at h10)
  refine ygz ?_
  refine ygz ?_
  refine ygz ?_
  refine ygz ?_
  refine ygz ?_
  refine ygz ?_
  refine ygz ?_
  refine ygz ?_
  refine ypa ?_
  refine ynil' (kthn (hK4 _ _ ?_))
  clear hK4
  refine ccond1 rfl ?_
  refine cseq ?_; intro K5 hK5
  refine creg ?_
  have hun : unfrM bs = (⟨0, [], []⟩, false) := by
    unfold unfrM; rw [if_pos]
    by_cases h : bs.length < 5
    · rw [List.getElem?_eq_none (by omega)]; simp; omega
    · omega
  refine y (ev_loadAll rfl Tryz.isAgg100 Tryz.sizeOf100 zin (by first | rfl | assumption | (simp [*]; done) | (simp [*]; omega))) rfl ?_
  refine ya0 (ac_storeAll rfl rfl (by first | exact bytesV_one _ | (simp [Value.oneCell']; done) | (simp only [List.forall_mem_cons, List.not_mem_nil, false_implies, implies_true, svVal_one, and_true, true_and, and_self]; first | done | simp [Value.oneCell'])) Tryz.sizeOf100 zrp (by first | rfl | assumption | (simp [*]; done) | (simp [*]; omega)) (by first | rfl | assumption | (simp [*]; done) | (simp [*]; omega))) ?_
  rintro v L' ⟨rfl, rfl⟩
  refine yas ?_
  refine ynil' (kthn (hK5 _ _ ?_))
  clear hK5
  refine cret (kthr ?_)
  first
    | (exfalso; omega; done)
    | (refine kretct Tryz.results98 rfl rfl Tryz.isAgg100 Tryz.sizeOf100 zin (rfl) (L1 := [[], []] ++ R) zge ?_
       rw [hun]; exact ⟨_, ⟨none, none, rfl, ⟨⟨rfl, rfl⟩, ⟨rfl, rfl⟩⟩, rfl⟩, rfl⟩)
 ·(try simp only [sH] at h10)
  refine ygo ?_
  refine ymv ?_
  refine ygo ?_
  refine y (ev_ixV hv rfl rfl Tryz.underlying50 Tryz.sizeOf5 (by omega) (by omega)) rfl ?_
  refine ygo ?_
  refine y (ev_loadV 4 hv zge rfl Tryz.isAgg5 rfl (h4 (by assumption))) rfl ?_
  refine ygo ?_
  refine y (ev_conv rfl Tryz.underlying5 Tryz.underlying3) rfl ?_
  rw [wr (by omega) (by omega)]
  refine ygo ?_
  refine y (ev_add rfl rfl) rfl ?_
  rw [wr (by omega) (by omega)]
  refine ygo ?_
  refine ymv ?_
  refine ygo ?_
  first
    | refine y (ev_len rfl Tryz.underlying50) rfl ?_
    | refine y (ev_lenSv rfl Tryz.underlying50 (by assumption)) rfl ?_
    | refine y (ev_lenV rfl Tryz.underlying50 (RdV.lenVal (by assumption))) rfl ?_
    | refine y (ev_lenV rfl Tryz.underlying50 (RdB.lenVal (by assumption))) rfl ?_
  refine ygo ?_
  refine y (ev_gtr rfl rfl) rfl ?_
  refine ypb ?_
  refine ynil' (kthn (hK4 _ _ ?_))
  clear hK4
  refine ccond rfl (fun h24 => ?_) (fun h24 => ?_)
  ·(try simp only [sH] at h24)
   refine cseq ?_; intro K6 hK6
   refine creg ?_
   have hun : unfrM bs = (⟨0, [], []⟩, false) := by
     unfold unfrM; rw [if_pos]
     by_cases h : bs.length < 5
     · rw [List.getElem?_eq_none (by omega)]; simp; omega
     · omega
   refine y (ev_loadAll rfl Tryz.isAgg100 Tryz.sizeOf100 zin (by first | rfl | assumption | (simp [*]; done) | (simp [*]; omega))) rfl ?_
   refine ya0 (ac_storeAll rfl rfl (by first | exact bytesV_one _ | (simp [Value.oneCell']; done) | (simp only [List.forall_mem_cons, List.not_mem_nil, false_implies, implies_true, svVal_one, and_true, true_and, and_self]; first | done | simp [Value.oneCell'])) Tryz.sizeOf100 zrp (by first | rfl | assumption | (simp [*]; done) | (simp [*]; omega)) (by first | rfl | assumption | (simp [*]; done) | (simp [*]; omega))) ?_
   rintro v L' ⟨rfl, rfl⟩
   refine yas ?_
   refine ynil' (kthn (hK6 _ _ ?_))
   clear hK6
   refine cret (kthr ?_)
   first
     | (exfalso; omega; done)
     | (refine kretct Tryz.results98 rfl rfl Tryz.isAgg100 Tryz.sizeOf100 zin (rfl) (L1 := [[], []] ++ R) zge ?_
        rw [hun]; exact ⟨_, ⟨none, none, rfl, ⟨⟨rfl, rfl⟩, ⟨rfl, rfl⟩⟩, rfl⟩, rfl⟩)
  ·(try simp only [sH] at h24)
   refine cskip' (kthn (hK3 _ _ ?_))
   clear hK3
   refine cseq ?_; intro K7 hK7
   refine creg ?_
   obtain ⟨b0, b1, b2, b3, b4, r, rfl⟩ := h5 (by assumption)
   clear h4 h5 hx4
   have hl0 := b0.toNat_lt
   have hl1 := b1.toNat_lt
   have hl2 := b2.toNat_lt
   have hl3 := b3.toNat_lt
   have hl4 := b4.toNat_lt
   have hlr : (b0 :: b1 :: b2 :: b3 :: b4 :: r).length = r.length + 5 := rfl
   have hle : b4.toNat ≤ r.length := by
     have e : ((b0 :: b1 :: b2 :: b3 :: b4 :: r)[4]?.getD 0).toNat = b4.toNat := rfl
     omega
   have hd5 : RdY R (vSl v 5 (5 + b4.toNat) 1) (r.take b4.toNat) := by
     have := hb.sl (lo := 5) (hi := 5 + b4.toNat) (by omega) (by omega)
     rwa [show 5 + b4.toNat - 5 = b4.toNat by omega] at this
   have hd4 : RdY R (vSl v 4 (5 + b4.toNat) 1) ((b4 :: r).take (b4.toNat + 1)) := by
     have := hb.sl (lo := 4) (hi := 5 + b4.toNat) (by omega) (by omega)
     rwa [show 5 + b4.toNat - 4 = b4.toNat + 1 by omega] at this
   have hl6 : ((b4 :: r).take (b4.toNat + 1)).length ≤ 1000 := by simp; omega
   have hl7 : (r.take b4.toNat).length ≤ 1000 := by simp; omega
   have huc := unfr_cons b0 b1 b2 b3 b4 r
   rw [if_neg (by omega)] at huc
   refine ymv ?_
   refine y (ev_ixV hv rfl rfl Tryz.underlying50 Tryz.sizeOf5 (by omega) (by omega)) rfl ?_
   refine y (ev_loadV 4 hv zge rfl Tryz.isAgg5 rfl rfl) rfl ?_
   refine y (ev_conv rfl Tryz.underlying5 Tryz.underlying3) rfl ?_
   rw [wr (by omega) (by omega)]
   refine yas ?_
   refine ynil' (kthn (hK7 _ _ ?_))
   clear hK7
   refine cseq ?_; intro K8 hK8
   refine cdraw 22 [(0, true), (1, true), (2, true), (3, true), (4, true), (5, true), (6, true), (7, true), (8, true), (9, true), (10, true), (11, true), (12, true), (13, true), (14, true), (15, true), (16, true), (17, true), (18, true), (19, true), (20, true), (21, true)] (_) Tryz.mixed (by kernel_rfl) .refl ?_
   refine hr rfl (ev_move rfl) rfl ?_
   refine hr rfl (ev_ixV hv rfl rfl Tryz.underlying50 Tryz.sizeOf5 (by omega) (by omega)) rfl ?_
   refine hr rfl (ev_loadV 0 hv zge rfl Tryz.isAgg5 rfl rfl) rfl ?_
   refine hr rfl (ev_conv rfl Tryz.underlying5 Tryz.underlying175) rfl ?_
   refine hr rfl (ev_mul rfl rfl) rfl ?_
   refine hr rfl (ev_move rfl) rfl ?_
   refine hr rfl (ev_ixV hv rfl rfl Tryz.underlying50 Tryz.sizeOf5 (by omega) (by omega)) rfl ?_
   refine hr rfl (ev_loadV 1 hv zge rfl Tryz.isAgg5 rfl rfl) rfl ?_
   refine hr rfl (ev_conv rfl Tryz.underlying5 Tryz.underlying175) rfl ?_
   refine hr rfl (ev_mul rfl rfl) rfl ?_
   refine hr rfl (ev_add rfl rfl) rfl ?_
   refine hr rfl (ev_move rfl) rfl ?_
   refine hr rfl (ev_ixV hv rfl rfl Tryz.underlying50 Tryz.sizeOf5 (by omega) (by omega)) rfl ?_
   refine hr rfl (ev_loadV 2 hv zge rfl Tryz.isAgg5 rfl rfl) rfl ?_
   refine hr rfl (ev_conv rfl Tryz.underlying5 Tryz.underlying175) rfl ?_
   refine hr rfl (ev_mul rfl rfl) rfl ?_
   refine hr rfl (ev_add rfl rfl) rfl ?_
   refine hr rfl (ev_move rfl) rfl ?_
   refine hr rfl (ev_ixV hv rfl rfl Tryz.underlying50 Tryz.sizeOf5 (by omega) (by omega)) rfl ?_
   refine hr rfl (ev_loadV 3 hv zge rfl Tryz.isAgg5 rfl rfl) rfl ?_
   refine hr rfl (ev_conv rfl Tryz.underlying5 Tryz.underlying175) rfl ?_
   refine hr rfl (ev_add rfl rfl) rfl ?_
   rw [be32sum hl0 hl1 hl2 hl3, show b0.toNat * 16777216 + b1.toNat * 65536 + b2.toNat * 256 + b3.toNat = ofBe4 (b0 :: b1 :: b2 :: b3 :: b4 :: r) from rfl]
   refine hnil ?_
   refine yas ?_
   refine hnoP' (kthn (hK8 _ _ ?_))
   clear hK8
   refine cseq ?_; intro K9 hK9
   refine cseq ?_; intro K10 hK10
   refine creg ?_
   refine ymv ?_
   refine ymv ?_
   refine y (ev_add rfl rfl) rfl ?_
   rw [wr (by omega) (by omega), show (5 : Int) + ((b4.toNat : Nat) : Int) = ((5 + b4.toNat : Nat) : Int) by omega]
   refine y (ev_slLHV hv hb.cap rfl rfl rfl Tryz.underlying50 Tryz.sizeOf5 (by omega) (by omega) (by omega)) rfl ?_
   refine ycall (rSum (bs := (b4 :: r).take (b4.toNat + 1)) ?bs60 ?len60) rfl Tryz.call110 ztk rfl ?_
   case bs60 => exact hd4.rd.mono zge
   case len60 => omega
   rintro v L' ⟨rfl, rfl⟩
   refine ymv ?_
   refine y (ev_neq rfl rfl) rfl ?_
   refine ynil' (kthn (hK10 _ _ ?_))
   clear hK10
   refine ccond rfl (fun h63 => ?_) (fun h63 => ?_)
   ·(try simp only [sH] at h63)
    refine cseq ?_; intro K11 hK11
    refine creg ?_
    have hun : unfrM (b0 :: b1 :: b2 :: b3 :: b4 :: r) = (⟨0, [], []⟩, false) := by rw [huc, if_neg (by omega)]
    refine y (ev_loadAll rfl Tryz.isAgg100 Tryz.sizeOf100 zin (by first | rfl | assumption | (simp [*]; done) | (simp [*]; omega))) rfl ?_
    refine ya0 (ac_storeAll rfl rfl (by first | exact bytesV_one _ | (simp [Value.oneCell']; done) | (simp only [List.forall_mem_cons, List.not_mem_nil, false_implies, implies_true, svVal_one, and_true, true_and, and_self]; first | done | simp [Value.oneCell'])) Tryz.sizeOf100 zrp (by first | rfl | assumption | (simp [*]; done) | (simp [*]; omega)) (by first | rfl | assumption | (simp [*]; done) | (simp [*]; omega))) ?_
    rintro v L' ⟨rfl, rfl⟩
    refine yas ?_
    refine ynil' (kthn (hK11 _ _ ?_))
    clear hK11
    refine cret (kthr ?_)
    first
      | (exfalso; omega; done)
      | (refine kretct Tryz.results98 rfl rfl Tryz.isAgg100 Tryz.sizeOf100 zin (rfl) (L1 := [[], []] ++ R) zge ?_
         rw [hun]; exact ⟨_, ⟨none, none, rfl, ⟨⟨rfl, rfl⟩, ⟨rfl, rfl⟩⟩, rfl⟩, rfl⟩)
   ·(try simp only [sH] at h63)
    refine cskip' (kthn (hK9 _ _ ?_))
    clear hK9
    refine cseq ?_; intro K12 hK12
    refine creg ?_
    rw [if_pos (by omega)] at huc
    refine ymv ?_
    refine ymv ?_
    refine y (ev_add rfl rfl) rfl ?_
    rw [wr (by omega) (by omega), show (5 : Int) + ((b4.toNat : Nat) : Int) = ((5 + b4.toNat : Nat) : Int) by omega]
    refine y (ev_slLHV hv hb.cap rfl rfl rfl Tryz.underlying50 Tryz.sizeOf5 (by omega) (by omega) (by omega)) rfl ?_
    refine ycall (rDecode (bs := r.take b4.toNat) ?hb71 ?len71) rfl Tryz.call45 ztk rfl ?_
    case hb71 => exact hd5.mono zge
    case len71 => omega
    rintro v L' ⟨sn63, st63, rfl, ok63, rfl⟩
    unfold recV
    refine ymv ?_
    refine yxt ?_
    refine yxt ?_
    refine ya (ac_alloc Tryz.zeroValue100 rfl) rfl ?_
    rintro v L' ⟨b7, rfl, rfl⟩
    refine ya0 (ac_storeAll rfl rfl (by first | exact bytesV_one _ | (simp [Value.oneCell']; done) | (simp only [List.forall_mem_cons, List.not_mem_nil, false_implies, implies_true, svVal_one, and_true, true_and, and_self]; first | done | simp [Value.oneCell'])) Tryz.sizeOf100 zrp (by first | rfl | assumption | (simp [*]; done) | (simp [*]; omega)) (by first | rfl | assumption | (simp [*]; done) | (simp [*]; omega))) ?_
    rintro v L' ⟨rfl, rfl⟩
    refine yas ?_
    refine ynil' (kthn (hK12 _ _ ?_))
    clear hK12
    refine cseq ?_; intro K13 hK13
    refine creg ?_
    refine y (ev_loadAll rfl Tryz.isAgg100 Tryz.sizeOf100 zin (by first | rfl | assumption | (simp [*]; done) | (simp [*]; omega))) rfl ?_
    refine ymv ?_
    refine y (ev_eql rfl rfl) rfl ?_
    refine ya0 (ac_storeAll rfl rfl (by first | exact bytesV_one _ | (simp [Value.oneCell']; done) | (simp only [List.forall_mem_cons, List.not_mem_nil, false_implies, implies_true, svVal_one, and_true, true_and, and_self]; first | done | simp [Value.oneCell'])) Tryz.sizeOf100 zrp (by first | rfl | assumption | (simp [*]; done) | (simp [*]; omega)) (by first | rfl | assumption | (simp [*]; done) | (simp [*]; omega))) ?_
    rintro v L' ⟨rfl, rfl⟩
    refine yas ?_
    refine ynil' (kthn (hK13 _ _ ?_))
    clear hK13
    refine cret ?_
    first
      | (exfalso; omega; done)
      | (refine kretct Tryz.results98 rfl rfl Tryz.isAgg100 Tryz.sizeOf100 zin (rfl) (L1 := recSegs (decM (r.take b4.toNat)).1 sn63 st63 ++ R) zge ?_
         rw [huc]; exact ⟨_, ⟨sn63, st63, rfl, ok63, rfl⟩, rfl⟩)
theorem rRead [Env] {R : List Seg} {v : Value} {bs : Bytes} (hb : RdY R v bs) (hl : bs.length ≤ 1000) :
   Con Tryz.prog 76 [v] [] R (Is (.tuple #[i64 (readT bs).1, str (readT bs).2.1]) []) := by
 refine con_enter Tryz.func76 Tryz.ntmps76 rfl rfl ?_
 refine cseq ?_; intro K1 hK1
 refine creg ?_
 refine yas ?_
 refine yas ?_
 refine ynil' (kthn (hK1 _ _ ?_))
 clear hK1
 refine cseq ?_; intro K2 hK2
 refine creg ?_
 refine ymv ?_
 refine ycall (rUnframed (bs := bs) ?hb86 ?len86) rfl Tryz.call98 ztk rfl ?_
 case hb86 => exact hb.mono zge
 case len86 => exact hl
 rintro v L' ⟨sn8, st8, rfl, ok8, rfl⟩
 have hbad := readT_bad' (b := bs)
 have hgood := readT_good' (b := bs)
 generalize unfrM bs = de at *
 obtain ⟨rc, okb⟩ := de
 dsimp only at hbad hgood ok8 ⊢
 have okn := ok8.n
 have okt := ok8.t
 unfold recV
 have hvt : RdV [svSeg st8 9 (strsV rc.texts)] (svVal st8 rc.texts.length) rc.texts.length (strsV rc.texts) := rdV_sv .z okt
 have hvn : RdV [svSeg sn8 2 (intsV rc.nums)] (svVal sn8 rc.nums.length) rc.nums.length (intsV rc.nums) := rdV_sv .z okn
 refine ymv ?_
 refine yxt ?_
 refine yxt ?_
 refine ya (ac_alloc Tryz.zeroValue100 rfl) rfl ?_
 rintro v L' ⟨b4, rfl, rfl⟩
 refine ya0 (ac_storeAll rfl rfl (by first | exact bytesV_one _ | (simp [Value.oneCell']; done) | (simp only [List.forall_mem_cons, List.not_mem_nil, false_implies, implies_true, svVal_one, and_true, true_and, and_self]; first | done | simp [Value.oneCell'])) Tryz.sizeOf100 zrp (by first | rfl | assumption | (simp [*]; done) | (simp [*]; omega)) (by first | rfl | assumption | (simp [*]; done) | (simp [*]; omega))) ?_
 rintro v L' ⟨rfl, rfl⟩
 refine yas ?_
 refine ynil' (kthn (hK2 _ _ ?_))
 clear hK2
 refine cseq ?_; intro K3 hK3
 refine cseq ?_; intro K4 hK4
 refine creg ?_
 refine ymv ?_
 refine y (ev_not rfl) rfl ?_
 refine ymv ?_
 refine ysplit 13 rfl (fun h96 => ?_) (fun h96 => ?_)
 ·(try simp only [sH] at h96)
  refine ygz ?_
  refine ygz ?_
  refine ygz ?_
  refine ypa ?_
  refine ymv ?_
  refine ygz ?_
  refine ygz ?_
  refine ygz ?_
  refine ygz ?_
  refine ypa ?_
  refine ymv ?_
  refine ygz ?_
  refine ygz ?_
  refine ygz ?_
  refine ygz ?_
  refine ypa ?_
  refine ymv ?_
  refine ygz ?_
  refine ygz ?_
  refine ygz ?_
  refine ygz ?_
  refine ygz ?_
  refine ygz ?_
  refine ypa ?_
  refine ymv ?_
  refine ygz ?_
  refine ygz ?_
  refine ygz ?_
  refine ygz ?_
  refine ygz ?_
  refine ypa ?_
  refine ymv ?_
  refine ygz ?_
  refine ygz ?_
  refine ygz ?_
  refine ygz ?_
  refine ygz ?_
  refine ypa ?_
  refine ynil' (kthn (hK4 _ _ ?_))
  clear hK4
  refine ccond1 rfl ?_
  refine cseq ?_; intro K5 hK5
  refine creg ?_
  have hrt : readT bs = (0, [], false) := hbad (by unfold BadRec; first | exact .inl (by assumption) | exact .inr (by omega))
  refine yas ?_
  refine yas ?_
  refine ynil' (kthn (hK5 _ _ ?_))
  clear hK5
  refine cret (kthr ?_)
  first
    | (exfalso; omega; done)
    | (refine kretv2 Tryz.results76 rfl rfl (L1 := [] ++ R) zge ?_
       rw [hrt]; exact ⟨_, ⟨rfl, rfl⟩, rfl⟩)
 ·(try simp only [sH] at h96)
  refine ygo ?_
  refine y (ev_fieldAddr 0 rfl Tryz.underlying100 rfl Tryz.sizeOf3) rfl ?_
  refine ygo ?_
  refine y (ev_load rfl Tryz.isAgg3 zin rfl) rfl ?_
  refine ygo ?_
  refine y (ev_neq rfl rfl) rfl ?_
  refine ypb ?_
  refine ymv ?_
  refine ysplit 18 rfl (fun h115 => ?_) (fun h115 => ?_)
  ·(try simp only [sH] at h115)
   refine ygz ?_
   refine ygz ?_
   refine ygz ?_
   refine ygz ?_
   refine ypa ?_
   refine ymv ?_
   refine ygz ?_
   refine ygz ?_
   refine ygz ?_
   refine ygz ?_
   refine ypa ?_
   refine ymv ?_
   refine ygz ?_
   refine ygz ?_
   refine ygz ?_
   refine ygz ?_
   refine ygz ?_
   refine ygz ?_
   refine ypa ?_
   refine ymv ?_
   refine ygz ?_
   refine ygz ?_
   refine ygz ?_
   refine ygz ?_
   refine ygz ?_
   refine ypa ?_
   refine ymv ?_
   refine ygz ?_
   refine ygz ?_
   refine ygz ?_
   refine ygz ?_
   refine ygz ?_
   refine ypa ?_
   refine ynil' (kthn (hK4 _ _ ?_))
   clear hK4
   refine ccond1 rfl ?_
   refine cseq ?_; intro K6 hK6
   refine creg ?_
   have hrt : readT bs = (0, [], false) := hbad (by unfold BadRec; first | exact .inl (by assumption) | exact .inr (by omega))
   refine yas ?_
   refine yas ?_
   refine ynil' (kthn (hK6 _ _ ?_))
   clear hK6
   refine cret (kthr ?_)
   first
     | (exfalso; omega; done)
     | (refine kretv2 Tryz.results76 rfl rfl (L1 := [] ++ R) zge ?_
        rw [hrt]; exact ⟨_, ⟨rfl, rfl⟩, rfl⟩)
  ·(try simp only [sH] at h115)
   refine ygo ?_
   refine y (ev_fieldAddr 1 rfl Tryz.underlying100 rfl Tryz.sizeOf53) rfl ?_
   refine ygo ?_
   refine y (ev_load rfl Tryz.isAgg53 zin rfl) rfl ?_
   refine ygo ?_
   first
     | refine y (ev_len rfl Tryz.underlying53) rfl ?_
     | refine y (ev_lenSv rfl Tryz.underlying53 (by assumption)) rfl ?_
     | refine y (ev_lenV rfl Tryz.underlying53 (RdV.lenVal (by assumption))) rfl ?_
     | refine y (ev_lenV rfl Tryz.underlying53 (RdB.lenVal (by assumption))) rfl ?_
   refine ygo ?_
   refine y (ev_neq rfl rfl) rfl ?_
   refine ypb ?_
   refine ymv ?_
   refine ysplit 24 rfl (fun h133 => ?_) (fun h133 => ?_)
   ·(try simp only [sH] at h133)
    refine ygz ?_
    refine ygz ?_
    refine ygz ?_
    refine ygz ?_
    refine ypa ?_
    refine ymv ?_
    refine ygz ?_
    refine ygz ?_
    refine ygz ?_
    refine ygz ?_
    refine ygz ?_
    refine ygz ?_
    refine ypa ?_
    refine ymv ?_
    refine ygz ?_
    refine ygz ?_
    refine ygz ?_
    refine ygz ?_
    refine ygz ?_
    refine ypa ?_
    refine ymv ?_
    refine ygz ?_
    refine ygz ?_
    refine ygz ?_
    refine ygz ?_
    refine ygz ?_
    refine ypa ?_
    refine ynil' (kthn (hK4 _ _ ?_))
    clear hK4
    refine ccond1 rfl ?_
    refine cseq ?_; intro K7 hK7
    refine creg ?_
    have hrt : readT bs = (0, [], false) := hbad (by unfold BadRec; first | exact .inl (by assumption) | exact .inr (by omega))
    refine yas ?_
    refine yas ?_
    refine ynil' (kthn (hK7 _ _ ?_))
    clear hK7
    refine cret (kthr ?_)
    first
      | (exfalso; omega; done)
      | (refine kretv2 Tryz.results76 rfl rfl (L1 := [] ++ R) zge ?_
         rw [hrt]; exact ⟨_, ⟨rfl, rfl⟩, rfl⟩)
   ·(try simp only [sH] at h133)
    refine ygo ?_
    refine y (ev_fieldAddr 2 rfl Tryz.underlying100 rfl Tryz.sizeOf98) rfl ?_
    refine ygo ?_
    refine y (ev_load rfl Tryz.isAgg98 zin rfl) rfl ?_
    refine ygo ?_
    first
      | refine y (ev_len rfl Tryz.underlying98) rfl ?_
      | refine y (ev_lenSv rfl Tryz.underlying98 (by assumption)) rfl ?_
      | refine y (ev_lenV rfl Tryz.underlying98 (RdV.lenVal (by assumption))) rfl ?_
      | refine y (ev_lenV rfl Tryz.underlying98 (RdB.lenVal (by assumption))) rfl ?_
    refine ygo ?_
    refine y (ev_neq rfl rfl) rfl ?_
    refine ypb ?_
    refine ymv ?_
    refine ysplit 30 rfl (fun h149 => ?_) (fun h149 => ?_)
    ·(try simp only [sH] at h149)
     refine ygz ?_
     refine ygz ?_
     refine ygz ?_
     refine ygz ?_
     refine ygz ?_
     refine ygz ?_
     refine ypa ?_
     refine ymv ?_
     refine ygz ?_
     refine ygz ?_
     refine ygz ?_
     refine ygz ?_
     refine ygz ?_
     refine ypa ?_
     refine ymv ?_
     refine ygz ?_
     refine ygz ?_
     refine ygz ?_
     refine ygz ?_
     refine ygz ?_
     refine ypa ?_
     refine ynil' (kthn (hK4 _ _ ?_))
     clear hK4
     refine ccond1 rfl ?_
     refine cseq ?_; intro K8 hK8
     refine creg ?_
     have hrt : readT bs = (0, [], false) := hbad (by unfold BadRec; first | exact .inl (by assumption) | exact .inr (by omega))
     refine yas ?_
     refine yas ?_
     refine ynil' (kthn (hK8 _ _ ?_))
     clear hK8
     refine cret (kthr ?_)
     first
       | (exfalso; omega; done)
       | (refine kretv2 Tryz.results76 rfl rfl (L1 := [] ++ R) zge ?_
          rw [hrt]; exact ⟨_, ⟨rfl, rfl⟩, rfl⟩)
    ·(try simp only [sH] at h149)
     refine ygo ?_
     refine y (ev_fieldAddr 2 rfl Tryz.underlying100 rfl Tryz.sizeOf98) rfl ?_
     refine ygo ?_
     refine y (ev_load rfl Tryz.isAgg98 zin rfl) rfl ?_
     refine ygo ?_
     refine y (ev_ixV hvt rfl rfl Tryz.underlying98 Tryz.sizeOf9 (by omega) (by omega)) rfl ?_
     refine ygo ?_
     refine y (ev_loadV 0 hvt zge rfl Tryz.isAgg9 rfl (strsV_get (head_get (d := []) (by omega)))) rfl ?_
     refine ygo ?_
     first
       | refine y (ev_lenStr rfl Tryz.underlying9) rfl ?_
       | refine y (ev_lenS rfl Tryz.underlying9) rfl ?_
     refine ygo ?_
     refine y (ev_gtr rfl rfl) rfl ?_
     refine ypb ?_
     refine ymv ?_
     refine ysplit 38 rfl (fun h165 => ?_) (fun h165 => ?_)
     ·(try simp only [sH] at h165)
      refine ygz ?_
      refine ygz ?_
      refine ygz ?_
      refine ygz ?_
      refine ygz ?_
      refine ypa ?_
      refine ymv ?_
      refine ygz ?_
      refine ygz ?_
      refine ygz ?_
      refine ygz ?_
      refine ygz ?_
      refine ypa ?_
      refine ynil' (kthn (hK4 _ _ ?_))
      clear hK4
      refine ccond1 rfl ?_
      refine cseq ?_; intro K9 hK9
      refine creg ?_
      have hrt : readT bs = (0, [], false) := hbad (by unfold BadRec; first | exact .inl (by assumption) | exact .inr (by omega))
      refine yas ?_
      refine yas ?_
      refine ynil' (kthn (hK9 _ _ ?_))
      clear hK9
      refine cret (kthr ?_)
      first
        | (exfalso; omega; done)
        | (refine kretv2 Tryz.results76 rfl rfl (L1 := [] ++ R) zge ?_
           rw [hrt]; exact ⟨_, ⟨rfl, rfl⟩, rfl⟩)
     ·(try simp only [sH] at h165)
      refine ygo ?_
      refine y (ev_fieldAddr 1 rfl Tryz.underlying100 rfl Tryz.sizeOf53) rfl ?_
      refine ygo ?_
      refine y (ev_load rfl Tryz.isAgg53 zin rfl) rfl ?_
      refine ygo ?_
      refine y (ev_ixV hvn rfl rfl Tryz.underlying53 Tryz.sizeOf2 (by omega) (by omega)) rfl ?_
      refine ygo ?_
      refine y (ev_loadV 0 hvn zge rfl Tryz.isAgg2 rfl (intsV_get (head_get (d := 0) (by omega)))) rfl ?_
      refine ygo ?_
      refine y (ev_lss rfl rfl) rfl ?_
      refine ypb ?_
      refine ymv ?_
      refine ysplit 45 rfl (fun h178 => ?_) (fun h178 => ?_)
      ·(try simp only [sH] at h178)
       refine ygz ?_
       refine ygz ?_
       refine ygz ?_
       refine ygz ?_
       refine ygz ?_
       refine ypa ?_
       refine ynil' (kthn (hK4 _ _ ?_))
       clear hK4
       refine ccond1 rfl ?_
       refine cseq ?_; intro K10 hK10
       refine creg ?_
       have hrt : readT bs = (0, [], false) := hbad (by unfold BadRec; first | exact .inl (by assumption) | exact .inr (by omega))
       refine yas ?_
       refine yas ?_
       refine ynil' (kthn (hK10 _ _ ?_))
       clear hK10
       refine cret (kthr ?_)
       first
         | (exfalso; omega; done)
         | (refine kretv2 Tryz.results76 rfl rfl (L1 := [] ++ R) zge ?_
            rw [hrt]; exact ⟨_, ⟨rfl, rfl⟩, rfl⟩)
      ·(try simp only [sH] at h178)
       refine ygo ?_
       refine y (ev_fieldAddr 1 rfl Tryz.underlying100 rfl Tryz.sizeOf53) rfl ?_
       refine ygo ?_
       refine y (ev_load rfl Tryz.isAgg53 zin rfl) rfl ?_
       refine ygo ?_
       refine y (ev_ixV hvn rfl rfl Tryz.underlying53 Tryz.sizeOf2 (by omega) (by omega)) rfl ?_
       refine ygo ?_
       refine y (ev_loadV 0 hvn zge rfl Tryz.isAgg2 rfl (intsV_get (head_get (d := 0) (by omega)))) rfl ?_
       refine ygo ?_
       refine y (ev_gtr rfl rfl) rfl ?_
       refine ypb ?_
       refine ynil' (kthn (hK4 _ _ ?_))
       clear hK4
       refine ccond rfl (fun h188 => ?_) (fun h188 => ?_)
       ·(try simp only [sH] at h188)
        refine cseq ?_; intro K11 hK11
        refine creg ?_
        have hrt : readT bs = (0, [], false) := hbad (by unfold BadRec; first | exact .inl (by assumption) | exact .inr (by omega))
        refine yas ?_
        refine yas ?_
        refine ynil' (kthn (hK11 _ _ ?_))
        clear hK11
        refine cret (kthr ?_)
        first
          | (exfalso; omega; done)
          | (refine kretv2 Tryz.results76 rfl rfl (L1 := [] ++ R) zge ?_
             rw [hrt]; exact ⟨_, ⟨rfl, rfl⟩, rfl⟩)
       ·(try simp only [sH] at h188)
        refine cskip' (kthn (hK3 _ _ ?_))
        clear hK3
        refine cseq ?_; intro K12 hK12
        refine cdraw 9 [(0, true), (1, true), (2, true), (3, true), (4, true), (5, true), (6, true), (7, true), (8, true)] (_) Tryz.mixed (by kernel_rfl) .refl ?_
        have hrt := hgood (by assumption) (by omega)
        refine hr rfl (ev_fieldAddr 1 rfl Tryz.underlying100 rfl Tryz.sizeOf53) rfl ?_
        refine hr rfl (ev_load rfl Tryz.isAgg53 zin rfl) rfl ?_
        refine hr rfl (ev_ixV hvn rfl rfl Tryz.underlying53 Tryz.sizeOf2 (by omega) (by omega)) rfl ?_
        refine hr rfl (ev_loadV 0 hvn zge rfl Tryz.isAgg2 rfl (intsV_get (head_get (d := 0) (by omega)))) rfl ?_
        refine hr rfl (ev_fieldAddr 2 rfl Tryz.underlying100 rfl Tryz.sizeOf98) rfl ?_
        refine hr rfl (ev_load rfl Tryz.isAgg98 zin rfl) rfl ?_
        refine hr rfl (ev_ixV hvt rfl rfl Tryz.underlying98 Tryz.sizeOf9 (by omega) (by omega)) rfl ?_
        refine hr rfl (ev_loadV 0 hvt zge rfl Tryz.isAgg9 rfl (strsV_get (head_get (d := []) (by omega)))) rfl ?_
        refine hr rfl (ev_assign rfl) rfl ?_
        refine hnil ?_
        refine yas ?_
        refine hnoP' (kthn (hK12 _ _ ?_))
        clear hK12
        refine cret ?_
        first
          | (exfalso; omega; done)
          | (refine kretv2 Tryz.results76 rfl rfl (L1 := [] ++ R) zge ?_
             rw [hrt]; exact ⟨_, ⟨rfl, rfl⟩, rfl⟩)
end W
end Go.Proofs
