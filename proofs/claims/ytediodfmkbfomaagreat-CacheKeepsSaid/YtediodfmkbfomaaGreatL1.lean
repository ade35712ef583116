/- A part of the proof: contracts and plain lemmas, each without conditions beyond those that it names. -/
import Derived.Test.YtediodfmkbfomaaGreatT10
import Derived.Test.YtediodfmkbfomaaGreatGC
import Derived.Test.YtediodfmkbfomaaGreatGL
import Derived.Test.YtediodfmkbfomaaGreatGM
set_option linter.unusedVariables false
set_option linter.unusedSimpArgs false
set_option linter.constructorNameAsVariable false
namespace Go.Proofs
open Go Go.Sl
namespace W
set_option linter.unusedVariables false
theorem rec_one (r : RecM) (sn st : Sv) : ∀ u ∈ [i64 r.kind, svVal sn r.nums.length, svVal st r.texts.length], u.oneCell' = true := by
 intro u hu
 simp at hu
 rcases hu with rfl | rfl | rfl
 · rfl
 · cases sn <;> rfl
 · cases st <;> rfl
theorem lWithin [Env] {R : List Seg} {n lo hi : Int} : Con Tryz.prog 63 [i64 n, i64 lo, i64 hi] [] R (Is (.bool (within3 n lo hi)) []) := by
 refine con_enter Tryz.func63 Tryz.ntmps63 rfl rfl ?_
 refine cseq ?_; intro K1 hK1
 refine creg ?_
 refine yas ?_
 refine ynil' (kthn (hK1 _ _ ?_))
 clear hK1
 refine cseq ?_; intro K2 hK2
 refine creg ?_
 refine ymv ?_
 refine ymv ?_
 refine y (ev_geq rfl rfl) rfl ?_
 refine ymv ?_
 refine ysplit 10 rfl (fun h6 => ?_) (fun h6 => ?_)
 ·(try simp only [sH] at h6)
  refine ygo ?_
  refine ymv ?_
  refine ygo ?_
  refine ymv ?_
  refine ygo ?_
  refine y (ev_leq rfl rfl) rfl ?_
  refine ypa ?_
  refine yas ?_
  refine ynil' (kthn (hK2 _ _ ?_))
  clear hK2
  refine cret ?_
  first
    | (exfalso; omega; done)
    | (refine kretv Tryz.results63 rfl (L1 := [] ++ R) zge ?_
       exact ⟨_, ⟨by unfold within3; first | (rw [decide_eq_true (show lo ≤ n by omega)]; rfl) | (rw [decide_eq_false (show ¬ lo ≤ n by omega)]; rfl), rfl⟩, rfl⟩)
 ·(try simp only [sH] at h6)
  refine ygz ?_
  refine ygz ?_
  refine ygz ?_
  refine ypb ?_
  refine yas ?_
  refine ynil' (kthn (hK2 _ _ ?_))
  clear hK2
  refine cret ?_
  first
    | (exfalso; omega; done)
    | (refine kretv Tryz.results63 rfl (L1 := [] ++ R) zge ?_
       exact ⟨_, ⟨by unfold within3; first | (rw [decide_eq_true (show lo ≤ n by omega)]; rfl) | (rw [decide_eq_false (show ¬ lo ≤ n by omega)]; rfl), rfl⟩, rfl⟩)
theorem lFramed [Env] {R : List Seg} {r : RecM} {nv tv : Value} (hn : RdV R nv r.nums.length (intsV r.nums)) (ht : RdV R tv r.texts.length (strsV r.texts)) (hmay : r.may) (hlen : (recB r).length ≤ 200) :
   Con Tryz.prog 76 [.agg #[i64 r.kind, nv, tv]] [] R (KSv 5 (framed (recB r)).length 1 (bytesV (framed (recB r))) []) := by
 have henc := enc_may hmay
 refine con_enter Tryz.func76 Tryz.ntmps76 rfl rfl ?_
 refine cseq ?_; intro K1 hK1
 refine creg ?_
 refine ya (ac_box (vs := [i64 r.kind, nv, tv]) rfl rfl) rfl ?_
 rintro v L' ⟨b1, rfl, rfl⟩
 refine yas ?_
 refine ynil' (kthn (hK1 _ _ ?_))
 clear hK1
 refine cseq ?_; intro K2 hK2
 refine creg ?_
 refine y (ev_loadN (u := [i64 r.kind, nv, tv]) rfl Tryz.isAgg126 Tryz.sizeOf126 zin rfl rfl) rfl ?_
 refine ycall (cEncode (r := r) ?hn17 ?ht17 ?sx17) rfl Tryz.call77 ztk rfl ?_
 case hn17 => exact hn.mono zge
 case ht17 => exact ht.mono zge
 case sx17 => exact hmay.num
 rintro v L' ⟨s8, rfl, ok8, rfl⟩
 rw [henc] at ok8 ⊢; dsimp only at ok8 ⊢
 generalize recB r = rb at *
 refine ymv ?_
 refine yxt ?_
 refine yxt ?_
 refine yas ?_
 refine yas ?_
 refine ynil' (kthn (hK2 _ _ ?_))
 clear hK2
 refine cseq ?_; intro K3 hK3
 refine creg ?_
 refine ymv ?_
 first
   | refine y (ev_len rfl Tryz.underlying22) rfl ?_
   | refine y (ev_lenSv rfl Tryz.underlying22 (by assumption)) rfl ?_
   | refine y (ev_lenV rfl Tryz.underlying22 (RdV.lenVal (by assumption))) rfl ?_
   | refine y (ev_lenV rfl Tryz.underlying22 (RdB.lenVal (by assumption))) rfl ?_
 refine y (ev_conv rfl Tryz.underlying3 Tryz.underlying5) rfl ?_
 rw [wu8, show ((rb.length : Nat) : Int) % 256 = ((rb.length : Nat) : Int) by omega]
 refine ya (ac_bsliceR rfl Tryz.underlying22 Tryz.sizeOf5 Tryz.zeroValue5 rfl rfl rfl rfl ⟨⟨_, _, rfl, (by first | rfl | simp), (by first | decide | simp)⟩, trivial⟩ (by dsimp [fillL, splice, vcells, reps] <;> rfl)) rfl ?_
 rintro v L' ⟨b14, rfl, rfl⟩
 refine ymv ?_
 refine ya (ac_append (s := some (b14, 1, [])) (xs := [.int .u8 ((rb.length : Nat) : Int)]) (m := 1) (k := rb.length) (us := bytesV rb) (size := 1) rfl rfl (by repeat first | exact .z | apply Pk.s) Tryz.underlying22 Tryz.underlying22 (by intro q hq; cases hq) Tryz.typeInfo5 rfl rfl rfl ?ok28 ?src28 ?one28 ?big28) rfl ?_
 case ok28 => exact ⟨Nat.le_refl _, by decide, rfl, rfl⟩
 case src28 => exact src_sv zin ok8
 case one28 => exact bytesV_one _
 case big28 => show (_ + _) * 2 ≤ _; omega
 rintro v L' ⟨s16, rfl, ok16, rfl⟩
 have hbl : 1 + rb.length = (UInt8.ofNat rb.length :: rb).length := by simp; omega
 rw [show [Value.int .u8 ((rb.length : Nat) : Int)] ++ bytesV rb = bytesV (UInt8.ofNat rb.length :: rb) by simp [bytesV]; omega, hbl] at ok16 ⊢
 have hbl2 : (UInt8.ofNat rb.length :: rb).length ≤ 201 := by simp; omega
 have hfr : framed rb = be4 (sumM (UInt8.ofNat rb.length :: rb)) ++ (UInt8.ofNat rb.length :: rb) := rfl
 generalize UInt8.ofNat rb.length :: rb = rc at *
 refine yas ?_
 refine ynil' (kthn (hK3 _ _ ?_))
 clear hK3
 refine cseq ?_; intro K4 hK4
 refine creg ?_
 refine ymv ?_
 refine ycall (cSum (bs := rc) ?bs31 ?len31) rfl Tryz.call92 ztk rfl ?_
 case bs31 => exact rdV_sv zin ok16
 case len31 => omega
 rintro v L' ⟨rfl, rfl⟩
 have hsu := sumM_lt rc
 generalize sumM rc = su at *
 refine yas ?_
 refine ynil' (kthn (hK4 _ _ ?_))
 clear hK4
 refine cseq ?_; intro K5 hK5
 refine creg ?_
 refine ymv ?_
 refine y (ev_shr rfl rfl (by first | decide | omega)) rfl ?_
 rw [show ((su : Nat) : Int).fdiv (2 ^ (min (24 : Int).toNat IntKind.u32.bits)) = ((su / 16777216 : Nat) : Int) from fdiv2 (k := 16777216)]
 refine y (ev_conv rfl Tryz.underlying163 Tryz.underlying5) rfl ?_
 rw [wu8, show ((su / 16777216 : Nat) : Int) % 256 = ((su / 16777216 % 256 : Nat) : Int) by omega]
 refine ymv ?_
 refine y (ev_shr rfl rfl (by first | decide | omega)) rfl ?_
 rw [show ((su : Nat) : Int).fdiv (2 ^ (min (16 : Int).toNat IntKind.u32.bits)) = ((su / 65536 : Nat) : Int) from fdiv2 (k := 65536)]
 refine y (ev_conv rfl Tryz.underlying163 Tryz.underlying5) rfl ?_
 rw [wu8, show ((su / 65536 : Nat) : Int) % 256 = ((su / 65536 % 256 : Nat) : Int) by omega]
 refine ymv ?_
 refine y (ev_shr rfl rfl (by first | decide | omega)) rfl ?_
 rw [show ((su : Nat) : Int).fdiv (2 ^ (min (8 : Int).toNat IntKind.u32.bits)) = ((su / 256 : Nat) : Int) from fdiv2 (k := 256)]
 refine y (ev_conv rfl Tryz.underlying163 Tryz.underlying5) rfl ?_
 rw [wu8, show ((su / 256 : Nat) : Int) % 256 = ((su / 256 % 256 : Nat) : Int) by omega]
 refine ymv ?_
 refine y (ev_conv rfl Tryz.underlying163 Tryz.underlying5) rfl ?_
 rw [wu8, show ((su : Nat) : Int) % 256 = ((su % 256 : Nat) : Int) by omega]
 refine ya (ac_bsliceR rfl Tryz.underlying22 Tryz.sizeOf5 Tryz.zeroValue5 rfl rfl rfl rfl ⟨⟨_, _, rfl, (by first | rfl | simp), (by first | decide | simp)⟩, ⟨⟨_, _, rfl, (by first | rfl | simp), (by first | decide | simp)⟩, ⟨⟨_, _, rfl, (by first | rfl | simp), (by first | decide | simp)⟩, ⟨⟨_, _, rfl, (by first | rfl | simp), (by first | decide | simp)⟩, trivial⟩⟩⟩⟩ (by dsimp [fillL, splice, vcells, reps] <;> rfl)) rfl ?_
 rintro v L' ⟨b30, rfl, rfl⟩
 refine ymv ?_
 refine ya (ac_append (s := some (b30, 4, [])) (xs := be4V su) (m := 4) (k := rc.length) (us := bytesV rc) (size := 1) rfl rfl (by repeat first | exact .z | apply Pk.s) Tryz.underlying22 Tryz.underlying22 (by intro q hq; cases hq) Tryz.typeInfo5 rfl rfl rfl ?ok46 ?src46 ?one46 ?big46) rfl ?_
 case ok46 => exact ⟨Nat.le_refl _, by decide, rfl, rfl⟩
 case src46 => exact src_sv zin ok16
 case one46 => exact bytesV_one _
 case big46 => show (_ + _) * 2 ≤ _; omega
 rintro v L' ⟨s32, rfl, ok32, rfl⟩
 rw [be4V_eq, ← bytesV_append, show 4 + rc.length = (be4 su ++ rc).length by simp [be4]; omega, ← hfr] at ok32 ⊢
 refine yas ?_
 refine ynil' (kthn (hK5 _ _ ?_))
 clear hK5
 refine cret ?_
 first
   | (exfalso; omega; done)
   | (refine kretv Tryz.results76 rfl (L1 := [svSeg _ _ _] ++ R) zge ?_
      exact ⟨_, ⟨s32, rfl, ok32, rfl⟩, rfl⟩)
theorem lRead [Env] {R : List Seg} {v : Value} {bs : Bytes} (hb : RdY R v bs) (h5 : 5 ≤ bs.length) (hl : bs.length ≤ 1000) :
   Con Tryz.prog 83 [v] [] R (fun u L' => ∃ rc sn st, u = .tuple #[recV rc sn st, .bool (okL' bs)] ∧ RecOk rc sn st ∧ (okL' bs = true → (unfrM bs).1 = rc) ∧ L' = recSegs rc sn st) := by
 obtain ⟨z0, z1, z2, z3, z4, r, rfl⟩ := five h5
 have hv := hb.rd
 have hl0 := z0.toNat_lt
 have hl1 := z1.toNat_lt
 have hl2 := z2.toNat_lt
 have hl3 := z3.toNat_lt
 have hl4 := z4.toNat_lt
 have hlr : (z0 :: z1 :: z2 :: z3 :: z4 :: r).length = r.length + 5 := rfl
 refine con_enter Tryz.func83 Tryz.ntmps83 rfl rfl ?_
 refine cseq ?_; intro K1 hK1
 refine creg ?_
 refine ya (ac_alloc Tryz.zeroValue126 rfl) rfl ?_
 rintro v L' ⟨b2, rfl, rfl⟩
 refine yas ?_
 refine ynil' (kthn (hK1 _ _ ?_))
 clear hK1
 refine cseq ?_; intro K2 hK2
 refine creg ?_
 refine ymv ?_
 refine y (ev_ixV hv rfl rfl Tryz.underlying22 Tryz.sizeOf5 (by omega) (by omega)) rfl ?_
 refine y (ev_loadV 4 hv zge rfl Tryz.isAgg5 rfl rfl) rfl ?_
 refine y (ev_conv rfl Tryz.underlying5 Tryz.underlying3) rfl ?_
 rw [wr (by omega) (by omega)]
 refine yas ?_
 refine ynil' (kthn (hK2 _ _ ?_))
 clear hK2
 refine cseq ?_; intro K3 hK3
 refine cseq ?_; intro K4 hK4
 refine creg ?_
 refine ymv ?_
 refine y (ev_add rfl rfl) rfl ?_
 rw [wr (by omega) (by omega)]
 refine ymv ?_
 first
   | refine y (ev_len rfl Tryz.underlying22) rfl ?_
   | refine y (ev_lenSv rfl Tryz.underlying22 (by assumption)) rfl ?_
   | refine y (ev_lenV rfl Tryz.underlying22 (RdV.lenVal (by assumption))) rfl ?_
   | refine y (ev_lenV rfl Tryz.underlying22 (RdB.lenVal (by assumption))) rfl ?_
 refine y (ev_gtr rfl rfl) rfl ?_
 refine ynil' (kthn (hK4 _ _ ?_))
 clear hK4
 refine ccond rfl (fun h60 => ?_) (fun h60 => ?_)
 ·(try simp only [sH] at h60)
  refine cseq ?_; intro K5 hK5
  refine creg ?_
  have hok := okL_short (b0 := z0) (b1 := z1) (b2 := z2) (b3 := z3) (b4 := z4) (r := r) (by omega)
  refine y (ev_build (zs := _) rfl Tryz.underlying126 Tryz.zeroValue126 rfl (.cons Tryz.sizeOf3 (.cons Tryz.sizeOf56 (.cons Tryz.sizeOf98 .nil))) trivial (by dsimp [fillL, splice, vcells] <;> rfl)) rfl ?_
  refine ya0 (ac_storeAll rfl rfl (rec_one ⟨0, [], []⟩ none none) Tryz.sizeOf126 zrp (by rfl) (by rfl)) ?_
  rintro v L' ⟨rfl, rfl⟩
  refine yas ?_
  refine ynil' (kthn (hK5 _ _ ?_))
  clear hK5
  refine cret (kthr ?_)
  first
    | (exfalso; omega; done)
    | (refine kretct Tryz.results83 rfl rfl Tryz.isAgg126 Tryz.sizeOf126 zin (rfl) (L1 := recSegs ⟨0, [], []⟩ none none ++ R) zge ?_
       rw [hok]; exact ⟨_, ⟨⟨0, [], []⟩, none, none, rfl, ⟨⟨rfl, rfl⟩, ⟨rfl, rfl⟩⟩, fun h => (by cases h), rfl⟩, rfl⟩)
 ·(try simp only [sH] at h60)
  have hle : z4.toNat ≤ r.length := by omega
  have hd5 : RdY R (vSl v 5 (5 + z4.toNat) 1) (r.take z4.toNat) := by
    have := hb.sl (lo := 5) (hi := 5 + z4.toNat) (by omega) (by omega)
    rwa [show 5 + z4.toNat - 5 = z4.toNat by omega] at this
  have hd4 : RdY R (vSl v 4 (5 + z4.toNat) 1) ((z4 :: r).take (z4.toNat + 1)) := by
    have := hb.sl (lo := 4) (hi := 5 + z4.toNat) (by omega) (by omega)
    rwa [show 5 + z4.toNat - 4 = z4.toNat + 1 by omega] at this
  have hl6 : ((z4 :: r).take (z4.toNat + 1)).length ≤ 1000 := by simp; omega
  refine cskip' (kthn (hK3 _ _ ?_))
  clear hK3
  refine cseq ?_; intro K6 hK6
  refine cdraw 22 [(0, true), (1, true), (2, true), (3, true), (4, true), (5, true), (6, true), (7, true), (8, true), (9, true), (10, true), (11, true), (12, true), (13, true), (14, true), (15, true), (16, true), (17, true), (18, true), (19, true), (20, true), (21, true)] (_) Tryz.mixed (by kernel_rfl) .refl ?_
  refine hr rfl (ev_move rfl) rfl ?_
  refine hr rfl (ev_ixV hv rfl rfl Tryz.underlying22 Tryz.sizeOf5 (by omega) (by omega)) rfl ?_
  refine hr rfl (ev_loadV 0 hv zge rfl Tryz.isAgg5 rfl rfl) rfl ?_
  refine hr rfl (ev_conv rfl Tryz.underlying5 Tryz.underlying163) rfl ?_
  refine hr rfl (ev_shl rfl rfl (by first | decide | omega)) rfl ?_
  refine hr rfl (ev_move rfl) rfl ?_
  refine hr rfl (ev_ixV hv rfl rfl Tryz.underlying22 Tryz.sizeOf5 (by omega) (by omega)) rfl ?_
  refine hr rfl (ev_loadV 1 hv zge rfl Tryz.isAgg5 rfl rfl) rfl ?_
  refine hr rfl (ev_conv rfl Tryz.underlying5 Tryz.underlying163) rfl ?_
  refine hr rfl (ev_shl rfl rfl (by first | decide | omega)) rfl ?_
  refine hr rfl (ev_or rfl rfl) rfl ?_
  refine hr rfl (ev_move rfl) rfl ?_
  refine hr rfl (ev_ixV hv rfl rfl Tryz.underlying22 Tryz.sizeOf5 (by omega) (by omega)) rfl ?_
  refine hr rfl (ev_loadV 2 hv zge rfl Tryz.isAgg5 rfl rfl) rfl ?_
  refine hr rfl (ev_conv rfl Tryz.underlying5 Tryz.underlying163) rfl ?_
  refine hr rfl (ev_shl rfl rfl (by first | decide | omega)) rfl ?_
  refine hr rfl (ev_or rfl rfl) rfl ?_
  refine hr rfl (ev_move rfl) rfl ?_
  refine hr rfl (ev_ixV hv rfl rfl Tryz.underlying22 Tryz.sizeOf5 (by omega) (by omega)) rfl ?_
  refine hr rfl (ev_loadV 3 hv zge rfl Tryz.isAgg5 rfl rfl) rfl ?_
  refine hr rfl (ev_conv rfl Tryz.underlying5 Tryz.underlying163) rfl ?_
  refine hr rfl (ev_or rfl rfl) rfl ?_
  rw [be32or hl0 hl1 hl2 hl3, show z0.toNat * 16777216 + z1.toNat * 65536 + z2.toNat * 256 + z3.toNat = ofBe4 (z0 :: z1 :: z2 :: z3 :: z4 :: r) from rfl]
  refine hnil ?_
  refine yas ?_
  refine hnoP' (kthn (hK6 _ _ ?_))
  clear hK6
  refine cseq ?_; intro K7 hK7
  refine creg ?_
  refine ymv ?_
  refine ymv ?_
  refine y (ev_add rfl rfl) rfl ?_
  rw [wr (by omega) (by omega), show (5 : Int) + ((z4.toNat : Nat) : Int) = ((5 + z4.toNat : Nat) : Int) by omega]
  refine y (ev_slLHV hv hb.cap rfl rfl rfl Tryz.underlying22 Tryz.sizeOf5 (by omega) (by omega) (by omega)) rfl ?_
  refine ycall (cDecode (bs := r.take z4.toNat) ?hb91) rfl Tryz.call61 ztk rfl ?_
  case hb91 => exact hd5.mono zge
  rintro v L' ⟨sn45, st45, rfl, ok45, rfl⟩
  obtain ⟨hbad, hgood, hrc⟩ := @okL_dich z0 z1 z2 z3 z4 r (by omega)
  generalize decM (r.take z4.toNat) = de at *
  obtain ⟨rc, er⟩ := de
  dsimp only at hbad hgood hrc ok45 ⊢
  have okn := ok45.n
  have okt := ok45.t
  unfold recV
  have hvt : RdV [svSeg st45 9 (strsV rc.texts)] (svVal st45 rc.texts.length) rc.texts.length (strsV rc.texts) := rdV_sv .z okt
  have hvn : RdV [svSeg sn45 2 (intsV rc.nums)] (svVal sn45 rc.nums.length) rc.nums.length (intsV rc.nums) := rdV_sv .z okn
  refine ymv ?_
  refine yxt ?_
  refine yxt ?_
  refine ya (ac_alloc Tryz.zeroValue126 rfl) rfl ?_
  rintro v L' ⟨b6, rfl, rfl⟩
  refine ya0 (ac_storeAll rfl rfl (by first | exact bytesV_one _ | (simp [Value.oneCell']; done) | (simp only [List.forall_mem_cons, List.not_mem_nil, false_implies, implies_true, svVal_one, and_true, true_and, and_self]; first | done | simp [Value.oneCell'])) Tryz.sizeOf126 zrp (by first | rfl | assumption | (simp [*]; done) | (simp [*]; omega)) (by first | rfl | assumption | (simp [*]; done) | (simp [*]; omega))) ?_
  rintro v L' ⟨rfl, rfl⟩
  refine yas ?_
  refine ynil' (kthn (hK7 _ _ ?_))
  clear hK7
  refine cseq ?_; intro K8 hK8
  refine cdraw 37 [(0, true), (1, true), (2, true), (3, true), (4, true), (5, true), (6, false), (7, true), (8, true), (9, true), (10, true), (11, true), (12, true), (13, true), (14, true), (15, true), (16, true), (17, true), (18, true), (19, true), (20, true), (21, true), (22, true), (23, true), (24, true), (25, true), (26, true), (27, true), (28, true), (29, true), (30, true), (31, true), (32, true), (33, true), (34, true), (35, true), (36, false)] ([svSeg sn45 2 (intsV rc.nums), svSeg st45 9 (strsV rc.texts), sc b6 [i64 rc.kind, svVal sn45 rc.nums.length, svVal st45 rc.texts.length] 126] ++ R) Tryz.mixed (by kernel_rfl) zge ?_
  refine hr rfl (ev_loadN (u := [i64 rc.kind, svVal sn45 rc.nums.length, svVal st45 rc.texts.length]) rfl Tryz.isAgg126 Tryz.sizeOf126 zin rfl rfl) rfl ?_
  refine hr rfl (ev_move rfl) rfl ?_
  refine hr rfl (ev_move rfl) rfl ?_
  refine hr rfl (ev_add rfl rfl) rfl ?_
  rw [wr (by omega) (by omega), show (5 : Int) + ((z4.toNat : Nat) : Int) = ((5 + z4.toNat : Nat) : Int) by omega]
  refine hr rfl (ev_slLHV hv hb.cap rfl rfl rfl Tryz.underlying22 Tryz.sizeOf5 (by omega) (by omega) (by omega)) rfl ?_
  refine hr rfl (ev_move rfl) rfl ?_
  refine hcall rfl (cCheck (bs := (z4 :: r).take (z4.toNat + 1)) ?bs104 ?len104) rfl Tryz.call97 ztk rfl ?_
  case bs104 => exact hd4.rd.mono zge
  case len104 => omega
  rintro v L' ⟨rfl, rfl⟩; refine ⟨zge, ?_⟩
  refine hr rfl (ev_move rfl) rfl ?_
  refine hsplit 55 rfl (fun h106 => ?_) (fun h106 => ?_)
  ·(try simp only [sH] at h106)
   refine hr1 rfl rfl rfl (ev_move rfl) rfl ?_
   refine hr1 rfl rfl rfl (ev_eql rfl rfl) rfl ?_
   refine hr rfl (ev_pick1 rfl rfl) rfl ?_
   refine hr rfl (ev_move rfl) rfl ?_
   refine hsplit 59 rfl (fun h111 => ?_) (fun h111 => ?_)
   ·(try simp only [sH] at h111)
    refine hr1 rfl rfl rfl (ev_fieldAddr 0 rfl Tryz.underlying126 rfl Tryz.sizeOf3) rfl ?_
    refine hr1 rfl rfl rfl (ev_load rfl Tryz.isAgg3 zin rfl) rfl ?_
    refine hr1 rfl rfl rfl (ev_eql rfl rfl) rfl ?_
    refine hr rfl (ev_pick1 rfl rfl) rfl ?_
    refine hr rfl (ev_move rfl) rfl ?_
    refine hsplit 64 rfl (fun h117 => ?_) (fun h117 => ?_)
    ·(try simp only [sH] at h117)
     refine hr1 rfl rfl rfl (ev_fieldAddr 1 rfl Tryz.underlying126 rfl Tryz.sizeOf56) rfl ?_
     refine hr1 rfl rfl rfl (ev_load rfl Tryz.isAgg56 zin rfl) rfl ?_
     first
       | refine hr1 rfl rfl rfl (ev_len rfl Tryz.underlying56) rfl ?_
       | refine hr1 rfl rfl rfl (ev_lenSv rfl Tryz.underlying56 (by assumption)) rfl ?_
       | refine hr1 rfl rfl rfl (ev_lenV rfl Tryz.underlying56 (RdV.lenVal (by assumption))) rfl ?_
       | refine hr1 rfl rfl rfl (ev_lenV rfl Tryz.underlying56 (RdB.lenVal (by assumption))) rfl ?_
     refine hr1 rfl rfl rfl (ev_eql rfl rfl) rfl ?_
     refine hr rfl (ev_pick1 rfl rfl) rfl ?_
     refine hr rfl (ev_move rfl) rfl ?_
     refine hsplit 70 rfl (fun h124 => ?_) (fun h124 => ?_)
     ·(try simp only [sH] at h124)
      refine hr1 rfl rfl rfl (ev_fieldAddr 2 rfl Tryz.underlying126 rfl Tryz.sizeOf98) rfl ?_
      refine hr1 rfl rfl rfl (ev_load rfl Tryz.isAgg98 zin rfl) rfl ?_
      first
        | refine hr1 rfl rfl rfl (ev_len rfl Tryz.underlying98) rfl ?_
        | refine hr1 rfl rfl rfl (ev_lenSv rfl Tryz.underlying98 (by assumption)) rfl ?_
        | refine hr1 rfl rfl rfl (ev_lenV rfl Tryz.underlying98 (RdV.lenVal (by assumption))) rfl ?_
        | refine hr1 rfl rfl rfl (ev_lenV rfl Tryz.underlying98 (RdB.lenVal (by assumption))) rfl ?_
      refine hr1 rfl rfl rfl (ev_eql rfl rfl) rfl ?_
      refine hr rfl (ev_pick1 rfl rfl) rfl ?_
      refine hr rfl (ev_move rfl) rfl ?_
      refine hsplit 76 rfl (fun h131 => ?_) (fun h131 => ?_)
      ·(try simp only [sH] at h131)
       refine hr1 rfl rfl rfl (ev_fieldAddr 2 rfl Tryz.underlying126 rfl Tryz.sizeOf98) rfl ?_
       refine hr1 rfl rfl rfl (ev_load rfl Tryz.isAgg98 zin rfl) rfl ?_
       refine hr1 rfl rfl rfl (ev_ixV hvt rfl rfl Tryz.underlying98 Tryz.sizeOf9 (by omega) (by omega)) rfl ?_
       refine hr1 rfl rfl rfl (ev_loadV 0 hvt zge rfl Tryz.isAgg9 rfl (strsV_get (head_get (d := []) (by omega)))) rfl ?_
       first
         | refine hr1 rfl rfl rfl (ev_lenStr rfl Tryz.underlying9) rfl ?_
         | refine hr1 rfl rfl rfl (ev_lenS rfl Tryz.underlying9) rfl ?_
       refine hr1 rfl rfl rfl (ev_leq rfl rfl) rfl ?_
       refine hr rfl (ev_pick1 rfl rfl) rfl ?_
       refine haN rfl (ac_storeAll rfl rfl (rec_one rc sn45 st45) Tryz.sizeOf126 zrp (by rfl) (by rfl)) ?_
       rintro v L' ⟨rfl, rfl⟩; refine ⟨zge, ?_⟩
       refine hnil ?_
       refine yas ?_
       refine hnoP' (kthn (hK8 _ _ ?_))
       clear hK8
       refine cret ?_
       first
         | (exfalso; omega; done)
         | (refine kretct Tryz.results83 rfl rfl Tryz.isAgg126 Tryz.sizeOf126 zin (rfl) (L1 := recSegs rc sn45 st45 ++ R) zge ?_
            exact ⟨_, ⟨rc, sn45, st45, by first | rw [hbad (by unfold UnL; omega)]; rfl | (rw [hgood (by unfold UnL; omega), ← headD_get0]; rfl) | (rw [hgood (by unfold UnL; omega), ← headD_get0, decide_eq_true (by omega)]; rfl) | (rw [hgood (by unfold UnL; omega), ← headD_get0, decide_eq_false (by omega)]; rfl), ok45, hrc, rfl⟩, rfl⟩)
      ·(try simp only [sH] at h131)
       refine hr0 rfl rfl rfl rfl rfl ?_
       refine hr0 rfl rfl rfl rfl rfl ?_
       refine hr0 rfl rfl rfl rfl rfl ?_
       refine hr0 rfl rfl rfl rfl rfl ?_
       refine hr0 rfl rfl rfl rfl rfl ?_
       refine hr0 rfl rfl rfl rfl rfl ?_
       refine hr rfl (ev_pick0 rfl rfl) rfl ?_
       refine haN rfl (ac_storeAll rfl rfl (rec_one rc sn45 st45) Tryz.sizeOf126 zrp (by rfl) (by rfl)) ?_
       rintro v L' ⟨rfl, rfl⟩; refine ⟨zge, ?_⟩
       refine hnil ?_
       refine yas ?_
       refine hnoP' (kthn (hK8 _ _ ?_))
       clear hK8
       refine cret ?_
       first
         | (exfalso; omega; done)
         | (refine kretct Tryz.results83 rfl rfl Tryz.isAgg126 Tryz.sizeOf126 zin (rfl) (L1 := recSegs rc sn45 st45 ++ R) zge ?_
            exact ⟨_, ⟨rc, sn45, st45, by first | rw [hbad (by unfold UnL; omega)]; rfl | (rw [hgood (by unfold UnL; omega), ← headD_get0]; rfl) | (rw [hgood (by unfold UnL; omega), ← headD_get0, decide_eq_true (by omega)]; rfl) | (rw [hgood (by unfold UnL; omega), ← headD_get0, decide_eq_false (by omega)]; rfl), ok45, hrc, rfl⟩, rfl⟩)
     ·(try simp only [sH] at h124)
      refine hr0 rfl rfl rfl rfl rfl ?_
      refine hr0 rfl rfl rfl rfl rfl ?_
      refine hr0 rfl rfl rfl rfl rfl ?_
      refine hr0 rfl rfl rfl rfl rfl ?_
      refine hr rfl (ev_pick0 rfl rfl) rfl ?_
      refine hr rfl (ev_move rfl) rfl ?_
      refine hr0 rfl rfl rfl rfl rfl ?_
      refine hr0 rfl rfl rfl rfl rfl ?_
      refine hr0 rfl rfl rfl rfl rfl ?_
      refine hr0 rfl rfl rfl rfl rfl ?_
      refine hr0 rfl rfl rfl rfl rfl ?_
      refine hr0 rfl rfl rfl rfl rfl ?_
      refine hr rfl (ev_pick0 rfl rfl) rfl ?_
      refine haN rfl (ac_storeAll rfl rfl (rec_one rc sn45 st45) Tryz.sizeOf126 zrp (by rfl) (by rfl)) ?_
      rintro v L' ⟨rfl, rfl⟩; refine ⟨zge, ?_⟩
      refine hnil ?_
      refine yas ?_
      refine hnoP' (kthn (hK8 _ _ ?_))
      clear hK8
      refine cret ?_
      first
        | (exfalso; omega; done)
        | (refine kretct Tryz.results83 rfl rfl Tryz.isAgg126 Tryz.sizeOf126 zin (rfl) (L1 := recSegs rc sn45 st45 ++ R) zge ?_
           exact ⟨_, ⟨rc, sn45, st45, by first | rw [hbad (by unfold UnL; omega)]; rfl | (rw [hgood (by unfold UnL; omega), ← headD_get0]; rfl) | (rw [hgood (by unfold UnL; omega), ← headD_get0, decide_eq_true (by omega)]; rfl) | (rw [hgood (by unfold UnL; omega), ← headD_get0, decide_eq_false (by omega)]; rfl), ok45, hrc, rfl⟩, rfl⟩)
    ·(try simp only [sH] at h117)
     refine hr0 rfl rfl rfl rfl rfl ?_
     refine hr0 rfl rfl rfl rfl rfl ?_
     refine hr0 rfl rfl rfl rfl rfl ?_
     refine hr0 rfl rfl rfl rfl rfl ?_
     refine hr rfl (ev_pick0 rfl rfl) rfl ?_
     refine hr rfl (ev_move rfl) rfl ?_
     refine hr0 rfl rfl rfl rfl rfl ?_
     refine hr0 rfl rfl rfl rfl rfl ?_
     refine hr0 rfl rfl rfl rfl rfl ?_
     refine hr0 rfl rfl rfl rfl rfl ?_
     refine hr rfl (ev_pick0 rfl rfl) rfl ?_
     refine hr rfl (ev_move rfl) rfl ?_
     refine hr0 rfl rfl rfl rfl rfl ?_
     refine hr0 rfl rfl rfl rfl rfl ?_
     refine hr0 rfl rfl rfl rfl rfl ?_
     refine hr0 rfl rfl rfl rfl rfl ?_
     refine hr0 rfl rfl rfl rfl rfl ?_
     refine hr0 rfl rfl rfl rfl rfl ?_
     refine hr rfl (ev_pick0 rfl rfl) rfl ?_
     refine haN rfl (ac_storeAll rfl rfl (rec_one rc sn45 st45) Tryz.sizeOf126 zrp (by rfl) (by rfl)) ?_
     rintro v L' ⟨rfl, rfl⟩; refine ⟨zge, ?_⟩
     refine hnil ?_
     refine yas ?_
     refine hnoP' (kthn (hK8 _ _ ?_))
     clear hK8
     refine cret ?_
     first
       | (exfalso; omega; done)
       | (refine kretct Tryz.results83 rfl rfl Tryz.isAgg126 Tryz.sizeOf126 zin (rfl) (L1 := recSegs rc sn45 st45 ++ R) zge ?_
          exact ⟨_, ⟨rc, sn45, st45, by first | rw [hbad (by unfold UnL; omega)]; rfl | (rw [hgood (by unfold UnL; omega), ← headD_get0]; rfl) | (rw [hgood (by unfold UnL; omega), ← headD_get0, decide_eq_true (by omega)]; rfl) | (rw [hgood (by unfold UnL; omega), ← headD_get0, decide_eq_false (by omega)]; rfl), ok45, hrc, rfl⟩, rfl⟩)
   ·(try simp only [sH] at h111)
    refine hr0 rfl rfl rfl rfl rfl ?_
    refine hr0 rfl rfl rfl rfl rfl ?_
    refine hr0 rfl rfl rfl rfl rfl ?_
    refine hr rfl (ev_pick0 rfl rfl) rfl ?_
    refine hr rfl (ev_move rfl) rfl ?_
    refine hr0 rfl rfl rfl rfl rfl ?_
    refine hr0 rfl rfl rfl rfl rfl ?_
    refine hr0 rfl rfl rfl rfl rfl ?_
    refine hr0 rfl rfl rfl rfl rfl ?_
    refine hr rfl (ev_pick0 rfl rfl) rfl ?_
    refine hr rfl (ev_move rfl) rfl ?_
    refine hr0 rfl rfl rfl rfl rfl ?_
    refine hr0 rfl rfl rfl rfl rfl ?_
    refine hr0 rfl rfl rfl rfl rfl ?_
    refine hr0 rfl rfl rfl rfl rfl ?_
    refine hr rfl (ev_pick0 rfl rfl) rfl ?_
    refine hr rfl (ev_move rfl) rfl ?_
    refine hr0 rfl rfl rfl rfl rfl ?_
    refine hr0 rfl rfl rfl rfl rfl ?_
    refine hr0 rfl rfl rfl rfl rfl ?_
    refine hr0 rfl rfl rfl rfl rfl ?_
    refine hr0 rfl rfl rfl rfl rfl ?_
    refine hr0 rfl rfl rfl rfl rfl ?_
    refine hr rfl (ev_pick0 rfl rfl) rfl ?_
    refine haN rfl (ac_storeAll rfl rfl (rec_one rc sn45 st45) Tryz.sizeOf126 zrp (by rfl) (by rfl)) ?_
    rintro v L' ⟨rfl, rfl⟩; refine ⟨zge, ?_⟩
    refine hnil ?_
    refine yas ?_
    refine hnoP' (kthn (hK8 _ _ ?_))
    clear hK8
    refine cret ?_
    first
      | (exfalso; omega; done)
      | (refine kretct Tryz.results83 rfl rfl Tryz.isAgg126 Tryz.sizeOf126 zin (rfl) (L1 := recSegs rc sn45 st45 ++ R) zge ?_
         exact ⟨_, ⟨rc, sn45, st45, by first | rw [hbad (by unfold UnL; omega)]; rfl | (rw [hgood (by unfold UnL; omega), ← headD_get0]; rfl) | (rw [hgood (by unfold UnL; omega), ← headD_get0, decide_eq_true (by omega)]; rfl) | (rw [hgood (by unfold UnL; omega), ← headD_get0, decide_eq_false (by omega)]; rfl), ok45, hrc, rfl⟩, rfl⟩)
  ·(try simp only [sH] at h106)
   refine hr0 rfl rfl rfl rfl rfl ?_
   refine hr0 rfl rfl rfl rfl rfl ?_
   refine hr rfl (ev_pick0 rfl rfl) rfl ?_
   refine hr rfl (ev_move rfl) rfl ?_
   refine hr0 rfl rfl rfl rfl rfl ?_
   refine hr0 rfl rfl rfl rfl rfl ?_
   refine hr0 rfl rfl rfl rfl rfl ?_
   refine hr rfl (ev_pick0 rfl rfl) rfl ?_
   refine hr rfl (ev_move rfl) rfl ?_
   refine hr0 rfl rfl rfl rfl rfl ?_
   refine hr0 rfl rfl rfl rfl rfl ?_
   refine hr0 rfl rfl rfl rfl rfl ?_
   refine hr0 rfl rfl rfl rfl rfl ?_
   refine hr rfl (ev_pick0 rfl rfl) rfl ?_
   refine hr rfl (ev_move rfl) rfl ?_
   refine hr0 rfl rfl rfl rfl rfl ?_
   refine hr0 rfl rfl rfl rfl rfl ?_
   refine hr0 rfl rfl rfl rfl rfl ?_
   refine hr0 rfl rfl rfl rfl rfl ?_
   refine hr rfl (ev_pick0 rfl rfl) rfl ?_
   refine hr rfl (ev_move rfl) rfl ?_
   refine hr0 rfl rfl rfl rfl rfl ?_
   refine hr0 rfl rfl rfl rfl rfl ?_
   refine hr0 rfl rfl rfl rfl rfl ?_
   refine hr0 rfl rfl rfl rfl rfl ?_
   refine hr0 rfl rfl rfl rfl rfl ?_
   refine hr0 rfl rfl rfl rfl rfl ?_
   refine hr rfl (ev_pick0 rfl rfl) rfl ?_
   refine haN rfl (ac_storeAll rfl rfl (rec_one rc sn45 st45) Tryz.sizeOf126 zrp (by rfl) (by rfl)) ?_
   rintro v L' ⟨rfl, rfl⟩; refine ⟨zge, ?_⟩
   refine hnil ?_
   refine yas ?_
   refine hnoP' (kthn (hK8 _ _ ?_))
   clear hK8
   refine cret ?_
   first
     | (exfalso; omega; done)
     | (refine kretct Tryz.results83 rfl rfl Tryz.isAgg126 Tryz.sizeOf126 zin (rfl) (L1 := recSegs rc sn45 st45 ++ R) zge ?_
        exact ⟨_, ⟨rc, sn45, st45, by first | rw [hbad (by unfold UnL; omega)]; rfl | (rw [hgood (by unfold UnL; omega), ← headD_get0]; rfl) | (rw [hgood (by unfold UnL; omega), ← headD_get0, decide_eq_true (by omega)]; rfl) | (rw [hgood (by unfold UnL; omega), ← headD_get0, decide_eq_false (by omega)]; rfl), ok45, hrc, rfl⟩, rfl⟩)
end W
end Go.Proofs
