/- A part of the proof: contracts and plain lemmas, each without conditions beyond those that it names. -/
import Derived.Test.YtediodfmkbfomaaGreatC2
set_option linter.unusedVariables false
set_option linter.unusedSimpArgs false
set_option linter.constructorNameAsVariable false
namespace Go.Proofs
open Go Go.Sl
namespace W
set_option linter.unusedVariables false
theorem kBytes [Env] {R : List Seg} {r : CrecM} {bl : Nat} (hrk : r.ok bl) (hb : bl ≤ 32) : Con Tryz.prog 58 [.agg (recA r).toArray] [] R (Is (str (recB r.rc)) []) := by
 have hmay := hrk.may hb
 have henc := enc_may hmay
 obtain ⟨w, k⟩ := r
 refine con_enter Tryz.func58 Tryz.ntmps58 rfl rfl ?_
 refine cseq ?_; intro K1 hK1
 refine creg ?_
 refine ya (ac_box (vs := recA ⟨w, k⟩) rfl rfl) rfl ?_
 rintro v L' ⟨b1, rfl, rfl⟩
 refine yas ?_
 refine ynil' (kthn (hK1 _ _ ?_))
 clear hK1
 refine cseq ?_; intro K2 hK2
 refine creg ?_
 refine ya (ac_alloc Tryz.zeroValue126 rfl) rfl ?_
 rintro v L' ⟨b3, rfl, rfl⟩
 refine ynil' (kthn (hK2 _ _ ?_))
 clear hK2
 refine cseq ?_; intro K3 hK3
 have hJr17 : ∀ x : Sv × Sv, (svOk x.1 w.nums.length 1 (intsV w.nums) ∧ svOk x.2 w.texts.length 1 (strsV w.texts)) → Sk 88 K3 ([(1, ptr b1), (3, ptr b3)]) ([sc b1 (recA ⟨w, k⟩) 101, sc b3 [i64 w.kind, svVal x.1 w.nums.length, svVal x.2 w.texts.length] 126, svSeg x.1 2 (intsV w.nums), svSeg x.2 9 (strsV w.texts)] ++ R) := by
  rintro ⟨sn, st⟩ hIr17
  refine hK3 _ _ ?_
  obtain ⟨okn, okt⟩ := hIr17; dsimp only at okn okt ⊢
  have hwl : w.nums.length ≤ 6 := by cases w <;> simp [WhatM.nums]
  refine cseq ?_; intro K4 hK4
  refine cdraw 17 [(0, true), (1, true), (2, true), (3, true), (4, true), (5, true), (6, true), (7, true), (8, true), (9, true), (12, true), (13, true), (14, true), (10, false), (11, false), (15, false), (16, true)] ([sc b3 [i64 w.kind, svVal sn w.nums.length, svVal st w.texts.length] 126, sc b1 (recA ⟨w, k⟩) 101, svSeg st 9 (strsV w.texts)] ++ R) Tryz.mixed (by kernel_rfl) zge ?_
  refine hr rfl (ev_fieldAddr 1 rfl Tryz.underlying126 rfl Tryz.sizeOf56) rfl ?_
  refine hr rfl (ev_load rfl Tryz.isAgg56 zin rfl) rfl ?_
  refine hr rfl (ev_fieldAddr 1 rfl Tryz.underlying101 rfl Tryz.sizeOf82) rfl ?_
  refine hr rfl (ev_fieldAddr 0 rfl Tryz.underlying82 rfl Tryz.sizeOf31) rfl ?_
  refine hr rfl (ev_fieldAddr 0 rfl Tryz.underlying31 rfl Tryz.sizeOf2) rfl ?_
  refine hr rfl (ev_load rfl Tryz.isAgg2 zin rfl) rfl ?_
  refine hr rfl (ev_fieldAddr 1 rfl Tryz.underlying101 rfl Tryz.sizeOf82) rfl ?_
  refine hr rfl (ev_fieldAddr 0 rfl Tryz.underlying82 rfl Tryz.sizeOf31) rfl ?_
  refine hr rfl (ev_fieldAddr 1 rfl Tryz.underlying31 rfl Tryz.sizeOf2) rfl ?_
  refine hr rfl (ev_load rfl Tryz.isAgg2 zin rfl) rfl ?_
  refine hr rfl (ev_fieldAddr 1 rfl Tryz.underlying101 rfl Tryz.sizeOf82) rfl ?_
  refine hr rfl (ev_fieldAddr 2 rfl Tryz.underlying82 rfl Tryz.sizeOf48) rfl ?_
  refine hr rfl (ev_slA rfl Tryz.underlying48 Tryz.sizeOf2) rfl ?_
  refine ha rfl (ac_bsliceR rfl Tryz.underlying56 Tryz.sizeOf2 Tryz.zeroValue2 rfl rfl rfl rfl ⟨⟨_, _, rfl, (by first | rfl | simp), (by first | decide | simp)⟩, ⟨⟨_, _, rfl, (by first | rfl | simp), (by first | decide | simp)⟩, trivial⟩⟩ (by dsimp [fillL, splice, vcells, reps] <;> rfl)) rfl ?_
  rintro v L' ⟨b74, rfl, rfl⟩; refine ⟨zge, ?_⟩
  refine ha rfl (ac_append (s := sn) (xs := intsV w.nums) (m := w.nums.length) (k := 2) (us := [i64 k.e, i64 k.s]) (size := 1) rfl rfl (by repeat first | exact .z | apply Pk.s) Tryz.underlying56 Tryz.underlying56 (by intro q hq; cases hq) Tryz.typeInfo2 rfl rfl rfl ?ok18 ?src18 ?one18 ?big18) rfl ?_
  case ok18 => exact okn
  case src18 => exact src_at zin rfl rfl
  case one18 => simp [Value.oneCell']
  case big18 => show (_ + _) * 9 ≤ _; omega
  rintro v L' ⟨s75, rfl, ok75, rfl⟩; refine ⟨zge, ?_⟩
  refine ha rfl (ac_append (s := s75) (xs := intsV w.nums ++ [i64 k.e, i64 k.s]) (m := w.nums.length + 2) (k := 4) (us := [i64 k.t.a, i64 k.t.b, i64 k.t.c, i64 k.t.d]) (size := 1) rfl rfl (by repeat first | exact .z | apply Pk.s) Tryz.underlying56 Tryz.underlying56 (by intro q hq; cases hq) Tryz.typeInfo2 rfl rfl rfl ?ok19 ?src19 ?one19 ?big19) rfl ?_
  case ok19 => exact ok75
  case src19 => exact src_at zin rfl rfl
  case one19 => simp [Value.oneCell']
  case big19 => show (_ + _) * 9 ≤ _; omega
  rintro v L' ⟨s79, rfl, ok79, rfl⟩; refine ⟨zge, ?_⟩
  rw [show intsV w.nums ++ [i64 k.e, i64 k.s] ++ [i64 k.t.a, i64 k.t.b, i64 k.t.c, i64 k.t.d] = intsV (CrecM.rc ⟨w, k⟩).nums by simp [CrecM.rc, KeptM.nums, intsV], show w.nums.length + 2 + 4 = (CrecM.rc ⟨w, k⟩).nums.length by simp [CrecM.rc, KeptM.nums]] at ok79 ⊢
  refine hr rfl (ev_fieldAddr 1 rfl Tryz.underlying126 rfl Tryz.sizeOf56) rfl ?_
  refine hnil ?_
  refine ya0 (ac_store rfl rfl (by first | rfl | exact svVal_one _ _ | assumption) Tryz.sizeOf56 zrp rfl rfl) ?_
  rintro v L' ⟨rfl, rfl⟩
  refine hnoP' (kthn (hK4 _ _ ?_))
  clear hK4
  refine cseq ?_; intro K5 hK5
  refine creg ?_
  refine y (ev_loadAll rfl Tryz.isAgg126 Tryz.sizeOf126 zin (by first | rfl | assumption | (simp [*]; done) | (simp [*]; omega))) rfl ?_
  refine ycall (cEncode (r := CrecM.rc ⟨w, k⟩) ?hn23 ?ht23 ?sx23) rfl Tryz.call77 ztk rfl ?_
  case hn23 => exact rdV_sv zin ok79
  case ht23 => exact rdV_sv zin okt
  case sx23 => exact hmay.num
  rintro v L' ⟨s83, rfl, ok83, rfl⟩
  rw [henc] at ok83 ⊢; dsimp only at ok83 ⊢
  generalize recB (CrecM.rc ⟨w, k⟩) = rb at *
  refine ymv ?_
  refine yxt ?_
  refine yxt ?_
  refine yas ?_
  refine yas ?_
  refine ynil' (kthn (hK5 _ _ ?_))
  clear hK5
  refine cseq ?_; intro K6 hK6
  refine creg ?_
  refine ymv ?_
  refine y (ev_toStrB (rdY_sv (L := [svSeg s83 5 (bytesV rb)]) .z ok83).rd.bytes zge rfl Tryz.underlying22 Tryz.underlying9 Tryz.underlying5) rfl ?_
  refine yas ?_
  refine ynil' (kthn (hK6 _ _ ?_))
  clear hK6
  refine cret ?_
  first
    | (exfalso; omega; done)
    | (refine kretv Tryz.results58 rfl (L1 := R) zge ?_
       exact ⟨_, ⟨by rfl, rfl⟩, by rfl⟩)
 clear hK3
 refine cseq ?_; intro K7 hK7
 refine creg ?_
 refine y (ev_fieldAddr 0 rfl Tryz.underlying101 rfl Tryz.sizeOf20) rfl ?_
 refine y (ev_load rfl Tryz.isAgg20 zin rfl) rfl ?_
 refine ynil' (kthn (hK7 _ _ ?_))
 clear hK7
 refine cblock ?_
 refine cseq ?_; intro K8 hK8
 refine creg ?_
 rcases w with ⟨blk, ve, vs, data, _ | _, cl, n⟩ | ⟨cb, ce, cs⟩ | db | _
 ·skip
  first
    | refine y (ev_assertY rfl Tryz.underlying89 (by intro q hq; cases hq)) rfl ?_
    | refine y (ev_assertN rfl Tryz.underlying89 (by intro q hq; cases hq) (by decide) Tryz.zeroValue89) rfl ?_
  refine yxt ?_
  refine yxt ?_
  refine ynil' (kthn (hK8 _ _ ?_))
  clear hK8
  refine ccond1 rfl ?_
  refine cseq ?_; intro K9 hK9
  refine creg ?_
  refine ya (ac_alloc Tryz.zeroValue89 rfl) rfl ?_
  rintro v L' ⟨b4, rfl, rfl⟩
  refine ya0 (ac_storeAll rfl rfl (by first | exact bytesV_one _ | (simp [Value.oneCell']; done) | (simp only [List.forall_mem_cons, List.not_mem_nil, false_implies, implies_true, svVal_one, and_true, true_and, and_self]; first | done | simp [Value.oneCell'])) Tryz.sizeOf89 zrp (by first | rfl | assumption | (simp [*]; done) | (simp [*]; omega)) (by first | rfl | assumption | (simp [*]; done) | (simp [*]; omega))) ?_
  rintro v L' ⟨rfl, rfl⟩
  refine ynil' (kthn (hK9 _ _ ?_))
  clear hK9
  refine cseq ?_; intro K10 hK10
  refine creg ?_
  refine yas ?_
  refine ynil' (kthn (hK10 _ _ ?_))
  clear hK10
  refine cseq ?_; intro K11 hK11
  refine cseq ?_; intro K12 hK12
  refine creg ?_
  refine y (ev_fieldAddr 0 rfl Tryz.underlying89 rfl Tryz.sizeOf34) rfl ?_
  refine y (ev_fieldAddr 4 rfl Tryz.underlying34 rfl Tryz.sizeOf4) rfl ?_
  refine y (ev_load rfl Tryz.isAgg4 zin rfl) rfl ?_
  refine ynil' (kthn (hK12 _ _ ?_))
  clear hK12
  refine ccond0 rfl ?_
  refine cskip' (kthn (hK11 _ _ ?_))
  clear hK11
  refine creg ?_
  refine y (ev_fieldAddr 0 rfl Tryz.underlying89 rfl Tryz.sizeOf34) rfl ?_
  refine y (ev_fieldAddr 0 rfl Tryz.underlying34 rfl Tryz.sizeOf3) rfl ?_
  refine y (ev_load rfl Tryz.isAgg3 zin rfl) rfl ?_
  refine y (ev_fieldAddr 0 rfl Tryz.underlying89 rfl Tryz.sizeOf34) rfl ?_
  refine y (ev_fieldAddr 1 rfl Tryz.underlying34 rfl Tryz.sizeOf31) rfl ?_
  refine y (ev_fieldAddr 0 rfl Tryz.underlying31 rfl Tryz.sizeOf2) rfl ?_
  refine y (ev_load rfl Tryz.isAgg2 zin rfl) rfl ?_
  refine y (ev_fieldAddr 0 rfl Tryz.underlying89 rfl Tryz.sizeOf34) rfl ?_
  refine y (ev_fieldAddr 1 rfl Tryz.underlying34 rfl Tryz.sizeOf31) rfl ?_
  refine y (ev_fieldAddr 1 rfl Tryz.underlying31 rfl Tryz.sizeOf2) rfl ?_
  refine y (ev_load rfl Tryz.isAgg2 zin rfl) rfl ?_
  refine ymv ?_
  refine y (ev_fieldAddr 0 rfl Tryz.underlying89 rfl Tryz.sizeOf34) rfl ?_
  refine y (ev_fieldAddr 5 rfl Tryz.underlying34 rfl Tryz.sizeOf3) rfl ?_
  refine y (ev_load rfl Tryz.isAgg3 zin rfl) rfl ?_
  refine y (ev_fieldAddr 0 rfl Tryz.underlying89 rfl Tryz.sizeOf34) rfl ?_
  refine y (ev_fieldAddr 6 rfl Tryz.underlying34 rfl Tryz.sizeOf2) rfl ?_
  refine y (ev_load rfl Tryz.isAgg2 zin rfl) rfl ?_
  refine ya (ac_bsliceR rfl Tryz.underlying56 Tryz.sizeOf2 Tryz.zeroValue2 rfl rfl rfl rfl ⟨⟨_, _, rfl, (by first | rfl | simp), (by first | decide | simp)⟩, ⟨⟨_, _, rfl, (by first | rfl | simp), (by first | decide | simp)⟩, ⟨⟨_, _, rfl, (by first | rfl | simp), (by first | decide | simp)⟩, ⟨⟨_, _, rfl, (by first | rfl | simp), (by first | decide | simp)⟩, ⟨⟨_, _, rfl, (by first | rfl | simp), (by first | decide | simp)⟩, ⟨⟨_, _, rfl, (by first | rfl | simp), (by first | decide | simp)⟩, trivial⟩⟩⟩⟩⟩⟩ (by dsimp [fillL, splice, vcells, reps] <;> rfl)) rfl ?_
  rintro v L' ⟨b38, rfl, rfl⟩
  refine y (ev_fieldAddr 0 rfl Tryz.underlying89 rfl Tryz.sizeOf34) rfl ?_
  refine y (ev_fieldAddr 3 rfl Tryz.underlying34 rfl Tryz.sizeOf9) rfl ?_
  refine y (ev_load rfl Tryz.isAgg9 zin rfl) rfl ?_
  refine ya (ac_bsliceR rfl Tryz.underlying98 Tryz.sizeOf9 Tryz.zeroValue9 rfl rfl rfl rfl ⟨⟨_, _, rfl, (by first | rfl | simp), (by first | decide | simp)⟩, trivial⟩ (by dsimp [fillL, splice, vcells, reps] <;> rfl)) rfl ?_
  rintro v L' ⟨b42, rfl, rfl⟩
  refine y (ev_build (zs := _) rfl Tryz.underlying126 Tryz.zeroValue126 rfl (.cons Tryz.sizeOf3 (.cons Tryz.sizeOf56 (.cons Tryz.sizeOf98 .nil))) ⟨⟨_, _, rfl, (by first | rfl | simp), (by first | decide | simp)⟩, ⟨⟨_, _, rfl, (by first | rfl | simp), (by first | decide | simp)⟩, ⟨⟨_, _, rfl, (by first | rfl | simp), (by first | decide | simp)⟩, trivial⟩⟩⟩ (by dsimp [fillL, splice, vcells] <;> rfl)) rfl ?_
  refine ya0 (ac_storeAll rfl rfl (by first | exact bytesV_one _ | (simp [Value.oneCell']; done) | (simp only [List.forall_mem_cons, List.not_mem_nil, false_implies, implies_true, svVal_one, and_true, true_and, and_self]; first | done | simp [Value.oneCell'])) Tryz.sizeOf126 zrp (by first | rfl | assumption | (simp [*]; done) | (simp [*]; omega)) (by first | rfl | assumption | (simp [*]; done) | (simp [*]; omega))) ?_
  rintro v L' ⟨rfl, rfl⟩
  refine ynil' (kbn (kthn ?_))
  first
    | exact ksub zsub zge (hJr17 (some (b38, 6, []), some (b42, 1, [])) ⟨⟨Nat.le_refl _, by decide, rfl, rfl⟩, ⟨Nat.le_refl _, by decide, rfl, rfl⟩⟩)
    | exact ksub zsub zge (hJr17 (some (b55, 3, []), none) ⟨⟨Nat.le_refl _, by decide, rfl, rfl⟩, ⟨rfl, rfl⟩⟩)
    | exact ksub zsub zge (hJr17 (some (b62, 1, []), none) ⟨⟨Nat.le_refl _, by decide, rfl, rfl⟩, ⟨rfl, rfl⟩⟩)
    | exact ksub zsub zge (hJr17 (none, none) ⟨⟨rfl, rfl⟩, ⟨rfl, rfl⟩⟩)
 ·skip
  first
    | refine y (ev_assertY rfl Tryz.underlying89 (by intro q hq; cases hq)) rfl ?_
    | refine y (ev_assertN rfl Tryz.underlying89 (by intro q hq; cases hq) (by decide) Tryz.zeroValue89) rfl ?_
  refine yxt ?_
  refine yxt ?_
  refine ynil' (kthn (hK8 _ _ ?_))
  clear hK8
  refine ccond1 rfl ?_
  refine cseq ?_; intro K13 hK13
  refine creg ?_
  refine ya (ac_alloc Tryz.zeroValue89 rfl) rfl ?_
  rintro v L' ⟨b4, rfl, rfl⟩
  refine ya0 (ac_storeAll rfl rfl (by first | exact bytesV_one _ | (simp [Value.oneCell']; done) | (simp only [List.forall_mem_cons, List.not_mem_nil, false_implies, implies_true, svVal_one, and_true, true_and, and_self]; first | done | simp [Value.oneCell'])) Tryz.sizeOf89 zrp (by first | rfl | assumption | (simp [*]; done) | (simp [*]; omega)) (by first | rfl | assumption | (simp [*]; done) | (simp [*]; omega))) ?_
  rintro v L' ⟨rfl, rfl⟩
  refine ynil' (kthn (hK13 _ _ ?_))
  clear hK13
  refine cseq ?_; intro K14 hK14
  refine creg ?_
  refine yas ?_
  refine ynil' (kthn (hK14 _ _ ?_))
  clear hK14
  refine cseq ?_; intro K15 hK15
  refine cseq ?_; intro K16 hK16
  refine creg ?_
  refine y (ev_fieldAddr 0 rfl Tryz.underlying89 rfl Tryz.sizeOf34) rfl ?_
  refine y (ev_fieldAddr 4 rfl Tryz.underlying34 rfl Tryz.sizeOf4) rfl ?_
  refine y (ev_load rfl Tryz.isAgg4 zin rfl) rfl ?_
  refine ynil' (kthn (hK16 _ _ ?_))
  clear hK16
  refine ccond1 rfl ?_
  refine creg ?_
  refine yas ?_
  refine ynil' (kthn (hK15 _ _ ?_))
  clear hK15
  refine creg ?_
  refine y (ev_fieldAddr 0 rfl Tryz.underlying89 rfl Tryz.sizeOf34) rfl ?_
  refine y (ev_fieldAddr 0 rfl Tryz.underlying34 rfl Tryz.sizeOf3) rfl ?_
  refine y (ev_load rfl Tryz.isAgg3 zin rfl) rfl ?_
  refine y (ev_fieldAddr 0 rfl Tryz.underlying89 rfl Tryz.sizeOf34) rfl ?_
  refine y (ev_fieldAddr 1 rfl Tryz.underlying34 rfl Tryz.sizeOf31) rfl ?_
  refine y (ev_fieldAddr 0 rfl Tryz.underlying31 rfl Tryz.sizeOf2) rfl ?_
  refine y (ev_load rfl Tryz.isAgg2 zin rfl) rfl ?_
  refine y (ev_fieldAddr 0 rfl Tryz.underlying89 rfl Tryz.sizeOf34) rfl ?_
  refine y (ev_fieldAddr 1 rfl Tryz.underlying34 rfl Tryz.sizeOf31) rfl ?_
  refine y (ev_fieldAddr 1 rfl Tryz.underlying31 rfl Tryz.sizeOf2) rfl ?_
  refine y (ev_load rfl Tryz.isAgg2 zin rfl) rfl ?_
  refine ymv ?_
  refine y (ev_fieldAddr 0 rfl Tryz.underlying89 rfl Tryz.sizeOf34) rfl ?_
  refine y (ev_fieldAddr 5 rfl Tryz.underlying34 rfl Tryz.sizeOf3) rfl ?_
  refine y (ev_load rfl Tryz.isAgg3 zin rfl) rfl ?_
  refine y (ev_fieldAddr 0 rfl Tryz.underlying89 rfl Tryz.sizeOf34) rfl ?_
  refine y (ev_fieldAddr 6 rfl Tryz.underlying34 rfl Tryz.sizeOf2) rfl ?_
  refine y (ev_load rfl Tryz.isAgg2 zin rfl) rfl ?_
  refine ya (ac_bsliceR rfl Tryz.underlying56 Tryz.sizeOf2 Tryz.zeroValue2 rfl rfl rfl rfl ⟨⟨_, _, rfl, (by first | rfl | simp), (by first | decide | simp)⟩, ⟨⟨_, _, rfl, (by first | rfl | simp), (by first | decide | simp)⟩, ⟨⟨_, _, rfl, (by first | rfl | simp), (by first | decide | simp)⟩, ⟨⟨_, _, rfl, (by first | rfl | simp), (by first | decide | simp)⟩, ⟨⟨_, _, rfl, (by first | rfl | simp), (by first | decide | simp)⟩, ⟨⟨_, _, rfl, (by first | rfl | simp), (by first | decide | simp)⟩, trivial⟩⟩⟩⟩⟩⟩ (by dsimp [fillL, splice, vcells, reps] <;> rfl)) rfl ?_
  rintro v L' ⟨b38, rfl, rfl⟩
  refine y (ev_fieldAddr 0 rfl Tryz.underlying89 rfl Tryz.sizeOf34) rfl ?_
  refine y (ev_fieldAddr 3 rfl Tryz.underlying34 rfl Tryz.sizeOf9) rfl ?_
  refine y (ev_load rfl Tryz.isAgg9 zin rfl) rfl ?_
  refine ya (ac_bsliceR rfl Tryz.underlying98 Tryz.sizeOf9 Tryz.zeroValue9 rfl rfl rfl rfl ⟨⟨_, _, rfl, (by first | rfl | simp), (by first | decide | simp)⟩, trivial⟩ (by dsimp [fillL, splice, vcells, reps] <;> rfl)) rfl ?_
  rintro v L' ⟨b42, rfl, rfl⟩
  refine y (ev_build (zs := _) rfl Tryz.underlying126 Tryz.zeroValue126 rfl (.cons Tryz.sizeOf3 (.cons Tryz.sizeOf56 (.cons Tryz.sizeOf98 .nil))) ⟨⟨_, _, rfl, (by first | rfl | simp), (by first | decide | simp)⟩, ⟨⟨_, _, rfl, (by first | rfl | simp), (by first | decide | simp)⟩, ⟨⟨_, _, rfl, (by first | rfl | simp), (by first | decide | simp)⟩, trivial⟩⟩⟩ (by dsimp [fillL, splice, vcells] <;> rfl)) rfl ?_
  refine ya0 (ac_storeAll rfl rfl (by first | exact bytesV_one _ | (simp [Value.oneCell']; done) | (simp only [List.forall_mem_cons, List.not_mem_nil, false_implies, implies_true, svVal_one, and_true, true_and, and_self]; first | done | simp [Value.oneCell'])) Tryz.sizeOf126 zrp (by first | rfl | assumption | (simp [*]; done) | (simp [*]; omega)) (by first | rfl | assumption | (simp [*]; done) | (simp [*]; omega))) ?_
  rintro v L' ⟨rfl, rfl⟩
  refine ynil' (kbn (kthn ?_))
  first
    | exact ksub zsub zge (hJr17 (some (b38, 6, []), some (b42, 1, [])) ⟨⟨Nat.le_refl _, by decide, rfl, rfl⟩, ⟨Nat.le_refl _, by decide, rfl, rfl⟩⟩)
    | exact ksub zsub zge (hJr17 (some (b55, 3, []), none) ⟨⟨Nat.le_refl _, by decide, rfl, rfl⟩, ⟨rfl, rfl⟩⟩)
    | exact ksub zsub zge (hJr17 (some (b62, 1, []), none) ⟨⟨Nat.le_refl _, by decide, rfl, rfl⟩, ⟨rfl, rfl⟩⟩)
    | exact ksub zsub zge (hJr17 (none, none) ⟨⟨rfl, rfl⟩, ⟨rfl, rfl⟩⟩)
 ·skip
  first
    | refine y (ev_assertY rfl Tryz.underlying89 (by intro q hq; cases hq)) rfl ?_
    | refine y (ev_assertN rfl Tryz.underlying89 (by intro q hq; cases hq) (by decide) Tryz.zeroValue89) rfl ?_
  refine yxt ?_
  refine yxt ?_
  refine ynil' (kthn (hK8 _ _ ?_))
  clear hK8
  refine ccond0 rfl ?_
  refine cseq ?_; intro K17 hK17
  refine creg ?_
  first
    | refine y (ev_assertY rfl Tryz.underlying95 (by intro q hq; cases hq)) rfl ?_
    | refine y (ev_assertN rfl Tryz.underlying95 (by intro q hq; cases hq) (by decide) Tryz.zeroValue95) rfl ?_
  refine yxt ?_
  refine yxt ?_
  refine ynil' (kthn (hK17 _ _ ?_))
  clear hK17
  refine ccond1 rfl ?_
  refine cseq ?_; intro K18 hK18
  refine creg ?_
  refine ya (ac_alloc Tryz.zeroValue95 rfl) rfl ?_
  rintro v L' ⟨b6, rfl, rfl⟩
  refine ya0 (ac_storeAll rfl rfl (by first | exact bytesV_one _ | (simp [Value.oneCell']; done) | (simp only [List.forall_mem_cons, List.not_mem_nil, false_implies, implies_true, svVal_one, and_true, true_and, and_self]; first | done | simp [Value.oneCell'])) Tryz.sizeOf95 zrp (by first | rfl | assumption | (simp [*]; done) | (simp [*]; omega)) (by first | rfl | assumption | (simp [*]; done) | (simp [*]; omega))) ?_
  rintro v L' ⟨rfl, rfl⟩
  refine ynil' (kthn (hK18 _ _ ?_))
  clear hK18
  refine creg ?_
  refine y (ev_fieldAddr 0 rfl Tryz.underlying95 rfl Tryz.sizeOf3) rfl ?_
  refine y (ev_load rfl Tryz.isAgg3 zin rfl) rfl ?_
  refine y (ev_fieldAddr 1 rfl Tryz.underlying95 rfl Tryz.sizeOf31) rfl ?_
  refine y (ev_fieldAddr 0 rfl Tryz.underlying31 rfl Tryz.sizeOf2) rfl ?_
  refine y (ev_load rfl Tryz.isAgg2 zin rfl) rfl ?_
  refine y (ev_fieldAddr 1 rfl Tryz.underlying95 rfl Tryz.sizeOf31) rfl ?_
  refine y (ev_fieldAddr 1 rfl Tryz.underlying31 rfl Tryz.sizeOf2) rfl ?_
  refine y (ev_load rfl Tryz.isAgg2 zin rfl) rfl ?_
  refine ya (ac_bsliceR rfl Tryz.underlying56 Tryz.sizeOf2 Tryz.zeroValue2 rfl rfl rfl rfl ⟨⟨_, _, rfl, (by first | rfl | simp), (by first | decide | simp)⟩, ⟨⟨_, _, rfl, (by first | rfl | simp), (by first | decide | simp)⟩, ⟨⟨_, _, rfl, (by first | rfl | simp), (by first | decide | simp)⟩, trivial⟩⟩⟩ (by dsimp [fillL, splice, vcells, reps] <;> rfl)) rfl ?_
  rintro v L' ⟨b55, rfl, rfl⟩
  refine y (ev_build (zs := _) rfl Tryz.underlying126 Tryz.zeroValue126 rfl (.cons Tryz.sizeOf3 (.cons Tryz.sizeOf56 (.cons Tryz.sizeOf98 .nil))) ⟨⟨_, _, rfl, (by first | rfl | simp), (by first | decide | simp)⟩, ⟨⟨_, _, rfl, (by first | rfl | simp), (by first | decide | simp)⟩, trivial⟩⟩ (by dsimp [fillL, splice, vcells] <;> rfl)) rfl ?_
  refine ya0 (ac_storeAll rfl rfl (by first | exact bytesV_one _ | (simp [Value.oneCell']; done) | (simp only [List.forall_mem_cons, List.not_mem_nil, false_implies, implies_true, svVal_one, and_true, true_and, and_self]; first | done | simp [Value.oneCell'])) Tryz.sizeOf126 zrp (by first | rfl | assumption | (simp [*]; done) | (simp [*]; omega)) (by first | rfl | assumption | (simp [*]; done) | (simp [*]; omega))) ?_
  rintro v L' ⟨rfl, rfl⟩
  refine ynil' (kbn (kthn ?_))
  first
    | exact ksub zsub zge (hJr17 (some (b38, 6, []), some (b42, 1, [])) ⟨⟨Nat.le_refl _, by decide, rfl, rfl⟩, ⟨Nat.le_refl _, by decide, rfl, rfl⟩⟩)
    | exact ksub zsub zge (hJr17 (some (b55, 3, []), none) ⟨⟨Nat.le_refl _, by decide, rfl, rfl⟩, ⟨rfl, rfl⟩⟩)
    | exact ksub zsub zge (hJr17 (some (b62, 1, []), none) ⟨⟨Nat.le_refl _, by decide, rfl, rfl⟩, ⟨rfl, rfl⟩⟩)
    | exact ksub zsub zge (hJr17 (none, none) ⟨⟨rfl, rfl⟩, ⟨rfl, rfl⟩⟩)
 ·skip
  first
    | refine y (ev_assertY rfl Tryz.underlying89 (by intro q hq; cases hq)) rfl ?_
    | refine y (ev_assertN rfl Tryz.underlying89 (by intro q hq; cases hq) (by decide) Tryz.zeroValue89) rfl ?_
  refine yxt ?_
  refine yxt ?_
  refine ynil' (kthn (hK8 _ _ ?_))
  clear hK8
  refine ccond0 rfl ?_
  refine cseq ?_; intro K19 hK19
  refine creg ?_
  first
    | refine y (ev_assertY rfl Tryz.underlying95 (by intro q hq; cases hq)) rfl ?_
    | refine y (ev_assertN rfl Tryz.underlying95 (by intro q hq; cases hq) (by decide) Tryz.zeroValue95) rfl ?_
  refine yxt ?_
  refine yxt ?_
  refine ynil' (kthn (hK19 _ _ ?_))
  clear hK19
  refine ccond0 rfl ?_
  refine cseq ?_; intro K20 hK20
  refine creg ?_
  first
    | refine y (ev_assertY rfl Tryz.underlying93 (by intro q hq; cases hq)) rfl ?_
    | refine y (ev_assertN rfl Tryz.underlying93 (by intro q hq; cases hq) (by decide) Tryz.zeroValue93) rfl ?_
  refine yxt ?_
  refine yxt ?_
  refine ynil' (kthn (hK20 _ _ ?_))
  clear hK20
  refine ccond1 rfl ?_
  refine cseq ?_; intro K21 hK21
  refine creg ?_
  refine ya (ac_alloc Tryz.zeroValue93 rfl) rfl ?_
  rintro v L' ⟨b7, rfl, rfl⟩
  refine ya0 (ac_storeAll rfl rfl (by first | exact bytesV_one _ | (simp [Value.oneCell']; done) | (simp only [List.forall_mem_cons, List.not_mem_nil, false_implies, implies_true, svVal_one, and_true, true_and, and_self]; first | done | simp [Value.oneCell'])) Tryz.sizeOf93 zrp (by first | rfl | assumption | (simp [*]; done) | (simp [*]; omega)) (by first | rfl | assumption | (simp [*]; done) | (simp [*]; omega))) ?_
  rintro v L' ⟨rfl, rfl⟩
  refine ynil' (kthn (hK21 _ _ ?_))
  clear hK21
  refine creg ?_
  refine y (ev_fieldAddr 0 rfl Tryz.underlying93 rfl Tryz.sizeOf3) rfl ?_
  refine y (ev_load rfl Tryz.isAgg3 zin rfl) rfl ?_
  refine ya (ac_bsliceR rfl Tryz.underlying56 Tryz.sizeOf2 Tryz.zeroValue2 rfl rfl rfl rfl ⟨⟨_, _, rfl, (by first | rfl | simp), (by first | decide | simp)⟩, trivial⟩ (by dsimp [fillL, splice, vcells, reps] <;> rfl)) rfl ?_
  rintro v L' ⟨b62, rfl, rfl⟩
  refine y (ev_build (zs := _) rfl Tryz.underlying126 Tryz.zeroValue126 rfl (.cons Tryz.sizeOf3 (.cons Tryz.sizeOf56 (.cons Tryz.sizeOf98 .nil))) ⟨⟨_, _, rfl, (by first | rfl | simp), (by first | decide | simp)⟩, ⟨⟨_, _, rfl, (by first | rfl | simp), (by first | decide | simp)⟩, trivial⟩⟩ (by dsimp [fillL, splice, vcells] <;> rfl)) rfl ?_
  refine ya0 (ac_storeAll rfl rfl (by first | exact bytesV_one _ | (simp [Value.oneCell']; done) | (simp only [List.forall_mem_cons, List.not_mem_nil, false_implies, implies_true, svVal_one, and_true, true_and, and_self]; first | done | simp [Value.oneCell'])) Tryz.sizeOf126 zrp (by first | rfl | assumption | (simp [*]; done) | (simp [*]; omega)) (by first | rfl | assumption | (simp [*]; done) | (simp [*]; omega))) ?_
  rintro v L' ⟨rfl, rfl⟩
  refine ynil' (kbn (kthn ?_))
  first
    | exact ksub zsub zge (hJr17 (some (b38, 6, []), some (b42, 1, [])) ⟨⟨Nat.le_refl _, by decide, rfl, rfl⟩, ⟨Nat.le_refl _, by decide, rfl, rfl⟩⟩)
    | exact ksub zsub zge (hJr17 (some (b55, 3, []), none) ⟨⟨Nat.le_refl _, by decide, rfl, rfl⟩, ⟨rfl, rfl⟩⟩)
    | exact ksub zsub zge (hJr17 (some (b62, 1, []), none) ⟨⟨Nat.le_refl _, by decide, rfl, rfl⟩, ⟨rfl, rfl⟩⟩)
    | exact ksub zsub zge (hJr17 (none, none) ⟨⟨rfl, rfl⟩, ⟨rfl, rfl⟩⟩)
 ·skip
  first
    | refine y (ev_assertY rfl Tryz.underlying89 (by intro q hq; cases hq)) rfl ?_
    | refine y (ev_assertN rfl Tryz.underlying89 (by intro q hq; cases hq) (by decide) Tryz.zeroValue89) rfl ?_
  refine yxt ?_
  refine yxt ?_
  refine ynil' (kthn (hK8 _ _ ?_))
  clear hK8
  refine ccond0 rfl ?_
  refine cseq ?_; intro K22 hK22
  refine creg ?_
  first
    | refine y (ev_assertY rfl Tryz.underlying95 (by intro q hq; cases hq)) rfl ?_
    | refine y (ev_assertN rfl Tryz.underlying95 (by intro q hq; cases hq) (by decide) Tryz.zeroValue95) rfl ?_
  refine yxt ?_
  refine yxt ?_
  refine ynil' (kthn (hK22 _ _ ?_))
  clear hK22
  refine ccond0 rfl ?_
  refine cseq ?_; intro K23 hK23
  refine creg ?_
  first
    | refine y (ev_assertY rfl Tryz.underlying93 (by intro q hq; cases hq)) rfl ?_
    | refine y (ev_assertN rfl Tryz.underlying93 (by intro q hq; cases hq) (by decide) Tryz.zeroValue93) rfl ?_
  refine yxt ?_
  refine yxt ?_
  refine ynil' (kthn (hK23 _ _ ?_))
  clear hK23
  refine ccond0 rfl ?_
  refine cseq ?_; intro K24 hK24
  refine creg ?_
  refine yas ?_
  refine ynil' (kthn (hK24 _ _ ?_))
  clear hK24
  refine creg ?_
  refine y (ev_fieldAddr 0 rfl Tryz.underlying126 rfl Tryz.sizeOf3) rfl ?_
  refine ya0 (ac_store rfl rfl (by first | rfl | exact svVal_one _ _ | assumption) Tryz.sizeOf3 zrp rfl rfl) ?_
  rintro v L' ⟨rfl, rfl⟩
  refine ynil' (kbn (kthn ?_))
  first
    | exact ksub zsub zge (hJr17 (some (b38, 6, []), some (b42, 1, [])) ⟨⟨Nat.le_refl _, by decide, rfl, rfl⟩, ⟨Nat.le_refl _, by decide, rfl, rfl⟩⟩)
    | exact ksub zsub zge (hJr17 (some (b55, 3, []), none) ⟨⟨Nat.le_refl _, by decide, rfl, rfl⟩, ⟨rfl, rfl⟩⟩)
    | exact ksub zsub zge (hJr17 (some (b62, 1, []), none) ⟨⟨Nat.le_refl _, by decide, rfl, rfl⟩, ⟨rfl, rfl⟩⟩)
    | exact ksub zsub zge (hJr17 (none, none) ⟨⟨rfl, rfl⟩, ⟨rfl, rfl⟩⟩)
end W
end Go.Proofs
