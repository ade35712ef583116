/- A part of the proof: contracts and plain lemmas, each without conditions beyond those that it names. -/
import Derived.Test.YtediodfmkbfomaaGreatC1
import Derived.Test.YtediodfmkbfomaaGreatGL
set_option linter.unusedVariables false
set_option linter.unusedSimpArgs false
set_option linter.constructorNameAsVariable false
namespace Go.Proofs
open Go Go.Sl
namespace W
set_option linter.unusedVariables false
def entV (x : EntM) : Value := .agg #[i64 x.blk, i64 x.ve, i64 x.vs, str x.data, .bool x.dirty, i64 x.cl, i64 x.n]
def WhatM.val : WhatM → Value
 | .put x => .iface 89 (entV x)
 | .clean b e s => .iface 95 (.agg #[i64 b, i64 e, i64 s])
 | .drop b => .iface 93 (.agg #[i64 b])
 | .note => .iface 108 (.agg #[])
abbrev keptV (k : KeptM) : Value := .agg #[i64 k.e, i64 k.s, i64 k.t.a, i64 k.t.b, i64 k.t.c, i64 k.t.d]
def recA (r : CrecM) : List Value := [WhatM.val r.w, i64 r.k.e, i64 r.k.s, i64 r.k.t.a, i64 r.k.t.b, i64 r.k.t.c, i64 r.k.t.d]
structure CaA where
 p : Nat
 lp : Nat
 lc : Nat
 me : Nat
 mp : Nat
def caC (A : CaA) (C : CaM) : List Value := [ptr A.lp, i64 C.bl, i64 C.n, .map (some A.me), .map (some A.mp), i64 C.k.e, i64 C.k.s, i64 C.k.t.a, i64 C.k.t.b, i64 C.k.t.c, i64 C.k.t.d]
def numV (n : Int) : Value := .int .i64 n
def caP (A : CaA) (C : CaM) : Seg := sc A.p (caC A C) 84
def enS (A : CaA) (C : CaM) : Seg := so A.me (.map (ents (akv entV C.en)) C.ce)
def puS (A : CaA) (C : CaM) : Seg := so A.mp (.map (ents (akv numV C.pu)) C.cp)
theorem val_one (w : WhatM) : (WhatM.val w).oneCell' = true := by cases w <;> rfl
theorem recA_one (r : CrecM) : ∀ u ∈ recA r, u.oneCell' = true := by
 intro u hu
 simp only [recA, List.mem_cons, List.not_mem_nil, or_false] at hu
 rcases hu with rfl | rfl | rfl | rfl | rfl | rfl | rfl
 · exact val_one _
 all_goals rfl
theorem kIn [Env] {R : List Seg} {A : CaA} {C : CaM} {b : Int} (hb : C.bl ≤ 32) : Con Tryz.prog 38 [ptr A.p, i64 b] [caP A C] R (Is (.bool (inB C.bl b)) [caP A C]) := by
 refine con_enter Tryz.func38 Tryz.ntmps38 rfl rfl ?_
 unfold caP caC
 refine cseq ?_; intro K1 hK1
 refine creg ?_
 refine yas ?_
 refine ynil' (kthn (hK1 _ _ ?_))
 clear hK1
 refine cseq ?_; intro K2 hK2
 refine creg ?_
 refine ymv ?_
 refine ymv ?_
 refine yni ?_
 refine y (ev_fieldAddr 1 rfl Tryz.underlying84 rfl Tryz.sizeOf3) rfl ?_
 refine y (ev_load rfl Tryz.isAgg3 zin rfl) rfl ?_
 refine y (ev_sub rfl rfl) rfl ?_
 rw [wr (by omega) (by omega)]
 refine ycall (kWithin) rfl Tryz.call41 ztk rfl ?_
 rintro v L' ⟨rfl, rfl⟩
 refine yas ?_
 refine ynil' (kthn (hK2 _ _ ?_))
 clear hK2
 refine cret ?_
 first
   | (exfalso; omega; done)
   | (refine kretv Tryz.results38 rfl (L1 := [sc A.p _ 84] ++ R) zge ?_
      exact ⟨_, ⟨by rfl, rfl⟩, by rfl⟩)
theorem kDoes [Env] {R : List Seg} {A : CaA} {C : CaM} {r : CrecM} {num : Int} (hC : C.mok) :
   Con Tryz.prog 49 [ptr A.p, .agg (recA r).toArray, i64 num] [caP A C, enS A C, puS A C] R (Is (.tuple #[]) [caP A (C.does r num), enS A (C.does r num), puS A (C.does r num)]) := by
 obtain ⟨w, k⟩ := r
 refine con_enter Tryz.func49 Tryz.ntmps49 rfl rfl ?_
 unfold caP caC enS puS
 refine cseq ?_; intro K1 hK1
 refine creg ?_
 refine ya (ac_box (vs := recA ⟨w, k⟩) rfl rfl) rfl ?_
 rintro v L' ⟨b4, rfl, rfl⟩
 refine ynil' (kthn (hK1 _ _ ?_))
 clear hK1
 refine cseq ?_; intro K2 hK2
 refine cseq ?_; intro K3 hK3
 refine creg ?_
 rcases w with x | ⟨cb, ce, cs⟩ | db | _
 ·skip
  refine y (ev_fieldAddr 0 rfl Tryz.underlying101 rfl Tryz.sizeOf20) rfl ?_
  refine y (ev_load rfl Tryz.isAgg20 zin rfl) rfl ?_
  refine ynil' (kthn (hK3 _ _ ?_))
  clear hK3
  refine cblock ?_
  refine cseq ?_; intro K4 hK4
  refine creg ?_
  first
    | refine y (ev_assertY rfl Tryz.underlying89 (by intro q hq; cases hq)) rfl ?_
    | refine y (ev_assertN rfl Tryz.underlying89 (by intro q hq; cases hq) (by decide) Tryz.zeroValue89) rfl ?_
  refine yxt ?_
  refine yxt ?_
  refine ynil' (kthn (hK4 _ _ ?_))
  clear hK4
  refine ccond1 rfl ?_
  refine cseq ?_; intro K5 hK5
  refine creg ?_
  refine ya (ac_alloc Tryz.zeroValue89 rfl) rfl ?_
  rintro v L' ⟨b6, rfl, rfl⟩
  refine ya0 (ac_storeAll rfl rfl (by first | exact bytesV_one _ | (simp [Value.oneCell']; done) | (simp only [List.forall_mem_cons, List.not_mem_nil, false_implies, implies_true, svVal_one, and_true, true_and, and_self]; first | done | simp [Value.oneCell'])) Tryz.sizeOf89 zrp (by first | rfl | assumption | (simp [*]; done) | (simp [*]; omega)) (by first | rfl | assumption | (simp [*]; done) | (simp [*]; omega))) ?_
  rintro v L' ⟨rfl, rfl⟩
  refine ynil' (kthn (hK5 _ _ ?_))
  clear hK5
  refine cseq ?_; intro K6 hK6
  refine cdraw 9 [(0, true), (1, true), (2, true), (3, true), (4, true), (5, true), (6, true), (7, true), (8, true)] (_) Tryz.mixed (by kernel_rfl) .refl ?_
  refine hr rfl (ev_move rfl) rfl ?_
  refine hr rfl (ev_nil rfl) rfl ?_
  refine hr rfl (ev_fieldAddr 3 rfl Tryz.underlying84 rfl Tryz.sizeOf29) rfl ?_
  refine hr rfl (ev_load rfl Tryz.isAgg29 zin rfl) rfl ?_
  refine hr rfl (ev_fieldAddr 0 rfl Tryz.underlying89 rfl Tryz.sizeOf34) rfl ?_
  refine hr rfl (ev_fieldAddr 0 rfl Tryz.underlying34 rfl Tryz.sizeOf3) rfl ?_
  refine hr rfl (ev_load rfl Tryz.isAgg3 zin rfl) rfl ?_
  refine hr rfl (ev_fieldAddr 0 rfl Tryz.underlying89 rfl Tryz.sizeOf34) rfl ?_
  refine hr rfl (ev_loadN rfl Tryz.isAgg34 Tryz.sizeOf34 zin rfl rfl) rfl ?_
  refine hnil ?_
  refine ya0 (ac_mapUpdate (kv := akv entV C.en) (v := entV x) rfl rfl rfl Tryz.underlying29 Tryz.underlying3 (akv_uniq _ hC.e) zrp) ?_
  rintro v L' ⟨rfl, rfl⟩
  rw [akv_put, akv_clk]
  refine hnoP' (kthn (hK6 _ _ ?_))
  clear hK6
  refine cdraw 8 [(0, true), (1, true), (2, true), (3, true), (4, true), (5, true), (6, true), (7, true)] (_) Tryz.mixed (by kernel_rfl) .refl ?_
  refine hr rfl (ev_move rfl) rfl ?_
  refine hr rfl (ev_nil rfl) rfl ?_
  refine hr rfl (ev_fieldAddr 4 rfl Tryz.underlying84 rfl Tryz.sizeOf80) rfl ?_
  refine hr rfl (ev_load rfl Tryz.isAgg80 zin rfl) rfl ?_
  refine hr rfl (ev_fieldAddr 0 rfl Tryz.underlying89 rfl Tryz.sizeOf34) rfl ?_
  refine hr rfl (ev_fieldAddr 0 rfl Tryz.underlying34 rfl Tryz.sizeOf3) rfl ?_
  refine hr rfl (ev_load rfl Tryz.isAgg3 zin rfl) rfl ?_
  refine hr rfl (ev_move rfl) rfl ?_
  refine hnil ?_
  refine ya0 (ac_mapUpdate (kv := akv numV C.pu) (v := numV num) rfl rfl rfl Tryz.underlying80 Tryz.underlying3 (akv_uniq _ hC.p) zrp) ?_
  rintro v L' ⟨rfl, rfl⟩
  rw [akv_put, akv_clk]
  refine hnoP' (kbn (kthn (hK2 _ _ ?_)))
  clear hK2
  refine creg ?_
  first
    | (have hD0 : C.does ⟨.clean cb ce cs, k⟩ num = { C with k := k } := by first | (simp [CaM.does, CaM.eff, hg]; done) | (simp only [CaM.does, CaM.eff, hg]; rw [if_neg (by assumption)]))
    | (have hD0 : C.does ⟨.clean cb ce cs, k⟩ num = { C with en := aput C.en C.ce cb { y0 with dirty := false }, ce := aclk C.en C.ce cb, k := k } := by simp [CaM.does, CaM.eff, hg, *])
    | skip
  refine ymv ?_
  refine y (ev_fieldAddr 1 rfl Tryz.underlying101 rfl Tryz.sizeOf82) rfl ?_
  refine y (ev_loadN (u := [i64 k.e, i64 k.s, i64 k.t.a, i64 k.t.b, i64 k.t.c, i64 k.t.d]) rfl Tryz.isAgg82 Tryz.sizeOf82 zin rfl rfl) rfl ?_
  refine yni ?_
  refine y (ev_fieldAddr 5 rfl Tryz.underlying84 rfl Tryz.sizeOf82) rfl ?_
  refine ya0 (ac_storeN (vs' := [ptr A.lp, i64 C.bl, i64 C.n, .map (some A.me), .map (some A.mp), i64 k.e, i64 k.s, i64 k.t.a, i64 k.t.b, i64 k.t.c, i64 k.t.d]) rfl rfl (by simp [Value.oneCell']) Tryz.sizeOf82 zrp rfl (by simp) rfl) ?_
  rintro v L' ⟨rfl, rfl⟩
  refine ynil' ?_
  first
    | (exfalso; omega; done)
    | (refine kendv0 Tryz.results49 (L1 := [sc A.p _ 84, so A.me _, so A.mp _] ++ R) zge ?_
       first | exact ⟨_, ⟨rfl, rfl⟩, rfl⟩ | (rw [hD0]; exact ⟨_, ⟨rfl, rfl⟩, rfl⟩))
 ·skip
  refine y (ev_fieldAddr 0 rfl Tryz.underlying101 rfl Tryz.sizeOf20) rfl ?_
  refine y (ev_load rfl Tryz.isAgg20 zin rfl) rfl ?_
  refine ynil' (kthn (hK3 _ _ ?_))
  clear hK3
  refine cblock ?_
  refine cseq ?_; intro K7 hK7
  refine creg ?_
  first
    | refine y (ev_assertY rfl Tryz.underlying89 (by intro q hq; cases hq)) rfl ?_
    | refine y (ev_assertN rfl Tryz.underlying89 (by intro q hq; cases hq) (by decide) Tryz.zeroValue89) rfl ?_
  refine yxt ?_
  refine yxt ?_
  refine ynil' (kthn (hK7 _ _ ?_))
  clear hK7
  refine ccond0 rfl ?_
  refine cseq ?_; intro K8 hK8
  refine creg ?_
  first
    | refine y (ev_assertY rfl Tryz.underlying95 (by intro q hq; cases hq)) rfl ?_
    | refine y (ev_assertN rfl Tryz.underlying95 (by intro q hq; cases hq) (by decide) Tryz.zeroValue95) rfl ?_
  refine yxt ?_
  refine yxt ?_
  refine ynil' (kthn (hK8 _ _ ?_))
  clear hK8
  refine ccond1 rfl ?_
  refine cseq ?_; intro K9 hK9
  refine creg ?_
  refine ya (ac_alloc Tryz.zeroValue95 rfl) rfl ?_
  rintro v L' ⟨b7, rfl, rfl⟩
  refine ya0 (ac_storeAll rfl rfl (by first | exact bytesV_one _ | (simp [Value.oneCell']; done) | (simp only [List.forall_mem_cons, List.not_mem_nil, false_implies, implies_true, svVal_one, and_true, true_and, and_self]; first | done | simp [Value.oneCell'])) Tryz.sizeOf95 zrp (by first | rfl | assumption | (simp [*]; done) | (simp [*]; omega)) (by first | rfl | assumption | (simp [*]; done) | (simp [*]; omega))) ?_
  rintro v L' ⟨rfl, rfl⟩
  refine ynil' (kthn (hK9 _ _ ?_))
  clear hK9
  refine cseq ?_; intro K10 hK10
  refine cdraw 12 [(0, true), (1, true), (2, true), (3, true), (4, true), (5, true), (6, true), (7, true), (8, true), (9, true), (10, false), (11, false)] (_) Tryz.mixed (by kernel_rfl) .refl ?_
  refine hr rfl (ev_move rfl) rfl ?_
  refine hr rfl (ev_nil rfl) rfl ?_
  refine hr rfl (ev_fieldAddr 3 rfl Tryz.underlying84 rfl Tryz.sizeOf29) rfl ?_
  refine hr rfl (ev_load rfl Tryz.isAgg29 zin rfl) rfl ?_
  refine hr rfl (ev_fieldAddr 0 rfl Tryz.underlying95 rfl Tryz.sizeOf3) rfl ?_
  refine hr rfl (ev_load rfl Tryz.isAgg3 zin rfl) rfl ?_
  refine hr rfl (ev_lookup2 rfl rfl Tryz.underlying29 Tryz.underlying3 Tryz.zeroValue34 zin) rfl ?_
  rw [akv_get]
  rcases hg : aget C.en cb with _ | y0
  ·skip
   refine hr rfl (ev_move rfl) rfl ?_
   refine hr rfl (ev_extract rfl rfl) rfl ?_
   refine hr rfl (ev_extract rfl rfl) rfl ?_
   refine ha rfl (ac_alloc Tryz.zeroValue34 rfl) rfl ?_
   rintro v L' ⟨b8, rfl, rfl⟩; refine ⟨zge, ?_⟩
   refine haN rfl (ac_storeAll rfl rfl (by intro u hu; simp only [List.mem_cons, List.not_mem_nil, or_false] at hu; rcases hu with rfl | rfl | rfl | rfl | rfl | rfl | rfl <;> rfl) Tryz.sizeOf34 zrp rfl rfl) ?_
   rintro v L' ⟨rfl, rfl⟩; refine ⟨zge, ?_⟩
   refine hnil ?_
   refine yas ?_
   refine hnoP' (kthn (hK10 _ _ ?_))
   clear hK10
   refine cseq ?_; intro K11 hK11
   refine creg ?_
   refine ymv ?_
   refine ymv ?_
   refine ygz ?_
   refine ygz ?_
   refine ygz ?_
   refine ygz ?_
   refine ygz ?_
   refine ypb ?_
   refine ynil' (kthn (hK11 _ _ ?_))
   clear hK11
   refine ccond0 rfl ?_
   refine cskip' (kbn (kthn (hK2 _ _ ?_)))
   clear hK2
   refine creg ?_
   first
     | (have hD0 : C.does ⟨.clean cb ce cs, k⟩ num = { C with k := k } := by first | (simp [CaM.does, CaM.eff, hg]; done) | (simp only [CaM.does, CaM.eff, hg]; rw [if_neg (by assumption)]))
     | (have hD0 : C.does ⟨.clean cb ce cs, k⟩ num = { C with en := aput C.en C.ce cb { y0 with dirty := false }, ce := aclk C.en C.ce cb, k := k } := by simp [CaM.does, CaM.eff, hg, *])
     | skip
   refine ymv ?_
   refine y (ev_fieldAddr 1 rfl Tryz.underlying101 rfl Tryz.sizeOf82) rfl ?_
   refine y (ev_loadN (u := [i64 k.e, i64 k.s, i64 k.t.a, i64 k.t.b, i64 k.t.c, i64 k.t.d]) rfl Tryz.isAgg82 Tryz.sizeOf82 zin rfl rfl) rfl ?_
   refine yni ?_
   refine y (ev_fieldAddr 5 rfl Tryz.underlying84 rfl Tryz.sizeOf82) rfl ?_
   refine ya0 (ac_storeN (vs' := [ptr A.lp, i64 C.bl, i64 C.n, .map (some A.me), .map (some A.mp), i64 k.e, i64 k.s, i64 k.t.a, i64 k.t.b, i64 k.t.c, i64 k.t.d]) rfl rfl (by simp [Value.oneCell']) Tryz.sizeOf82 zrp rfl (by simp) rfl) ?_
   rintro v L' ⟨rfl, rfl⟩
   refine ynil' ?_
   first
     | (exfalso; omega; done)
     | (refine kendv0 Tryz.results49 (L1 := [sc A.p _ 84, so A.me _, so A.mp _] ++ R) zge ?_
        first | exact ⟨_, ⟨rfl, rfl⟩, rfl⟩ | (rw [hD0]; exact ⟨_, ⟨rfl, rfl⟩, rfl⟩))
  ·skip
   refine hr rfl (ev_move rfl) rfl ?_
   refine hr rfl (ev_extract rfl rfl) rfl ?_
   refine hr rfl (ev_extract rfl rfl) rfl ?_
   refine ha rfl (ac_alloc Tryz.zeroValue34 rfl) rfl ?_
   rintro v L' ⟨b8, rfl, rfl⟩; refine ⟨zge, ?_⟩
   refine haN rfl (ac_storeAll rfl rfl (by intro u hu; simp only [List.mem_cons, List.not_mem_nil, or_false] at hu; rcases hu with rfl | rfl | rfl | rfl | rfl | rfl | rfl <;> rfl) Tryz.sizeOf34 zrp rfl rfl) ?_
   rintro v L' ⟨rfl, rfl⟩; refine ⟨zge, ?_⟩
   refine hnil ?_
   refine yas ?_
   refine hnoP' (kthn (hK10 _ _ ?_))
   clear hK10
   refine cseq ?_; intro K12 hK12
   refine creg ?_
   refine ymv ?_
   refine ymv ?_
   refine ygo ?_
   refine y (ev_fieldAddr 1 rfl Tryz.underlying34 rfl Tryz.sizeOf31) rfl ?_
   refine ygo ?_
   refine y (ev_loadN (u := [i64 y0.ve, i64 y0.vs]) rfl Tryz.isAgg31 Tryz.sizeOf31 zin rfl rfl) rfl ?_
   refine ygo ?_
   refine y (ev_fieldAddr 1 rfl Tryz.underlying95 rfl Tryz.sizeOf31) rfl ?_
   refine ygo ?_
   refine y (ev_loadN (u := [i64 ce, i64 cs]) rfl Tryz.isAgg31 Tryz.sizeOf31 zin rfl rfl) rfl ?_
   refine ygo ?_
   refine y (ev_eqlF rfl rfl (by kernel_rfl) (by simp only [List.cons.injEq, Value.int.injEq, Value.string.injEq, Value.bool.injEq, str_inj, intsV_inj, MsgM.cells_inj, true_and, and_true]; exact Iff.rfl)) rfl ?_
   refine ypa ?_
   refine ynil' (kthn (hK12 _ _ ?_))
   clear hK12
   refine ccond rfl (fun h89 => ?_) (fun h89 => ?_)
   ·(try simp only [sH] at h89)
    refine cseq ?_; intro K13 hK13
    refine creg ?_
    refine y (ev_fieldAddr 4 rfl Tryz.underlying34 rfl Tryz.sizeOf4) rfl ?_
    refine ya0 (ac_store rfl rfl (by first | rfl | exact svVal_one _ _ | assumption) Tryz.sizeOf4 zrp rfl rfl) ?_
    rintro v L' ⟨rfl, rfl⟩
    refine ynil' (kthn (hK13 _ _ ?_))
    clear hK13
    refine cdraw 7 [(0, true), (1, true), (2, true), (3, true), (4, true), (5, true), (6, true)] (_) Tryz.mixed (by kernel_rfl) .refl ?_
    refine hr rfl (ev_move rfl) rfl ?_
    refine hr rfl (ev_nil rfl) rfl ?_
    refine hr rfl (ev_fieldAddr 3 rfl Tryz.underlying84 rfl Tryz.sizeOf29) rfl ?_
    refine hr rfl (ev_load rfl Tryz.isAgg29 zin rfl) rfl ?_
    refine hr rfl (ev_fieldAddr 0 rfl Tryz.underlying95 rfl Tryz.sizeOf3) rfl ?_
    refine hr rfl (ev_load rfl Tryz.isAgg3 zin rfl) rfl ?_
    refine hr rfl (ev_loadAll rfl Tryz.isAgg34 Tryz.sizeOf34 zin (by first | rfl | assumption | (simp [*]; done) | (simp [*]; omega))) rfl ?_
    refine hnil ?_
    refine ya0 (ac_mapUpdate (kv := akv entV C.en) (v := entV { y0 with dirty := false }) rfl rfl rfl Tryz.underlying29 Tryz.underlying3 (akv_uniq _ hC.e) zrp) ?_
    rintro v L' ⟨rfl, rfl⟩
    rw [akv_put, akv_clk]
    refine hnoP' (kbn (kthn (hK2 _ _ ?_)))
    clear hK2
    refine creg ?_
    first
      | (have hD0 : C.does ⟨.clean cb ce cs, k⟩ num = { C with k := k } := by first | (simp [CaM.does, CaM.eff, hg]; done) | (simp only [CaM.does, CaM.eff, hg]; rw [if_neg (by assumption)]))
      | (have hD0 : C.does ⟨.clean cb ce cs, k⟩ num = { C with en := aput C.en C.ce cb { y0 with dirty := false }, ce := aclk C.en C.ce cb, k := k } := by simp [CaM.does, CaM.eff, hg, *])
      | skip
    refine ymv ?_
    refine y (ev_fieldAddr 1 rfl Tryz.underlying101 rfl Tryz.sizeOf82) rfl ?_
    refine y (ev_loadN (u := [i64 k.e, i64 k.s, i64 k.t.a, i64 k.t.b, i64 k.t.c, i64 k.t.d]) rfl Tryz.isAgg82 Tryz.sizeOf82 zin rfl rfl) rfl ?_
    refine yni ?_
    refine y (ev_fieldAddr 5 rfl Tryz.underlying84 rfl Tryz.sizeOf82) rfl ?_
    refine ya0 (ac_storeN (vs' := [ptr A.lp, i64 C.bl, i64 C.n, .map (some A.me), .map (some A.mp), i64 k.e, i64 k.s, i64 k.t.a, i64 k.t.b, i64 k.t.c, i64 k.t.d]) rfl rfl (by simp [Value.oneCell']) Tryz.sizeOf82 zrp rfl (by simp) rfl) ?_
    rintro v L' ⟨rfl, rfl⟩
    refine ynil' ?_
    first
      | (exfalso; omega; done)
      | (refine kendv0 Tryz.results49 (L1 := [sc A.p _ 84, so A.me _, so A.mp _] ++ R) zge ?_
         first | exact ⟨_, ⟨rfl, rfl⟩, rfl⟩ | (rw [hD0]; exact ⟨_, ⟨rfl, rfl⟩, rfl⟩))
   ·(try simp only [sH] at h89)
    refine cskip' (kbn (kthn (hK2 _ _ ?_)))
    clear hK2
    refine creg ?_
    first
      | (have hD0 : C.does ⟨.clean cb ce cs, k⟩ num = { C with k := k } := by first | (simp [CaM.does, CaM.eff, hg]; done) | (simp only [CaM.does, CaM.eff, hg]; rw [if_neg (by assumption)]))
      | (have hD0 : C.does ⟨.clean cb ce cs, k⟩ num = { C with en := aput C.en C.ce cb { y0 with dirty := false }, ce := aclk C.en C.ce cb, k := k } := by simp [CaM.does, CaM.eff, hg, *])
      | skip
    refine ymv ?_
    refine y (ev_fieldAddr 1 rfl Tryz.underlying101 rfl Tryz.sizeOf82) rfl ?_
    refine y (ev_loadN (u := [i64 k.e, i64 k.s, i64 k.t.a, i64 k.t.b, i64 k.t.c, i64 k.t.d]) rfl Tryz.isAgg82 Tryz.sizeOf82 zin rfl rfl) rfl ?_
    refine yni ?_
    refine y (ev_fieldAddr 5 rfl Tryz.underlying84 rfl Tryz.sizeOf82) rfl ?_
    refine ya0 (ac_storeN (vs' := [ptr A.lp, i64 C.bl, i64 C.n, .map (some A.me), .map (some A.mp), i64 k.e, i64 k.s, i64 k.t.a, i64 k.t.b, i64 k.t.c, i64 k.t.d]) rfl rfl (by simp [Value.oneCell']) Tryz.sizeOf82 zrp rfl (by simp) rfl) ?_
    rintro v L' ⟨rfl, rfl⟩
    refine ynil' ?_
    first
      | (exfalso; omega; done)
      | (refine kendv0 Tryz.results49 (L1 := [sc A.p _ 84, so A.me _, so A.mp _] ++ R) zge ?_
         first | exact ⟨_, ⟨rfl, rfl⟩, rfl⟩ | (rw [hD0]; exact ⟨_, ⟨rfl, rfl⟩, rfl⟩))
 ·skip
  refine y (ev_fieldAddr 0 rfl Tryz.underlying101 rfl Tryz.sizeOf20) rfl ?_
  refine y (ev_load rfl Tryz.isAgg20 zin rfl) rfl ?_
  refine ynil' (kthn (hK3 _ _ ?_))
  clear hK3
  refine cblock ?_
  refine cseq ?_; intro K14 hK14
  refine creg ?_
  first
    | refine y (ev_assertY rfl Tryz.underlying89 (by intro q hq; cases hq)) rfl ?_
    | refine y (ev_assertN rfl Tryz.underlying89 (by intro q hq; cases hq) (by decide) Tryz.zeroValue89) rfl ?_
  refine yxt ?_
  refine yxt ?_
  refine ynil' (kthn (hK14 _ _ ?_))
  clear hK14
  refine ccond0 rfl ?_
  refine cseq ?_; intro K15 hK15
  refine creg ?_
  first
    | refine y (ev_assertY rfl Tryz.underlying95 (by intro q hq; cases hq)) rfl ?_
    | refine y (ev_assertN rfl Tryz.underlying95 (by intro q hq; cases hq) (by decide) Tryz.zeroValue95) rfl ?_
  refine yxt ?_
  refine yxt ?_
  refine ynil' (kthn (hK15 _ _ ?_))
  clear hK15
  refine ccond0 rfl ?_
  refine cseq ?_; intro K16 hK16
  refine creg ?_
  first
    | refine y (ev_assertY rfl Tryz.underlying93 (by intro q hq; cases hq)) rfl ?_
    | refine y (ev_assertN rfl Tryz.underlying93 (by intro q hq; cases hq) (by decide) Tryz.zeroValue93) rfl ?_
  refine yxt ?_
  refine yxt ?_
  refine ynil' (kthn (hK16 _ _ ?_))
  clear hK16
  refine ccond1 rfl ?_
  refine cseq ?_; intro K17 hK17
  refine creg ?_
  refine ya (ac_alloc Tryz.zeroValue93 rfl) rfl ?_
  rintro v L' ⟨b10, rfl, rfl⟩
  refine ya0 (ac_storeAll rfl rfl (by first | exact bytesV_one _ | (simp [Value.oneCell']; done) | (simp only [List.forall_mem_cons, List.not_mem_nil, false_implies, implies_true, svVal_one, and_true, true_and, and_self]; first | done | simp [Value.oneCell'])) Tryz.sizeOf93 zrp (by first | rfl | assumption | (simp [*]; done) | (simp [*]; omega)) (by first | rfl | assumption | (simp [*]; done) | (simp [*]; omega))) ?_
  rintro v L' ⟨rfl, rfl⟩
  refine ynil' (kthn (hK17 _ _ ?_))
  clear hK17
  refine cseq ?_; intro K18 hK18
  refine cdraw 6 [(0, true), (1, true), (2, true), (3, true), (4, true), (5, true)] (_) Tryz.mixed (by kernel_rfl) .refl ?_
  refine hr rfl (ev_move rfl) rfl ?_
  refine hr rfl (ev_nil rfl) rfl ?_
  refine hr rfl (ev_fieldAddr 3 rfl Tryz.underlying84 rfl Tryz.sizeOf29) rfl ?_
  refine hr rfl (ev_load rfl Tryz.isAgg29 zin rfl) rfl ?_
  refine hr rfl (ev_fieldAddr 0 rfl Tryz.underlying93 rfl Tryz.sizeOf3) rfl ?_
  refine hr rfl (ev_load rfl Tryz.isAgg3 zin rfl) rfl ?_
  refine hnil ?_
  refine ya0 (ac_delete rfl rfl Tryz.underlying29 Tryz.underlying3 rfl zrp) ?_
  rintro v L' ⟨rfl, rfl⟩
  rw [akv_del]
  refine hnoP' (kthn (hK18 _ _ ?_))
  clear hK18
  refine cdraw 6 [(0, true), (1, true), (2, true), (3, true), (4, true), (5, true)] (_) Tryz.mixed (by kernel_rfl) .refl ?_
  refine hr rfl (ev_move rfl) rfl ?_
  refine hr rfl (ev_nil rfl) rfl ?_
  refine hr rfl (ev_fieldAddr 4 rfl Tryz.underlying84 rfl Tryz.sizeOf80) rfl ?_
  refine hr rfl (ev_load rfl Tryz.isAgg80 zin rfl) rfl ?_
  refine hr rfl (ev_fieldAddr 0 rfl Tryz.underlying93 rfl Tryz.sizeOf3) rfl ?_
  refine hr rfl (ev_load rfl Tryz.isAgg3 zin rfl) rfl ?_
  refine hnil ?_
  refine ya0 (ac_delete rfl rfl Tryz.underlying80 Tryz.underlying3 rfl zrp) ?_
  rintro v L' ⟨rfl, rfl⟩
  rw [akv_del]
  refine hnoP' (kbn (kthn (hK2 _ _ ?_)))
  clear hK2
  refine creg ?_
  first
    | (have hD0 : C.does ⟨.clean cb ce cs, k⟩ num = { C with k := k } := by first | (simp [CaM.does, CaM.eff, hg]; done) | (simp only [CaM.does, CaM.eff, hg]; rw [if_neg (by assumption)]))
    | (have hD0 : C.does ⟨.clean cb ce cs, k⟩ num = { C with en := aput C.en C.ce cb { y0 with dirty := false }, ce := aclk C.en C.ce cb, k := k } := by simp [CaM.does, CaM.eff, hg, *])
    | skip
  refine ymv ?_
  refine y (ev_fieldAddr 1 rfl Tryz.underlying101 rfl Tryz.sizeOf82) rfl ?_
  refine y (ev_loadN (u := [i64 k.e, i64 k.s, i64 k.t.a, i64 k.t.b, i64 k.t.c, i64 k.t.d]) rfl Tryz.isAgg82 Tryz.sizeOf82 zin rfl rfl) rfl ?_
  refine yni ?_
  refine y (ev_fieldAddr 5 rfl Tryz.underlying84 rfl Tryz.sizeOf82) rfl ?_
  refine ya0 (ac_storeN (vs' := [ptr A.lp, i64 C.bl, i64 C.n, .map (some A.me), .map (some A.mp), i64 k.e, i64 k.s, i64 k.t.a, i64 k.t.b, i64 k.t.c, i64 k.t.d]) rfl rfl (by simp [Value.oneCell']) Tryz.sizeOf82 zrp rfl (by simp) rfl) ?_
  rintro v L' ⟨rfl, rfl⟩
  refine ynil' ?_
  first
    | (exfalso; omega; done)
    | (refine kendv0 Tryz.results49 (L1 := [sc A.p _ 84, so A.me _, so A.mp _] ++ R) zge ?_
       first | exact ⟨_, ⟨rfl, rfl⟩, rfl⟩ | (rw [hD0]; exact ⟨_, ⟨rfl, rfl⟩, rfl⟩))
 ·skip
  refine y (ev_fieldAddr 0 rfl Tryz.underlying101 rfl Tryz.sizeOf20) rfl ?_
  refine y (ev_load rfl Tryz.isAgg20 zin rfl) rfl ?_
  refine ynil' (kthn (hK3 _ _ ?_))
  clear hK3
  refine cblock ?_
  refine cseq ?_; intro K19 hK19
  refine creg ?_
  first
    | refine y (ev_assertY rfl Tryz.underlying89 (by intro q hq; cases hq)) rfl ?_
    | refine y (ev_assertN rfl Tryz.underlying89 (by intro q hq; cases hq) (by decide) Tryz.zeroValue89) rfl ?_
  refine yxt ?_
  refine yxt ?_
  refine ynil' (kthn (hK19 _ _ ?_))
  clear hK19
  refine ccond0 rfl ?_
  refine cseq ?_; intro K20 hK20
  refine creg ?_
  first
    | refine y (ev_assertY rfl Tryz.underlying95 (by intro q hq; cases hq)) rfl ?_
    | refine y (ev_assertN rfl Tryz.underlying95 (by intro q hq; cases hq) (by decide) Tryz.zeroValue95) rfl ?_
  refine yxt ?_
  refine yxt ?_
  refine ynil' (kthn (hK20 _ _ ?_))
  clear hK20
  refine ccond0 rfl ?_
  refine cseq ?_; intro K21 hK21
  refine creg ?_
  first
    | refine y (ev_assertY rfl Tryz.underlying93 (by intro q hq; cases hq)) rfl ?_
    | refine y (ev_assertN rfl Tryz.underlying93 (by intro q hq; cases hq) (by decide) Tryz.zeroValue93) rfl ?_
  refine yxt ?_
  refine yxt ?_
  refine ynil' (kthn (hK21 _ _ ?_))
  clear hK21
  refine ccond0 rfl ?_
  refine cskip' (kbn (kthn (hK2 _ _ ?_)))
  clear hK2
  refine creg ?_
  first
    | (have hD0 : C.does ⟨.clean cb ce cs, k⟩ num = { C with k := k } := by first | (simp [CaM.does, CaM.eff, hg]; done) | (simp only [CaM.does, CaM.eff, hg]; rw [if_neg (by assumption)]))
    | (have hD0 : C.does ⟨.clean cb ce cs, k⟩ num = { C with en := aput C.en C.ce cb { y0 with dirty := false }, ce := aclk C.en C.ce cb, k := k } := by simp [CaM.does, CaM.eff, hg, *])
    | skip
  refine ymv ?_
  refine y (ev_fieldAddr 1 rfl Tryz.underlying101 rfl Tryz.sizeOf82) rfl ?_
  refine y (ev_loadN (u := [i64 k.e, i64 k.s, i64 k.t.a, i64 k.t.b, i64 k.t.c, i64 k.t.d]) rfl Tryz.isAgg82 Tryz.sizeOf82 zin rfl rfl) rfl ?_
  refine yni ?_
  refine y (ev_fieldAddr 5 rfl Tryz.underlying84 rfl Tryz.sizeOf82) rfl ?_
  refine ya0 (ac_storeN (vs' := [ptr A.lp, i64 C.bl, i64 C.n, .map (some A.me), .map (some A.mp), i64 k.e, i64 k.s, i64 k.t.a, i64 k.t.b, i64 k.t.c, i64 k.t.d]) rfl rfl (by simp [Value.oneCell']) Tryz.sizeOf82 zrp rfl (by simp) rfl) ?_
  rintro v L' ⟨rfl, rfl⟩
  refine ynil' ?_
  first
    | (exfalso; omega; done)
    | (refine kendv0 Tryz.results49 (L1 := [sc A.p _ 84, so A.me _, so A.mp _] ++ R) zge ?_
       first | exact ⟨_, ⟨rfl, rfl⟩, rfl⟩ | (rw [hD0]; exact ⟨_, ⟨rfl, rfl⟩, rfl⟩))
end W
end Go.Proofs
