/- A part of the proof: contracts and plain lemmas, each without conditions beyond those that it names. -/
import Derived.Test.YtediodfmkbfomaaGreatC8
set_option linter.unusedVariables false
set_option linter.unusedSimpArgs false
set_option linter.constructorNameAsVariable false
namespace Go.Proofs
open Go Go.Sl
namespace W
set_option linter.unusedVariables false
theorem kCome [Env] {R : List Seg} {A : CaA} {q : Q3} {sl : Sv} {C : CaM} {D : Dev} {w : WhatM} {k : KeptM} (hC : C.ok D) (hs : itOk sl C.l) (hw : CrecM.ok C.bl ⟨w, k⟩) :
   Con Tryz.prog 43 [ptr A.p, WhatM.val w, keptV k] [caP A C, enS A C, puS A C, lgS A q sl C, dev q D] R (KC A q C (C.come D ⟨w, k⟩)) := by
 have hcm : C.come D ⟨w, k⟩ = if (C.make D).1 ≠ 0 then C.make D else (C.make D).2.1.add (C.make D).2.2 ⟨w, k⟩ := rfl
 have hmo : (C.make D).2.1.ok (C.make D).2.2 := CaM.ok.mkF C.n hC
 have hmb : (C.make D).2.1.bl = C.bl := (CaM.mkF_bl _ _ _).1
 refine con_enter Tryz.func43 Tryz.ntmps43 rfl rfl ?_
 refine cseq ?_; intro K1 hK1
 refine creg ?_
 refine ya (ac_box rfl rfl) rfl ?_
 rintro v L' ⟨b5, rfl, rfl⟩
 refine yas ?_
 refine ynil' (kthn (hK1 _ _ ?_))
 clear hK1
 refine cseq ?_; intro K2 hK2
 refine cseq ?_; intro K3 hK3
 refine creg ?_
 refine ymv ?_
 refine ycall (kMake (C0 := C) (sl0 := sl) (q := q) (D0 := D) ?cok4 ?its4) rfl Tryz.call55 ztk rfl ?_
 case cok4 => exact hC
 case its4 => exact hs
 rintro v L' ⟨sl9, rfl, ok9, rfl⟩
 generalize C.make D = m at *
 obtain ⟨em, C1, D1⟩ := m
 dsimp only at *
 refine yas ?_
 refine ynil' (kthn (hK3 _ _ ?_))
 clear hK3
 refine cseq ?_; intro K4 hK4
 refine creg ?_
 refine ymv ?_
 refine y (ev_neq rfl rfl) rfl ?_
 refine ynil' (kthn (hK4 _ _ ?_))
 clear hK4
 refine ccond rfl (fun h8 => ?_) (fun h8 => ?_)
 ·(try simp only [sH] at h8)
  rw [if_pos h8] at hcm
  refine cseq ?_; intro K5 hK5
  refine creg ?_
  refine ymv ?_
  refine yas ?_
  refine ynil' (kthn (hK5 _ _ ?_))
  clear hK5
  refine cret (kthr ?_)
  first
    | (exfalso; omega; done)
    | (refine kretv Tryz.results43 rfl (L1 := [caP A C1, enS A C1, puS A C1, lgS A q sl9 C1, dev q D1] ++ R) zge ?_
       rw [hcm]; exact ⟨_, ⟨sl9, rfl, ok9, rfl⟩, rfl⟩)
 ·(try simp only [sH] at h8)
  rw [if_neg (fun hz => hz h8)] at hcm
  refine cskip' (kthn (hK2 _ _ ?_))
  clear hK2
  refine cseq ?_; intro K6 hK6
  refine creg ?_
  refine ymv ?_
  refine ymv ?_
  refine y (ev_loadN (u := [i64 k.e, i64 k.s, i64 k.t.a, i64 k.t.b, i64 k.t.c, i64 k.t.d]) rfl Tryz.isAgg82 Tryz.sizeOf82 zin rfl rfl) rfl ?_
  refine ycall (kAdd (C := C1) (sl := sl9) (q := q) (D := D1) (w := w) (k := k) ?cok14 ?its14 ?rok14) rfl Tryz.call45 ztk rfl ?_
  case cok14 => exact hmo
  case its14 => exact ok9
  case rok14 => rw [hmb]; exact hw
  rintro v L' ⟨sl16, rfl, ok16, rfl⟩
  refine yas ?_
  refine ynil' (kthn (hK6 _ _ ?_))
  clear hK6
  refine cret ?_
  first
    | (exfalso; omega; done)
    | (refine kretv Tryz.results43 rfl (L1 := [caP A (C1.add D1 ⟨w, k⟩).2.1, enS A (C1.add D1 ⟨w, k⟩).2.1, puS A (C1.add D1 ⟨w, k⟩).2.1, lgS A q sl16 (C1.add D1 ⟨w, k⟩).2.1, dev q (C1.add D1 ⟨w, k⟩).2.2] ++ R) zge ?_
       rw [hcm]; exact ⟨_, ⟨sl16, rfl, ok16, rfl⟩, rfl⟩)
theorem kSpare [Env] {R : List Seg} {A : CaA} {C : CaM} (hb : C.bl ≤ 32) :
   Con Tryz.prog 44 [ptr A.p] [caP A C, enS A C] R (Is (.tuple #[i64 C.spare.1, .bool C.spare.2]) [caP A C, enS A C]) := by
 have hal : C.all.length ≤ C.bl := allTo_len C C.bl
 refine con_enter Tryz.func44 Tryz.ntmps44 rfl rfl ?_
 refine cseq ?_; intro K1 hK1
 refine creg ?_
 refine yas ?_
 refine yas ?_
 refine ynil' (kthn (hK1 _ _ ?_))
 clear hK1
 refine cseq ?_; intro K2 hK2
 refine creg ?_
 refine yas ?_
 refine yas ?_
 refine ynil' (kthn (hK2 _ _ ?_))
 clear hK2
 refine cseq ?_; intro K3 hK3
 refine cseq ?_; intro K4 hK4
 refine creg ?_
 refine ymv ?_
 refine ycall (kAll ?bl21) rfl Tryz.call17 ztk rfl ?_
 case bl21 => exact hb
 rintro v L' ⟨s9, rfl, ok9, rfl⟩
 first
   | refine y (ev_len rfl Tryz.underlying41) rfl ?_
   | refine y (ev_lenSv rfl Tryz.underlying41 (by assumption)) rfl ?_
   | refine y (ev_lenV rfl Tryz.underlying41 (RdV.lenVal (by assumption))) rfl ?_
   | refine y (ev_lenV rfl Tryz.underlying41 (RdB.lenVal (by assumption))) rfl ?_
 refine ymv ?_
 refine ynil' (kthn (hK4 _ _ ?_))
 clear hK4
 have hJ1 : ∀ x : Nat × Int × Bool, ((x.1 ≤ C.all.length ∧ (C.all.take x.1).foldl (spareS C) (0, false) = x.2) ∧ (C.spare = x.2)) → Sk 39 K3 ([(11, i64 x.1), (10, i64 C.all.length), (9, svVal s9 C.all.length), (4, i64 x.2.1), (5, .bool x.2.2), (0, ptr A.p)]) ([svSeg s9 34 (entsV C.all), caP A C, enS A C] ++ R) := by
  rintro ⟨k, at0, fd⟩ ⟨hI1, hX1⟩
  refine hK3 _ _ ?_
  obtain ⟨hk1, hk2⟩ := hI1; dsimp only at hk1 hk2 ⊢; have hv : RdV [svSeg s9 34 (entsV C.all)] (svVal s9 C.all.length) C.all.length (entsV C.all) := rdV_sv .z ok9
  rw [hX1]
  refine cseq ?_; intro K5 hK5
  refine creg ?_
  refine ymv ?_
  refine ymv ?_
  refine yas ?_
  refine yas ?_
  refine ynil' (kthn (hK5 _ _ ?_))
  clear hK5
  refine cret ?_
  first
    | (exfalso; omega; done)
    | (refine kretv2 Tryz.results44 rfl rfl (L1 := [caP A C, enS A C] ++ R) zge ?_
       exact ⟨_, ⟨by rfl, rfl⟩, by rfl⟩)
 clear hK3
 refine cblock ?_
 refine cloop (A := Nat × Int × Bool) (fun x => [(11, i64 x.1), (10, i64 C.all.length), (9, svVal s9 C.all.length), (4, i64 x.2.1), (5, .bool x.2.2), (0, ptr A.p)]) (fun x => [svSeg s9 34 (entsV C.all), caP A C, enS A C] ++ R) (fun x => x.1 ≤ C.all.length ∧ (C.all.take x.1).foldl (spareS C) (0, false) = x.2) (fun x => C.all.length - x.1) ((0, 0, false)) ?_ zsub zge ?_
 · exact ⟨Nat.zero_le _, rfl⟩
 rintro ⟨k, at0, fd⟩ hI1 KL1 hL1
 have hI1o := hI1
 obtain ⟨hk1, hk2⟩ := hI1; dsimp only at hk1 hk2 ⊢; have hv : RdV [svSeg s9 34 (entsV C.all)] (svVal s9 C.all.length) C.all.length (entsV C.all) := rdV_sv .z ok9
 refine cseq ?_; intro K6 hK6
 refine creg ?_
 refine y (ev_lss rfl rfl) rfl ?_
 refine ynil' (kthn (hK6 _ _ ?_))
 clear hK6
 refine cseq ?_; intro K7 hK7
 refine ccond rfl (fun h29 => ?_) (fun h29 => ?_)
 ·(try simp only [sH] at h29)
  obtain ⟨x0, hx0⟩ : ∃ x0, C.all[k]? = some x0 := ⟨_, List.getElem?_eq_getElem (by omega)⟩
  have hnx : (C.all.take (k + 1)).foldl (spareS C) (0, false) = spareS C (at0, fd) x0 := by rw [take_snoc hx0, List.foldl_append, hk2]; rfl
  refine cskip' (kthn (hK7 _ _ ?_))
  clear hK7
  refine cseq ?_; intro K8 hK8
  have hJr7 : ∀ x : Int × Bool, (spareS C (at0, fd) x0 = x) → Sk 39 K8 ([(11, i64 k), (10, i64 C.all.length), (9, svVal s9 C.all.length), (4, i64 x.1), (5, .bool x.2), (0, ptr A.p)]) ([svSeg s9 34 (entsV C.all), caP A C, enS A C] ++ R) := by
   rintro ⟨at1, fd1⟩ hIr7
   refine hK8 _ _ ?_
   rw [hIr7] at hnx
   refine creg ?_
   refine y (ev_add rfl rfl) rfl ?_
   rw [show IntKind.i64.wrap ((k:Int) + 1) = ((k+1 : Nat) : Int) by rw [wr (by omega) (by omega)]; rfl]
   refine ymv ?_
   refine ynil' (kthn ?_)
   exact hL1 ((k + 1, at1, fd1)) (⟨by dsimp only; omega, hnx⟩) (by dsimp only; omega) _ _ zsub zge
  clear hK8
  refine cblock ?_
  refine cseq ?_; intro K9 hK9
  refine creg ?_
  refine y (ev_ixV hv rfl rfl Tryz.underlying41 Tryz.sizeOf34 (by omega) (by omega)) rfl ?_
  refine y (ev_loadNV (us := [i64 x0.blk, i64 x0.ve, i64 x0.vs, str x0.data, .bool x0.dirty, i64 x0.cl, i64 x0.n]) (k * 7) hv zge rfl Tryz.isAgg34 Tryz.sizeOf34 (by first | rfl | (simp; done)) (entsV_get hx0) rfl) rfl ?_
  refine ya (ac_alloc Tryz.zeroValue34 rfl) rfl ?_
  rintro v L' ⟨b7, rfl, rfl⟩
  refine ya0 (ac_storeAll rfl rfl (ent_one _) Tryz.sizeOf34 zrp rfl rfl) ?_
  rintro v L' ⟨rfl, rfl⟩
  refine ynil' (kthn (hK9 _ _ ?_))
  clear hK9
  refine cseq ?_; intro K10 hK10
  refine cdraw 16 [(0, true), (1, true), (2, true), (3, true), (4, true), (5, true), (6, true), (7, true), (8, true), (9, true), (10, true), (11, true), (12, true), (13, true), (14, true), (15, true)] (_) Tryz.mixed (by kernel_rfl) .refl ?_
  refine hr rfl (ev_fieldAddr 4 rfl Tryz.underlying34 rfl Tryz.sizeOf4) rfl ?_
  refine hr rfl (ev_load rfl Tryz.isAgg4 zin rfl) rfl ?_
  refine hr rfl (ev_not rfl) rfl ?_
  refine hr rfl (ev_move rfl) rfl ?_
  refine hsplit 18 rfl (fun h40 => ?_) (fun h40 => ?_)
  ·(try simp only [sH] at h40)
   refine hr1 rfl rfl rfl (ev_move rfl) rfl ?_
   refine hr1 rfl rfl rfl (ev_not rfl) rfl ?_
   refine hr1 rfl rfl rfl (ev_move rfl) rfl ?_
   refine hsplit 21 rfl (fun h44 => ?_) (fun h44 => ?_)
   ·(try simp only [sH] at h44)
    have hsel : spareS C (at0, fd) x0 = (x0.blk, true) := by unfold spareS; simp_all
    refine hr0 rfl rfl rfl rfl rfl ?_
    refine hr0 rfl rfl rfl rfl rfl ?_
    refine hr0 rfl rfl rfl rfl rfl ?_
    refine hr0 rfl rfl rfl rfl rfl ?_
    refine hr0 rfl rfl rfl rfl rfl ?_
    refine hr0 rfl rfl rfl rfl rfl ?_
    refine hr0 rfl rfl rfl rfl rfl ?_
    refine hr0 rfl rfl rfl rfl rfl ?_
    refine hr0 rfl rfl rfl rfl rfl ?_
    refine hnil ?_
    refine ygz ?_
    refine ygo ?_
    refine ypa ?_
    refine ypa ?_
    refine hnoP' (kthn (hK10 _ _ ?_))
    clear hK10
    refine ccond1 rfl ?_
    refine creg ?_
    refine y (ev_fieldAddr 0 rfl Tryz.underlying34 rfl Tryz.sizeOf3) rfl ?_
    refine y (ev_load rfl Tryz.isAgg3 zin rfl) rfl ?_
    refine yas ?_
    refine yas ?_
    refine ynil' (kbn (kthn ?_))
    first | exact ksub zsub zge (hJr7 (x0.blk, true) hsel) | exact ksub zsub zge (hJr7 (at0, fd) hsk)
   ·(try simp only [sH] at h44)
    refine hr1 rfl rfl rfl (ev_move rfl) rfl ?_
    refine hr1 rfl rfl rfl (ev_nil rfl) rfl ?_
    refine hr1 rfl rfl rfl (ev_fieldAddr 3 rfl Tryz.underlying84 rfl Tryz.sizeOf29) rfl ?_
    refine hr1 rfl rfl rfl (ev_load rfl Tryz.isAgg29 zin rfl) rfl ?_
    refine hr1 rfl rfl rfl (ev_move rfl) rfl ?_
    refine hr1 rfl rfl rfl (ev_lookup (z := entV .zero) (kv := akv entV C.en) rfl rfl Tryz.underlying29 Tryz.underlying3 Tryz.zeroValue34 zin) rfl ?_
    rw [akv_get, lk_entV]
    refine hr1 rfl rfl rfl (ev_fieldN (u := [i64 ((aget C.en at0).getD .zero).ve, i64 ((aget C.en at0).getD .zero).vs]) 1 rfl Tryz.underlying34 rfl Tryz.isAgg31 Tryz.sizeOf31 rfl) rfl ?_
    refine hr1 rfl rfl rfl (ev_fieldAddr 1 rfl Tryz.underlying34 rfl Tryz.sizeOf31) rfl ?_
    refine hr1 rfl rfl rfl (ev_loadN (u := [i64 x0.ve, i64 x0.vs]) rfl Tryz.isAgg31 Tryz.sizeOf31 zin rfl rfl) rfl ?_
    refine hnil ?_
    refine ygo ?_
    refine ycall (kAbove) rfl Tryz.call39 ztk rfl ?_
    rintro v L' ⟨rfl, rfl⟩
    refine ygo ?_
    refine ypb ?_
    refine ypa ?_
    refine hnoP' (kthn (hK10 _ _ ?_))
    clear hK10
    refine ccond rfl (fun h63 => ?_) (fun h63 => ?_)
    ·(try simp only [sH] at h63)
     have hsel : spareS C (at0, fd) x0 = (x0.blk, true) := by unfold spareS; simp_all
     refine creg ?_
     refine y (ev_fieldAddr 0 rfl Tryz.underlying34 rfl Tryz.sizeOf3) rfl ?_
     refine y (ev_load rfl Tryz.isAgg3 zin rfl) rfl ?_
     refine yas ?_
     refine yas ?_
     refine ynil' (kbn (kthn ?_))
     first | exact ksub zsub zge (hJr7 (x0.blk, true) hsel) | exact ksub zsub zge (hJr7 (at0, fd) hsk)
    ·(try simp only [sH] at h63)
     have hsk : spareS C (at0, fd) x0 = (at0, fd) := by unfold spareS; simp_all
     refine cskip' (kbn (kthn ?_))
     first | exact ksub zsub zge (hJr7 (x0.blk, true) hsel) | exact ksub zsub zge (hJr7 (at0, fd) hsk)
  ·(try simp only [sH] at h40)
   have hsk : spareS C (at0, fd) x0 = (at0, fd) := by unfold spareS; simp [h40]
   refine hr0 rfl rfl rfl rfl rfl ?_
   refine hr0 rfl rfl rfl rfl rfl ?_
   refine hr0 rfl rfl rfl rfl rfl ?_
   refine hr0u rfl rfl rfl rfl ?_
   refine hr0u rfl rfl rfl rfl ?_
   refine hr0u rfl rfl rfl rfl ?_
   refine hr0u rfl rfl rfl rfl ?_
   refine hr0u rfl rfl rfl rfl ?_
   refine hr0u rfl rfl rfl rfl ?_
   refine hr0u rfl rfl rfl rfl ?_
   refine hr0u rfl rfl rfl rfl ?_
   refine hr0u rfl rfl rfl rfl ?_
   refine hnil ?_
   refine yg0u rfl rfl rfl ?_
   refine ygz ?_
   refine ypb ?_
   refine hnoP' (kthn (hK10 _ _ ?_))
   clear hK10
   refine ccond0 rfl ?_
   refine cskip' (kbn (kthn ?_))
   first | exact ksub zsub zge (hJr7 (x0.blk, true) hsel) | exact ksub zsub zge (hJr7 (at0, fd) hsk)
 ·(try simp only [sH] at h29)
  refine cexit (kthx (kthx (kbx (kthn ?_))))
  exact ksub zsub zge (hJ1 ⟨k, at0, fd⟩ ⟨hI1o, by have h1 := hk2; rw [List.take_of_length_le (by omega)] at h1; exact h1⟩)
theorem kSync [Env] {R : List Seg} {A : CaA} {q : Q3} {sl : Sv} {C : CaM} {D : Dev} (hD : D.ok) : Con Tryz.prog 36 [ptr A.p] [caP A C, lgS A q sl C, dev q D] R (Is (i64 D.barrier.1) [caP A C, lgS A q sl C, dev q D.barrier.2]) := by
 refine con_enter Tryz.func36 Tryz.ntmps36 rfl rfl ?_
 unfold caP caC lgS
 refine cseq ?_; intro K1 hK1
 refine creg ?_
 refine yas ?_
 refine ynil' (kthn (hK1 _ _ ?_))
 clear hK1
 refine cseq ?_; intro K2 hK2
 refine creg ?_
 refine ymv ?_
 refine yni ?_
 refine y (ev_fieldAddr 0 rfl Tryz.underlying84 rfl Tryz.sizeOf79) rfl ?_
 refine y (ev_load rfl Tryz.isAgg79 zin rfl) rfl ?_
 refine ycall (bSync ?dok74) rfl Tryz.call54 ztk rfl ?_
 case dok74 => exact hD
 rintro v L' ⟨rfl, rfl⟩
 refine yas ?_
 refine ynil' (kthn (hK2 _ _ ?_))
 clear hK2
 refine cret ?_
 first
   | (exfalso; omega; done)
   | (refine kretv Tryz.results36 rfl (L1 := [sc A.p _ 84, logG _ _ _ _ _, dev q _] ++ R) zge ?_
      exact ⟨_, ⟨rfl, rfl⟩, rfl⟩)
end W
end Go.Proofs
