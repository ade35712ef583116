/- A part of the proof: contracts and plain lemmas, each without conditions beyond those that it names. -/
import Derived.Test.YtediodfmkbfomaaGreatL3
set_option linter.unusedVariables false
set_option linter.unusedSimpArgs false
set_option linter.constructorNameAsVariable false
namespace Go.Proofs
open Go Go.Sl
namespace W
set_option linter.unusedVariables false
theorem lTrim [Env] {R : List Seg} {l c : Nat} {q : Q3} {sl : Sv} {L : LogM} {D : Dev} {k : Int} (hL : L.ok D) (hs : itOk sl L) :
   Con Tryz.prog 73 [ptr l, i64 k] [logP l c q sl L, itS sl L, celP c q L.c, dev q D] R
     (fun u L' => ∃ sl', u = i64 (L.trim D k).1 ∧ itOk sl' (L.trim D k).2.1 ∧ L' = [logP l c q sl' (L.trim D k).2.1, itS sl' (L.trim D k).2.1, celP c q (L.trim D k).2.1.c, dev q (L.trim D k).2.2]) := by
 have hn5 := LogM.n_le hL
 have hl5 := items_len hL
 have htm := hL.time
 have hhd := hL.head
 have htl := hL.tail
 have htd : L.tail = L.head + L.l.length := rfl
 have hrd : RdV [itS sl L] (svVal sl L.l.length) L.l.length (itemsV L.l) := rdV_sv .z hs
 have hb : L.ok D.barrier.2 := LogM.bar_ok hL
 refine con_enter Tryz.func73 Tryz.ntmps73 rfl rfl ?_
 refine cseq ?_; intro K1 hK1
 refine creg ?_
 refine yas ?_
 refine ynil' (kthn (hK1 _ _ ?_))
 clear hK1
 refine cseq ?_; intro K2 hK2
 refine cseq ?_; intro K3 hK3
 refine cdraw 7 [(0, true), (1, true), (2, true), (3, true), (4, true), (5, true), (6, false)] (_) Tryz.mixed (by kernel_rfl) .refl ?_
 refine hr rfl (ev_move rfl) rfl ?_
 refine hr rfl (ev_move rfl) rfl ?_
 refine hr rfl (ev_nil rfl) rfl ?_
 refine hr rfl (ev_fieldAddr 4 rfl Tryz.underlying124 rfl Tryz.sizeOf2) rfl ?_
 refine hr rfl (ev_load rfl Tryz.isAgg2 zin rfl) rfl ?_
 refine hr rfl (ev_move rfl) rfl ?_
 refine hcall rfl (lTail ?qz8 ?qa8 ?qb8 ?qc8) rfl Tryz.call56 ztk rfl ?_
 case qz8 => exact hs
 case qa8 => omega
 case qb8 => omega
 case qc8 => omega
 rintro v L' ⟨rfl, rfl⟩; refine ⟨zge, ?_⟩
 refine hnil ?_
 refine ycall (lWithin) rfl Tryz.call63 ztk rfl ?_
 rintro v L' ⟨rfl, rfl⟩
 refine y (ev_not rfl) rfl ?_
 refine hnoP' (kthn (hK3 _ _ ?_))
 clear hK3
 refine ccond rfl (fun h11 => ?_) (fun h11 => ?_)
 ·(try simp only [sH] at h11)
  have htr : L.trim D k = (1, L, D) := by unfold LogM.trim; rw [if_pos (by simpa using h11)]
  refine cseq ?_; intro K4 hK4
  refine creg ?_
  refine yas ?_
  refine ynil' (kthn (hK4 _ _ ?_))
  clear hK4
  refine cret (kthr ?_)
  first
    | (exfalso; omega; done)
    | (refine kretv Tryz.results73 rfl (L1 := [logP l c q _ _, itS _ _, celP c q _, dev q _] ++ R) zge ?_
       rw [htr]; exact ⟨_, ⟨sl, rfl, hs, rfl⟩, rfl⟩)
 ·(try simp only [sH] at h11)
  have hwi : within3 k L.head L.tail = true := by simpa using h11
  obtain ⟨hk0, hk1⟩ := within3_iff.1 hwi
  have hlo := leastAt_ok hL hk1
  refine cskip' (kthn (hK2 _ _ ?_))
  clear hK2
  refine cseq ?_; intro K5 hK5
  refine cseq ?_; intro K6 hK6
  refine creg ?_
  refine ymv ?_
  refine ycall (lSync ?ok14) rfl Tryz.call54 ztk rfl ?_
  case ok14 => exact hL.d
  rintro v L' ⟨rfl, rfl⟩
  refine yas ?_
  refine ynil' (kthn (hK6 _ _ ?_))
  clear hK6
  refine cseq ?_; intro K7 hK7
  refine creg ?_
  refine ymv ?_
  refine y (ev_neq rfl rfl) rfl ?_
  refine ynil' (kthn (hK7 _ _ ?_))
  clear hK7
  refine ccond rfl (fun h18 => ?_) (fun h18 => ?_)
  ·(try simp only [sH] at h18)
   have htr : L.trim D k = (D.barrier.1, L, D.barrier.2) := by unfold LogM.trim; rw [if_neg (by rw [hwi]; decide), if_pos h18]
   refine cseq ?_; intro K8 hK8
   refine creg ?_
   refine ymv ?_
   refine yas ?_
   refine ynil' (kthn (hK8 _ _ ?_))
   clear hK8
   refine cret (kthr ?_)
   first
     | (exfalso; omega; done)
     | (refine kretv Tryz.results73 rfl (L1 := [logP l c q _ _, itS _ _, celP c q _, dev q _] ++ R) zge ?_
        rw [htr]; exact ⟨_, ⟨sl, rfl, hs, rfl⟩, rfl⟩)
  ·(try simp only [sH] at h18)
   obtain ⟨w, hw⟩ : ∃ w, L.c.put D.barrier.2 (recB (headR k L.time (L.leastAt k))) = w := ⟨_, rfl⟩
   have hput : L.put D.barrier.2 k (L.leastAt k) = (w.1, { L with c := w.2.1 }, w.2.2) := by unfold LogM.put; rw [hw]
   have htr : L.trim D k = (w.1, (if w.1 = 0 then ({ L with c := w.2.1 } : LogM).cut k else { L with c := w.2.1 }), w.2.2) := by unfold LogM.trim; rw [if_neg (by rw [hwi]; decide), if_neg (by omega), hput]
   refine cskip' (kthn (hK5 _ _ ?_))
   clear hK5
   refine cseq ?_; intro K9 hK9
   refine creg ?_
   refine ymv ?_
   refine yni ?_
   refine y (ev_fieldAddr 6 rfl Tryz.underlying124 rfl Tryz.sizeOf2) rfl ?_
   refine y (ev_load rfl Tryz.isAgg2 zin rfl) rfl ?_
   refine yas ?_
   refine ynil' (kthn (hK9 _ _ ?_))
   clear hK9
   refine cseq ?_; intro K10 hK10
   have hJr9 : ∀ x : Unit, (True) → Sk 76 K10 ([(0, ptr l), (1, i64 k), (6, i64 (L.leastAt k))]) ([logP l c q sl L, itS sl L, celP c q L.c, dev q D.barrier.2] ++ R) := by
    rintro x hIr9
    refine hK10 _ _ ?_
    refine cseq ?_; intro K11 hK11
    refine creg ?_
    refine ymv ?_
    refine ymv ?_
    refine ymv ?_
    refine ycall (lPut ?lok29 ?lh29 ?ll29) rfl Tryz.call65 ztk rfl ?_
    case lok29 => exact hb
    case lh29 => omega
    case ll29 => exact hlo
    rintro v L' ⟨rfl, rfl⟩
    rw [hput]
    refine yas ?_
    refine ynil' (kthn (hK11 _ _ ?_))
    clear hK11
    refine cseq ?_; intro K12 hK12
    refine cseq ?_; intro K13 hK13
    refine creg ?_
    refine ymv ?_
    refine y (ev_eql rfl rfl) rfl ?_
    refine ynil' (kthn (hK13 _ _ ?_))
    clear hK13
    refine ccond rfl (fun h33 => ?_) (fun h33 => ?_)
    ·(try simp only [sH] at h33)
     rw [if_pos h33] at htr
     obtain ⟨j, hj⟩ : ∃ j : Nat, k - L.head = j := ⟨(k - L.head).toNat, by omega⟩
     have hdl : (L.l.drop j).length = L.l.length - j := by simp
     have hcut : ({ L with c := w.2.1 } : LogM).cut k = { L with c := w.2.1, l := L.l.drop j, head := k, least := L.leastAt k } := by
       unfold LogM.cut LogM.leastAt; dsimp only; rw [show (k - L.head).toNat = j by omega]
     have hrs := hrd.sl (svCap hs) (s := 2) (lo := j) (hi := L.l.length) (by omega) (Nat.le_refl _) (itemsV_len _)
     rw [itemsV_drop, ← hdl, ← itemsV_len, List.take_length] at hrs
     refine cseq ?_; intro K14 hK14
     refine cdraw 15 [(0, true), (1, true), (2, true), (3, true), (4, true), (5, true), (6, true), (7, true), (8, true), (9, true), (10, true), (11, true), (12, false), (13, true), (14, true)] (_) Tryz.mixed (by kernel_rfl) .refl ?_
     refine hr rfl (ev_move rfl) rfl ?_
     refine hr rfl (ev_move rfl) rfl ?_
     refine hr rfl (ev_nil rfl) rfl ?_
     refine hr rfl (ev_fieldAddr 7 rfl Tryz.underlying124 rfl Tryz.sizeOf122) rfl ?_
     refine hr rfl (ev_load rfl Tryz.isAgg122 zin rfl) rfl ?_
     refine hr rfl (ev_move rfl) rfl ?_
     refine hr rfl (ev_move rfl) rfl ?_
     refine hr rfl (ev_nil rfl) rfl ?_
     refine hr rfl (ev_fieldAddr 4 rfl Tryz.underlying124 rfl Tryz.sizeOf2) rfl ?_
     refine hr rfl (ev_load rfl Tryz.isAgg2 zin rfl) rfl ?_
     refine hr rfl (ev_sub rfl rfl) rfl ?_
     rw [wr (by omega) (by omega), hj]
     refine hr rfl (ev_slLV hrd rfl rfl Tryz.underlying122 Tryz.sizeOf132 (by omega) (by omega)) rfl ?_
     refine hcall rfl (lClone (xs := L.l.drop j) ?ci46 ?cj46) rfl Tryz.call90 ztk rfl ?_
     case ci46 => exact hrs.mono zge
     case cj46 => omega
     rintro v L' ⟨s64, rfl, ok64, rfl⟩; refine ⟨zge, ?_⟩
     refine hr rfl (ev_nil rfl) rfl ?_
     refine hr rfl (ev_fieldAddr 7 rfl Tryz.underlying124 rfl Tryz.sizeOf122) rfl ?_
     refine hnil ?_
     refine ya0 (ac_store rfl rfl (by first | rfl | exact svVal_one _ _ | assumption) Tryz.sizeOf122 zrp rfl rfl) ?_
     rintro v L' ⟨rfl, rfl⟩
     refine hnoP' (kthn (hK14 _ _ ?_))
     clear hK14
     refine creg ?_
     refine ymv ?_
     refine ymv ?_
     refine ymv ?_
     refine ymv ?_
     refine yni ?_
     refine y (ev_fieldAddr 4 rfl Tryz.underlying124 rfl Tryz.sizeOf2) rfl ?_
     refine ya0 (ac_store rfl rfl (by first | rfl | exact svVal_one _ _ | assumption) Tryz.sizeOf2 zrp rfl rfl) ?_
     rintro v L' ⟨rfl, rfl⟩
     refine yni ?_
     refine y (ev_fieldAddr 6 rfl Tryz.underlying124 rfl Tryz.sizeOf2) rfl ?_
     refine ya0 (ac_store rfl rfl (by first | rfl | exact svVal_one _ _ | assumption) Tryz.sizeOf2 zrp rfl rfl) ?_
     rintro v L' ⟨rfl, rfl⟩
     refine ynil' (kthn (hK12 _ _ ?_))
     clear hK12
     refine cseq ?_; intro K15 hK15
     refine creg ?_
     refine ymv ?_
     refine yas ?_
     refine ynil' (kthn (hK15 _ _ ?_))
     clear hK15
     refine cret ?_
     first
       | (exfalso; omega; done)
       | (refine kretv Tryz.results73 rfl (L1 := [sc l _ 124, svSeg s64 _ _, celP c q _, dev q w.2.2] ++ R) zge ?_
          rw [htr, hcut]; exact ⟨_, ⟨s64, rfl, ok64, rfl⟩, rfl⟩)
       | (refine kretv Tryz.results73 rfl (L1 := [logP l c q sl L, itS sl L, celP c q _, dev q w.2.2] ++ R) zge ?_
          rw [htr]; exact ⟨_, ⟨sl, rfl, hs, rfl⟩, rfl⟩)
    ·(try simp only [sH] at h33)
     rw [if_neg h33] at htr
     refine cskip' (kthn (hK12 _ _ ?_))
     clear hK12
     refine cseq ?_; intro K16 hK16
     refine creg ?_
     refine ymv ?_
     refine yas ?_
     refine ynil' (kthn (hK16 _ _ ?_))
     clear hK16
     refine cret ?_
     first
       | (exfalso; omega; done)
       | (refine kretv Tryz.results73 rfl (L1 := [sc l _ 124, svSeg s64 _ _, celP c q _, dev q w.2.2] ++ R) zge ?_
          rw [htr, hcut]; exact ⟨_, ⟨s64, rfl, ok64, rfl⟩, rfl⟩)
       | (refine kretv Tryz.results73 rfl (L1 := [logP l c q sl L, itS sl L, celP c q _, dev q w.2.2] ++ R) zge ?_
          rw [htr]; exact ⟨_, ⟨sl, rfl, hs, rfl⟩, rfl⟩)
   clear hK10
   refine cseq ?_; intro K17 hK17
   refine creg ?_
   refine ymv ?_
   refine ymv ?_
   refine yni ?_
   refine y (ev_fieldAddr 4 rfl Tryz.underlying124 rfl Tryz.sizeOf2) rfl ?_
   refine y (ev_load rfl Tryz.isAgg2 zin rfl) rfl ?_
   refine y (ev_gtr rfl rfl) rfl ?_
   refine ynil' (kthn (hK17 _ _ ?_))
   clear hK17
   refine ccond rfl (fun h70 => ?_) (fun h70 => ?_)
   ·(try simp only [sH] at h70)
    obtain ⟨j, hj⟩ : ∃ j : Nat, k - L.head - 1 = j := ⟨(k - L.head - 1).toNat, by omega⟩
    obtain ⟨x, hx⟩ : ∃ y, L.l[j]? = some y := ⟨_, List.getElem?_eq_getElem (by omega)⟩
    have hla : L.leastAt k = x.2 := by
      unfold LogM.leastAt; rw [if_pos (by omega), show (k - L.head - 1).toNat = j by omega, List.getD_eq_getElem?_getD, hx]; rfl
    refine cdraw 14 [(0, true), (1, true), (2, true), (3, true), (4, true), (5, true), (6, true), (7, true), (8, true), (9, true), (10, true), (11, true), (12, true), (13, true)] (_) Tryz.mixed (by kernel_rfl) .refl ?_
    refine hr rfl (ev_move rfl) rfl ?_
    refine hr rfl (ev_nil rfl) rfl ?_
    refine hr rfl (ev_fieldAddr 7 rfl Tryz.underlying124 rfl Tryz.sizeOf122) rfl ?_
    refine hr rfl (ev_load rfl Tryz.isAgg122 zin rfl) rfl ?_
    refine hr rfl (ev_move rfl) rfl ?_
    refine hr rfl (ev_move rfl) rfl ?_
    refine hr rfl (ev_nil rfl) rfl ?_
    refine hr rfl (ev_fieldAddr 4 rfl Tryz.underlying124 rfl Tryz.sizeOf2) rfl ?_
    refine hr rfl (ev_load rfl Tryz.isAgg2 zin rfl) rfl ?_
    refine hr rfl (ev_sub rfl rfl) rfl ?_
    rw [wr (by omega) (by omega)]
    refine hr rfl (ev_sub rfl rfl) rfl ?_
    rw [wr (by omega) (by omega), hj]
    refine hr rfl (ev_ixV hrd rfl rfl Tryz.underlying122 Tryz.sizeOf132 (by omega) (by omega)) rfl ?_
    refine hr rfl (ev_fieldAddr 1 rfl Tryz.underlying132 rfl Tryz.sizeOf2) rfl ?_
    refine hr rfl (ev_loadV (j * 2 + 1) hrd zge rfl Tryz.isAgg2 (by simp; omega) (itemsV_get1 hx)) rfl ?_
    refine hnil ?_
    refine yas ?_
    rw [← hla]
    refine hnoP' (kthn ?_)
    exact ksub zsub zge (hJr9 () trivial)
   ·(try simp only [sH] at h70)
    have hla : L.leastAt k = L.least := by unfold LogM.leastAt; rw [if_neg (by omega)]
    rw [hla] at hJr9
    refine cskip' (kthn ?_)
    exact ksub zsub zge (hJr9 () trivial)
end W
end Go.Proofs
