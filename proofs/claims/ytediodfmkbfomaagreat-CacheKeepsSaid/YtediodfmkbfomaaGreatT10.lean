/- A part of the proof: contracts and plain lemmas, each without conditions beyond those that it names. -/
import Derived.Test.YtediodfmkbfomaaGreatT9
set_option linter.unusedVariables false
set_option linter.unusedSimpArgs false
set_option linter.constructorNameAsVariable false
namespace Go.Proofs
open Go Go.Sl
namespace W
set_option linter.unusedVariables false
def celP (c : Nat) (q : Q3) (C : CellM) : Seg := sc c [dp q, i64 C.a, i64 C.b, i64 C.now, i64 C.gen, str C.text] 148
theorem secReadS [Env] {R : List Seg} {q : Q3} {D : Dev} {i : Int} (hD : D.ok) (h0 : D.has i = 0) : Con Tryz.prog 79 [dp q, i64 i] [dev q D] R
   (fun v L' => ∃ s, v = .tuple #[svVal s (D.sec i).length, i64 0] ∧ svOk s (D.sec i).length 1 (bytesV (D.sec i)) ∧ L' = [svSeg s 5 (bytesV (D.sec i)), dev q D]) := by
 refine (secRead hD).mono ?_
 rintro v L (⟨h1, _⟩ | ⟨_, s, rfl, h2, rfl⟩)
 · exact absurd h0 h1
 · exact ⟨s, by rw [sec_length hD], by rw [sec_length hD]; exact h2, rfl⟩
theorem cGet [Env] {R : List Seg} {c : Nat} {q : Q3} {C : CellM} : Con Tryz.prog 62 [ptr c] [celP c q C] R (Is (str C.text) [celP c q C]) := by
 unfold celP
 refine con_enter Tryz.func62 Tryz.ntmps62 rfl rfl ?_
 refine cseq ?_; intro K1 hK1
 refine creg ?_
 refine yas ?_
 refine ynil' (kthn (hK1 _ _ ?_))
 clear hK1
 refine cseq ?_; intro K2 hK2
 refine creg ?_
 refine ymv ?_
 refine yni ?_
 refine y (ev_fieldAddr 5 rfl Tryz.underlying148 rfl Tryz.sizeOf9) rfl ?_
 refine y (ev_load rfl Tryz.isAgg9 zin rfl) rfl ?_
 refine yas ?_
 refine ynil' (kthn (hK2 _ _ ?_))
 clear hK2
 refine cret ?_
 first
   | (exfalso; omega; done)
   | (refine kretv Tryz.results62 rfl (L1 := _) zge ?_
      exact ⟨_, ⟨by first | rfl | (simp [*]; done) | (simp [*]; omega) | simp_all, rfl⟩, by first | rfl | (simp [*]; done) | (simp [*]; omega) | simp_all⟩)
theorem cPut [Env] {R : List Seg} {c : Nat} {q : Q3} {C : CellM} {D : Dev} {s : Bytes} (hC : C.ok D.l.length) (hD : D.ok) :
   Con Tryz.prog 84 [ptr c, str s] [celP c q C, dev q D] R (Is (i64 (C.put D s).1) [celP c q (C.put D s).2.1, dev q (C.put D s).2.2]) := by
 have hg := hC.gen
 refine con_enter Tryz.func84 Tryz.ntmps84 rfl rfl ?_
 unfold celP
 refine cseq ?_; intro K1 hK1
 refine creg ?_
 refine yas ?_
 refine ynil' (kthn (hK1 _ _ ?_))
 clear hK1
 refine cseq ?_; intro K2 hK2
 refine cblock ?_
 refine cseq ?_; intro K3 hK3
 refine creg ?_
 refine ymv ?_
 first
   | refine y (ev_lenStr rfl Tryz.underlying9) rfl ?_
   | refine y (ev_lenS rfl Tryz.underlying9) rfl ?_
 refine y (ev_gtr rfl rfl) rfl ?_
 refine yas ?_
 refine ynil' (kthn (hK3 _ _ ?_))
 clear hK3
 refine ccond rfl (fun h12 => ?_) (fun h12 => ?_)
 ·(try simp only [sH] at h12)
  refine cseq ?_; intro K4 hK4
  refine creg ?_
  have hput := put_long (C := C) (D := D) (s := s) (by omega)
  refine yas ?_
  refine ynil' (kthn (hK4 _ _ ?_))
  clear hK4
  refine cret (kbr (kthr ?_))
  first
    | (exfalso; omega; done)
    | (refine kretv Tryz.results84 rfl (L1 := [sc c _ 148, dev q _] ++ R) zge ?_
       rw [hput]; exact ⟨_, ⟨rfl, rfl⟩, rfl⟩)
 ·(try simp only [sH] at h12)
  refine cseq ?_; intro K5 hK5
  refine creg ?_
  refine ymv ?_
  refine yni ?_
  refine y (ev_fieldAddr 4 rfl Tryz.underlying148 rfl Tryz.sizeOf2) rfl ?_
  refine y (ev_load rfl Tryz.isAgg2 zin rfl) rfl ?_
  refine y (ev_eql rfl rfl) rfl ?_
  refine yas ?_
  refine ynil' (kthn (hK5 _ _ ?_))
  clear hK5
  refine ccond rfl (fun h20 => ?_) (fun h20 => ?_)
  ·(try simp only [sH] at h20)
   refine cseq ?_; intro K6 hK6
   refine creg ?_
   have hput := put_full (C := C) (D := D) (s := s) (by omega) (by omega)
   refine yas ?_
   refine ynil' (kthn (hK6 _ _ ?_))
   clear hK6
   refine cret (kbr (kthr ?_))
   first
     | (exfalso; omega; done)
     | (refine kretv Tryz.results84 rfl (L1 := [sc c _ 148, dev q _] ++ R) zge ?_
        rw [hput]; exact ⟨_, ⟨rfl, rfl⟩, rfl⟩)
  ·(try simp only [sH] at h20)
   refine cskip' (kbn (kthn (hK2 _ _ ?_)))
   clear hK2
   refine cseq ?_; intro K7 hK7
   refine creg ?_
   refine yas ?_
   refine ynil' (kthn (hK7 _ _ ?_))
   clear hK7
   refine cseq ?_; intro K8 hK8
   refine cseq ?_; intro K9 hK9
   refine creg ?_
   refine ymv ?_
   refine yni ?_
   refine y (ev_fieldAddr 3 rfl Tryz.underlying148 rfl Tryz.sizeOf3) rfl ?_
   refine y (ev_load rfl Tryz.isAgg3 zin rfl) rfl ?_
   refine y (ev_eql rfl rfl) rfl ?_
   refine ynil' (kthn (hK9 _ _ ?_))
   clear hK9
   refine ccond rfl (fun h28 => ?_) (fun h28 => ?_)
   ·(try simp only [sH] at h28)
    have hoth : C.other = C.b := by unfold CellM.other; rw [if_pos (by omega)]
    have hnow : (if C.now = 0 then (1 : Int) else 0) = 1 := by rw [if_pos (by omega)]
    refine creg ?_
    refine yas ?_
    refine ynil' (kthn (hK8 _ _ ?_))
    clear hK8
    refine cseq ?_; intro K10 hK10
    refine cseq ?_; intro K11 hK11
    refine cdraw 17 [(0, true), (1, true), (2, true), (3, true), (4, true), (5, true), (6, true), (7, true), (8, true), (9, true), (10, true), (11, true), (12, true), (13, true), (14, true), (15, true), (16, false)] (_) Tryz.mixed (by kernel_rfl) .refl ?_
    refine hr rfl (ev_move rfl) rfl ?_
    refine hr rfl (ev_nil rfl) rfl ?_
    refine hr rfl (ev_fieldAddr 0 rfl Tryz.underlying148 rfl Tryz.sizeOf25) rfl ?_
    refine hr rfl (ev_load rfl Tryz.isAgg25 zin rfl) rfl ?_
    refine hr rfl (ev_move rfl) rfl ?_
    refine hr rfl (ev_move rfl) rfl ?_
    refine hr rfl (ev_nil rfl) rfl ?_
    refine hr rfl (ev_fieldAddr 1 rfl Tryz.underlying148 rfl Tryz.sizeOf146) rfl ?_
    refine hr rfl (ev_ixAddrA rfl rfl Tryz.underlying146 Tryz.sizeOf3 (by omega) (by omega)) rfl ?_
    refine hr rfl (ev_load rfl Tryz.isAgg3 zin rfl) rfl ?_
    refine hr rfl (ev_move rfl) rfl ?_
    refine hr rfl (ev_nil rfl) rfl ?_
    refine hr rfl (ev_fieldAddr 4 rfl Tryz.underlying148 rfl Tryz.sizeOf2) rfl ?_
    refine hr rfl (ev_load rfl Tryz.isAgg2 zin rfl) rfl ?_
    refine hr rfl (ev_add rfl rfl) rfl ?_
    refine hr rfl (ev_move rfl) rfl ?_
    refine hcall rfl (cSlot ?lo46 ?hi46) rfl Tryz.call100 ztk rfl ?_
    case lo46 => rw [wr (by omega) (by omega)]; omega
    case hi46 => rw [wr (by omega) (by omega)]; omega
    rintro v L' ⟨s39, rfl, ok39, rfl⟩; refine ⟨zge, ?_⟩
    refine hnil ?_
    refine ycall (secWrite (bs := slotM (IntKind.i64.wrap (C.gen + 1)) s) ?ok47 ?rd47) rfl Tryz.call74 ztk rfl ?_
    case ok47 => exact hD
    case rd47 => exact rdB_sv zin ok39
    rintro v L' ⟨rfl, rfl⟩
    have hD1 := Dev.write_ok hD C.other (slotM (IntKind.i64.wrap (C.gen + 1)) s)
    obtain ⟨w, hw⟩ : ∃ w, D.write C.other (slotM (IntKind.i64.wrap (C.gen + 1)) s) = w := ⟨_, rfl⟩
    have hw2 := hw
    rw [hoth] at hw2
    rw [hw2]
    rw [hw] at hD1
    refine yas ?_
    refine hnoP' (kthn (hK11 _ _ ?_))
    clear hK11
    refine cseq ?_; intro K12 hK12
    refine creg ?_
    refine ymv ?_
    refine y (ev_neq rfl rfl) rfl ?_
    refine ynil' (kthn (hK12 _ _ ?_))
    clear hK12
    refine ccond rfl (fun h51 => ?_) (fun h51 => ?_)
    ·(try simp only [sH] at h51)
     refine cseq ?_; intro K13 hK13
     refine creg ?_
     have hput := put_w (by omega) (by omega) hw (by omega)
     refine ymv ?_
     refine yas ?_
     refine ynil' (kthn (hK13 _ _ ?_))
     clear hK13
     refine cret (kthr ?_)
     first
       | (exfalso; omega; done)
       | (refine kretv Tryz.results84 rfl (L1 := [sc c _ 148, dev q _] ++ R) zge ?_
          rw [hput]; exact ⟨_, ⟨rfl, rfl⟩, rfl⟩)
    ·(try simp only [sH] at h51)
     refine cskip' (kthn (hK10 _ _ ?_))
     clear hK10
     refine cseq ?_; intro K14 hK14
     refine cseq ?_; intro K15 hK15
     refine creg ?_
     refine ymv ?_
     refine yni ?_
     refine y (ev_fieldAddr 0 rfl Tryz.underlying148 rfl Tryz.sizeOf25) rfl ?_
     refine y (ev_load rfl Tryz.isAgg25 zin rfl) rfl ?_
     refine ycall (secBarrier ?ok58) rfl Tryz.call70 ztk rfl ?_
     case ok58 => exact hD1
     rintro v L' ⟨rfl, rfl⟩
     obtain ⟨bb, hbb⟩ : ∃ b, w.2.barrier = b := ⟨_, rfl⟩
     rw [hbb]
     refine yas ?_
     refine ynil' (kthn (hK15 _ _ ?_))
     clear hK15
     refine cseq ?_; intro K16 hK16
     refine creg ?_
     refine ymv ?_
     refine y (ev_neq rfl rfl) rfl ?_
     refine ynil' (kthn (hK16 _ _ ?_))
     clear hK16
     refine ccond rfl (fun h62 => ?_) (fun h62 => ?_)
     ·(try simp only [sH] at h62)
      refine cseq ?_; intro K17 hK17
      refine creg ?_
      have hput := put_b (by omega) (by omega) hw (by omega) hbb (by omega)
      refine ymv ?_
      refine yas ?_
      refine ynil' (kthn (hK17 _ _ ?_))
      clear hK17
      refine cret (kthr ?_)
      first
        | (exfalso; omega; done)
        | (refine kretv Tryz.results84 rfl (L1 := [sc c _ 148, dev q _] ++ R) zge ?_
           rw [hput]; exact ⟨_, ⟨rfl, rfl⟩, rfl⟩)
     ·(try simp only [sH] at h62)
      refine cskip' (kthn (hK14 _ _ ?_))
      clear hK14
      refine cseq ?_; intro K18 hK18
      refine creg ?_
      have hput := put_done (by omega) (by omega) hw (by omega) hbb (by omega)
      rw [hnow] at hput
      refine ymv ?_
      refine ymv ?_
      refine ymv ?_
      refine ymv ?_
      refine ymv ?_
      refine yni ?_
      refine y (ev_fieldAddr 4 rfl Tryz.underlying148 rfl Tryz.sizeOf2) rfl ?_
      refine y (ev_load rfl Tryz.isAgg2 zin rfl) rfl ?_
      refine y (ev_add rfl rfl) rfl ?_
      refine ymv ?_
      refine yni ?_
      refine y (ev_fieldAddr 3 rfl Tryz.underlying148 rfl Tryz.sizeOf3) rfl ?_
      refine ya0 (ac_store rfl rfl (by first | rfl | exact svVal_one _ _ | assumption) Tryz.sizeOf3 zrp rfl rfl) ?_
      rintro v L' ⟨rfl, rfl⟩
      refine yni ?_
      refine y (ev_fieldAddr 4 rfl Tryz.underlying148 rfl Tryz.sizeOf2) rfl ?_
      refine ya0 (ac_store rfl rfl (by first | rfl | exact svVal_one _ _ | assumption) Tryz.sizeOf2 zrp rfl rfl) ?_
      rintro v L' ⟨rfl, rfl⟩
      refine yni ?_
      refine y (ev_fieldAddr 5 rfl Tryz.underlying148 rfl Tryz.sizeOf9) rfl ?_
      refine ya0 (ac_store rfl rfl (by first | rfl | exact svVal_one _ _ | assumption) Tryz.sizeOf9 zrp rfl rfl) ?_
      rintro v L' ⟨rfl, rfl⟩
      refine ynil' (kthn (hK18 _ _ ?_))
      clear hK18
      refine cseq ?_; intro K19 hK19
      refine creg ?_
      refine yas ?_
      refine ynil' (kthn (hK19 _ _ ?_))
      clear hK19
      refine cret ?_
      first
        | (exfalso; omega; done)
        | (refine kretv Tryz.results84 rfl (L1 := [sc c _ 148, dev q _] ++ R) zge ?_
           rw [hput]; exact ⟨_, ⟨rfl, rfl⟩, rfl⟩)
   ·(try simp only [sH] at h28)
    have hoth : C.other = C.a := by unfold CellM.other; rw [if_neg (by omega)]
    have hnow : (if C.now = 0 then (1 : Int) else 0) = 0 := by rw [if_neg (by omega)]
    refine cskip' (kthn (hK8 _ _ ?_))
    clear hK8
    refine cseq ?_; intro K20 hK20
    refine cseq ?_; intro K21 hK21
    refine cdraw 17 [(0, true), (1, true), (2, true), (3, true), (4, true), (5, true), (6, true), (7, true), (8, true), (9, true), (10, true), (11, true), (12, true), (13, true), (14, true), (15, true), (16, false)] (_) Tryz.mixed (by kernel_rfl) .refl ?_
    refine hr rfl (ev_move rfl) rfl ?_
    refine hr rfl (ev_nil rfl) rfl ?_
    refine hr rfl (ev_fieldAddr 0 rfl Tryz.underlying148 rfl Tryz.sizeOf25) rfl ?_
    refine hr rfl (ev_load rfl Tryz.isAgg25 zin rfl) rfl ?_
    refine hr rfl (ev_move rfl) rfl ?_
    refine hr rfl (ev_move rfl) rfl ?_
    refine hr rfl (ev_nil rfl) rfl ?_
    refine hr rfl (ev_fieldAddr 1 rfl Tryz.underlying148 rfl Tryz.sizeOf146) rfl ?_
    refine hr rfl (ev_ixAddrA rfl rfl Tryz.underlying146 Tryz.sizeOf3 (by omega) (by omega)) rfl ?_
    refine hr rfl (ev_load rfl Tryz.isAgg3 zin rfl) rfl ?_
    refine hr rfl (ev_move rfl) rfl ?_
    refine hr rfl (ev_nil rfl) rfl ?_
    refine hr rfl (ev_fieldAddr 4 rfl Tryz.underlying148 rfl Tryz.sizeOf2) rfl ?_
    refine hr rfl (ev_load rfl Tryz.isAgg2 zin rfl) rfl ?_
    refine hr rfl (ev_add rfl rfl) rfl ?_
    refine hr rfl (ev_move rfl) rfl ?_
    refine hcall rfl (cSlot ?lo101 ?hi101) rfl Tryz.call100 ztk rfl ?_
    case lo101 => rw [wr (by omega) (by omega)]; omega
    case hi101 => rw [wr (by omega) (by omega)]; omega
    rintro v L' ⟨s39, rfl, ok39, rfl⟩; refine ⟨zge, ?_⟩
    refine hnil ?_
    refine ycall (secWrite (bs := slotM (IntKind.i64.wrap (C.gen + 1)) s) ?ok102 ?rd102) rfl Tryz.call74 ztk rfl ?_
    case ok102 => exact hD
    case rd102 => exact rdB_sv zin ok39
    rintro v L' ⟨rfl, rfl⟩
    have hD1 := Dev.write_ok hD C.other (slotM (IntKind.i64.wrap (C.gen + 1)) s)
    obtain ⟨w, hw⟩ : ∃ w, D.write C.other (slotM (IntKind.i64.wrap (C.gen + 1)) s) = w := ⟨_, rfl⟩
    have hw2 := hw
    rw [hoth] at hw2
    rw [hw2]
    rw [hw] at hD1
    refine yas ?_
    refine hnoP' (kthn (hK21 _ _ ?_))
    clear hK21
    refine cseq ?_; intro K22 hK22
    refine creg ?_
    refine ymv ?_
    refine y (ev_neq rfl rfl) rfl ?_
    refine ynil' (kthn (hK22 _ _ ?_))
    clear hK22
    refine ccond rfl (fun h106 => ?_) (fun h106 => ?_)
    ·(try simp only [sH] at h106)
     refine cseq ?_; intro K23 hK23
     refine creg ?_
     have hput := put_w (by omega) (by omega) hw (by omega)
     refine ymv ?_
     refine yas ?_
     refine ynil' (kthn (hK23 _ _ ?_))
     clear hK23
     refine cret (kthr ?_)
     first
       | (exfalso; omega; done)
       | (refine kretv Tryz.results84 rfl (L1 := [sc c _ 148, dev q _] ++ R) zge ?_
          rw [hput]; exact ⟨_, ⟨rfl, rfl⟩, rfl⟩)
    ·(try simp only [sH] at h106)
     refine cskip' (kthn (hK20 _ _ ?_))
     clear hK20
     refine cseq ?_; intro K24 hK24
     refine cseq ?_; intro K25 hK25
     refine creg ?_
     refine ymv ?_
     refine yni ?_
     refine y (ev_fieldAddr 0 rfl Tryz.underlying148 rfl Tryz.sizeOf25) rfl ?_
     refine y (ev_load rfl Tryz.isAgg25 zin rfl) rfl ?_
     refine ycall (secBarrier ?ok113) rfl Tryz.call70 ztk rfl ?_
     case ok113 => exact hD1
     rintro v L' ⟨rfl, rfl⟩
     obtain ⟨bb, hbb⟩ : ∃ b, w.2.barrier = b := ⟨_, rfl⟩
     rw [hbb]
     refine yas ?_
     refine ynil' (kthn (hK25 _ _ ?_))
     clear hK25
     refine cseq ?_; intro K26 hK26
     refine creg ?_
     refine ymv ?_
     refine y (ev_neq rfl rfl) rfl ?_
     refine ynil' (kthn (hK26 _ _ ?_))
     clear hK26
     refine ccond rfl (fun h117 => ?_) (fun h117 => ?_)
     ·(try simp only [sH] at h117)
      refine cseq ?_; intro K27 hK27
      refine creg ?_
      have hput := put_b (by omega) (by omega) hw (by omega) hbb (by omega)
      refine ymv ?_
      refine yas ?_
      refine ynil' (kthn (hK27 _ _ ?_))
      clear hK27
      refine cret (kthr ?_)
      first
        | (exfalso; omega; done)
        | (refine kretv Tryz.results84 rfl (L1 := [sc c _ 148, dev q _] ++ R) zge ?_
           rw [hput]; exact ⟨_, ⟨rfl, rfl⟩, rfl⟩)
     ·(try simp only [sH] at h117)
      refine cskip' (kthn (hK24 _ _ ?_))
      clear hK24
      refine cseq ?_; intro K28 hK28
      refine creg ?_
      have hput := put_done (by omega) (by omega) hw (by omega) hbb (by omega)
      rw [hnow] at hput
      refine ymv ?_
      refine ymv ?_
      refine ymv ?_
      refine ymv ?_
      refine ymv ?_
      refine yni ?_
      refine y (ev_fieldAddr 4 rfl Tryz.underlying148 rfl Tryz.sizeOf2) rfl ?_
      refine y (ev_load rfl Tryz.isAgg2 zin rfl) rfl ?_
      refine y (ev_add rfl rfl) rfl ?_
      refine ymv ?_
      refine yni ?_
      refine y (ev_fieldAddr 3 rfl Tryz.underlying148 rfl Tryz.sizeOf3) rfl ?_
      refine ya0 (ac_store rfl rfl (by first | rfl | exact svVal_one _ _ | assumption) Tryz.sizeOf3 zrp rfl rfl) ?_
      rintro v L' ⟨rfl, rfl⟩
      refine yni ?_
      refine y (ev_fieldAddr 4 rfl Tryz.underlying148 rfl Tryz.sizeOf2) rfl ?_
      refine ya0 (ac_store rfl rfl (by first | rfl | exact svVal_one _ _ | assumption) Tryz.sizeOf2 zrp rfl rfl) ?_
      rintro v L' ⟨rfl, rfl⟩
      refine yni ?_
      refine y (ev_fieldAddr 5 rfl Tryz.underlying148 rfl Tryz.sizeOf9) rfl ?_
      refine ya0 (ac_store rfl rfl (by first | rfl | exact svVal_one _ _ | assumption) Tryz.sizeOf9 zrp rfl rfl) ?_
      rintro v L' ⟨rfl, rfl⟩
      refine ynil' (kthn (hK28 _ _ ?_))
      clear hK28
      refine cseq ?_; intro K29 hK29
      refine creg ?_
      refine yas ?_
      refine ynil' (kthn (hK29 _ _ ?_))
      clear hK29
      refine cret ?_
      first
        | (exfalso; omega; done)
        | (refine kretv Tryz.results84 rfl (L1 := [sc c _ 148, dev q _] ++ R) zge ?_
           rw [hput]; exact ⟨_, ⟨rfl, rfl⟩, rfl⟩)
def KOpen (D : Dev) (a b : Int) (q : Q3) (u : Value) (L' : List Seg) : Prop :=
 (openE D a b ≠ 0 ∧ u = .tuple #[nilP, i64 (openE D a b)] ∧ L' = [dev q D]) ∨ (openE D a b = 0 ∧ ∃ c, u = .tuple #[ptr c, i64 0] ∧ L' = [celP c q (openC D a b), dev q D])
theorem cOpen [Env] {R : List Seg} {q : Q3} {D : Dev} {a b : Int} (hD : D.ok) : Con Tryz.prog 60 [dp q, i64 a, i64 b] [dev q D] R (KOpen D a b q) := by
 refine con_enter Tryz.func60 Tryz.ntmps60 rfl rfl ?_
 refine cseq ?_; intro K1 hK1
 refine creg ?_
 refine yas ?_
 refine yas ?_
 refine ynil' (kthn (hK1 _ _ ?_))
 clear hK1
 refine cseq ?_; intro K2 hK2
 refine cblock ?_
 refine cseq ?_; intro K3 hK3
 refine creg ?_
 refine ymv ?_
 skip
 ·skip
  refine y (ev_eqlPnil rfl rfl Tryz.underlying25) rfl ?_
  refine ymv ?_
  refine ygo ?_
  refine ymv ?_
  refine ygo ?_
  refine ymv ?_
  refine ygo ?_
  refine y (ev_eql rfl rfl) rfl ?_
  refine ypb ?_
  refine ymv ?_
  refine ysplit 24 rfl (fun h150 => ?_) (fun h150 => ?_)
  ·(try simp only [sH] at h150)
   refine ygz ?_
   refine ygz ?_
   refine ygz ?_
   refine ygz ?_
   refine ypa ?_
   refine ymv ?_
   refine ygz ?_
   refine ygz ?_
   refine ygz ?_
   refine ygz ?_
   refine ygz ?_
   refine ygz ?_
   refine ypa ?_
   refine yas ?_
   refine ynil' (kthn (hK3 _ _ ?_))
   clear hK3
   refine ccond1 rfl ?_
   refine cseq ?_; intro K4 hK4
   refine creg ?_
   have hop : openE D a b = 1 := openE_arg (by omega)
   refine yas ?_
   refine yas ?_
   refine ynil' (kthn (hK4 _ _ ?_))
   clear hK4
   refine cret (kbr (kthr ?_))
   first
     | (exfalso; omega; done)
     | (refine kretv2 Tryz.results60 rfl rfl (L1 := [dev q D] ++ R) zge ?_
        exact ⟨_, .inl ⟨by rw [hop]; decide, by rw [hop], rfl⟩, rfl⟩)
     | (refine kretv2 Tryz.results60 rfl rfl (L1 := [celP b46 q (openC D a b), dev q D] ++ R) zge ?_
        exact ⟨_, .inr ⟨hop, b46, rfl, rfl⟩, rfl⟩)
  ·(try simp only [sH] at h150)
   refine ygo ?_
   refine ymv ?_
   refine ygo ?_
   refine ymv ?_
   refine ygo ?_
   refine y (ev_min rfl rfl) rfl ?_
   rw [show (if b < a then b else a) = min a b by split <;> omega]
   refine ygo ?_
   refine y (ev_lss rfl rfl) rfl ?_
   refine ypb ?_
   refine ymv ?_
   refine ysplit 30 rfl (fun h163 => ?_) (fun h163 => ?_)
   ·(try simp only [sH] at h163)
    refine ygz ?_
    refine ygz ?_
    refine ygz ?_
    refine ygz ?_
    refine ygz ?_
    refine ygz ?_
    refine ypa ?_
    refine yas ?_
    refine ynil' (kthn (hK3 _ _ ?_))
    clear hK3
    refine ccond1 rfl ?_
    refine cseq ?_; intro K5 hK5
    refine creg ?_
    have hop : openE D a b = 1 := openE_arg (by omega)
    refine yas ?_
    refine yas ?_
    refine ynil' (kthn (hK5 _ _ ?_))
    clear hK5
    refine cret (kbr (kthr ?_))
    first
      | (exfalso; omega; done)
      | (refine kretv2 Tryz.results60 rfl rfl (L1 := [dev q D] ++ R) zge ?_
         exact ⟨_, .inl ⟨by rw [hop]; decide, by rw [hop], rfl⟩, rfl⟩)
      | (refine kretv2 Tryz.results60 rfl rfl (L1 := [celP b46 q (openC D a b), dev q D] ++ R) zge ?_
         exact ⟨_, .inr ⟨hop, b46, rfl, rfl⟩, rfl⟩)
   ·(try simp only [sH] at h163)
    refine ygo ?_
    refine ymv ?_
    refine ygo ?_
    refine ymv ?_
    refine ygo ?_
    refine y (ev_max rfl rfl) rfl ?_
    rw [show (if b > a then b else a) = max a b by split <;> omega]
    refine ygo ?_
    refine ymv ?_
    refine ygo ?_
    refine ycall (secSectors) rfl Tryz.call59 ztk rfl ?_
    rintro v L' ⟨rfl, rfl⟩
    refine ygo ?_
    refine y (ev_geq rfl rfl) rfl ?_
    refine ypb ?_
    refine yas ?_
    refine ynil' (kthn (hK3 _ _ ?_))
    clear hK3
    refine ccond rfl (fun h176 => ?_) (fun h176 => ?_)
    ·(try simp only [sH] at h176)
     refine cseq ?_; intro K6 hK6
     refine creg ?_
     have hop : openE D a b = 1 := openE_arg (by omega)
     refine yas ?_
     refine yas ?_
     refine ynil' (kthn (hK6 _ _ ?_))
     clear hK6
     refine cret (kbr (kthr ?_))
     first
       | (exfalso; omega; done)
       | (refine kretv2 Tryz.results60 rfl rfl (L1 := [dev q D] ++ R) zge ?_
          exact ⟨_, .inl ⟨by rw [hop]; decide, by rw [hop], rfl⟩, rfl⟩)
       | (refine kretv2 Tryz.results60 rfl rfl (L1 := [celP b46 q (openC D a b), dev q D] ++ R) zge ?_
          exact ⟨_, .inr ⟨hop, b46, rfl, rfl⟩, rfl⟩)
    ·(try simp only [sH] at h176)
     refine cseq ?_; intro K7 hK7
     refine creg ?_
     refine ymv ?_
     refine ycall (secDead) rfl Tryz.call78 ztk rfl ?_
     rintro v L' ⟨rfl, rfl⟩
     refine yas ?_
     refine ynil' (kthn (hK7 _ _ ?_))
     clear hK7
     refine ccond rfl (fun h182 => ?_) (fun h182 => ?_)
     ·(try simp only [sH] at h182)
      refine cseq ?_; intro K8 hK8
      refine creg ?_
      have hop : openE D a b = 30 := openE_down (by omega) (by omega) (by omega) (by simp_all)
      refine yas ?_
      refine yas ?_
      refine ynil' (kthn (hK8 _ _ ?_))
      clear hK8
      refine cret (kbr (kthr ?_))
      first
        | (exfalso; omega; done)
        | (refine kretv2 Tryz.results60 rfl rfl (L1 := [dev q D] ++ R) zge ?_
           exact ⟨_, .inl ⟨by rw [hop]; decide, by rw [hop], rfl⟩, rfl⟩)
        | (refine kretv2 Tryz.results60 rfl rfl (L1 := [celP b46 q (openC D a b), dev q D] ++ R) zge ?_
           exact ⟨_, .inr ⟨hop, b46, rfl, rfl⟩, rfl⟩)
     ·(try simp only [sH] at h182)
      refine cskip' (kbn (kthn (hK2 _ _ ?_)))
      clear hK2
      refine cseq ?_; intro K9 hK9
      refine creg ?_
      have hop : openE D a b = 0 := openE_ok (by omega) (by omega) (by omega) (by simp_all)
      refine ymv ?_
      refine ymv ?_
      refine ymv ?_
      refine y (ev_buildA (zs := _) rfl Tryz.underlying146 Tryz.zeroValue146 rfl Tryz.sizeOf3 ⟨⟨_, _, rfl, (by first | rfl | simp), (by first | decide | simp)⟩, ⟨⟨_, _, rfl, (by first | rfl | simp), (by first | decide | simp)⟩, trivial⟩⟩ (by dsimp [fillL, splice, vcells] <;> rfl)) rfl ?_
      refine y (ev_build (zs := _) rfl Tryz.underlying148 Tryz.zeroValue148 rfl (.cons Tryz.sizeOf25 (.cons Tryz.sizeOf146 (.cons Tryz.sizeOf3 (.cons Tryz.sizeOf2 (.cons Tryz.sizeOf9 .nil))))) ⟨⟨_, _, rfl, (by first | rfl | simp), (by first | decide | simp)⟩, ⟨⟨_, _, rfl, (by first | rfl | simp), (by first | decide | simp)⟩, ⟨⟨_, _, rfl, (by first | rfl | simp), (by first | decide | simp)⟩, trivial⟩⟩⟩ (by dsimp [fillL, splice, vcells] <;> rfl)) rfl ?_
      refine ya (ac_box rfl rfl) rfl ?_
      rintro v L' ⟨b46, rfl, rfl⟩
      refine yas ?_
      refine ynil' (kthn (hK9 _ _ ?_))
      clear hK9
      refine cseq ?_; intro K10 hK10
      refine cseq ?_; intro K11 hK11
      refine creg ?_
      refine ymv ?_
      refine yni ?_
      refine y (ev_fieldAddr 1 rfl Tryz.underlying148 rfl Tryz.sizeOf146) rfl ?_
      refine y (ev_loadN rfl Tryz.isAgg146 Tryz.sizeOf146 zin rfl rfl) rfl ?_
      refine ymv ?_
      refine ynil' (kthn (hK11 _ _ ?_))
      clear hK11
      have hJ1 : ∀ x : Nat, ((x ≤ 2) ∧ (x = 2)) → Sk 90 K10 ([(51, i64 x), (50, .agg #[i64 a, i64 b]), (8, ptr b46), (0, dp q)]) ([celP b46 q (seeTo D a b x), dev q D] ++ R) := by
       rintro k ⟨hI1, hX1⟩
       refine hK10 _ _ ?_
       have hk := hI1
       subst hX1; rw [seeTo_two]
       refine cseq ?_; intro K12 hK12
       refine creg ?_
       refine ymv ?_
       refine yas ?_
       refine yas ?_
       refine ynil' (kthn (hK12 _ _ ?_))
       clear hK12
       refine cret ?_
       first
         | (exfalso; omega; done)
         | (refine kretv2 Tryz.results60 rfl rfl (L1 := [dev q D] ++ R) zge ?_
            exact ⟨_, .inl ⟨by rw [hop]; decide, by rw [hop], rfl⟩, rfl⟩)
         | (refine kretv2 Tryz.results60 rfl rfl (L1 := [celP b46 q (openC D a b), dev q D] ++ R) zge ?_
            exact ⟨_, .inr ⟨hop, b46, rfl, rfl⟩, rfl⟩)
      clear hK10
      refine cblock ?_
      refine cloop (A := Nat) (fun x => [(51, i64 x), (50, .agg #[i64 a, i64 b]), (8, ptr b46), (0, dp q)]) (fun x => [celP b46 q (seeTo D a b x), dev q D] ++ R) (fun x => x ≤ 2) (fun x => 2 - x) (0) ?_ zsub zge ?_
      · exact Nat.zero_le _
      rintro k hI1 KL1 hL1
      have hI1o := hI1
      have hk := hI1
      refine cseq ?_; intro K13 hK13
      refine creg ?_
      refine y (ev_lss rfl rfl) rfl ?_
      refine ynil' (kthn (hK13 _ _ ?_))
      clear hK13
      refine cseq ?_; intro K14 hK14
      refine ccond rfl (fun h201 => ?_) (fun h201 => ?_)
      ·(try simp only [sH] at h201)
       have hix : ([i64 a, i64 b] : List Value)[k]? = some (i64 (cellAt a b k)) := by
         rcases Nat.lt_or_ge k 1 with h | h
         · rw [show k = 0 by omega]; rfl
         · rw [show k = 1 by omega]; rfl
       have hin : 0 ≤ cellAt a b k ∧ cellAt a b k < D.l.length := by unfold cellAt; split <;> omega
       refine cskip' (kthn (hK14 _ _ ?_))
       clear hK14
       refine cseq ?_; intro K15 hK15
       refine cblock ?_
       refine cseq ?_; intro K16 hK16
       refine creg ?_
       refine ymv ?_
       refine y (ev_ixA1 rfl rfl Tryz.underlying146 Tryz.isAgg3 Tryz.sizeOf3 (by omega) (by omega) (by first | exact hix | (rw [show ((k : Nat) : Int).toNat * 1 = k by simp]; exact hix))) rfl ?_
       refine yas ?_
       refine yas ?_
       refine ynil' (kthn (hK16 _ _ ?_))
       clear hK16
       refine cseq ?_; intro K17 hK17
       refine creg ?_
       refine ymv ?_
       refine ymv ?_
       refine ycall (secReadS hD (by unfold Dev.has; rw [if_neg (by simp_all), if_neg (by omega)])) rfl Tryz.call79 ztk rfl ?_
       rintro v L' ⟨s58, rfl, ok58, rfl⟩
       refine ymv ?_
       refine yxt ?_
       refine yxt ?_
       refine yas ?_
       refine yas ?_
       refine ynil' (kthn (hK17 _ _ ?_))
       clear hK17
       refine cseq ?_; intro K18 hK18
       refine creg ?_
       refine ymv ?_
       refine ycall (cRead (bs := D.sec (cellAt a b k)) ?hb215 ?five215 ?len215) rfl Tryz.call80 ztk rfl ?_
       case hb215 => exact rdY_sv zin ok58
       case five215 => rw [sec_length hD]; omega
       case len215 => rw [sec_length hD]; omega
       rintro v L' ⟨rfl, rfl⟩
       have hsee : seeTo D a b (k + 1) = _ := see_T (seeTo D a b k) k (D.sec (cellAt a b k))
       obtain ⟨hsa, hsb⟩ := seeTo_a D a b k
       generalize readT (D.sec (cellAt a b k)) = rt at *
       generalize seeTo D a b k = C at *
       refine ymv ?_
       refine yxt ?_
       refine yxt ?_
       refine yxt ?_
       refine yas ?_
       refine yas ?_
       refine yas ?_
       refine ynil' (kthn (hK18 _ _ ?_))
       clear hK18
       refine cseq ?_; intro K19 hK19
       refine creg ?_
       unfold celP
       refine ymv ?_
       refine ymv ?_
       refine ysplit 68 rfl (fun h225 => ?_) (fun h225 => ?_)
       ·(try simp only [sH] at h225)
        refine ygo ?_
        refine ymv ?_
        refine ygo ?_
        refine ymv ?_
        refine ygo ?_
        refine yni ?_
        refine ygo ?_
        refine y (ev_fieldAddr 4 rfl Tryz.underlying148 rfl Tryz.sizeOf2) rfl ?_
        refine ygo ?_
        refine y (ev_load rfl Tryz.isAgg2 zin rfl) rfl ?_
        refine ygo ?_
        refine y (ev_gtr rfl rfl) rfl ?_
        refine ypa ?_
        refine ynil' (kthn (hK19 _ _ ?_))
        clear hK19
        refine ccond rfl (fun h233 => ?_) (fun h233 => ?_)
        ·(try simp only [sH] at h233)
         rw [if_pos ⟨by assumption, h233⟩] at hsee
         refine creg ?_
         refine ymv ?_
         refine ymv ?_
         refine ymv ?_
         refine ymv ?_
         refine ymv ?_
         refine ymv ?_
         refine yni ?_
         refine y (ev_fieldAddr 3 rfl Tryz.underlying148 rfl Tryz.sizeOf3) rfl ?_
         refine ya0 (ac_store rfl rfl (by first | rfl | exact svVal_one _ _ | assumption) Tryz.sizeOf3 zrp rfl rfl) ?_
         rintro v L' ⟨rfl, rfl⟩
         refine yni ?_
         refine y (ev_fieldAddr 4 rfl Tryz.underlying148 rfl Tryz.sizeOf2) rfl ?_
         refine ya0 (ac_store rfl rfl (by first | rfl | exact svVal_one _ _ | assumption) Tryz.sizeOf2 zrp rfl rfl) ?_
         rintro v L' ⟨rfl, rfl⟩
         refine yni ?_
         refine y (ev_fieldAddr 5 rfl Tryz.underlying148 rfl Tryz.sizeOf9) rfl ?_
         refine ya0 (ac_store rfl rfl (by first | rfl | exact svVal_one _ _ | assumption) Tryz.sizeOf9 zrp rfl rfl) ?_
         rintro v L' ⟨rfl, rfl⟩
         refine ynil' (kbn (kthn (hK15 _ _ ?_)))
         clear hK15
         refine creg ?_
         refine y (ev_add rfl rfl) rfl ?_
         rw [show IntKind.i64.wrap ((k:Int) + 1) = ((k+1 : Nat) : Int) by rw [wr (by omega) (by omega)]; rfl]
         refine ymv ?_
         refine ynil' (kthn ?_)
         exact ksub zsub (by rw [hsee]; exact zge) (hL1 (k + 1) (show k + 1 ≤ 2 by omega) (by omega) [(51, i64 ((k + 1 : Nat) : Int)), (50, .agg #[i64 a, i64 b]), (8, ptr b46), (0, dp q)] _ zsub .refl)
        ·(try simp only [sH] at h233)
         rw [if_neg (fun hh => h233 hh.2)] at hsee
         refine cskip' (kbn (kthn (hK15 _ _ ?_)))
         clear hK15
         refine creg ?_
         refine y (ev_add rfl rfl) rfl ?_
         rw [show IntKind.i64.wrap ((k:Int) + 1) = ((k+1 : Nat) : Int) by rw [wr (by omega) (by omega)]; rfl]
         refine ymv ?_
         refine ynil' (kthn ?_)
         exact ksub zsub (by rw [hsee]; exact zge) (hL1 (k + 1) (show k + 1 ≤ 2 by omega) (by omega) [(51, i64 ((k + 1 : Nat) : Int)), (50, .agg #[i64 a, i64 b]), (8, ptr b46), (0, dp q)] _ zsub .refl)
       ·(try simp only [sH] at h225)
        rw [if_neg (fun hh => absurd hh.1 (by simp [h225]))] at hsee
        refine ygz ?_
        refine ygz ?_
        refine ygz ?_
        refine ygz ?_
        refine ygz ?_
        refine ygz ?_
        refine ypb ?_
        refine ynil' (kthn (hK19 _ _ ?_))
        clear hK19
        refine ccond0 rfl ?_
        refine cskip' (kbn (kthn (hK15 _ _ ?_)))
        clear hK15
        refine creg ?_
        refine y (ev_add rfl rfl) rfl ?_
        rw [show IntKind.i64.wrap ((k:Int) + 1) = ((k+1 : Nat) : Int) by rw [wr (by omega) (by omega)]; rfl]
        refine ymv ?_
        refine ynil' (kthn ?_)
        exact ksub zsub (by rw [hsee]; exact zge) (hL1 (k + 1) (show k + 1 ≤ 2 by omega) (by omega) [(51, i64 ((k + 1 : Nat) : Int)), (50, .agg #[i64 a, i64 b]), (8, ptr b46), (0, dp q)] _ zsub .refl)
      ·(try simp only [sH] at h201)
       refine cexit (kthx (kthx (kbx (kthn ?_))))
       exact ksub zsub zge (hJ1 k ⟨hI1o, by first | trivial | omega⟩)
end W
end Go.Proofs
